/- DERIVED. Texts that OrderCovers needs. -/
import Derived.Test.YtaepieadbfndnaaCOrderCoversd
import Derived.Test.YtaepieadbfndnaaCOrderCoversc
import Derived.Deep.DeepCutAuto
import Derived.Deep.CutRange
import Derived.BigQuiet
import Derived.StillTailTactics
set_option linter.unusedVariables false
set_option linter.unusedSimpArgs false
set_option maxRecDepth 100000
set_option maxHeartbeats 64000000
namespace Go.Proofs.Ytaepieadbfndnaa
open Go.RowKit Go.Proofs.YtaepieadbfndnaaW.PrintWords Go.Proofs.YtaepieadbfndnaaW.PrintLast Go.Proofs.YtaepieadbfndnaaW.PrintMore
attribute [local go_sem] max2_int min2_int max_two min_two max_three min_three max_four min_four   -- for this text's walks alone
namespace Rot
open GAll Mem Ring Face
theorem sum_ite (c : Nat) {a : Nat} (h : a < c) : ((List.range c).map fun k => if a = k then (1 : Int) else 0).sum = 1 := by
 induction c with
 | zero => omega
 | succ c ih =>
  rw [List.range_succ, List.map_append, List.sum_append]
  by_cases e : a = c
  ·subst e
   have h0 : ((List.range a).map fun k => if a = k then (1 : Int) else 0).sum = 0 := by
    have : (List.range a).map (fun k => if a = k then (1 : Int) else 0) = (List.range a).map fun _ => (0 : Int) := List.map_congr_left fun k hk => by
     rw [List.mem_range] at hk
     exact if_neg (by omega)
    rw [this]
    clear this ih h
    induction a with
    | zero => rfl
    | succ a ih => rw [List.range_succ, List.map_append, List.sum_append, ih]; rfl
   rw [h0]; simp
  ·rw [ih (by omega)]; simp [e]
theorem sum_add (c : Nat) (f g : Nat → Int) : ((List.range c).map fun k => f k + g k).sum = ((List.range c).map f).sum + ((List.range c).map g).sum := by
 induction c with
 | zero => rfl
 | succ c ih => rw [List.range_succ, List.map_append, List.map_append, List.map_append, List.sum_append, List.sum_append, List.sum_append, ih]; simp; omega
theorem sum_congr {c : Nat} {f g : Nat → Int} (h : ∀ k, k < c → f k = g k) : ((List.range c).map f).sum = ((List.range c).map g).sum := by
 congr 1
 exact List.map_congr_left fun k hk => h k (List.mem_range.1 hk)
theorem sum_zero (c : Nat) : ((List.range c).map fun _ => (0 : Int)).sum = 0 := by
 induction c with
 | zero => rfl
 | succ c ih => rw [List.range_succ, List.map_append, List.sum_append, ih]; rfl
theorem sum_count {α : Type} (c : Nat) (g : α → Nat) : ∀ L : List α, (∀ x ∈ L, g x < c) → ((List.range c).map fun k => ((L.countP fun x => g x == k : Nat) : Int)).sum = L.length
 | [], _ => by
  simp only [List.countP_nil, List.length_nil]
  exact sum_zero c
 | a :: L, h => by
  have ih := sum_count c g L (fun x hx => h x (List.mem_cons_of_mem _ hx))
  have e : ∀ k, k < c → (((a :: L).countP fun x => g x == k : Nat) : Int) = ((L.countP fun x => g x == k : Nat) : Int) + (if g a = k then (1 : Int) else 0) := fun k _ => by
   rw [List.countP_cons]
   by_cases q : g a = k
   ·simp [q]
   ·simp [q]
  rw [sum_congr e, sum_add, ih, sum_ite c (h a (List.mem_cons_self ..))]
  simp
def num (P : List Nat) (v : Nat) : Nat := PureR.roots P (Sets.gt P v)
theorem roots_onto (P : List Nat) : ∀ n k, k < PureR.roots P n → ∃ i, i < n ∧ Sets.gt P i = i ∧ PureR.roots P i = k
 | 0, k, h => by simp [PureR.roots] at h
 | n + 1, k, h => by
  rw [PureR.roots_succ] at h
  by_cases c : k < PureR.roots P n
  ·obtain ⟨i, h1, h2⟩ := roots_onto P n k c
   exact ⟨i, by omega, h2⟩
  ·by_cases e : Sets.gt P n = n
   ·rw [if_pos e] at h
    exact ⟨n, by omega, e, by omega⟩
   ·rw [if_neg e] at h; omega
structure IsComp (n : Nat) (l : List Ed) (r : List (List Int)) (og : List Int) (c : Nat) : Prop where
 len : og.length = n
 key : ∀ k, k ∈ og ↔ 0 ≤ k ∧ k < (c : Int)
 edge : ∀ e, e < l.length → gi og (gi (frs l) (2 * e)).toNat = gi og (gi (frs l) (2 * e + 1)).toNat
 two : ∀ v w, v < n → w < n → v ≠ w → gi og v = gi og w → gl r v ≠ []
section
variable {n : Nat} {l : List Ed} {r : List (List Int)}
def ogOf (n : Nat) (l : List Ed) : List Int := (comps_Of.out (n : Int) l).1.map fun (x : Nat) => (x : Int)
theorem out_eq (n : Nat) (l : List Ed) : comps_Of.out (n : Int) l = Sets.numTo (parT n l l.length) n := by
 rw [parT_all]
 unfold comps_Of.out
 rw [Int.toNat_natCast]
 rfl
theorem parts_sets (n : Nat) (l : List Ed) : parts n l = Sets.sets (parT n l l.length) := by
 unfold parts
 rw [out_eq]
 have h := parT_part n l l.length
 have := Sets.numTo_all h
 rw [h.len] at this
 exact this
theorem parts_roots (n : Nat) (l : List Ed) : parts n l = PureR.roots (parT n l l.length) n := by
 unfold parts
 rw [out_eq]
 exact Sets.numTo_sets (parT_part n l l.length) n (Nat.le_refl _)
theorem gi_og {v : Nat} (hv : v < n) : gi (ogOf n l) v = (num (parT n l l.length) v : Int) := by
 have h := PureR.num_at (parT_part n l l.length) n (Nat.le_refl _) v hv
 have hl := Sets.numTo_length (parT n l l.length) n
 unfold ogOf
 rw [out_eq]
 unfold num
 rw [← h]
 unfold gi Sets.gt
 rw [List.getD_eq_getElem?_getD, List.getD_eq_getElem?_getD, List.getElem?_map, List.getElem?_eq_getElem (by rw [hl]; exact hv)]
 rfl
theorem conn_edge {es : List (Int × Int)} {v w : Nat} (h : Sets.Conn (Sets.EP n es) v w) : v = w ∨ ∃ x, Sets.EP n es v x ∨ Sets.EP n es x v := by
 induction h with
 | refl => exact .inl rfl
 | fwd _ e ih =>
  rcases ih with rfl | ih
  ·exact .inr ⟨_, .inl e⟩
  ·exact .inr ih
 | bwd _ e ih =>
  rcases ih with rfl | ih
  ·exact .inr ⟨_, .inr e⟩
  ·exact .inr ih
theorem IsMap.row_ne (hm : IsMap n l r) {v h : Nat} (hv : v < n) (hh : h < 2 * l.length) (e : gi (frs l) h = (v : Int)) : gl r v ≠ [] := by
 intro q
 have := (hm.row_at hv).2 ⟨hh, e⟩
 rw [q] at this
 cases this
theorem IsMap.row_of (hm : IsMap n l r) {v : Nat} (hv : v < n) (h : gl r v ≠ []) : ∃ h, h < 2 * l.length ∧ gi (frs l) h = (v : Int) := by
 obtain ⟨x, hx⟩ := List.exists_mem_of_ne_nil (fN (gl r v)) (by unfold fN; simpa using h)
 exact ⟨x, (hm.row_at hv).1 hx⟩
theorem IsMap.comp (hm : IsMap n l r) : IsComp n l r (ogOf n l) (parts n l) := by
 have hP := parT_part n l l.length
 rw [List.take_of_length_le (by rw [ends_length]; exact Nat.le_refl _)] at hP
 have hlen : (ogOf n l).length = n := by unfold ogOf; rw [List.length_map, out_eq]; exact Sets.numTo_length _ _
 refine ⟨hlen, fun k => ⟨fun hk => ?_, fun hk => ?_⟩, fun e he => ?_, fun v w hv hw hne e => ?_⟩
 ·obtain ⟨v, hv, rfl⟩ := List.getElem_of_mem hk
  have hvn : v < n := by omega
  have e : (ogOf n l)[v] = gi (ogOf n l) v := (gi_get0 hv).symm
  rw [e, gi_og hvn, parts_roots]
  have := PureR.roots_lt (n := n) (m := parT n l l.length) (hP.lt hvn) (hP.idem hvn)
  unfold num
  omega
 ·obtain ⟨j, rfl⟩ := Int.eq_ofNat_of_zero_le hk.1
  have hj : j < PureR.roots (parT n l l.length) n := by rw [← parts_roots]; omega
  obtain ⟨i, h1, h2, h3⟩ := roots_onto _ n j hj
  have e : (j : Int) = gi (ogOf n l) i := by rw [gi_og h1]; unfold num; rw [h2, h3]
  rw [e, gi_get0 (by omega)]
  exact List.getElem_mem _
 ·obtain ⟨u, v, epe, hu, hv, huv, e1, e2⟩ := ends_in hm.good he
  rw [e1, e2, Int.toNat_natCast, Int.toNat_natCast, gi_og hu, gi_og hv]
  have : Sets.EP n (ends l) u v := ⟨hu, hv, by rw [← epe]; exact Sets.pe_mem (by rw [ends_length]; exact he)⟩
  unfold num
  rw [hP.edge u v this]
 ·rw [gi_og hv, gi_og hw] at e
  have h1 := PureR.roots_inj (parT n l l.length) (hP.idem hv) (hP.idem hw) (by unfold num at e; omega)
  rcases conn_edge ((hP.iff hv hw).1 h1) with q | ⟨x, q | q⟩
  ·exact absurd q hne
  ·obtain ⟨_, hx, hmem⟩ := q
   obtain ⟨j, hj, ej⟩ := Sets.mem_pe hmem
   rw [ends_length] at hj
   obtain ⟨u, v', epe, hu, hv', huv, e1, e2⟩ := ends_in hm.good hj
   rw [ej] at epe
   simp only [Prod.mk.injEq] at epe
   exact hm.row_ne hv (h := 2 * j) (by omega) (by rw [e1]; omega)
  ·obtain ⟨hx, _, hmem⟩ := q
   obtain ⟨j, hj, ej⟩ := Sets.mem_pe hmem
   rw [ends_length] at hj
   obtain ⟨u, v', epe, hu, hv', huv, e1, e2⟩ := ends_in hm.good hj
   rw [ej] at epe
   simp only [Prod.mk.injEq] at epe
   exact hm.row_ne hv (h := 2 * j + 1) (by omega) (by rw [e2]; omega)
def cv (og : List Int) (v : Nat) : Nat := (gi og v).toNat
def ch (og : List Int) (l : List Ed) (h : Nat) : Nat := cv og (gi (frs l) h).toNat
theorem IsComp.cls {og : List Int} {c : Nat} (h : IsComp n l r og c) : Cls n l (ch og l) (cv og) := ⟨fun _ _ => rfl, fun e he => by unfold ch cv; rw [h.edge e he]⟩
theorem IsComp.cv {og : List Int} {c : Nat} (h : IsComp n l r og c) {v : Nat} (hv : v < n) : gi og v = (cv og v : Int) ∧ cv og v < c := by
 have h1 : gi og v ∈ og := by rw [gi_get0 (by rw [h.len]; exact hv)]; exact List.getElem_mem _
 have := (h.key _).1 h1
 unfold Rot.cv
 omega
theorem pe_frs {j : Nat} (hj : j < l.length) : (pe (ends l) j).1 = gi (frs l) (2 * j) := by rw [pe_ends hj, frs_even hj]
theorem countP_range_map {α : Type} (L : List α) (d : α) (p : α → Bool) : L.countP p = (List.range L.length).countP fun i => p (L.getD i d) := by
 have e : L = (List.range L.length).map fun i => L.getD i d := by
  apply List.ext_getElem
  ·simp
  ·intro i h1 h2
   simp [List.getD_eq_getElem?_getD, h1]
 conv => lhs; rw [e]
 rw [List.countP_map]
 rfl
theorem IsComp.ni {og : List Int} {c : Nat} (h : IsComp n l r og c) (k : Nat) : Cnt.cntTo og og.length (k : Int) = ((List.range n).countP fun v => Rot.cv og v == k : Nat) := by
 unfold Cnt.cntTo
 rw [List.take_length, countP_range_map og 0, h.len]
 congr 1
 refine List.countP_congr fun v hv => ?_
 rw [List.mem_range] at hv
 have := (h.cv hv).1
 show (gi og v == (k : Int)) = true ↔ _
 rw [this, beq_iff_eq, beq_iff_eq]
 omega
theorem IsComp.mi {og : List Int} {c : Nat} (h : IsComp n l r og c) (hm : IsMap n l r) (k : Nat) : Cnt.cntTo (Cnt.ksE og (ends l)) (ends l).length (k : Int) = ((List.range l.length).countP fun e => ch og l (2 * e) == k : Nat) := by
 unfold Cnt.cntTo
 have e : (Cnt.ksE og (ends l)).length = (ends l).length := by unfold Cnt.ksE; simp
 rw [List.take_of_length_le (by omega), countP_range_map _ 0, e, ends_length]
 congr 1
 refine List.countP_congr fun j hj => ?_
 rw [List.mem_range] at hj
 have h1 := frs_range hm.good (h := 2 * j) (by omega)
 have h2 := (h.cv (v := (gi (frs l) (2 * j)).toNat) (by omega)).1
 have h3 := Cnt.gi_ksE og (ends l) (j := j) (by rw [ends_length]; exact hj)
 show (gi (Cnt.ksE og (ends l)) j == (k : Int)) = true ↔ _
 rw [h3, pe_frs hj, h2, beq_iff_eq, beq_iff_eq]
 unfold ch
 omega
theorem IsComp.fi {og : List Int} {c : Nat} (h : IsComp n l r og c) (hm : IsMap n l r) {F : List (List Nat)} (hF : Faces (stf l r) (2 * l.length) F) (k : Nat) : Cnt.cntTo (Cnt.ksF og (ends l) (F.map zN)) (F.map zN).length (k : Int) = (F.countP fun L => ch og l (L.headD 0) == k : Nat) := by
 unfold Cnt.cntTo Cnt.ksF
 rw [List.take_of_length_le (by simp), List.map_map, List.countP_map]
 congr 1
 refine List.countP_congr fun L hL => ?_
 have hr := hF.dec.ring L hL
 have hx : L.headD 0 ∈ L := by
  cases L with
  | nil => exact absurd rfl hr.1
  | cons a t => simp
 have hlt : L.headD 0 < 2 * l.length := by
  have := hF.perm.mem_iff.1 (List.mem_flatten.2 ⟨L, hL, hx⟩)
  rw [List.mem_range] at this
  exact this
 have e0 : gi (zN L) 0 = (L.headD 0 : Int) := by
  cases L with
  | nil => exact absurd rfl hr.1
  | cons a t => rfl
 have hj : L.headD 0 / 2 < l.length := by omega
 have h1 := frs_range hm.good (h := 2 * (L.headD 0 / 2)) (by omega)
 have h2 := (h.cv (v := (gi (frs l) (2 * (L.headD 0 / 2))).toNat) (by omega)).1
 have h3 : ch og l (2 * (L.headD 0 / 2)) = ch og l (L.headD 0) := by
  rcases Nat.mod_two_eq_zero_or_one (L.headD 0) with q | q
  ·rw [show 2 * (L.headD 0 / 2) = L.headD 0 by omega]
  ·have := h.cls.edge _ hj
   rw [show 2 * (L.headD 0 / 2) + 1 = L.headD 0 by omega] at this
   exact this
 show (gi og (pe (ends l) ((gi (zN L) 0).toNat / 2)).1.toNat == (k : Int)) = true ↔ _
 rw [e0, Int.toNat_natCast, pe_frs hj, h2, ← h3, beq_iff_eq, beq_iff_eq]
 unfold ch
 omega
theorem pick_rows (hm : IsMap n l r) (og : List Int) (k : Nat) : (pick (ch og l) k (full (rowsN r))).length + (List.range n).countP (fun v => (gl r v).isEmpty && (Rot.cv og v == k)) = (List.range n).countP (fun v => Rot.cv og v == k) := by
 have h1 : (pick (ch og l) k (full (rowsN r))).length = (List.range n).countP (fun v => !(gl r v).isEmpty && (Rot.cv og v == k)) := by
  unfold pick full rowsN
  rw [List.filter_filter, ← List.countP_eq_length_filter, List.countP_map, countP_range_map r [], hm.rot.len]
  refine List.countP_congr fun v hv => ?_
  rw [List.mem_range] at hv
  show ((ch og l ((fN (gl r v)).headD 0) == k) && !(fN (gl r v)).isEmpty) = true ↔ _
  cases hrow : gl r v with
  | nil => simp [fN]
  | cons x t =>
   have hx : x.toNat ∈ fN (gl r v) := by rw [hrow]; simp [fN]
   have := ((hm.row_at hv).1 hx).2
   have e : ch og l ((fN (x :: t)).headD 0) = Rot.cv og v := by
    show Rot.cv og (gi (frs l) x.toNat).toNat = _
    rw [this, Int.toNat_natCast]
   rw [e]
   simp [fN]
 rw [h1]
 have key : ∀ L : List Nat, L.countP (fun v => !(gl r v).isEmpty && (Rot.cv og v == k)) + L.countP (fun v => (gl r v).isEmpty && (Rot.cv og v == k)) = L.countP (fun v => Rot.cv og v == k) := by
  intro L
  induction L with
  | nil => rfl
  | cons a L ih =>
   rw [List.countP_cons, List.countP_cons, List.countP_cons]
   cases (gl r a).isEmpty <;> cases (Rot.cv og a == k) <;> simp <;> omega
 exact key _
theorem countP_pos {α : Type} {p : α → Bool} {L : List α} : 0 < L.countP p ↔ ∃ x ∈ L, p x = true := List.countP_pos_iff
theorem countP_le_one {p : Nat → Bool} : ∀ (L : List Nat), L.Nodup → (∀ x ∈ L, ∀ y ∈ L, p x = true → p y = true → x = y) → L.countP p ≤ 1
 | [], _, _ => by simp
 | a :: L, hn, h => by
  rw [List.nodup_cons] at hn
  have ih := countP_le_one L hn.2 (fun x hx y hy => h x (List.mem_cons_of_mem _ hx) y (List.mem_cons_of_mem _ hy))
  rw [List.countP_cons]
  by_cases c : p a = true
  ·have h0 : L.countP p = 0 := by
    rw [List.countP_eq_zero]
    intro x hx hp
    have := h a (List.mem_cons_self ..) x (List.mem_cons_of_mem _ hx) c hp
    exact hn.1 (by rw [this]; exact hx)
   rw [h0, if_pos c]
   exact Nat.le_refl _
  ·rw [if_neg c]; omega
theorem IsComp.one {og : List Int} {c : Nat} (h : IsComp n l r og c) (hm : IsMap n l r) {F : List (List Nat)} (hF : Faces (stf l r) (2 * l.length) F) {k : Nat} (hk : k < c) {ni mi fi ii : Nat}
  (h1 : ni = (List.range n).countP fun v => Rot.cv og v == k) (h2 : mi = (List.range l.length).countP fun e => ch og l (2 * e) == k) (h3 : fi = F.countP fun L => ch og l (L.headD 0) == k) (h4 : ii = (List.range n).countP fun v => (gl r v).isEmpty && (Rot.cv og v == k)) :
  2 * Cnt.term (ni : Int) (mi : Int) (fi : Int) = 2 - (ni : Int) + mi - fi - ii := by
 have hev := class_even hm hF h.cls k
 have hpr := pick_rows hm og k
 have hpf : (pick (ch og l) k F).length = fi := by rw [h3]; unfold pick; rw [← List.countP_eq_length_filter]
 rw [hpf, ← h2] at hev
 rw [← h4, ← h1] at hpr
 have hedge : ∀ x, x < 2 * l.length → ch og l x = k → 0 < mi := fun x hx e => by
  rw [h2, countP_pos]
  refine ⟨x / 2, by rw [List.mem_range]; omega, ?_⟩
  rw [beq_iff_eq, ← e]
  rcases Nat.mod_two_eq_zero_or_one x with q | q
  ·rw [show 2 * (x / 2) = x by omega]
  ·have := h.cls.edge (x / 2) (by omega)
   rw [show 2 * (x / 2) + 1 = x by omega] at this
   exact this
 have hrow : ∀ v, v < n → Rot.cv og v = k → gl r v ≠ [] → 0 < mi := fun v hv e hne => by
  obtain ⟨x, hx, ex⟩ := hm.row_of hv hne
  exact hedge x hx (by unfold ch; rw [ex, Int.toNat_natCast]; exact e)
 have htwo : ∀ v w, v < n → w < n → v ≠ w → Rot.cv og v = Rot.cv og w → gl r v ≠ [] := fun v w hv hw hne e => h.two v w hv hw hne (by rw [(h.cv hv).1, (h.cv hw).1, e])
 by_cases c0 : 0 < mi
 ·have hi0 : ii = 0 := by
   rw [h4, List.countP_eq_zero]
   intro v hv
   rw [List.mem_range] at hv
   intro q
   rw [Bool.and_eq_true, beq_iff_eq, List.isEmpty_iff] at q
   rw [h2, countP_pos] at c0
   obtain ⟨e, he, ee⟩ := c0
   rw [List.mem_range] at he
   rw [beq_iff_eq] at ee
   have hfr := frs_range hm.good (h := 2 * e) (by omega)
   obtain ⟨u, hu⟩ := Int.eq_ofNat_of_zero_le hfr.1
   by_cases cu : u = v
   ·subst cu
    exact hm.row_ne hv (h := 2 * e) (by omega) hu q.1
   ·exact htwo v u hv (by omega) (fun x => cu x.symm) (by
     rw [q.2, ← ee]
     unfold ch
     rw [hu]; rfl) q.1
  unfold Cnt.term
  rw [if_pos (by omega), Cnt.tdiv2]
  split <;> omega
 ·have hn1 : ni = 1 := by
   have hle : ni ≤ 1 := by
    rw [h1]
    refine countP_le_one _ List.nodup_range (fun x hx y hy px py => Decidable.byContradiction fun hne => ?_)
    rw [List.mem_range] at hx hy
    rw [beq_iff_eq] at px py
    exact c0 (hrow x hx px (htwo x y hx hy hne (by rw [px, py])))
   have hge : 0 < ni := by
    rw [h1, countP_pos]
    have hmem := (h.key (k : Int)).2 ⟨by omega, by omega⟩
    obtain ⟨v, hv, e⟩ := List.getElem_of_mem hmem
    rw [← gi_get0 hv] at e
    refine ⟨v, by rw [List.mem_range, ← h.len]; exact hv, ?_⟩
    rw [beq_iff_eq]
    unfold Rot.cv
    rw [e]; rfl
   omega
  have hii : ii = ni := by
   rw [h4, h1]
   refine List.countP_congr fun v hv => ?_
   rw [List.mem_range] at hv
   rw [Bool.and_eq_true, beq_iff_eq, List.isEmpty_iff]
   refine ⟨fun q => q.2, fun q => ⟨Decidable.byContradiction fun hne => c0 (hrow v hv q hne), q⟩⟩
  have hfi : fi = 0 := by
   rw [h3, List.countP_eq_zero]
   intro L hL q
   rw [beq_iff_eq] at q
   have hr := hF.dec.ring L hL
   have hx : L.headD 0 ∈ L := by
    cases L with
    | nil => exact absurd rfl hr.1
    | cons a t => simp
   have := hF.perm.mem_iff.1 (List.mem_flatten.2 ⟨L, hL, hx⟩)
   rw [List.mem_range] at this
   exact c0 (hedge _ this q)
  unfold Cnt.term
  rw [if_neg (by omega)]
  omega
theorem IsComp.lt {og : List Int} {c : Nat} (h : IsComp n l r og c) (hm : IsMap n l r) {x : Nat} (hx : x < 2 * l.length) : ch og l x < c := by
 have := frs_range hm.good hx
 exact (h.cv (v := (gi (frs l) x).toNat) (by omega)).2
theorem lone_count (hm : IsMap n l r) : lone r = (List.range n).countP fun v => (gl r v).isEmpty := by
 unfold lone
 rw [countP_range_map r [], hm.rot.len]
 rfl
theorem IsComp.twice {og : List Int} {c : Nat} (h : IsComp n l r og c) (hm : IsMap n l r) {F : List (List Nat)} (hF : Faces (stf l r) (2 * l.length) F) :
  2 * Cnt.genusSum og (ends l) (F.map zN) c = 2 * (c : Int) - n + l.length - F.length - lone r := by
 have e2 : ∀ (f : Nat → Int), 2 * ((List.range c).map f).sum = ((List.range c).map fun k => 2 * f k).sum := fun f => by
  have := sum_add c f f
  rw [show (fun k => 2 * f k) = fun k => f k + f k from funext fun k => by omega, this]
  omega
 unfold Cnt.genusSum
 rw [e2]
 have hone : ∀ k, k < c → 2 * Cnt.term (Cnt.cntTo og og.length (k : Int)) (Cnt.cntTo (Cnt.ksE og (ends l)) (ends l).length (k : Int)) (Cnt.cntTo (Cnt.ksF og (ends l) (F.map zN)) (F.map zN).length (k : Int)) =
   ((2 + -(((List.range n).countP fun v => Rot.cv og v == k : Nat) : Int)) + ((List.range l.length).countP fun e => ch og l (2 * e) == k : Nat)) + (-((F.countP fun L => ch og l (L.headD 0) == k : Nat) : Int) + -(((List.range n).countP fun v => (gl r v).isEmpty && (Rot.cv og v == k) : Nat) : Int)) := fun k hk => by
  rw [h.ni k, h.mi hm k, h.fi hm hF k, h.one hm hF hk rfl rfl rfl rfl]
  omega
 rw [sum_congr hone, sum_add, sum_add, sum_add, sum_add]
 have neg : ∀ (f : Nat → Int), ((List.range c).map fun k => -(f k)).sum = -((List.range c).map f).sum := fun f => by
  have := sum_add c (fun k => -(f k)) f
  rw [sum_congr (f := fun k => -(f k) + f k) (g := fun _ => 0) (fun k _ => by omega), sum_zero] at this
  omega
 rw [neg, neg, neg]
 have s1 := sum_count c (fun v => Rot.cv og v) (List.range n) (fun v hv => (h.cv (List.mem_range.1 hv)).2)
 have s2 := sum_count c (fun e => ch og l (2 * e)) (List.range l.length) (fun e he => h.lt hm (by rw [List.mem_range] at he; omega))
 have s3 := sum_count c (fun L : List Nat => ch og l (L.headD 0)) F (fun L hL => by
  have hr := hF.dec.ring L hL
  have hx : L.headD 0 ∈ L := by
   cases L with
   | nil => exact absurd rfl hr.1
   | cons a t => simp
  have := hF.perm.mem_iff.1 (List.mem_flatten.2 ⟨L, hL, hx⟩)
  rw [List.mem_range] at this
  exact h.lt hm this)
 have s4 : ((List.range c).map fun k => (((List.range n).countP fun v => (gl r v).isEmpty && (Rot.cv og v == k) : Nat) : Int)).sum = (lone r : Int) := by
  have := sum_count c (fun v => Rot.cv og v) ((List.range n).filter fun v => (gl r v).isEmpty) (fun v hv => (h.cv (List.mem_range.1 (List.mem_filter.1 hv).1)).2)
  rw [← List.countP_eq_length_filter, ← lone_count hm] at this
  rw [← this]
  refine sum_congr fun k _ => ?_
  rw [List.countP_filter]
  congr 1
  refine List.countP_congr fun v _ => ?_
  rw [Bool.and_comm]
 have s5 : ((List.range c).map fun _ => (2 : Int)).sum = 2 * (c : Int) := by
  have : ∀ q : Nat, ((List.range q).map fun _ => (2 : Int)).sum = 2 * (q : Int) := fun q => by
   induction q with
   | zero => rfl
   | succ q ih => rw [List.range_succ, List.map_append, List.sum_append, ih]; simp; omega
  exact this c
 rw [List.length_range] at s1 s2
 rw [s1, s2, s3, s4, s5]
 omega
end
end Rot
namespace GAll
def faces_Genus.told (l : List S41) (fs : List (List Int)) (o : List Int × Int × Int) : Option (Int × Int) :=
 if o.2.2 = 0 ∧ 0 ≤ o.2.1 ∧ Cnt.fitB o.1 (l.map fun x => (x.f0, x.f1)) fs o.2.1.toNat = true then some (Cnt.genusSum o.1 (l.map fun x => (x.f0, x.f1)) fs o.2.1.toNat, 0) else none
def faces_Genus.f (k : Nat) (a0_0 : Int) (l0_1 : List S41) (l1 : List (List Int)) : Option (Int × Int) := (faces_Of.f k a0_0 l0_1 l1).bind fun t => if t.2 = 0 then (comps_Of.f k a0_0 l0_1).bind fun o => faces_Genus.told l0_1 t.1 o else some (0, t.2)
theorem faces_Genus.mono : ∀ a0 a1 a2 k, LeO (faces_Genus.f k a0 a1 a2) (faces_Genus.f (k + 1) a0 a1 a2) := by
 intro a0 a1 a2 k
 unfold faces_Genus.f
 exact LeO.bind (faces_Of.mono _ _ _ _) (fun _ => LeO.ite (LeO.bind (comps_Of.mono _ _ _) (fun _ => LeO.refl _)) (LeO.refl _))
theorem faces_Genus.calls (k : Nat) (a0_0 : Int) (A0_1 : Option Addr) (c0_1 : Nat) (l0_1 : List (S41)) (A1 : Option Addr) (c1 : Nat) (l1 : List (List Int)) (r1 : Int) (r2 : Int) (w : World) (hr0_1 : Kd.C k41 w A0_1 l0_1.length l0_1) (hc0_1 : l0_1.length ≤ c0_1) (hr1 : Kd.C (Kd.slice 3 (Kd.int .i64)) w A1 l1.length l1) (hc1 : l1.length ≤ c1) (h : faces_Genus.f k a0_0 l0_1 l1 = some (r1, r2)) :
  Calls Try.prog 56 #[.agg #[.int .i64 a0_0, .slice A0_1 l0_1.length c0_1], .slice A1 l1.length c1] w fun e w' => e = .returned (.tuple #[.int .i64 r1, .int .i64 r2]) ∧ Below w.heap.size w w' := by
 obtain ⟨⟨fs, e0⟩, ht, h⟩ := Option.bind_eq_some_iff.mp h
 have hof : Cnt.OfSays fs e0 a0_0 A0_1 l0_1.length c0_1 A1 l1.length c1 w := fun W hW => (faces_Of.calls k a0_0 A0_1 c0_1 l0_1 A1 c1 l1 fs e0 W (Kd.C_below hr0_1 hW) hc0_1 (Kd.C_below hr1 hW) hc1 ht).mono fun e w' ⟨v, h1, h2, h3⟩ => ⟨v, h1, Kd.S_R h2, h3⟩
 by_cases he : e0 = 0
 ·subst he
  rw [if_pos rfl] at h
  obtain ⟨⟨og, cn, e1⟩, hc, h⟩ := Option.bind_eq_some_iff.mp h
  unfold faces_Genus.told at h
  by_cases hf : (og, cn, e1).2.2 = 0 ∧ 0 ≤ (og, cn, e1).2.1 ∧ Cnt.fitB (og, cn, e1).1 (l0_1.map fun x => (x.f0, x.f1)) fs (og, cn, e1).2.1.toNat = true
  ·rw [if_pos hf] at h
   obtain ⟨rfl, rfl⟩ : Cnt.genusSum og (l0_1.map fun x => (x.f0, x.f1)) fs cn.toNat = r1 ∧ 0 = r2 := by simpa using h
   obtain ⟨g1, g2, g3⟩ := hf
   simp only at g1 g2 g3
   subst g1
   obtain ⟨c, rfl⟩ := Int.eq_ofNat_of_zero_le g2
   have hco : Cnt.CompsSays og c a0_0 A0_1 l0_1.length c0_1 w := fun W hW => (comps_Of.calls k a0_0 A0_1 c0_1 l0_1 og _ 0 W (Kd.C_below hr0_1 hW) hc0_1 hc).mono fun e w' ⟨v, h1, h2, h3⟩ => ⟨v, h1, h2, h3⟩
   obtain ⟨es, hes⟩ : ∃ es : List (Int × Int), es = l0_1.map fun x => (x.f0, x.f1) := ⟨_, rfl⟩
   have hp : Sets.Pairs w A0_1 es := by rw [hes]; exact comps_Of.pairs hr0_1
   have hp2 : Mem.Pairs w A0_1 es := fun i hi => hp i hi
   have hl : l0_1.length = es.length := by rw [hes, List.length_map]
   rw [← hes] at g3 ⊢
   exact Cnt.genus_ok a0_0 A0_1 es l0_1.length c0_1 A1 l1.length c1 fs og c w hl hp2 (Cnt.fit_of.1 g3) hof hco
  ·rw [if_neg hf] at h; cases h
 ·rw [if_neg he] at h
  obtain ⟨rfl, rfl⟩ : (0 : Int) = r1 ∧ e0 = r2 := by simpa using h
  exact Cnt.genus_bad a0_0 A0_1 l0_1.length c0_1 A1 l1.length c1 e0 he fs w hof
end GAll
namespace GAll
def faces_Flat.f (k : Nat) (a0_0 : Int) (l0_1 : List (S41)) (l1 : List (List Int)) : Option (Bool) := (faces_Genus.f k a0_0 l0_1 l1).bind fun bt148 => (if bt148.2 = 0 then (some (bt148.1 == 0)) else (some false))
theorem faces_Flat.mono : ∀ a0 a1 a2 k, LeO (faces_Flat.f k a0 a1 a2) (faces_Flat.f (k + 1) a0 a1 a2) := by
 intro a0 a1 a2 k
 unfold faces_Flat.f
 repeat' first
   | (with_reducible exact faces_Genus.mono _ _ _ _)
   | (with_reducible exact LeO.refl _)
   | (with_reducible exact LeO.none _)
   | (with_reducible refine LeO.ite ?_ ?_)
   | (with_reducible refine LeO.bind ?_ (fun _ => ?_))
theorem faces_Flat.calls (k : Nat) (a0_0 : Int) (A0_1 : Option Addr) (c0_1 : Nat) (l0_1 : List (S41)) (A1 : Option Addr) (c1 : Nat) (l1 : List (List Int)) (r : Bool) (w : World) (hr0_1 : Kd.C k41 w A0_1 l0_1.length l0_1) (hc0_1 : l0_1.length ≤ c0_1) (hr1 : Kd.C (Kd.slice 3 (Kd.int .i64)) w A1 l1.length l1) (hc1 : l1.length ≤ c1) (h : faces_Flat.f k a0_0 l0_1 l1 = some r) :
  Calls Try.prog 44 #[.agg #[.int .i64 a0_0, .slice A0_1 l0_1.length c0_1], .slice A1 l1.length c1] w fun e w' => e = .returned (.bool r) ∧ Below w.heap.size w w' := by
 have hu24 := Try.underlying24
 have HR0_1 := Aside0.mk hr0_1
 have HC0_1 := Aside0.mk hc0_1
 clear hr0_1 hc0_1
 have HR1 := Aside0.mk hr1
 have HC1 := Aside0.mk hc1
 clear hr1 hc1
 have HB := Aside0.mk (Below.refl w.heap.size w)
 have H : ((faces_Genus.f k a0_0 l0_1 l1).bind fun bt148 => (if bt148.2 = 0 then (some (bt148.1 == 0)) else (some false))) = some r := h
 clear h
 replace H := Option.bind_eq_some_iff.mp H
 obtain ⟨⟨t148, t149⟩, A30, H⟩ := H
 have A3 := Aside0.mk A30
 clear A30
 by_cases c4 : t149 = 0
 ·rw [if_pos c4] at H
  have c4b0 : (t149 == 0) = true := beq_iff_eq.mpr c4
  have c4b1 : (t149 != 0) = false := bne_eq_false_iff_eq.mpr c4
  clear c4
  obtain rfl := Option.some.inj H
  go_enter Try.func44, Try.ntmps44
  go_wp2_with (first | ((with_reducible refine gate_dst (N := 2) rfl ?_); refine bx9 (N := 2) (cs := #[.int .i64 a0_0, .slice A0_1 l0_1.length c0_1]) (t := 24) ?_; intro gb147 hg w5 hbox hb; have BK147 := Aside0.mk (hbox); have GW147 := gw9 HB hg; have GE147 := gw9 HB hg; replace HB := bs9 HB hb; clear hb hbox hg; have hcz6_0 := cz9 BK147 0; have hcz6_1 := cz9 BK147 1; have hfz6_0 := blk_frozen BK147.out 0; have hfz6_1 := blk_frozen BK147.out 1) | ((with_reducible refine gate_callee (f := 56) rfl ?_); refine gL9 (some 10) Try.func56 #[.agg #[.int .i64 a0_0, .slice A0_1 l0_1.length c0_1], .slice A1 l1.length c1] ?_; (with_reducible refine (faces_Genus.calls k a0_0 _ _ l0_1 _ _ l1 t148 t149 _ ?side1 ?side2 ?side3 ?side4 A3.out).mono ?_); (case side1 => exact cb9 HR0_1 HB); (case side2 => exact HC0_1.out); (case side3 => exact cb9 HR1 HB); (case side4 => exact HC1.out); rintro e w7 ⟨rfl, hb⟩; refine ⟨_, rfl, ?_⟩; replace BK147 := bb9 BK147 hb; replace HB := bs9 HB hb; (try clear hb)))
  go_ret
  exact ⟨er9, bl9 HB⟩
 ·rw [if_neg c4] at H
  have c4b0 : (t149 == 0) = false := beq_eq_false_iff_ne.mpr c4
  have c4b1 : (t149 != 0) = true := bne_iff_ne.mpr c4
  obtain rfl := Option.some.inj H
  go_enter Try.func44, Try.ntmps44
  go_wp2_with (first | ((with_reducible refine gate_dst (N := 2) rfl ?_); refine bx9 (N := 2) (cs := #[.int .i64 a0_0, .slice A0_1 l0_1.length c0_1]) (t := 24) ?_; intro gb147 hg w8 hbox hb; have BK147 := Aside0.mk (hbox); have GW147 := gw9 HB hg; have GE147 := gw9 HB hg; replace HB := bs9 HB hb; clear hb hbox hg; have hcz9_0 := cz9 BK147 0; have hcz9_1 := cz9 BK147 1; have hfz9_0 := blk_frozen BK147.out 0; have hfz9_1 := blk_frozen BK147.out 1) | ((with_reducible refine gate_callee (f := 56) rfl ?_); refine gL9 (some 10) Try.func56 #[.agg #[.int .i64 a0_0, .slice A0_1 l0_1.length c0_1], .slice A1 l1.length c1] ?_; (with_reducible refine (faces_Genus.calls k a0_0 _ _ l0_1 _ _ l1 t148 t149 _ ?side1 ?side2 ?side3 ?side4 A3.out).mono ?_); (case side1 => exact cb9 HR0_1 HB); (case side2 => exact HC0_1.out); (case side3 => exact cb9 HR1 HB); (case side4 => exact HC1.out); rintro e w10 ⟨rfl, hb⟩; refine ⟨_, rfl, ?_⟩; replace BK147 := bb9 BK147 hb; replace HB := bs9 HB hb; (try clear hb)))
  go_ret
  exact ⟨er9, bl9 HB⟩
end GAll
namespace Rot
open GAll Mem Ring Face
section
variable {n : Nat} {l : List Ed} {r : List (List Int)}
theorem comps_ev (hg : PureV.Good (n : Int) l) : Ev (fun k => comps_Of.f k (n : Int) l) (ogOf n l, (parts n l : Int), 0) := by
 obtain ⟨b, h1, h2, h3⟩ := PureV.valid (n : Int) l
 rw [h3.2 hg] at h1
 unfold comps_Of.f
 exact Ev.bind h1 (Ev.congr (fun k => if_pos rfl) (Ev.congr (fun k => if_pos ⟨hg.1, hg.2.1⟩) (Ev.now _)))
theorem parts_le (hg : PureV.Good (n : Int) l) : parts n l ≤ n := by
 rw [parts_sets]
 have h := Sets.sets_le (parT n l l.length)
 have := (parT_part n l l.length).len
 omega
theorem IsMap.fitG (hm : IsMap n l r) : Cnt.fitB (ogOf n l) (ends l) (facesL (stOf l r)) (parts n l) = true := by
 obtain ⟨F, e, hF⟩ := hm.faces
 have hc := hm.comp
 have hl := hm.lists
 have hp := parts_le hm.good
 have hg := hm.good
 refine Cnt.fit_of.2 ⟨by have := hg.2.1; omega, by rw [hc.len]; have := hg.2.1; omega, by rw [ends_length]; exact hg.2.2.1, hl.1, hc.key, fun j hj => ?_, fun q hq => ?_⟩
 ·rw [ends_length] at hj
  obtain ⟨⟨a, b, c⟩, _⟩ := hg.2.2.2 j hj
  rw [pe_ends hj, hc.len]
  simp only
  omega
 ·rw [e, List.length_map] at hq
  have e2 : gl (facesL (stOf l r)) q = zN F[q] := by
   rw [e]
   unfold gl
   rw [List.getD_eq_getElem?_getD, List.getElem?_map, List.getElem?_eq_getElem hq]
   rfl
  rw [e2]
  have hL : F[q] ∈ F := List.getElem_mem hq
  have hr := hF.dec.ring _ hL
  generalize F[q] = L at hL hr
  cases L with
  | nil => exact absurd rfl hr.1
  | cons a t =>
   have := faces_mem hm hF hL a (List.mem_cons_self ..)
   refine ⟨by simp [zN], ?_⟩
   show 0 ≤ (a : Int) ∧ (a : Int) < _
   rw [ends_length]
   omega
def genus (n : Nat) (l : List Ed) (r : List (List Int)) : Int := Cnt.genusSum (ogOf n l) (ends l) (facesL (stOf l r)) (parts n l)
theorem IsMap.genus_eq (hm : IsMap n l r) : 2 * genus n l r = 2 * (parts n l : Int) - n + l.length - (facesL (stOf l r)).length - lone r := by
 obtain ⟨F, e, hF⟩ := hm.faces
 have := hm.comp.twice hm hF
 unfold genus
 rw [e, this, List.length_map]
theorem IsMap.genus_pos (hm : IsMap n l r) : 0 ≤ genus n l r := by
 obtain ⟨F, e, hF⟩ := hm.faces
 have h1 := hm.genus_eq
 have h2 := faces_le hm hF
 rw [e, List.length_map] at h1
 rw [← parts_sets] at h2
 omega
theorem IsMap.genus_bound (hm : IsMap n l r) : genus n l r ≤ 9000000 := by
 have h1 := hm.genus_eq
 have h2 := parts_le hm.good
 have h3 := hm.good.2.1
 have h4 := hm.good.2.2.1
 omega
theorem genus_ok (hm : IsMap n l r) (h : Ev (fun k => rot_Check.f k (n : Int) l r) (0, 0)) : Ev (fun k => faces_Genus.f k (n : Int) l r) (genus n l r, 0) := by
 unfold faces_Genus.f
 refine Ev.bind (of_ok hm h) (Ev.congr (fun k => if_pos rfl) (Ev.bind (comps_ev hm.good) (Ev.congr (fun k => ?_) (Ev.now _))))
 unfold faces_Genus.told
 simp only
 rw [Int.toNat_natCast]
 exact if_pos ⟨trivial, by omega, hm.fitG⟩
theorem genus_bad {v e : Int} {a : Int} (he : e ≠ 0) (h : Ev (fun k => rot_Check.f k a l r) (v, e)) : Ev (fun k => faces_Genus.f k a l r) (0, e) := by
 unfold faces_Genus.f
 exact Ev.bind (of_bad he h) (Ev.congr (fun k => if_neg he) (Ev.now _))
theorem flat_ok (hm : IsMap n l r) (h : Ev (fun k => rot_Check.f k (n : Int) l r) (0, 0)) : Ev (fun k => faces_Flat.f k (n : Int) l r) (genus n l r == 0) := by
 unfold faces_Flat.f
 exact Ev.bind (genus_ok hm h) (Ev.congr (fun k => if_pos rfl) (Ev.now _))
def MetB (n : Nat) (l : List Ed) (i : Nat) (M : List Bool) : Prop := M.length = n ∧ ∀ v, v < n → (gb M v = true ↔ 0 < cnt (frs l) (2 * i) v)
def loneTo (l : List Ed) (i : Nat) : Nat := (List.range i).countP fun (v : Nat) => cnt (frs l) (2 * l.length) (v : Int) == 0
theorem loneTo_le (l : List Ed) (i : Nat) : loneTo l i ≤ i := by
 unfold loneTo
 have := List.countP_le_length (p := fun (v : Nat) => cnt (frs l) (2 * l.length) (v : Int) == 0) (l := List.range i)
 simpa using this
theorem lone_eq (hm : IsMap n l r) : lone r = loneTo l n := by
 rw [lone_count hm]
 unfold loneTo
 refine List.countP_congr fun v hv => ?_
 rw [List.mem_range] at hv
 have := row_len hm.rot hv
 rw [frs_length] at this
 rw [List.isEmpty_iff, beq_iff_eq, ← List.length_eq_zero_iff, this]
end
end Rot
namespace GAll
mutual
def tangramref04_Valid.j0 : Nat → Bool → Int → List (S41) → Option (Bool)
 | 0, _, _, _ => none
 | k + 1, x19, x244000, x244001 => if x19 = true then (some false) else (tangramref04_Valid.l0 k 0 x244000 x244001)
def tangramref04_Valid.l0 : Nat → Int → Int → List (S41) → Option (Bool)
 | 0, _, _, _ => none
 | k + 1, x3, x244000, x244001 => if x3 < (x244001.length : Int) then (if 0 ≤ x3 then (if ((rd_T41 x244001 x3).f0) < 0 then (tangramref04_Valid.j2 k x3 true x244000 x244001 ((rd_T41 x244001 x3).f0) ((rd_T41 x244001 x3).f1)) else (if ((rd_T41 x244001 x3).f0) ≥ ((rd_T41 x244001 x3).f1) then (tangramref04_Valid.j2 k x3 true x244000 x244001 ((rd_T41 x244001 x3).f0) ((rd_T41 x244001 x3).f1)) else (tangramref04_Valid.j2 k x3 (decide (((rd_T41 x244001 x3).f1) ≥ x244000)) x244000 x244001 ((rd_T41 x244001 x3).f0) ((rd_T41 x244001 x3).f1)))) else (none)) else (some true)
def tangramref04_Valid.j2 : Nat → Int → Bool → Int → List (S41) → Int → Int → Option (Bool)
 | 0, _, _, _, _, _, _ => none
 | k + 1, x3, x48, x244000, x244001, x246000, x246001 => if x48 = true then (some false) else (if x3 > 0 then (if 0 ≤ (wrap64 (x3 - 1)) then (if (wrap64 (x3 - 1)) < (x244001.length : Int) then (if ((rd_T41 x244001 (wrap64 (x3 - 1))).f0) > x246000 then (some false) else (if ((rd_T41 x244001 (wrap64 (x3 - 1))).f0) = x246000 then (if ((rd_T41 x244001 (wrap64 (x3 - 1))).f1) ≥ x246001 then (some false) else (tangramref04_Valid.l0 k (wrap64 (x3 + 1)) x244000 x244001)) else (tangramref04_Valid.l0 k (wrap64 (x3 + 1)) x244000 x244001))) else (none)) else (none)) else (tangramref04_Valid.l0 k (wrap64 (x3 + 1)) x244000 x244001))
end
def tangramref04_Valid.f (k : Nat) (a0_0 : Int) (l0_1 : List (S41)) : Option (Bool) := if a0_0 < 0 then (tangramref04_Valid.j0 k true a0_0 l0_1) else (if a0_0 > 1048576 then (tangramref04_Valid.j0 k true a0_0 l0_1) else (tangramref04_Valid.j0 k (decide ((l0_1.length : Int) > 4194304)) a0_0 l0_1))
theorem tangramref04_Valid.mono_l : ∀ k, (∀ y0 y1 y2, LeO (tangramref04_Valid.j0 k y0 y1 y2) (tangramref04_Valid.j0 (k + 1) y0 y1 y2)) ∧ (∀ y0 y1 y2, LeO (tangramref04_Valid.l0 k y0 y1 y2) (tangramref04_Valid.l0 (k + 1) y0 y1 y2)) ∧ (∀ y0 y1 y2 y3 y4 y5, LeO (tangramref04_Valid.j2 k y0 y1 y2 y3 y4 y5) (tangramref04_Valid.j2 (k + 1) y0 y1 y2 y3 y4 y5))
 | 0 => ⟨fun _ _ _ r h => by simp [tangramref04_Valid.j0] at h, fun _ _ _ r h => by simp [tangramref04_Valid.l0] at h, fun _ _ _ _ _ _ r h => by simp [tangramref04_Valid.j2] at h⟩
 | k + 1 => by
  obtain ⟨ih0, ih1, ih2⟩ := tangramref04_Valid.mono_l k
  refine ⟨?_, ?_, ?_⟩
  ·intro y0 y1 y2
   unfold tangramref04_Valid.j0
   repeat' first
   | (with_reducible exact ih0 _ _ _)
   | (with_reducible exact ih1 _ _ _)
   | (with_reducible exact ih2 _ _ _ _ _ _)
   | (with_reducible exact LeO.refl _)
   | (with_reducible exact LeO.none _)
   | (with_reducible refine LeO.ite ?_ ?_)
   | (with_reducible refine LeO.bind ?_ (fun _ => ?_))
  ·intro y0 y1 y2
   unfold tangramref04_Valid.l0
   repeat' first
   | (with_reducible exact ih0 _ _ _)
   | (with_reducible exact ih1 _ _ _)
   | (with_reducible exact ih2 _ _ _ _ _ _)
   | (with_reducible exact LeO.refl _)
   | (with_reducible exact LeO.none _)
   | (with_reducible refine LeO.ite ?_ ?_)
   | (with_reducible refine LeO.bind ?_ (fun _ => ?_))
  ·intro y0 y1 y2 y3 y4 y5
   unfold tangramref04_Valid.j2
   repeat' first
   | (with_reducible exact ih0 _ _ _)
   | (with_reducible exact ih1 _ _ _)
   | (with_reducible exact ih2 _ _ _ _ _ _)
   | (with_reducible exact LeO.refl _)
   | (with_reducible exact LeO.none _)
   | (with_reducible refine LeO.ite ?_ ?_)
   | (with_reducible refine LeO.bind ?_ (fun _ => ?_))
theorem tangramref04_Valid.mono : ∀ a0 a1 k, LeO (tangramref04_Valid.f k a0 a1) (tangramref04_Valid.f (k + 1) a0 a1) := by
 intro a0 a1 k
 obtain ⟨ih0, ih1, ih2⟩ := tangramref04_Valid.mono_l k
 unfold tangramref04_Valid.f
 repeat' first
   | (with_reducible exact ih0 _ _ _)
   | (with_reducible exact ih1 _ _ _)
   | (with_reducible exact ih2 _ _ _ _ _ _)
   | (with_reducible exact LeO.refl _)
   | (with_reducible exact LeO.none _)
   | (with_reducible refine LeO.ite ?_ ?_)
   | (with_reducible refine LeO.bind ?_ (fun _ => ?_))
theorem tangramref04_Valid.calls (k : Nat) (a0_0 : Int) (A0_1 : Option Addr) (c0_1 : Nat) (l0_1 : List (S41)) (r : Bool) (w : World) (hr0_1 : Kd.C k41 w A0_1 l0_1.length l0_1) (hc0_1 : l0_1.length ≤ c0_1) (h : tangramref04_Valid.f k a0_0 l0_1 = some r) :
  Calls Try.prog 33 #[.agg #[.int .i64 a0_0, .slice A0_1 l0_1.length c0_1]] w fun e w' => e = .returned (.bool r) ∧ Below w.heap.size w w' := by
 have hu24 := Try.underlying24
 have hu41 := Try.underlying41
 have HR0_1 := Aside0.mk hr0_1
 have HC0_1 := Aside0.mk hc0_1
 clear hr0_1 hc0_1
 have HB := Aside0.mk (Below.refl w.heap.size w)
 have H : (if a0_0 < 0 then (tangramref04_Valid.j0 k true a0_0 l0_1) else (if a0_0 > 1048576 then (tangramref04_Valid.j0 k true a0_0 l0_1) else (tangramref04_Valid.j0 k (decide ((l0_1.length : Int) > 4194304)) a0_0 l0_1))) = some r := h
 clear h
 have HC2 := Aside0.mk H
 clear H
 go_enter Try.func33, Try.ntmps33
 go_upto_region 1 with (first | ((with_reducible refine gate_dst (N := 1) rfl ?_); (try (refine gate_guard (by rfl) ?_; dsimp only)); refine bx9 (N := 1) (cs := #[.int .i64 a0_0, .slice A0_1 l0_1.length c0_1]) (t := 24) ?_; intro gb243 hg w3 hbox hb; have BK243 := Aside0.mk (hbox); have GW243 := gw9 HB hg; have GE243 := gw9 HB hg; replace HB := bs9 HB hb; clear hb hbox hg))
 (try simp only [Act.put, List.setIfInBounds_toArray, List.set_cons_zero, List.set_cons_succ])
 go_cut [19] (fun v19 wc => ∃ (kq : Nat) (x19_1 : Bool), v19 = .bool x19_1 ∧ Aside0 (tangramref04_Valid.j0 kq x19_1 a0_0 l0_1 = some r) ∧ Aside0 (kq ≤ k) ∧ Aside0 (wc.heap[gb243]? = some (.cells #[.int .i64 a0_0, (.slice A0_1 l0_1.length c0_1)] 24 (0, 0))) ∧ Aside0 (Below w.heap.size w wc))
 case first =>
  have H := HC2.out
  clear HC2
  by_cases c4 : a0_0 < 0
  ·rw [if_pos c4] at H
   have c4b0 : decide (a0_0 < 0) = true := decide_eq_true c4
   clear c4
   (first | rw [c4b0] | (simp only [i64_w, i32_w]; rw [c4b0]) | skip)
   have H' := Aside0.mk H
   clear H
   have hcz5_0 := cz9 BK243 0
   have hcz5_1 := cz9 BK243 1
   have hfz5_0 := blk_frozen BK243.out 0
   have hfz5_1 := blk_frozen BK243.out 1
   go_wp2
   go_meet
   case rel => exact ⟨_, (true), an9, H', ⟨by first | omega | exact Nat.le_refl _⟩, bk9 BK243, ⟨bl9 HB⟩⟩
  ·rw [if_neg c4] at H
   have c4b0 : decide (a0_0 < 0) = false := decide_eq_false c4
   clear c4
   (first | rw [c4b0] | (simp only [i64_w, i32_w]; rw [c4b0]) | skip)
   by_cases c6 : a0_0 > 1048576
   ·rw [if_pos c6] at H
    have c6b0 : decide (1048576 < a0_0) = true := decide_eq_true c6
    clear c6
    have H' := Aside0.mk H
    clear H
    have hcz7_0 := cz9 BK243 0
    have hcz7_1 := cz9 BK243 1
    have hfz7_0 := blk_frozen BK243.out 0
    have hfz7_1 := blk_frozen BK243.out 1
    go_wp2
    go_meet
    case rel => exact ⟨_, (true), an9, H', ⟨by first | omega | exact Nat.le_refl _⟩, bk9 BK243, ⟨bl9 HB⟩⟩
   ·rw [if_neg c6] at H
    have c6b0 : decide (1048576 < a0_0) = false := decide_eq_false c6
    clear c6
    have H' := Aside0.mk H
    clear H
    have hcz8_0 := cz9 BK243 0
    have hcz8_1 := cz9 BK243 1
    have hfz8_0 := blk_frozen BK243.out 0
    have hfz8_1 := blk_frozen BK243.out 1
    go_wp2
    go_meet
    case rel => exact ⟨_, (decide ((l0_1.length : Int) > 4194304)), an9, H', ⟨by first | omega | exact Nat.le_refl _⟩, bk9 BK243, ⟨bl9 HB⟩⟩
 case rest =>
  clear HC2
  try clear p2
  try clear c3
  try clear c4
  try clear c4b0
  try clear c6
  try clear c6b0
  try clear hcz5_0
  try clear hcz5_1
  try clear hcz7_0
  try clear hcz7_1
  try clear hcz8_0
  try clear hcz8_1
  try clear hfz5_0
  try clear hfz5_1
  try clear hfz7_0
  try clear hfz7_1
  try clear hfz8_0
  try clear hfz8_1
  obtain ⟨kq, x19_1, rfl, HA, HJ1, BK243, HB⟩ := hcut
  cases kq with
  | zero => exact absurd HA.out (by simp [tangramref04_Valid.j0])
  | succ kj1 =>
   have H := HA.out
   clear HA
   simp only [tangramref04_Valid.j0] at H
   by_cases c9 : x19_1 = true
   ·subst c9
    rw [if_pos rfl] at H
    obtain rfl := Option.some.inj H
    go_wp2
    go_ret
    exact ⟨er9, bl9 HB⟩
   ·replace c9 := Bool.eq_false_iff.mpr c9
    subst c9
    rw [if_neg (show ¬ (false = true) by decide)] at H
    have H' := Aside0.mk H
    clear H
    go_wp2
    go_loopg [3] kj1 (fun kq v3 w' => ∃ (x3_2 : Int), v3 = .int .i64 x3_2 ∧ Aside0 (tangramref04_Valid.l0 kq x3_2 a0_0 l0_1 = some r) ∧ Aside0 (kq ≤ kj1) ∧ Aside0 (w'.heap[gb243]? = some (.cells #[.int .i64 a0_0, (.slice A0_1 l0_1.length c0_1)] 24 (0, 0))) ∧ Aside0 (Below w.heap.size w w'))
    case atStart => exact ⟨(0), an9, H', ⟨Nat.le_refl _⟩, bk9 BK243, ⟨bl9 HB⟩⟩
    case round =>
     clear H'
     try clear p2
     try clear c3
     try clear c4
     try clear c4b0
     try clear c6
     try clear c6b0
     try clear c9
     try clear hcz5_0
     try clear hcz5_1
     try clear hcz7_0
     try clear hcz7_1
     try clear hcz8_0
     try clear hcz8_1
     try clear hfz5_0
     try clear hfz5_1
     try clear hfz7_0
     try clear hfz7_1
     try clear hfz8_0
     try clear hfz8_1
     try clear p2
     obtain ⟨x3_2, rfl, HA, HK2, BK243, HB⟩ := hrel
     cases gk with
     | zero => exact absurd HA.out (by simp [tangramref04_Valid.l0])
     | succ k2 =>
      have H := HA.out
      clear HA
      simp only [tangramref04_Valid.l0] at H
      by_cases c10 : x3_2 < (l0_1.length : Int)
      ·rw [if_pos c10] at H
       have c10b0 : decide (x3_2 < (l0_1.length : Int)) = true := decide_eq_true c10
       clear c10
       by_cases c11 : 0 ≤ x3_2
       ·rw [if_pos c11] at H
        have c11b0 : decide (0 ≤ x3_2) = true := decide_eq_true c11
        clear c11
        have HC12 := Aside0.mk H
        clear H
        have hcz13_0 := cz9 BK243 0
        have hcz13_1 := cz9 BK243 1
        have hfz13_0 := blk_frozen BK243.out 0
        have hfz13_1 := blk_frozen BK243.out 1
        have p244 : 0 ≤ (x3_2 : Int) := od9
        have q244 : x3_2 < (l0_1.length : Int) := od9
        obtain ⟨ad244, e244, hx244_0, hx244_1⟩ := at_T41 HR0_1.out x3_2 p244 q244
        cases e244
        replace hx244_0 := (HB.out.cell (World.block_lt_of_cell? w _ hx244_0)).trans hx244_0
        replace hx244_1 := (HB.out.cell (World.block_lt_of_cell? w _ hx244_1)).trans hx244_1
        replace p244 := eq_true p244
        replace q244 := eq_true q244
        go_upto_region 7 with (first | ((with_reducible refine gate_dst (N := 4) rfl ?_); (try (refine gate_guard (by rfl) ?_; dsimp only)); refine bx9 (N := 4) (cs := #[.int .i64 0, .int .i64 0]) (t := 41) ?_; intro gb245 hg w14 hbox hb; have BK245 := Aside0.mk (hbox); have GW245 := gw9 HB hg; have GE245 := gw9 HB hg; have NB243_245 := nl9 BK243 hg; have NB245_243 := ng9 BK243 hg; replace BK243 := bb9 BK243 hb; replace HB := bs9 HB hb; clear hb hbox hg; have hnb15 := NB245_243.out; have hnc15 := NB243_245.out; have hcz16_0 := cz9 BK245 0; have hcz16_1 := cz9 BK245 1; have hfz16_0 := blk_frozen BK245.out 0; have hfz16_1 := blk_frozen BK245.out 1))
        (try simp only [Act.put, List.setIfInBounds_toArray, List.set_cons_zero, List.set_cons_succ])
        go_cut [48] (fun v48 wc => ∃ (kq : Nat) (x48_11 : Bool), v48 = .bool x48_11 ∧ Aside0 (tangramref04_Valid.j2 kq x3_2 x48_11 a0_0 l0_1 ((rd_T41 l0_1 x3_2).f0) ((rd_T41 l0_1 x3_2).f1) = some r) ∧ Aside0 (kq ≤ k2) ∧ Aside0 (wc.heap[gb243]? = some (.cells #[.int .i64 a0_0, (.slice (some ad244) l0_1.length c0_1)] 24 (0, 0))) ∧ Aside0 (wc.heap[gb245]? = some (.cells #[.int .i64 ((rd_T41 l0_1 x3_2).f0), .int .i64 ((rd_T41 l0_1 x3_2).f1)] 41 (0, 0))) ∧ Aside0 (Below w.heap.size w wc))
        case first =>
         have H := HC12.out
         clear HC12
         by_cases c17 : ((rd_T41 l0_1 x3_2).f0) < 0
         ·rw [if_pos c17] at H
          have c17b0 : decide (((rd_T41 l0_1 x3_2).f0) < 0) = true := decide_eq_true c17
          clear c17
          (first | rw [c17b0] | (simp only [i64_w, i32_w]; rw [c17b0]) | skip)
          have H' := Aside0.mk H
          clear H
          have hnb18 := NB245_243.out
          have hnc18 := NB243_245.out
          have hcz19_0 := cz9 BK245 0
          have hcz19_1 := cz9 BK245 1
          have hfz19_0 := blk_frozen BK245.out 0
          have hfz19_1 := blk_frozen BK245.out 1
          go_wp2
          go_meet
          case rel => exact ⟨_, (true), an9, H', ⟨by have := HJ1.out; have := HK2.out; first | omega | exact Nat.le_refl _⟩, ⟨by (with_reducible repeat (first | refine blk_drewN ?_ _ | refine blk_drew ?_ | refine blk_alloc ?_ _)); refine blk_far ?_ NB243_245.out _; (with_reducible repeat (first | refine blk_drewN ?_ _ | refine blk_drew ?_ | refine blk_alloc ?_ _)); refine blk_far ?_ NB243_245.out _; (with_reducible repeat (first | refine blk_drewN ?_ _ | refine blk_drew ?_ | refine blk_alloc ?_ _)); exact BK243.out⟩, ⟨by (with_reducible repeat (first | refine blk_drewN ?_ _ | refine blk_drew ?_ | refine blk_alloc ?_ _)); refine blk_put (cs := #[.int .i64 ((rd_T41 l0_1 x3_2).f0), .int .i64 0]) ?_ 1 _ rfl; (with_reducible repeat (first | refine blk_drewN ?_ _ | refine blk_drew ?_ | refine blk_alloc ?_ _)); refine blk_put (cs := #[.int .i64 0, .int .i64 0]) ?_ 0 _ rfl; (with_reducible repeat (first | refine blk_drewN ?_ _ | refine blk_drew ?_ | refine blk_alloc ?_ _)); exact BK245.out⟩, ⟨bl9 HB⟩⟩
         ·rw [if_neg c17] at H
          have c17b0 : decide (((rd_T41 l0_1 x3_2).f0) < 0) = false := decide_eq_false c17
          clear c17
          (first | rw [c17b0] | (simp only [i64_w, i32_w]; rw [c17b0]) | skip)
          by_cases c20 : ((rd_T41 l0_1 x3_2).f0) ≥ ((rd_T41 l0_1 x3_2).f1)
          ·rw [if_pos c20] at H
           have c20b0 : decide (((rd_T41 l0_1 x3_2).f1) ≤ ((rd_T41 l0_1 x3_2).f0)) = true := decide_eq_true c20
           clear c20
           have H' := Aside0.mk H
           clear H
           have hnb21 := NB245_243.out
           have hnc21 := NB243_245.out
           have hcz22_0 := cz9 BK245 0
           have hcz22_1 := cz9 BK245 1
           have hfz22_0 := blk_frozen BK245.out 0
           have hfz22_1 := blk_frozen BK245.out 1
           go_wp2
           go_meet
           case rel => exact ⟨_, (true), an9, H', ⟨by have := HJ1.out; have := HK2.out; first | omega | exact Nat.le_refl _⟩, ⟨by (with_reducible repeat (first | refine blk_drewN ?_ _ | refine blk_drew ?_ | refine blk_alloc ?_ _)); refine blk_far ?_ NB243_245.out _; (with_reducible repeat (first | refine blk_drewN ?_ _ | refine blk_drew ?_ | refine blk_alloc ?_ _)); refine blk_far ?_ NB243_245.out _; (with_reducible repeat (first | refine blk_drewN ?_ _ | refine blk_drew ?_ | refine blk_alloc ?_ _)); exact BK243.out⟩, ⟨by (with_reducible repeat (first | refine blk_drewN ?_ _ | refine blk_drew ?_ | refine blk_alloc ?_ _)); refine blk_put (cs := #[.int .i64 ((rd_T41 l0_1 x3_2).f0), .int .i64 0]) ?_ 1 _ rfl; (with_reducible repeat (first | refine blk_drewN ?_ _ | refine blk_drew ?_ | refine blk_alloc ?_ _)); refine blk_put (cs := #[.int .i64 0, .int .i64 0]) ?_ 0 _ rfl; (with_reducible repeat (first | refine blk_drewN ?_ _ | refine blk_drew ?_ | refine blk_alloc ?_ _)); exact BK245.out⟩, ⟨bl9 HB⟩⟩
          ·rw [if_neg c20] at H
           have c20b0 : decide (((rd_T41 l0_1 x3_2).f1) ≤ ((rd_T41 l0_1 x3_2).f0)) = false := decide_eq_false c20
           clear c20
           have H' := Aside0.mk H
           clear H
           have hnb23 := NB245_243.out
           have hnc23 := NB243_245.out
           have hcz24_0 := cz9 BK245 0
           have hcz24_1 := cz9 BK245 1
           have hfz24_0 := blk_frozen BK245.out 0
           have hfz24_1 := blk_frozen BK245.out 1
           have hcz25_0 := cz9 BK243 0
           have hcz25_1 := cz9 BK243 1
           have hfz25_0 := blk_frozen BK243.out 0
           have hfz25_1 := blk_frozen BK243.out 1
           go_wp2
           go_meet
           case rel => exact ⟨_, (decide (((rd_T41 l0_1 x3_2).f1) ≥ a0_0)), an9, H', ⟨by have := HJ1.out; have := HK2.out; first | omega | exact Nat.le_refl _⟩, ⟨by (with_reducible repeat (first | refine blk_drewN ?_ _ | refine blk_drew ?_ | refine blk_alloc ?_ _)); refine blk_far ?_ NB243_245.out _; (with_reducible repeat (first | refine blk_drewN ?_ _ | refine blk_drew ?_ | refine blk_alloc ?_ _)); refine blk_far ?_ NB243_245.out _; (with_reducible repeat (first | refine blk_drewN ?_ _ | refine blk_drew ?_ | refine blk_alloc ?_ _)); exact BK243.out⟩, ⟨by (with_reducible repeat (first | refine blk_drewN ?_ _ | refine blk_drew ?_ | refine blk_alloc ?_ _)); refine blk_put (cs := #[.int .i64 ((rd_T41 l0_1 x3_2).f0), .int .i64 0]) ?_ 1 _ rfl; (with_reducible repeat (first | refine blk_drewN ?_ _ | refine blk_drew ?_ | refine blk_alloc ?_ _)); refine blk_put (cs := #[.int .i64 0, .int .i64 0]) ?_ 0 _ rfl; (with_reducible repeat (first | refine blk_drewN ?_ _ | refine blk_drew ?_ | refine blk_alloc ?_ _)); exact BK245.out⟩, ⟨bl9 HB⟩⟩
        case rest =>
         clear HC12
         try clear c1
         try clear c2
         try clear p2
         try clear q2
         try clear hx2
         try clear c3
         try clear c4
         try clear c4b0
         try clear c6
         try clear c6b0
         try clear c9
         try clear c10
         try clear c10b0
         try clear c11
         try clear c11b0
         try clear c15
         try clear c17
         try clear c17b0
         try clear c18
         try clear c20
         try clear c20b0
         try clear c21
         try clear c23
         try clear p24
         try clear q24
         try clear hx24
         try clear hcz13_0
         try clear hcz13_1
         try clear hcz16_0
         try clear hcz16_1
         try clear hcz19_0
         try clear hcz19_1
         try clear hcz22_0
         try clear hcz22_1
         try clear hcz24_0
         try clear hcz24_1
         try clear hcz25_0
         try clear hcz25_1
         try clear hcz5_0
         try clear hcz5_1
         try clear hcz7_0
         try clear hcz7_1
         try clear hcz8_0
         try clear hcz8_1
         try clear hfz13_0
         try clear hfz13_1
         try clear hfz16_0
         try clear hfz16_1
         try clear hfz19_0
         try clear hfz19_1
         try clear hfz22_0
         try clear hfz22_1
         try clear hfz24_0
         try clear hfz24_1
         try clear hfz25_0
         try clear hfz25_1
         try clear hfz5_0
         try clear hfz5_1
         try clear hfz7_0
         try clear hfz7_1
         try clear hfz8_0
         try clear hfz8_1
         try clear hx244_0
         try clear hx244_1
         try clear p2
         try clear p244
         try clear q244
         obtain ⟨kq, x48_11, rfl, HA, HJ11, BK243, BK245, HB⟩ := hcut
         cases kq with
         | zero => exact absurd HA.out (by simp [tangramref04_Valid.j2])
         | succ kj11 =>
          have H := HA.out
          clear HA
          simp only [tangramref04_Valid.j2] at H
          by_cases c26 : x48_11 = true
          ·subst c26
           rw [if_pos rfl] at H
           obtain rfl := Option.some.inj H
           go_wp2
           go_ret
           exact ⟨er9, bl9 HB⟩
          ·replace c26 := Bool.eq_false_iff.mpr c26
           subst c26
           rw [if_neg (show ¬ (false = true) by decide)] at H
           by_cases c27 : x3_2 > 0
           ·rw [if_pos c27] at H
            have c27b0 : decide (0 < x3_2) = true := decide_eq_true c27
            clear c27
            obtain ⟨ji28, hji28⟩ : ∃ j_ : Int, (wrap64 (x3_2 - 1)) = j_ := ⟨_, rfl⟩
            replace H : (if 0 ≤ (ji28) then (if (ji28) < (l0_1.length : Int) then (if ((rd_T41 l0_1 (ji28)).f0) > ((rd_T41 l0_1 x3_2).f0) then (some false) else (if ((rd_T41 l0_1 (ji28)).f0) = ((rd_T41 l0_1 x3_2).f0) then (if ((rd_T41 l0_1 (ji28)).f1) ≥ ((rd_T41 l0_1 x3_2).f1) then (some false) else (tangramref04_Valid.l0 kj11 (wrap64 (x3_2 + 1)) a0_0 l0_1)) else (tangramref04_Valid.l0 kj11 (wrap64 (x3_2 + 1)) a0_0 l0_1))) else (none)) else (none)) = some r := by first | (rw [hji28] at H; exact H) | (simp only [hji28] at H ⊢; exact H)
            have hji28w : (IntKind.i64.wrap (x3_2 - 1)) = ji28 := (i64_w _).trans hji28
            by_cases c29 : 0 ≤ (ji28)
            ·rw [if_pos c29] at H
             have c29b0 : decide (0 ≤ (ji28)) = true := decide_eq_true c29
             clear c29
             by_cases c30 : (ji28) < (l0_1.length : Int)
             ·rw [if_pos c30] at H
              have c30b0 : decide ((ji28) < (l0_1.length : Int)) = true := decide_eq_true c30
              clear c30
              by_cases c31 : ((rd_T41 l0_1 (ji28)).f0) > ((rd_T41 l0_1 x3_2).f0)
              ·rw [if_pos c31] at H
               have c31b0 : decide (((rd_T41 l0_1 x3_2).f0) < ((rd_T41 l0_1 (ji28)).f0)) = true := decide_eq_true c31
               clear c31
               obtain rfl := Option.some.inj H
               have hnb32 := NB243_245.out
               have hnc32 := NB245_243.out
               have hcz33_0 := cz9 BK243 0
               have hcz33_1 := cz9 BK243 1
               have hfz33_0 := blk_frozen BK243.out 0
               have hfz33_1 := blk_frozen BK243.out 1
               have p246 : 0 ≤ ((ji28) : Int) := od9
               have q246 : (ji28) < (l0_1.length : Int) := od9
               obtain ⟨ad246, e246, hx246_0, hx246_1⟩ := at_T41 HR0_1.out (ji28) p246 q246
               obtain rfl : ad244 = ad246 := (by injection e246)
               replace hx246_0 := (HB.out.cell (World.block_lt_of_cell? w _ hx246_0)).trans hx246_0
               replace hx246_1 := (HB.out.cell (World.block_lt_of_cell? w _ hx246_1)).trans hx246_1
               replace p246 := eq_true p246
               replace q246 := eq_true q246
               go_wp2_with (first | ((with_reducible refine gate_dst (N := 5) rfl ?_); (try (refine gate_guard (by rfl) ?_; dsimp only)); refine bx9 (N := 5) (cs := #[.int .i64 0, .int .i64 0]) (t := 41) ?_; intro gb247 hg w34 hbox hb; have BK247 := Aside0.mk (hbox); have GW247 := gw9 HB hg; have GE247 := gw9 HB hg; have NB243_247 := nl9 BK243 hg; have NB247_243 := ng9 BK243 hg; have NB245_247 := nl9 BK245 hg; have NB247_245 := ng9 BK245 hg; replace BK243 := bb9 BK243 hb; replace BK245 := bb9 BK245 hb; replace HB := bs9 HB hb; clear hb hbox hg; have hnb35 := NB247_243.out; have hnc35 := NB243_247.out; have hnb36 := NB247_245.out; have hnc36 := NB245_247.out; have hcz37_0 := cz9 BK247 0; have hcz37_1 := cz9 BK247 1; have hfz37_0 := blk_frozen BK247.out 0; have hfz37_1 := blk_frozen BK247.out 1; have hcz38_0 := cz9 BK245 0; have hcz38_1 := cz9 BK245 1; have hfz38_0 := blk_frozen BK245.out 0; have hfz38_1 := blk_frozen BK245.out 1))
               go_ret
               exact ⟨by first | rfl | (simp [errW_none, errW_some] <;> rfl) | (simp only [← hji28]; first | rfl | (simp [errW_none, errW_some] <;> rfl)) | (simp [*, errW_none, errW_some] <;> rfl), bl9 HB⟩
              ·rw [if_neg c31] at H
               have c31b0 : decide (((rd_T41 l0_1 x3_2).f0) < ((rd_T41 l0_1 (ji28)).f0)) = false := decide_eq_false c31
               clear c31
               by_cases c39 : ((rd_T41 l0_1 (ji28)).f0) = ((rd_T41 l0_1 x3_2).f0)
               ·rw [if_pos c39] at H
                have c39b0 : (((rd_T41 l0_1 (ji28)).f0) == ((rd_T41 l0_1 x3_2).f0)) = true := beq_iff_eq.mpr c39
                have c39b1 : (((rd_T41 l0_1 (ji28)).f0) != ((rd_T41 l0_1 x3_2).f0)) = false := bne_eq_false_iff_eq.mpr c39
                clear c39
                by_cases c40 : ((rd_T41 l0_1 (ji28)).f1) ≥ ((rd_T41 l0_1 x3_2).f1)
                ·rw [if_pos c40] at H
                 have c40b0 : decide (((rd_T41 l0_1 x3_2).f1) ≤ ((rd_T41 l0_1 (ji28)).f1)) = true := decide_eq_true c40
                 clear c40
                 obtain rfl := Option.some.inj H
                 have hnb41 := NB243_245.out
                 have hnc41 := NB245_243.out
                 have hcz42_0 := cz9 BK243 0
                 have hcz42_1 := cz9 BK243 1
                 have hfz42_0 := blk_frozen BK243.out 0
                 have hfz42_1 := blk_frozen BK243.out 1
                 have p246 : 0 ≤ ((ji28) : Int) := od9
                 have q246 : (ji28) < (l0_1.length : Int) := od9
                 obtain ⟨ad246, e246, hx246_0, hx246_1⟩ := at_T41 HR0_1.out (ji28) p246 q246
                 obtain rfl : ad244 = ad246 := (by injection e246)
                 replace hx246_0 := (HB.out.cell (World.block_lt_of_cell? w _ hx246_0)).trans hx246_0
                 replace hx246_1 := (HB.out.cell (World.block_lt_of_cell? w _ hx246_1)).trans hx246_1
                 replace p246 := eq_true p246
                 replace q246 := eq_true q246
                 go_wp2_with (first | ((with_reducible refine gate_dst (N := 5) rfl ?_); (try (refine gate_guard (by rfl) ?_; dsimp only)); refine bx9 (N := 5) (cs := #[.int .i64 0, .int .i64 0]) (t := 41) ?_; intro gb247 hg w43 hbox hb; have BK247 := Aside0.mk (hbox); have GW247 := gw9 HB hg; have GE247 := gw9 HB hg; have NB243_247 := nl9 BK243 hg; have NB247_243 := ng9 BK243 hg; have NB245_247 := nl9 BK245 hg; have NB247_245 := ng9 BK245 hg; replace BK243 := bb9 BK243 hb; replace BK245 := bb9 BK245 hb; replace HB := bs9 HB hb; clear hb hbox hg; have hnb44 := NB247_243.out; have hnc44 := NB243_247.out; have hnb45 := NB247_245.out; have hnc45 := NB245_247.out; have hcz46_0 := cz9 BK247 0; have hcz46_1 := cz9 BK247 1; have hfz46_0 := blk_frozen BK247.out 0; have hfz46_1 := blk_frozen BK247.out 1; have hcz47_0 := cz9 BK245 0; have hcz47_1 := cz9 BK245 1; have hfz47_0 := blk_frozen BK245.out 0; have hfz47_1 := blk_frozen BK245.out 1))
                 go_ret
                 exact ⟨by first | rfl | (simp [errW_none, errW_some] <;> rfl) | (simp only [← hji28]; first | rfl | (simp [errW_none, errW_some] <;> rfl)) | (simp [*, errW_none, errW_some] <;> rfl), bl9 HB⟩
                ·rw [if_neg c40] at H
                 have c40b0 : decide (((rd_T41 l0_1 x3_2).f1) ≤ ((rd_T41 l0_1 (ji28)).f1)) = false := decide_eq_false c40
                 clear c40
                 have H' := Aside0.mk H
                 clear H
                 have hnb48 := NB243_245.out
                 have hnc48 := NB245_243.out
                 have hcz49_0 := cz9 BK243 0
                 have hcz49_1 := cz9 BK243 1
                 have hfz49_0 := blk_frozen BK243.out 0
                 have hfz49_1 := blk_frozen BK243.out 1
                 have p246 : 0 ≤ ((ji28) : Int) := od9
                 have q246 : (ji28) < (l0_1.length : Int) := od9
                 obtain ⟨ad246, e246, hx246_0, hx246_1⟩ := at_T41 HR0_1.out (ji28) p246 q246
                 obtain rfl : ad244 = ad246 := (by injection e246)
                 replace hx246_0 := (HB.out.cell (World.block_lt_of_cell? w _ hx246_0)).trans hx246_0
                 replace hx246_1 := (HB.out.cell (World.block_lt_of_cell? w _ hx246_1)).trans hx246_1
                 replace p246 := eq_true p246
                 replace q246 := eq_true q246
                 go_wp2_with (first | ((with_reducible refine gate_dst (N := 5) rfl ?_); (try (refine gate_guard (by rfl) ?_; dsimp only)); refine bx9 (N := 5) (cs := #[.int .i64 0, .int .i64 0]) (t := 41) ?_; intro gb247 hg w50 hbox hb; have BK247 := Aside0.mk (hbox); have GW247 := gw9 HB hg; have GE247 := gw9 HB hg; have NB243_247 := nl9 BK243 hg; have NB247_243 := ng9 BK243 hg; have NB245_247 := nl9 BK245 hg; have NB247_245 := ng9 BK245 hg; replace BK243 := bb9 BK243 hb; replace BK245 := bb9 BK245 hb; replace HB := bs9 HB hb; clear hb hbox hg; have hnb51 := NB247_243.out; have hnc51 := NB243_247.out; have hnb52 := NB247_245.out; have hnc52 := NB245_247.out; have hcz53_0 := cz9 BK247 0; have hcz53_1 := cz9 BK247 1; have hfz53_0 := blk_frozen BK247.out 0; have hfz53_1 := blk_frozen BK247.out 1; have hcz54_0 := cz9 BK245 0; have hcz54_1 := cz9 BK245 1; have hfz54_0 := blk_frozen BK245.out 0; have hfz54_1 := blk_frozen BK245.out 1))
                 go_roundg kj11
                 case measure => have := HJ1.out; have := HK2.out; have := HJ11.out; omega
                 case rel => exact ⟨(wrap64 (x3_2 + 1)), an9, H', ⟨by have := HJ1.out; have := HK2.out; have := HJ11.out; omega⟩, ⟨by (with_reducible repeat (first | refine blk_drewN ?_ _ | refine blk_drew ?_ | refine blk_alloc ?_ _)); refine blk_far ?_ NB243_247.out _; (with_reducible repeat (first | refine blk_drewN ?_ _ | refine blk_drew ?_ | refine blk_alloc ?_ _)); refine blk_far ?_ NB243_247.out _; (with_reducible repeat (first | refine blk_drewN ?_ _ | refine blk_drew ?_ | refine blk_alloc ?_ _)); exact BK243.out⟩, ⟨bl9 HB⟩⟩
               ·rw [if_neg c39] at H
                have c39b0 : (((rd_T41 l0_1 (ji28)).f0) == ((rd_T41 l0_1 x3_2).f0)) = false := beq_eq_false_iff_ne.mpr c39
                have c39b1 : (((rd_T41 l0_1 (ji28)).f0) != ((rd_T41 l0_1 x3_2).f0)) = true := bne_iff_ne.mpr c39
                have H' := Aside0.mk H
                clear H
                have hnb55 := NB243_245.out
                have hnc55 := NB245_243.out
                have hcz56_0 := cz9 BK243 0
                have hcz56_1 := cz9 BK243 1
                have hfz56_0 := blk_frozen BK243.out 0
                have hfz56_1 := blk_frozen BK243.out 1
                have p246 : 0 ≤ ((ji28) : Int) := od9
                have q246 : (ji28) < (l0_1.length : Int) := od9
                obtain ⟨ad246, e246, hx246_0, hx246_1⟩ := at_T41 HR0_1.out (ji28) p246 q246
                obtain rfl : ad244 = ad246 := (by injection e246)
                replace hx246_0 := (HB.out.cell (World.block_lt_of_cell? w _ hx246_0)).trans hx246_0
                replace hx246_1 := (HB.out.cell (World.block_lt_of_cell? w _ hx246_1)).trans hx246_1
                replace p246 := eq_true p246
                replace q246 := eq_true q246
                go_wp2_with (first | ((with_reducible refine gate_dst (N := 5) rfl ?_); (try (refine gate_guard (by rfl) ?_; dsimp only)); refine bx9 (N := 5) (cs := #[.int .i64 0, .int .i64 0]) (t := 41) ?_; intro gb247 hg w57 hbox hb; have BK247 := Aside0.mk (hbox); have GW247 := gw9 HB hg; have GE247 := gw9 HB hg; have NB243_247 := nl9 BK243 hg; have NB247_243 := ng9 BK243 hg; have NB245_247 := nl9 BK245 hg; have NB247_245 := ng9 BK245 hg; replace BK243 := bb9 BK243 hb; replace BK245 := bb9 BK245 hb; replace HB := bs9 HB hb; clear hb hbox hg; have hnb58 := NB247_243.out; have hnc58 := NB243_247.out; have hnb59 := NB247_245.out; have hnc59 := NB245_247.out; have hcz60_0 := cz9 BK247 0; have hcz60_1 := cz9 BK247 1; have hfz60_0 := blk_frozen BK247.out 0; have hfz60_1 := blk_frozen BK247.out 1; have hcz61_0 := cz9 BK245 0; have hcz61_1 := cz9 BK245 1; have hfz61_0 := blk_frozen BK245.out 0; have hfz61_1 := blk_frozen BK245.out 1))
                go_roundg kj11
                case measure => have := HJ1.out; have := HK2.out; have := HJ11.out; omega
                case rel => exact ⟨(wrap64 (x3_2 + 1)), an9, H', ⟨by have := HJ1.out; have := HK2.out; have := HJ11.out; omega⟩, ⟨by (with_reducible repeat (first | refine blk_drewN ?_ _ | refine blk_drew ?_ | refine blk_alloc ?_ _)); refine blk_far ?_ NB243_247.out _; (with_reducible repeat (first | refine blk_drewN ?_ _ | refine blk_drew ?_ | refine blk_alloc ?_ _)); refine blk_far ?_ NB243_247.out _; (with_reducible repeat (first | refine blk_drewN ?_ _ | refine blk_drew ?_ | refine blk_alloc ?_ _)); exact BK243.out⟩, ⟨bl9 HB⟩⟩
             ·rw [if_neg c30] at H
              exact absurd H (by simp)
            ·rw [if_neg c29] at H
             exact absurd H (by simp)
           ·rw [if_neg c27] at H
            have c27b0 : decide (0 < x3_2) = false := decide_eq_false c27
            clear c27
            have H' := Aside0.mk H
            clear H
            go_wp2
            go_roundg kj11
            case measure => have := HJ1.out; have := HK2.out; have := HJ11.out; omega
            case rel => exact ⟨(wrap64 (x3_2 + 1)), an9, H', ⟨by have := HJ1.out; have := HK2.out; have := HJ11.out; omega⟩, bk9 BK243, ⟨bl9 HB⟩⟩
       ·rw [if_neg c11] at H
        exact absurd H (by simp)
      ·rw [if_neg c10] at H
       have c10b0 : decide (x3_2 < (l0_1.length : Int)) = false := decide_eq_false c10
       clear c10
       obtain rfl := Option.some.inj H
       have hcz62_0 := cz9 BK243 0
       have hcz62_1 := cz9 BK243 1
       have hfz62_0 := blk_frozen BK243.out 0
       have hfz62_1 := blk_frozen BK243.out 1
       go_wp2
       go_ret
       exact ⟨er9, bl9 HB⟩
end GAll
namespace GAll
def tangramref04_Out.l0 : Nat → List (List Int) → Int → Int → List (S41) → Option ((List (List Int)))
 | 0, _, _, _, _ => none
 | k + 1, x3, x4, x249000, x249001 => if x4 < (x249001.length : Int) then (if 0 ≤ x4 then (if 0 ≤ ((rd_T41 x249001 x4).f0) then (if ((rd_T41 x249001 x4).f0) < (x3.length : Int) then (if (rd_L2 x3 ((rd_T41 x249001 x4).f0)).length < 17592186044416 then ((some (x3.set (((rd_T41 x249001 x4).f0) : Int).toNat ((rd_L2 x3 ((rd_T41 x249001 x4).f0)) ++ [wrap64 (2 * x4)]) : List (List Int))).bind fun y258 => (if 0 ≤ ((rd_T41 x249001 x4).f1) then (if ((rd_T41 x249001 x4).f1) < (x3.length : Int) then (if (rd_L2 y258 ((rd_T41 x249001 x4).f1)).length < 17592186044416 then (tangramref04_Out.l0 k (y258.set (((rd_T41 x249001 x4).f1) : Int).toNat ((rd_L2 y258 ((rd_T41 x249001 x4).f1)) ++ [wrap64 ((wrap64 (2 * x4)) + 1)])) (wrap64 (x4 + 1)) x249000 x249001) else (none)) else (none)) else (none))) else (none)) else (none)) else (none)) else (none)) else (some x3)
def tangramref04_Out.f (k : Nat) (a0_0 : Int) (l0_1 : List (S41)) : Option ((List (List Int))) := if 0 ≤ a0_0 then (if (a0_0 : Int).toNat ≤ 11728124029610 then (tangramref04_Out.l0 k (List.replicate (a0_0 : Int).toNat []) 0 a0_0 l0_1) else (none)) else (none)
theorem tangramref04_Out.mono_l : ∀ k, (∀ y0 y1 y2 y3, LeO (tangramref04_Out.l0 k y0 y1 y2 y3) (tangramref04_Out.l0 (k + 1) y0 y1 y2 y3))
 | 0 => fun _ _ _ _ r h => by simp [tangramref04_Out.l0] at h
 | k + 1 => by
  have ih0 := tangramref04_Out.mono_l k
  ·intro y0 y1 y2 y3
   unfold tangramref04_Out.l0
   repeat' first
   | (with_reducible exact ih0 _ _ _ _)
   | (with_reducible exact LeO.refl _)
   | (with_reducible exact LeO.none _)
   | (with_reducible refine LeO.ite ?_ ?_)
   | (with_reducible refine LeO.bind ?_ (fun _ => ?_))
theorem tangramref04_Out.mono : ∀ a0 a1 k, LeO (tangramref04_Out.f k a0 a1) (tangramref04_Out.f (k + 1) a0 a1) := by
 intro a0 a1 k
 have ih0 := tangramref04_Out.mono_l k
 unfold tangramref04_Out.f
 repeat' first
   | (with_reducible exact ih0 _ _ _ _)
   | (with_reducible exact LeO.refl _)
   | (with_reducible exact LeO.none _)
   | (with_reducible refine LeO.ite ?_ ?_)
   | (with_reducible refine LeO.bind ?_ (fun _ => ?_))
theorem tangramref04_Out.calls (k : Nat) (a0_0 : Int) (A0_1 : Option Addr) (c0_1 : Nat) (l0_1 : List (S41)) (r : List (List Int)) (w : World) (hr0_1 : Kd.C k41 w A0_1 l0_1.length l0_1) (hc0_1 : l0_1.length ≤ c0_1) (h : tangramref04_Out.f k a0_0 l0_1 = some r) :
  Calls Try.prog 41 #[.agg #[.int .i64 a0_0, .slice A0_1 l0_1.length c0_1]] w fun e w' => ∃ v0_ : Value, e = .returned (v0_) ∧ Kd.S (Kd.slice 3 (Kd.int .i64)) 27 w' w.heap.size (fun _ => True) v0_ r ∧ Below w.heap.size w w' := by
 have hu24 := Try.underlying24
 have HR0_1 := Aside0.mk hr0_1
 have HC0_1 := Aside0.mk hc0_1
 clear hr0_1 hc0_1
 have HB := Aside0.mk (Below.refl w.heap.size w)
 have H : (if 0 ≤ a0_0 then (if (a0_0 : Int).toNat ≤ 11728124029610 then (tangramref04_Out.l0 k (List.replicate (a0_0 : Int).toNat []) 0 a0_0 l0_1) else (none)) else (none)) = some r := h
 clear h
 by_cases c2 : 0 ≤ a0_0
 ·rw [if_pos c2] at H
  have c2b0 := eq_true c2
  have c2b1 : decide (0 ≤ a0_0) = true := decide_eq_true c2
  clear c2
  by_cases c3 : (a0_0 : Int).toNat ≤ 11728124029610
  ·rw [if_pos c3] at H
   have c3b0 := eq_true c3
   have c3b1 : decide ((a0_0 : Int).toNat ≤ 11728124029610) = true := decide_eq_true c3
   clear c3
   obtain ⟨y249, hy249⟩ : ∃ y_ : List (List Int), y_ = (List.replicate (a0_0 : Int).toNat []) := ⟨_, rfl⟩
   replace H : (tangramref04_Out.l0 k y249 0 a0_0 l0_1) = some r := by first | (rw [hy249]; exact H) | exact H
   have Ny249 := Aside0.mk hy249
   clear hy249
   have H' := Aside0.mk H
   clear H
   go_enter Try.func41, Try.ntmps41
   go_wp2_with (first | ((with_reducible refine gate_dst (N := 1) rfl ?_); refine bx9 (N := 1) (cs := #[.int .i64 a0_0, .slice A0_1 l0_1.length c0_1]) (t := 24) ?_; intro gb248 hg w4 hbox hb; have BK248 := Aside0.mk (hbox); have GW248 := gw9 HB hg; have GE248 := gw9 HB hg; replace HB := bs9 HB hb; clear hb hbox hg; have hcz5_0 := cz9 BK248 0; have hcz5_1 := cz9 BK248 1; have hfz5_0 := blk_frozen BK248.out 0; have hfz5_1 := blk_frozen BK248.out 1) | ((with_reducible refine gate_dst (N := 9) rfl ?_); refine Kd.S_make (Kd.slice 3 (Kd.int .i64)) _ 27 rfl (N := 9) rfl 25 _ _ rfl a0_0 rfl rfl Try.underlying25 (.slice none 0 0) 24 info27 rfl (by decide) (by omega) [] (ok := fun _ => True) (okp := fun _ => True) ⟨_, rfl, Kd.R_nil _ _ _ _ _⟩ (fun _ hk => hk) trivial od9 (Nat.le_trans (Nat.mul_le_mul_right _ (od9 : a0_0.toNat ≤ 11728124029610)) (by omega)) (Below.refl _ _) (Nat.le_refl _) ?_; intro v250 w6 ho7 hb hg_ hnew_; clear hg_ hnew_; (first | rw [← Ny249.out] at ho7 | (simp only [Int.reduceToNat] at ho7; rw [← Ny249.out] at ho7)); have HO251 := Aside0.mk (Kd.S_lower ho7 (sz9 HB)); replace BK248 := bb9 BK248 hb; replace HB := bs9 HB hb; clear hb ho7))
   repeat (go_quiet (fail); try go_wp2_with fail)
   go_loopg [4] k (fun kq v4 w' => ∃ (x3_1 : List (List Int)) (x4_1 : Int), v4 = .int .i64 x4_1 ∧ Aside0 (tangramref04_Out.l0 kq x3_1 x4_1 a0_0 l0_1 = some r) ∧ Aside0 (kq ≤ k) ∧ Aside0 (Kd.S (Kd.slice 3 (Kd.int .i64)) 27 w' w.heap.size (fun _ => True) v250 x3_1) ∧ Aside0 (w'.heap[gb248]? = some (.cells #[.int .i64 a0_0, (.slice A0_1 l0_1.length c0_1)] 24 (0, 0))) ∧ Aside0 (Below w.heap.size w w'))
   case atStart => exact ⟨(y249), (0), an9, H', ⟨Nat.le_refl _⟩, ⟨by (with_reducible repeat (first | apply Kd.S_alloc | apply Kd.S_drewN | apply Kd.S_drew)); exact HO251.out⟩, bk9 BK248, ⟨bl9 HB⟩⟩
   case round =>
    clear H'
    try clear c2
    try clear c2b0
    try clear c2b1
    try clear p2
    try clear c3
    try clear c3b0
    try clear c3b1
    try clear c4
    try clear hcz5_0
    try clear hcz5_1
    try clear hfz5_0
    try clear hfz5_1
    obtain ⟨x3_1, x4_1, rfl, HA, HK1, HO_3, BK248, HB⟩ := hrel
    cases gk with
    | zero => exact absurd HA.out (by simp [tangramref04_Out.l0])
    | succ k1 =>
     have H := HA.out
     clear HA
     simp only [tangramref04_Out.l0] at H
     by_cases c8 : x4_1 < (l0_1.length : Int)
     ·rw [if_pos c8] at H
      have c8b0 : decide (x4_1 < (l0_1.length : Int)) = true := decide_eq_true c8
      clear c8
      by_cases c9 : 0 ≤ x4_1
      ·rw [if_pos c9] at H
       have c9b0 : decide (0 ≤ x4_1) = true := decide_eq_true c9
       clear c9
       by_cases c10 : 0 ≤ ((rd_T41 l0_1 x4_1).f0)
       ·rw [if_pos c10] at H
        have c10b0 : decide (0 ≤ ((rd_T41 l0_1 x4_1).f0)) = true := decide_eq_true c10
        clear c10
        by_cases c11 : ((rd_T41 l0_1 x4_1).f0) < (x3_1.length : Int)
        ·rw [if_pos c11] at H
         have c11b0 : decide (((rd_T41 l0_1 x4_1).f0) < (x3_1.length : Int)) = true := decide_eq_true c11
         clear c11
         by_cases c12 : (rd_L2 x3_1 ((rd_T41 l0_1 x4_1).f0)).length < 17592186044416
         ·rw [if_pos c12] at H
          have LMc12 := Aside0.mk c12
          clear c12
          obtain ⟨y255, hy255⟩ : ∃ y_ : List Int, y_ = ((rd_L2 x3_1 ((rd_T41 l0_1 x4_1).f0)) ++ [wrap64 (2 * x4_1)]) := ⟨_, rfl⟩
          replace H : ((some (x3_1.set (((rd_T41 l0_1 x4_1).f0) : Int).toNat y255 : List (List Int))).bind fun y258 => (if 0 ≤ ((rd_T41 l0_1 x4_1).f1) then (if ((rd_T41 l0_1 x4_1).f1) < (x3_1.length : Int) then (if (rd_L2 y258 ((rd_T41 l0_1 x4_1).f1)).length < 17592186044416 then (tangramref04_Out.l0 k1 (y258.set (((rd_T41 l0_1 x4_1).f1) : Int).toNat ((rd_L2 y258 ((rd_T41 l0_1 x4_1).f1)) ++ [wrap64 ((wrap64 (2 * x4_1)) + 1)])) (wrap64 (x4_1 + 1)) a0_0 l0_1) else (none)) else (none)) else (none))) = some r := by first | (rw [hy255]; exact H) | exact H
          have Ny255 := Aside0.mk hy255
          clear hy255
          obtain ⟨y258, hy258⟩ : ∃ y_ : List (List Int), y_ = (x3_1.set (((rd_T41 l0_1 x4_1).f0) : Int).toNat y255) := ⟨_, rfl⟩
          replace H : (if 0 ≤ ((rd_T41 l0_1 x4_1).f1) then (if ((rd_T41 l0_1 x4_1).f1) < (x3_1.length : Int) then (if (rd_L2 y258 ((rd_T41 l0_1 x4_1).f1)).length < 17592186044416 then (tangramref04_Out.l0 k1 (y258.set (((rd_T41 l0_1 x4_1).f1) : Int).toNat ((rd_L2 y258 ((rd_T41 l0_1 x4_1).f1)) ++ [wrap64 ((wrap64 (2 * x4_1)) + 1)])) (wrap64 (x4_1 + 1)) a0_0 l0_1) else (none)) else (none)) else (none)) = some r := by first | (rw [hy258]; exact H) | exact H
          have Ny258 := Aside0.mk hy258
          clear hy258
          by_cases c14 : 0 ≤ ((rd_T41 l0_1 x4_1).f1)
          ·rw [if_pos c14] at H
           have c14b0 : decide (0 ≤ ((rd_T41 l0_1 x4_1).f1)) = true := decide_eq_true c14
           clear c14
           by_cases c15 : ((rd_T41 l0_1 x4_1).f1) < (x3_1.length : Int)
           ·rw [if_pos c15] at H
            have c15b0 : decide (((rd_T41 l0_1 x4_1).f1) < (x3_1.length : Int)) = true := decide_eq_true c15
            clear c15
            by_cases c16 : (rd_L2 y258 ((rd_T41 l0_1 x4_1).f1)).length < 17592186044416
            ·rw [if_pos c16] at H
             have LMc16 := Aside0.mk c16
             clear c16
             obtain ⟨y260, hy260⟩ : ∃ y_ : List Int, y_ = ((rd_L2 y258 ((rd_T41 l0_1 x4_1).f1)) ++ [wrap64 ((wrap64 (2 * x4_1)) + 1)]) := ⟨_, rfl⟩
             replace H : (tangramref04_Out.l0 k1 (y258.set (((rd_T41 l0_1 x4_1).f1) : Int).toNat y260) (wrap64 (x4_1 + 1)) a0_0 l0_1) = some r := by first | (rw [hy260]; exact H) | exact H
             have Ny260 := Aside0.mk hy260
             clear hy260
             obtain ⟨y263, hy263⟩ : ∃ y_ : List (List Int), y_ = (y258.set (((rd_T41 l0_1 x4_1).f1) : Int).toNat y260) := ⟨_, rfl⟩
             replace H : (tangramref04_Out.l0 k1 y263 (wrap64 (x4_1 + 1)) a0_0 l0_1) = some r := by first | (rw [hy263]; exact H) | exact H
             have Ny263 := Aside0.mk hy263
             clear hy263
             have H' := Aside0.mk H
             clear H
             have hcz18_0 := cz9 BK248 0
             have hcz18_1 := cz9 BK248 1
             have hfz18_0 := blk_frozen BK248.out 0
             have hfz18_1 := blk_frozen BK248.out 1
             have p252 : 0 ≤ (x4_1 : Int) := od9
             have q252 : x4_1 < (l0_1.length : Int) := od9
             obtain ⟨ad252, e252, hx252_0, hx252_1⟩ := at_T41 HR0_1.out x4_1 p252 q252
             cases e252
             replace hx252_0 := (HB.out.cell (World.block_lt_of_cell? w _ hx252_0)).trans hx252_0
             replace hx252_1 := (HB.out.cell (World.block_lt_of_cell? w _ hx252_1)).trans hx252_1
             replace p252 := eq_true p252
             replace q252 := eq_true q252
             have p253 : 0 ≤ (x4_1 : Int) := od9
             have q253 : x4_1 < (l0_1.length : Int) := od9
             obtain ⟨ad253, e253, hx253_0, hx253_1⟩ := at_T41 HR0_1.out x4_1 p253 q253
             obtain rfl : ad252 = ad253 := (by injection e253)
             replace hx253_0 := (HB.out.cell (World.block_lt_of_cell? w _ hx253_0)).trans hx253_0
             replace hx253_1 := (HB.out.cell (World.block_lt_of_cell? w _ hx253_1)).trans hx253_1
             replace p253 := eq_true p253
             replace q253 := eq_true q253
             obtain ⟨Ao19, co19, eo19⟩ := Kd.S_slice HO_3.out
             subst eo19
             have p254 : 0 ≤ (((rd_T41 l0_1 x4_1).f0) : Int) := od9
             have q254 : ((rd_T41 l0_1 x4_1).f0) < (x3_1.length : Int) := od9
             obtain ⟨ad254, A254_0, c254_0, e254, hx254_0, hl254_0, hi254_0⟩ := at_L2 (Kd.S_reads' HO_3.out).2.2 ((rd_T41 l0_1 x4_1).f0) p254 q254
             cases e254
             obtain ⟨ce254, hce254, hMe254, hcc254⟩ := Kd.S_get HO_3.out [] ((rd_T41 l0_1 x4_1).f0) p254 (by first | exact q254 | exact od9 | (have e_ := (Kd.S_reads' HO_3.out).1; omega))
             obtain ⟨ve254_0, rfl, ge254_0⟩ := hMe254
             have hv254_0 := hcc254 0 _ rfl
             rw [Nat.add_zero, show ((Kd.slice 3 (Kd.int .i64))).sz = 1 from rfl, Nat.mul_one] at hv254_0
             replace hv254_0 := Option.some.inj (hv254_0.symm.trans hx254_0)
             rw [hv254_0] at ge254_0
             have HL254_0 := Aside0.mk (show Kd.R (Kd.int .i64) 3 _ _ _ _ (rd_L2 x3_1 ((rd_T41 l0_1 x4_1).f0)) from ge254_0)
             clear hv254_0 ge254_0
             have HX254_0 := Aside0.mk hx254_0
             clear hcc254 hce254
             have HR254_0 := Aside0.mk hi254_0
             have HC254_0 := Aside0.mk hl254_0
             clear hi254_0 hl254_0
             replace p254 := eq_true p254
             replace q254 := eq_true q254
             obtain ⟨go20, co20, eo20, gb20, gl20, cl20, HG20⟩ := Kd.S_form HO_3.out (by have h_ : (((rd_T41 l0_1 x4_1).f0) : Int) < ((x3_1.length : Int) : Int) := od9; have h2_ : 0 ≤ (((rd_T41 l0_1 x4_1).f0) : Int) := od9; omega)
             (first | cases eo20 | (injection eo20 with ea_ en_ ec_; (first | subst ea_ | (injection ea_ with ea_; subst ea_)); subst ec_; clear en_))
             have GB20 := Aside0.mk gb20
             have GG20 := Aside0.mk HG20
             clear gb20 gl20 HG20
             (first | simp only [add_plain] at hx254_0 | skip)
             obtain ⟨oki20, ce20, hcl20, hM20, hcc20, _, _, hH20⟩ := Kd.S_elem HO_3.out [] (((rd_T41 l0_1 x4_1).f0) : Int) od9 (by have h_ : (((rd_T41 l0_1 x4_1).f0) : Int) < ((x3_1.length : Int) : Int) := od9; first | exact h_ | (have e_ := (Kd.S_reads' HO_3.out).1; omega) | simpa using h_)
             obtain ⟨ve20_0, rfl, ge20_0⟩ := hM20
             have hv20 := hcc20 0 _ rfl
             have hX20 := HX254_0.out
             (try simp only [add_plain] at hX20)
             (try simp only [Nat.add_zero] at hv20)
             (try rw [show ((Kd.slice 3 (Kd.int .i64))).sz = 1 from rfl, Nat.mul_one] at hv20)
             replace hv20 := Option.some.inj (hv20.symm.trans hX20)
             subst hv20
             clear hX20 hcc20 hcl20
             have UU20 := Aside0.mk (show Kd.R (Kd.int .i64) 3 _ w.heap.size oki20 (.slice A254_0 (rd_L2 x3_1 ((rd_T41 l0_1 x4_1).f0)).length c254_0) (rd_L2 x3_1 ((rd_T41 l0_1 x4_1).f0)) from ge20_0)
             have HH20 := Aside0.mk hH20
             have HN20 := Aside0.mk (Kd.S_reads' HO_3.out).1
             clear hH20 ge20_0
             (try go_wp2_with fail)
             repeat (go_quiet (fail); try go_wp2_with (first | ((with_reducible refine gate_builtin (b := .append) (xs := #[.tmp 34, .tmp 37]) rfl ?_); at_builtin; refine Kd.R_append (Kd.int .i64) (w0 := w) w.heap.size rfl (.tmp 34) (.tmp 37) 27 3 (.int .i64 0) 8 rfl Try.underlying27 info3 rfl (by decide) (by omega) (.slice A254_0 (rd_L2 x3_1 ((rd_T41 l0_1 x4_1).f0)).length c254_0) (rd_L2 x3_1 ((rd_T41 l0_1 x4_1).f0)) (wrap64 (2 * x4_1)) [.int .i64 (wrap64 (2 * x4_1))] (fun k_ => oki20 k_ ∨ ((fun _ => True)) k_ ∧ wr.heap.size ≤ k_) (fun _ => False) rfl rfl ?aP (fun _ hk => hk.elim) ?aF ?aO ?aB ?aS ?aL ?_; (case aP => exact rfl); (case aB => exact (bl9 HB)); (case aF => exact (fun k_ hk => .inr ⟨trivial, hk⟩)); (case aO => exact (by (with_reducible repeat (first | apply Kd.R_alloc | apply Kd.R_drewN | apply Kd.R_drew)); exact Kd.R_mono UU20.out (fun _ hk => .inl hk))); (case aS => exact (sz9 HB)); (case aL => have := LMc12.out; omega); intro v256 w21 ho hb hg hat; rw [← Ny255.out] at ho; have HO257 := Aside0.mk (ho); replace BK248 := Aside0.mk (blk_grown (g := gb248) (o := .cells #[.int .i64 a0_0, .slice (some ad252) l0_1.length c0_1] 24 (0, 0)) (by (with_reducible repeat (first | refine blk_drewN ?_ _ | refine blk_drew ?_ | refine blk_alloc ?_ _)); exact BK248.out) hg (Kd.R_ne HL254_0.out BK248.out (by decide))); replace HB := Aside0.mk (hb); replace HH20 := Aside0.mk (Kd.H_grown (Kd.H_widen (by repeat (first | exact HH20.out | refine Kd.H_alloc ?_ _ | refine Kd.H_drewN ?_ _ | refine Kd.H_drew ?_))) hg (fun k_ e_ => .inl (UU20.out.1 k_ e_))); clear UU20 HO_3 HL254_0; clear ho hb hg hat; have p13 : 0 ≤ (((rd_T41 l0_1 x4_1).f0) : Int) := od9; have q13 : (((rd_T41 l0_1 x4_1).f0) : Int) < ((x3_1.length : Int) : Int) := od9; replace p13 := eq_true p13; replace q13 := eq_true q13; obtain ⟨Ao24, co24, eo24⟩ := Kd.R_slice HO257.out; subst eo24; obtain ⟨_, _, hraw22, _, _, hcc22, _⟩ := Kd.H_raw HH20.out od9 (by have h_ : (((rd_T41 l0_1 x4_1).f0) : Int) < ((x3_1.length : Int) : Int) := od9; first | exact h_ | (have e_ := (HN20.out); omega) | simpa using h_); obtain ⟨_, hfr22⟩ := Kd.H_at HH20.out od9 (by have h_ : (((rd_T41 l0_1 x4_1).f0) : Int) < ((x3_1.length : Int) : Int) := od9; first | exact h_ | (have e_ := (HN20.out); omega) | simpa using h_); have hx22_0 := hcc22 0 _ rfl; have hf22_0 := hfr22 0; (try simp only [Nat.add_zero] at hx22_0 hf22_0); (try rw [show ((Kd.slice 3 (Kd.int .i64))).sz = 1 from rfl, Nat.mul_one] at hx22_0); (try rw [show ((Kd.slice 3 (Kd.int .i64))).sz = 1 from rfl, Nat.mul_one] at hf22_0); have HP22 := Kd.S_seg0 HH20.out od9 (by have h_ : (((rd_T41 l0_1 x4_1).f0) : Int) < ((x3_1.length : Int) : Int) := od9; first | exact h_ | (have e_ := (HN20.out); omega) | simpa using h_) (seg := [.slice Ao24 y255.length co24]) (j := 0) (show 1 ≤ 1 from by decide) (x' := y255) (Kd.M_row HO257.out) (fun _ hk => hk); (try simp only [show ((Kd.slice 3 (Kd.int .i64))).sz = 1 from rfl, Nat.mul_one, Nat.add_zero] at HP22); clear hcc22 hfr22) | ((with_reducible refine gate_store (t := 27) (p := 39) rfl ?_); (try (rw [drewN_self w21]; generalize hq_ : World.drewN w21 _ = w21; replace HO_3 := Aside0.mk (Kd.S_at hq_ HO_3.out); replace BK248 := Aside0.mk (blk_at hq_ BK248.out); replace HB := Aside0.mk (below_at hq_ HB.out); clear hq_; (try (obtain ⟨Ao24, co24, eo24⟩ := Kd.R_slice HO257.out)); (try (subst eo24)); (try (obtain ⟨_, _, hraw22, _, _, hcc22, _⟩ := Kd.H_raw HH20.out od9 (by have h_ : (((rd_T41 l0_1 x4_1).f0) : Int) < ((x3_1.length : Int) : Int) := od9; first | exact h_ | (have e_ := (HN20.out); omega) | simpa using h_))); (try (obtain ⟨_, hfr22⟩ := Kd.H_at HH20.out od9 (by have h_ : (((rd_T41 l0_1 x4_1).f0) : Int) < ((x3_1.length : Int) : Int) := od9; first | exact h_ | (have e_ := (HN20.out); omega) | simpa using h_))); (try (have hx22_0 := hcc22 0 _ rfl)); (try (have hf22_0 := hfr22 0)); (try (try simp only [Nat.add_zero] at hx22_0 hf22_0)); (try (try rw [show ((Kd.slice 3 (Kd.int .i64))).sz = 1 from rfl, Nat.mul_one] at hx22_0)); (try (try rw [show ((Kd.slice 3 (Kd.int .i64))).sz = 1 from rfl, Nat.mul_one] at hf22_0)); (try (have HP22 := Kd.S_seg0 HH20.out od9 (by have h_ : (((rd_T41 l0_1 x4_1).f0) : Int) < ((x3_1.length : Int) : Int) := od9; first | exact h_ | (have e_ := (HN20.out); omega) | simpa using h_) (seg := [.slice Ao24 y255.length co24]) (j := 0) (show 1 ≤ 1 from by decide) (x' := y255) (Kd.M_row HO257.out) (fun _ hk => hk))); (try (try simp only [show ((Kd.slice 3 (Kd.int .i64))).sz = 1 from rfl, Nat.mul_one, Nat.add_zero] at HP22)); (try (clear hcc22 hfr22)))); refine store_event (t := 27) (p := 39) (v := ?vo_w23) (w1 := (w21.setCell ⟨go20, (((rd_T41 l0_1 x4_1).f0) : Int).toNat, none⟩ (.slice Ao24 y255.length co24))) ?hg ?ho ?hn ?hr ?_; (case ho => rfl); (case hg => rfl); (case hn => rfl); (case hr => first | (go_simp; done) | (go_simp; rfl)); intro w23 hw; have hg : w21.grownBy w23 (some go20) := (by rw [hw]; exact HP22.2); have hp_ : Kd.S (Kd.slice 3 (Kd.int .i64)) 27 w23 w.heap.size (fun _ => True) (.slice (some ⟨go20, 0, none⟩) x3_1.length co19) y258 := (by rw [hw, Ny258.out]; exact HP22.1); clear HP22; have HO_3 := Aside0.mk (hp_); replace BK248 := Aside0.mk (blk_grown (g := gb248) (o := .cells #[.int .i64 a0_0, .slice (some ad252) l0_1.length c0_1] 24 (0, 0)) (by (with_reducible repeat (first | refine blk_drewN ?_ _ | refine blk_drew ?_ | refine blk_alloc ?_ _)); exact BK248.out) hg (Kd.R_ne hraw22 BK248.out (by decide))); replace HB := Aside0.mk ((by rw [hw]; exact below_set HB.out GB20.out : Below w.heap.size w w23)); clear HO257 HH20; clear hg hw hp_ hraw22; have p259 : 0 ≤ (((rd_T41 l0_1 x4_1).f1) : Int) := od9; have q259 : ((rd_T41 l0_1 x4_1).f1) < (y258.length : Int) := (by have h_ : (((rd_T41 l0_1 x4_1).f1) : Int) < ((x3_1.length : Int) : Int) := od9; first | (have e_ := (Kd.S_reads' HO_3.out).1; omega) | simpa only [Ny258.out, List.length_set] using h_); have ql259 : ((((rd_T41 l0_1 x4_1).f1) : Int) < ((x3_1.length : Int) : Int)) = True := eq_true od9; obtain ⟨ad259, A259_0, c259_0, e259, hx259_0, hl259_0, hi259_0⟩ := at_L2 (Kd.S_reads' HO_3.out).2.2 ((rd_T41 l0_1 x4_1).f1) p259 q259; obtain rfl : (⟨go20, 0, none⟩ : Addr) = ad259 := (by injection e259); obtain ⟨ce259, hce259, hMe259, hcc259⟩ := Kd.S_get HO_3.out [] ((rd_T41 l0_1 x4_1).f1) p259 (by first | exact q259 | exact od9 | (have e_ := (Kd.S_reads' HO_3.out).1; omega)); obtain ⟨ve259_0, rfl, ge259_0⟩ := hMe259; have hv259_0 := hcc259 0 _ rfl; rw [Nat.add_zero, show ((Kd.slice 3 (Kd.int .i64))).sz = 1 from rfl, Nat.mul_one] at hv259_0; replace hv259_0 := Option.some.inj (hv259_0.symm.trans hx259_0); rw [hv259_0] at ge259_0; have HL259_0 := Aside0.mk (show Kd.R (Kd.int .i64) 3 _ _ _ _ (rd_L2 y258 ((rd_T41 l0_1 x4_1).f1)) from ge259_0); clear hv259_0 ge259_0; have HX259_0 := Aside0.mk hx259_0; clear hcc259 hce259; (first | simp only [add_plain] at hx259_0 | simp only [add_at] at hx259_0 | simp only [Addr.add, Nat.zero_add] at hx259_0 | skip); have HR259_0 := Aside0.mk hi259_0; have HC259_0 := Aside0.mk hl259_0; clear hi259_0 hl259_0; replace p259 := eq_true p259; replace q259 := eq_true q259; obtain ⟨oki25, ce25, hcl25, hM25, hcc25, _, _, hH25⟩ := Kd.S_elem HO_3.out [] (((rd_T41 l0_1 x4_1).f1) : Int) od9 (by have h_ : (((rd_T41 l0_1 x4_1).f1) : Int) < ((x3_1.length : Int) : Int) := od9; first | exact h_ | (have e_ := (Kd.S_reads' HO_3.out).1; omega) | simpa using h_); obtain ⟨ve25_0, rfl, ge25_0⟩ := hM25; have hv25 := hcc25 0 _ rfl; have hX25 := HX259_0.out; (try simp only [add_plain] at hX25); (try simp only [Nat.add_zero] at hv25); (try rw [show ((Kd.slice 3 (Kd.int .i64))).sz = 1 from rfl, Nat.mul_one] at hv25); replace hv25 := Option.some.inj (hv25.symm.trans hX25); subst hv25; clear hX25 hcc25 hcl25; have UU25 := Aside0.mk (show Kd.R (Kd.int .i64) 3 _ w.heap.size oki25 (.slice A259_0 (rd_L2 y258 ((rd_T41 l0_1 x4_1).f1)).length c259_0) (rd_L2 y258 ((rd_T41 l0_1 x4_1).f1)) from ge25_0); have HH25 := Aside0.mk hH25; have HN25 := Aside0.mk (Kd.S_reads' HO_3.out).1; clear hH25 ge25_0) | ((with_reducible refine gate_builtin (b := .append) (xs := #[.tmp 45, .tmp 49]) rfl ?_); at_builtin; refine Kd.R_append (Kd.int .i64) (w0 := w) w.heap.size rfl (.tmp 45) (.tmp 49) 27 3 (.int .i64 0) 8 rfl Try.underlying27 info3 rfl (by decide) (by omega) (.slice A259_0 (rd_L2 y258 ((rd_T41 l0_1 x4_1).f1)).length c259_0) (rd_L2 y258 ((rd_T41 l0_1 x4_1).f1)) (wrap64 ((wrap64 (2 * x4_1)) + 1)) [.int .i64 (wrap64 ((wrap64 (2 * x4_1)) + 1))] (fun k_ => oki25 k_ ∨ ((fun _ => True)) k_ ∧ w23.heap.size ≤ k_) (fun _ => False) rfl rfl ?aP (fun _ hk => hk.elim) ?aF ?aO ?aB ?aS ?aL ?_; (case aP => exact rfl); (case aB => exact (bl9 HB)); (case aF => exact (fun k_ hk => .inr ⟨trivial, hk⟩)); (case aO => exact (by (with_reducible repeat (first | apply Kd.R_alloc | apply Kd.R_drewN | apply Kd.R_drew)); exact Kd.R_mono UU25.out (fun _ hk => .inl hk))); (case aS => exact (sz9 HB)); (case aL => have := LMc16.out; omega); intro v261 w26 ho hb hg hat; rw [← Ny260.out] at ho; have HO262 := Aside0.mk (ho); replace BK248 := Aside0.mk (blk_grown (g := gb248) (o := .cells #[.int .i64 a0_0, .slice (some ad252) l0_1.length c0_1] 24 (0, 0)) (by (with_reducible repeat (first | refine blk_drewN ?_ _ | refine blk_drew ?_ | refine blk_alloc ?_ _)); exact BK248.out) hg (Kd.R_ne HL259_0.out BK248.out (by decide))); replace HB := Aside0.mk (hb); replace HH25 := Aside0.mk (Kd.H_grown (Kd.H_widen (by repeat (first | exact HH25.out | refine Kd.H_alloc ?_ _ | refine Kd.H_drewN ?_ _ | refine Kd.H_drew ?_))) hg (fun k_ e_ => .inl (UU25.out.1 k_ e_))); clear HO_3 UU25 HL259_0; clear ho hb hg hat; have p17 : 0 ≤ (((rd_T41 l0_1 x4_1).f1) : Int) := od9; have q17 : (((rd_T41 l0_1 x4_1).f1) : Int) < ((x3_1.length : Int) : Int) := od9; replace p17 := eq_true p17; replace q17 := eq_true q17; obtain ⟨Ao29, co29, eo29⟩ := Kd.R_slice HO262.out; subst eo29; obtain ⟨_, _, hraw27, _, _, hcc27, _⟩ := Kd.H_raw HH25.out od9 (by have h_ : (((rd_T41 l0_1 x4_1).f1) : Int) < ((x3_1.length : Int) : Int) := od9; first | exact h_ | (have e_ := (HN25.out); omega) | simpa using h_); obtain ⟨_, hfr27⟩ := Kd.H_at HH25.out od9 (by have h_ : (((rd_T41 l0_1 x4_1).f1) : Int) < ((x3_1.length : Int) : Int) := od9; first | exact h_ | (have e_ := (HN25.out); omega) | simpa using h_); have hx27_0 := hcc27 0 _ rfl; have hf27_0 := hfr27 0; (try simp only [Nat.add_zero] at hx27_0 hf27_0); (try rw [show ((Kd.slice 3 (Kd.int .i64))).sz = 1 from rfl, Nat.mul_one] at hx27_0); (try rw [show ((Kd.slice 3 (Kd.int .i64))).sz = 1 from rfl, Nat.mul_one] at hf27_0); have HP27 := Kd.S_seg0 HH25.out od9 (by have h_ : (((rd_T41 l0_1 x4_1).f1) : Int) < ((x3_1.length : Int) : Int) := od9; first | exact h_ | (have e_ := (HN25.out); omega) | simpa using h_) (seg := [.slice Ao29 y260.length co29]) (j := 0) (show 1 ≤ 1 from by decide) (x' := y260) (Kd.M_row HO262.out) (fun _ hk => hk); (try simp only [show ((Kd.slice 3 (Kd.int .i64))).sz = 1 from rfl, Nat.mul_one, Nat.add_zero] at HP27); clear hcc27 hfr27) | ((with_reducible refine gate_store (t := 27) (p := 51) rfl ?_); (try (rw [drewN_self w26]; generalize hq_ : World.drewN w26 _ = w26; replace HO_3 := Aside0.mk (Kd.S_at hq_ HO_3.out); replace BK248 := Aside0.mk (blk_at hq_ BK248.out); replace HB := Aside0.mk (below_at hq_ HB.out); clear hq_; (try (obtain ⟨Ao29, co29, eo29⟩ := Kd.R_slice HO262.out)); (try (subst eo29)); (try (obtain ⟨_, _, hraw27, _, _, hcc27, _⟩ := Kd.H_raw HH25.out od9 (by have h_ : (((rd_T41 l0_1 x4_1).f1) : Int) < ((x3_1.length : Int) : Int) := od9; first | exact h_ | (have e_ := (HN25.out); omega) | simpa using h_))); (try (obtain ⟨_, hfr27⟩ := Kd.H_at HH25.out od9 (by have h_ : (((rd_T41 l0_1 x4_1).f1) : Int) < ((x3_1.length : Int) : Int) := od9; first | exact h_ | (have e_ := (HN25.out); omega) | simpa using h_))); (try (have hx27_0 := hcc27 0 _ rfl)); (try (have hf27_0 := hfr27 0)); (try (try simp only [Nat.add_zero] at hx27_0 hf27_0)); (try (try rw [show ((Kd.slice 3 (Kd.int .i64))).sz = 1 from rfl, Nat.mul_one] at hx27_0)); (try (try rw [show ((Kd.slice 3 (Kd.int .i64))).sz = 1 from rfl, Nat.mul_one] at hf27_0)); (try (have HP27 := Kd.S_seg0 HH25.out od9 (by have h_ : (((rd_T41 l0_1 x4_1).f1) : Int) < ((x3_1.length : Int) : Int) := od9; first | exact h_ | (have e_ := (HN25.out); omega) | simpa using h_) (seg := [.slice Ao29 y260.length co29]) (j := 0) (show 1 ≤ 1 from by decide) (x' := y260) (Kd.M_row HO262.out) (fun _ hk => hk))); (try (try simp only [show ((Kd.slice 3 (Kd.int .i64))).sz = 1 from rfl, Nat.mul_one, Nat.add_zero] at HP27)); (try (clear hcc27 hfr27)))); refine store_event (t := 27) (p := 51) (v := ?vo_w28) (w1 := (w26.setCell ⟨go20, (((rd_T41 l0_1 x4_1).f1) : Int).toNat, none⟩ (.slice Ao29 y260.length co29))) ?hg ?ho ?hn ?hr ?_; (case ho => rfl); (case hg => rfl); (case hn => rfl); (case hr => first | (go_simp; done) | (go_simp; rfl)); intro w28 hw; have hg : w26.grownBy w28 (some go20) := (by rw [hw]; exact HP27.2); have hp_ : Kd.S (Kd.slice 3 (Kd.int .i64)) 27 w28 w.heap.size (fun _ => True) (.slice (some ⟨go20, 0, none⟩) x3_1.length co19) y263 := (by rw [hw, Ny263.out]; exact HP27.1); clear HP27; have HO_3 := Aside0.mk (hp_); replace BK248 := Aside0.mk (blk_grown (g := gb248) (o := .cells #[.int .i64 a0_0, .slice (some ad252) l0_1.length c0_1] 24 (0, 0)) (by (with_reducible repeat (first | refine blk_drewN ?_ _ | refine blk_drew ?_ | refine blk_alloc ?_ _)); exact BK248.out) hg (Kd.R_ne hraw27 BK248.out (by decide))); replace HB := Aside0.mk ((by rw [hw]; exact below_set HB.out GB20.out : Below w.heap.size w w28)); clear HH25 HO262; clear hg hw hp_ hraw27)))
             go_roundg k1
             case measure => have := HK1.out; omega
             case rel => exact ⟨(y263), (wrap64 (x4_1 + 1)), an9, H', ⟨by have := HK1.out; omega⟩, ⟨by (with_reducible repeat (first | apply Kd.S_alloc | apply Kd.S_drewN | apply Kd.S_drew)); exact HO_3.out⟩, bk9 BK248, ⟨bl9 HB⟩⟩
            ·rw [if_neg c16] at H
             exact absurd H (by simp)
           ·rw [if_neg c15] at H
            exact absurd H (by simp)
          ·rw [if_neg c14] at H
           exact absurd H (by simp)
         ·rw [if_neg c12] at H
          exact absurd H (by simp)
        ·rw [if_neg c11] at H
         exact absurd H (by simp)
       ·rw [if_neg c10] at H
        exact absurd H (by simp)
      ·rw [if_neg c9] at H
       exact absurd H (by simp)
     ·rw [if_neg c8] at H
      have c8b0 : decide (x4_1 < (l0_1.length : Int)) = false := decide_eq_false c8
      clear c8
      obtain rfl := Option.some.inj H
      have hcz30_0 := cz9 BK248 0
      have hcz30_1 := cz9 BK248 1
      have hfz30_0 := blk_frozen BK248.out 0
      have hfz30_1 := blk_frozen BK248.out 1
      go_wp2
      repeat (go_quiet (fail); try go_wp2_with fail)
      go_ret
      exact ⟨_, er9, by (with_reducible repeat (first | apply Kd.S_alloc | apply Kd.S_drewN | apply Kd.S_drew)); exact HO_3.out, bl9 HB⟩
  ·rw [if_neg c3] at H
   exact absurd H (by simp)
 ·rw [if_neg c2] at H
  exact absurd H (by simp)
end GAll
namespace Peel
open Mem
structure Bl where
 p : Nat
 f : Nat
 s : Nat
 x : Nat
 v : Nat
 e : Nat
 N : Nat
 A : Option Addr
 cA : Nat
 gE : Value
def Own (B : Bl) (k : Nat) : Prop := k = B.s ∨ k = B.x ∨ k = B.v ∨ k = B.e
structure At (w0 w : World) (B : Bl) (ar : List (List Int)) (a b c : Int) (st nx pv nr : List Int) : Prop where
 old : Below w0.heap.size w0 w
 frame : w0.heap[B.f]? = some (.cells #[.int .i64 (B.N : Int), B.gE, .slice B.A B.N B.cA, .int .i64 a, .int .i64 b, .int .i64 c] 69 (0, 0))
 rows : Kd.C KR w0 B.A ar.length ar
 lar : ar.length = B.N
 lo : ∀ k, k = B.p ∨ Own B k → w0.heap.size ≤ k
 peel : w.heap[B.p]? = some (.cells #[.pointer (some ⟨B.f, 0, none⟩), .slice (some ⟨B.s, 0, none⟩) B.N B.N, .slice (some ⟨B.x, 0, none⟩) B.N B.N, .slice (some ⟨B.v, 0, none⟩) B.N B.N, .slice (some ⟨B.e, 0, none⟩) B.N B.N] 66 (0, 0))
 s : IRow w B.s st
 x : IRow w B.x nx
 v : IRow w B.v pv
 e : IRow w B.e nr
 ls : st.length = B.N
 lx : nx.length = B.N
 lv : pv.length = B.N
 le : nr.length = B.N
 ne : B.s ≠ B.x ∧ B.s ≠ B.v ∧ B.s ≠ B.e ∧ B.x ≠ B.v ∧ B.x ≠ B.e ∧ B.v ≠ B.e ∧ B.p ≠ B.s ∧ B.p ≠ B.x ∧ B.p ≠ B.v ∧ B.p ≠ B.e
section
variable {w0 w w' : World} {B : Bl} {ar : List (List Int)} {a b c : Int} {st nx pv nr : List Int}
theorem At.frame_ {S : Nat → Prop} (h : At w0 w B ar a b c st nx pv nr) (f : Mem.Frame S w w') (hS : ∀ k, S k → w0.heap.size ≤ k ∧ k ≠ B.p ∧ ¬ Own B k) : At w0 w' B ar a b c st nx pv nr := by
 have k1 : ∀ k, k = B.p ∨ Own B k → ¬ S k := fun k hk hs => by
  obtain ⟨_, q1, q2⟩ := hS k hs
  rcases hk with hk | hk
  ·exact q1 hk
  ·exact q2 hk
 exact ⟨h.old.trans (f.below h.old.size (fun k hk => (hS k hk).1)), h.frame, h.rows, h.lar, h.lo, f.blk h.peel (k1 _ (.inl rfl)), h.s.frame f (k1 _ (.inr (.inl rfl))), h.x.frame f (k1 _ (.inr (.inr (.inl rfl)))), h.v.frame f (k1 _ (.inr (.inr (.inr (.inl rfl))))), h.e.frame f (k1 _ (.inr (.inr (.inr (.inr rfl))))), h.ls, h.lx, h.lv, h.le, h.ne⟩
theorem At.below (h : At w0 w B ar a b c st nx pv nr) (hb : Below w.heap.size w w') : At w0 w' B ar a b c st nx pv nr := by
 have f : Mem.Frame (fun _ => False) w w' := Mem.Frame.of_below hb
 exact h.frame_ f (fun k hk => hk.elim)
theorem At.drew (h : At w0 w B ar a b c st nx pv nr) : At w0 w.drew B ar a b c st nx pv nr := h.below ((Below.refl _ _).drew)
theorem At.put1 (h : At w0 w B ar a b c st nx pv nr) (i : Nat) (y : Int) : At w0 (w.setCell ⟨B.s, i, none⟩ (.int .i64 y)) B ar a b c (st.set i y) nx pv nr := by
 obtain ⟨n1, n2, n3, n4, n5, n6, n7, n8, n9, n10⟩ := h.ne
 exact ⟨h.old.setCell (p := ⟨B.s, i, none⟩) (h.lo _ (.inr (.inl rfl))) _, h.frame, h.rows, h.lar, h.lo, heap_ne h.peel n7, h.s.put i y, h.x.ne _ (fun e => n1 e.symm), h.v.ne _ (fun e => n2 e.symm), h.e.ne _ (fun e => n3 e.symm), by rw [List.length_set]; exact h.ls, h.lx, h.lv, h.le, h.ne⟩
theorem At.put2 (h : At w0 w B ar a b c st nx pv nr) (i : Nat) (y : Int) : At w0 (w.setCell ⟨B.x, i, none⟩ (.int .i64 y)) B ar a b c st (nx.set i y) pv nr := by
 obtain ⟨n1, n2, n3, n4, n5, n6, n7, n8, n9, n10⟩ := h.ne
 exact ⟨h.old.setCell (p := ⟨B.x, i, none⟩) (h.lo _ (.inr (.inr (.inl rfl)))) _, h.frame, h.rows, h.lar, h.lo, heap_ne h.peel n8, h.s.ne _ n1, h.x.put i y, h.v.ne _ (fun e => n4 e.symm), h.e.ne _ (fun e => n5 e.symm), h.ls, by rw [List.length_set]; exact h.lx, h.lv, h.le, h.ne⟩
theorem At.put3 (h : At w0 w B ar a b c st nx pv nr) (i : Nat) (y : Int) : At w0 (w.setCell ⟨B.v, i, none⟩ (.int .i64 y)) B ar a b c st nx (pv.set i y) nr := by
 obtain ⟨n1, n2, n3, n4, n5, n6, n7, n8, n9, n10⟩ := h.ne
 exact ⟨h.old.setCell (p := ⟨B.v, i, none⟩) (h.lo _ (.inr (.inr (.inr (.inl rfl))))) _, h.frame, h.rows, h.lar, h.lo, heap_ne h.peel n9, h.s.ne _ n2, h.x.ne _ n4, h.v.put i y, h.e.ne _ (fun e => n6 e.symm), h.ls, h.lx, by rw [List.length_set]; exact h.lv, h.le, h.ne⟩
theorem At.put4 (h : At w0 w B ar a b c st nx pv nr) (i : Nat) (y : Int) : At w0 (w.setCell ⟨B.e, i, none⟩ (.int .i64 y)) B ar a b c st nx pv (nr.set i y) := by
 obtain ⟨n1, n2, n3, n4, n5, n6, n7, n8, n9, n10⟩ := h.ne
 exact ⟨h.old.setCell (p := ⟨B.e, i, none⟩) (h.lo _ (.inr (.inr (.inr (.inr rfl))))) _, h.frame, h.rows, h.lar, h.lo, heap_ne h.peel n10, h.s.ne _ n3, h.x.ne _ n5, h.v.ne _ n6, h.e.put i y, h.ls, h.lx, h.lv, by rw [List.length_set]; exact h.le, h.ne⟩
theorem At.c0 (h : At w0 w B ar a b c st nx pv nr) : w.cell? ⟨B.p, 0, none⟩ = some (.pointer (some ⟨B.f, 0, none⟩)) := heap_cell h.peel rfl
theorem At.c1 (h : At w0 w B ar a b c st nx pv nr) : w.cell? ⟨B.p, 1, none⟩ = some (.slice (some ⟨B.s, 0, none⟩) B.N B.N) := heap_cell h.peel rfl
theorem At.c2 (h : At w0 w B ar a b c st nx pv nr) : w.cell? ⟨B.p, 2, none⟩ = some (.slice (some ⟨B.x, 0, none⟩) B.N B.N) := heap_cell h.peel rfl
theorem At.c3 (h : At w0 w B ar a b c st nx pv nr) : w.cell? ⟨B.p, 3, none⟩ = some (.slice (some ⟨B.v, 0, none⟩) B.N B.N) := heap_cell h.peel rfl
theorem At.c4 (h : At w0 w B ar a b c st nx pv nr) : w.cell? ⟨B.p, 4, none⟩ = some (.slice (some ⟨B.e, 0, none⟩) B.N B.N) := heap_cell h.peel rfl
theorem At.blk (h : At w0 w B ar a b c st nx pv nr) : w.heap[B.f]? = some (.cells #[.int .i64 (B.N : Int), B.gE, .slice B.A B.N B.cA, .int .i64 a, .int .i64 b, .int .i64 c] 69 (0, 0)) := (h.old.block _ (lt_of h.frame)).trans h.frame
theorem At.f2 (h : At w0 w B ar a b c st nx pv nr) : w.cell? ⟨B.f, 2, none⟩ = some (.slice B.A B.N B.cA) := heap_cell h.blk rfl
theorem At.f3 (h : At w0 w B ar a b c st nx pv nr) : w.cell? ⟨B.f, 3, none⟩ = some (.int .i64 a) := heap_cell h.blk rfl
theorem At.f4 (h : At w0 w B ar a b c st nx pv nr) : w.cell? ⟨B.f, 4, none⟩ = some (.int .i64 b) := heap_cell h.blk rfl
theorem At.f5 (h : At w0 w B ar a b c st nx pv nr) : w.cell? ⟨B.f, 5, none⟩ = some (.int .i64 c) := heap_cell h.blk rfl
theorem At.row (h : At w0 w B ar a b c st nx pv nr) {u : Nat} (hu : u < B.N) : ∃ ad D cD, B.A = some ad ∧ (gl ar u).length ≤ cD ∧ ∀ wx, Below w0.heap.size w0 wx → wx.cell? (ad.add u) = some (.slice D (gl ar u).length cD) ∧ Kd.C (Kd.int .i64) wx D (gl ar u).length (gl ar u) := by
 obtain ⟨ad, D, cD, e, h1, h2, h3⟩ := row_at h.rows (i := u) (by rw [h.lar]; exact hu)
 exact ⟨ad, D, cD, e, h2, fun wx hb => ⟨(hb.cell (cell_lt h1)).trans h1, Kd.C_below h3 hb⟩⟩
end
def nearTo (st row : List Int) (v : Nat) (nr : List Int) : Nat → List Int
 | 0 => nr
 | k + 1 => if gi st (gi row k).toNat = 1 then ((nearTo st row v nr k).set v (wrap64 (gi (nearTo st row v nr k) v + 1))).set (gi row k).toNat (wrap64 (gi ((nearTo st row v nr k).set v (wrap64 (gi (nearTo st row v nr k) v + 1))) (gi row k).toNat + 1)) else nearTo st row v nr k
def enX (nx : List Int) (v : Nat) (p q : Int) : List Int := if 0 ≤ p then (nx.set v q).set p.toNat (v : Int) else nx.set v q
def enV (pv : List Int) (v : Nat) (p q : Int) : List Int := if 0 ≤ q then (pv.set v p).set q.toNat (v : Int) else pv.set v p
theorem enter_calls {w0 w : World} {B : Bl} {ar : List (List Int)} {a b c : Int} {st nx pv nr : List Int} (h : At w0 w B ar a b c st nx pv nr) (v : Nat) (p q : Int) (hv : v < B.N) (hp : p < (B.N : Int)) (hq : q < (B.N : Int)) (hr : ∀ j, j < (gl ar v).length → 0 ≤ gi (gl ar v) j ∧ gi (gl ar v) j < (B.N : Int)) (hl : (gl ar v).length ≤ 9000000) :
  Calls Try.prog 29 #[.pointer (some ⟨B.p, 0, none⟩), .int .i64 (v : Int), .int .i64 p, .int .i64 q] w fun e w' => e = .returned (.tuple #[]) ∧ At w0 w' B ar a b c (st.set v 1) (enX nx v p q) (enV pv v p q) (nearTo (st.set v 1) (gl ar v) v nr (gl ar v).length) ∧ Mem.Frame (Own B) w w' := by
 have HA := Aside0.mk h
 have HR := Aside0.mk hr
 obtain ⟨st1, hst⟩ : ∃ s, s = st.set v 1 := ⟨_, rfl⟩
 obtain ⟨nx1, hnx⟩ : ∃ s, s = enX nx v p q := ⟨_, rfl⟩
 obtain ⟨pv1, hpv⟩ : ∃ s, s = enV pv v p q := ⟨_, rfl⟩
 have HST := Aside0.mk hst
 have HNX := Aside0.mk hnx
 have HPV := Aside0.mk hpv
 rw [← hst, ← hnx, ← hpv]
 clear h hr hst hnx hpv
 have gv : (v : Int) < (B.N : Int) := by omega
 have x1 := HA.out.c1
 have y1 := HA.out.s.cell (i := v) (by rw [HA.out.ls]; exact hv)
 have f1 := HA.out.s.free v
 go_enter Try.func29, Try.ntmps29
 go_upto_region 1 with (fail)
 clear x1 y1 f1
 obtain ⟨w1, hw1⟩ : ∃ w1, w1 = w.setCell ⟨B.s, v, none⟩ (.int .i64 1) := ⟨_, rfl⟩
 have HA1 : Aside0 (At w0 w1 B ar a b c (st.set v 1) nx pv nr) := ⟨by rw [hw1]; exact HA.out.put1 v 1⟩
 have HF1 : Aside0 (Mem.Frame (Own B) w w1) := ⟨by rw [hw1]; exact (Mem.Frame.refl _ _).setCell (p := ⟨B.s, v, none⟩) (.inl rfl) _⟩
 rw [← hw1]
 clear hw1
 have x2 : w1.drew.cell? ⟨B.p, 2, none⟩ = some (.slice (some ⟨B.x, 0, none⟩) B.N B.N) := HA1.out.drew.c2
 have x3 : w1.drew.cell? ⟨B.p, 3, none⟩ = some (.slice (some ⟨B.v, 0, none⟩) B.N B.N) := HA1.out.drew.c3
 have y3 := HA1.out.drew.v.cell (i := v) (by rw [HA1.out.lv]; exact hv)
 have f3 := HA1.out.drew.v.free v
 have y4 := (HA1.out.put3 v p).x.cell (i := v) (by rw [HA1.out.lx]; exact hv)
 have f4 := (HA1.out.put3 v p).x.free v
 have y5 := (HA1.out.drew.put3 v p).x.cell (i := v) (by rw [HA1.out.lx]; exact hv)
 have f5 := (HA1.out.drew.put3 v p).x.free v
 have HA3 := Aside0.mk ((HA1.out.put3 v p).put2 v q).drew
 have HF3 : Aside0 (Mem.Frame (Own B) w ((w1.setCell ⟨B.v, v, none⟩ (.int .i64 p)).setCell ⟨B.x, v, none⟩ (.int .i64 q)).drew) := ⟨(((HF1.out.setCell (p := ⟨B.v, v, none⟩) (.inr (.inr (.inl rfl))) _).setCell (p := ⟨B.x, v, none⟩) (.inr (.inl rfl)) _).trans (Mem.Frame.of_below ((Below.refl _ _).drew)))⟩
 refine start_ (n := 16) (S := fun w' => w'.cell? ⟨B.p, 2, none⟩ = some (.slice (some ⟨B.x, 0, none⟩) B.N B.N) ∧ w'.cell? ⟨B.p, 3, none⟩ = some (.slice (some ⟨B.v, 0, none⟩) B.N B.N)) (ds := [13, 15]) (bm9 16 0) (by kernel_rfl) rfl rfl ⟨x2, x3⟩ (fun hHeld => ?_)
 refine pu9 0 16 (bm9 16 1) ?_
 refine pu9 1 17 (bm9 16 3) ?_
 refine pu9 2 18 (bm9 16 7) ?_
 refine pu9 4 20 (bm9 16 23) ?_
 refine pu9 5 21 (bm9 16 55) ?_
 refine pu9 6 22 (bm9 16 119) ?_
 refine pu9 7 23 (bm9 16 247) ?_
 refine pu9 9 25 (bm9 16 759) ?_
 refine pu9 10 26 (bm9 16 1783) ?_
 refine pu9 11 27 (bm9 16 3831) ?_
 refine tk29 3 19 (bm9 16 3839) hHeld ?_
 refine tk29 8 24 (bm9 16 4095) hHeld ?_
 refine pu9 12 28 (bm9 16 8191) ?_
 refine last_ (i := 13) (N := none) (bm9 16 16383) rfl rfl (by kernel_rfl) (by decide) (fun K hK => ?_)
 refine skip_ (w1 := ?_) (by rfl) rfl ?_ ?_
 rotate_left
 ·go_simp
  rfl
 refine hK.out _ _ ?_
 clear hK K
 refine pu9 14 29 (bm9 16 32767) ?_
 refine last_ (i := 15) (N := none) (bm9 16 65535) rfl rfl (by kernel_rfl) (by decide) (fun K hK => ?_)
 refine skip_ (w1 := ?_) (by rfl) rfl ?_ ?_
 rotate_left
 ·go_simp
  rfl
 refine hK.out _ _ ?_
 clear hK K
 refine done_ (by kernel_rfl) ?_
 clear x2 x3 y3 f3 y4 f4 y5 f5 HA1 HF1
 generalize ((w1.setCell ⟨B.v, v, none⟩ (.int .i64 p)).setCell ⟨B.x, v, none⟩ (.int .i64 q)).drew = w2 at HA3 HF3 ⊢
 rw [← HST.out] at HA3
 go_upto_if 31 with (fail)
 go_cut [1, 2, 3] from 10 to 59 (fun u1 u2 u3 wx => u1 = .int .i64 (v : Int) ∧ u2 = .int .i64 p ∧ u3 = .int .i64 q ∧ Aside0 (At w0 wx B ar a b c st1 nx1 (pv.set v p) nr) ∧ Aside0 (Mem.Frame (Own B) w wx))
 case first =>
  by_cases h0 : 0 ≤ p
  ·obtain ⟨i, rfl⟩ := Int.eq_ofNat_of_zero_le h0
   have x2 := HA3.out.c2
   have y2 := HA3.out.x.cell (i := i) (by rw [HA3.out.lx]; omega)
   have f2 := HA3.out.x.free i
   have HA4 : Aside0 (At w0 (w2.setCell ⟨B.x, i, none⟩ (.int .i64 (v : Int))) B ar a b c st1 nx1 (pv.set v (i : Int)) nr) := ⟨by
    have h := HA3.out.put2 i (v : Int)
    rw [HNX.out]
    unfold enX
    rw [if_pos h0, Int.toNat_natCast]
    exact h⟩
   have HF4 : Aside0 (Mem.Frame (Own B) w (w2.setCell ⟨B.x, i, none⟩ (.int .i64 (v : Int)))) := ⟨HF3.out.setCell (p := ⟨B.x, i, none⟩) (.inr (.inl rfl)) _⟩
   have t0 : decide ((i : Int) ≥ 0) = true := decide_eq_true h0
   have t1 : decide ((0 : Int) ≤ (i : Int)) = true := decide_eq_true h0
   clear h0 HA3 HF3
   go_wp2_with fail
   go_meet
   case rel => exact ⟨rfl, rfl, rfl, HA4, HF4⟩
  ·have t0 : decide (p ≥ 0) = false := decide_eq_false h0
   have t1 : decide (0 ≤ p) = false := decide_eq_false h0
   have HA4 : Aside0 (At w0 w2 B ar a b c st1 nx1 (pv.set v p) nr) := ⟨by
    rw [HNX.out]
    unfold enX
    rw [if_neg h0]
    exact HA3.out⟩
   clear HA3
   go_wp2_with fail
   go_meet
   case rel => exact ⟨rfl, rfl, rfl, HA4, HF3⟩
 case rest =>
 obtain ⟨rfl, rfl, rfl, HA4, HF4⟩ := hcut
 clear HA3 HF3
 go_upto_if 40 with (fail)
 go_cut [1, 2, 3] from 10 to 59 (fun u1 u2 u3 wx => u1 = .int .i64 (v : Int) ∧ u2 = .int .i64 p ∧ u3 = .int .i64 q ∧ Aside0 (At w0 wx B ar a b c st1 nx1 pv1 nr) ∧ Aside0 (Mem.Frame (Own B) w wx))
 case first =>
  by_cases h0 : 0 ≤ q
  ·obtain ⟨i, rfl⟩ := Int.eq_ofNat_of_zero_le h0
   have x3 := HA4.out.c3
   have y3 := HA4.out.v.cell (i := i) (by rw [HA4.out.lv]; omega)
   have f3 := HA4.out.v.free i
   have HA5 : Aside0 (At w0 (wc.setCell ⟨B.v, i, none⟩ (.int .i64 (v : Int))) B ar a b c st1 nx1 pv1 nr) := ⟨by
    have h := HA4.out.put3 i (v : Int)
    rw [HPV.out]
    unfold enV
    rw [if_pos h0, Int.toNat_natCast]
    exact h⟩
   have HF5 : Aside0 (Mem.Frame (Own B) w (wc.setCell ⟨B.v, i, none⟩ (.int .i64 (v : Int)))) := ⟨HF4.out.setCell (p := ⟨B.v, i, none⟩) (.inr (.inr (.inl rfl))) _⟩
   have t0 : decide ((i : Int) ≥ 0) = true := decide_eq_true h0
   have t1 : decide ((0 : Int) ≤ (i : Int)) = true := decide_eq_true h0
   clear h0 HA4 HF4
   go_wp2_with fail
   go_meet
   case rel => exact ⟨rfl, rfl, rfl, HA5, HF5⟩
  ·have t0 : decide (q ≥ 0) = false := decide_eq_false h0
   have t1 : decide (0 ≤ q) = false := decide_eq_false h0
   have HA5 : Aside0 (At w0 wc B ar a b c st1 nx1 pv1 nr) := ⟨by
    rw [HPV.out]
    unfold enV
    rw [if_neg h0]
    exact HA4.out⟩
   clear HA4
   go_wp2_with fail
   go_meet
   case rel => exact ⟨rfl, rfl, rfl, HA5, HF4⟩
 case rest =>
 obtain ⟨rfl, rfl, rfl, HA5, HF5⟩ := hcut
 clear HA4 HF4
 obtain ⟨ad, D, cD, eA, hcD, hrow⟩ := HA5.out.row hv
 have z1 := (hrow _ HA5.out.old).1
 have z0 := HA5.out.c0
 have z2 := HA5.out.f2
 rw [eA] at z2
 obtain ⟨row, hrw⟩ : ∃ row, row = gl ar v := ⟨_, rfl⟩
 rw [← hrw] at z1 hcD hrow hl
 have HRW := Aside0.mk hrw
 have HROW := Aside0.mk hrow
 clear eA hrw hcD hrow
 go_wp2_with fail
 clear z0 z1 z2
 have HA6 : Aside0 (At w0 wc B ar a b c st1 nx1 pv1 (nearTo st1 row v nr 0)) := HA5
 clear HA5
 go_loopw [59] (fun y ws => ∃ k : Nat, y = .int .i64 (k : Int) ∧ k ≤ row.length ∧ Aside0 (At w0 ws B ar a b c st1 nx1 pv1 (nearTo st1 row v nr k)) ∧ Aside0 (Mem.Frame (Own B) w ws)) (fun y _ => row.length - (intOf y).toNat)
 case atStart => exact ⟨0, rfl, by omega, HA6, HF5⟩
 case round =>
  clear HA6 HF5
  obtain ⟨k, rfl, hk, HA6, HF5⟩ := hrel
  by_cases hlt : k < row.length
  ·have s1 : decide ((k : Int) < (row.length : Int)) = true := decide_eq_true (by omega)
   obtain ⟨r0, r1⟩ := HR.out k (by rw [← HRW.out]; exact hlt)
   rw [← HRW.out] at r0 r1
   obtain ⟨u, hu⟩ := Int.eq_ofNat_of_zero_le r0
   have hun : u < B.N := by omega
   have HU := Aside0.mk hu
   have hrw : Kd.C (Kd.int .i64) wr D row.length row := by
    exact (HROW.out wr HA6.out.old).2
   obtain ⟨adr, eD, z1⟩ := Kd.at_int hrw (k : Int) (by omega) (by omega)
   subst eD
   rw [gi_rd, Int.toNat_natCast, hu] at z1
   obtain ⟨nk, hnk⟩ : ∃ nk, nk = nearTo st1 row v nr k := ⟨_, rfl⟩
   rw [← hnk] at HA6
   have HNK := Aside0.mk hnk
   clear r0 r1 hrw hu hnk
   have x1 := HA6.out.c1
   have z2 := HA6.out.s.cell (i := u) (by rw [HA6.out.ls]; exact hun)
   have gu : (u : Int) < (B.N : Int) := by omega
   by_cases c1 : gi st1 u = 1
   ·rw [c1] at z2
    have HC1 := Aside0.mk c1
    obtain ⟨y1, hy1⟩ : ∃ y, y = gi nk v := ⟨_, rfl⟩
    obtain ⟨y2, hy2⟩ : ∃ y, y = wrap64 (y1 + 1) := ⟨_, rfl⟩
    obtain ⟨y3, hy3⟩ : ∃ y, y = gi (nk.set v y2) u := ⟨_, rfl⟩
    obtain ⟨y4, hy4⟩ : ∃ y, y = wrap64 (y3 + 1) := ⟨_, rfl⟩
    have m1 : IntKind.i64.wrap (y1 + 1) = y2 := by rw [IntWalk.i64_left]; exact hy2.symm
    have m2 : IntKind.i64.wrap (y3 + 1) = y4 := by rw [IntWalk.i64_left]; exact hy4.symm
    have m3 := hy2.symm
    have m4 := hy4.symm
    have x4 := HA6.out.c4
    have z3 := HA6.out.e.cell (i := v) (by rw [HA6.out.le]; exact hv)
    rw [← hy1] at z3
    have f3 := HA6.out.e.free v
    have HA7 := Aside0.mk (HA6.out.put4 v y2)
    have x5 := HA7.out.c4
    have z4 := HA7.out.e.cell (i := u) (by rw [HA7.out.le]; exact hun)
    rw [← hy3] at z4
    have f4 := HA7.out.e.free u
    have HA8 : Aside0 (At w0 ((wr.setCell ⟨B.e, v, none⟩ (.int .i64 y2)).setCell ⟨B.e, u, none⟩ (.int .i64 y4)) B ar a b c st1 nx1 pv1 (nearTo st1 row v nr (k + 1))) := ⟨by
     have h := HA7.out.put4 u y4
     have e : nearTo st1 row v nr (k + 1) = (nk.set v y2).set u y4 := by
      show (if gi st1 (gi row k).toNat = 1 then _ else _) = _
      rw [HU.out, Int.toNat_natCast, if_pos HC1.out, ← HNK.out, ← hy1, ← hy2, ← hy3, ← hy4]
     rw [e]
     exact h⟩
    have HF8 : Aside0 (Mem.Frame (Own B) w ((wr.setCell ⟨B.e, v, none⟩ (.int .i64 y2)).setCell ⟨B.e, u, none⟩ (.int .i64 y4))) := ⟨(HF5.out.setCell (p := ⟨B.e, v, none⟩) (.inr (.inr (.inr rfl))) _).setCell (p := ⟨B.e, u, none⟩) (.inr (.inr (.inr rfl))) _⟩
    clear hy1 hy2 hy3 hy4 HA6 HA7 HF5 c1
    go_wp2_with fail
    clear x1 x4 x5 z1 z2 z3 z4 f3 f4 m1 m2 m3 m4 s1
    go_roundw
    case rel => exact ⟨k + 1, by go_num, by omega, HA8, HF8⟩
    case measure => simp [intOf]; omega
   ·have t1 : (gi st1 u == 1) = false := beq_eq_false_iff_ne.2 c1
    obtain ⟨y0, hy0⟩ : ∃ y, y = gi st1 u := ⟨_, rfl⟩
    rw [← hy0] at t1 z2
    have HA8 : Aside0 (At w0 wr B ar a b c st1 nx1 pv1 (nearTo st1 row v nr (k + 1))) := ⟨by
     have e : nearTo st1 row v nr (k + 1) = nk := by
      show (if gi st1 (gi row k).toNat = 1 then _ else _) = _
      rw [HU.out, Int.toNat_natCast, if_neg c1, ← HNK.out]
     rw [e]
     exact HA6.out⟩
    clear hy0 HA6 c1
    go_wp2_with fail
    clear x1 z1 z2 t1 s1
    go_roundw
    case rel => exact ⟨k + 1, by go_num, by omega, HA8, HF5⟩
    case measure => simp [intOf]; omega
  ·obtain rfl : k = row.length := by omega
   have s1 : decide ((row.length : Int) < (row.length : Int)) = false := decide_eq_false (by omega)
   have s2 : decide (row.length < row.length) = false := decide_eq_false (by omega)
   have s3 : ¬ row.length < row.length := by omega
   clear hlt
   go_wp2_with fail
   (try simp only [Exit.inBlock, Exit.then])
   refine bodyPost_end (results_none rfl _ _ _) rfl ?_
   exact ⟨rfl, by rw [← HRW.out]; exact HA6.out, HF5.out⟩
end Peel
namespace Peel
open Mem
theorem below_drewN' {k : Nat} {a b : World} (h : Below k a b) (m : Nat) : Below k a (b.drewN m) := ⟨h.os, h.tape, h.output, h.size, h.block⟩
def mayB (a b : Int) (st nr : List Int) (v : Nat) : Bool := decide (gi st v = 1) && (decide ((v : Int) ≠ a) && (decide ((v : Int) ≠ b) && decide (gi nr v = 2)))
theorem may_calls {w0 w : World} {B : Bl} {ar : List (List Int)} {a b c : Int} {st nx pv nr : List Int} (h : At w0 w B ar a b c st nx pv nr) (v : Nat) (hv : v < B.N) :
  Calls Try.prog 30 #[.pointer (some ⟨B.p, 0, none⟩), .int .i64 (v : Int)] w fun e w' => e = .returned (.bool (mayB a b st nr v)) ∧ w = w' := by
 have x0 := h.c0
 have x1 := h.c1
 have x4 := h.c4
 have z3 := h.f3
 have z4 := h.f4
 have y1 := h.s.cell (i := v) (by rw [h.ls]; exact hv)
 have y4 := h.e.cell (i := v) (by rw [h.le]; exact hv)
 have gv : (v : Int) < (B.N : Int) := by omega
 obtain ⟨s, hs⟩ : ∃ s, s = gi st v := ⟨_, rfl⟩
 obtain ⟨n, hn⟩ : ∃ n, n = gi nr v := ⟨_, rfl⟩
 have hm : mayB a b st nr v = (decide (s = 1) && (decide ((v : Int) ≠ a) && (decide ((v : Int) ≠ b) && decide (n = 2)))) := by unfold mayB; rw [hs, hn]
 rw [← hs] at y1
 rw [← hn] at y4
 rw [hm]
 clear hs hn hm h
 by_cases c1 : s = 1
 ·subst c1
  by_cases c2 : (v : Int) = a
  ·have t2 : ((v : Int) != a) = false := bne_eq_false_iff_eq.2 c2
   rw [decide_eq_false (p := (v : Int) ≠ a) (fun q => q c2)]
   clear c2
   go_enter Try.func30, Try.ntmps30
   go_wp2_with fail
   go_ret
   simp
  ·have t2 : ((v : Int) != a) = true := bne_iff_ne.2 c2
   rw [decide_eq_true (p := (v : Int) ≠ a) c2]
   clear c2
   by_cases c3 : (v : Int) = b
   ·have t3 : ((v : Int) != b) = false := bne_eq_false_iff_eq.2 c3
    rw [decide_eq_false (p := (v : Int) ≠ b) (fun q => q c3)]
    clear c3
    go_enter Try.func30, Try.ntmps30
    go_wp2_with fail
    go_ret
    simp
   ·have t3 : ((v : Int) != b) = true := bne_iff_ne.2 c3
    rw [decide_eq_true (p := (v : Int) ≠ b) c3]
    clear c3
    by_cases c4 : n = 2
    ·subst c4
     go_enter Try.func30, Try.ntmps30
     go_wp2_with fail
     go_ret
     simp
    ·have t4 : (n == 2) = false := beq_eq_false_iff_ne.2 c4
     rw [decide_eq_false c4]
     clear c4
     go_enter Try.func30, Try.ntmps30
     go_wp2_with fail
     go_ret
     simp
 ·have t1 : (s == 1) = false := beq_eq_false_iff_ne.2 c1
  rw [decide_eq_false c1]
  clear c1
  go_enter Try.func30, Try.ntmps30
  go_wp2_with fail
  go_ret
  simp
def flt (st row : List Int) (k : Nat) : List Int := (row.take k).filter fun x => gi st x.toNat != 2
theorem flt_succ (st row : List Int) {k : Nat} (hk : k < row.length) : flt st row (k + 1) = if gi st (gi row k).toNat ≠ 2 then flt st row k ++ [gi row k] else flt st row k := by
 have e : gi row k = row[k] := by unfold gi; rw [List.getD_eq_getElem?_getD, List.getElem?_eq_getElem hk]; rfl
 unfold flt
 rw [List.take_succ_eq_append_getElem hk, List.filter_append, ← e]
 by_cases c : gi st (gi row k).toNat = 2
 ·rw [if_neg (fun q => q c)]
  simp [c]
 ·rw [if_pos c]
  simp [c]
theorem flt_len (st row : List Int) (k : Nat) : (flt st row k).length ≤ k := Nat.le_trans (List.length_filter_le _ _) (List.length_take_le _ _)
def btw (l : List Int) (x y : Int) : List Int := (List.range l.length).map fun i => gi l ((l.idxOf x + i * (if gi l ((l.idxOf x + l.length - 1) % l.length) = y then 1 else l.length - 1)) % l.length)
def btTo (l : List Int) (i sp L k : Nat) : List Int := (List.range k).map fun k => gi l ((i + k * sp) % L)
theorem range_snoc (f : Nat → Int) (k : Nat) : (List.range (k + 1)).map f = (List.range k).map f ++ [f k] := by rw [List.range_succ, List.map_append]; rfl
theorem between_calls {w0 w : World} {B : Bl} {ar : List (List Int)} {a b c : Int} {st nx pv nr : List Int} (h : At w0 w B ar a b c st nx pv nr) (v : Nat) (hv : v < B.N) (hr : ∀ j, j < (gl ar v).length → 0 ≤ gi (gl ar v) j ∧ gi (gl ar v) j < (B.N : Int)) (hl : (gl ar v).length ≤ 9000000)
  (hx : gi pv v ∈ flt st (gl ar v) (gl ar v).length) :
  Calls Try.prog 49 #[.pointer (some ⟨B.p, 0, none⟩), .int .i64 (v : Int)] w fun e w' => ∃ u, e = .returned u ∧ Kd.R (Kd.int .i64) 3 w' w.heap.size (fun _ => True) u (btw (flt st (gl ar v) (gl ar v).length) (gi pv v) (gi nx v)) ∧ Below w.heap.size w w' := by
 have HA := Aside0.mk h
 have HR := Aside0.mk hr
 obtain ⟨ad, D, cD, eA, hcD, hrow⟩ := h.row hv
 have z1 := (hrow _ h.old).1
 have z0 := h.c0
 have z2 := h.f2
 rw [eA] at z2
 have gv : (v : Int) < (B.N : Int) := by omega
 obtain ⟨row, hrw⟩ : ∃ row, row = gl ar v := ⟨_, rfl⟩
 rw [← hrw] at z1 hcD hrow hl hx HR ⊢
 have HROW := Aside0.mk hrow
 have HX := Aside0.mk hx
 clear h hr eA hrw hrow hx
 go_enter Try.func49, Try.ntmps49
 go_wp2_with fail
 clear z0 z1 z2
 have HL0 : Aside0 (Kd.R (Kd.int .i64) 3 w w.heap.size (fun _ => True) (.slice none 0 0) (flt st row 0)) := ⟨Kd.R_nil _ _ _ _ _⟩
 have HB0 : Aside0 (Below w.heap.size w w) := ⟨Below.refl _ _⟩
 go_loopw [5, 24] (fun u y ws => ∃ (k M : Nat) (Al : Option Addr) (cl : Nat), u = .slice Al M cl ∧ y = .int .i64 (k : Int) ∧ k ≤ row.length ∧ Aside0 (M = (flt st row k).length) ∧ Aside0 (Kd.R (Kd.int .i64) 3 ws w.heap.size (fun _ => True) (.slice Al M cl) (flt st row k)) ∧ Aside0 (Below w.heap.size w ws)) (fun _ y _ => row.length - (intOf y).toNat)
 case atStart => exact ⟨0, 0, none, 0, rfl, rfl, by omega, ⟨rfl⟩, HL0, HB0⟩
 case round =>
  clear HL0 HB0
  obtain ⟨k, M, Al, cl, rfl, rfl, hk, HML, HL, HB⟩ := hrel
  have HAr := Aside0.mk (HA.out.below HB.out)
  by_cases hlt : k < row.length
  ·have s1 : decide ((k : Int) < (row.length : Int)) = true := decide_eq_true (by omega)
   obtain ⟨r0, r1⟩ := HR.out k hlt
   obtain ⟨u, hu⟩ := Int.eq_ofNat_of_zero_le r0
   have hun : u < B.N := by omega
   have gu : (u : Int) < (B.N : Int) := by omega
   obtain ⟨adr, eD, z1⟩ := Kd.at_int ((HROW.out wr HAr.out.old).2) (k : Int) (by omega) (by omega)
   subst eD
   rw [gi_rd, Int.toNat_natCast, hu] at z1
   have HU := Aside0.mk hu
   have x1 := HAr.out.c1
   have z2 := HAr.out.s.cell (i := u) (by rw [HAr.out.ls]; exact hun)
   obtain ⟨y0, hy0⟩ : ∃ y, y = gi st u := ⟨_, rfl⟩
   rw [← hy0] at z2
   have HY := Aside0.mk hy0
   clear r0 r1 hu hy0
   by_cases c1 : y0 = 2
   ·subst c1
    have e1 : flt st row (k + 1) = flt st row k := by
     rw [flt_succ st row hlt, HU.out, Int.toNat_natCast, if_neg (fun q => q HY.out.symm)]
    have HL2 : Aside0 (Kd.R (Kd.int .i64) 3 wr w.heap.size (fun _ => True) (.slice Al M cl) (flt st row (k + 1))) := ⟨by rw [e1]; exact HL.out⟩
    have HM2 : Aside0 (M = (flt st row (k + 1)).length) := ⟨by rw [e1]; exact HML.out⟩
    clear e1 HL HML
    go_wp2_with fail
    clear x1 z1 z2 s1
    go_roundw
    case rel => exact ⟨k + 1, M, Al, cl, rfl, by go_num, by omega, HM2, HL2, HB⟩
    case measure => simp [intOf]; omega
   ·have t1 : (y0 != 2) = true := bne_iff_ne.2 c1
    have HE : Aside0 (flt st row k ++ [(u : Int)] = flt st row (k + 1)) := ⟨by
     rw [flt_succ st row hlt, HU.out, Int.toNat_natCast, if_pos (fun q => c1 (HY.out.trans q))]⟩
    have HSZ : Aside0 (w.heap.size ≤ wr.heap.size) := ⟨HB.out.size⟩
    have HLB : Aside0 (((flt st row k).length + 1) * 8 ≤ 140737488355328) := ⟨by have := flt_len st row k; omega⟩
    clear c1
    go_wp2_with ((with_reducible refine gate_builtin (b := .append) (xs := #[.tmp 36, .tmp 38]) rfl ?_); at_builtin; refine Kd.R_append (Kd.int .i64) (w0 := w) (W := wr) w.heap.size rfl (.tmp 36) (.tmp 38) 27 3 (.int .i64 0) 8 rfl Try.underlying27 info_int rfl (by decide) (by omega) (.slice Al M cl) (flt st row k) (u : Int) [.int .i64 (u : Int)] (fun _ => True) (fun _ => False) rfl rfl rfl (fun _ hk => hk.elim) (fun _ _ => trivial) HL.out HB.out HSZ.out HLB.out ?_)
    intro v1 w1 hR hb _ _
    obtain ⟨A1, c1, rfl⟩ := Kd.R_slice hR
    rw [HE.out] at hR ⊢
    obtain ⟨M1, hM1⟩ : ∃ M1, M1 = (flt st row (k + 1)).length := ⟨_, rfl⟩
    rw [← hM1] at hR ⊢
    have HM2 := Aside0.mk hM1
    have HL2 := Aside0.mk hR
    have HB2 := Aside0.mk hb
    clear hM1 hR hb HL HML HB HSZ HLB HE
    go_wp2_with fail
    clear x1 z1 z2 s1 t1
    go_roundw
    case rel => exact ⟨k + 1, M1, A1, c1, rfl, by go_num, by omega, HM2, HL2, HB2⟩
    case measure => simp [intOf]; omega
  ·obtain rfl : k = row.length := by omega
   obtain ⟨l, hl2⟩ : ∃ l, l = flt st row row.length := ⟨_, rfl⟩
   have hM := HML.out
   have hLb := flt_len st row row.length
   have hLl := HL.out
   have hmem := HX.out
   rw [← hl2] at hM hLb hLl hmem
   subst hM
   have HL1 := Aside0.mk hLl
   obtain ⟨wm, hwm⟩ : ∃ wm, wm = wr := ⟨_, rfl⟩
   rw [← hwm] at HL1 HB HAr ⊢
   obtain ⟨i0, hi0⟩ : ∃ i0, i0 = l.idxOf (gi pv v) := ⟨_, rfl⟩
   have hi0l : i0 < l.length := by rw [hi0]; exact List.idxOf_lt_length_of_mem hmem
   have hat : gi l i0 = gi pv v := by
    have : l[i0] = gi pv v := by
     subst hi0
     exact List.getElem_idxOf hi0l
    unfold gi at this ⊢
    rw [List.getD_eq_getElem?_getD, List.getElem?_eq_getElem hi0l]
    exact this
   have hbefore : ∀ i, i < i0 → gi l i ≠ gi pv v := fun i hi e => by
    have hil : i < l.length := by omega
    have h1 := List.not_of_lt_findIdx (xs := l) (p := fun x => x == gi pv v) (i := i) (by show i < l.idxOf (gi pv v); omega)
    have e2 : l[i] = gi pv v := by
     unfold gi at e ⊢
     rw [List.getD_eq_getElem?_getD, List.getElem?_eq_getElem hil] at e
     exact e
    rw [e2] at h1
    simp at h1
   have HBF := Aside0.mk hbefore
   have HAT := Aside0.mk hat
   have HI0 := Aside0.mk hi0
   have HLE := Aside0.mk hl2
   have HBW : Aside0 (Below wm.heap.size wm wm) := ⟨Below.refl _ _⟩
   clear hbefore hat hi0 hmem hLl hl2 HL HML hwm hk hlt HROW HR HX hcD
   go_wp2_with fail
   go_loopw [8] (fun y ws => ∃ i : Nat, y = .int .i64 (i : Int) ∧ i ≤ i0 ∧ Aside0 (Below wm.heap.size wm ws)) (fun y _ => i0 - (intOf y).toNat)
   case atStart => exact ⟨0, rfl, by omega, HBW⟩
   case round =>
    clear HBW
    obtain ⟨i, rfl, hi, HBW⟩ := hrel
    have HA2 := Aside0.mk (HAr.out.below HBW.out)
    have hCl := Kd.C_below (Kd.R_reads' HL1.out).2.2 HBW.out
    obtain ⟨adl, eL, z1⟩ := Kd.at_int hCl (i : Int) (by omega) (by omega)
    subst eL
    rw [gi_rd, Int.toNat_natCast] at z1
    have x3 := HA2.out.c3
    have z2 := HA2.out.v.cell (i := v) (by rw [HA2.out.lv]; exact hv)
    have gi_l : (i : Int) < (l.length : Int) := by omega
    obtain ⟨y2, hy2⟩ : ∃ y, y = gi pv v := ⟨_, rfl⟩
    rw [← hy2] at z2
    by_cases ci : i = i0
    ·subst ci
     rw [HAT.out, ← hy2] at z1
     have t1 : (y2 != y2) = false := bne_eq_false_iff_eq.2 rfl
     have HY2 := Aside0.mk hy2
     obtain ⟨wq, hwq⟩ : ∃ wq, wq = wr := ⟨_, rfl⟩
     clear hi hy2 hCl
     go_wp2_with fail
     go_quiet (fail)
     go_wp2_with fail
     have HBD : Aside0 (Below wm.heap.size wm (wr.drewN nq)) := ⟨below_drewN' HBW.out _⟩
     clear z1 z2 x3 t1 HA2 HBW HBF
     generalize wr.drewN nq = wd at HBD ⊢
     have HA3 := Aside0.mk (HAr.out.below HBD.out)
     obtain ⟨L, hL⟩ : ∃ L, L = l.length := ⟨_, rfl⟩
     obtain ⟨sa, hsa⟩ : ∃ n, n = i + L := ⟨_, rfl⟩
     obtain ⟨sb, hsb⟩ : ∃ n, n = i + L - 1 := ⟨_, rfl⟩
     obtain ⟨j1, hj1⟩ : ∃ n, n = sb % L := ⟨_, rfl⟩
     have hLp : 0 < L := by omega
     have hj1l : j1 < L := by rw [hj1]; exact Nat.mod_lt _ hLp
     have HCl := Aside0.mk (Kd.C_below (Kd.R_reads' HL1.out).2.2 HBD.out)
     obtain ⟨adl2, eL, z3⟩ := Kd.at_int HCl.out (j1 : Int) (by omega) (by omega)
     injection eL with eL
     subst eL
     rw [gi_rd, Int.toNat_natCast] at z3
     obtain ⟨y3, hy3⟩ : ∃ y, y = gi l j1 := ⟨_, rfl⟩
     obtain ⟨y4, hy4⟩ : ∃ y, y = gi nx v := ⟨_, rfl⟩
     have z4 := HA3.out.x.cell (i := v) (by rw [HA3.out.lx]; exact hv)
     rw [← hy3] at z3
     rw [← hy4] at z4
     have x2 := HA3.out.c2
     rw [← hL]
     have HLL := Aside0.mk hL
     have hLb9 : L ≤ 9000000 := by omega
     have hil0 : i < L := by omega
     have r1 : IntKind.i64.wrap ((i : Int) + (L : Int)) = (sa : Int) := by rw [IntWalk.i64_in _ (by omega)]; omega
     have r2 : IntKind.i64.wrap ((sa : Int) - 1) = (sb : Int) := by rw [IntWalk.i64_in _ (by omega)]; omega
     have r3 : Int.tmod (sb : Int) (L : Int) = (j1 : Int) := by rw [hj1]; rfl
     have r4 : ((L : Int) == 0) = false := beq_eq_false_iff_ne.2 (by omega)
     have r5 : ¬ (L : Int) = 0 := by omega
     have gj1 : (j1 : Int) < (L : Int) := by omega
     have HJ1 : Aside0 (j1 = (l.idxOf (gi pv v) + l.length - 1) % l.length) := ⟨by rw [hj1, hsb, HI0.out, hL]⟩
     have HY3 := Aside0.mk hy3
     have HY4 := Aside0.mk hy4
     clear hsa hsb hj1 hy3 hy4 hL
     obtain ⟨sp, hsp⟩ : ∃ sp, sp = if y3 = y4 then 1 else L - 1 := ⟨_, rfl⟩
     have hspl : sp ≤ L := by rw [hsp]; split <;> omega
     have HSP := Aside0.mk hsp
     clear hsp
     go_quiet (fail)
     go_upto_if 73 with (fail)
     go_cut [10] from 13 to 94 (fun s wx => s = .int .i64 (sp : Int) ∧ Aside0 (Below wm.heap.size wm wx))
     case first =>
      by_cases c3 : y3 = y4
      ·have t3 : (y3 != y4) = false := bne_eq_false_iff_eq.2 c3
       have e1 : sp = 1 := by rw [HSP.out, if_pos c3]
       clear c3
       go_wp2_with fail
       go_meet
       case rel => exact ⟨by rw [e1]; rfl, ⟨by first | exact HBD.out | exact below_drewN' HBD.out _⟩⟩
      ·have t3 : (y3 != y4) = true := bne_iff_ne.2 c3
       have e1 : sp = L - 1 := by rw [HSP.out, if_neg c3]
       have r6 : IntKind.i64.wrap ((L : Int) - 1) = (sp : Int) := by rw [IntWalk.i64_in _ (by omega)]; omega
       clear c3 e1
       go_wp2_with fail
       go_meet
       case rel => exact ⟨rfl, ⟨by first | exact HBD.out | exact below_drewN' HBD.out _⟩⟩
     case rest =>
     obtain ⟨rfl, HBE⟩ := hcut
     clear r1 r2 r3 r4 r5 z3 z4 x2 HA3 HCl HBD gj1
     have HQ : Aside0 (∀ k, gi l ((i + k * sp) % L) = gi l ((l.idxOf (gi pv v) + k * (if gi l ((l.idxOf (gi pv v) + l.length - 1) % l.length) = gi nx v then 1 else l.length - 1)) % l.length)) := ⟨fun k => by
      have e1 : (if gi l ((l.idxOf (gi pv v) + l.length - 1) % l.length) = gi nx v then 1 else l.length - 1) = sp := by rw [← HJ1.out, ← HY3.out, ← HY4.out, HSP.out, HLL.out]
      rw [e1, ← HI0.out, ← HLL.out]⟩
     have HO0 : Aside0 (Kd.R (Kd.int .i64) 3 wc wc.heap.size (fun _ => True) (.slice none 0 0) (btTo l i sp L 0)) := ⟨Kd.R_nil _ _ _ _ _⟩
     have HBX := Aside0.mk (HB.out.trans (HBE.out.mono HB.out.size))
     have HC0 := Aside0.mk (Kd.C_below (Kd.R_reads' HL1.out).2.2 HBE.out)
     have HBW0 : Aside0 (Below wc.heap.size wc wc) := ⟨Below.refl _ _⟩
     clear HBE HSP HJ1 HY3 HY4
     go_wp2_with fail
     go_loopw [11, 77] (fun u y ws => ∃ (k : Nat) (Ao : Option Addr) (co : Nat), u = .slice Ao k co ∧ y = .int .i64 (k : Int) ∧ k ≤ L ∧ Aside0 (Kd.R (Kd.int .i64) 3 ws wc.heap.size (fun _ => True) (.slice Ao k co) (btTo l i sp L k)) ∧ Aside0 (Below wc.heap.size wc ws)) (fun _ y _ => L - (intOf y).toNat)
     case atStart => exact ⟨0, none, 0, rfl, rfl, by omega, HO0, HBW0⟩
     case round =>
      clear HO0 HBW0
      obtain ⟨k, Ao, co, rfl, rfl, hk, HO, HBW⟩ := hrel
      by_cases hlt : k < L
      ·have s1 : decide ((k : Int) < (L : Int)) = true := decide_eq_true (by omega)
       obtain ⟨ma, hma⟩ : ∃ n, n = k * sp := ⟨_, rfl⟩
       obtain ⟨mb, hmb⟩ : ∃ n, n = i + ma := ⟨_, rfl⟩
       obtain ⟨j2, hj2⟩ : ∃ n, n = mb % L := ⟨_, rfl⟩
       have hj2l : j2 < L := by rw [hj2]; exact Nat.mod_lt _ hLp
       have hmal : ma ≤ 9000000 * 9000000 := by rw [hma]; exact Nat.mul_le_mul (by omega) (by omega)
       have m1 : IntKind.i64.wrap ((k : Int) * (sp : Int)) = (ma : Int) := by
        have e1 : (k : Int) * (sp : Int) = (ma : Int) := by rw [hma]; exact (Int.natCast_mul k sp).symm
        rw [e1, IntWalk.i64_in _ (by omega)]
       have m2 : IntKind.i64.wrap ((i : Int) + (ma : Int)) = (mb : Int) := by rw [IntWalk.i64_in _ (by omega)]; omega
       have m3 : Int.tmod (mb : Int) (L : Int) = (j2 : Int) := by rw [hj2]; rfl
       have r4 : ((L : Int) == 0) = false := beq_eq_false_iff_ne.2 (by omega)
       have r5 : ¬ (L : Int) = 0 := by omega
       have gj2 : (j2 : Int) < (L : Int) := by omega
       obtain ⟨adl2, eL, z3⟩ := Kd.at_int (Kd.C_below HC0.out HBW.out) (j2 : Int) (by omega) (by have := HLL.out; omega)
       injection eL with eL
       subst eL
       rw [gi_rd, Int.toNat_natCast] at z3
       obtain ⟨y5, hy5⟩ : ∃ y, y = gi l j2 := ⟨_, rfl⟩
       rw [← hy5] at z3
       have HE : Aside0 ((btTo l i sp L k) ++ [y5] = btTo l i sp L (k + 1)) := ⟨by unfold btTo; rw [range_snoc, hy5, hj2, hmb, hma]⟩
       have HLB : Aside0 (((btTo l i sp L k).length + 1) * 8 ≤ 140737488355328) := ⟨by unfold btTo; simp; omega⟩
       have HSW : Aside0 (wc.heap.size ≤ wr.heap.size) := ⟨HBW.out.size⟩
       clear hma hmb hj2 hy5 hmal
       go_wp2_with ((with_reducible refine gate_builtin (b := .append) (xs := #[.tmp 80, .tmp 91]) rfl ?_); at_builtin; refine Kd.R_append (Kd.int .i64) (w0 := wc) (W := wr) wc.heap.size rfl (.tmp 80) (.tmp 91) 27 3 (.int .i64 0) 8 rfl Try.underlying27 info_int rfl (by decide) (by omega) (.slice Ao k co) (btTo l i sp L k) y5 [.int .i64 y5] (fun _ => True) (fun _ => False) rfl rfl rfl (fun _ hk => hk.elim) (fun _ _ => trivial) HO.out HBW.out HSW.out HLB.out ?_)
       intro v1 w1 hR hb hg hat
       clear hat
       obtain ⟨A1, c1, rfl⟩ := Kd.R_slice hR
       rw [HE.out] at hR ⊢
       have e2 : (btTo l i sp L (k + 1)).length = k + 1 := by unfold btTo; simp
       rw [e2] at hR ⊢
       have HO2 := Aside0.mk hR
       have HBW2 := Aside0.mk hb
       clear hR hb hg e2 HO HLB HSW HE HBW
       go_wp2_with fail
       clear s1 m1 m2 m3 r4 r5 gj2 z3
       go_roundw
       case rel => exact ⟨k + 1, A1, c1, rfl, by go_num, by omega, HO2, HBW2⟩
       case measure => simp [intOf]; omega
      ·obtain rfl : k = L := by omega
       have s1 : decide ((k : Int) < (k : Int)) = false := decide_eq_false (by omega)
       have s2 : decide (k < k) = false := decide_eq_false (by omega)
       have s3 : ¬ k < k := by omega
       have HFIN : Aside0 (Kd.R (Kd.int .i64) 3 wr w.heap.size (fun _ => True) (.slice Ao k co) (btw l (gi pv v) (gi nx v))) := ⟨by
        have e1 : btTo l i sp k k = btw l (gi pv v) (gi nx v) := by
         unfold btTo btw
         rw [← HLL.out]
         refine List.map_congr_left fun j _ => ?_
         rw [HQ.out j, ← HLL.out]
        rw [← e1]
        exact Kd.R_lower HO.out HBX.out.size⟩
       clear hk hlt
       go_wp2_with fail
       go_ret
       exact ⟨.slice Ao k co, by simp, by rw [← HLE.out]; exact HFIN.out, HBX.out.trans (HBW.out.mono HBX.out.size)⟩
    ·have h1 := HBF.out i (by omega)
     obtain ⟨y1, hy1⟩ : ∃ y, y = gi l i := ⟨_, rfl⟩
     rw [← hy1] at z1 h1
     rw [← hy2] at h1
     have t1 : (y1 != y2) = true := bne_iff_ne.2 h1
     clear h1 hy1 hy2 hCl
     go_wp2_with fail
     go_quiet (fail)
     go_wp2_with fail
     clear z1 z2 x3 t1
     go_roundw
     case rel => exact ⟨i + 1, by go_num, by omega, ⟨by first | exact HBW.out | exact below_drewN' HBW.out _⟩⟩
     case measure => simp [intOf]; omega
end Peel
namespace Peel
open Go.Maps Go.MapKept
open Mem Cnt
def insK (ks : List Int) (x : Int) : List Int := if x ∈ ks then ks else ks ++ [x]
theorem mem_insK {ks : List Int} {x q : Int} : q ∈ insK ks x ↔ q ∈ ks ∨ q = x := by
 unfold insK
 split
 ·rename_i h
  exact ⟨.inl, fun e => e.elim id (fun e => e ▸ h)⟩
 ·simp
theorem insK_nodup {ks : List Int} (x : Int) (h : ks.Nodup) : (insK ks x).Nodup := by
 unfold insK
 split
 ·exact h
 ·rename_i hx
  rw [List.nodup_append]
  exact ⟨h, by simp, fun a ha b hb e => hx (by rw [List.mem_singleton] at hb; rw [← hb, ← e]; exact ha)⟩
def FootAt (w : World) (b s : Nat) (ks : List Int) : Prop :=
 ks.Nodup ∧ ∃ f, MapAt Try.prog 3 w b s f ∧ (∀ k, f (.int .i64 k) = if k ∈ ks then some (.bool true) else none) ∧ ∀ v x, f v = some x → ∃ k, v = .int .i64 k
theorem FootAt.new (w : World) (c : Nat) : FootAt (w.alloc (.map #[] c)) w.heap.size 0 [] :=
 ⟨List.nodup_nil, _, MapAt.new _ _ _ _, fun k => by simp, fun v x h => by simp at h⟩
section
variable {w w' : World} {b s : Nat} {ks : List Int}
theorem FootAt.move (h : FootAt w b s ks) (hb : w'.heap[b]? = w.heap[b]?) : FootAt w' b s ks := by
 obtain ⟨h0, f, h1, h2⟩ := h
 exact ⟨h0, f, h1.move hb, h2⟩
theorem FootAt.lt (h : FootAt w b s ks) : b < w.heap.size := by
 obtain ⟨_, f, h1, _⟩ := h
 exact h1.lt
theorem FootAt.below (h : FootAt w b s ks) (hb : Below w.heap.size w w') : FootAt w' b s ks := h.move (hb.block b h.lt)
theorem FootAt.mono {s' : Nat} (h : FootAt w b s ks) (hs : s ≤ s') : FootAt w b s' ks := by
 obtain ⟨h0, f, h1, h2⟩ := h
 exact ⟨h0, f, h1.mono hs, h2⟩
theorem FootAt.put (h : FootAt w b s ks) (hs : s ≤ 900000000000000000) {k : Int} (hk : InI k) :
  ∃ w', (Instr.mapUpdate 98 (.map (some b)) (.int .i64 k) (.bool true)).run Try.prog w = .ok () w' ∧ FootAt w' b (s + 1) (insK ks k) ∧ Mem.Frame (fun i => i = b) w w' := by
 obtain ⟨h0, f, h1, h2, h3⟩ := h
 obtain ⟨l, hl⟩ := key_int hk
 classical
 obtain ⟨w', e1, e2, e3⟩ := h1.put (t := 98) (e := 4) lawInt (by kernel_rfl) (by unfold maxLen; omega) (val := .bool true) hl (f' := fun q => if q = .int .i64 k then some (.bool true) else f q) (if_pos rfl) (fun q hq => if_neg hq)
 refine ⟨w', e1, ⟨insK_nodup k h0, _, e2, fun p => ?_, fun v u hv => ?_⟩, e3⟩
 ·by_cases c : p = k
  ·subst c
   rw [if_pos rfl, if_pos (mem_insK.2 (.inr rfl))]
  ·rw [if_neg (fun e => c (by simpa using e)), h2]
   by_cases d : p ∈ ks
   ·rw [if_pos d, if_pos (mem_insK.2 (.inl d))]
   ·rw [if_neg d, if_neg (fun q => (mem_insK.1 q).elim d c)]
 ·by_cases c : v = .int .i64 k
  ·exact ⟨k, c⟩
  ·simp only [if_neg c] at hv
   exact h3 v u hv
theorem FootAt.get (h : FootAt w b s ks) {k : Int} (hk : InI k) :
  (Instr.lookup 98 (.map (some b)) (.int .i64 k) false).run Try.prog w = .ok (.bool (decide (k ∈ ks))) w := by
 obtain ⟨h0, f, h1, h2, h3⟩ := h
 obtain ⟨l, hl⟩ := key_int hk
 have := h1.get (t := 98) (e := 4) lawInt (by kernel_rfl) (z := .bool false) (by kernel_rfl) hl
 rw [this, h2]
 by_cases c : k ∈ ks
 ·rw [if_pos c, decide_eq_true c]; rfl
 ·rw [if_neg c, decide_eq_false c]; rfl
theorem FootAt.len (h : FootAt w b s ks) (ty : TypeId) : (Builtin.len_ #[98] ty #[.map (some b)]).run Try.prog w = .ok (.int .i64 (ks.length : Int)) w := by
 obtain ⟨h0, f, ⟨es, clock, hb, hst, hsz, hks, hin, hof⟩, h2, h3⟩ := h
 have hu : Try.prog.underlying 98 = some (.map 3 4) := by kernel_rfl
 have hent : ∀ x ∈ es.toList, ∃ k, k ∈ ks ∧ x.key = .int .i64 k := by
  intro x hx
  have h5 := hin x hx
  obtain ⟨k, hk⟩ := h3 _ _ h5
  rw [hk, h2] at h5
  by_cases c : k ∈ ks
  ·exact ⟨k, c, hk⟩
  ·rw [if_neg c] at h5; cases h5
 have hp : (es.toList.map (·.key)).Perm (ks.map fun k => Value.int .i64 k) := by
  refine (List.perm_ext_iff_of_nodup hst.2.2 ?_).2 fun v => ?_
  ·rw [List.Nodup, List.pairwise_map]
   exact h0.imp fun {a b} h e => h (by injection e)
  ·rw [List.mem_map, List.mem_map]
   constructor
   ·rintro ⟨x, hx, rfl⟩
    obtain ⟨k, hk, e⟩ := hent x hx
    exact ⟨k, hk, e.symm⟩
   ·rintro ⟨k, hk, rfl⟩
    obtain ⟨x, hx, e⟩ := hof (.int .i64 k) (.bool true) (by rw [h2, if_pos hk])
    exact ⟨x, hx, e⟩
 have hl := hp.length_eq
 rw [List.length_map, List.length_map, Array.length_toList] at hl
 simp [Builtin.len_, run_underlying hu, MapKept.run_getObj_map hb, goInt, hl]
end
structure Rl where
 p : Nat
 f : Nat
 r : Nat
 N : Nat
 A : Option Addr
 cA : Nat
 gE : Value
structure Rim (w0 w : World) (B : Rl) (ar : List (List Int)) (a b c : Int) (rk sh : List Int) (As : Option Addr) (cs : Nat) : Prop where
 old : Below w0.heap.size w0 w
 frame : w0.heap[B.f]? = some (.cells #[.int .i64 (B.N : Int), B.gE, .slice B.A B.N B.cA, .int .i64 a, .int .i64 b, .int .i64 c] 69 (0, 0))
 rows : Kd.C KR w0 B.A ar.length ar
 lar : ar.length = B.N
 lop : w0.heap.size ≤ B.p
 lor : w0.heap.size ≤ B.r
 rim : w.heap[B.p]? = some (.cells #[.pointer (some ⟨B.f, 0, none⟩), .slice (some ⟨B.r, 0, none⟩) B.N B.N, .slice As sh.length cs] 91 (0, 0))
 r : IRow w B.r rk
 lr : rk.length = B.N
 shown : Kd.C (Kd.int .i64) w As sh.length sh
 cap : sh.length ≤ cs
 bnd : ∀ g, As = some g → w0.heap.size ≤ g.block ∧ g.block < w.heap.size ∧ g.block ≠ B.p
 ne : B.p ≠ B.r
section
variable {w0 w w' : World} {B : Rl} {ar : List (List Int)} {a b c : Int} {rk sh : List Int} {As : Option Addr} {cs : Nat}
theorem Rim.below (h : Rim w0 w B ar a b c rk sh As cs) (hb : Below w.heap.size w w') : Rim w0 w' B ar a b c rk sh As cs :=
 ⟨h.old.trans (hb.mono h.old.size), h.frame, h.rows, h.lar, h.lop, h.lor, (hb.block _ (lt_of h.rim)).trans h.rim, (hb.block _ (lt_of h.r)).trans h.r, h.lr, Kd.C_below h.shown hb, h.cap, fun g e => ⟨(h.bnd g e).1, Nat.lt_of_lt_of_le (h.bnd g e).2.1 hb.size, (h.bnd g e).2.2⟩, h.ne⟩
theorem Rim.drew (h : Rim w0 w B ar a b c rk sh As cs) : Rim w0 w.drew B ar a b c rk sh As cs := h.below ((Below.refl _ _).drew)
theorem Rim.c0 (h : Rim w0 w B ar a b c rk sh As cs) : w.cell? ⟨B.p, 0, none⟩ = some (.pointer (some ⟨B.f, 0, none⟩)) := heap_cell h.rim rfl
theorem Rim.c1 (h : Rim w0 w B ar a b c rk sh As cs) : w.cell? ⟨B.p, 1, none⟩ = some (.slice (some ⟨B.r, 0, none⟩) B.N B.N) := heap_cell h.rim rfl
theorem Rim.c2 (h : Rim w0 w B ar a b c rk sh As cs) : w.cell? ⟨B.p, 2, none⟩ = some (.slice As sh.length cs) := heap_cell h.rim rfl
theorem Rim.blk (h : Rim w0 w B ar a b c rk sh As cs) : w.heap[B.f]? = some (.cells #[.int .i64 (B.N : Int), B.gE, .slice B.A B.N B.cA, .int .i64 a, .int .i64 b, .int .i64 c] 69 (0, 0)) := (h.old.block _ (lt_of h.frame)).trans h.frame
theorem Rim.f0 (h : Rim w0 w B ar a b c rk sh As cs) : w.cell? ⟨B.f, 0, none⟩ = some (.int .i64 (B.N : Int)) := heap_cell h.blk rfl
theorem Rim.f2 (h : Rim w0 w B ar a b c rk sh As cs) : w.cell? ⟨B.f, 2, none⟩ = some (.slice B.A B.N B.cA) := heap_cell h.blk rfl
theorem Rim.f3 (h : Rim w0 w B ar a b c rk sh As cs) : w.cell? ⟨B.f, 3, none⟩ = some (.int .i64 a) := heap_cell h.blk rfl
theorem Rim.f4 (h : Rim w0 w B ar a b c rk sh As cs) : w.cell? ⟨B.f, 4, none⟩ = some (.int .i64 b) := heap_cell h.blk rfl
theorem Rim.f5 (h : Rim w0 w B ar a b c rk sh As cs) : w.cell? ⟨B.f, 5, none⟩ = some (.int .i64 c) := heap_cell h.blk rfl
theorem Rim.row (h : Rim w0 w B ar a b c rk sh As cs) {u : Nat} (hu : u < B.N) : ∃ ad D cD, B.A = some ad ∧ (gl ar u).length ≤ cD ∧ ∀ wx, Below w0.heap.size w0 wx → wx.cell? (ad.add u) = some (.slice D (gl ar u).length cD) ∧ Kd.C (Kd.int .i64) wx D (gl ar u).length (gl ar u) := by
 obtain ⟨ad, D, cD, e, h1, h2, h3⟩ := row_at h.rows (i := u) (by rw [h.lar]; exact hu)
 exact ⟨ad, D, cD, e, h2, fun wx hb => ⟨(hb.cell (cell_lt h1)).trans h1, Kd.C_below h3 hb⟩⟩
end
def footTo (rk row : List Int) (v : Nat) : Nat → List Int
 | 0 => []
 | k + 1 => if gi rk (gi row k).toNat < gi rk v then insK (footTo rk row v k) (gi row k) else footTo rk row v k
def feetTo (foot sh : List Int) (k : Nat) : List Int := (sh.take k).filter fun x => decide (x ∈ foot)
def firstTo (foot sh : List Int) : Nat → Int
 | 0 => -1
 | k + 1 => if gi sh k ∈ foot ∧ firstTo foot sh k < 0 then (k : Int) else firstTo foot sh k
theorem footTo_len (rk row : List Int) (v : Nat) : ∀ k, (footTo rk row v k).length ≤ k
 | 0 => Nat.le_refl _
 | k + 1 => by
  have h := footTo_len rk row v k
  unfold footTo insK
  split
  ·split
   ·omega
   ·rw [List.length_append]; simp; omega
  ·omega
theorem feetTo_succ (foot sh : List Int) {k : Nat} (hk : k < sh.length) : feetTo foot sh (k + 1) = if gi sh k ∈ foot then feetTo foot sh k ++ [gi sh k] else feetTo foot sh k := by
 have e : gi sh k = sh[k] := by unfold gi; rw [List.getD_eq_getElem?_getD, List.getElem?_eq_getElem hk]; rfl
 unfold feetTo
 rw [List.take_succ_eq_append_getElem hk, List.filter_append, ← e]
 by_cases c : gi sh k ∈ foot
 ·rw [if_pos c]
  simp [c]
 ·rw [if_neg c]
  simp [c]
theorem first_feet (foot sh : List Int) : ∀ k, k ≤ sh.length → (firstTo foot sh k = -1 ∧ feetTo foot sh k = []) ∨ (0 ≤ firstTo foot sh k ∧ 0 < (feetTo foot sh k).length ∧ firstTo foot sh k + ((feetTo foot sh k).length : Int) ≤ (k : Int))
 | 0, _ => .inl ⟨rfl, by simp [feetTo]⟩
 | k + 1, h => by
  rw [feetTo_succ foot sh (by omega)]
  unfold firstTo
  rcases first_feet foot sh k (by omega) with ⟨h1, h2⟩ | ⟨h1, h2, h3⟩
  ·rw [h1, h2]
   by_cases c : gi sh k ∈ foot
   ·rw [if_pos ⟨c, by omega⟩, if_pos c]
    exact .inr ⟨by omega, by simp, by simp⟩
   ·rw [if_neg (fun q => c q.1), if_neg c]
    exact .inl ⟨rfl, rfl⟩
  ·rw [if_neg (fun q => by omega)]
   refine .inr ⟨h1, ?_, ?_⟩
   ·split
    ·rw [List.length_append]; omega
    ·exact h2
   ·split
    ·rw [List.length_append]; simp; omega
    ·omega
def layF (ar : List (List Int)) (rk sh : List Int) (v : Nat) : Option (List Int × List Int) :=
 let foot := footTo rk (gl ar v) v (gl ar v).length
 let feet := feetTo foot sh sh.length
 let first := firstTo foot sh sh.length
 let last := (first + (feet.length : Int) - 1).toNat
 if feet.length < 2 ∨ feet.length < foot.length ∨ gi sh last ∉ foot ∨ gi sh last ≠ gi feet (feet.length - 1) then none
 else if ((feet.take (feet.length - 1)).drop 1).any (fun w => (gl ar w.toNat).any fun x => decide (gi rk v < gi rk x.toNat)) = true then none
 else some (feet, sh.take (first.toNat + 1) ++ [(v : Int)] ++ sh.drop last)
end Peel
namespace Peel
open Mem
def lessTo (st row nr : List Int) : Nat → List Int
 | 0 => nr
 | k + 1 => if gi st (gi row k).toNat = 1 then (lessTo st row nr k).set (gi row k).toNat (wrap64 (gi (lessTo st row nr k) (gi row k).toNat - 1)) else lessTo st row nr k
structure Sta where
 s : List Int
 x : List Int
 v : List Int
 e : List Int
def enterS (ar : List (List Int)) (z : Sta) (v : Nat) (p q : Int) : Sta := ⟨z.s.set v 1, enX z.x v p q, enV z.v v p q, nearTo (z.s.set v 1) (gl ar v) v z.e (gl ar v).length⟩
def hidTo (ar : List (List Int)) (l : List Int) (z : Sta) : Nat → Sta
 | 0 => z
 | k + 1 => enterS ar (hidTo ar l z k) (gi l (k + 1)).toNat (gi l k) (gi l (l.length - 1))
def touTo (ar : List (List Int)) (l row : List Int) : Nat → List Int
 | 0 => row
 | k + 1 => touTo ar l row k ++ gl ar (gi l (k + 1)).toNat
def lOf (ar : List (List Int)) (z : Sta) (v : Nat) : List Int := btw (flt z.s (gl ar v) (gl ar v).length) (gi z.v v) (gi z.x v)
def goneS (ar : List (List Int)) (z : Sta) (v : Nat) : Sta :=
 ⟨z.s.set v 2, z.x.set (gi (lOf ar z v) 0).toNat (gi (lOf ar z v) ((lOf ar z v).length - 1)), z.v.set (gi (lOf ar z v) ((lOf ar z v).length - 1)).toNat (gi (lOf ar z v) 0), lessTo (z.s.set v 2) (gl ar v) z.e (gl ar v).length⟩
def takeS (ar : List (List Int)) (z : Sta) (v : Nat) : Sta := hidTo ar (lOf ar z v) (goneS ar z v) ((lOf ar z v).length - 2)
def takeT (ar : List (List Int)) (z : Sta) (v : Nat) : List Int := touTo ar (lOf ar z v) (gl ar v) ((lOf ar z v).length - 2)
theorem C_at2 {w : World} {g : Nat} {n : Nat} {xs : List Int} (h : (Kd.int .i64).C w (some ⟨g, 0, none⟩) n xs) (i : Nat) (hi : i < n) : w.cell? ⟨g, i, none⟩ = some (.int .i64 (gi xs i)) := by
 obtain ⟨_, e, y⟩ := Kd.at_int h (i : Int) (by omega) (by omega)
 injection e with e
 subst e
 rw [gi_rd, Int.toNat_natCast, add_plain] at y
 exact y
structure Ok (N : Nat) (ar : List (List Int)) : Prop where
 inn : ∀ v, v < N → ∀ j, j < (gl ar v).length → 0 ≤ gi (gl ar v) j ∧ gi (gl ar v) j < (N : Int)
 short : ∀ v, v < N → (gl ar v).length ≤ 1048576
 hN : N ≤ 1048576
theorem Ok.len {N : Nat} {ar : List (List Int)} (h : Ok N ar) : ∀ v, v < N → (gl ar v).length ≤ 9000000 := fun v hv => Nat.le_trans (h.short v hv) (by decide)
abbrev AtS (w0 w : World) (B : Bl) (ar : List (List Int)) (a b c : Int) (z : Sta) : Prop := At w0 w B ar a b c z.s z.x z.v z.e
theorem btw_length (l : List Int) (x y : Int) : (btw l x y).length = l.length := by unfold btw; simp
theorem btw_in {N : Nat} {l : List Int} (h : ∀ j, j < l.length → 0 ≤ gi l j ∧ gi l j < (N : Int)) (x y : Int) : ∀ j, j < (btw l x y).length → 0 ≤ gi (btw l x y) j ∧ gi (btw l x y) j < (N : Int) := by
 intro j hj
 rw [btw_length] at hj
 have e : gi (btw l x y) j = gi l ((l.idxOf x + j * (if gi l ((l.idxOf x + l.length - 1) % l.length) = y then 1 else l.length - 1)) % l.length) := by
  unfold btw
  unfold gi
  rw [List.getD_eq_getElem?_getD, List.getElem?_map, List.getElem?_range hj]
  rfl
 rw [e]
 exact h _ (Nat.mod_lt _ (by omega))
theorem flt_in {N : Nat} {st row : List Int} (h : ∀ j, j < row.length → 0 ≤ gi row j ∧ gi row j < (N : Int)) (k : Nat) : ∀ j, j < (flt st row k).length → 0 ≤ gi (flt st row k) j ∧ gi (flt st row k) j < (N : Int) := by
 intro j hj
 have e : gi (flt st row k) j = (flt st row k)[j] := by unfold gi; rw [List.getD_eq_getElem?_getD, List.getElem?_eq_getElem hj]; rfl
 have hm : (flt st row k)[j] ∈ flt st row k := List.getElem_mem hj
 rw [← e] at hm
 unfold flt at hm
 obtain ⟨i, hi, ei⟩ := List.mem_iff_getElem.1 (List.mem_of_mem_take (List.mem_filter.1 hm).1)
 have := h i hi
 have e2 : gi row i = row[i] := by unfold gi; rw [List.getD_eq_getElem?_getD, List.getElem?_eq_getElem hi]; rfl
 rw [e2, ei] at this
 exact this
theorem lOf_in {N : Nat} {ar : List (List Int)} (h : Ok N ar) (z : Sta) {v : Nat} (hv : v < N) : ∀ j, j < (lOf ar z v).length → 0 ≤ gi (lOf ar z v) j ∧ gi (lOf ar z v) j < (N : Int) := btw_in (flt_in (h.inn v hv) _) _ _
theorem lOf_len {N : Nat} {ar : List (List Int)} (h : Ok N ar) (z : Sta) {v : Nat} (hv : v < N) : (lOf ar z v).length ≤ 9000000 := by
 unfold lOf
 rw [btw_length]
 exact Nat.le_trans (flt_len _ _ _) (h.len v hv)
theorem touTo_len {N : Nat} {ar : List (List Int)} (h : Ok N ar) {l : List Int} (hl : ∀ j, j < l.length → 0 ≤ gi l j ∧ gi l j < (N : Int)) (row : List Int) : ∀ k, k < l.length → (touTo ar l row k).length ≤ row.length + k * 1048576
 | 0, _ => by show row.length ≤ _; omega
 | k + 1, hk => by
  show (touTo ar l row k ++ gl ar (gi l (k + 1)).toNat).length ≤ _
  have h1 := touTo_len h hl row k (by omega)
  have h2 := hl (k + 1) hk
  have h3 := h.short (gi l (k + 1)).toNat (by omega)
  rw [List.length_append]
  omega
theorem takeT_len {N : Nat} {ar : List (List Int)} (h : Ok N ar) (z : Sta) {v : Nat} (hv : v < N) (hp : 0 < (lOf ar z v).length) : ∀ k, k ≤ (lOf ar z v).length - 2 → (touTo ar (lOf ar z v) (gl ar v) k).length ≤ 9000000000000 := fun k hk => by
 have h1 := touTo_len h (lOf_in h z hv) (gl ar v) k (by omega)
 have h2 := h.short v hv
 have h3 : (lOf ar z v).length ≤ 1048576 := by
  unfold lOf
  rw [btw_length]
  exact Nat.le_trans (flt_len _ _ _) h2
 have h4 : k * 1048576 ≤ 1048576 * 1048576 := Nat.mul_le_mul_right _ (by omega)
 omega
theorem take_calls {w0 w : World} {B : Bl} {ar : List (List Int)} {a b c : Int} {z : Sta} (h : AtS w0 w B ar a b c z) (hok : Ok B.N ar) (v : Nat) (hv : v < B.N) (hx : gi z.v v ∈ flt z.s (gl ar v) (gl ar v).length) :
  Calls Try.prog 31 #[.pointer (some ⟨B.p, 0, none⟩), .int .i64 (v : Int)] w fun e w' => ∃ u, e = .returned u ∧ AtS w0 w' B ar a b c (takeS ar z v) ∧ Kd.R (Kd.int .i64) 3 w' w.heap.size (fun _ => True) u (takeT ar z v) ∧ Mem.Frame (Own B) w w' := by
 have HOK := Aside0.mk hok
 have hpl : 0 < (flt z.s (gl ar v) (gl ar v).length).length := List.length_pos_of_mem hx
 have htl := takeT_len hok z hv (by unfold lOf; rw [btw_length]; exact hpl)
 have HTL := Aside0.mk htl
 have hin := lOf_in hok z hv
 have hll := lOf_len hok z hv
 obtain ⟨l, hl⟩ : ∃ l, l = lOf ar z v := ⟨_, rfl⟩
 have hlp : 0 < l.length := by rw [hl]; unfold lOf; rw [btw_length]; exact hpl
 rw [← hl] at hin hll HTL
 obtain ⟨row, hrw⟩ : ∃ row, row = gl ar v := ⟨_, rfl⟩
 rw [← hrw] at HTL
 have HL := Aside0.mk hl
 have HRW := Aside0.mk hrw
 have HIN := Aside0.mk hin
 have HX := Aside0.mk hx
 have HA := Aside0.mk h
 have hrl := hok.len v hv
 rw [← hrw] at hrl
 have gv : (v : Int) < (B.N : Int) := by omega
 clear h hok hx htl hpl hin hl hrw
 go_enter Try.func31, Try.ntmps31
 go_wp2_with fail
 refine (between_calls HA.out v hv (HOK.out.inn v hv) (HOK.out.len v hv) HX.out).mono ?_
 rintro e w1 ⟨u, rfl, hR, hb⟩
 obtain ⟨Al, cl, rfl⟩ := Kd.R_slice hR
 have HR1 : Aside0 (Kd.R (Kd.int .i64) 3 w1 w.heap.size (fun k => w.heap.size ≤ k) (.slice Al l.length cl) l) := ⟨by
  rw [HL.out]
  exact Kd.R_mono (Kd.R_bound hR) (fun k hk => hk.2.1)⟩
 have HA1 := Aside0.mk (HA.out.below hb)
 have HF1 : Aside0 (Mem.Frame (Own B) w w1) := ⟨Mem.Frame.of_below hb⟩
 have hwl : (btw (flt z.s (gl ar v) (gl ar v).length) (gi z.v v) (gi z.x v)).length = l.length := by rw [HL.out]; rfl
 rw [hwl]
 clear hR hb hwl HX
 have x1 := HA1.out.c1
 have y1 := HA1.out.s.cell (i := v) (by rw [HA1.out.ls]; exact hv)
 have f1 := HA1.out.s.free v
 go_upto_region 3 with (fail)
 clear x1 y1 f1
 obtain ⟨w2, hw2⟩ : ∃ w2, w2 = w1.setCell ⟨B.s, v, none⟩ (.int .i64 2) := ⟨_, rfl⟩
 have HA2 : Aside0 (At w0 w2 B ar a b c (z.s.set v 2) z.x z.v z.e) := ⟨by rw [hw2]; exact HA1.out.put1 v 2⟩
 have HF2 : Aside0 (Mem.Frame (Own B) w w2) := ⟨by rw [hw2]; exact HF1.out.setCell (p := ⟨B.s, v, none⟩) (.inl rfl) _⟩
 have HOW : Aside0 (∀ k, Own B k → k < w.heap.size) := ⟨by
  intro k hk
  rcases hk with rfl | rfl | rfl | rfl
  ·exact lt_of HA.out.s
  ·exact lt_of HA.out.x
  ·exact lt_of HA.out.v
  ·exact lt_of HA.out.e⟩
 obtain ⟨S2, hS2⟩ : ∃ S, S = w2.heap.size := ⟨_, rfl⟩
 have HR2 : Aside0 (Kd.R (Kd.int .i64) 3 w2 w.heap.size (fun k => w.heap.size ≤ k ∧ k < S2) (.slice Al l.length cl) l) := ⟨by
  rw [hS2]
  refine Kd.R_mono (Kd.R_bound (ok := fun k => w.heap.size ≤ k) ?_) (fun k hk => ⟨hk.1, hk.2.2.1⟩)
  rw [hw2]
  exact Kd.R_far (p := ⟨B.s, v, none⟩) HR1.out (fun k hk => by have := HOW.out B.s (.inl rfl); show k ≠ B.s; omega) _⟩
 have HSS : Aside0 (w.heap.size ≤ S2 ∧ S2 = w2.heap.size) := ⟨by rw [hS2]; exact HF2.out.size, hS2⟩
 clear hS2
 rw [← hw2]
 clear hw2 HA1 HF1 HR1
 obtain ⟨ad, D, cD, eA, hcD, hrow⟩ := HA2.out.row hv
 rw [← HRW.out] at hcD hrow
 have HROW := Aside0.mk hrow
 have HCD := Aside0.mk hcD
 have z1 := (hrow _ (HA2.out.old.alloc HA2.out.old.size (.cells #[] 3 (0, 0)))).1
 have hb0 : Below w2.heap.size w2 (w2.alloc (.cells #[] 3 (0, 0))) := (Below.refl _ _).alloc (Nat.le_refl _) _
 have z0 := (HA2.out.below hb0).c0
 have z2 := (HA2.out.below hb0).f2
 rw [eA] at z2
 have HO : Aside0 (Kd.R (Kd.int .i64) 3 (w2.alloc (.cells #[] 3 (0, 0))) w2.heap.size (fun _ => True) (.slice (some ⟨w2.heap.size, 0, none⟩) 0 0) []) := ⟨Kd.R_of_own (World.ownsRow_lit (base := w2.heap.size) (size := 1) (e := 3) w2 #[] 0 (Nat.le_refl _) (by unfold maxLen; omega) rfl) (fun _ _ => trivial)⟩
 have HLR := Aside0.mk (hrow _ (HA2.out.old.alloc HA2.out.old.size (.cells #[] 3 (0, 0)))).2
 have HB3 := Aside0.mk hb0
 have hzl : (([] : List Int).length + row.length) * 8 ≤ 140737488351232 := by simp; omega
 have HEA := Aside0.mk eA
 clear hrow hb0 hcD eA
 go_wp2_with (at_builtin; go_loud (refine Kd.R_append_rows (Kd.int .i64) (Rr := (Kd.int .i64).K (w2.alloc (.cells #[] 3 (0, 0)))) (w0 := w2) (W := w2.alloc (.cells #[] 3 (0, 0))) w2.heap.size rfl _ _ 27 3 (.int .i64 0) 8 rfl Try.underlying27 info_int rfl (by decide) (by decide) (.slice (some ⟨w2.heap.size, 0, none⟩) 0 0) [] row D row.length cD (fun _ => True) (fun _ => False) rfl rfl HO.out HLR.out (fun _ _ h => h) (fun _ h => h.elim) (fun _ _ => trivial) HB3.out HB3.out.size (by have := hzl; simp at this ⊢; omega) ?_))
 intro v3 w3 hT hb3 hg3 hat3
 clear hat3 hg3
 obtain ⟨At1, ct, rfl⟩ := Kd.R_slice hT
 have HA3 := Aside0.mk (HA2.out.below hb3)
 have HF3 : Aside0 (Mem.Frame (Own B) w w3) := ⟨HF2.out.trans (Mem.Frame.of_below hb3)⟩
 have HS30 : Aside0 (S2 ≤ w3.heap.size) := ⟨by rw [HSS.out.2]; exact hb3.size⟩
 have HR3 := Aside0.mk (Kd.R_below HR2.out hb3)
 have HT3 : Aside0 (Kd.R (Kd.int .i64) 3 w3 w.heap.size (fun k => S2 ≤ k) (.slice At1 row.length ct) row) := ⟨Kd.R_lower (Kd.R_mono (Kd.R_bound hT) (fun k hk => by rw [HSS.out.2]; exact hk.2.1)) (by rw [← HSS.out.2]; exact HSS.out.1)⟩
 clear hT hb3 HO HLR HB3 hzl z0 z1 z2 HA2 HF2 HR2
 have z1 := (HROW.out _ HA3.out.old).1
 have z0 := HA3.out.c0
 have z2 := HA3.out.f2
 rw [HEA.out] at z2
 go_wp2_with fail
 clear z0 z1 z2
 have HA4 : Aside0 (At w0 w3 B ar a b c (z.s.set v 2) z.x z.v (lessTo (z.s.set v 2) row z.e 0)) := HA3
 have HF4 : Aside0 (Mem.Frame (Own B) w3 w3) := ⟨Mem.Frame.refl _ _⟩
 obtain ⟨st2, hst⟩ : ∃ s, s = z.s.set v 2 := ⟨_, rfl⟩
 rw [← hst] at HA4
 have HST := Aside0.mk hst
 clear HA3 hst
 go_loopw [43] (fun y ws => ∃ k : Nat, y = .int .i64 (k : Int) ∧ k ≤ row.length ∧ Aside0 (At w0 ws B ar a b c st2 z.x z.v (lessTo st2 row z.e k)) ∧ Aside0 (Mem.Frame (Own B) w3 ws)) (fun y _ => row.length - (intOf y).toNat)
 case atStart => exact ⟨0, rfl, by omega, HA4, HF4⟩
 case round =>
  clear HA4 HF4
  obtain ⟨k, rfl, hk, HA4, HF4⟩ := hrel
  by_cases hlt : k < row.length
  ·have s1 : decide ((k : Int) < (row.length : Int)) = true := decide_eq_true (by omega)
   obtain ⟨r0, r1⟩ := HOK.out.inn v hv k (by rw [← HRW.out]; exact hlt)
   rw [← HRW.out] at r0 r1
   obtain ⟨u, hu⟩ := Int.eq_ofNat_of_zero_le r0
   have hun : u < B.N := by omega
   have gu : (u : Int) < (B.N : Int) := by omega
   have HU := Aside0.mk hu
   obtain ⟨adr, eD, z1⟩ := Kd.at_int ((HROW.out wr HA4.out.old).2) (k : Int) (by omega) (by omega)
   subst eD
   rw [gi_rd, Int.toNat_natCast, hu] at z1
   obtain ⟨nk, hnk⟩ : ∃ nk, nk = lessTo st2 row z.e k := ⟨_, rfl⟩
   rw [← hnk] at HA4
   have HNK := Aside0.mk hnk
   clear r0 r1 hu hnk
   have x1 := HA4.out.c1
   have z2 := HA4.out.s.cell (i := u) (by rw [HA4.out.ls]; exact hun)
   obtain ⟨y0, hy0⟩ : ∃ y, y = gi st2 u := ⟨_, rfl⟩
   rw [← hy0] at z2
   have HY := Aside0.mk hy0
   clear hy0
   by_cases c1 : y0 = 1
   ·subst c1
    obtain ⟨y1, hy1⟩ : ∃ y, y = gi nk u := ⟨_, rfl⟩
    obtain ⟨y2, hy2⟩ : ∃ y, y = wrap64 (y1 - 1) := ⟨_, rfl⟩
    have m1 : IntKind.i64.wrap (y1 - 1) = y2 := by rw [IntWalk.i64_left]; exact hy2.symm
    have m3 := hy2.symm
    have x4 := HA4.out.c4
    have z3 := HA4.out.e.cell (i := u) (by rw [HA4.out.le]; exact hun)
    rw [← hy1] at z3
    have f3 := HA4.out.e.free u
    have HA8 : Aside0 (At w0 (wr.setCell ⟨B.e, u, none⟩ (.int .i64 y2)) B ar a b c st2 z.x z.v (lessTo st2 row z.e (k + 1))) := ⟨by
     have h := HA4.out.put4 u y2
     have e : lessTo st2 row z.e (k + 1) = nk.set u y2 := by
      show (if gi st2 (gi row k).toNat = 1 then _ else _) = _
      rw [HU.out, Int.toNat_natCast, if_pos HY.out.symm, ← HNK.out, ← hy1, ← hy2]
     rw [e]
     exact h⟩
    have HF8 : Aside0 (Mem.Frame (Own B) w3 (wr.setCell ⟨B.e, u, none⟩ (.int .i64 y2))) := ⟨HF4.out.setCell (p := ⟨B.e, u, none⟩) (.inr (.inr (.inr rfl))) _⟩
    clear hy1 hy2 HA4 HF4
    go_wp2_with fail
    clear x1 x4 z1 z2 z3 f3 m1 m3 s1
    go_roundw
    case rel => exact ⟨k + 1, by go_num, by omega, HA8, HF8⟩
    case measure => simp [intOf]; omega
   ·have t1 : (y0 == 1) = false := beq_eq_false_iff_ne.2 c1
    have HA8 : Aside0 (At w0 wr B ar a b c st2 z.x z.v (lessTo st2 row z.e (k + 1))) := ⟨by
     have e : lessTo st2 row z.e (k + 1) = nk := by
      show (if gi st2 (gi row k).toNat = 1 then _ else _) = _
      rw [HU.out, Int.toNat_natCast, if_neg (fun q => c1 (HY.out.trans q)), ← HNK.out]
     rw [e]
     exact HA4.out⟩
    clear HA4 c1
    go_wp2_with fail
    clear x1 z1 z2 t1 s1
    go_roundw
    case rel => exact ⟨k + 1, by go_num, by omega, HA8, HF4⟩
    case measure => simp [intOf]; omega
  ·obtain rfl : k = row.length := by omega
   have s1 : decide ((row.length : Int) < (row.length : Int)) = false := decide_eq_false (by omega)
   have s2 : decide (row.length < row.length) = false := decide_eq_false (by omega)
   have s3 : ¬ row.length < row.length := by omega
   have hOwn : ∀ k, w.heap.size ≤ k → ¬ Own B k := fun k hk h => by have := HOW.out k h; omega
   have HR5 := Aside0.mk (Kd.R_step HR3.out (fun k hk hlt => HF4.out.block k hlt (hOwn k hk.1)))
   have HT5 := Aside0.mk (Kd.R_step HT3.out (fun k hk hlt => HF4.out.block k hlt (hOwn k (Nat.le_trans HSS.out.1 hk))))
   have HF5 := Aside0.mk (HF3.out.trans HF4.out)
   have HS50 : Aside0 (S2 ≤ wr.heap.size) := ⟨Nat.le_trans HS30.out HF4.out.size⟩
   obtain ⟨nr2, hnr⟩ : ∃ n, n = lessTo st2 row z.e row.length := ⟨_, rfl⟩
   rw [← hnr] at HA4
   have HNR := Aside0.mk hnr
   obtain ⟨L, hL⟩ : ∃ L, L = l.length := ⟨_, rfl⟩
   obtain ⟨L1, hL1⟩ : ∃ n, n = L - 1 := ⟨_, rfl⟩
   rw [← hL] at hll hlp HR5
   have HLL := Aside0.mk hL
   have m1 : IntKind.i64.wrap ((L : Int) - 1) = (L1 : Int) := by rw [IntWalk.i64_in _ (by omega)]; omega
   have gL1 : (L1 : Int) < (L : Int) := by omega
   have HCl := Aside0.mk (Kd.R_reads' HR5.out).2.2
   obtain ⟨adl, eL, q1⟩ := Kd.at_int HCl.out (L1 : Int) (by omega) (by omega)
   subst eL
   obtain ⟨g, rfl⟩ := Kd.R_head HR5.out
   rw [gi_rd, Int.toNat_natCast, add_plain] at q1
   obtain ⟨rg, hrg⟩ : ∃ y, y = gi l L1 := ⟨_, rfl⟩
   rw [← hrg] at q1
   have HRG := Aside0.mk hrg
   have HL1 := Aside0.mk hL1
   rw [← hL]
   clear hnr hrg hk hlt hL hL1 HR3 HT3 HF3 HF4
   go_upto_region 11 with (fail)
   clear q1 m1 s1 s2 s3
   obtain ⟨h0a, h0b⟩ := HIN.out 0 (by rw [← HLL.out]; exact hlp)
   obtain ⟨h1a, h1b⟩ := HIN.out L1 (by rw [← HLL.out]; omega)
   obtain ⟨a0, ha0⟩ := Int.eq_ofNat_of_zero_le h0a
   obtain ⟨r0, hr0⟩ := Int.eq_ofNat_of_zero_le h1a
   rw [← HRG.out] at hr0 h1b
   subst hr0
   have ha0n : a0 < B.N := by omega
   have hr0n : r0 < B.N := by omega
   have ga0 : (a0 : Int) < (B.N : Int) := by omega
   have gr0 : (r0 : Int) < (B.N : Int) := by omega
   have q0 := C_at2 HCl.out 0 (by rw [← HLL.out]; exact hlp)
   rw [ha0] at q0
   have HA0 := Aside0.mk ha0
   have x2 : wr.drew.cell? ⟨B.p, 2, none⟩ = some (.slice (some ⟨B.x, 0, none⟩) B.N B.N) := HA4.out.drew.c2
   have x3 : wr.drew.cell? ⟨B.p, 3, none⟩ = some (.slice (some ⟨B.v, 0, none⟩) B.N B.N) := HA4.out.drew.c3
   have q2 : wr.drew.cell? ⟨g, 0, none⟩ = some (.int .i64 (a0 : Int)) := q0
   have y3 := HA4.out.drew.x.cell (i := a0) (by rw [HA4.out.lx]; exact ha0n)
   have f3 := HA4.out.drew.x.free a0
   have y4 := (HA4.out.put2 a0 (r0 : Int)).v.cell (i := r0) (by rw [HA4.out.lv]; exact hr0n)
   have f4 := (HA4.out.put2 a0 (r0 : Int)).v.free r0
   have y5 := (HA4.out.drew.put2 a0 (r0 : Int)).v.cell (i := r0) (by rw [HA4.out.lv]; exact hr0n)
   have f5 := (HA4.out.drew.put2 a0 (r0 : Int)).v.free r0
   have HA5 := Aside0.mk ((HA4.out.put2 a0 (r0 : Int)).put3 r0 (a0 : Int)).drew
   have hF6 : Mem.Frame (Own B) wr ((wr.setCell ⟨B.x, a0, none⟩ (.int .i64 (r0 : Int))).setCell ⟨B.v, r0, none⟩ (.int .i64 (a0 : Int))).drew := (((Mem.Frame.refl _ _).setCell (p := ⟨B.x, a0, none⟩) (.inr (.inl rfl)) _).setCell (p := ⟨B.v, r0, none⟩) (.inr (.inr (.inl rfl))) _).trans (Mem.Frame.of_below ((Below.refl _ _).drew))
   have HF6 := Aside0.mk hF6
   clear h0a h0b h1a h1b ha0 q0 hF6 hOwn
   refine start_ (n := 20) (S := fun w' => w'.cell? ⟨B.p, 2, none⟩ = some (.slice (some ⟨B.x, 0, none⟩) B.N B.N) ∧ w'.cell? ⟨B.p, 3, none⟩ = some (.slice (some ⟨B.v, 0, none⟩) B.N B.N) ∧ w'.cell? ⟨g, 0, none⟩ = some (.int .i64 (a0 : Int))) (ds := [17, 19]) (bm9 20 0) (by kernel_rfl) rfl rfl ⟨x2, x3, q2⟩ (fun hHeld => ?_)
   refine pu9 0 71 (bm9 20 1) ?_
   refine pu9 1 72 (bm9 20 3) ?_
   refine pu9 2 73 (bm9 20 7) ?_
   refine pu9 4 75 (bm9 20 23) ?_
   refine pu9 5 76 (bm9 20 55) ?_
   refine pu9 7 78 (bm9 20 183) ?_
   refine pu9 8 79 (bm9 20 439) ?_
   refine pu9 9 80 (bm9 20 951) ?_
   refine pu9 11 82 (bm9 20 2999) ?_
   refine pu9 12 83 (bm9 20 7095) ?_
   refine pu9 13 84 (bm9 20 15287) ?_
   refine pu9 14 85 (bm9 20 31671) ?_
   refine tk39 3 74 (bm9 20 31679) hHeld ?_
   refine tk39 6 77 (bm9 20 31743) hHeld ?_
   refine tk39 10 81 (bm9 20 32767) hHeld ?_
   refine tk39 15 86 (bm9 20 65535) hHeld ?_
   refine pu9 16 87 (bm9 20 131071) ?_
   refine last_ (i := 17) (N := none) (bm9 20 262143) rfl rfl (by kernel_rfl) (by decide) (fun K hK => ?_)
   refine skip_ (w1 := ?_) (by rfl) rfl ?_ ?_
   rotate_left
   ·go_simp
    rfl
   refine hK.out _ _ ?_
   clear hK K
   refine pu9 18 88 (bm9 20 524287) ?_
   refine last_ (i := 19) (N := none) (bm9 20 1048575) rfl rfl (by kernel_rfl) (by decide) (fun K hK => ?_)
   refine skip_ (w1 := ?_) (by rfl) rfl ?_ ?_
   rotate_left
   ·go_simp
    rfl
   refine hK.out _ _ ?_
   clear hK K
   refine done_ (by kernel_rfl) ?_
   clear x2 x3 q2 y3 f3 y4 f4 y5 f5
   generalize ((wr.setCell ⟨B.x, a0, none⟩ (.int .i64 (r0 : Int))).setCell ⟨B.v, r0, none⟩ (.int .i64 (a0 : Int))).drew = w7 at HA5 HF6 ⊢
   have hOwn : ∀ k, w.heap.size ≤ k → ¬ Own B k := fun k hk h => by have := HOW.out k h; omega
   have HR7 := Aside0.mk (Kd.R_step HR5.out (fun k hk hlt => HF6.out.block k hlt (hOwn k hk.1)))
   have HT7 := Aside0.mk (Kd.R_step HT5.out (fun k hk hlt => HF6.out.block k hlt (hOwn k (Nat.le_trans HSS.out.1 hk))))
   have HF7 := Aside0.mk (HF5.out.trans HF6.out)
   have HS70 : Aside0 (S2 ≤ w7.heap.size) := ⟨Nat.le_trans HS50.out HF6.out.size⟩
   obtain ⟨zg, hzg⟩ : ∃ zg, zg = goneS ar z v := ⟨_, rfl⟩
   have HZ0 : Aside0 (AtS w0 w7 B ar a b c (hidTo ar l zg 0)) := ⟨by
    have e : zg = ⟨st2, z.x.set a0 (r0 : Int), z.v.set r0 (a0 : Int), nr2⟩ := by
     rw [hzg]
     unfold goneS
     rw [← HL.out, ← HRW.out, ← HST.out, HA0.out, Int.toNat_natCast, ← HLL.out, ← HL1.out, ← HRG.out, Int.toNat_natCast, ← HNR.out]
    show AtS w0 w7 B ar a b c zg
    rw [e]
    exact HA5.out⟩
   have HZG := Aside0.mk hzg
   obtain ⟨M0, hM0⟩ : ∃ M0, M0 = row.length := ⟨_, rfl⟩
   rw [← hM0] at HT7
   rw [← hM0]
   have HM0 : Aside0 (M0 = (touTo ar l row 0).length) := ⟨hM0⟩
   have HT8 : Aside0 (Kd.R (Kd.int .i64) 3 w7 w.heap.size (fun k => S2 ≤ k) (.slice At1 M0 ct) (touTo ar l row 0)) := HT7
   clear hzg hM0 hOwn HR5 HT5 HF5 HF6 HA5 HT7 HCl
   go_wp2_with fail
   go_loopw [6, 10] (fun u y ws => ∃ (i k M : Nat) (A2 : Option Addr) (c2 : Nat), u = .slice A2 M c2 ∧ y = .int .i64 (i : Int) ∧ Aside0 (i = k + 1 ∧ (k = 0 ∨ k + 2 ≤ L) ∧ M = (touTo ar l row k).length) ∧ Aside0 (AtS w0 ws B ar a b c (hidTo ar l zg k)) ∧ Aside0 (Kd.R (Kd.int .i64) 3 ws w.heap.size (fun k => S2 ≤ k) (.slice A2 M c2) (touTo ar l row k)) ∧ Aside0 (Kd.R (Kd.int .i64) 3 ws w.heap.size (fun k => w.heap.size ≤ k ∧ k < S2) (.slice (some ⟨g, 0, none⟩) L cl) l) ∧ Aside0 (S2 ≤ ws.heap.size) ∧ Aside0 (Mem.Frame (Own B) w ws)) (fun _ y _ => L - (intOf y).toNat)
   case atStart => exact ⟨1, 0, M0, At1, ct, rfl, rfl, ⟨⟨rfl, .inl rfl, HM0.out⟩⟩, HZ0, HT8, HR7, HS70, HF7⟩
   case round =>
    clear HM0 HZ0 HT8 HR7 HF7 HS70
    obtain ⟨i, k, M, A2, c2, rfl, rfl, HI, HZ, HT, HR, HSI, HF⟩ := hrel
    have hiL : i ≤ L := by have := HI.out; omega
    obtain ⟨i2, hi2⟩ : ∃ n, n = i + 1 := ⟨_, rfl⟩
    have m1 : IntKind.i64.wrap ((i : Int) + 1) = (i2 : Int) := by rw [IntWalk.i64_in _ (by omega)]; omega
    by_cases hlt : i2 < L
    ·have s1 : decide ((i2 : Int) < (L : Int)) = true := decide_eq_true (by omega)
     obtain ⟨e1a, e1b⟩ := HIN.out i (by rw [← HLL.out]; omega)
     obtain ⟨u1, hu1⟩ := Int.eq_ofNat_of_zero_le e1a
     have hu1n : u1 < B.N := by omega
     obtain ⟨e0a, e0b⟩ := HIN.out k (by rw [← HLL.out]; have := HI.out; omega)
     obtain ⟨y0, hy0⟩ : ∃ y, y = gi l k := ⟨_, rfl⟩
     rw [← hy0] at e0a e0b
     have hCl := (Kd.R_reads' HR.out).2.2
     have q1 := C_at2 hCl i (by have := HLL.out; omega)
     have q0 := C_at2 hCl k (by have := HLL.out; have := HI.out; omega)
     rw [hu1] at q1
     rw [← hy0] at q0
     have m2 : IntKind.i64.wrap ((i : Int) - 1) = (k : Int) := by have := HI.out.1; rw [IntWalk.i64_in _ (by omega)]; omega
     have gk : (k : Int) < (L : Int) := by have := HI.out; omega
     have gi_ : (i : Int) < (L : Int) := by omega
     have HU := Aside0.mk hu1
     have HY := Aside0.mk hy0
     have HI2 := Aside0.mk hi2
     go_upto_region 15 with (fail)
     clear s1 hi2 hu1 hy0 hCl e1a e1b
     have q1 : wr.drew.cell? ⟨g, i, none⟩ = some (.int .i64 (u1 : Int)) := q1
     have q0 : wr.drew.cell? ⟨g, k, none⟩ = some (.int .i64 y0) := q0
     have HZ1 := Aside0.mk (HZ.out.drew)
     have HR1 := Aside0.mk (Kd.R_below HR.out ((Below.refl _ _).drew))
     have HT1 := Aside0.mk (Kd.R_below HT.out ((Below.refl _ _).drew))
     have HF1 : Aside0 (Mem.Frame (Own B) w wr.drew) := ⟨HF.out.trans (Mem.Frame.of_below ((Below.refl _ _).drew))⟩
     clear HZ HR HT HF
     refine start_ (n := 12) (S := fun w' => w'.cell? ⟨g, i, none⟩ = some (.int .i64 (u1 : Int)) ∧ w'.cell? ⟨g, k, none⟩ = some (.int .i64 y0)) (ds := [11]) (bm9 12 0) (by kernel_rfl) rfl rfl ⟨q1, q0⟩ (fun hHeld => ?_)
     refine pu9 0 96 (bm9 12 1) ?_
     refine pu9 1 97 (bm9 12 3) ?_
     refine pu9 2 98 (bm9 12 7) ?_
     refine pu9 3 99 (bm9 12 15) ?_
     refine pu9 5 101 (bm9 12 47) ?_
     refine pu9 6 102 (bm9 12 111) ?_
     refine pu9 7 103 (bm9 12 239) ?_
     refine pu9 8 104 (bm9 12 495) ?_
     refine pu9 10 106 (bm9 12 1519) ?_
     refine tk29 4 100 (bm9 12 1535) hHeld ?_
     refine tk29 9 105 (bm9 12 2047) hHeld ?_
     refine last_ (i := 11) (N := some 107) (bm9 12 4095) rfl rfl (by kernel_rfl) (by decide) (fun K hK => ?_)
     refine goes_ Try.func29 (by kernel_rfl) rfl #[.pointer (some ⟨B.p, 0, none⟩), .int .i64 (u1 : Int), .int .i64 y0, .int .i64 (r0 : Int)] (by rfl) rfl rfl (by simp only [List.map_toArray, List.map_cons, List.map_nil]; rfl) ?_
     with_reducible refine (enter_calls HZ1.out u1 y0 (r0 : Int) hu1n e0b gr0 (HOK.out.inn u1 hu1n) (HOK.out.len u1 hu1n)).mono ?_
     rintro e' w9 ⟨rfl, hA, hF⟩
     refine ⟨_, rfl, ?_⟩
     have HZ2 := Aside0.mk hA
     have HFE := Aside0.mk hF
     clear hA hF
     refine hK.out _ _ ?_
     clear hK K
     refine nm9 ?_
     refine done_ (by kernel_rfl) ?_
     clear q0 m2
     have hOwn : ∀ k, w.heap.size ≤ k → ¬ Own B k := fun k hk h => by have := HOW.out k h; omega
     have HZ3 : Aside0 (AtS w0 w9 B ar a b c (hidTo ar l zg (k + 1))) := ⟨by
      have e : hidTo ar l zg (k + 1) = enterS ar (hidTo ar l zg k) u1 y0 (r0 : Int) := by
       show enterS ar (hidTo ar l zg k) (gi l (k + 1)).toNat (gi l k) (gi l (l.length - 1)) = _
       rw [← HI.out.1, HU.out, Int.toNat_natCast, ← HY.out, ← HLL.out, ← HL1.out, ← HRG.out]
      rw [e]
      exact HZ2.out⟩
     have HE9 : Aside0 (wr.heap.size ≤ w9.heap.size) := ⟨HFE.out.size⟩
     have HR9 := Aside0.mk (Kd.R_step HR1.out (fun k hk hlt => HFE.out.block k hlt (hOwn k hk.1)))
     have HT9 := Aside0.mk (Kd.R_step HT1.out (fun k hk hlt => HFE.out.block k hlt (hOwn k (Nat.le_trans HSS.out.1 hk))))
     have HF9 := Aside0.mk (HF1.out.trans HFE.out)
     clear HZ2 HR1 HT1 HF1 HFE hOwn
     obtain ⟨ad1, D1, cD1, eA1, hcD1, hrow1⟩ := HZ3.out.row hu1n
     obtain rfl : ad = ad1 := by rw [HEA.out] at eA1; injection eA1
     obtain ⟨row1, hrw1⟩ : ∃ r, r = gl ar u1 := ⟨_, rfl⟩
     rw [← hrw1] at hcD1 hrow1
     have hold : Below w0.heap.size w0 w9.drew := HZ3.out.drew.old
     have c0 : w9.drew.cell? ⟨B.p, 0, none⟩ = some (.pointer (some ⟨B.f, 0, none⟩)) := HZ3.out.drew.c0
     have c2' : w9.drew.cell? ⟨B.f, 2, none⟩ = some (.slice (some ad) B.N B.cA) := by rw [← HEA.out]; exact HZ3.out.drew.f2
     have q1 : w9.drew.cell? ⟨g, i, none⟩ = some (.int .i64 (u1 : Int)) := by
      have h := C_at2 (Kd.R_reads' HR9.out).2.2 i (by have := HLL.out; omega)
      rw [HU.out] at h
      exact h
     have q3 := (hrow1 _ hold).1
     have HROW1 := Aside0.mk (hrow1 _ hold).2
     have gu1 : (u1 : Int) < (B.N : Int) := by omega
     have HTD := Aside0.mk (Kd.R_below HT9.out ((Below.refl _ _).drew))
     have HSW : Aside0 (w.heap.size ≤ w9.drew.heap.size ∧ S2 ≤ w9.drew.heap.size) := ⟨HF9.out.size, Nat.le_trans HSI.out HE9.out⟩
     have HFR9 : Aside0 (∀ k, w9.drew.heap.size ≤ k → S2 ≤ k) := ⟨fun k hk => Nat.le_trans HSW.out.2 hk⟩
     have HBR : Aside0 (Below w.heap.size w9.drew w9.drew) := ⟨Below.refl _ _⟩
     have HLB : Aside0 (((touTo ar l row k).length + row1.length) * 8 ≤ 140737488355328) := ⟨by
      have h1 := HTL.out k (by have := HLL.out; have := HI.out; omega)
      have h2 := HOK.out.len u1 hu1n
      rw [← hrw1] at h2
      omega⟩
     have HTE : Aside0 (touTo ar l row k ++ row1 = touTo ar l row (k + 1)) := ⟨by
      show _ = touTo ar l row k ++ gl ar (gi l (k + 1)).toNat
      rw [← HI.out.1, HU.out, Int.toNat_natCast, hrw1]⟩
     clear hold hrow1 eA1 hrw1 hcD1
     go_wp2_with fail
     refine start_ (n := 16) (S := fun w' => w'.cell? ⟨B.p, 0, none⟩ = some (.pointer (some ⟨B.f, 0, none⟩)) ∧ w'.cell? ⟨B.f, 2, none⟩ = some (.slice (some ad) B.N B.cA) ∧ w'.cell? ⟨g, i, none⟩ = some (.int .i64 (u1 : Int)) ∧ w'.cell? (ad.add u1) = some (.slice D1 row1.length cD1)) (ds := [14]) (bm9 16 0) (by kernel_rfl) rfl rfl ⟨c0, c2', q1, q3⟩ (fun hHeld => ?_)
     refine pu9 0 108 (bm9 16 1) ?_
     refine pu9 1 109 (bm9 16 3) ?_
     refine pu9 2 110 (bm9 16 7) ?_
     refine pu9 3 111 (bm9 16 15) ?_
     refine pu9 8 116 (bm9 16 271) ?_
     refine pu9 9 117 (bm9 16 783) ?_
     refine pu9 10 118 (bm9 16 1807) ?_
     refine tk49 4 112 (bm9 16 1823) hHeld ?_
     refine pu9 5 113 (bm9 16 1855) ?_
     refine pu9 6 114 (bm9 16 1919) ?_
     refine tk49 7 115 (bm9 16 2047) hHeld ?_
     refine tk49 11 119 (bm9 16 4095) hHeld ?_
     refine pu9 12 120 (bm9 16 8191) ?_
     refine tk49 13 121 (bm9 16 16383) hHeld ?_
     refine last_ (i := 14) (N := some 122) (bm9 16 32767) rfl rfl (by kernel_rfl) (by decide) (fun K hK => ?_)
     refine Kd.R_append_rows_step (Kd.int .i64) (Rr := (Kd.int .i64).K w9.drew) (w0 := w9.drew) w.heap.size (by rfl) (.tmp 108) (.tmp 121) 27 3 (.int .i64 0) 8 rfl Try.underlying27 info_int rfl (by decide) (by decide) (.slice A2 M c2) (touTo ar l row k) row1 D1 row1.length cD1 (fun k => S2 ≤ k) (fun _ => False) rfl rfl HTD.out HROW1.out (fun _ _ h => h) (fun _ h => h.elim) HFR9.out HBR.out HSW.out.1 HLB.out ?_
     intro v10 w10 hT hb hg hat
     clear hat hb
     obtain ⟨A10, c10, rfl⟩ := Kd.R_slice hT
     rw [HTE.out] at hT ⊢
     have HT10 := Aside0.mk hT
     have HFG : Aside0 (Mem.Frame (fun k => S2 ≤ k) w9.drew w10) := ⟨hg.os, hg.tape, hg.output, hg.size, fun k hk hs => hg.block k hk (fun e => hs (HTD.out.1 k e.symm))⟩
     clear hT hg
     refine hK.out _ _ ?_
     clear hK K
     refine nm9 ?_
     refine pu9 15 6 (bm9 16 65535) ?_
     refine done_ (by kernel_rfl) ?_
     clear c0 c2' q1 q3
     have HZ10 := Aside0.mk (HZ3.out.drew.frame_ HFG.out (fun k hk => by
      have h1 := HSS.out.1
      have h2 := HA.out.old.size
      refine ⟨by omega, fun e => ?_, fun e => ?_⟩
      ·have := lt_of HA.out.peel; omega
      ·have := HOW.out k e; omega))
     have HR10 := Aside0.mk (Kd.R_step (Kd.R_below HR9.out ((Below.refl _ _).drew)) (fun k hk hlt => HFG.out.block k hlt (by omega)))
     have HF10 : Aside0 (Mem.Frame (Own B) w w10) := ⟨⟨HFG.out.os.trans HF9.out.os, HFG.out.tape.trans HF9.out.tape, HFG.out.output.trans HF9.out.output, Nat.le_trans HF9.out.size HFG.out.size, fun k hk hn => (HFG.out.block k (Nat.lt_of_lt_of_le hk HF9.out.size) (by have := HSS.out.1; omega)).trans (HF9.out.block k hk hn)⟩⟩
     have HS10 : Aside0 (S2 ≤ w10.heap.size) := ⟨Nat.le_trans HSW.out.2 HFG.out.size⟩
     clear HTD HSW HFR9 HBR HLB HROW1 HZ3 HR9 HT9 HF9 HFG HTE
     obtain ⟨M10, hM10⟩ : ∃ M, M = (touTo ar l row (k + 1)).length := ⟨_, rfl⟩
     rw [← hM10] at HT10 ⊢
     have HI10 : Aside0 (i2 = k + 1 + 1 ∧ k + 1 + 2 ≤ L ∧ M10 = (touTo ar l row (k + 1)).length) := ⟨by rw [HI2.out, HI.out.1], by have := HI.out.1; have := HI2.out; omega, hM10⟩
     clear hM10 HI
     go_wp2_with fail
     clear m1
     go_roundw
     case rel => exact ⟨i2, k + 1, M10, A10, c10, rfl, by first | rfl | go_num, ⟨⟨HI10.out.1, .inr HI10.out.2.1, HI10.out.2.2⟩⟩, HZ10, HT10, HR10, HS10, HF10⟩
     case measure => have := HI2.out; simp [intOf]; omega
    ·have s1 : decide ((i2 : Int) < (L : Int)) = false := decide_eq_false (by omega)
     have s2 : decide (i2 < L) = false := decide_eq_false (by omega)
     have s3 : ¬ i2 < L := by omega
     have HKL : Aside0 (k = L - 2) := ⟨by have := HI.out; omega⟩
     have HZF : Aside0 (AtS w0 wr B ar a b c (takeS ar z v)) := ⟨by
      unfold takeS
      rw [← HL.out, ← HZG.out, ← HLL.out, ← HKL.out]
      exact HZ.out⟩
     have HTF : Aside0 (Kd.R (Kd.int .i64) 3 wr w.heap.size (fun _ => True) (.slice A2 M c2) (takeT ar z v)) := ⟨by
      unfold takeT
      rw [← HL.out, ← HRW.out, ← HLL.out, ← HKL.out]
      exact Kd.R_mono HT.out (fun _ _ => trivial)⟩
     clear hi2 hlt
     go_wp2_with fail
     go_ret
     exact ⟨.slice A2 M c2, by simp, HZF.out, HTF.out, HF.out⟩
end Peel
namespace Peel
open Go.Maps Go.MapKept
open Mem Cnt
def LayPost (w0 : World) (B : Rl) (ar : List (List Int)) (a b c : Int) (rk : List Int) (w : World) (res : Option (List Int × List Int)) (e : Ending) (w' : World) : Prop :=
 match res with
 | none => e = .returned (.tuple #[.slice none 0 0, .bool false]) ∧ Below w.heap.size w w'
 | some (feet, sh') => ∃ u As' cs', e = .returned (.tuple #[u, .bool true]) ∧ Kd.R (Kd.int .i64) 3 w' w.heap.size (fun _ => True) u feet ∧ Rim w0 w' B ar a b c rk sh' As' cs' ∧ Mem.Frame (fun k => k = B.p) w w' ∧ ∀ g, As' = some g → w.heap.size ≤ g.block
theorem slice_mid (A : Option Addr) (n c a b : Nat) (h1 : a ≤ b) (h2 : b ≤ c) (W : World) : (Instr.slice 27 (.slice A n c) (some (.int .i64 (a : Int))) (some (.int .i64 (b : Int))) none).run Try.prog W = .ok (.slice (if c = a then A else A.map (·.add (a * 1))) (b - a) (c - a)) W := by
 rw [run_slice_lh W 27 A n c Try.underlying27 .i64 .i64 (a : Int) (b : Int) (by omega) (by omega) (by omega), Int.toNat_natCast, Int.toNat_natCast]
 have hs : ∀ W : World, (sizeOf (Try.prog.elem 27)).run Try.prog W = .ok 1 W := fun W => by kernel_rfl
 rw [hs]
 rfl
theorem mid_reads {A : Option Addr} {c a b : Nat} {l : List Int} {w : World} (h : Kd.C (Kd.int .i64) w A l.length l) (hc : l.length ≤ c) (h1 : a ≤ b) (h2 : b ≤ l.length) : ∃ X, (∀ W : World, (Instr.slice 27 (.slice A l.length c) (some (.int .i64 (a : Int))) (some (.int .i64 (b : Int))) none).run Try.prog W = .ok (.slice X (b - a) (c - a)) W) ∧ Kd.C (Kd.int .i64) w X (b - a) ((l.take b).drop a) := by
 refine ⟨_, slice_mid A l.length c a b h1 (by omega), ?_⟩
 have h3 := Kd.C_mid (k := Kd.int .i64) (c := c) h h1 h2 hc
 have e : ((l.take b).drop a).length = b - a := by rw [List.length_drop, List.length_take]; omega
 rw [e] at h3
 exact h3
theorem layF_eq {ar : List (List Int)} {rk sh foot feet : List Int} {v : Nat} {fi : Int} {la : Nat} (h1 : foot = footTo rk (gl ar v) v (gl ar v).length) (h2 : feet = feetTo foot sh sh.length) (h3 : fi = firstTo foot sh sh.length) (h4 : la = (fi + (feet.length : Int) - 1).toNat) :
  layF ar rk sh v = if feet.length < 2 ∨ feet.length < foot.length ∨ gi sh la ∉ foot ∨ gi sh la ≠ gi feet (feet.length - 1) then none
   else if ((feet.take (feet.length - 1)).drop 1).any (fun w => (gl ar w.toNat).any fun x => decide (gi rk v < gi rk x.toNat)) = true then none
   else some (feet, sh.take (fi.toNat + 1) ++ [(v : Int)] ++ sh.drop la) := by subst h1 h2 h3 h4; rfl
theorem any_false {f : Int → Bool} {l : List Int} (h : ∀ j, j < l.length → f (gi l j) = false) : l.any f = false := by
 rw [List.any_eq_false]
 intro x hx
 obtain ⟨j, hj, rfl⟩ := List.getElem_of_mem hx
 have := h j hj
 unfold gi at this
 rw [List.getD_eq_getElem?_getD, List.getElem?_eq_getElem hj] at this
 simpa using this
theorem any_true {f : Int → Bool} {l : List Int} {j : Nat} (hj : j < l.length) (h : f (gi l j) = true) : l.any f = true := by
 rw [List.any_eq_true]
 unfold gi at h
 rw [List.getD_eq_getElem?_getD, List.getElem?_eq_getElem hj] at h
 exact ⟨_, List.getElem_mem hj, by simpa using h⟩
theorem feetTo_in {P : Int → Prop} {foot sh : List Int} (h : ∀ j, j < sh.length → P (gi sh j)) (k : Nat) : ∀ j, j < (feetTo foot sh k).length → P (gi (feetTo foot sh k) j) := by
 intro j hj
 have e : gi (feetTo foot sh k) j = (feetTo foot sh k)[j] := by unfold gi; rw [List.getD_eq_getElem?_getD, List.getElem?_eq_getElem hj]; rfl
 have hm : (feetTo foot sh k)[j] ∈ sh := List.mem_of_mem_take (List.mem_filter.1 (List.getElem_mem hj)).1
 obtain ⟨i, hi, e2⟩ := List.getElem_of_mem hm
 have h3 := h i hi
 unfold gi at h3
 rw [List.getD_eq_getElem?_getD, List.getElem?_eq_getElem hi] at h3
 rw [e, ← e2]
 exact h3
theorem lay_calls {w0 w : World} {B : Rl} {ar : List (List Int)} {a b c : Int} {rk sh : List Int} {As : Option Addr} {cs : Nat} (h : Rim w0 w B ar a b c rk sh As cs) (hok : Ok B.N ar) (v : Nat) (hv : v < B.N) (hsh : ∀ j, j < sh.length → 0 ≤ gi sh j ∧ gi sh j < (B.N : Int)) (hsl : sh.length ≤ 9000000) (res : Option (List Int × List Int)) (hres : layF ar rk sh v = res) :
  Calls Try.prog 50 #[.pointer (some ⟨B.p, 0, none⟩), .int .i64 (v : Int)] w (LayPost w0 B ar a b c rk w res) := by
 have HA := Aside0.mk h
 have HOK := Aside0.mk hok
 have HSH := Aside0.mk hsh
 have HRES := Aside0.mk hres
 obtain ⟨adr, D, cD, eA, hcD, hrow⟩ := h.row hv
 have hN := hok.hN
 have hrl := hok.len v hv
 have hri := hok.inn v hv
 obtain ⟨row, hrw⟩ : ∃ row, row = gl ar v := ⟨_, rfl⟩
 rw [← hrw] at hcD hrow hrl hri
 have HRI := Aside0.mk hri
 have HROW := Aside0.mk hrow
 have HRW := Aside0.mk hrw
 have hF2 := h.f2
 rw [eA] at hF2
 have hF2' : ∀ wx, Below w.heap.size w wx → wx.cell? ⟨B.f, 2, none⟩ = some (.slice (some adr) B.N B.cA) := fun wx hb => (hb.cell (cell_lt hF2)).trans hF2
 have HF2 := Aside0.mk hF2'
 have gv : (v : Int) < (B.N : Int) := by omega
 have hmm := @run_makeMap Try.prog
 clear h hok hsh hres hri hrw hrow eA hF2 hF2'
 go_enter Try.func50, Try.ntmps50
 go_upto_region 2 with (fail)
 clear hmm
 have HM0 := Aside0.mk (FootAt.new w 0)
 have HB0 : Aside0 (Below w.heap.size w (w.alloc (.map #[] 0))) := ⟨(Below.refl _ _).alloc (Nat.le_refl _) _⟩
 obtain ⟨bm, hbm⟩ : ∃ bm, bm = w.heap.size := ⟨_, rfl⟩
 rw [← hbm] at HM0 ⊢
 have HBM := Aside0.mk hbm
 obtain ⟨w1, hw1⟩ : ∃ w1, w1 = w.alloc (.map #[] 0) := ⟨_, rfl⟩
 rw [← hw1] at HM0 HB0 ⊢
 clear hw1 hbm
 have x0 : w1.cell? ⟨B.p, 0, none⟩ = some (.pointer (some ⟨B.f, 0, none⟩)) := (HA.out.below HB0.out).c0
 have x2 := HF2.out w1 HB0.out
 have z1 := (HROW.out w1 (HA.out.below HB0.out).old).1
 go_wp2_with fail
 clear x0 x2 z1
 go_loopw [31] (fun y ws => ∃ (k s : Nat), y = .int .i64 (k : Int) ∧ k ≤ row.length ∧ Aside0 (FootAt ws bm s (footTo rk row v k)) ∧ s ≤ k ∧ Aside0 (Below w.heap.size w ws)) (fun y _ => row.length - (intOf y).toNat)
 case atStart => exact ⟨0, 0, rfl, by omega, HM0, by omega, HB0⟩
 case round =>
  clear HM0 HB0
  obtain ⟨k, s, rfl, hk, HM, hs, HB⟩ := hrel
  have HAr := Aside0.mk (HA.out.below HB.out)
  by_cases hlt : k < row.length
  ·have s1 : decide ((k : Int) < (row.length : Int)) = true := decide_eq_true (by omega)
   obtain ⟨r0, r1⟩ := HRI.out k hlt
   obtain ⟨u, hu⟩ := Int.eq_ofNat_of_zero_le r0
   have hun : u < B.N := by omega
   have gu : (u : Int) < (B.N : Int) := by omega
   obtain ⟨adD, eD, z1⟩ := Kd.at_int ((HROW.out wr HAr.out.old).2) (k : Int) (by omega) (by omega)
   subst eD
   rw [gi_rd, Int.toNat_natCast, hu] at z1
   have HU := Aside0.mk hu
   have x1 := HAr.out.c1
   have y1 := HAr.out.r.cell (i := u) (by rw [HAr.out.lr]; exact hun)
   have y2 := HAr.out.r.cell (i := v) (by rw [HAr.out.lr]; exact hv)
   obtain ⟨ru, hru⟩ : ∃ y, y = gi rk u := ⟨_, rfl⟩
   obtain ⟨rv, hrv⟩ : ∃ y, y = gi rk v := ⟨_, rfl⟩
   rw [← hru] at y1
   rw [← hrv] at y2
   have HRU := Aside0.mk hru
   have HRV := Aside0.mk hrv
   clear r0 r1 hu hru hrv
   by_cases c1 : ru < rv
   ·have t1 : decide (ru < rv) = true := decide_eq_true c1
    have HE : Aside0 (footTo rk row v (k + 1) = insK (footTo rk row v k) (u : Int)) := ⟨by
     conv => lhs; unfold footTo
     rw [HU.out, Int.toNat_natCast, ← HRU.out, ← HRV.out, if_pos c1]⟩
    clear c1
    go_wp2_with fail
    go_quiet (fail)
    go_upto_region 6 with (fail)
    clear x1 y1 y2 z1 t1
    have HBQ : Aside0 (Below w.heap.size w (wr.drewN nq)) := ⟨below_drewN' HB.out nq⟩
    have HMQ : Aside0 (FootAt (wr.drewN nq) bm s (footTo rk row v k)) := ⟨HM.out.below (below_drewN' (Below.refl _ _) nq)⟩
    generalize wr.drewN nq = wq at HBQ HMQ ⊢
    obtain ⟨w7, r7, m7, f7⟩ := HMQ.out.put (by omega) (k := (u : Int)) ⟨by omega, by omega⟩
    rw [← HE.out] at m7
    have HM7 := Aside0.mk m7
    have HB7 : Aside0 (Below w.heap.size w w7) := ⟨HBQ.out.trans (f7.below HBQ.out.size (fun k hk => by have := HBM.out; omega))⟩
    clear m7 f7 HMQ HBQ HM HB HAr
    go_wp2_with fail
    clear r7 s1
    go_roundw
    case rel => exact ⟨k + 1, s + 1, by go_num, by omega, HM7, by omega, HB7⟩
    case measure => simp [intOf]; omega
   ·have t1 : decide (ru < rv) = false := decide_eq_false c1
    have HE : Aside0 (footTo rk row v (k + 1) = footTo rk row v k) := ⟨by
     conv => lhs; unfold footTo
     rw [HU.out, Int.toNat_natCast, ← HRU.out, ← HRV.out, if_neg c1]⟩
    clear c1
    go_wp2_with fail
    go_quiet (fail)
    go_upto_region 7 with (fail)
    clear x1 y1 y2 z1 t1
    have HBQ : Aside0 (Below w.heap.size w (wr.drewN nq)) := ⟨below_drewN' HB.out nq⟩
    have HMQ : Aside0 (FootAt (wr.drewN nq) bm s (footTo rk row v (k + 1))) := ⟨by rw [HE.out]; exact HM.out.below (below_drewN' (Below.refl _ _) nq)⟩
    generalize wr.drewN nq = wq at HBQ HMQ ⊢
    clear HM HB HAr
    go_wp2_with fail
    clear s1
    go_roundw
    case rel => exact ⟨k + 1, s, by go_num, by omega, HMQ, by omega, HBQ⟩
    case measure => simp [intOf]; omega
  ·obtain rfl : k = row.length := by omega
   have s1 : decide ((row.length : Int) < (row.length : Int)) = false := decide_eq_false (by omega)
   obtain ⟨foot, hft⟩ : ∃ foot, foot = footTo rk row v row.length := ⟨_, rfl⟩
   have HFT := Aside0.mk hft
   have hm := HM.out
   rw [← hft] at hm
   have hfl : foot.length ≤ row.length := by rw [hft]; exact footTo_len _ _ _ _
   have hinF : ∀ x, InI x → True := fun _ _ => trivial
   clear hinF
   obtain ⟨wc, hwc⟩ : ∃ wc, wc = wr := ⟨_, rfl⟩
   rw [← hwc] at HB hm HAr ⊢
   have HMC := Aside0.mk hm
   have HBC := HB
   have x2 : wc.cell? ⟨B.p, 2, none⟩ = some (.slice As sh.length cs) := HAr.out.c2
   obtain ⟨L, hL⟩ : ∃ L, L = sh.length := ⟨_, rfl⟩
   have HL := Aside0.mk hL
   rw [← hL] at x2
   clear hwc hft hm HM HB hk hlt hL hs
   go_wp2_with fail
   clear x2 s1
   have HR0 : Aside0 (Kd.R (Kd.int .i64) 3 wc wc.heap.size (fun _ => True) (.slice none 0 0) (feetTo foot sh 0)) := ⟨Kd.R_nil _ _ _ _ _⟩
   have HBW0 : Aside0 (Below wc.heap.size wc wc) := ⟨Below.refl _ _⟩
   go_loopw [9, 10, 58] (fun y1 y2 y3 ws => ∃ (k M : Nat) (Af : Option Addr) (cf : Nat) (fi : Int), y1 = .slice Af M cf ∧ y2 = .int .i64 fi ∧ y3 = .int .i64 (k : Int) ∧ k ≤ L ∧ Aside0 (M = (feetTo foot sh k).length ∧ fi = firstTo foot sh k) ∧ Aside0 (Kd.R (Kd.int .i64) 3 ws wc.heap.size (fun _ => True) (.slice Af M cf) (feetTo foot sh k)) ∧ Aside0 (Below wc.heap.size wc ws)) (fun _ _ y3 _ => L - (intOf y3).toNat)
   case atStart => exact ⟨0, 0, none, 0, -1, rfl, rfl, rfl, by omega, ⟨rfl, rfl⟩, HR0, HBW0⟩
   case round =>
    clear HR0 HBW0
    obtain ⟨k, M, Af, cf, fi, rfl, rfl, rfl, hk, HI, HR, HBW⟩ := hrel
    by_cases hlt : k < L
    ·have s1 : decide ((k : Int) < (L : Int)) = true := decide_eq_true (by omega)
     have hkl : k < sh.length := by rw [← HL.out]; exact hlt
     obtain ⟨ad, eS, z1⟩ := Kd.at_int (Kd.C_below HAr.out.shown HBW.out) (k : Int) (by omega) (by omega)
     subst eS
     rw [gi_rd, Int.toNat_natCast] at z1
     obtain ⟨x, hx⟩ : ∃ x, x = gi sh k := ⟨_, rfl⟩
     have hxr := HSH.out k hkl
     rw [← hx] at z1 hxr
     have la := (HMC.out.below HBW.out).get (k := x) ⟨by omega, by omega⟩
     have HE := Aside0.mk (feetTo_succ foot sh hkl)
     have HFE : Aside0 (firstTo foot sh (k + 1) = if gi sh k ∈ foot ∧ firstTo foot sh k < 0 then (k : Int) else firstTo foot sh k) := ⟨by conv => lhs; unfold firstTo⟩
     have HX := Aside0.mk hx
     have hML := HI.out.1
     have hfi := HI.out.2
     have hff := first_feet foot sh k (by omega)
     rw [← hML, ← hfi] at hff
     clear hx hxr
     by_cases c1 : x ∈ foot
     rotate_left
     ·rw [decide_eq_false c1] at la
      have HI2 : Aside0 (M = (feetTo foot sh (k + 1)).length ∧ fi = firstTo foot sh (k + 1)) := ⟨by rw [HE.out, HFE.out, ← HX.out, if_neg c1, if_neg (fun q => c1 q.1)]; exact HI.out⟩
      have HR2 : Aside0 (Kd.R (Kd.int .i64) 3 wr wc.heap.size (fun _ => True) (.slice Af M cf) (feetTo foot sh (k + 1))) := ⟨by rw [HE.out, ← HX.out, if_neg c1]; exact HR.out⟩
      clear c1 hML hfi hff HE HFE HI HR
      go_wp2_with fail
      clear la z1 s1
      go_roundw
      case rel => exact ⟨k + 1, M, Af, cf, fi, rfl, rfl, by go_num, by omega, HI2, HR2, HBW⟩
      case measure => simp [intOf]; omega
     rw [decide_eq_true c1] at la
     have HEQ : Aside0 (feetTo foot sh k ++ [x] = feetTo foot sh (k + 1)) := ⟨by rw [HE.out, ← HX.out, if_pos c1]⟩
     obtain ⟨fi2, hfi2⟩ : ∃ f, f = firstTo foot sh (k + 1) := ⟨_, rfl⟩
     have hf3 : fi2 = if fi < 0 then (k : Int) else fi := by
      rw [hfi2, HFE.out, ← HX.out, hfi]
      by_cases q : firstTo foot sh k < 0
      ·rw [if_pos ⟨c1, q⟩, if_pos q]
      ·rw [if_neg (fun e => q e.2), if_neg q]
     have HF2' := Aside0.mk hfi2
     have HSZ : Aside0 (wc.heap.size ≤ wr.heap.size) := ⟨HBW.out.size⟩
     have hMk : M ≤ k := by
      rcases hff with ⟨q1, q2⟩ | ⟨q1, q2, q3⟩
      ·rw [q2] at hML; simp at hML; omega
      ·omega
     have HLB : Aside0 (((feetTo foot sh k).length + 1) * 8 ≤ 140737488355328) := ⟨by rw [← hML]; omega⟩
     clear c1 hML hfi hff HE HFE HI hfi2
     by_cases c2 : fi < 0
     ·have t2 : decide (fi < 0) = true := decide_eq_true c2
      rw [if_pos c2] at hf3
      clear c2
      go_wp2_with ((with_reducible refine gate_builtin (b := .append) (xs := #[.tmp 69, .tmp 71]) rfl ?_); at_builtin; refine Kd.R_append (Kd.int .i64) (w0 := wc) (W := wr) wc.heap.size rfl (.tmp 69) (.tmp 71) 27 3 (.int .i64 0) 8 rfl Try.underlying27 info_int rfl (by decide) (by omega) (.slice Af M cf) (feetTo foot sh k) x [.int .i64 x] (fun _ => True) (fun _ => False) rfl rfl rfl (fun _ hk => hk.elim) (fun _ _ => trivial) HR.out HBW.out HSZ.out HLB.out ?_)
      intro v1 w1 hR hb _ _
      obtain ⟨A1, c1, rfl⟩ := Kd.R_slice hR
      rw [HEQ.out] at hR ⊢
      obtain ⟨M1, hM1⟩ : ∃ M1, M1 = (feetTo foot sh (k + 1)).length := ⟨_, rfl⟩
      rw [← hM1] at hR ⊢
      have HI2 : Aside0 (M1 = (feetTo foot sh (k + 1)).length ∧ fi2 = firstTo foot sh (k + 1)) := ⟨hM1, HF2'.out⟩
      have HR2 := Aside0.mk hR
      have HB2 := Aside0.mk hb
      clear hM1 hR hb HR HBW HSZ HLB HEQ
      go_wp2_with fail
      clear la z1 s1 t2
      go_roundw
      case rel => exact ⟨k + 1, M1, A1, c1, fi2, rfl, by first | rfl | rw [hf3], by go_num, by omega, HI2, HR2, HB2⟩
      case measure => simp [intOf]; omega
     ·have t2 : decide (fi < 0) = false := decide_eq_false c2
      rw [if_neg c2] at hf3
      clear c2
      go_wp2_with ((with_reducible refine gate_builtin (b := .append) (xs := #[.tmp 69, .tmp 71]) rfl ?_); at_builtin; refine Kd.R_append (Kd.int .i64) (w0 := wc) (W := wr) wc.heap.size rfl (.tmp 69) (.tmp 71) 27 3 (.int .i64 0) 8 rfl Try.underlying27 info_int rfl (by decide) (by omega) (.slice Af M cf) (feetTo foot sh k) x [.int .i64 x] (fun _ => True) (fun _ => False) rfl rfl rfl (fun _ hk => hk.elim) (fun _ _ => trivial) HR.out HBW.out HSZ.out HLB.out ?_)
      intro v1 w1 hR hb _ _
      obtain ⟨A1, c1, rfl⟩ := Kd.R_slice hR
      rw [HEQ.out] at hR ⊢
      obtain ⟨M1, hM1⟩ : ∃ M1, M1 = (feetTo foot sh (k + 1)).length := ⟨_, rfl⟩
      rw [← hM1] at hR ⊢
      have HI2 : Aside0 (M1 = (feetTo foot sh (k + 1)).length ∧ fi2 = firstTo foot sh (k + 1)) := ⟨hM1, HF2'.out⟩
      have HR2 := Aside0.mk hR
      have HB2 := Aside0.mk hb
      clear hM1 hR hb HR HBW HSZ HLB HEQ
      go_wp2_with fail
      clear la z1 s1 t2
      go_roundw
      case rel => exact ⟨k + 1, M1, A1, c1, fi2, rfl, by first | rfl | rw [hf3], by go_num, by omega, HI2, HR2, HB2⟩
      case measure => simp [intOf]; omega
    ·obtain rfl : k = L := by omega
     have s1 : decide ((k : Int) < (k : Int)) = false := decide_eq_false (by omega)
     obtain ⟨feet, hfe⟩ : ∃ feet, feet = feetTo foot sh k := ⟨_, rfl⟩
     have hfe2 := hfe
     rw [HL.out] at hfe2
     have hML := HI.out.1
     have hfi := HI.out.2
     have hff := first_feet foot sh k (by have := HL.out; omega)
     rw [← hML, ← hfi] at hff
     have hff2 : (fi = -1 ∧ M = 0) ∨ (0 ≤ fi ∧ 0 < M ∧ fi + (M : Int) ≤ (k : Int)) := by
      rcases hff with ⟨q1, q2⟩ | q
      ·rw [q2] at hML
       exact .inl ⟨q1, by simpa using hML⟩
      ·exact .inr q
     rw [← hfe] at hML
     have hfi2 := hfi
     rw [HL.out] at hfi2
     obtain ⟨la, hla⟩ : ∃ la, la = (fi + (feet.length : Int) - 1).toNat := ⟨_, rfl⟩
     have hspec := layF_eq (ar := ar) (rk := rk) (sh := sh) (v := v) (by rw [HFT.out, HRW.out]) hfe2 hfi2 hla
     rw [HRES.out, ← hML] at hspec
     rw [← hML] at hla
     have hfeb := feetTo_in (P := fun x => 0 ≤ x ∧ x < (B.N : Int)) (foot := foot) HSH.out k
     have hR := HR.out
     rw [← hfe] at hR hfeb
     have HBA : Aside0 (Below w.heap.size w wr) := ⟨HBC.out.trans (HBW.out.mono HBC.out.size)⟩
     have HSP := Aside0.mk hspec
     have HRF := Aside0.mk hR
     have HFB := Aside0.mk hfeb
     have hkb : k ≤ 9000000 := by have := HL.out; omega
     have HML := Aside0.mk hML
     clear hspec hR hfeb hfe hfe2 hfi hfi2 HI HR hlt hk HRES hff hML
     obtain ⟨l1, hl1⟩ : ∃ l1, l1 = fi + (M : Int) := ⟨_, rfl⟩
     obtain ⟨l2, hl2⟩ : ∃ l2, l2 = l1 - 1 := ⟨_, rfl⟩
     have m1 : IntKind.i64.wrap (fi + (M : Int)) = l1 := by rw [hl1]; exact IntWalk.i64_in _ (by omega)
     have m2 : IntKind.i64.wrap (l1 - 1) = l2 := by rw [hl2]; exact IntWalk.i64_in _ (by omega)
     by_cases c1 : M < 2
     ·have t1 : decide ((M : Int) < 2) = true := decide_eq_true (by omega)
      have hs := HSP.out
      rw [if_pos (.inl c1)] at hs
      subst hs
      clear c1
      go_wp2_with fail
      go_quiet (fail)
      go_wp2_with fail
      go_ret2
      exact ⟨by simp, below_drewN' HBA.out _⟩
     have t1 : decide ((M : Int) < 2) = false := decide_eq_false (by omega)
     have ll : ∀ (n : Nat) (ty : TypeId), (Builtin.len_ #[98] ty #[.map (some bm)]).run Try.prog (wr.drewN n) = .ok (.int .i64 (foot.length : Int)) (wr.drewN n) := fun n ty => (HMC.out.below (HBW.out.trans (below_drewN' (Below.refl _ _) n))).len ty
     by_cases c2 : M < foot.length
     ·have t2 : decide ((M : Int) < (foot.length : Int)) = true := decide_eq_true (by omega)
      have t2' : decide (M < foot.length) = true := decide_eq_true c2
      have hs := HSP.out
      rw [if_pos (.inr (.inl c2))] at hs
      subst hs
      clear c2
      go_wp2_with fail
      go_quiet (fail)
      go_wp2_with fail
      go_ret2
      exact ⟨by simp, below_drewN' HBA.out _⟩
     have t2 : decide ((M : Int) < (foot.length : Int)) = false := decide_eq_false (by omega)
     have t2' : decide (M < foot.length) = false := decide_eq_false c2
     obtain ⟨f0, rfl⟩ := Int.eq_ofNat_of_zero_le (show 0 ≤ fi by omega)
     have hlak : la < k := by omega
     have hl2e : l2 = (la : Int) := by omega
     have hlae : la = f0 + M - 1 := by omega
     subst hl2e
     have HLA := Aside0.mk hlae
     have gla : (la : Int) < (k : Int) := by omega
     clear hla hlae hl2 hl1
     obtain ⟨ad, eS, z2⟩ := Kd.at_int (Kd.C_below HAr.out.shown HBW.out) (la : Int) (by omega) (by have := HL.out; omega)
     subst eS
     rw [gi_rd, Int.toNat_natCast] at z2
     obtain ⟨y, hy⟩ : ∃ y, y = gi sh la := ⟨_, rfl⟩
     have hyr := HSH.out la (by have := HL.out; omega)
     have hspec := HSP.out
     rw [← hy] at z2 hyr hspec
     replace HSP := Aside0.mk hspec
     have x2 : wr.cell? ⟨B.p, 2, none⟩ = some (.slice (some ad) k cs) := by
      have h := (HAr.out.below HBW.out).c2
      rw [← HL.out] at h
      exact h
     have lq : ∀ n : Nat, (Instr.lookup 98 (.map (some bm)) (.int .i64 y) false).run Try.prog (wr.drewN n) = .ok (.bool (decide (y ∈ foot))) (wr.drewN n) := fun n => (HMC.out.below (HBW.out.trans (below_drewN' (Below.refl _ _) n))).get ⟨by omega, by omega⟩
     have HY := Aside0.mk hy
     clear hspec hy
     by_cases c3 : y ∈ foot
     rotate_left
     ·have hs := HSP.out
      rw [if_pos (.inr (.inr (.inl c3)))] at hs
      subst hs
      have lq2 : ∀ n : Nat, (Instr.lookup 98 (.map (some bm)) (.int .i64 y) false).run Try.prog (wr.drewN n) = .ok (.bool false) (wr.drewN n) := fun n => by rw [lq n, decide_eq_false c3]
      clear c3 lq
      go_wp2_with fail
      go_quiet (fail)
      go_wp2_with fail
      go_ret2
      exact ⟨by simp, below_drewN' HBA.out _⟩
     have lq2 : ∀ n : Nat, (Instr.lookup 98 (.map (some bm)) (.int .i64 y) false).run Try.prog (wr.drewN n) = .ok (.bool true) (wr.drewN n) := fun n => by rw [lq n, decide_eq_true c3]
     obtain ⟨M1, hM1⟩ : ∃ M1, M1 = M - 1 := ⟨_, rfl⟩
     have m3 : IntKind.i64.wrap ((M : Int) - 1) = (M1 : Int) := by rw [IntWalk.i64_in _ (by omega)]; omega
     have gM1 : (M1 : Int) < (M : Int) := by omega
     obtain ⟨adf, eF, z3⟩ := Kd.at_int (Kd.R_reads' HRF.out).2.2 (M1 : Int) (by omega) (by have := HML.out; omega)
     subst eF
     rw [gi_rd, Int.toNat_natCast] at z3
     obtain ⟨y3, hy3⟩ : ∃ y, y = gi feet M1 := ⟨_, rfl⟩
     have hspec := HSP.out
     rw [← hM1] at hspec
     rw [← hy3] at z3 hspec
     replace HSP := Aside0.mk hspec
     have HY3 := Aside0.mk hy3
     have HM1 := Aside0.mk hM1
     clear hspec lq hy3 hM1
     by_cases c4 : y = y3
     rotate_left
     ·have hs := HSP.out
      rw [if_pos (.inr (.inr (.inr c4)))] at hs
      subst hs
      have t4 : (y != y3) = true := bne_iff_ne.2 c4
      clear c4 c3
      go_wp2_with fail
      go_quiet (fail)
      go_wp2_with fail
      go_ret2
      exact ⟨by simp, below_drewN' HBA.out _⟩
     have hs := HSP.out
     rw [if_neg (by rintro (q | q | q | q); exact c1 q; exact c2 q; exact q c3; exact q c4)] at hs
     replace HSP := Aside0.mk hs
     have t4 : (y != y3) = false := bne_eq_false_iff_eq.2 c4
     clear hs c4 c3 c2
     obtain ⟨Xm, qm, hCm⟩ := mid_reads (a := 1) (b := M1) (c := cf) (Kd.R_reads' HRF.out).2.2 (by have := (Kd.R_reads' HRF.out).2.1; have := HML.out; omega) (by have := HM1.out; omega) (by have := HML.out; have := HM1.out; omega)
     rw [← HML.out] at qm
     obtain ⟨mid, hmid⟩ : ∃ m, m = (feet.take M1).drop 1 := ⟨_, rfl⟩
     obtain ⟨Mm, hMm⟩ : ∃ m, m = M1 - 1 := ⟨_, rfl⟩
     have hMml : Mm = mid.length := by rw [hmid, List.length_drop, List.length_take]; have := HML.out; have := HM1.out; omega
     rw [← hmid, ← hMm] at hCm
     rw [← hMm] at qm
     have hmb : ∀ j, j < mid.length → 0 ≤ gi mid j ∧ gi mid j < (B.N : Int) := by
      intro j hj
      have e : gi mid j = gi feet (j + 1) := by
       rw [hmid]
       unfold gi
       rw [List.getD_eq_getElem?_getD, List.getD_eq_getElem?_getD, List.getElem?_drop, List.getElem?_take, if_pos (by have := HM1.out; omega), Nat.add_comm]
      rw [e]
      exact HFB.out (j + 1) (by have := HML.out; have := HM1.out; omega)
     have hspec := HSP.out
     rw [← hmid] at hspec
     replace HSP := Aside0.mk hspec
     have HMB := Aside0.mk hmb
     have HCM := Aside0.mk hCm
     have HMM := Aside0.mk hMml
     have hMmb : Mm ≤ 9000000 := by have := HM1.out; omega
     have qm' : ∀ W : World, (Instr.slice 27 (.slice (some adf) M cf) (some (.int .i64 1)) (some (.int .i64 (M1 : Int))) none).run Try.prog W = .ok (.slice Xm Mm (cf - 1)) W := qm
     have hM1c : M1 ≤ cf := by have := (Kd.R_reads' HRF.out).2.1; have := HM1.out; omega
     have h1M1 : 1 ≤ M1 := by have := HM1.out; omega
     clear hspec hmid hMm hMml hCm hmb qm
     go_wp2_with fail
     go_big_quiet (fail)
     go_wp2_with fail
     clear t1 t2 t2' t4 ll lq2 x2 z2 z3 m1 m2 m3 gM1 gla qm'
     have HBE : Aside0 (Below w.heap.size w (wr.drewN nq)) := ⟨below_drewN' HBA.out nq⟩
     have HRE : Aside0 (Kd.R (Kd.int .i64) 3 (wr.drewN nq) wc.heap.size (fun _ => True) (.slice (some adf) M cf) feet) := ⟨Kd.R_below HRF.out (below_drewN' (Below.refl _ _) nq)⟩
     have HCE : Aside0 (Kd.C (Kd.int .i64) (wr.drewN nq) Xm Mm mid) := ⟨Kd.C_below HCM.out (below_drewN' (Below.refl _ _) nq)⟩
     have HWC : Aside0 (w.heap.size ≤ wc.heap.size) := ⟨HBC.out.size⟩
     generalize wr.drewN nq = we at HBE HRE HCE ⊢
     clear HRF HCM HBA HBW HMC HAr HBC
     have HBW0 : Aside0 (Below we.heap.size we we) := ⟨Below.refl _ _⟩
     have HN0 : Aside0 (∀ j, j < 0 → (gl ar (gi mid j).toNat).any (fun x => decide (gi rk v < gi rk x.toNat)) = false) := ⟨fun j hj => by omega⟩
     go_loopw [123] (fun y ws => ∃ (i : Nat), y = .int .i64 (i : Int) ∧ i ≤ Mm ∧ Aside0 (∀ j, j < i → (gl ar (gi mid j).toNat).any (fun x => decide (gi rk v < gi rk x.toNat)) = false) ∧ Aside0 (Below we.heap.size we ws)) (fun y _ => Mm - (intOf y).toNat)
     case atStart => exact ⟨0, rfl, by omega, HN0, HBW0⟩
     case round =>
      clear HN0 HBW0
      obtain ⟨i, rfl, hi, HNB, HBW⟩ := hrel
      have HBI : Aside0 (Below w.heap.size w wr) := ⟨HBE.out.trans (HBW.out.mono HBE.out.size)⟩
      by_cases hlt : i < Mm
      ·have s1 : decide ((i : Int) < (Mm : Int)) = true := decide_eq_true (by omega)
       obtain ⟨adm, eM, z1⟩ := Kd.at_int (Kd.C_below HCE.out HBW.out) (i : Int) (by omega) (by omega)
       subst eM
       rw [gi_rd, Int.toNat_natCast] at z1
       obtain ⟨q0, q1⟩ := HMB.out i (by have := HMM.out; omega)
       obtain ⟨u, hu⟩ := Int.eq_ofNat_of_zero_le q0
       have hun : u < B.N := by omega
       have gu : (u : Int) < (B.N : Int) := by omega
       rw [hu] at z1
       have HU := Aside0.mk hu
       have HAi := Aside0.mk (HA.out.below HBI.out)
       obtain ⟨adr2, D2, cD2, eA2, hcD2, hrow2⟩ := HAi.out.row hun
       obtain ⟨row2, hrw2⟩ : ∃ row2, row2 = gl ar u := ⟨_, rfl⟩
       have hri2 := HOK.out.inn u hun
       have hrl2 := HOK.out.len u hun
       rw [← hrw2] at hcD2 hrow2 hri2 hrl2
       have HRI2 := Aside0.mk hri2
       have HROW2 := Aside0.mk hrow2
       have HRW2 := Aside0.mk hrw2
       have x0 := HAi.out.c0
       have x2 := HAi.out.f2
       rw [eA2] at x2
       have z2 := (hrow2 wr HAi.out.old).1
       clear q0 q1 hu hri2 hrow2 hrw2 eA2
       go_wp2_with fail
       clear x0 x2 z1 z2
       have HBX0 : Aside0 (Below we.heap.size we wr) := HBW
       have HN1 : Aside0 (∀ j, j < 0 → decide (gi rk v < gi rk (gi row2 j).toNat) = false) := ⟨fun j hj => by omega⟩
       clear HBW HBI HAi
       go_loopw [138] (fun y ws => ∃ (j : Nat), y = .int .i64 (j : Int) ∧ j ≤ row2.length ∧ Aside0 (∀ q, q < j → decide (gi rk v < gi rk (gi row2 q).toNat) = false) ∧ Aside0 (Below we.heap.size we ws)) (fun y _ => row2.length - (intOf y).toNat)
       case atStart => exact ⟨0, rfl, by omega, HN1, HBX0⟩
       case round =>
        clear HN1 HBX0
        obtain ⟨j, rfl, hj, HNJ, HBX⟩ := hrel
        have HBI : Aside0 (Below w.heap.size w wr) := ⟨HBE.out.trans (HBX.out.mono HBE.out.size)⟩
        have HAi := Aside0.mk (HA.out.below HBI.out)
        by_cases hlt2 : j < row2.length
        ·have s2 : decide ((j : Int) < (row2.length : Int)) = true := decide_eq_true (by omega)
         obtain ⟨r0, r1⟩ := HRI2.out j hlt2
         obtain ⟨u2, hu2⟩ := Int.eq_ofNat_of_zero_le r0
         have hun2 : u2 < B.N := by omega
         have gu2 : (u2 : Int) < (B.N : Int) := by omega
         obtain ⟨adD, eD, z1⟩ := Kd.at_int ((HROW2.out wr HAi.out.old).2) (j : Int) (by omega) (by omega)
         subst eD
         rw [gi_rd, Int.toNat_natCast, hu2] at z1
         have HU2 := Aside0.mk hu2
         have x1 := HAi.out.c1
         have y1 := HAi.out.r.cell (i := u2) (by rw [HAi.out.lr]; exact hun2)
         have y2 := HAi.out.r.cell (i := v) (by rw [HAi.out.lr]; exact hv)
         obtain ⟨ru, hru⟩ : ∃ y, y = gi rk u2 := ⟨_, rfl⟩
         obtain ⟨rv, hrv⟩ : ∃ y, y = gi rk v := ⟨_, rfl⟩
         rw [← hru] at y1
         rw [← hrv] at y2
         have HRU := Aside0.mk hru
         have HRV := Aside0.mk hrv
         clear r0 r1 hu2 hru hrv
         by_cases c5 : rv < ru
         ·have t5 : decide (rv < ru) = true := decide_eq_true c5
          have t6 : decide (ru > rv) = true := decide_eq_true c5
          have hres : res = none := by
           rw [HSP.out, if_pos]
           refine any_true (j := i) (by have := HMM.out; omega) ?_
           rw [HU.out, Int.toNat_natCast, ← HRW2.out]
           refine any_true hlt2 ?_
           rw [HU2.out, Int.toNat_natCast, ← HRU.out, ← HRV.out]
           exact t5
          subst hres
          clear c5
          go_wp2_with fail
          go_big_quiet (fail)
          go_wp2_with fail
          go_ret2
          exact ⟨by simp, below_drewN' HBI.out _⟩
         ·have t5 : decide (rv < ru) = false := decide_eq_false c5
          have t6 : decide (ru > rv) = false := decide_eq_false c5
          have HNJ2 : Aside0 (∀ q, q < j + 1 → decide (gi rk v < gi rk (gi row2 q).toNat) = false) := ⟨fun q hq => by
           rcases Nat.lt_or_ge q j with g | g
           ·exact HNJ.out q g
           ·obtain rfl : q = j := by omega
            rw [HU2.out, Int.toNat_natCast, ← HRU.out, ← HRV.out]
            exact t5⟩
          clear c5
          go_wp2_with fail
          go_big_quiet (fail)
          go_wp2_with fail
          clear x1 y1 y2 z1 t5 t6 s2
          go_roundw
          case rel => exact ⟨j + 1, by go_num, by omega, HNJ2, ⟨below_drewN' HBX.out _⟩⟩
          case measure => simp [intOf]; omega
        ·obtain rfl : j = row2.length := by omega
         have s2 : decide ((row2.length : Int) < (row2.length : Int)) = false := decide_eq_false (by omega)
         have HNB2 : Aside0 (∀ j, j < i + 1 → (gl ar (gi mid j).toNat).any (fun x => decide (gi rk v < gi rk x.toNat)) = false) := ⟨fun q hq => by
          rcases Nat.lt_or_ge q i with g | g
          ·exact HNB.out q g
          ·obtain rfl : q = i := by omega
           rw [HU.out, Int.toNat_natCast, ← HRW2.out]
           exact any_false HNJ.out⟩
         clear hlt2 hj
         go_wp2_with fail
         clear s1 s2
         go_roundw
         case rel => exact ⟨i + 1, by go_num, by omega, HNB2, HBX⟩
         case measure => simp [intOf]; omega
      ·obtain rfl : i = Mm := by omega
       have s1 : decide ((i : Int) < (i : Int)) = false := decide_eq_false (by omega)
       have hres := HSP.out
       rw [if_neg (by rw [any_false (fun j hj => HNB.out j (by have := HMM.out; omega))]; decide), Int.toNat_natCast] at hres
       obtain ⟨sh2, hsh2⟩ : ∃ s, s = sh.take (f0 + 1) ++ [(v : Int)] ++ sh.drop la := ⟨_, rfl⟩
       rw [← hsh2] at hres
       subst hres
       have HS2 := Aside0.mk hsh2
       clear hlt hi hsh2
       have HAi := Aside0.mk (HA.out.below HBI.out)
       have hCs := HAi.out.shown
       have hcap := HAi.out.cap
       obtain ⟨f1, hf1⟩ : ∃ f1, f1 = f0 + 1 := ⟨_, rfl⟩
       have m1 : IntKind.i64.wrap ((f0 : Int) + 1) = (f1 : Int) := by rw [IntWalk.i64_in _ (by omega)]; omega
       obtain ⟨X1, q1, hC1⟩ := to_reads (a := f1) (c := cs) hCs hcap (by have := HL.out; have := HLA.out; have := HM1.out; omega)
       obtain ⟨X2, q2, hC2⟩ := from_reads (a := la) (c := cs) hCs hcap (by have := HL.out; omega)
       rw [← HL.out] at q1 q2 hcap hC2
       have HCAP := Aside0.mk hcap
       have hf1b : f1 ≤ cs := by have := HLA.out; have := HM1.out; omega
       have hlab : la ≤ k := by omega
       have HF1 := Aside0.mk hf1
       have HC1 := Aside0.mk hC1
       have HC2 := Aside0.mk hC2
       obtain ⟨T1, hT1⟩ : ∃ T, T = sh.take f1 := ⟨_, rfl⟩
       obtain ⟨T2, hT2⟩ : ∃ T, T = sh.drop la := ⟨_, rfl⟩
       rw [← hT1] at HC1
       rw [← hT2] at HC2
       have HT1 := Aside0.mk hT1
       have HT2 := Aside0.mk hT2
       have hb0 : Below wr.heap.size wr (wr.alloc (.cells #[] 3 (0, 0))) := (Below.refl _ _).alloc (Nat.le_refl _) _
       have x2 : (wr.alloc (.cells #[] 3 (0, 0))).cell? ⟨B.p, 2, none⟩ = some (.slice (some ad) k cs) := by
        have h := (HAi.out.below hb0).c2
        rw [← HL.out] at h
        exact h
       have HO : Aside0 (Kd.R (Kd.int .i64) 3 (wr.alloc (.cells #[] 3 (0, 0))) wr.heap.size (fun _ => True) (.slice (some ⟨wr.heap.size, 0, none⟩) 0 0) []) := ⟨Kd.R_of_own (World.ownsRow_lit (base := wr.heap.size) (size := 1) (e := 3) wr #[] 0 (Nat.le_refl _) (by unfold maxLen; omega) rfl) (fun _ _ => trivial)⟩
       have HLR := Aside0.mk (Kd.C_below HC1.out hb0)
       have HB3 := Aside0.mk hb0
       have hzl : (([] : List Int).length + f1) * 8 ≤ 140737488355328 := by have := HLA.out; have := HM1.out; simp; omega
       have HZL := Aside0.mk hzl
       clear hf1 hC1 hC2 hT1 hT2 hCs hcap hb0 hzl
       go_wp2_with (at_builtin; go_loud (refine Kd.R_append_rows (Kd.int .i64) (Rr := (Kd.int .i64).K (wr.alloc (.cells #[] 3 (0, 0)))) (w0 := wr) (W := wr.alloc (.cells #[] 3 (0, 0))) wr.heap.size rfl _ _ 27 3 (.int .i64 0) 8 rfl Try.underlying27 info_int rfl (by decide) (by decide) (.slice (some ⟨wr.heap.size, 0, none⟩) 0 0) [] T1 X1 f1 cs (fun _ => True) (fun _ => False) rfl rfl HO.out HLR.out (fun _ _ h => h) (fun _ h => h.elim) (fun _ _ => trivial) HB3.out HB3.out.size HZL.out ?_))
       intro v3 w3 hR3 hb3 hg3 hat3
       clear hat3 hg3
       obtain ⟨A3, c3, rfl⟩ := Kd.R_slice hR3
       have hT1l : T1.length = f1 := by rw [HT1.out, List.length_take]; have := HL.out; have := HF1.out; have := HLA.out; have := HM1.out; omega
       have HR3 := Aside0.mk hR3
       have HBw3 := Aside0.mk hb3
       have HS3 : Aside0 (wr.heap.size ≤ w3.heap.size) := ⟨hb3.size⟩
       have HT1L := Aside0.mk hT1l
       have HLB3 : Aside0 ((T1.length + 1) * 8 ≤ 140737488355328) := ⟨by rw [hT1l]; have := HL.out; have := HF1.out; have := HLA.out; have := HM1.out; omega⟩
       clear hR3 hb3 hT1l HO HLR HB3 HZL x2 m1
       go_wp2_with ((with_reducible refine gate_builtin (b := .append) (xs := #[.tmp 168, .tmp 170]) rfl ?_); at_builtin; refine Kd.R_append (Kd.int .i64) (w0 := wr) (W := w3) wr.heap.size rfl (.tmp 168) (.tmp 170) 27 3 (.int .i64 0) 8 rfl Try.underlying27 info_int rfl (by decide) (by omega) (.slice A3 T1.length c3) T1 (v : Int) [.int .i64 (v : Int)] (fun _ => True) (fun _ => False) rfl rfl rfl (fun _ hk => hk.elim) (fun _ _ => trivial) HR3.out HBw3.out HS3.out HLB3.out ?_)
       intro v4 w4 hR4 hb4 hg4 hat4
       clear hat4 hg4
       obtain ⟨A4, c4, rfl⟩ := Kd.R_slice hR4
       have HE : Aside0 ((T1 ++ [(v : Int)]).length = f1 + 1) := ⟨by rw [List.length_append, HT1L.out]; rfl⟩
       obtain ⟨T3, hT3⟩ : ∃ T, T = T1 ++ [(v : Int)] := ⟨_, rfl⟩
       rw [← hT3] at hR4 HE ⊢
       have HR4 := Aside0.mk hR4
       have HBw4 := Aside0.mk hb4
       have HS4 : Aside0 (wr.heap.size ≤ w4.heap.size) := ⟨hb4.size⟩
       have HC5 := Aside0.mk (Kd.C_below HC2.out hb4)
       have HA4 := Aside0.mk (HAi.out.below hb4)
       have x2 : w4.cell? ⟨B.p, 2, none⟩ = some (.slice (some ad) k cs) := by
        have h := HA4.out.c2
        rw [← HL.out] at h
        exact h
       have HZL2 : Aside0 ((T3.length + (k - la)) * 8 ≤ 140737488355328) := ⟨by rw [HE.out]; have := HL.out; have := HF1.out; have := HLA.out; have := HM1.out; omega⟩
       have HT3 := Aside0.mk hT3
       clear hT3 hR4 hb4 HR3 HBw3 HS3 HLB3
       go_wp2_with (at_builtin; go_loud (refine Kd.R_append_rows (Kd.int .i64) (Rr := (Kd.int .i64).K w4) (w0 := wr) (W := w4) wr.heap.size rfl _ _ 27 3 (.int .i64 0) 8 rfl Try.underlying27 info_int rfl (by decide) (by decide) (.slice A4 T3.length c4) T3 T2 X2 (k - la) (cs - la) (fun _ => True) (fun _ => False) rfl rfl HR4.out HC5.out (fun _ _ h => h) (fun _ h => h.elim) (fun _ _ => trivial) HBw4.out HS4.out HZL2.out ?_))
       intro v5 w5 hR5 hb5 hg5 hat5
       clear hat5 hg5 x2
       obtain ⟨A5, c5, rfl⟩ := Kd.R_slice hR5
       have HA5 := Aside0.mk (HAi.out.below hb5)
       have x2 : w5.cell? ⟨B.p, 2, none⟩ = some (.slice (some ad) k cs) := by
        have h := HA5.out.c2
        rw [← HL.out] at h
        exact h
       have f2 := heap_free HA5.out.rim 2
       have HR5 := Aside0.mk hR5
       have HBw5 := Aside0.mk hb5
       clear hR5 hb5 HA4 HR4 HBw4
       go_wp2_with fail
       go_ret2
       have hE : T3 ++ T2 = sh2 := by rw [HT3.out, HT1.out, HT2.out, HS2.out, HF1.out]
       have hR5 := HR5.out
       rw [hE] at hR5
       have hl5 : T3.length + T2.length = sh2.length := by rw [← hE, List.length_append]
       have hpl : B.p < w.heap.size := lt_of HA.out.rim
       have hpl2 : B.p < wr.heap.size := Nat.lt_of_lt_of_le hpl HBI.out.size
       have hFR : Mem.Frame (fun k => k = B.p) w5 (w5.setCell ⟨B.p, 2, none⟩ (.slice A5 (T3.length + T2.length) c5)) := (Mem.Frame.refl (fun k => k = B.p) w5).setCell (S := fun k => k = B.p) (p := ⟨B.p, 2, none⟩) rfl _
       have hR6 := Kd.R_step (Kd.R_mono (Kd.R_bound hR5) (fun k hk => hk.2.1)) (fun k hk hlt => hFR.block k hlt (by have : wr.heap.size ≤ k := hk; show ¬ k = B.p; omega))
       have hRF := Kd.R_below (Kd.R_below HRE.out HBW.out) HBw5.out
       have hRG := Kd.R_step (Kd.R_mono (Kd.R_bound hRF) (fun k hk => hk.2.1)) (fun k hk hlt => hFR.block k hlt (by have : wc.heap.size ≤ k := hk; have := HWC.out; show ¬ k = B.p; omega))
       have hB5 : Below w.heap.size w w5 := HBI.out.trans (HBw5.out.mono HBI.out.size)
       refine ⟨.slice (some adf) M cf, A5, c5, by simp, Kd.R_mono (Kd.R_lower hRG HWC.out) (fun _ _ => trivial), ⟨HA5.out.old.setCell (p := ⟨B.p, 2, none⟩) HA.out.lop _, HA.out.frame, HA.out.rows, HA.out.lar, HA.out.lop, HA.out.lor, ?_, HA5.out.r.ne _ (fun e => HA.out.ne e.symm), HA.out.lr, (Kd.R_reads' hR6).2.2, (Kd.R_reads' hR6).2.1, ?_, HA.out.ne⟩, (Mem.Frame.of_below hB5).trans hFR, fun g e => by
        subst e
        have h := (Kd.R_bound hR6).1 g.block rfl
        have h2 : wr.heap.size ≤ g.block := h.2.1
        exact Nat.le_trans HBI.out.size h2⟩
       ·have h := heap_set (i := 2) HA5.out.rim (.slice A5 (T3.length + T2.length) c5)
        rw [hl5] at h ⊢
        simpa using h
       ·intro g e
        subst e
        have h := (Kd.R_bound hR6).1 g.block rfl
        have h2 : wr.heap.size ≤ g.block := h.2.1
        have h3 := h.2.2.1
        have h4 := (HA.out.below HBI.out).old.size
        exact ⟨by omega, h3, by omega⟩
end Peel
end Go.Proofs.Ytaepieadbfndnaa
