/- DERIVED. Texts of this seat, one behind the other: lemmas and walks that the statement RotMemory needs. No condition. -/
import Derived.Test.YtkkhhbegeboonaaCRotMemorye
import Derived.Test.YtkkhhbegeboonaaCRotMemoryd
import Derived.Test.YtkkhhbegeboonaaCRotMemoryc
import Derived.Test.YtkkhhbegeboonaaRows
import Derived.Deep.CondSized
namespace Go.Proofs.Ytkkhhbegeboonaa.Rot
open Go.RowKit Go.Proofs.YtkkhhbegeboonaaW.PrintWords Go.Proofs.YtkkhhbegeboonaaW.PrintLast Go.Proofs.YtkkhhbegeboonaaW.PrintMore Go.Proofs.Ytkkhhbegeboonaa.GAll Go.Proofs.Ytkkhhbegeboonaa.Mem
set_option linter.unusedVariables false
set_option linter.unusedSimpArgs false
abbrev Ed := PureV.E
def ends (l : List Ed) : List (Int × Int) := l.map fun x => (x.f0, x.f1)
theorem ends_length (l : List Ed) : (ends l).length = l.length := List.length_map ..
def frs (l : List Ed) : List Int := froms (ends l)
theorem frs_length (l : List Ed) : (frs l).length = 2 * l.length := by unfold frs; rw [froms_length, ends_length]
theorem froms_even : ∀ (es : List (Int × Int)) (i : Nat), i < es.length → gi (froms es) (2 * i) = (pe es i).1 ∧ gi (froms es) (2 * i + 1) = (pe es i).2
 | [], i, h => absurd h (by simp)
 | e :: es, 0, h => ⟨rfl, rfl⟩
 | e :: es, i + 1, h => froms_even es i (by simpa using h)
theorem pe_ends {l : List Ed} {i : Nat} (h : i < l.length) : pe (ends l) i = ((PureV.rdE l (i : Nat)).f0, (PureV.rdE l (i : Nat)).f1) := by
 have e : PureV.rdE l (i : Nat) = l[i] := by
  show l.getD ((i : Int).toNat) _ = _
  rw [Int.toNat_natCast, List.getD_eq_getElem?_getD, List.getElem?_eq_getElem h]
  rfl
 rw [e]
 unfold pe ends
 simp [List.getD_eq_getElem?_getD, h]
theorem frs_even {l : List Ed} {i : Nat} (h : i < l.length) : gi (frs l) (2 * i) = (PureV.rdE l (i : Nat)).f0 := by
 have := (froms_even (ends l) i (by rw [ends_length]; exact h)).1
 rw [pe_ends h] at this; exact this
theorem frs_odd {l : List Ed} {i : Nat} (h : i < l.length) : gi (frs l) (2 * i + 1) = (PureV.rdE l (i : Nat)).f1 := by
 have := (froms_even (ends l) i (by rw [ends_length]; exact h)).2
 rw [pe_ends h] at this; exact this
theorem frs_range {n : Int} {l : List Ed} (hg : PureV.Good n l) {h : Nat} (hh : h < 2 * l.length) : 0 ≤ gi (frs l) h ∧ gi (frs l) h < n := by
 have hi : h / 2 < l.length := by omega
 obtain ⟨⟨a, b, c⟩, _⟩ := hg.2.2.2 (h / 2) hi
 rcases Nat.mod_two_eq_zero_or_one h with e | e
 ·have e2 : h = 2 * (h / 2) := by omega
  rw [e2, frs_even hi]; omega
 ·have e2 : h = 2 * (h / 2) + 1 := by omega
  rw [e2, frs_odd hi]; omega
def cnt (fr : List Int) (m : Nat) (v : Int) : Nat := ((List.range m).filter fun j => gi fr j == v).length
theorem cnt_le (fr : List Int) (m : Nat) (v : Int) : cnt fr m v ≤ m := by
 have := List.length_filter_le (fun j => gi fr j == v) (List.range m)
 rw [List.length_range] at this
 exact this
theorem cnt_succ (fr : List Int) (m : Nat) (v : Int) : cnt fr (m + 1) v = cnt fr m v + if gi fr m = v then 1 else 0 := by
 unfold cnt
 rw [List.range_succ, List.filter_append, List.length_append]
 congr 1
 by_cases h : gi fr m = v
 ·rw [if_pos h]; simp [h]
 ·rw [if_neg h]; simp [h]
theorem leaving_cnt (fr : List Int) (v : Nat) : (leaving fr v).length = cnt fr fr.length v := by unfold leaving cnt; rw [List.length_map]
theorem cnt_put {fr : List Int} {n m : Nat} {ds : List Int} {x : Int} (hx : gi fr m = x) (h0 : 0 ≤ x) (h1 : x < n) (hl : ds.length = n) (hm : m ≤ 9000000) (h : ∀ v, v < n → gi ds v = (cnt fr m v : Int)) :
  ∀ v, v < n → gi (ds.set x.toNat (wrap64 (rd ds x + 1))) v = (cnt fr (m + 1) v : Int) := by
 intro v hv
 obtain ⟨y, rfl⟩ := Int.eq_ofNat_of_zero_le h0
 have hy : y < n := by omega
 have hc := cnt_le fr m y
 rw [gi_rd, h y hy, IntWalk.wrap64_in _ (by omega), gi_set, cnt_succ, Int.toNat_natCast, hx, hl]
 by_cases e : y = v
 ·subst e
  rw [if_pos ⟨rfl, hv⟩, if_pos rfl]; omega
 ·rw [if_neg (fun q => e q.1), if_neg (by omega), h v hv]; omega
theorem degrees_loop {n : Nat} {l : List Ed} (hg : PureV.Good (n : Int) l) (d : Nat) : ∀ (i : Nat) (ds : List Int), i + d = l.length → ds.length = n → (∀ v, v < n → gi ds v = (cnt (frs l) (2 * i) v : Int)) →
  ∃ ds', Ev (fun k => simple_Degrees.l0 k ds l (l.length : Int) (i : Int)) (ds', 0) ∧ ds'.length = n ∧ ∀ v, v < n → gi ds' v = (cnt (frs l) (2 * l.length) v : Int) := by
 induction d with
 | zero =>
  intro i ds hi hl hv
  refine ⟨ds, Ev.step (f := fun _ => some (ds, 0)) (fun k => ?_) (Ev.now _), hl, fun v h => ?_⟩
  ·simp only [simple_Degrees.l0]
   rw [if_neg (by omega)]
  ·rw [hv v h, show i = l.length by omega]
 | succ d ih =>
  intro i ds hi hl hv
  have hll := hg.2.2.1
  obtain ⟨⟨a, b, c⟩, _⟩ := hg.2.2.2 i (by omega)
  have h1 := cnt_put (n := n) (m := 2 * i) (fr := frs l) (ds := ds) (frs_even (l := l) (i := i) (by omega)) a (by omega) hl (by omega) hv
  have h2 := cnt_put (n := n) (fr := frs l) (m := 2 * i + 1) (frs_odd (l := l) (i := i) (by omega)) (by omega) c (by rw [List.length_set]; exact hl) (by omega) h1
  obtain ⟨ds', e1, e2, e3⟩ := ih (i + 1) _ (by omega) (List.length_set.trans (List.length_set.trans hl)) h2
  refine ⟨ds', Ev.step (fun k => ?_) e1, e2, e3⟩
  simp only [simple_Degrees.l0]
  rw [if_pos (by omega), if_pos (show (0 : Int) ≤ (i : Int) by omega), if_pos (show (i : Int) < (l.length : Int) by omega)]
  change (if 0 ≤ (PureV.rdE l (i : Nat)).f0 then _ else _) = _
  rw [if_pos a]
  change (if (PureV.rdE l (i : Nat)).f0 < (ds.length : Int) then _ else _) = _
  rw [if_pos (by omega), Option.bind_some]
  change (if 0 ≤ (PureV.rdE l (i : Nat)).f1 then _ else _) = _
  rw [if_pos (by omega)]
  change (if (PureV.rdE l (i : Nat)).f1 < (ds.length : Int) then _ else _) = _
  rw [if_pos (by omega), PureV.wadd (i := i) (by omega)]
theorem degrees_ev {n : Nat} {l : List Ed} (hg : PureV.Good (n : Int) l) (hv : Ev (fun k => simple_Valid.f k (n : Int) l) true) :
  ∃ ds, Ev (fun k => simple_Degrees.f k (n : Int) l) (ds, 0) ∧ ds.length = n ∧ ∀ v, v < n → gi ds v = ((leaving (frs l) v).length : Int) := by
 obtain ⟨ds, e1, e2, e3⟩ := degrees_loop hg l.length 0 (List.replicate n 0) (by omega) (by simp) (fun v h => by
  unfold gi cnt
  simp [List.getD_eq_getElem?_getD, List.getElem?_replicate, h])
 refine ⟨ds, ?_, e2, fun v h => by rw [e3 v h, leaving_cnt, frs_length]⟩
 unfold simple_Degrees.f
 refine Ev.bind hv ?_
 have := hg.2.1
 refine Ev.congr (fun k => ?_) e1
 rw [if_pos rfl, if_pos (by omega), if_pos (by omega)]
 rfl
theorem check_no {n : Int} {l : List Ed} {r : List (List Int)} (hv : Ev (fun k => simple_Valid.f k n l) false) : Ev (fun k => rot_Check.f k n l r) (0, 1) := by
 unfold rot_Check.f
 refine Ev.bind hv ?_
 exact Ev.congr (fun k => if_neg (by decide)) (Ev.now _)
theorem check_len {n : Int} {l : List Ed} {r : List (List Int)} (hv : Ev (fun k => simple_Valid.f k n l) true) (h : (r.length : Int) ≠ n) : Ev (fun k => rot_Check.f k n l r) (0, 110) := by
 unfold rot_Check.f
 refine Ev.bind hv ?_
 exact Ev.congr (fun k => by rw [if_pos rfl, if_neg h]) (Ev.now _)
theorem check_all {n : Nat} {l : List Ed} {r : List (List Int)} (hg : PureV.Good (n : Int) l) (hv : Ev (fun k => simple_Valid.f k (n : Int) l) true) (h : r.length = n) {ds : List Int} (hd : Ev (fun k => simple_Degrees.f k (n : Int) l) (ds, 0)) (hl : ds.length = n) :
  Ev (fun k => rot_Check.f k (n : Int) l r) (rows (frs l) ds 0 r (List.replicate (frs l).length false)) := by
 unfold rot_Check.f
 refine Ev.bind hv ?_
 refine Ev.congr (f := fun k => (simple_Degrees.f k (n : Int) l).bind fun d => rot_Check.told n l r d) (fun k => by rw [if_pos rfl, if_pos (by omega)]) ?_
 refine Ev.bind hd ?_
 refine Ev.congr (fun k => ?_) (Ev.now _)
 have h1 := hg.2.1
 have h2 := hg.2.2.1
 unfold rot_Check.told
 rw [if_pos ⟨by omega, h1, h2, by simp only; omega, rfl⟩, frs_length]
 rfl
theorem check_ev (n : Int) (l : List Ed) (r : List (List Int)) : ∃ res, Ev (fun k => rot_Check.f k n l r) res ∧ (res.2 = 0 → res = (0, 0)) ∧ (res.2 = 0 ↔ ∃ N : Nat, n = N ∧ PureV.Good n l ∧ IsRot (frs l) N r) := by
 obtain ⟨b, hb, _, hg⟩ := PureV.valid n l
 cases b with
 | false =>
  refine ⟨_, check_no hb, fun h => by simp at h, ⟨fun h => by simp at h, ?_⟩⟩
  rintro ⟨N, rfl, h, _⟩
  exact absurd (hg.2 h) (by decide)
 | true =>
  have hG := hg.1 rfl
  by_cases hl : (r.length : Int) = n
  ·obtain ⟨N, rfl⟩ := Int.eq_ofNat_of_zero_le hG.1
   have hl2 : r.length = N := by omega
   obtain ⟨ds, hd, h1, h2⟩ := degrees_ev hG hb
   have hz := rows_zero (frs l) ds r 0 (List.replicate (frs l).length false)
   refine ⟨_, check_all hG hb hl2 hd h1, fun h => hz.resolve_right (fun q => q h), ?_⟩
   constructor
   ·intro h
    exact ⟨N, rfl, hG, (isRot_of hl2 h2).1 (hz.resolve_right (fun q => q h))⟩
   ·rintro ⟨M, e, _, h⟩
    obtain rfl : N = M := by omega
    rw [(isRot_of hl2 h2).2 h]
  ·refine ⟨_, check_len hb hl, fun h => by simp at h, ⟨fun h => by simp at h, ?_⟩⟩
   rintro ⟨N, rfl, _, h⟩
   exact absurd h.len (by omega)
def NextOf (r : List (List Int)) (m : Nat) (nx : List Int) : Prop := nx.length = m ∧ ∀ v, v < r.length → ∀ j, j < (gl r v).length → gi nx (gi (gl r v) j).toNat = gi (gl r v) ((j + 1) % (gl r v).length)
theorem gi_mem {l : List Int} {j : Nat} (h : j < l.length) : gi l j ∈ l := by
 unfold gi
 rw [List.getD_eq_getElem?_getD, List.getElem?_eq_getElem h]
 exact List.getElem_mem h
theorem mem_gi {l : List Int} {x : Int} (h : x ∈ l) : ∃ j, j < l.length ∧ gi l j = x := by
 obtain ⟨j, hj, e⟩ := List.getElem_of_mem h
 exact ⟨j, hj, by unfold gi; rw [List.getD_eq_getElem?_getD, List.getElem?_eq_getElem hj]; exact e⟩
theorem gi_inj {l : List Int} (hn : l.Nodup) {i j : Nat} (hi : i < l.length) (hj : j < l.length) (e : gi l i = gi l j) : i = j := by
 unfold gi at e
 rw [List.getD_eq_getElem?_getD, List.getD_eq_getElem?_getD, List.getElem?_eq_getElem hi, List.getElem?_eq_getElem hj, Option.getD_some, Option.getD_some] at e
 rcases Nat.lt_trichotomy i j with q | q | q
 ·exact absurd e (List.pairwise_iff_getElem.1 hn i j hi hj q)
 ·exact q
 ·exact absurd e.symm (List.pairwise_iff_getElem.1 hn j i hj hi q)
section
variable {fr : List Int} {n : Nat} {r : List (List Int)}
theorem IsRot.at (h : IsRot fr n r) {v j : Nat} (hv : v < n) (hj : j < (gl r v).length) : 0 ≤ gi (gl r v) j ∧ gi (gl r v) j < (fr.length : Int) ∧ gi fr (gi (gl r v) j).toNat = v := leaves_iff.1 ((h.mem v hv _).1 (gi_mem hj))
theorem IsRot.inj (h : IsRot fr n r) {u v i j : Nat} (hu : u < n) (hv : v < n) (hi : i < (gl r u).length) (hj : j < (gl r v).length) (e : (gi (gl r u) i).toNat = (gi (gl r v) j).toNat) : u = v ∧ i = j := by
 obtain ⟨a1, a2, a3⟩ := h.at hu hi
 obtain ⟨b1, b2, b3⟩ := h.at hv hj
 obtain rfl : u = v := by rw [e, b3] at a3; omega
 exact ⟨rfl, gi_inj (h.nodup u hu) hi hj (by omega)⟩
end
theorem tmod_nat (a b : Nat) : Int.tmod (a : Int) (b : Int) = ((a % b : Nat) : Int) := rfl
end Go.Proofs.Ytkkhhbegeboonaa.Rot
namespace Go.Proofs.Ytkkhhbegeboonaa.Rot
open Go.RowKit Go.Proofs.YtkkhhbegeboonaaW.PrintWords Go.Proofs.YtkkhhbegeboonaaW.PrintLast Go.Proofs.YtkkhhbegeboonaaW.PrintMore Go.Proofs.Ytkkhhbegeboonaa.GAll Go.Proofs.Ytkkhhbegeboonaa.Mem
set_option linter.unusedVariables false
set_option linter.unusedSimpArgs false
theorem from_f {n : Int} {l : List Ed} {h : Nat} (hl : l.length ≤ 4194304) (hh : h < 2 * l.length) : tangramref11_From.f n l (h : Int) = some (gi (frs l) h) := by
 have hi : h / 2 < l.length := by omega
 have e1 : Int.tmod (h : Int) 2 = ((h % 2 : Nat) : Int) := rfl
 have e2 : wrap64 (Int.tdiv (h : Int) 2) = ((h / 2 : Nat) : Int) := by
  have : Int.tdiv (h : Int) 2 = ((h / 2 : Nat) : Int) := rfl
  rw [this, IntWalk.wrap64_in _ (by omega)]
 unfold tangramref11_From.f
 rw [e1, e2]
 have c1 : (0 : Int) ≤ ((h / 2 : Nat) : Int) := by omega
 have c2 : ((h / 2 : Nat) : Int) < (l.length : Int) := by omega
 rcases Nat.mod_two_eq_zero_or_one h with e | e
 ·have e3 : h = 2 * (h / 2) := by omega
  have q := frs_even hi
  rw [← e3] at q
  rw [if_pos (by omega), if_pos c1, if_pos c2, q]
 ·have e3 : h = 2 * (h / 2) + 1 := by omega
  have q := frs_odd hi
  rw [← e3] at q
  rw [if_neg (by omega), if_pos c1, if_pos c2, q]
theorem next_row {fr : List Int} {n : Nat} {r : List (List Int)} (h : IsRot fr n r) (hf : fr.length ≤ 8388608) (hn : n ≤ 1048576) {v : Nat} (hv : v < n) (d : Nat) : ∀ (i : Nat) (nx : List Int), i + d = (gl r v).length → nx.length = fr.length →
  (∀ u j, u < n → j < (gl r u).length → (u < v ∨ (u = v ∧ j < i)) → gi nx (gi (gl r u) j).toNat = gi (gl r u) ((j + 1) % (gl r u).length)) →
  ∃ nx', (nx'.length = fr.length ∧ ∀ u j, u < n → j < (gl r u).length → u < v + 1 → gi nx' (gi (gl r u) j).toNat = gi (gl r u) ((j + 1) % (gl r u).length)) ∧
   ∀ res, Ev (fun k => rot_Next.l0 k nx' r (r.length : Int) ((v + 1 : Nat) : Int)) res → Ev (fun k => rot_Next.l1 k nx (gl r v) r (r.length : Int) (v : Int) (gl r v) ((gl r v).length : Int) (i : Int)) res := by
 have hlen : (gl r v).length ≤ fr.length := by
  have := nodup_subset (gl r v) (leaving fr v) (h.nodup v hv) (fun x hx => mem_leaving.2 ((h.mem v hv x).1 hx))
  have h2 := cnt_le fr fr.length v
  rw [leaving_cnt] at this
  omega
 induction d with
 | zero =>
  intro i nx hi hl hp
  refine ⟨nx, ⟨hl, fun u j hu hj huv => hp u j hu hj (by
   rcases Nat.lt_succ_iff_lt_or_eq.1 huv with q | rfl
   ·exact .inl q
   ·exact .inr ⟨rfl, by omega⟩)⟩, fun res hr => Ev.step (fun k => ?_) hr⟩
  simp only [rot_Next.l1]
  rw [if_neg (by omega), PureV.wadd (i := v) (by omega)]
 | succ d ih =>
  intro i nx hi hl hp
  obtain ⟨a1, a2, a3⟩ := h.at hv (show i < (gl r v).length by omega)
  obtain ⟨nx', h1, h2⟩ := ih (i + 1) (nx.set (gi (gl r v) i).toNat (gi (gl r v) ((i + 1) % (gl r v).length))) (by omega) (List.length_set.trans hl) (fun u j hu hj huv => by
   rw [gi_set]
   by_cases e : (gi (gl r v) i).toNat = (gi (gl r u) j).toNat
   ·obtain ⟨rfl, rfl⟩ := h.inj hv hu (by omega) hj e
    rw [if_pos ⟨rfl, by omega⟩]
   ·rw [if_neg (fun q => e q.1)]
    refine hp u j hu hj ?_
    rcases huv with q | ⟨rfl, q⟩
    ·exact .inl q
    ·refine .inr ⟨rfl, ?_⟩
     rcases Nat.lt_succ_iff_lt_or_eq.1 q with q | rfl
     ·exact q
     ·exact absurd rfl e)
  refine ⟨nx', h1, fun res hr => Ev.step (fun k => ?_) (h2 res hr)⟩
  have hm := Nat.mod_lt (i + 1) (show 0 < (gl r v).length by omega)
  simp only [rot_Next.l1]
  rw [PureV.wadd (i := i) (by omega), tmod_nat, gi_rd, gi_rd, if_pos (by omega), if_pos (by omega), if_pos (by omega), if_neg (by omega), if_pos (by omega), if_pos (by omega), if_pos (by omega), if_pos (by omega)]
theorem next_loop {fr : List Int} {n : Nat} {r : List (List Int)} (h : IsRot fr n r) (hf : fr.length ≤ 8388608) (hn : n ≤ 1048576) (d : Nat) : ∀ (v : Nat) (nx : List Int), v + d = n → nx.length = fr.length →
  (∀ u j, u < n → j < (gl r u).length → u < v → gi nx (gi (gl r u) j).toNat = gi (gl r u) ((j + 1) % (gl r u).length)) →
  ∃ nx', Ev (fun k => rot_Next.l0 k nx r (r.length : Int) (v : Int)) (nx', 0) ∧ NextOf r fr.length nx' := by
 induction d with
 | zero =>
  intro v nx hv hl hp
  refine ⟨nx, Ev.step (f := fun _ => some (nx, 0)) (fun k => ?_) (Ev.now _), hl, fun u hu j hj => hp u j (by rw [← h.len]; exact hu) hj (by have := h.len; omega)⟩
  simp only [rot_Next.l0]
  rw [if_neg (by have := h.len; omega)]
 | succ d ih =>
  intro v nx hv hl hp
  obtain ⟨nx1, ⟨h1, h2⟩, h3⟩ := next_row h hf hn (show v < n by omega) (gl r v).length 0 nx (by omega) hl (fun u j hu hj q => hp u j hu hj (by omega))
  obtain ⟨nx2, h4, h5⟩ := ih (v + 1) nx1 (by omega) h1 (fun u j hu hj q => h2 u j hu hj q)
  refine ⟨nx2, Ev.step (fun k => ?_) (h3 _ h4), h5⟩
  simp only [rot_Next.l0]
  have := h.len
  rw [if_pos (by omega), if_pos (by omega), if_pos (by omega)]
  rfl
theorem next_no {n : Int} {l : List Ed} {r : List (List Int)} {res : Int × Int} (h : Ev (fun k => rot_Check.f k n l r) res) (h0 : res.2 ≠ 0) : Ev (fun k => rot_Next.f k n l r) ([], res.2) := by
 unfold rot_Next.f
 refine Ev.bind h ?_
 exact Ev.congr (fun k => if_neg h0) (Ev.now _)
theorem next_ev {n : Nat} {l : List Ed} {r : List (List Int)} (hg : PureV.Good (n : Int) l) (hr : IsRot (frs l) n r) (h : Ev (fun k => rot_Check.f k (n : Int) l r) (0, 0)) : ∃ nx, Ev (fun k => rot_Next.f k (n : Int) l r) (nx, 0) ∧ NextOf r (2 * l.length) nx := by
 have h1 := hg.2.1
 have h2 := hg.2.2.1
 have hl := frs_length l
 obtain ⟨nx, e1, e2⟩ := next_loop hr (by omega) (by omega) n 0 (List.replicate (2 * l.length) 0) (by omega) (by simp [hl]) (fun u j _ _ q => absurd q (by omega))
 rw [hl] at e2
 refine ⟨nx, ?_, e2⟩
 unfold rot_Next.f
 refine Ev.bind h ?_
 refine Ev.congr (fun k => ?_) e1
 rw [if_pos rfl, IntWalk.wrap64_in _ (by omega), if_pos (by omega), if_pos (by omega), show (2 * (l.length : Int)).toNat = 2 * l.length by omega]
 rfl
end Go.Proofs.Ytkkhhbegeboonaa.Rot
namespace Go.Proofs.Ytkkhhbegeboonaa.Rot
open Go.RowKit Go.Proofs.YtkkhhbegeboonaaW.PrintWords Go.Proofs.YtkkhhbegeboonaaW.PrintLast Go.Proofs.YtkkhhbegeboonaaW.PrintMore Go.Proofs.Ytkkhhbegeboonaa.GAll Go.Proofs.Ytkkhhbegeboonaa.Mem
set_option linter.unusedVariables false
set_option linter.unusedSimpArgs false
theorem w1 {i : Nat} (h : i < 9223372036854775807) : wrap64 ((i : Int) + 1) = ((i + 1 : Nat) : Int) := by rw [IntWalk.wrap64_in _ (by omega)]; omega
theorem rd_L {r : List (List Int)} (i : Nat) : rd_L5 r (i : Int) = gl r i := by unfold gl; show r.getD (i : Int).toNat [] = _; rw [Int.toNat_natCast]
theorem gi_get {l : List Int} {i : Nat} (h : i < l.length) : gi l i = l[i] := by unfold gi; rw [List.getD_eq_getElem?_getD, List.getElem?_eq_getElem h]; rfl
theorem gl_get {r : List (List Int)} {i : Nat} (h : i < r.length) : gl r i = r[i] := by unfold gl; rw [List.getD_eq_getElem?_getD, List.getElem?_eq_getElem h]; rfl
theorem gl_mem {r : List (List Int)} {i : Nat} (h : i < r.length) : gl r i ∈ r := by rw [gl_get h]; exact List.getElem_mem h
theorem alike_ev {a b : List Int} (hm : a.length ≤ 9223372036854775807) : Ev (fun k => tangramref11_Alike.f k a b) (decide (a = b)) := by
 by_cases h : a.length = b.length
 ·have loop : ∀ (d i : Nat), i + d = a.length → a.take i = b.take i → Ev (fun k => tangramref11_Alike.l0 k a b (i : Int)) (decide (a = b)) := by
   intro d
   induction d with
   | zero =>
    intro i hi ht
    rw [List.take_of_length_le (by omega), List.take_of_length_le (by omega)] at ht
    rw [decide_eq_true ht]
    refine Ev.step (f := fun _ => some true) (fun k => ?_) (Ev.now _)
    simp only [tangramref11_Alike.l0]
    rw [if_neg (by omega)]
   | succ d ih =>
    intro i hi ht
    have hx : i < a.length := by omega
    have hy : i < b.length := by omega
    by_cases e : a[i] = b[i]
    ·refine Ev.step (fun k => ?_) (ih (i + 1) (by omega) (by rw [List.take_succ_eq_append_getElem hx, List.take_succ_eq_append_getElem hy, ht, e]))
     simp only [tangramref11_Alike.l0]
     rw [if_pos (by omega), if_pos (by omega), if_pos (by omega), gi_rd, gi_rd, gi_get hx, gi_get hy, if_pos e, w1 (by omega)]
    ·rw [decide_eq_false (by rintro rfl; exact e rfl)]
     refine Ev.step (f := fun _ => some false) (fun k => ?_) (Ev.now _)
     simp only [tangramref11_Alike.l0]
     rw [if_pos (by omega), if_pos (by omega), if_pos (by omega), gi_rd, gi_rd, gi_get hx, gi_get hy, if_neg e]
  have := loop a.length 0 (by omega) rfl
  unfold tangramref11_Alike.f
  exact Ev.congr (fun k => if_pos (by omega)) this
 ·rw [decide_eq_false (fun e => h (by rw [e]))]
  unfold tangramref11_Alike.f
  exact Ev.congr (fun k => if_neg (by omega)) (Ev.now _)
def Small (r : List (List Int)) : Prop := r.length * 24 ≤ 140737488351232 ∧ ∀ l ∈ r, l.length * 8 ≤ 140737488351232
theorem Small.at {r : List (List Int)} (h : Small r) {i : Nat} (hi : i < r.length) : (gl r i).length * 8 ≤ 140737488351232 := h.2 _ (gl_mem hi)
theorem equal_ev {x y : List (List Int)} (hx : Small x) : Ev (fun k => tangramref11_Equal.f k x y) (decide (x = y)) := by
 have h1 := hx.1
 by_cases h : x.length = y.length
 ·have loop : ∀ (d i : Nat), i + d = x.length → x.take i = y.take i → Ev (fun k => tangramref11_Equal.l0 k x y (i : Int)) (decide (x = y)) := by
   intro d
   induction d with
   | zero =>
    intro i hi ht
    rw [List.take_of_length_le (by omega), List.take_of_length_le (by omega)] at ht
    rw [decide_eq_true ht]
    refine Ev.step (f := fun _ => some true) (fun k => ?_) (Ev.now _)
    simp only [tangramref11_Equal.l0]
    rw [if_neg (by omega)]
   | succ d ih =>
    intro i hi ht
    have hxl : i < x.length := by omega
    have hyl : i < y.length := by omega
    have ha := alike_ev (a := gl x i) (b := gl y i) (by have := hx.at hxl; omega)
    by_cases e : gl x i = gl y i
    ·rw [decide_eq_true e] at ha
     have hI := ih (i + 1) (by omega) (by rw [List.take_succ_eq_append_getElem hxl, List.take_succ_eq_append_getElem hyl, ht, ← gl_get hxl, ← gl_get hyl, e])
     refine Ev.step (f := fun k => (tangramref11_Alike.f k (gl x i) (gl y i)).bind fun t => if t = true then tangramref11_Equal.l0 k x y ((i + 1 : Nat) : Int) else some false) (fun k => ?_) (Ev.bind ha (Ev.congr (fun k => if_pos rfl) hI))
     simp only [tangramref11_Equal.l0]
     rw [if_pos (by omega), if_pos (by omega), if_pos (by omega), rd_L, rd_L, w1 (by omega)]
    ·rw [decide_eq_false e] at ha
     rw [decide_eq_false (by rintro rfl; exact e rfl)]
     refine Ev.step (f := fun k => (tangramref11_Alike.f k (gl x i) (gl y i)).bind fun t => if t = true then tangramref11_Equal.l0 k x y ((i + 1 : Nat) : Int) else some false) (fun k => ?_) (Ev.bind ha (Ev.congr (fun k => if_neg (by decide)) (Ev.now _)))
     simp only [tangramref11_Equal.l0]
     rw [if_pos (by omega), if_pos (by omega), if_pos (by omega), rd_L, rd_L, w1 (by omega)]
  have := loop x.length 0 (by omega) rfl
  unfold tangramref11_Equal.f
  exact Ev.congr (fun k => if_pos (by omega)) this
 ·rw [decide_eq_false (fun e => h (by rw [e]))]
  unfold tangramref11_Equal.f
  exact Ev.congr (fun k => if_neg (by omega)) (Ev.now _)
theorem gi_ext {a b : List Int} (hl : a.length = b.length) (h : ∀ p, p < a.length → gi a p = gi b p) : a = b := by
 refine List.ext_getElem hl fun p h1 h2 => ?_
 rw [← gi_get h1, ← gi_get h2]
 exact h p h1
end Go.Proofs.Ytkkhhbegeboonaa.Rot
namespace Go.Proofs.Ytkkhhbegeboonaa.Rot
open Go.RowKit Go.Proofs.YtkkhhbegeboonaaW.PrintWords Go.Proofs.YtkkhhbegeboonaaW.PrintLast Go.Proofs.YtkkhhbegeboonaaW.PrintMore Go.Proofs.Ytkkhhbegeboonaa.GAll Go.Proofs.Ytkkhhbegeboonaa.Mem
set_option linter.unusedVariables false
set_option linter.unusedSimpArgs false
theorem xor_one (q : Nat) : q ^^^ 1 = if q % 2 = 0 then q + 1 else q - 1 := by
 have h1 : (q ^^^ 1) / 2 = q / 2 := by rw [Nat.xor_div_two]; simp
 have h2 : (q ^^^ 1) % 2 = (q + 1) % 2 := by
  have h := Nat.xor_mod_two_pow (a := q) (b := 1) (n := 1)
  rw [show 2 ^ 1 = 2 from rfl] at h
  rw [h]
  rcases Nat.mod_two_eq_zero_or_one q with e | e <;> rw [e] <;> simp <;> omega
 split <;> omega
theorem twin_nat {q : Nat} (h : q ≤ 9000000) : twin (q : Int) = ((if q % 2 = 0 then q + 1 else q - 1 : Nat) : Int) := by
 unfold twin Go.bits
 have e : (BitVec.ofInt IntKind.i64.bits (q : Int) ^^^ BitVec.ofInt IntKind.i64.bits 1).toNat = q ^^^ 1 := by
  rw [BitVec.toNat_xor, BitVec.toNat_ofInt, BitVec.toNat_ofInt]
  have hb : IntKind.i64.bits = 64 := rfl
  rw [hb]
  have e1 : ((q : Int) % (2 ^ 64 : Nat)).toNat = q := by omega
  have e2 : ((1 : Int) % (2 ^ 64 : Nat)).toNat = 1 := by omega
  rw [e1, e2]
 simp only [e]
 rw [xor_one, IntWalk.i64_in _ (by split <;> omega)]
theorem twin_in {m q : Nat} (hm : m ≤ 4194304) (h : q < 2 * m) : 0 ≤ twin (q : Int) ∧ twin (q : Int) < ((2 * m : Nat) : Int) := by
 rw [twin_nat (by omega)]
 split <;> omega
theorem leaves_f {n : Int} {l : List Ed} (hl : l.length ≤ 4194304) (h v : Int) : tangramref11_leaves.f n l h v = some (leaves (frs l) v h) := by
 have hfl := frs_length l
 unfold tangramref11_leaves.f leaves
 rw [IntWalk.wrap64_in _ (by omega)]
 by_cases c1 : h ≥ 0
 ·rw [if_pos c1, decide_eq_true c1, Bool.true_and]
  by_cases c2 : h < 2 * (l.length : Int)
  ·obtain ⟨q, rfl⟩ := Int.eq_ofNat_of_zero_le c1
   rw [if_pos c2, from_f hl (by omega), decide_eq_true (by omega), Bool.true_and, Option.bind_some, Int.toNat_natCast]
  ·rw [if_neg c2, decide_eq_false (by omega), Bool.false_and]
 ·rw [if_neg c1, decide_eq_false c1, Bool.false_and]
theorem stands_ev {row : List Int} (hb : row.length ≤ 9000000000000000000) (x : Int) {j : Nat} (hj : j ≤ row.length) : Ev (fun k => tangramref11_stands.f k row (j : Int) x) (decide (x ∈ row.take j)) := by
 have loop : ∀ (d i : Nat), i + d = j → x ∉ row.take i → Ev (fun k => tangramref11_stands.l0 k row (j : Int) x (i : Int)) (decide (x ∈ row.take j)) := by
  intro d
  induction d with
  | zero =>
   intro i hi hx
   obtain rfl : i = j := by omega
   rw [decide_eq_false hx]
   refine Ev.step (f := fun _ => some false) (fun k => ?_) (Ev.now _)
   simp only [tangramref11_stands.l0]
   rw [if_neg (by omega)]
  | succ d ih =>
   intro i hi hx
   have hil : i < row.length := by omega
   by_cases c : gi row i = x
   ·rw [decide_eq_true (by
     rw [← c, gi_get hil, List.mem_iff_getElem]
     exact ⟨i, by rw [List.length_take]; omega, by simp⟩)]
    refine Ev.step (f := fun _ => some true) (fun k => ?_) (Ev.now _)
    simp only [tangramref11_stands.l0]
    rw [if_pos (by omega), if_pos (by omega), if_pos (by omega), gi_rd, if_pos c]
   ·refine Ev.step (fun k => ?_) (ih (i + 1) (by omega) (by
     rw [List.take_succ_eq_append_getElem hil, List.mem_append, List.mem_singleton, ← gi_get hil]
     rintro (h | h)
     ·exact hx h
     ·exact c h.symm))
    simp only [tangramref11_stands.l0]
    rw [if_pos (by omega), if_pos (by omega), if_pos (by omega), gi_rd, if_neg c, w1 (by omega)]
 exact loop j 0 (by omega) (by simp)
theorem degree_ev {n : Int} {l : List Ed} (hl : l.length ≤ 4194304) (v : Int) : Ev (fun k => tangramref11_degree.f k n l v) ((cnt (frs l) (2 * l.length) v : Nat) : Int) := by
 have loop : ∀ (d i : Nat), i + d = 2 * l.length → Ev (fun k => tangramref11_degree.l0 k v ((cnt (frs l) i v : Nat) : Int) (i : Int) n l) ((cnt (frs l) (2 * l.length) v : Nat) : Int) := by
  intro d
  induction d with
  | zero =>
   intro i hi
   obtain rfl : i = 2 * l.length := by omega
   refine Ev.step (f := fun _ => some _) (fun k => ?_) (Ev.now _)
   simp only [tangramref11_degree.l0]
   rw [IntWalk.wrap64_in _ (by omega), if_neg (by omega)]
  | succ d ih =>
   intro i hi
   have hc := cnt_le (frs l) i v
   refine Ev.step (fun k => ?_) (ih (i + 1) (by omega))
   simp only [tangramref11_degree.l0]
   rw [IntWalk.wrap64_in (2 * (l.length : Int)) (by omega), if_pos (by omega), from_f hl (by omega), Option.bind_some, cnt_succ, w1 (by omega), w1 (by omega)]
   by_cases c : gi (frs l) i = v
   ·rw [if_pos c, if_pos c]
   ·rw [if_neg c, if_neg c]; rfl
 exact loop (2 * l.length) 0 (by omega)
end Go.Proofs.Ytkkhhbegeboonaa.Rot
namespace Go.Proofs.Ytkkhhbegeboonaa.Rot
open Go.RowKit Go.Proofs.YtkkhhbegeboonaaW.PrintWords Go.Proofs.YtkkhhbegeboonaaW.PrintLast Go.Proofs.YtkkhhbegeboonaaW.PrintMore Go.Proofs.Ytkkhhbegeboonaa.GAll Go.Proofs.Ytkkhhbegeboonaa.Mem
set_option linter.unusedVariables false
set_option linter.unusedSimpArgs false
section
variable {n : Nat} {l : List Ed} {r : List (List Int)} {ds : List Int}
theorem twin_row (hg : PureV.Good (n : Int) l) (hr : IsRot (frs l) n r) {v j : Nat} (hv : v < n) (hj : j < (gl r v).length) : 0 ≤ twin (gi (gl r v) j) ∧ twin (gi (gl r v) j) < ((2 * l.length : Nat) : Int) := by
 obtain ⟨a, b, c⟩ := hr.at hv hj
 rw [frs_length] at b
 obtain ⟨q, hq⟩ := Int.eq_ofNat_of_zero_le a
 rw [hq] at b ⊢
 exact twin_in hg.2.2.1 (by omega)
theorem row_len {fr : List Int} (h : IsRot fr n r) {v : Nat} (hv : v < n) : (gl r v).length ≤ fr.length := by
 have := nodup_subset (gl r v) (leaving fr v) (h.nodup v hv) (fun x hx => mem_leaving.2 ((h.mem v hv x).1 hx))
 have h2 := cnt_le fr fr.length v
 rw [leaving_cnt] at this
 omega
theorem around_ev (hg : PureV.Good (n : Int) l) (hr : IsRot (frs l) n r) (h : Ev (fun k => rot_Check.f k (n : Int) l r) (0, 0)) : Ev (fun k => rot_Around.f k (n : Int) l r) (aroundOf (frs l) r, 0) := by
 unfold rot_Around.f
 refine Ev.bind h (Ev.congr (fun k => if_pos rfl) (Ev.congr (fun k => if_pos ?_) (Ev.now _)))
 have h1 := hg.2.1
 have h2 := hg.2.2.1
 have hfl := frs_length l
 have hrl := hr.len
 unfold rot_Around.fit
 rw [Bool.and_eq_true, Bool.and_eq_true, List.all_eq_true, decide_eq_true_eq, decide_eq_true_eq]
 refine ⟨h2, by omega, fun row hrow => ?_⟩
 obtain ⟨v, hv, rfl⟩ := List.getElem_of_mem hrow
 rw [← gl_get hv]
 have hl := row_len hr (show v < n by omega)
 rw [Bool.and_eq_true, List.all_eq_true, decide_eq_true_eq]
 refine ⟨by omega, fun x hx => ?_⟩
 obtain ⟨j, hj, rfl⟩ := mem_gi hx
 rw [Bool.and_eq_true, decide_eq_true_eq, decide_eq_true_eq]
 exact twin_row hg hr (by omega) hj
end
theorem around_no {n : Int} {l : List Ed} {r : List (List Int)} {res : Int × Int} (h : Ev (fun k => rot_Check.f k n l r) res) (h0 : res.2 ≠ 0) : Ev (fun k => rot_Around.f k n l r) ([], res.2) := by
 unfold rot_Around.f
 exact Ev.bind h (Ev.congr (fun k => if_neg h0) (Ev.now _))
theorem around_small {n : Nat} {l : List Ed} {r : List (List Int)} (hg : PureV.Good (n : Int) l) (hr : IsRot (frs l) n r) : Small (aroundOf (frs l) r) := by
 have h1 := hg.2.1
 have h2 := hg.2.2.1
 have hfl := frs_length l
 have hrl := hr.len
 refine ⟨by rw [aroundOf_length]; omega, fun x hx => ?_⟩
 unfold aroundOf at hx
 obtain ⟨row, hrow, rfl⟩ := List.mem_map.1 hx
 obtain ⟨v, hv, rfl⟩ := List.getElem_of_mem hrow
 have := row_len hr (show v < n by omega)
 rw [gl_get hv] at this
 rw [List.length_map]; omega
end Go.Proofs.Ytkkhhbegeboonaa.Rot
namespace Go.Proofs.Ytkkhhbegeboonaa.Rot
open Go.RowKit Go.Proofs.YtkkhhbegeboonaaW.PrintWords Go.Proofs.YtkkhhbegeboonaaW.PrintLast Go.Proofs.YtkkhhbegeboonaaW.PrintMore Go.Proofs.Ytkkhhbegeboonaa.GAll Go.Proofs.Ytkkhhbegeboonaa.Mem
set_option linter.unusedVariables false
set_option linter.unusedSimpArgs false
section
variable {n : Nat} {l : List Ed} {r : List (List Int)} {ds : List Int}
theorem ref_rows (hg : PureV.Good (n : Int) l) (hr : Small r) (hrl : r.length = n) (hd : ∀ v, v < n → gi ds v = ((leaving (frs l) v).length : Int)) (d : Nat) : ∀ (v : Nat) (S : List Bool), v + d = n → S.length = (frs l).length → (∀ q : Nat, gb S q = true → ∃ u, u < v ∧ leaves (frs l) u (q : Int) = true) →
  Ev (fun k => tangramref11_Check.l0 k r (v : Int) (n : Int) l) (rows (frs l) ds v (r.drop v) S) := by
 have hll := hg.2.2.1
 have hn := hg.2.1
 have hfl := frs_length l
 induction d with
 | zero =>
  intro v S hv hS hm
  rw [List.drop_of_length_le (by omega)]
  refine Ev.step (f := fun _ => some (0, 0)) (fun k => ?_) (Ev.now _)
  simp only [tangramref11_Check.l0]
  rw [if_neg (by omega)]
 | succ d ih =>
  intro v S hv hS hm
  have hvr : v < r.length := by omega
  have hb := hr.at hvr
  rw [drop_row hvr, rows_cons]
  have row : ∀ (e j : Nat) (T : List Bool), j + e = (gl r v).length → T.length = (frs l).length → (∀ i, i < j → leaves (frs l) v (gi (gl r v) i) = true) → ((gl r v).take j).Nodup →
    (∀ q : Nat, gb T q = true → (∃ u, u < v ∧ leaves (frs l) u (q : Int) = true) ∨ (q : Int) ∈ (gl r v).take j) → (∀ q : Nat, (q : Int) ∈ (gl r v).take j → gb T q = true) →
    Ev (fun k => tangramref11_Check.l1 k r (v : Int) (j : Int) (n : Int) l) (after (frs l) ds v (gl r v) (r.drop (v + 1)) (elems (frs l) v ((gl r v).drop j) T)) := by
   intro e
   induction e with
   | zero =>
    intro j T hj hT hlv hnd hm1 hm2
    obtain rfl : j = (gl r v).length := by omega
    rw [List.take_length] at hnd hm1 hm2
    have hlv2 : ∀ x ∈ gl r v, leaves (frs l) v x = true := by
     intro x hx
     obtain ⟨i, hi, rfl⟩ := mem_gi hx
     exact hlv i hi
    have hle := nodup_subset (gl r v) (leaving (frs l) v) hnd (fun x hx => mem_leaving.2 (hlv2 x hx))
    have hdv := hd v (by omega)
    rw [List.drop_length, show elems (frs l) v [] T = .ok T from rfl, after_ok]
    refine Ev.step (f := fun k => (tangramref11_degree.f k (n : Int) l (v : Int)).bind fun t187 => if ((gl r v).length : Int) < t187 then some ((v : Int), 113) else tangramref11_Check.l0 k r ((v + 1 : Nat) : Int) (n : Int) l) (fun k => ?_) (Ev.bind (degree_ev hll v) ?_)
    ·simp only [tangramref11_Check.l1]
     rw [if_pos (by omega), if_pos (by omega), rd_L, if_neg (by omega), w1 (by omega)]
    ·have hc := leaving_cnt (frs l) v
     rw [hfl] at hc
     rw [← hc, hdv]
     by_cases c : ((gl r v).length : Int) = ((leaving (frs l) v).length : Int)
     ·rw [if_pos c]
      refine Ev.congr (fun k => if_neg (by omega)) (ih (v + 1) T (by omega) hT (fun q hq => ?_))
      rcases hm1 q hq with ⟨u, h1, h2⟩ | h
      ·exact ⟨u, by omega, h2⟩
      ·exact ⟨v, by omega, hlv2 _ h⟩
     ·rw [if_neg c]
      exact Ev.congr (fun k => if_pos (by omega)) (Ev.now _)
   | succ e ih2 =>
    intro j T hj hT hlv hnd hm1 hm2
    have hjl : j < (gl r v).length := by omega
    rw [drop_int hjl]
    obtain ⟨h, hh⟩ : ∃ h, h = gi (gl r v) j := ⟨_, rfl⟩
    have hstep : ∀ k, tangramref11_Check.l1 (k + 1) r (v : Int) (j : Int) (n : Int) l = if leaves (frs l) v h = true then ((tangramref11_stands.f k (gl r v) (j : Int) h).bind fun t194 => if t194 = true then some ((v : Int), 112) else tangramref11_Check.l1 k r (v : Int) ((j + 1 : Nat) : Int) (n : Int) l) else some ((v : Int), 111) := by
     intro k
     simp only [tangramref11_Check.l1]
     rw [if_pos (by omega), if_pos (by omega), rd_L, if_pos (by omega), if_pos (by omega), gi_rd, ← hh, leaves_f hll, Option.bind_some, w1 (by omega)]
    rw [← hh]
    cases hlf : leaves (frs l) v h with
    | false =>
     rw [elems_cons_no hlf]
     refine Ev.step (f := fun _ => some ((v : Int), 111)) (fun k => ?_) (Ev.now _)
     rw [hstep k, if_neg (by rw [hlf]; decide)]
    | true =>
     obtain ⟨l1, l2, l3⟩ := leaves_iff.1 hlf
     obtain ⟨q, hq⟩ := Int.eq_ofNat_of_zero_le l1
     have hst := stands_ev (row := gl r v) (by omega) h (j := j) (by omega)
     have hiff : gb T h.toNat = true ↔ h ∈ (gl r v).take j := by
      constructor
      ·intro g
       rcases hm1 _ g with ⟨u, h1, h2⟩ | g2
       ·obtain ⟨_, _, h3⟩ := leaves_iff.1 h2
        rw [Int.toNat_natCast] at h3
        omega
       ·rw [hq, Int.toNat_natCast] at g2
        rw [hq]; exact g2
      ·intro g
       exact hm2 _ (by rw [hq, Int.toNat_natCast]; rw [hq] at g; exact g)
     refine Ev.step (f := fun k => (tangramref11_stands.f k (gl r v) (j : Int) h).bind fun t194 => if t194 = true then some ((v : Int), 112) else tangramref11_Check.l1 k r (v : Int) ((j + 1 : Nat) : Int) (n : Int) l) (fun k => (hstep k).trans (if_pos hlf)) (Ev.bind hst ?_)
     cases hs : gb T h.toNat with
     | true =>
      rw [elems_cons_twice hlf hs]
      exact Ev.congr (fun k => if_pos (decide_eq_true (hiff.1 hs))) (Ev.now _)
     | false =>
      have hno : h ∉ (gl r v).take j := fun g => by rw [hiff.2 g] at hs; cases hs
      rw [elems_cons hlf hs]
      have et : (gl r v).take (j + 1) = (gl r v).take j ++ [h] := by rw [List.take_succ_eq_append_getElem hjl, ← gi_get hjl, hh]
      refine Ev.congr (fun k => if_neg (by simpa using hno)) (ih2 (j + 1) (T.set h.toNat true) (by omega) (by rw [List.length_set]; exact hT) ?_ ?_ ?_ ?_)
      ·intro i hi
       rcases Nat.lt_succ_iff_lt_or_eq.1 hi with g | rfl
       ·exact hlv i g
       ·rw [← hh]; exact hlf
      ·rw [et, List.nodup_append]
       refine ⟨hnd, by simp, fun a ha b hb2 => ?_⟩
       rw [List.mem_singleton] at hb2
       rintro rfl
       exact hno (by rw [← hb2]; exact ha)
      ·intro p hp
       rw [gb_set] at hp
       rw [et]
       by_cases c : h.toNat = p ∧ p < T.length
       ·right
        rw [show (p : Int) = h by omega]
        simp
       ·rw [if_neg c] at hp
        rcases hm1 p hp with g | g
        ·exact .inl g
        ·exact .inr (List.mem_append_left _ g)
      ·intro p hp
       rw [et, List.mem_append, List.mem_singleton] at hp
       rw [gb_set]
       by_cases c : h.toNat = p ∧ p < T.length
       ·rw [if_pos c]
       ·rw [if_neg c]
        rcases hp with g | g
        ·exact hm2 p g
        ·exact absurd ⟨by omega, by omega⟩ c
  have key := row (gl r v).length 0 S (by omega) hS (fun i hi => by omega) (by simp) (fun q hq => .inl (hm q hq)) (fun q hq => by simp at hq)
  rw [List.drop_zero] at key
  refine Ev.step (fun k => ?_) key
  simp only [tangramref11_Check.l0]
  rw [if_pos (by omega)]
  rfl
end
theorem both_check (n : Int) (l : List Ed) (r : List (List Int)) (hs : Small r) : ∃ res, Ev (fun k => rot_Check.f k n l r) res ∧ Ev (fun k => tangramref11_Check.f k n l r) res ∧ (res.2 = 0 → res = (0, 0)) ∧ (res.2 = 0 ↔ ∃ N : Nat, n = N ∧ PureV.Good n l ∧ IsRot (frs l) N r) := by
 obtain ⟨res, h1, h2, h3⟩ := check_ev n l r
 refine ⟨res, h1, ?_, h2, h3⟩
 obtain ⟨b, hb, hb2, hg⟩ := PureV.valid n l
 have same : ∀ {q : Int × Int}, Ev (fun k => rot_Check.f k n l r) q → res = q := by
  intro q ⟨K1, e1⟩
  obtain ⟨K2, e2⟩ := h1
  have a := e1 (max K1 K2) (by omega)
  have b := e2 (max K1 K2) (by omega)
  exact Option.some.inj (b.symm.trans a)
 unfold tangramref11_Check.f
 refine Ev.bind hb2 ?_
 cases b with
 | false =>
  rw [same (check_no hb)]
  exact Ev.congr (fun k => if_neg (by decide)) (Ev.now _)
 | true =>
  refine Ev.congr (fun k => if_pos rfl) ?_
  by_cases hl : (r.length : Int) = n
  ·refine Ev.congr (fun k => if_pos hl) ?_
   have hG := hg.1 rfl
   obtain ⟨N, rfl⟩ := Int.eq_ofNat_of_zero_le hG.1
   obtain ⟨ds, hd, g1, g2⟩ := degrees_ev hG hb
   rw [same (check_all hG hb (by omega) hd g1)]
   have key := ref_rows hG hs (by omega) g2 N 0 (List.replicate (frs l).length false) (by omega) (by simp) (fun q hq => by rw [gb_none] at hq; cases hq)
   rw [List.drop_zero] at key
   exact key
  ·rw [same (check_len hb hl)]
   exact Ev.congr (fun k => if_neg hl) (Ev.now _)
section
variable {n : Nat} {l : List Ed} {r : List (List Int)}
theorem refaround_ev (hg : PureV.Good (n : Int) l) (hr : IsRot (frs l) n r) (h : Ev (fun k => tangramref11_Check.f k (n : Int) l r) (0, 0)) : Ev (fun k => tangramref11_Around.f k (n : Int) l r) (aroundOf (frs l) r, 0) := by
 have h1 := hg.2.1
 have h2 := hg.2.2.1
 have hfl := frs_length l
 have hrl := hr.len
 have loop : ∀ (d v : Nat), v + d = n → Ev (fun k => tangramref11_Around.l0 k r ((aroundOf (frs l) r).take v) (v : Int) (n : Int) l) (aroundOf (frs l) r, 0) := by
  intro d
  induction d with
  | zero =>
   intro v hv
   refine Ev.step (f := fun _ => some (aroundOf (frs l) r, 0)) (fun k => ?_) (Ev.now _)
   simp only [tangramref11_Around.l0]
   rw [if_neg (by omega), List.take_of_length_le (by rw [aroundOf_length]; omega)]
  | succ d ih =>
   intro v hv
   have hvr : v < r.length := by omega
   have hI := ih (v + 1) (by omega)
   have hal : v < (aroundOf (frs l) r).length := by rw [aroundOf_length]; exact hvr
   rw [List.take_succ_eq_append_getElem hal, ← gl_get hal] at hI
   have hlen : ((aroundOf (frs l) r).take v).length = v := by rw [List.length_take, aroundOf_length]; omega
   obtain ⟨X, hX⟩ : ∃ X, X = (aroundOf (frs l) r).take v := ⟨_, rfl⟩
   rw [← hX] at hI hlen ⊢
   have hrow := row_len hr (show v < n by omega)
   have hal2 : (gl (aroundOf (frs l) r) v).length = (gl r v).length := by rw [aroundOf_row hvr, List.length_map]
   have row : ∀ (e j : Nat), j + e = (gl r v).length → Ev (fun k => tangramref11_Around.l1 k r X (v : Int) ((gl (aroundOf (frs l) r) v).take j) (j : Int) (n : Int) l) (aroundOf (frs l) r, 0) := by
    intro e
    induction e with
    | zero =>
     intro j hj
     refine Ev.step (fun k => ?_) hI
     simp only [tangramref11_Around.l1]
     rw [if_pos (by omega), if_pos (by omega), rd_L, if_neg (by omega), if_pos (by omega), w1 (by omega), List.take_of_length_le (by omega)]
    | succ e ih2 =>
     intro j hj
     have hjl : j < (gl r v).length := by omega
     obtain ⟨t1, t2⟩ := twin_row hg hr (show v < n by omega) hjl
     refine Ev.step (fun k => ?_) (ih2 (j + 1) (by omega))
     have hto : tangramref11_To.f (n : Int) l (gi (gl r v) j) = some (gi (gl (aroundOf (frs l) r) v) j) := by
      unfold tangramref11_To.f
      rw [aroundOf_at hvr hjl]
      show (tangramref11_From.f (n : Int) l (twin (gi (gl r v) j))).bind _ = _
      obtain ⟨q, hq⟩ := Int.eq_ofNat_of_zero_le t1
      rw [hq, from_f h2 (by omega), Option.bind_some, Int.toNat_natCast]
     simp only [tangramref11_Around.l1]
     rw [if_pos (by omega), if_pos (by omega), rd_L, if_pos (by omega), if_pos (by omega), gi_rd, hto, Option.bind_some, if_pos (by rw [List.length_take]; omega), w1 (by omega), List.take_succ_eq_append_getElem (by omega), ← gi_get (by omega)]
   refine Ev.step (fun k => ?_) (row (gl r v).length 0 (by omega))
   simp only [tangramref11_Around.l0]
   rw [if_pos (by omega)]
   rfl
 unfold tangramref11_Around.f
 exact Ev.bind h (Ev.congr (fun k => if_pos rfl) (loop n 0 (by omega)))
end
theorem refaround_no {n : Int} {l : List Ed} {r : List (List Int)} {res : Int × Int} (h : Ev (fun k => tangramref11_Check.f k n l r) res) (h0 : res.2 ≠ 0) : Ev (fun k => tangramref11_Around.f k n l r) ([], res.2) := by
 unfold tangramref11_Around.f
 exact Ev.bind h (Ev.congr (fun k => if_neg h0) (Ev.now _))
end Go.Proofs.Ytkkhhbegeboonaa.Rot
namespace Go.Proofs.Ytkkhhbegeboonaa.GAll
open Go.RowKit Go.Proofs.YtkkhhbegeboonaaW.PrintWords Go.Proofs.YtkkhhbegeboonaaW.PrintLast Go.Proofs.YtkkhhbegeboonaaW.PrintMore
attribute [local go_sem] max2_int min2_int max_two min_two max_three min_three max_four min_four   -- for this text's walks alone
set_option linter.unusedVariables false
set_option linter.unusedSimpArgs false
def tangramref11_Half.l0 : Nat → Int → Int → Int → Int → List (S59) → Option (Int)
 | 0, _, _, _, _, _ => none
 | k + 1, x1, x2, x7, x200000, x200001 => if x7 < (wrap64 (2 * (x200001.length : Int))) then ((tangramref11_From.f x200000 x200001 x7).bind fun t200 => (if t200 = x1 then ((tangramref11_To.f x200000 x200001 x7).bind fun t201 => (if t201 = x2 then (some x7) else (tangramref11_Half.l0 k x1 x2 (wrap64 (x7 + 1)) x200000 x200001))) else (tangramref11_Half.l0 k x1 x2 (wrap64 (x7 + 1)) x200000 x200001))) else (some (-1))
def tangramref11_Half.f (k : Nat) (a0_0 : Int) (l0_1 : List (S59)) (a1 : Int) (a2 : Int) : Option (Int) := tangramref11_Half.l0 k a1 a2 0 a0_0 l0_1
theorem tangramref11_Half.mono_l : ∀ k, (∀ y0 y1 y2 y3 y4, LeO (tangramref11_Half.l0 k y0 y1 y2 y3 y4) (tangramref11_Half.l0 (k + 1) y0 y1 y2 y3 y4))
 | 0 => fun _ _ _ _ _ r h => by simp [tangramref11_Half.l0] at h
 | k + 1 => by
  have ih0 := tangramref11_Half.mono_l k
  ·intro y0 y1 y2 y3 y4
   unfold tangramref11_Half.l0
   repeat' first
   | (with_reducible exact ih0 _ _ _ _ _)
   | (with_reducible exact LeO.refl _)
   | (with_reducible exact LeO.none _)
   | (with_reducible refine LeO.ite ?_ ?_)
   | (with_reducible refine LeO.bind ?_ (fun _ => ?_))
   | exact ih0 _ _ _ _ _
   | exact LeO.none _
   | refine LeO.ite ?_ ?_
   | refine LeO.bind ?_ (fun _ => ?_)
theorem tangramref11_Half.mono : ∀ a0 a1 a2 a3 k, LeO (tangramref11_Half.f k a0 a1 a2 a3) (tangramref11_Half.f (k + 1) a0 a1 a2 a3) := by
 intro a0 a1 a2 a3 k
 have ih0 := tangramref11_Half.mono_l k
 unfold tangramref11_Half.f
 repeat' first
   | (with_reducible exact ih0 _ _ _ _ _)
   | (with_reducible exact LeO.refl _)
   | (with_reducible exact LeO.none _)
   | (with_reducible refine LeO.ite ?_ ?_)
   | (with_reducible refine LeO.bind ?_ (fun _ => ?_))
   | exact ih0 _ _ _ _ _
   | exact LeO.none _
   | refine LeO.ite ?_ ?_
   | refine LeO.bind ?_ (fun _ => ?_)
end Go.Proofs.Ytkkhhbegeboonaa.GAll
namespace Go.Proofs.Ytkkhhbegeboonaa.Rot
open Go.RowKit Go.Proofs.YtkkhhbegeboonaaW.PrintWords Go.Proofs.YtkkhhbegeboonaaW.PrintLast Go.Proofs.YtkkhhbegeboonaaW.PrintMore Go.Proofs.Ytkkhhbegeboonaa.GAll Go.Proofs.Ytkkhhbegeboonaa.Mem
set_option linter.unusedVariables false
set_option linter.unusedSimpArgs false
section
variable {n : Int} {l : List Ed}
theorem good_lt (hg : PureV.Good n l) {i : Nat} (d : Nat) (h : i + d + 1 < l.length) : PureV.lt (PureV.rdE l (i : Nat)) (PureV.rdE l ((i + d + 1 : Nat) : Int)) := by
 induction d with
 | zero =>
  have := (hg.2.2.2 (i + 0 + 1) h).2 (by omega)
  exact this
 | succ d ih =>
  have h1 := ih (by omega)
  have h2 := (hg.2.2.2 (i + (d + 1) + 1) h).2 (by omega)
  have e : i + (d + 1) + 1 - 1 = i + d + 1 := by omega
  rw [e] at h2
  unfold PureV.lt at h1 h2 ⊢
  omega
theorem good_ne (hg : PureV.Good n l) {i j : Nat} (hi : i < l.length) (hj : j < l.length) (e1 : (PureV.rdE l (i : Nat)).f0 = (PureV.rdE l (j : Nat)).f0) (e2 : (PureV.rdE l (i : Nat)).f1 = (PureV.rdE l (j : Nat)).f1) : i = j := by
 rcases Nat.lt_trichotomy i j with h | h | h
 ·have := good_lt hg (i := i) (j - i - 1) (by omega)
  rw [show i + (j - i - 1) + 1 = j by omega] at this
  unfold PureV.lt at this; omega
 ·exact h
 ·have := good_lt hg (i := j) (i - j - 1) (by omega)
  rw [show j + (i - j - 1) + 1 = i by omega] at this
  unfold PureV.lt at this; omega
theorem half_is (hg : PureV.Good n l) : ∀ (i : Nat), i ≤ l.length → ∀ (q : Nat), q < 2 * i → halfTo (ends l) i (gi (frs l) q, gi (frs l) (twin (q : Int)).toNat) = some (q : Int)
 | 0, _, q, hq => by omega
 | i + 1, hi, q, hq => by
  have hl := hg.2.2.1
  have hil : i < l.length := by omega
  obtain ⟨⟨a0, a1, a2⟩, _⟩ := hg.2.2.2 i hil
  have tq := twin_nat (q := q) (by omega)
  have hj : q / 2 < l.length := by omega
  obtain ⟨⟨b0, b1, b2⟩, _⟩ := hg.2.2.2 (q / 2) hj
  unfold halfTo
  rw [pe_ends hil]
  have g0 := frs_even hj
  have g1 := frs_odd hj
  rcases Nat.mod_two_eq_zero_or_one q with e | e
  ·rw [if_pos e] at tq
   have q0 : 2 * (q / 2) = q := by omega
   rw [q0] at g0 g1
   rw [tq, Int.toNat_natCast, g0, g1]
   by_cases c : q / 2 = i
   ·rw [c, if_neg (by intro h; injection h with h1 h2; omega), if_pos rfl]
    congr 1; omega
   ·have hne : ¬ ((PureV.rdE l ((q / 2 : Nat) : Int)).f0 = (PureV.rdE l (i : Nat)).f0 ∧ (PureV.rdE l ((q / 2 : Nat) : Int)).f1 = (PureV.rdE l (i : Nat)).f1) := fun h => c (good_ne hg hj hil h.1 h.2)
    rw [if_neg (by intro h; injection h with h1 h2; omega), if_neg (by intro h; injection h with h1 h2; exact hne ⟨h1, h2⟩)]
    have := half_is hg i (by omega) q (by omega)
    rw [tq, Int.toNat_natCast, g0, g1] at this
    exact this
  ·rw [if_neg (by omega)] at tq
   have q0 : 2 * (q / 2) = q - 1 := by omega
   rw [q0] at g0 g1
   rw [show q - 1 + 1 = q by omega] at g1
   rw [tq, Int.toNat_natCast, g0, g1]
   by_cases c : q / 2 = i
   ·rw [c, if_pos rfl]
    congr 1; omega
   ·have hne : ¬ ((PureV.rdE l ((q / 2 : Nat) : Int)).f0 = (PureV.rdE l (i : Nat)).f0 ∧ (PureV.rdE l ((q / 2 : Nat) : Int)).f1 = (PureV.rdE l (i : Nat)).f1) := fun h => c (good_ne hg hj hil h.1 h.2)
    rw [if_neg (by intro h; injection h with h1 h2; exact hne ⟨h2, h1⟩), if_neg (by intro h; injection h with h1 h2; omega)]
    have := half_is hg i (by omega) q (by omega)
    rw [tq, Int.toNat_natCast, g0, g1] at this
    exact this
def halfInt : Option Int → Int
 | some h => h
 | none => -1
end
end Go.Proofs.Ytkkhhbegeboonaa.Rot
namespace Go.Proofs.Ytkkhhbegeboonaa.Rot
open Go.RowKit Go.Proofs.YtkkhhbegeboonaaW.PrintWords Go.Proofs.Ytkkhhbegeboonaa.Mem Go.Proofs.Ytkkhhbegeboonaa.GAll
set_option linter.unusedVariables false
set_option linter.unusedSimpArgs false
theorem walkRow_back {half : Int × Int → Option Int} {v : Int} {g : Int → Int} : ∀ (row o : List Int), (∀ h ∈ row, half (v, g h) = some h) → row.Nodup → (∀ h ∈ row, h ∉ o) → walkRow half v (row.map g) o = .ok (o ++ row)
 | [], o, _, _, _ => by simp [walkRow]
 | h :: t, o, h1, h2, h3 => by
  rw [List.nodup_cons] at h2
  rw [List.map_cons, walkRow_on (h1 h (by simp)) (h3 h (by simp)), walkRow_back t (o ++ [h]) (fun x hx => h1 x (by simp [hx])) h2.2 (fun x hx hm => by
   rcases List.mem_append.1 hm with q | q
   ·exact h3 x (by simp [hx]) q
   ·rw [List.mem_singleton] at q
    exact h2.1 (by rw [← q]; exact hx))]
  simp
section
variable {n : Nat} {l : List Ed} {r : List (List Int)} {ds : List Int}
theorem rot_len {fr : List Int} (h : IsRot fr n r) {v : Nat} (hv : v < n) : (gl r v).length = (leaving fr v).length := by
 have h1 := nodup_subset (gl r v) (leaving fr v) (h.nodup v hv) (fun x hx => mem_leaving.2 ((h.mem v hv x).1 hx))
 have h2 := nodup_subset (leaving fr v) (gl r v) (leaving_nodup fr v) (fun x hx => (h.mem v hv x).2 (mem_leaving.1 hx))
 omega
theorem from_around (hg : PureV.Good (n : Int) l) (hr : IsRot (frs l) n r) (hd : ∀ v, v < n → gi ds v = ((leaving (frs l) v).length : Int)) (d : Nat) : ∀ (v : Nat) (o : List (List Int)), v + d = n → fromRows (halfOf (ends l)) ds v ((aroundOf (frs l) r).drop v) o = .ok (o ++ r.drop v) := by
 have hrl := hr.len
 have hfl := frs_length l
 have hel := ends_length l
 induction d with
 | zero =>
  intro v o hv
  rw [List.drop_of_length_le (by rw [aroundOf_length]; omega), List.drop_of_length_le (by omega)]
  simp [fromRows]
 | succ d ih =>
  intro v o hv
  have hvr : v < r.length := by omega
  have hw : walkRow (halfOf (ends l)) v ((gl r v).map fun h => gi (frs l) (twin h).toNat) [] = .ok (gl r v) := by
   have := walkRow_back (half := halfOf (ends l)) (v := (v : Int)) (g := fun h => gi (frs l) (twin h).toNat) (gl r v) [] (fun h hh => ?_) (hr.nodup v (by omega)) (by simp)
   ·exact this
   ·obtain ⟨a, b, c⟩ := leaves_iff.1 ((hr.mem v (by omega) h).1 hh)
    obtain ⟨q, rfl⟩ := Int.eq_ofNat_of_zero_le a
    rw [Int.toNat_natCast] at c
    have := half_is hg (ends l).length (by omega) q (by omega)
    rw [c] at this
    exact this
  rw [drop_row (show v < (aroundOf (frs l) r).length by rw [aroundOf_length]; exact hvr), aroundOf_row hvr, fromRows_cons, hw, fromAfter_ok, List.length_map, hd v (by omega), if_pos (by rw [rot_len hr (by omega)]), ih (v + 1) _ (by omega), drop_row hvr]
  simp
end
end Go.Proofs.Ytkkhhbegeboonaa.Rot
namespace Go.Proofs.Ytkkhhbegeboonaa.GAll
open Go.RowKit Go.Proofs.YtkkhhbegeboonaaW.PrintWords Go.Proofs.YtkkhhbegeboonaaW.PrintLast Go.Proofs.YtkkhhbegeboonaaW.PrintMore
attribute [local go_sem] max2_int min2_int max_two min_two max_three min_three max_four min_four   -- for this text's walks alone
set_option linter.unusedVariables false
set_option linter.unusedSimpArgs false
def tangramref11_Turn.l0 : Nat → List Int → List Int → Int → Option (Bool)
 | 0, _, _, _ => none
 | k + 1, x0, x1, x5 => if x5 < (x0.length : Int) then ((tangramref11_Turned.f k x0 x5).bind fun t254 => ((tangramref11_Alike.f k t254 x1).bind fun t257 => (if t257 = true then (some true) else (tangramref11_Turn.l0 k x0 x1 (wrap64 (x5 + 1)))))) else (some false)
def tangramref11_Turn.f (k : Nat) (l0 : List Int) (l1 : List Int) : Option (Bool) := if (l0.length : Int) = 0 then (some ((l1.length : Int) == 0)) else (tangramref11_Turn.l0 k l0 l1 0)
theorem tangramref11_Turn.mono_l : ∀ k, (∀ y0 y1 y2, LeO (tangramref11_Turn.l0 k y0 y1 y2) (tangramref11_Turn.l0 (k + 1) y0 y1 y2))
 | 0 => fun _ _ _ r h => by simp [tangramref11_Turn.l0] at h
 | k + 1 => by
  have ih0 := tangramref11_Turn.mono_l k
  ·intro y0 y1 y2
   unfold tangramref11_Turn.l0
   repeat' first
   | (with_reducible exact ih0 _ _ _)
   | (with_reducible exact tangramref11_Alike.mono _ _ _)
   | (with_reducible exact tangramref11_Turned.mono _ _ _)
   | (with_reducible exact LeO.refl _)
   | (with_reducible exact LeO.none _)
   | (with_reducible refine LeO.ite ?_ ?_)
   | (with_reducible refine LeO.bind ?_ (fun _ => ?_))
   | exact ih0 _ _ _
   | exact tangramref11_Alike.mono _ _ _
   | exact tangramref11_Turned.mono _ _ _
   | exact LeO.none _
   | refine LeO.ite ?_ ?_
   | refine LeO.bind ?_ (fun _ => ?_)
theorem tangramref11_Turn.mono : ∀ a0 a1 k, LeO (tangramref11_Turn.f k a0 a1) (tangramref11_Turn.f (k + 1) a0 a1) := by
 intro a0 a1 k
 have ih0 := tangramref11_Turn.mono_l k
 unfold tangramref11_Turn.f
 repeat' first
   | (with_reducible exact ih0 _ _ _)
   | (with_reducible exact tangramref11_Alike.mono _ _ _)
   | (with_reducible exact tangramref11_Turned.mono _ _ _)
   | (with_reducible exact LeO.refl _)
   | (with_reducible exact LeO.none _)
   | (with_reducible refine LeO.ite ?_ ?_)
   | (with_reducible refine LeO.bind ?_ (fun _ => ?_))
   | exact ih0 _ _ _
   | exact tangramref11_Alike.mono _ _ _
   | exact tangramref11_Turned.mono _ _ _
   | exact LeO.none _
   | refine LeO.ite ?_ ?_
   | refine LeO.bind ?_ (fun _ => ?_)
end Go.Proofs.Ytkkhhbegeboonaa.GAll
namespace Go.Proofs.Ytkkhhbegeboonaa.GAll
open Go.RowKit Go.Proofs.YtkkhhbegeboonaaW.PrintWords Go.Proofs.YtkkhhbegeboonaaW.PrintLast Go.Proofs.YtkkhhbegeboonaaW.PrintMore
attribute [local go_sem] max2_int min2_int max_two min_two max_three min_three max_four min_four   -- for this text's walks alone
set_option linter.unusedVariables false
set_option linter.unusedSimpArgs false
def tangramref11_Same.l0 : Nat → List (List Int) → List (List Int) → Int → Option (Bool)
 | 0, _, _, _ => none
 | k + 1, x0, x1, x5 => if x5 < (x0.length : Int) then (if 0 ≤ x5 then (if x5 < (x1.length : Int) then ((tangramref11_Turn.f k (rd_L5 x0 x5) (rd_L5 x1 x5)).bind fun t260 => (if t260 = true then (tangramref11_Same.l0 k x0 x1 (wrap64 (x5 + 1))) else (some false))) else (none)) else (none)) else (some true)
def tangramref11_Same.f (k : Nat) (l0 : List (List Int)) (l1 : List (List Int)) : Option (Bool) := if (l0.length : Int) = (l1.length : Int) then (tangramref11_Same.l0 k l0 l1 0) else (some false)
theorem tangramref11_Same.mono_l : ∀ k, (∀ y0 y1 y2, LeO (tangramref11_Same.l0 k y0 y1 y2) (tangramref11_Same.l0 (k + 1) y0 y1 y2))
 | 0 => fun _ _ _ r h => by simp [tangramref11_Same.l0] at h
 | k + 1 => by
  have ih0 := tangramref11_Same.mono_l k
  ·intro y0 y1 y2
   unfold tangramref11_Same.l0
   repeat' first
   | (with_reducible exact ih0 _ _ _)
   | (with_reducible exact tangramref11_Turn.mono _ _ _)
   | (with_reducible exact LeO.refl _)
   | (with_reducible exact LeO.none _)
   | (with_reducible refine LeO.ite ?_ ?_)
   | (with_reducible refine LeO.bind ?_ (fun _ => ?_))
   | exact ih0 _ _ _
   | exact tangramref11_Turn.mono _ _ _
   | exact LeO.none _
   | refine LeO.ite ?_ ?_
   | refine LeO.bind ?_ (fun _ => ?_)
theorem tangramref11_Same.mono : ∀ a0 a1 k, LeO (tangramref11_Same.f k a0 a1) (tangramref11_Same.f (k + 1) a0 a1) := by
 intro a0 a1 k
 have ih0 := tangramref11_Same.mono_l k
 unfold tangramref11_Same.f
 repeat' first
   | (with_reducible exact ih0 _ _ _)
   | (with_reducible exact tangramref11_Turn.mono _ _ _)
   | (with_reducible exact LeO.refl _)
   | (with_reducible exact LeO.none _)
   | (with_reducible refine LeO.ite ?_ ?_)
   | (with_reducible refine LeO.bind ?_ (fun _ => ?_))
   | exact ih0 _ _ _
   | exact tangramref11_Turn.mono _ _ _
   | exact LeO.none _
   | refine LeO.ite ?_ ?_
   | refine LeO.bind ?_ (fun _ => ?_)
def tangramref11_Same.T6 : Bool × List (List Nat × List Nat) := (true, [([], []), ([], []), ([0, 1], [0, 1]), ([2], [2]), ([], []), ([], []), ([4, 5], [4, 5]), ([6], [6]), ([3, 7], [3, 7]), ([8], [8])])
def tangramref11_Same.B6 : List Nat := [0, 0, 3, 7, 0, 0, 48, 112, 255, 511]
end Go.Proofs.Ytkkhhbegeboonaa.GAll
namespace Go.Proofs.Ytkkhhbegeboonaa.GAll
open Go.RowKit Go.Proofs.YtkkhhbegeboonaaW.PrintWords Go.Proofs.YtkkhhbegeboonaaW.PrintLast Go.Proofs.YtkkhhbegeboonaaW.PrintMore
attribute [local go_sem] max2_int min2_int max_two min_two max_three min_three max_four min_four   -- for this text's walks alone
set_option linter.unusedVariables false
set_option linter.unusedSimpArgs false
mutual
def tangramref11_Mirror.l0 : Nat → List (List Int) → List (List Int) → Int → Option ((List (List Int)))
 | 0, _, _, _ => none
 | k + 1, x0, x3, x4 => if x4 < (x0.length : Int) then (if 0 ≤ x4 then (tangramref11_Mirror.l1 k x0 x3 x4 ([] : List Int) (wrap64 (((rd_L5 x0 x4).length : Int) - 1))) else (none)) else ((tangramref11_Canon.f k x3).bind fun t240 => (some t240))
def tangramref11_Mirror.l1 : Nat → List (List Int) → List (List Int) → Int → List Int → Int → Option ((List (List Int)))
 | 0, _, _, _, _, _ => none
 | k + 1, x0, x3, x4, x5, x6 => if x6 ≥ 0 then (if 0 ≤ x4 then (if x4 < (x0.length : Int) then (if 0 ≤ x6 then (if x6 < ((rd_L5 x0 x4).length : Int) then (if x5.length < 17592186044416 then (tangramref11_Mirror.l1 k x0 x3 x4 (x5 ++ [rd (rd_L5 x0 x4) x6]) (wrap64 (x6 - 1))) else (none)) else (none)) else (none)) else (none)) else (none)) else (if x3.length < 5864062014805 then (tangramref11_Mirror.l0 k x0 (x3 ++ [x5]) (wrap64 (x4 + 1))) else (none))
end
def tangramref11_Mirror.f (k : Nat) (l0 : List (List Int)) : Option ((List (List Int))) := tangramref11_Mirror.l0 k l0 ([] : List (List Int)) 0
theorem tangramref11_Mirror.mono_l : ∀ k, (∀ y0 y1 y2, LeO (tangramref11_Mirror.l0 k y0 y1 y2) (tangramref11_Mirror.l0 (k + 1) y0 y1 y2)) ∧ (∀ y0 y1 y2 y3 y4, LeO (tangramref11_Mirror.l1 k y0 y1 y2 y3 y4) (tangramref11_Mirror.l1 (k + 1) y0 y1 y2 y3 y4))
 | 0 => ⟨fun _ _ _ r h => by simp [tangramref11_Mirror.l0] at h, fun _ _ _ _ _ r h => by simp [tangramref11_Mirror.l1] at h⟩
 | k + 1 => by
  obtain ⟨ih0, ih1⟩ := tangramref11_Mirror.mono_l k
  refine ⟨?_, ?_⟩
  ·intro y0 y1 y2
   unfold tangramref11_Mirror.l0
   repeat' first
   | (with_reducible exact ih0 _ _ _)
   | (with_reducible exact ih1 _ _ _ _ _)
   | (with_reducible exact tangramref11_Canon.mono _ _)
   | (with_reducible exact LeO.refl _)
   | (with_reducible exact LeO.none _)
   | (with_reducible refine LeO.ite ?_ ?_)
   | (with_reducible refine LeO.bind ?_ (fun _ => ?_))
   | exact ih0 _ _ _
   | exact ih1 _ _ _ _ _
   | exact tangramref11_Canon.mono _ _
   | exact LeO.none _
   | refine LeO.ite ?_ ?_
   | refine LeO.bind ?_ (fun _ => ?_)
  ·intro y0 y1 y2 y3 y4
   unfold tangramref11_Mirror.l1
   repeat' first
   | (with_reducible exact ih0 _ _ _)
   | (with_reducible exact ih1 _ _ _ _ _)
   | (with_reducible exact tangramref11_Canon.mono _ _)
   | (with_reducible exact LeO.refl _)
   | (with_reducible exact LeO.none _)
   | (with_reducible refine LeO.ite ?_ ?_)
   | (with_reducible refine LeO.bind ?_ (fun _ => ?_))
   | exact ih0 _ _ _
   | exact ih1 _ _ _ _ _
   | exact tangramref11_Canon.mono _ _
   | exact LeO.none _
   | refine LeO.ite ?_ ?_
   | refine LeO.bind ?_ (fun _ => ?_)
theorem tangramref11_Mirror.mono : ∀ a0 k, LeO (tangramref11_Mirror.f k a0) (tangramref11_Mirror.f (k + 1) a0) := by
 intro a0 k
 obtain ⟨ih0, ih1⟩ := tangramref11_Mirror.mono_l k
 unfold tangramref11_Mirror.f
 repeat' first
   | (with_reducible exact ih0 _ _ _)
   | (with_reducible exact ih1 _ _ _ _ _)
   | (with_reducible exact tangramref11_Canon.mono _ _)
   | (with_reducible exact LeO.refl _)
   | (with_reducible exact LeO.none _)
   | (with_reducible refine LeO.ite ?_ ?_)
   | (with_reducible refine LeO.bind ?_ (fun _ => ?_))
   | exact ih0 _ _ _
   | exact ih1 _ _ _ _ _
   | exact tangramref11_Canon.mono _ _
   | exact LeO.none _
   | refine LeO.ite ?_ ?_
   | refine LeO.bind ?_ (fun _ => ?_)
end Go.Proofs.Ytkkhhbegeboonaa.GAll
namespace Go.Proofs.Ytkkhhbegeboonaa.Rot
open Go.RowKit Go.Proofs.YtkkhhbegeboonaaW.PrintWords Go.Proofs.YtkkhhbegeboonaaW.PrintLast Go.Proofs.YtkkhhbegeboonaaW.PrintMore Go.Proofs.Ytkkhhbegeboonaa.GAll Go.Proofs.Ytkkhhbegeboonaa.Mem
set_option linter.unusedVariables false
set_option linter.unusedSimpArgs false
theorem turn_at {l : List Int} {a i : Nat} (ha : a < l.length) (hi : i < l.length) : gi l ((a + i) % l.length) = (l.drop a ++ l.take a)[i]'(by simp; omega) := by
 rw [List.getElem_append]
 rcases Nat.lt_or_ge (a + i) l.length with h | h
 ·rw [Nat.mod_eq_of_lt h, gi_get h, dif_pos (by simp; omega)]
  simp
 ·have e : (a + i) % l.length = a + i - l.length := by rw [Nat.mod_eq_sub_mod h, Nat.mod_eq_of_lt (by omega)]
  rw [e, gi_get (by omega), dif_neg (by simp; omega)]
  simp only [List.getElem_take, List.length_drop]
  congr 1
  omega
theorem turned_ev {l : List Int} {a : Nat} (hl : l.length * 8 ≤ 140737488351232) (ha : a < l.length ∨ l.length = 0 ∧ a = 0) : Ev (fun k => tangramref11_Turned.f k l (a : Int)) (l.drop a ++ l.take a) := by
 have hlen : (l.drop a ++ l.take a).length = l.length := by simp; omega
 have loop : ∀ (d i : Nat), i + d = l.length → Ev (fun k => tangramref11_Turned.l0 k l (a : Int) ((l.drop a ++ l.take a).take i) (i : Int)) (l.drop a ++ l.take a) := by
  intro d
  induction d with
  | zero =>
   intro i hi
   refine Ev.step (f := fun _ => some (l.drop a ++ l.take a)) (fun k => ?_) (Ev.now _)
   simp only [tangramref11_Turned.l0]
   rw [if_neg (by omega), List.take_of_length_le (by omega)]
  | succ d ih =>
   intro i hi
   have ha2 : a < l.length := by omega
   refine Ev.step (fun k => ?_) (ih (i + 1) (by omega))
   have hm := Nat.mod_lt (a + i) (show 0 < l.length by omega)
   have et : Int.tmod ((a : Int) + (i : Int)) (l.length : Int) = (((a + i) % l.length : Nat) : Int) := by rw [show (a : Int) + (i : Int) = ((a + i : Nat) : Int) by omega]; rfl
   simp only [tangramref11_Turned.l0]
   rw [if_pos (by omega), if_neg (by omega), IntWalk.wrap64_in _ (by omega), et, if_pos (by omega), if_pos (by omega), if_pos (by rw [List.length_take]; omega), w1 (by omega), gi_rd, turn_at ha2 (by omega), List.take_succ_eq_append_getElem (by omega)]
 exact loop l.length 0 (by omega)
theorem least_ev {l : List Int} (hl : l.length * 8 ≤ 140737488355328) : Ev (fun k => rot_least.f k l) ((leastAt l : Nat) : Int) := by
 have loop : ∀ (d i : Nat), i + d = l.length → Ev (fun k => rot_least.l0 k l ((leastTo l i : Nat) : Int) l (l.length : Int) (i : Int)) ((leastAt l : Nat) : Int) := by
  intro d
  induction d with
  | zero =>
   intro i hi
   obtain rfl : i = l.length := by omega
   refine Ev.step (f := fun _ => some ((leastAt l : Nat) : Int)) (fun k => ?_) (Ev.now _)
   simp only [rot_least.l0]
   rw [if_neg (by omega)]
   rfl
  | succ d ih =>
   intro i hi
   have h1 := leastTo_le l i
   refine Ev.step (fun k => ?_) (ih (i + 1) (by omega))
   simp only [rot_least.l0]
   rw [if_pos (by omega), if_pos (by omega), if_pos (by omega), if_pos (by omega), if_pos (by omega), gi_rd, gi_rd, w1 (by omega)]
   show _ = rot_least.l0 k l ((if gi l i < gi l (leastTo l i) then i else leastTo l i : Nat) : Int) l (l.length : Int) _
   by_cases c : gi l i < gi l (leastTo l i)
   ·rw [if_pos c, if_pos c]
   ·rw [if_neg c, if_neg c]
 exact loop l.length 0 (by omega)
theorem least_lt (l : List Int) : leastAt l < l.length ∨ l.length = 0 ∧ leastAt l = 0 := by
 rcases Nat.eq_zero_or_pos l.length with h | h
 ·right; exact ⟨h, by unfold leastAt; rw [h]; rfl⟩
 ·left; exact leastTo_lt l h
theorem all_ev {α β : Type} {g : Nat → α → Option β} {v : α → β} : ∀ (L : List α), (∀ x ∈ L, Ev (fun k => g k x) (v x)) → ∃ K, ∀ k, K ≤ k → ∀ x ∈ L, g k x = some (v x)
 | [], _ => ⟨0, fun k _ x hx => by cases hx⟩
 | x :: L, h => by
  obtain ⟨K1, h1⟩ := h x (List.mem_cons_self ..)
  obtain ⟨K2, h2⟩ := all_ev L (fun y hy => h y (List.mem_cons_of_mem _ hy))
  refine ⟨max K1 K2, fun k hk y hy => ?_⟩
  rcases List.mem_cons.1 hy with rfl | hy
  ·exact h1 k (by omega)
  ·exact h2 k (by omega) y hy
theorem canon_ev {r : List (List Int)} (h : Small r) : Ev (fun k => rot_Canon.f k r) (r.map turnl) := by
 obtain ⟨K, hK⟩ := all_ev (g := rot_least.f) (v := fun l => ((leastAt l : Nat) : Int)) r (fun l hl => least_ev (by have := h.2 l hl; omega))
 refine ⟨K, fun k hk => ?_⟩
 show rot_Canon.f k r = _
 unfold rot_Canon.f
 rw [if_pos]
 unfold rot_Canon.fit
 have h1 := h.1
 rw [Bool.and_eq_true, List.all_eq_true, decide_eq_true_eq]
 refine ⟨by omega, fun l hl => ?_⟩
 have h2 := h.2 l hl
 rw [Bool.and_eq_true, beq_iff_eq, decide_eq_true_eq]
 exact ⟨hK k hk l hl, by omega⟩
theorem map_take {r : List (List Int)} (f : List Int → List Int) {i : Nat} (h : i < r.length) : (r.map f).take i ++ [f (gl r i)] = (r.map f).take (i + 1) := by
 rw [List.take_succ_eq_append_getElem (by simpa using h), List.getElem_map, gl_get h]
theorem refcanon_ev {r : List (List Int)} (h : Small r) : Ev (fun k => tangramref11_Canon.f k r) (r.map turnl) := by
 have hr := h.1
 have loop : ∀ (d i : Nat), i + d = r.length → Ev (fun k => tangramref11_Canon.l0 k r ((r.map turnl).take i) (i : Int)) (r.map turnl) := by
  intro d
  induction d with
  | zero =>
   intro i hi
   refine Ev.step (f := fun _ => some (r.map turnl)) (fun k => ?_) (Ev.now _)
   simp only [tangramref11_Canon.l0]
   rw [if_neg (by omega), List.take_of_length_le (by simp; omega)]
  | succ d ih =>
   intro i hi
   have hi2 : i < r.length := by omega
   have hb := h.at hi2
   have hlen : ((r.map turnl).take i).length = i := by simp; omega
   obtain ⟨X, hX⟩ : ∃ X, X = (r.map turnl).take i := ⟨_, rfl⟩
   have hT : Ev (fun k => (tangramref11_Turned.f k (gl r i) ((leastAt (gl r i) : Nat) : Int)).bind fun t => if X.length < 5864062014805 then tangramref11_Canon.l0 k r (X ++ [t]) ((i + 1 : Nat) : Int) else none) (r.map turnl) := by
    refine Ev.bind (turned_ev hb (least_lt _)) ?_
    refine Ev.congr (fun k => ?_) (ih (i + 1) (by omega))
    rw [if_pos (by rw [hX, hlen]; omega), hX, ← map_take turnl hi2]
    rfl
   have row : ∀ (e j : Nat), j + e = (gl r i).length → Ev (fun k => tangramref11_Canon.l1 k r X (i : Int) ((leastTo (gl r i) j : Nat) : Int) (j : Int)) (r.map turnl) := by
    intro e
    induction e with
    | zero =>
     intro j hj
     obtain rfl : j = (gl r i).length := by omega
     refine Ev.step (fun k => ?_) hT
     simp only [tangramref11_Canon.l1]
     rw [if_pos (by omega), if_pos (by omega), rd_L, if_neg (by omega), w1 (by omega)]
     rfl
    | succ e ih2 =>
     intro j hj
     have h1 := leastTo_le (gl r i) j
     refine Ev.step (fun k => ?_) (ih2 (j + 1) (by omega))
     simp only [tangramref11_Canon.l1]
     rw [if_pos (by omega), if_pos (by omega), rd_L, if_pos (by omega), if_pos (by omega), if_pos (by omega), if_pos (by omega), gi_rd, gi_rd, w1 (by omega)]
     show _ = tangramref11_Canon.l1 k r X (i : Int) ((if gi (gl r i) j < gi (gl r i) (leastTo (gl r i) j) then j else leastTo (gl r i) j : Nat) : Int) _
     by_cases c : gi (gl r i) j < gi (gl r i) (leastTo (gl r i) j)
     ·rw [if_pos c, if_pos c]
     ·rw [if_neg c, if_neg c]
   rw [← hX]
   refine Ev.step (fun k => ?_) (row (gl r i).length 0 (by omega))
   simp only [tangramref11_Canon.l0]
   rw [if_pos (by omega)]
   rfl
 exact loop r.length 0 (by omega)
theorem Small.turn {r : List (List Int)} (h : Small r) : Small (r.map turnl) := by
 refine ⟨by rw [List.length_map]; exact h.1, fun l hl => ?_⟩
 obtain ⟨x, hx, rfl⟩ := List.mem_map.1 hl
 rw [turnl_length]
 exact h.2 x hx
theorem Small.rev {r : List (List Int)} (h : Small r) : Small (r.map List.reverse) := by
 refine ⟨by rw [List.length_map]; exact h.1, fun l hl => ?_⟩
 obtain ⟨x, hx, rfl⟩ := List.mem_map.1 hl
 rw [List.length_reverse]
 exact h.2 x hx
theorem gi_reverse {l : List Int} {p : Nat} (h : p < l.length) : gi l.reverse p = gi l (l.length - 1 - p) := by
 rw [gi_get (by simpa using h), gi_get (by omega), List.getElem_reverse]
theorem reverse_ev {l : List Int} (hl : l.length * 8 ≤ 140737488355328) : Ev (fun k => slices_Reverse_int_int.f k l) l.reverse := by
 have loop : ∀ (d i : Nat) (x : List Int), l.length ≤ i + d → x.length = l.length → (∀ p, p < l.length → gi x p = if p < i ∨ l.length - i ≤ p then gi l (l.length - 1 - p) else gi l p) → Ev (fun k => slices_Reverse_int_int.l0 k x (i : Int) ((l.length : Int) - 1 - (i : Int))) l.reverse := by
  have last : ∀ (i : Nat) (x : List Int), ¬ ((i : Int) < (l.length : Int) - 1 - (i : Int)) → x.length = l.length → (∀ p, p < l.length → gi x p = if p < i ∨ l.length - i ≤ p then gi l (l.length - 1 - p) else gi l p) → Ev (fun k => slices_Reverse_int_int.l0 k x (i : Int) ((l.length : Int) - 1 - (i : Int))) l.reverse := by
   intro i x hc hx hp
   have e : x = l.reverse := by
    refine gi_ext (by simpa using hx) fun p hpl => ?_
    rw [hp p (by omega), gi_reverse (by omega)]
    by_cases c : p < i ∨ l.length - i ≤ p
    ·rw [if_pos c]
    ·rw [if_neg c]; congr 1; omega
   rw [← e]
   refine Ev.step (f := fun _ => some x) (fun k => ?_) (Ev.now _)
   simp only [slices_Reverse_int_int.l0]
   rw [if_neg hc]
  intro d
  induction d with
  | zero => intro i x hi hx hp; exact last i x (by omega) hx hp
  | succ d ih =>
   intro i x hi hx hp
   by_cases hc : (i : Int) < (l.length : Int) - 1 - (i : Int)
   ·have hj : (l.length : Int) - 1 - (i : Int) = ((l.length - 1 - i : Nat) : Int) := by omega
    have hI := ih (i + 1) ((x.set i (gi x (l.length - 1 - i))).set (l.length - 1 - i) (gi x i)) (by omega) (List.length_set.trans (List.length_set.trans hx)) (fun p hpl => by
     rw [gi_set, gi_set, List.length_set, hx]
     by_cases c1 : l.length - 1 - i = p
     ·subst c1
      rw [if_pos ⟨rfl, hpl⟩, if_pos (by omega), hp i (by omega), if_neg (by omega)]
      congr 1; omega
     ·rw [if_neg (fun q => c1 q.1)]
      by_cases c2 : i = p
      ·subst c2
       rw [if_pos ⟨rfl, hpl⟩, if_pos (by omega), hp _ (by omega), if_neg (by omega)]
      ·rw [if_neg (fun q => c2 q.1), hp p hpl]
       by_cases c3 : p < i ∨ l.length - i ≤ p
       ·rw [if_pos c3, if_pos (by omega)]
       ·rw [if_neg c3, if_neg (by omega)])
    refine Ev.step (fun k => ?_) hI
    simp only [slices_Reverse_int_int.l0]
    rw [if_pos hc, hj, if_pos (by omega), if_pos (by omega), if_pos (by omega), if_pos (by omega), gi_rd, gi_rd, w1 (by omega), IntWalk.wrap64_in _ (by omega), Int.toNat_natCast, Int.toNat_natCast, show ((l.length - 1 - i : Nat) : Int) - 1 = (l.length : Int) - 1 - ((i + 1 : Nat) : Int) by omega]
   ·exact last i x hc hx hp
 unfold slices_Reverse_int_int.f
 have key := loop l.length 0 l (by omega) rfl (fun p hp => by rw [if_neg (by omega)])
 refine Ev.congr (fun k => ?_) key
 rw [IntWalk.wrap64_in _ (by omega), show (l.length : Int) - 1 - ((0 : Nat) : Int) = (l.length : Int) - 1 by omega]
 rfl
theorem mirror_ev {r : List (List Int)} (h : Small r) : Ev (fun k => rot_Mirror.f k r) ((r.map List.reverse).map turnl) := by
 obtain ⟨K1, h1⟩ := all_ev (g := fun k l => rot_least.f k (List.reverse l)) (v := fun l => ((leastAt l.reverse : Nat) : Int)) r (fun l hl => least_ev (by have := h.2 l hl; rw [List.length_reverse]; omega))
 obtain ⟨K2, h2⟩ := all_ev (g := slices_Reverse_int_int.f) (v := List.reverse) r (fun l hl => reverse_ev (by have := h.2 l hl; omega))
 refine ⟨max K1 K2, fun k hk => ?_⟩
 show rot_Mirror.f k r = _
 unfold rot_Mirror.f
 rw [if_pos]
 unfold rot_Mirror.fit
 have h3 := h.1
 rw [Bool.and_eq_true, List.all_eq_true, decide_eq_true_eq]
 refine ⟨by omega, fun l hl => ?_⟩
 have h4 := h.2 l hl
 rw [Bool.and_eq_true, Bool.and_eq_true, beq_iff_eq, beq_iff_eq, decide_eq_true_eq]
 exact ⟨h1 k (by omega) l hl, h2 k (by omega) l hl, by omega⟩
end Go.Proofs.Ytkkhhbegeboonaa.Rot
namespace Go.Proofs.Ytkkhhbegeboonaa.Open
open Go.RowKit Go.Proofs.YtkkhhbegeboonaaW.PrintWords Go.Proofs.YtkkhhbegeboonaaW.PrintLast Go.Proofs.YtkkhhbegeboonaaW.PrintMore Go.ChangeShapes Go.WideShapes Go.Deep
set_option linter.unusedVariables false
set_option linter.unusedSimpArgs false
def OpensB {α : Type} (P : Program) (t : TypeId) (d : Kd α) (good : α → Prop) (bulk : α → Nat) : Prop :=
 ∀ {H : Type} (enc : TypeId × Value → H) (w : World) (fuel : Nat) (cs : List Value) (x : DataW H × List MemPlace),
  DataW.trod enc P w 0 (fun _ => true) true fuel t cs = some x → (x.1.weights P t).all (· ≤ reachBytes) = true → ∃ v, d.K w v cs ∧ good v ∧ bulk v ≤ Rows.uptoBulk x.1
def sumOf {α : Type} (f : α → Nat) : List α → Nat
 | [] => 1
 | a :: l => f a + sumOf f l
section
variable {P : Program} {α β : Type}
theorem opensB_int {t : TypeId} (ht : P.underlying t = some (.int .i64)) : OpensB P t (Kd.int .i64) I64 (fun _ => 1) := by
 intro H enc w fuel cs x h hw
 obtain ⟨v, h1, h2⟩ := opens_int ht enc w fuel cs x h hw
 refine ⟨v, h1, h2, ?_⟩
 cases x.1 with
 | lit l => cases l <;> simp [Rows.uptoBulk]
 | nil => simp [Rows.uptoBulk]
 | ptr d => simp [Rows.uptoBulk]
 | slice elems spare => simp [Rows.uptoBulk]
 | agg parts => simp [Rows.uptoBulk]
 | iface t d => simp [Rows.uptoBulk]
 | map entries => simp [Rows.uptoBulk]
 | held h => simp [Rows.uptoBulk]
theorem sumOf_range {H : Type} (bulk : α → Nat) (D : Nat → DataW H) (q : Nat → α) : ∀ l : List Nat, (∀ i ∈ l, bulk (q i) ≤ Rows.uptoBulk (D i)) → sumOf bulk (l.map q) ≤ Rows.uptoBulkAll (l.map D) + 1
 | [], _ => by simp [sumOf, Rows.uptoBulkAll]
 | a :: l, h => by
  have h1 := h a (by simp)
  have h2 := sumOf_range bulk D q l (fun i hi => h i (by simp [hi]))
  simp only [List.map_cons, sumOf, Rows.uptoBulkAll]
  omega
theorem opensB_slice {t e : TypeId} {d : Kd α} {good : α → Prop} {bulk : α → Nat} {B : Nat} (ht : P.underlying t = some (.slice e)) (hc : P.cellsOf e = d.sz) (hB : P.bytesOf e = B) (ho : OpensB P e d good bulk) (dflt : α) :
  OpensB P t (Kd.slice e d) (fun xs => xs.length * B ≤ 140737488351232 ∧ ∀ x ∈ xs, good x) (sumOf bulk) := by
 intro H enc w fuel cs x h hwt
 rcases open_slice ht h with ⟨rfl, rfl⟩ | ⟨a, len, cap, m, n, D, Pl, rfl, hb, hl, hm, hmm, rfl, hx⟩
 ·exact ⟨[], ⟨none, 0, rfl, Nat.le_refl _, rfl, by simp, fun h => absurd h (by simp)⟩, by simp, by simp [sumOf, Rows.uptoBulk]⟩
 ·simp only [if_true] at hmm
  subst hmm
  unfold DataW.weights at hwt
  rw [ht] at hwt
  simp only [List.all_cons, List.all_append, Bool.and_eq_true, decide_eq_true_eq, List.length_map, List.length_range, hB] at hwt
  obtain ⟨hw1, hw2, _⟩ := hwt
  have each : ∀ i, i < len → ∃ v : α × List Value, v.2.length = d.sz ∧ d.K w v.1 v.2 ∧ (good v.1 ∧ bulk v.1 ≤ Rows.uptoBulk (D i)) ∧ ∀ k u, v.2[k]? = some u → w.cell? (a.add (i * d.sz + k)) = some u := by
   intro i hi
   obtain ⟨cs', h1, h2⟩ := hx i (by omega)
   rw [hc] at h1
   obtain ⟨_, hlen, hcell⟩ := World.cells?_some h1
   obtain ⟨v, hv, hg⟩ := ho enc w n cs' _ h2 (weightsAll_mem hw2 (List.mem_map.2 ⟨i, List.mem_range.2 hi, rfl⟩))
   refine ⟨(v, cs'), hlen, hv, hg, fun k u hk => ?_⟩
   have hk2 : k < d.sz := by
    have hk3 : k < cs'.length := (List.getElem?_eq_some_iff.1 hk).1
    omega
   have := hcell k hk2
   rw [Go.Deep.add_add] at this
   rw [this]; exact hk
  haveI : Inhabited (α × List Value) := ⟨(dflt, [])⟩
  obtain ⟨q, hq⟩ := choose_lt each
  have hlen : ((List.range len).map fun i => (q i).1).length = len := by simp
  have hget : ∀ j p, ((List.range len).map fun i => (q i).1)[j]? = some p → j < len ∧ p = (q j).1 := by
   intro j p hj
   rw [List.getElem?_map] at hj
   by_cases hjl : j < len
   ·rw [List.getElem?_range hjl] at hj
    exact ⟨hjl, by simpa using hj.symm⟩
   ·rw [List.getElem?_eq_none (by simp; omega)] at hj; simp at hj
  refine ⟨(List.range len).map fun i => (q i).1, ⟨some a, m, by rw [hlen], by rw [hlen]; exact hl, by rw [hlen], ?_, fun _ => ⟨a, rfl, fun j p hj => ?_⟩⟩, ⟨?_, ?_⟩, ?_⟩
  ·rw [hlen]; unfold maxLen at hm; omega
  ·obtain ⟨hjl, rfl⟩ := hget j p hj
   exact ⟨(q j).2, (hq j hjl).1, (hq j hjl).2.1, (hq j hjl).2.2.2⟩
  ·rw [hlen]
   have h5 : len * B ≤ (len + (m - len)) * B := Nat.mul_le_mul_right _ (by omega)
   have h6 : reachBytes = 140737488351232 := rfl
   omega
  ·intro v hv
   obtain ⟨i, hi, rfl⟩ := List.mem_map.1 hv
   exact (hq i (List.mem_range.1 hi)).2.2.1.1
  ·have h1 := sumOf_range bulk D (fun i => (q i).1) (List.range len) (fun i hi => (hq i (List.mem_range.1 hi)).2.2.1.2)
   simp only [Rows.uptoBulk]
   omega
theorem open_argB {H : Type} {enc : TypeId × Value → H} {w : World} {t : TypeId} {d : Kd α} {good : α → Prop} {bulk : α → Nat} {v : Value} {dd : DataW H} {ps : List MemPlace} (ho : OpensB P t d good bulk) (h : DataW.Trod enc P w 0 (fun _ => true) true t v dd ps)
  (hw : (dd.weights P t).all (· ≤ reachBytes) = true) : ∃ x, d.K w x v.cells.toList ∧ good x ∧ bulk x ≤ Rows.uptoBulk dd := by
 obtain ⟨fuel, hf⟩ := h
 exact ho enc w fuel _ _ hf hw
theorem bulk_at {H : Type} {d : DataW H} {l : List (DataW H)} (h : d ∈ l) (hk : Rows.uptoSmall H l = true) : Rows.uptoBulk d ≤ 1048576 := by
 have h1 : Rows.uptoBulkAll l ≤ 1048576 := of_decide_eq_true hk
 have : ∀ l : List (DataW H), d ∈ l → Rows.uptoBulk d ≤ Rows.uptoBulkAll l := by
  intro l
  induction l with
  | nil => intro h; cases h
  | cons x r ih =>
   intro h
   simp only [Rows.uptoBulkAll]
   rcases List.mem_cons.1 h with e | e
   ·subst e; omega
   ·have := ih e; omega
 exact Nat.le_trans (this l h) h1
end
end Go.Proofs.Ytkkhhbegeboonaa.Open
namespace Go.Proofs.Ytkkhhbegeboonaa.Rot
open Go.RowKit Go.Proofs.YtkkhhbegeboonaaW.PrintWords Go.Proofs.YtkkhhbegeboonaaW.PrintLast Go.Proofs.YtkkhhbegeboonaaW.PrintMore Go.Proofs.Ytkkhhbegeboonaa.GAll Go.Proofs.Ytkkhhbegeboonaa.Mem
set_option linter.unusedVariables false
set_option linter.unusedSimpArgs false
theorem from_ev {n : Nat} {l : List Ed} {r : List (List Int)} (hG : PureV.Good (n : Int) l) (hb : Ev (fun k => simple_Valid.f k (n : Int) l) true) (hs : ∀ row ∈ r, row.length * 8 ≤ 140737488351232) (hi : ∀ x ∈ r, ∀ y ∈ x, InI y) (hl : r.length = n) :
  ∃ ds, (∀ v, v < n → gi ds v = ((leaving (frs l) v).length : Int)) ∧ Ev (fun k => rot_From.f k (n : Int) l r) (rot_From.res (fromRows (halfOf (ends l)) ds 0 r [])) := by
 obtain ⟨ds, hd, g1, g2⟩ := degrees_ev hG hb
 refine ⟨ds, g2, ?_⟩
 unfold rot_From.f
 refine Ev.bind hb (Ev.congr (fun k => by rw [if_pos rfl, if_pos (by omega)]) (Ev.bind hd (Ev.congr (fun k => ?_) (Ev.now _))))
 unfold rot_From.told
 rw [if_pos]
 ·rfl
 ·unfold rot_From.fit
  have h1 := hG.2.1
  have h2 := hG.2.2.1
  rw [Bool.and_eq_true, Bool.and_eq_true, List.all_eq_true, List.all_eq_true, decide_eq_true_eq]
  refine ⟨⟨hG.1, h1, h2, by simp only; omega, rfl⟩, fun x hx => ?_, fun row hrow => ?_⟩
  ·obtain ⟨i, hi2, rfl⟩ := List.getElem_of_mem hx
   obtain ⟨⟨a, b, c⟩, _⟩ := hG.2.2.2 i hi2
   have e : PureV.rdE l (i : Nat) = l[i] := by
    show l.getD ((i : Int).toNat) _ = _
    rw [Int.toNat_natCast, List.getD_eq_getElem?_getD, List.getElem?_eq_getElem hi2]
    rfl
   rw [e] at a b c
   rw [decide_eq_true_eq]
   exact ⟨⟨by omega, by omega⟩, ⟨by omega, by omega⟩⟩
  ·rw [Bool.and_eq_true, List.all_eq_true, decide_eq_true_eq]
   exact ⟨hs row hrow, fun u hu => decide_eq_true (hi row hrow u hu)⟩
theorem from_no {n : Int} {l : List Ed} {r : List (List Int)} (hb : Ev (fun k => simple_Valid.f k n l) true) (hl : (r.length : Int) ≠ n) : Ev (fun k => rot_From.f k n l r) ([], 0, 110) := by
 unfold rot_From.f
 exact Ev.bind hb (Ev.congr (fun k => by rw [if_pos rfl, if_neg hl]) (Ev.now _))
theorem bulk_one (x : List Int) : Open.sumOf (fun _ => 1) x = x.length + 1 := by
 induction x with
 | nil => rfl
 | cons a x ih => show 1 + Open.sumOf _ x = _; rw [ih]; simp; omega
theorem bulk_two : ∀ r : List (List Int), r.length + 1 ≤ Open.sumOf (Open.sumOf (fun _ => 1)) r ∧ ∀ x ∈ r, x.length + 1 ≤ Open.sumOf (Open.sumOf (fun _ => 1)) r
 | [] => ⟨Nat.le_refl _, fun x h => by simp at h⟩
 | a :: r => by
  obtain ⟨h1, h2⟩ := bulk_two r
  have e : Open.sumOf (Open.sumOf (fun _ => 1)) (a :: r) = a.length + 1 + Open.sumOf (Open.sumOf (fun _ => 1)) r := by
   show Open.sumOf _ a + _ = _
   rw [bulk_one]
  rw [e]
  refine ⟨by simp; omega, fun x hx => ?_⟩
  rcases List.mem_cons.1 hx with rfl | hx
  ·omega
  ·have := h2 x hx; omega
theorem alike_rows {r : List (List Int)} (hb : ∀ x ∈ r, x.length ≤ 1048576) : ∃ K, ∀ k, K ≤ k → ∀ v, v < r.length → tangramref11_Alike.f k (gl r v) (gl r v) = some true := by
 obtain ⟨K, h⟩ := all_ev (g := fun k x => tangramref11_Alike.f k x x) (v := fun _ => true) r (fun x hx => by
  have := alike_ev (a := x) (b := x) (by have := hb x hx; omega)
  rw [decide_eq_true rfl] at this
  exact this)
 exact ⟨K, fun k hk v hv => h k hk _ (gl_mem hv)⟩
theorem around_rows {fr : List Int} {r : List (List Int)} (hb : ∀ x ∈ r, x.length ≤ 1048576) : ∀ x ∈ aroundOf fr r, x.length ≤ 9000000 := by
 intro x hx
 obtain ⟨v, hv, rfl⟩ := List.getElem_of_mem hx
 have hvr : v < r.length := by rw [aroundOf_length] at hv; exact hv
 have e : (aroundOf fr r)[v] = gl (aroundOf fr r) v := by unfold gl; rw [List.getD_eq_getElem?_getD, List.getElem?_eq_getElem hv]; rfl
 rw [e, aroundOf_row hvr, List.length_map]
 have := hb _ (gl_mem hvr)
 omega
theorem rm_ev (n : Int) (l : List Ed) (r : List (List Int)) (hs : Small r) (hrl : r.length ≤ 1048576) (hrb : ∀ x ∈ r, x.length ≤ 1048576) :
  ∃ nx e1 want e bk vb eb k, EJ.RM k n l r nx e1 want e bk vb eb (r.map turnl) ((r.map List.reverse).map turnl) := by
 have hrev : Small (r.map List.reverse) := hs.rev
 obtain ⟨K1, k1⟩ := canon_ev hs
 obtain ⟨K2, k2⟩ := refcanon_ev hs
 obtain ⟨K3, k3⟩ := mirror_ev hs
 have q1 := equal_ev (x := r.map turnl) (y := r.map turnl) hs.turn
 rw [decide_eq_true rfl] at q1
 obtain ⟨K4, k4⟩ := q1
 have q2 := equal_ev (x := r) (y := r) hs
 rw [decide_eq_true rfl] at q2
 obtain ⟨K5, k5⟩ := q2
 obtain ⟨K6, k6⟩ := alike_rows hrb
 have hcb : ∀ x ∈ r.map turnl, x.length ≤ 9000000 := fun x hx => by
  obtain ⟨y, hy, rfl⟩ := List.mem_map.1 hx
  rw [turnl_length]
  have := hrb y hy
  omega
 have hmb : ∀ x ∈ (r.map List.reverse).map turnl, x.length ≤ 9000000 := fun x hx => by
  obtain ⟨y, hy, rfl⟩ := List.mem_map.1 hx
  obtain ⟨z, hz, rfl⟩ := List.mem_map.1 hy
  rw [turnl_length, List.length_reverse]
  have := hrb z hz
  omega
 have hrb2 : ∀ x ∈ r, x.length ≤ 9000000 := fun x hx => by have := hrb x hx; omega
 have fin : ∀ {nx : List Int} {e1 : Int} {want : List (List Int)} {e : Int} {bk : List (List Int)} {vb eb : Int}, Ev (fun k => rot_Next.f k n l r) (nx, e1) → Ev (fun k => rot_Around.f k n l r) (want, e) → Ev (fun k => tangramref11_Around.f k n l r) (want, e) → Ev (fun k => rot_From.f k n l want) (bk, vb, eb) → (e = 0 → bk = r) → Small want → want.length ≤ r.length → bk.length ≤ r.length → nx.length ≤ 9000000 → (∀ x ∈ want, x.length ≤ 9000000) → (∀ x ∈ bk, x.length ≤ 9000000) →
   ∃ nx e1 want e bk vb eb k, EJ.RM k n l r nx e1 want e bk vb eb (r.map turnl) ((r.map List.reverse).map turnl) := by
  intro nx e1 want e bk vb eb h1 h2 h3 h4 h5 h6 h7 h8 h9 h10 h11
  have q3 := equal_ev (x := want) (y := want) h6
  rw [decide_eq_true rfl] at q3
  obtain ⟨L1, l1⟩ := h1
  obtain ⟨L2, l2⟩ := h2
  obtain ⟨L3, l3⟩ := h3
  obtain ⟨L4, l4⟩ := h4
  obtain ⟨L5, l5⟩ := q3
  obtain ⟨k, hk⟩ : ∃ k, k = K1 + K2 + K3 + K4 + K5 + K6 + L1 + L2 + L3 + L4 + L5 := ⟨_, rfl⟩
  exact ⟨nx, e1, want, e, bk, vb, eb, k, ⟨l1 _ (by omega), l2 _ (by omega), l3 _ (by omega), l4 _ (by omega), h5, k1 _ (by omega), k2 _ (by omega), k3 _ (by omega), l5 _ (by omega), k4 _ (by omega), k5 _ (by omega), k6 _ (by omega), h7, h8, by simp, by simp, h9, h10, h11, hcb, hmb, hrl, fun v hv => hrb _ (gl_mem hv)⟩⟩
 obtain ⟨b, hb, _, hg⟩ := PureV.valid n l
 obtain ⟨res, c1, c2, c3, c4⟩ := both_check n l r hs
 by_cases h0 : res.2 = 0
 ·obtain ⟨N, rfl, hG, hR⟩ := c4.1 h0
  rw [c3 h0] at c1 c2
  rw [hg.2 hG] at hb
  obtain ⟨nx, hn, hnx⟩ := next_ev hG hR c1
  have has := around_small hG hR
  have hal : (aroundOf (frs l) r).length = N := by rw [aroundOf_length]; exact hR.len
  have hin : ∀ x ∈ aroundOf (frs l) r, ∀ y ∈ x, InI y := by
   intro x hx y hy
   obtain ⟨v, hv, rfl⟩ := List.getElem_of_mem hx
   have hvr : v < r.length := by rw [aroundOf_length] at hv; exact hv
   have e : (aroundOf (frs l) r)[v] = gl (aroundOf (frs l) r) v := by unfold gl; rw [List.getD_eq_getElem?_getD, List.getElem?_eq_getElem hv]; rfl
   rw [e, aroundOf_row hvr] at hy
   obtain ⟨h, hh, rfl⟩ := List.mem_map.1 hy
   obtain ⟨j, hj, rfl⟩ := mem_gi hh
   have hv2 : v < N := by rw [← hR.len]; exact hvr
   have ht := twin_row hG hR hv2 hj
   have hfr := frs_range hG (h := (twin (gi (gl r v) j)).toNat) (by omega)
   have := hG.2.1
   unfold InI; omega
  obtain ⟨ds, hd, hf⟩ := from_ev (r := aroundOf (frs l) r) hG hb (fun row hrow => has.2 row hrow) hin hal
  have key := from_around hG hR hd N 0 [] (by omega)
  rw [List.drop_zero, List.drop_zero, List.nil_append] at key
  rw [key] at hf
  have hll := hG.2.2.1
  exact fin hn (around_ev hG hR c1) (refaround_ev hG hR c2) hf (fun _ => rfl) has (by rw [hal, hR.len]; exact Nat.le_refl _) (Nat.le_refl _) (by have := hnx.1; omega) (around_rows hrb) hrb2
 ·have hz : Small ([] : List (List Int)) := ⟨by simp, fun x h => by simp at h⟩
  have hzz : ∀ x ∈ ([] : List (List Int)), x.length ≤ 9000000 := fun x h => by simp at h
  have hfrom : ∃ vb eb, Ev (fun k => rot_From.f k n l []) (([] : List (List Int)), vb, eb) := by
   cases b with
   | false =>
    refine ⟨0, 1, ?_⟩
    unfold rot_From.f
    exact Ev.bind hb (Ev.congr (fun k => if_neg (by decide)) (Ev.now _))
   | true =>
    have hG := hg.1 rfl
    obtain ⟨N, rfl⟩ := Int.eq_ofNat_of_zero_le hG.1
    by_cases hN : N = 0
    ·subst hN
     obtain ⟨ds, hd, hf⟩ := from_ev (r := []) hG hb (fun row hrow => by simp at hrow) (fun x hx => by simp at hx) rfl
     exact ⟨0, 0, hf⟩
    ·exact ⟨0, 110, from_no hb (by simp; omega)⟩
  obtain ⟨vb, eb, hf⟩ := hfrom
  exact fin (next_no c1 h0) (around_no c1 h0) (refaround_no c2 h0) hf (fun h => absurd h h0) hz (by simp) (by simp) (by simp) hzz hzz
theorem RotMemory (a0_0 : Int) (A0_1 : Option Addr) (c0_1 : Nat) (l0_1 : List Ed) (A1 : Option Addr) (c1 : Nat) (l1 : List (List Int)) (w : World) (hr0_1 : Kd.C k59 w A0_1 l0_1.length l0_1) (hc0_1 : l0_1.length ≤ c0_1) (hr1 : Kd.C (Kd.slice 3 (Kd.int .i64)) w A1 l1.length l1) (hc1 : l1.length ≤ c1)
  (g0 : Open.I64 a0_0 ∧ l0_1.length * 16 ≤ 140737488351232 ∧ ∀ x ∈ l0_1, Open.I64 x.f0 ∧ Open.I64 x.f1)
  (g1 : (l1.length * 24 ≤ 140737488351232 ∧ ∀ x ∈ l1, x.length * 8 ≤ 140737488351232 ∧ ∀ y ∈ x, Open.I64 y) ∧ Open.sumOf (Open.sumOf (fun _ => 1)) l1 ≤ 1048576) :
  Calls Try.prog 9 #[.agg #[.int .i64 a0_0, .slice A0_1 l0_1.length c0_1], .slice A1 l1.length c1] w fun e w' => e = .returned (.bool true) ∧ Below w.heap.size w w' := by
 obtain ⟨g1, gb⟩ := g1
 obtain ⟨h1, h2⟩ := bulk_two l1
 obtain ⟨nx, e1, want, e, bk, vb, eb, k, hm⟩ := rm_ev a0_0 l0_1 l1 ⟨g1.1, fun l hl => (g1.2 l hl).1⟩ (by omega) (fun x hx => by have := h2 x hx; omega)
 exact EJ.mem_walk k a0_0 A0_1 c0_1 l0_1 A1 c1 l1 w hr0_1 hc0_1 hr1 hc1 (by omega) nx e1 want e bk vb eb _ _ hm
end Go.Proofs.Ytkkhhbegeboonaa.Rot
