/- DERIVED. Texts of this seat, one behind the other: lemmas and walks that the statement FacesForest needs. No condition. -/
import Derived.Test.YtmikcfddipldnaaCFacesForestf
import Derived.Test.YtmikcfddipldnaaCFacesForeste
namespace Go.Proofs.Ytmikcfddipldnaa.Rot
open Go.RowKit Go.Proofs.YtmikcfddipldnaaW.PrintWords Go.Proofs.YtmikcfddipldnaaW.PrintLast Go.Proofs.YtmikcfddipldnaaW.PrintMore Go.Proofs.Ytmikcfddipldnaa.GAll Go.Proofs.Ytmikcfddipldnaa.Mem Go.Proofs.Ytmikcfddipldnaa.Ring Go.Proofs.Ytmikcfddipldnaa.Face
set_option linter.unusedVariables false
set_option linter.unusedSimpArgs false
theorem iso_count {n : Nat} {l : List Ed} (hg : PureV.Good (n : Int) l) {ds : List Int} (hd : ds.length = n) (hv : ∀ v, v < n → gi ds v = ((leaving (frs l) v).length : Int)) (d : Nat) : ∀ i : Nat, i + d = n → Ev (fun k => comps_Isolated.l0 k 0 (loneTo l i : Int) ds (ds.length : Int) (i : Int)) (loneTo l n, 0) := by
 have hn := hg.2.1
 induction d with
 | zero =>
   intro i hi
   obtain rfl : i = n := by omega
   refine Ev.step (f := fun _ => some ((loneTo l i : Int), 0)) (fun k => ?_) (Ev.now _)
   simp only [comps_Isolated.l0]
   rw [if_neg (by omega)]
 | succ d ih =>
   intro i hi
   have H := ih (i + 1) (by omega)
   have hle := loneTo_le l i
   have hx := hv i (by omega)
   rw [leaving_cnt, frs_length] at hx
   rw [loneTo_succ] at H
   by_cases c : cnt (frs l) (2 * l.length) (i : Int) = 0
   · rw [if_pos c] at H
     refine Ev.step (fun k => ?_) H
     simp only [comps_Isolated.l0]
     rw [if_pos (by omega), if_pos (by omega), if_pos (by omega), gi_rd, hx, c, if_pos (show ((0 : Nat) : Int) = 0 from rfl), wad (by omega), wad (by omega)]
   · rw [if_neg c] at H
     refine Ev.step (fun k => ?_) H
     simp only [comps_Isolated.l0]
     rw [if_pos (by omega), if_pos (by omega), if_pos (by omega), gi_rd, hx, if_neg (by omega), wad (by omega)]
     rfl
theorem iso_ev {n : Nat} {l : List Ed} (hg : PureV.Good (n : Int) l) : Ev (fun k => comps_Isolated.f k (n : Int) l) ((loneTo l n : Int), 0) := by
 obtain ⟨b, h1, h2, h3⟩ := PureV.valid (n : Int) l
 rw [h3.2 hg] at h1
 obtain ⟨ds, e1, e2, e3⟩ := degrees_ev hg h1
 unfold comps_Isolated.f
 exact Ev.bind e1 (iso_count hg e2 e3 n 0 (by omega))
end Go.Proofs.Ytmikcfddipldnaa.Rot
namespace Go.Proofs.Ytmikcfddipldnaa.Rot
open Go.RowKit Go.Proofs.YtmikcfddipldnaaW.PrintWords Go.Proofs.YtmikcfddipldnaaW.PrintLast Go.Proofs.YtmikcfddipldnaaW.PrintMore Go.Proofs.Ytmikcfddipldnaa.GAll Go.Proofs.Ytmikcfddipldnaa.Mem Go.Proofs.Ytmikcfddipldnaa.Ring Go.Proofs.Ytmikcfddipldnaa.Face Go.Proofs.Ytmikcfddipldnaa.Mk
set_option linter.unusedVariables false
set_option linter.unusedSimpArgs false
theorem rd_eds {es : List (Int × Int)} {i : Nat} (h : i < es.length) : (PureV.rdE (eds es) (i : Nat)).f0 = (pe es i).1 ∧ (PureV.rdE (eds es) (i : Nat)).f1 = (pe es i).2 := by
 have h2 : i < (eds es).length := by rw [eds_length]; exact h
 have e := pe_ends h2
 rw [ends_eds] at e
 rw [e]
 exact ⟨rfl, rfl⟩
theorem forest_good {ps : List Int} {n : Nat} (hn : n ≤ 2000) : PureV.Good (n : Int) (eds (makeL (prs ps n))) ∧ Tree (eds (makeL (prs ps n))) := by
 obtain ⟨es, hes⟩ : ∃ es, es = makeL (prs ps n) := ⟨_, rfl⟩
 have hup := (makeL_up (prs ps n)).1
 have hin : ∀ i, i < es.length → ∃ u v : Nat, pe es i = ((u : Int), (v : Int)) ∧ u < v ∧ v < n := fun i hi => by
   rw [hes] at hi ⊢
   exact edge_in ps hi
 have hmem : ∀ i, i < es.length → ∃ v : Nat, pe es i = (gi ps v, (v : Int)) := fun i hi => by
   have hm : pe es i ∈ makeL (prs ps n) := by
     rw [hes] at hi ⊢
     unfold pe
     rw [List.getD_eq_getElem?_getD, List.getElem?_eq_getElem hi]
     exact List.getElem_mem hi
   obtain ⟨p, hp, hne, e⟩ := ((makeL_up (prs ps n)).2 _).1 hm
   obtain ⟨q, hq, rfl⟩ := List.mem_iff_getElem.1 hp
   obtain ⟨v, h1, h2, h3, h4, e2⟩ := prs_in ps hq
   have e3 : (prs ps n)[q] = (gi ps v, (v : Int)) := by
     have := pe_of hq
     rw [List.getElem?_eq_getElem hq, e2] at this
     exact Option.some.inj this
   rw [e3, norm_lt (by show gi ps v < (v : Int); exact h4)] at e
   exact ⟨v, e.symm⟩
 have hlen : es.length ≤ 2000 := by
   have h1 := makeL_length (prs ps n) (prs ps n).length (Nat.le_refl _)
   rw [List.take_length] at h1
   have h2 := prs_length ps n
   rw [hes]
   omega
 rw [← hes] at hup ⊢
 have hget : ∀ i (h : i < es.length), es[i] = pe es i := fun i h => by
   have := pe_of h
   rw [List.getElem?_eq_getElem h] at this
   exact Option.some.inj this
 have hinj : ∀ i j, i < es.length → j < es.length → pe es i = pe es j → i = j := fun i j hi hj e => by
   have hnd := hup.nodup
   rw [List.nodup_iff_pairwise_ne, List.pairwise_iff_getElem] at hnd
   rcases Nat.lt_trichotomy i j with c | c | c
   · exact absurd (by rw [hget i hi, hget j hj, e]) (hnd i j hi hj c)
   · exact c
   · exact absurd (by rw [hget i hi, hget j hj, e]) (hnd j i hj hi c)
 refine ⟨⟨by omega, by omega, by rw [eds_length]; omega, fun i hi => ?_⟩, fun i j hi hj e => ?_⟩
 · rw [eds_length] at hi
   obtain ⟨u, v, e, h1, h2⟩ := hin i hi
   obtain ⟨a, b⟩ := rd_eds hi
   rw [e] at a b
   refine ⟨⟨by rw [a]; simp only; omega, by rw [a, b]; simp only; omega, by rw [b]; simp only; omega⟩, fun h0 => ?_⟩
   have hi' : i - 1 < es.length := by omega
   obtain ⟨a', b'⟩ := rd_eds hi'
   have hl := (List.pairwise_iff_getElem.1 hup) (i - 1) i hi' hi (by omega)
   rw [hget _ hi', hget _ hi, less_iff] at hl
   unfold PureV.lt
   obtain ⟨a2, b2⟩ := rd_eds hi
   rw [a', b', a2, b2]
   exact hl
 · rw [eds_length] at hi hj
   rw [(rd_eds hi).2, (rd_eds hj).2] at e
   obtain ⟨v, e1⟩ := hmem i hi
   obtain ⟨x, e2⟩ := hmem j hj
   rw [e1, e2] at e
   have : v = x := Int.ofNat.inj e
   exact hinj i j hi hj (by rw [e1, e2, this])
theorem leaveTo_mem (fr : List Int) (k v : Nat) (h : Int) : h ∈ leaveTo fr k v ↔ ∃ x : Nat, h = (x : Int) ∧ x < k ∧ gi fr x = (v : Int) := by
 unfold leaveTo
 rw [List.mem_map]
 constructor
 · rintro ⟨x, hx, rfl⟩
   rw [List.mem_filter, List.mem_range, beq_iff_eq] at hx
   exact ⟨x, rfl, hx.1, hx.2⟩
 · rintro ⟨x, rfl, h1, h2⟩
   exact ⟨x, by rw [List.mem_filter, List.mem_range, beq_iff_eq]; exact ⟨h1, h2⟩, rfl⟩
theorem leaveTo_nodup (fr : List Int) (k v : Nat) : (leaveTo fr k v).Nodup := by
 unfold leaveTo
 have h : ((List.range k).filter fun h => gi fr h == (v : Int)).Nodup := List.Pairwise.filter _ List.nodup_range
 exact List.Pairwise.map _ (fun a b (hab : a ≠ b) e => hab (Int.ofNat.inj e)) h
theorem round_rot {le : List Ed} {n : Nat} {gs : List (List Int)} (h : Round (frs le) n (2 * le.length) gs) : IsRot (frs le) n gs := by
 refine ⟨h.1, fun v hv => (h.2 v hv).nodup_iff.2 (leaveTo_nodup _ _ _), fun v hv x => ?_⟩
 rw [(h.2 v hv).mem_iff, leaveTo_mem]
 unfold leaves
 rw [Bool.and_eq_true, Bool.and_eq_true, decide_eq_true_eq, decide_eq_true_eq, beq_iff_eq, frs_length]
 constructor
 · rintro ⟨y, rfl, h1, h2⟩
   exact ⟨by omega, by omega, by rw [Int.toNat_natCast]; exact h2⟩
 · rintro ⟨h1, h2, h3⟩
   exact ⟨x.toNat, by omega, by omega, h3⟩
theorem map_check {n : Nat} {l : List Ed} {r : List (List Int)} (hm : IsMap n l r) (hs : Small r) : Ev (fun k => rot_Check.f k (n : Int) l r) (0, 0) := by
 obtain ⟨res, h1, _, h3, h4, _⟩ := both_check (n : Int) l r hs
 have h0 := h4.2 ⟨n, rfl, hm.good, hm.rot⟩
 rw [h3 h0] at h1
 exact h1
theorem flat_says {ps : List Int} {n : Nat} (hn : n ≤ 2000) {gs : List (List Int)} (h : Round (frs (eds (makeL (prs ps n)))) n (2 * (makeL (prs ps n)).length) gs) : Flat n (eds (makeL (prs ps n))) gs := by
 obtain ⟨hg, ht⟩ := forest_good (ps := ps) hn
 obtain ⟨le, hle⟩ : ∃ le, le = eds (makeL (prs ps n)) := ⟨_, rfl⟩
 have hlen : le.length = (makeL (prs ps n)).length := by rw [hle, eds_length]
 rw [← hle] at hg ht h ⊢
 rw [← hlen] at h
 have hm : IsMap n le gs := ⟨hg, round_rot h⟩
 have hl2 : le.length ≤ 2000 := by
   have h1 := makeL_length (prs ps n) (prs ps n).length (Nat.le_refl _)
   rw [List.take_length] at h1
   have h2 := prs_length ps n
   omega
 have hs : Small gs := ⟨by rw [h.1]; omega, fun l hl => by
   obtain ⟨v, hv, rfl⟩ := gl_ge hl
   rw [(h.2 v (by rw [← h.1]; exact hv)).length_eq]
   have := leaveTo_length (frs le) (2 * le.length) v
   omega⟩
 have hck := map_check hm hs
 obtain ⟨hf1, hf2⟩ := tree_flat hm ht
 have hpl := parts_le hg
 have hll := lone_le hm
 rw [lone_eq hm] at hf2 hll
 obtain ⟨K1, q1⟩ := copy3_ev (n : Int) le (by omega)
 obtain ⟨K2, q2⟩ := copy11_ev gs hs
 obtain ⟨K3, q3⟩ := comps_ev hg
 obtain ⟨K4, q4⟩ := iso_ev hg
 obtain ⟨K5, q5⟩ := of_ok hm hck
 obtain ⟨K6, q6⟩ := flat_ok hm hck
 rw [hf1] at q6
 exact ⟨K1 + K2 + K3 + K4 + K5 + K6, _, _, _, _, q1 _ (by omega), q2 _ (by omega), q3 _ (by omega), q4 _ (by omega), q5 _ (by omega), q6 _ (by omega), by omega, by omega, by omega⟩
theorem FacesForest (A0 : Option Addr) (c0 : Nat) (l0 : List Int) (A1 : Option Addr) (c1 : Nat) (l1 : List Int) (w : World) (hr0 : Kd.C (Kd.int .i64) w A0 l0.length l0) (hc0 : l0.length ≤ c0) (hr1 : Kd.C (Kd.int .i64) w A1 l1.length l1) (hc1 : l1.length ≤ c1)
   (g0 : l0.length * 8 ≤ 140737488351232 ∧ ∀ x ∈ l0, Open.I64 x) (g1 : l1.length * 8 ≤ 140737488351232 ∧ ∀ x ∈ l1, Open.I64 x) :
   Calls Try.prog 7 #[.slice A0 l0.length c0, .slice A1 l1.length c1] w fun e w' => e = .returned (.bool true) ∧ Below w.heap.size w w' :=
 Mk.forest_walk A0 c0 l0 A1 c1 l1 w hr0 hr1 (by omega) (by omega) (fun hn gs h => flat_says hn h)
end Go.Proofs.Ytmikcfddipldnaa.Rot
