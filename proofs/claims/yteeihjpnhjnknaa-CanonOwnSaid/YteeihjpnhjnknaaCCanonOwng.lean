/- DERIVED. Texts of this seat, one behind the other: lemmas and walks that the statement CanonOwn needs. No condition. -/
import Derived.Test.YteeihjpnhjnknaaCCanonOwnf
namespace Go.Proofs.Yteeihjpnhjnknaa.Rot
open Go.RowKit Go.Proofs.YteeihjpnhjnknaaW.PrintWords Go.Proofs.YteeihjpnhjnknaaW.PrintLast Go.Proofs.YteeihjpnhjnknaaW.PrintMore Go.Proofs.Yteeihjpnhjnknaa.GAll Go.Proofs.Yteeihjpnhjnknaa.Mem Go.Proofs.Yteeihjpnhjnknaa.Seen
set_option linter.unusedVariables false
set_option linter.unusedSimpArgs false
theorem putL_at {n : Nat} {x y : List Int} (hx : ∀ i, i < n → 0 ≤ gi x i ∧ gi x i < (n : Int)) (hinj : ∀ i j, i < n → j < n → gi x i = gi x j → i = j) {i0 v : Nat} (h0 : i0 < n) (hv : gi x i0 = (v : Int)) : ∀ k, k ≤ n → gi (Match.putL x y n k) v = if i0 < k then gi y i0 else 0
 | 0, _ => by
   rw [if_neg (by omega)]
   unfold Match.putL gi
   rw [List.getD_eq_getElem?_getD, List.getElem?_replicate]
   split <;> rfl
 | k + 1, hk => by
   show gi ((Match.putL x y n k).set (gi x k).toNat (gi y k)) v = _
   have hvn := hx i0 h0
   rw [gi_set, putL_at hx hinj h0 hv k (by omega), Match.putL_length]
   by_cases e : k = i0
   · subst e
     rw [if_pos ⟨by omega, by omega⟩, if_pos (by omega)]
   · have := hx k (by omega)
     rw [if_neg (fun q => e (hinj k i0 (by omega) h0 (by rw [hv]; omega)))]
     by_cases c : i0 < k
     · rw [if_pos c, if_pos (by omega)]
     · rw [if_neg c, if_neg (by omega)]
theorem putM_at {m n out : List Int} {v u0 : Nat} (hv : v < out.length) {M : Nat} (h : ∀ u, u < M → (gi m v = gi n u ↔ u = u0)) : ∀ k, k ≤ M → gi (One.putM m n out v k) v = if u0 < k then (u0 : Int) else gi out v
 | 0, _ => by rw [if_neg (by omega)]; rfl
 | k + 1, hk => by
   have ih := putM_at hv h k (by omega)
   unfold One.putM
   by_cases e : gi m v = gi n k
   · rw [if_pos e, gi_set, One.putM_length, if_pos ⟨rfl, hv⟩]
     have := (h k (by omega)).1 e
     rw [if_pos (by omega), this]
   · rw [if_neg e, ih]
     have : k ≠ u0 := fun q => e ((h k (by omega)).2 q)
     by_cases c : u0 < k
     · rw [if_pos c, if_pos (by omega)]
     · rw [if_neg c, if_neg (by omega)]
theorem putM_far {m n out : List Int} {v w : Nat} (hw : w ≠ v) : ∀ k, gi (One.putM m n out v k) w = gi out w
 | 0 => rfl
 | k + 1 => by
   unfold One.putM
   split
   · rw [gi_set, if_neg (fun q => hw q.1.symm), putM_far hw k]
   · exact putM_far hw k
theorem putR_at {m n : List Int} {N M : Nat} {t : Nat → Nat} (h : ∀ v, v < N → t v < M ∧ ∀ u, u < M → (gi m v = gi n u ↔ u = t v)) {v : Nat} (hv : v < N) : ∀ k, k ≤ N → gi (One.putR m n N M k) v = if v < k then (t v : Int) else 0
 | 0, _ => by
   rw [if_neg (by omega)]
   unfold One.putR gi
   rw [List.getD_eq_getElem?_getD, List.getElem?_replicate]
   split <;> rfl
 | k + 1, hk => by
   have ih := putR_at h hv k (by omega)
   unfold One.putR
   by_cases e : k = v
   · subst e
     rw [putM_at (by rw [One.putR_length]; exact hv) (h k hv).2 M (Nat.le_refl _), if_pos (h k hv).1, if_pos (by omega)]
   · rw [putM_far (fun q => e q.symm), ih]
     by_cases c : v < k
     · rw [if_pos c, if_pos (by omega)]
     · rw [if_neg c, if_neg (by omega)]
theorem list_gi {x y : List Int} (hl : x.length = y.length) (h : ∀ v, v < x.length → gi x v = gi y v) : x = y := by
 refine List.ext_getElem hl (fun v h1 h2 => ?_)
 have := h v h1
 unfold gi at this
 rw [List.getD_eq_getElem?_getD, List.getD_eq_getElem?_getD, List.getElem?_eq_getElem h1, List.getElem?_eq_getElem h2] at this
 exact this
theorem put_same {n : Nat} {nx tos nx' tos' : List Int} {root root' : Int} {F G : St} (h : Full n nx tos root F) (k : Full n nx' tos' root' G) : Match.putL F.ord G.ord n n = One.putR F.num G.num n n n := by
 refine list_gi (by rw [Match.putL_length, One.putR_length]) (fun v hv => ?_)
 rw [Match.putL_length] at hv
 have key : ∀ v, v < n → ∃ i, i < n ∧ gi F.num v = (i : Int) ∧ gi F.ord i = (v : Int) := fun v hv => by
   obtain ⟨i, i1, i2, i3⟩ := h.inv.b v hv (h.pos v hv)
   exact ⟨i, by rw [h.ord] at i1; exact i1, i2, i3⟩
 have kk : ∀ v, v < n → (fun v => (gi G.ord (gi F.num v).toNat).toNat) v < n ∧ ∀ u, u < n → (gi F.num v = gi G.num u ↔ u = (fun v => (gi G.ord (gi F.num v).toNat).toNat) v) := fun v hv => by
   obtain ⟨i, i1, i2, i3⟩ := key v hv
   have o := k.inO i i1
   simp only
   rw [i2, Int.toNat_natCast]
   refine ⟨by omega, fun u hu => ⟨fun e => ?_, fun e => ?_⟩⟩
   · obtain ⟨j, j1, j2, j3⟩ := k.inv.b u hu (k.pos u hu)
     rw [j2] at e
     obtain rfl : i = j := by omega
     rw [j3]; rfl
   · rw [e, k.inv.a i (by rw [k.ord]; exact i1)]
 obtain ⟨i, i1, i2, i3⟩ := key v hv
 rw [putL_at h.inO (fun i j a b c => full_inj h a b c) i1 i3 n (Nat.le_refl _), putR_at kk hv n (Nat.le_refl _), if_pos i1, if_pos hv]
 rw [i2, Int.toNat_natCast]
 have := k.inO i i1
 omega
structure Sum (n : Int) (l : List Ed) (r : List (List Int)) (p : Int) (nx tl : List Int) (e a v : Int) : Prop where
 look : Ev (fun k => canon_look.f k n l r) (p, nx, tl, e, a)
 check : Ev (fun k => tangramref11_Check.f k n l r) (v, e)
 one : e = 1 ↔ ¬ PureV.Good n l
 fault : e = 0 → Ev (fun k => tangramref21_Fault.f k n l r) a
 fine : e = 0 → a = 0 → ∃ N : Nat, n = N ∧ p = N ∧ nx = nxOf l r ∧ tl = toOf l ∧ v = 0 ∧ IsMap N l r ∧ parts N l = 1 ∧ 0 < l.length
theorem sum (n : Int) (l : List Ed) (r : List (List Int)) (hs : Small r) : ∃ p nx tl e a v, Sum n l r p nx tl e a v := by
 cases case n l r hs with
 | bad v e h0 h1 hl hc hf => exact ⟨_, _, _, _, _, v, hl, hc, h1, fun q => absurd q h0, fun q => absurd q h0⟩
 | apart hg hl hc hf => exact ⟨_, _, _, _, _, _, hl, hc, ⟨fun q => absurd q (by decide), fun q => absurd hg q⟩, fun _ => hf, fun _ q => absurd q (by decide)⟩
 | fine N hN hm hp h0 hl hc hf => exact ⟨_, _, _, _, _, _, hl, hc, ⟨fun q => absurd q (by decide), fun q => absurd (by rw [hN]; exact hm.good) q⟩, fun _ => hf, fun _ _ => ⟨N, hN, hN, rfl, rfl, rfl, hm, hp, h0⟩⟩
section
variable {n1 : Int} {l1 : List Ed} {r1 : List (List Int)} {n2 : Int} {l2 : List Ed} {r2 : List (List Int)} {p1 : Int} {nx1 tl1 : List Int} {e1 a1 v1 p2 : Int} {nx2 tl2 : List Int} {e2 a2 v2 : Int}
def errOf (e1 e2 a1 a2 : Int) : Int := if e1 = 1 ∨ e2 = 1 then 1 else Match.firstE [e1, e2, a1, a2]
theorem pair_ev (s1 : Sum n1 l1 r1 p1 nx1 tl1 e1 a1 v1) (s2 : Sum n2 l2 r2 p2 nx2 tl2 e2 a2 v2) : Ev (fun k => tangramref21_pairFault.f k n1 l1 r1 n2 l2 r2) (errOf e1 e2 a1 a2) := by
 obtain ⟨b1, _, h1, g1⟩ := PureV.valid n1 l1
 obtain ⟨b2, _, h2, g2⟩ := PureV.valid n2 l2
 unfold tangramref21_pairFault.f errOf
 refine Ev.bind h1 (Ev.bind h2 ?_)
 cases b1 with
 | false =>
   have : e1 = 1 := s1.one.2 (fun q => absurd (g1.2 q) (by decide))
   rw [if_pos (.inl this)]
   exact Ev.congr (fun k => if_neg (by decide)) (Ev.now _)
 | true =>
   cases b2 with
   | false =>
     have : e2 = 1 := s2.one.2 (fun q => absurd (g2.2 q) (by decide))
     rw [if_pos (.inr this)]
     exact Ev.congr (fun k => by rw [if_pos rfl, if_neg (by decide)]) (Ev.now _)
   | true =>
     have k1 : e1 ≠ 1 := fun q => s1.one.1 q (g1.1 rfl)
     have k2 : e2 ≠ 1 := fun q => s2.one.1 q (g2.1 rfl)
     rw [if_neg (fun q => q.elim k1 k2)]
     refine Ev.congr (fun k => by rw [if_pos rfl, if_pos rfl]) (Ev.bind s1.check ?_)
     unfold Match.firstE
     by_cases z1 : e1 = 0
     · rw [if_pos z1]
       refine Ev.congr (fun k => if_pos z1) (Ev.bind s2.check ?_)
       unfold Match.firstE
       by_cases z2 : e2 = 0
       · rw [if_pos z2]
         refine Ev.congr (fun k => if_pos z2) (Ev.bind (s1.fault z1) ?_)
         unfold Match.firstE
         by_cases z3 : a1 = 0
         · rw [if_pos z3]
           refine Ev.congr (fun k => if_pos z3) ?_
           have := s2.fault z2
           unfold Match.firstE Match.firstE
           by_cases z4 : a2 = 0
           · rw [if_pos z4, ← z4]; exact this
           · rw [if_neg z4]; exact this
         · rw [if_neg z3]
           exact Ev.congr (fun k => if_neg z3) (Ev.now _)
       · rw [if_neg z2]
         exact Ev.congr (fun k => if_neg z2) (Ev.now _)
     · rw [if_neg z1]
       exact Ev.congr (fun k => if_neg z1) (Ev.now _)
theorem errOf_zero (h : errOf e1 e2 a1 a2 = 0) : ¬ (e1 = 1 ∨ e2 = 1) ∧ Match.firstE [e1, e2, a1, a2] = 0 ∧ e1 = 0 ∧ e2 = 0 ∧ a1 = 0 ∧ a2 = 0 := by
 unfold errOf at h
 by_cases c : e1 = 1 ∨ e2 = 1
 · rw [if_pos c] at h; exact absurd h (by decide)
 · rw [if_neg c] at h
   refine ⟨c, h, ?_⟩
   simp only [Match.firstE] at h
   by_cases z1 : e1 = 0
   · rw [if_pos z1] at h
     by_cases z2 : e2 = 0
     · rw [if_pos z2] at h
       by_cases z3 : a1 = 0
       · rw [if_pos z3] at h
         by_cases z4 : a2 = 0
         · exact ⟨z1, z2, z3, z4⟩
         · rw [if_neg z4] at h; exact absurd h z4
       · rw [if_neg z3] at h; exact absurd h z3
     · rw [if_neg z2] at h; exact absurd h z2
   · rw [if_neg z1] at h; exact absurd h z1
theorem match_small (n1 : Int) (l1 : List Ed) (r1 : List (List Int)) (n2 : Int) (l2 : List Ed) (r2 : List (List Int)) (hs1 : Small r1) (hs2 : Small r2) :
   ∃ o z e, Ev (fun k => canon_Match.f k n1 l1 r1 n2 l2 r2) (o, z, e) ∧ Ev (fun k => tangramref21_Match.f k n1 l1 r1 n2 l2 r2) (o, z, e) ∧ o.length ≤ 9000000000000 := by
 obtain ⟨p1, nx1, tl1, e1, a1, v1, s1⟩ := sum n1 l1 r1 hs1
 obtain ⟨p2, nx2, tl2, e2, a2, v2, s2⟩ := sum n2 l2 r2 hs2
 have hp := pair_ev s1 s2
 unfold canon_Match.f tangramref21_Match.f
 by_cases h0 : errOf e1 e2 a1 a2 = 0
 · rw [h0] at hp
   obtain ⟨c, hfe, z1, z2, z3, z4⟩ := errOf_zero h0
   obtain ⟨N, rfl, rfl, rfl, rfl, rfl, hm, hpt, hl0⟩ := s1.fine z1 z3
   obtain ⟨M, rfl, rfl, rfl, rfl, rfl, km, kpt, kl0⟩ := s2.fine z2 z4
   have hc1 := s1.check
   have hc2 := s2.check
   rw [z1] at hc1
   rw [z2] at hc2
   have b1 := best_ev hm hl0
   have b2 := best_ev km kl0
   have c1 := refbest_ev hm hc1 hl0
   have c2 := refbest_ev km hc2 kl0
   have hb1 := (bst_le (codes N l1 r1) (2 * l1.length - 1)).1
   have hb2 := (bst_le (codes M l2 r2) (2 * l2.length - 1)).1
   have F1 := full (web hm hpt) (root := (bestOf N l1 r1).1) (by rw [hm.len]; unfold bestOf; omega)
   have F2 := full (web km kpt) (root := (bestOf M l2 r2).1) (by rw [km.len]; unfold bestOf; omega)
   have q1 := less_ev (a := codes N l1 r1 (bestOf N l1 r1).1) (b := codes M l2 r2 (bestOf M l2 r2).1) (seen_cd hm _)
   have q2 := less_ev (a := codes M l2 r2 (bestOf M l2 r2).1) (b := codes N l1 r1 (bestOf N l1 r1).1) (seen_cd km _)
   have q3 := ints_ev (a := codes N l1 r1 (bestOf N l1 r1).1) (b := codes M l2 r2 (bestOf M l2 r2).1) (seen_cd hm _)
   have hprog : ∀ {x}, Ev (fun k => canon_Match.both k (N : Int) ((N : Int), nxOf l1 r1, toOf l1, e1, a1) ((M : Int), nxOf l2 r2, toOf l2, e2, a2)) x → Ev (fun k => (canon_look.f k (N : Int) l1 r1).bind fun a => (canon_look.f k (M : Int) l2 r2).bind fun b => if a.2.2.2.1 = 1 ∨ b.2.2.2.1 = 1 then some ([], false, 1) else if Match.firstE [a.2.2.2.1, b.2.2.2.1, a.2.2.2.2, b.2.2.2.2] = 0 then canon_Match.both k (N : Int) a b else some ([], false, Match.firstE [a.2.2.2.1, b.2.2.2.1, a.2.2.2.2, b.2.2.2.2])) x := fun h =>
     Ev.bind s1.look (Ev.bind s2.look (Ev.congr (fun k => by rw [if_neg c, if_pos hfe]) h))
   by_cases e : codes N l1 r1 (bestOf N l1 r1).1 = codes M l2 r2 (bestOf M l2 r2).1
   · obtain ⟨rfl, _⟩ := full_rows F1 F2 e
     have hn := hm.good.2.1
     have w1 := seen_ev hm hc1 (root := (bestOf N l1 r1).1) (by unfold bestOf; omega)
     have w2 := seen_ev km hc2 (root := (bestOf N l2 r2).1) (by unfold bestOf; omega)
     have hlen : (seenOf N l1 r1 (bestOf N l1 r1).1).ord.length = N := F1.ord
     have hlen2 : (seenOf N l2 r2 (bestOf N l2 r2).1).ord.length = N := F2.ord
     have hm1 : (seenOf N l1 r1 (bestOf N l1 r1).1).num.length = N := F1.num
     have hm2 : (seenOf N l2 r2 (bestOf N l2 r2).1).num.length = N := F2.num
     have out1 : canon_Match.out (N : Int) (seenOf N l1 r1 (bestOf N l1 r1).1).ord (seenOf N l2 r2 (bestOf N l2 r2).1).ord = some (One.putR (seenOf N l1 r1 (bestOf N l1 r1).1).num (seenOf N l2 r2 (bestOf N l2 r2).1).num N N N, true, 0) := by
       unfold canon_Match.out
       rw [hlen, hlen2, if_pos, Int.toNat_natCast, put_same F1 F2]
       rw [Bool.and_eq_true, decide_eq_true_eq, List.all_eq_true]
       refine ⟨⟨by omega, by omega, Nat.le_refl _, by omega⟩, fun x hx => ?_⟩
       obtain ⟨i, hi, rfl⟩ := List.getElem_of_mem hx
       have := F1.inO i (by rw [← hlen]; exact hi)
       have e3 : gi (seenOf N l1 r1 (bestOf N l1 r1).1).ord i = (seenOf N l1 r1 (bestOf N l1 r1).1).ord[i] := gi_get hi
       rw [← e3]
       exact decide_eq_true this
     have out2 : tangramref21_Match.out (N : Int) (N : Int) (seenOf N l1 r1 (bestOf N l1 r1).1).num (seenOf N l2 r2 (bestOf N l2 r2).1).num = some (One.putR (seenOf N l1 r1 (bestOf N l1 r1).1).num (seenOf N l2 r2 (bestOf N l2 r2).1).num N N N, true, 0) := by
       unfold tangramref21_Match.out
       rw [if_pos ⟨by omega, by omega, by omega, by omega, by rw [hm1]; rfl, by rw [hm2]; rfl⟩]
       rfl
     refine ⟨_, true, 0, hprog (x := (One.putR (seenOf N l1 r1 (bestOf N l1 r1).1).num (seenOf N l2 r2 (bestOf N l2 r2).1).num N N N, true, 0)) ?_, ?_, by rw [One.putR_length]; omega⟩
     · unfold canon_Match.both
       refine Ev.bind b1 ?_
       refine Ev.bind b2 ?_
       refine Ev.bind q1 ?_
       refine Ev.congr (fun k => if_neg (by rw [e, ltB_self]; decide)) ?_
       refine Ev.bind q2 ?_
       refine Ev.congr (fun k => if_neg (by rw [e, ltB_self]; decide)) ?_
       exact Ev.congr (fun k => out1) (Ev.now _)
     · refine Ev.bind hp ?_
       refine Ev.congr (fun k => if_pos rfl) ?_
       refine Ev.bind c1 ?_
       refine Ev.bind c2 ?_
       refine Ev.bind q3 ?_
       refine Ev.congr (fun k => if_pos (decide_eq_true e)) ?_
       refine Ev.bind w1 ?_
       refine Ev.bind w2 ?_
       exact Ev.congr (fun k => out2) (Ev.now _)
   · rw [decide_eq_false e] at q3
     refine ⟨[], false, 0, hprog ?_, Ev.bind hp (Ev.congr (fun k => if_pos rfl) (Ev.bind c1 (Ev.bind c2 (Ev.bind q3 (Ev.congr (fun k => if_neg (by decide)) (Ev.now _)))))), by simp⟩
     unfold canon_Match.both
     refine Ev.bind b1 (Ev.bind b2 (Ev.bind q1 ?_))
     by_cases w1 : ltB (codes N l1 r1 (bestOf N l1 r1).1) (codes M l2 r2 (bestOf M l2 r2).1) = true
     · exact Ev.congr (fun k => if_pos w1) (Ev.now _)
     · refine Ev.congr (fun k => if_neg w1) (Ev.bind q2 ?_)
       refine Ev.congr (fun k => if_pos ?_) (Ev.now _)
       cases w2 : ltB (codes M l2 r2 (bestOf M l2 r2).1) (codes N l1 r1 (bestOf N l1 r1).1) with
       | true => rfl
       | false => exact absurd (ltB_eq _ _ (by simpa using w1) w2) e
 · refine ⟨[], false, errOf e1 e2 a1 a2, Ev.bind s1.look (Ev.bind s2.look (Ev.congr (fun k => ?_) (Ev.now _))), Ev.bind hp (Ev.congr (fun k => if_neg h0) (Ev.now _)), by simp⟩
   unfold errOf at h0 ⊢
   by_cases c : e1 = 1 ∨ e2 = 1
   · rw [if_pos c, if_pos c]
   · rw [if_neg c] at h0
     rw [if_neg c, if_neg h0, if_neg c]
end
end Go.Proofs.Yteeihjpnhjnknaa.Rot
namespace Go.Proofs.Yteeihjpnhjnknaa.Rot
open Go.RowKit Go.Proofs.YteeihjpnhjnknaaW.PrintWords Go.Proofs.YteeihjpnhjnknaaW.PrintLast Go.Proofs.YteeihjpnhjnknaaW.PrintMore Go.Proofs.Yteeihjpnhjnknaa.GAll Go.Proofs.Yteeihjpnhjnknaa.Mem Go.Proofs.Yteeihjpnhjnknaa.Seen
set_option linter.unusedVariables false
set_option linter.unusedSimpArgs false
theorem one_ev {n : Int} {l : List Ed} {r : List (List Int)} {a : Int} {b c : List Int} {e f : Int} (h : Ev (fun k => canon_look.f k n l r) (a, b, c, e, f)) : Ev (fun k => canon_one.f k n l r) (a, b, c, if e = 0 then f else e) := by
 unfold canon_one.f
 exact Ev.bind h (Ev.now _)
theorem own_facts (n : Int) (l : List Ed) (r : List (List Int)) (root : Int) (hs : Small r) : ∃ ra rc : List Int, ∃ e e' q : Int, Ev (fun k => canon_Rooted.f k n l r root) (ra, e) ∧ Ev (fun k => tangramref21_Rooted.f k n l r root) (ra, e) ∧ Ev (fun k => canon_Code.f k n l r) (rc, e') ∧ Ev (fun k => tangramref21_Code.f k n l r) (rc, e') ∧ Ev (fun k => canon_Turns.f k n l r) (q, e') ∧ ra.length ≤ 9000000000000 ∧ rc.length ≤ 9000000000000 := by
 unfold canon_Rooted.f tangramref21_Rooted.f canon_Code.f tangramref21_Code.f canon_Turns.f
 cases case n l r hs with
 | bad v e h0 h1 hl hc hf =>
   have h := one_ev hl
   rw [if_neg h0] at h
   exact ⟨[], [], e, e, 0, Ev.bind h (Ev.congr (fun k => if_neg h0) (Ev.now _)), Ev.bind hf (Ev.congr (fun k => if_neg h0) (Ev.now _)), Ev.bind h (Ev.congr (fun k => if_neg h0) (Ev.now _)), Ev.bind hf (Ev.congr (fun k => if_neg h0) (Ev.now _)), Ev.bind h (Ev.congr (fun k => if_neg h0) (Ev.now _)), by simp, by simp⟩
 | apart hg hl hc hf =>
   have h := one_ev hl
   rw [if_pos rfl] at h
   exact ⟨[], [], 210, 210, 0, Ev.bind h (Ev.congr (fun k => if_neg (by decide)) (Ev.now _)), Ev.bind hf (Ev.congr (fun k => if_neg (by decide)) (Ev.now _)), Ev.bind h (Ev.congr (fun k => if_neg (by decide)) (Ev.now _)), Ev.bind hf (Ev.congr (fun k => if_neg (by decide)) (Ev.now _)), Ev.bind h (Ev.congr (fun k => if_neg (by decide)) (Ev.now _)), by simp, by simp⟩
 | fine N hN hm hp h0 hl hc hf =>
   subst hN
   have h := one_ev hl
   rw [if_pos rfl] at h
   have hlen := hm.len
   have hll := hm.good.2.2.1
   have hnn := hm.good.2.1
   have hw : IntKind.i64.wrap (2 * (l.length : Int)) = ((2 * l.length : Nat) : Int) := by rw [IntWalk.i64_in _ (by omega)]; omega
   have hb := (bst_le (codes N l r) (2 * l.length - 1)).1
   have b1 := best_ev hm h0
   have b2 := refbest_ev hm hc h0
   have hcl : (codes N l r (bestOf N l r).1).length ≤ 9000000000000 := by rw [codes_length hm hp (by unfold bestOf; omega)]; omega
   have t1 : Ev (fun k => (canon_one.f k (N : Int) l r).bind fun t => if t.2.2.2 = 0 then (canon_plane_best.f k t.1 t.2.1 t.2.2.1).bind fun u => some (u.1, (0 : Int)) else some ([], t.2.2.2)) (codes N l r (bestOf N l r).1, 0) := Ev.bind h (Ev.congr (fun k => if_pos rfl) (Ev.bind b1 (Ev.now _)))
   have t2 : Ev (fun k => (tangramref21_Fault.f k (N : Int) l r).bind fun t => if t = 0 then (tangramref21_Best.f k (N : Int) l r).bind fun u => some (u.1, (0 : Int)) else some ([], t)) (codes N l r (bestOf N l r).1, 0) := Ev.bind hf (Ev.congr (fun k => if_pos rfl) (Ev.bind b2 (Ev.now _)))
   have t3 : Ev (fun k => (canon_one.f k (N : Int) l r).bind fun t => if t.2.2.2 = 0 then (canon_plane_best.f k t.1 t.2.1 t.2.2.1).bind fun u => some (u.2.2, (0 : Int)) else some (0, t.2.2.2)) (((bestOf N l r).2 : Int), 0) := Ev.bind h (Ev.congr (fun k => if_pos rfl) (Ev.bind b1 (Ev.now _)))
   by_cases h1 : root < 0
   · exact ⟨[], _, 2, 0, _, Ev.bind h (Ev.congr (fun k => by rw [if_pos rfl, if_pos h1]) (Ev.now _)), Ev.bind hf (Ev.congr (fun k => by rw [if_pos rfl, if_pos h1]) (Ev.now _)), t1, t2, t3, by simp, hcl⟩
   · obtain ⟨q, rfl⟩ := Int.eq_ofNat_of_zero_le (show 0 ≤ root by omega)
     by_cases h2 : q < 2 * l.length
     · refine ⟨(seenOf N l r q).cd, _, 0, 0, _, Ev.bind h (Ev.congr (f := fun k => (canon_plane_code.f k (N : Int) (nxOf l r) (toOf l) (q : Int)).bind fun bt => some (bt.1, 0)) (fun k => ?_) (Ev.bind (code_ev hm h2) (Ev.now _))), Ev.bind hf (Ev.congr (f := fun k => (tangramref21_Seen.f k (N : Int) l r (q : Int)).bind fun bt => some (bt.1, 0)) (fun k => ?_) (Ev.bind (seen_ev hm hc h2) (Ev.now _))), t1, t2, t3, ?_, hcl⟩
       · rw [if_pos rfl, if_neg h1, if_neg (by simp only; omega)]
       · rw [if_pos rfl, if_neg h1, hw, if_neg (by omega)]
       · have := codes_length hm hp h2
         show (codes N l r q).length ≤ _
         omega
     · refine ⟨[], _, 2, 0, _, Ev.bind h (Ev.congr (fun k => ?_) (Ev.now _)), Ev.bind hf (Ev.congr (fun k => ?_) (Ev.now _)), t1, t2, t3, by simp, hcl⟩
       · rw [if_pos rfl, if_neg h1, if_pos (by simp only; omega)]
       · rw [if_pos rfl, if_neg h1, hw, if_pos (by omega)]
theorem equal_ev (n : Int) (l : List Ed) (hl : l.length ≤ 9000000000000000) : Ev (fun k => tangramref03_Equal.f k n l n l) true := by
 have loop : ∀ (d i : Nat), i + d = l.length → Ev (fun k => tangramref03_Equal.l0 k (i : Int) n l n l) true := by
   intro d
   induction d with
   | zero =>
     intro i hi
     refine Ev.step (f := fun _ => some true) (fun k => ?_) (Ev.now _)
     simp only [tangramref03_Equal.l0]
     rw [if_neg (by omega)]
   | succ d ih =>
     intro i hi
     refine Ev.step (f := fun k => tangramref03_Equal.l0 k ((i + 1 : Nat) : Int) n l n l) (fun k => ?_) (ih (i + 1) (by omega))
     simp only [tangramref03_Equal.l0]
     rw [if_pos (by omega), if_pos (by omega), if_pos (by omega), if_pos trivial, if_pos trivial, w1 (by omega)]
 have h0 : ((l.length : Int) != (l.length : Int)) = false := bne_eq_false_iff_eq.2 rfl
 unfold tangramref03_Equal.f
 refine Ev.congr (fun k => if_pos rfl) ?_
 rw [h0]
 refine Ev.step (f := fun k => tangramref03_Equal.l0 k ((0 : Nat) : Int) n l n l) (fun k => ?_) (loop l.length 0 (by omega))
 simp only [tangramref03_Equal.j0]
 rfl
theorem all_ev {α : Type} (g : Nat → Nat → Option α) (x : Nat → α) : ∀ M, (∀ h, h < M → Ev (g h) (x h)) → ∃ K, ∀ k, K ≤ k → ∀ h, h < M → g h k = some (x h)
 | 0, _ => ⟨0, fun k _ h hh => absurd hh (by omega)⟩
 | M + 1, H => by
   obtain ⟨K, hK⟩ := all_ev g x M (fun h hh => H h (by omega))
   obtain ⟨K2, hK2⟩ := H M (by omega)
   refine ⟨K + K2, fun k hk h hh => ?_⟩
   rcases Nat.lt_succ_iff_lt_or_eq.1 hh with c | rfl
   · exact hK k (by omega) h c
   · exact hK2 k (by omega)
theorem CanonOwn (a0_0 : Int) (A0_1 : Option Addr) (c0_1 : Nat) (l0_1 : List Ed) (A1 : Option Addr) (c1 : Nat) (l1 : List (List Int)) (a2 : Int) (w : World) (hr0_1 : Kd.C k89 w A0_1 l0_1.length l0_1) (hc0_1 : l0_1.length ≤ c0_1) (hr1 : Kd.C (Kd.slice 3 (Kd.int .i64)) w A1 l1.length l1) (hc1 : l1.length ≤ c1)
   (g0 : Open.I64 a0_0 ∧ l0_1.length * 16 ≤ 140737488351232 ∧ ∀ x ∈ l0_1, Open.I64 x.f0 ∧ Open.I64 x.f1) (g1 : l1.length * 24 ≤ 140737488351232 ∧ ∀ x ∈ l1, x.length * 8 ≤ 140737488351232 ∧ ∀ y ∈ x, Open.I64 y) {P2 : Prop} (g2 : P2) :
   Calls Try.prog 9 #[.agg #[.int .i64 a0_0, .slice A0_1 l0_1.length c0_1], .slice A1 l1.length c1, .int .i64 a2] w fun e w' => e = .returned (.bool true) ∧ Below w.heap.size w w' := by
 have hs : Small l1 := ⟨g1.1, fun l hl => (g1.2 l hl).1⟩
 have hrow : ∀ j, j < l1.length → (gl l1 j).length * 8 ≤ 140737488351232 := fun j hj => by
   unfold gl
   rw [List.getD_eq_getElem?_getD, List.getElem?_eq_getElem hj]
   exact (g1.2 _ (List.getElem_mem hj)).1
 obtain ⟨K1, q1⟩ := copy3_ev a0_0 l0_1 (by omega)
 obtain ⟨ra, rc, e, e', q, ⟨K2, q2⟩, ⟨K3, q3⟩, ⟨K4, q4⟩, ⟨K5, q5⟩, ⟨K6, q6⟩, ha, hcl⟩ := own_facts a0_0 l0_1 l1 a2 hs
 obtain ⟨o, z, e3, ⟨K7, q7⟩, ⟨K8, q8⟩, hol2⟩ := match_small a0_0 l0_1 l1 a0_0 l0_1 l1 hs hs
 obtain ⟨K9, q9⟩ := equal_ev a0_0 l0_1 (by omega)
 obtain ⟨K10, q10⟩ := all_ev (fun h k => tangramref03_SameInts.f k (gl l1 h) (gl l1 h)) (fun _ => true) l1.length (fun h hh => ints_same (by have := hrow h hh; omega))
 obtain ⟨K11, q11⟩ := ints_same (a := ra) (by omega)
 obtain ⟨K12, q12⟩ := ints_same (a := rc) (by omega)
 obtain ⟨K13, q13⟩ := ints_same (a := o) (by omega)
 exact Own.own_walk (K1 + K2 + K3 + K4 + K5 + K6 + K7 + K8 + K9 + K10 + K11 + K12 + K13) a0_0 A0_1 c0_1 l0_1 A1 c1 l1 a2 w hr0_1 hc0_1 hr1 hc1 g1.1 hrow (q1 _ (by omega)) (q2 _ (by omega)) (q4 _ (by omega)) (q7 _ (by omega)) (q6 _ (by omega)) (q3 _ (by omega)) (q5 _ (by omega)) (q8 _ (by omega)) (q9 _ (by omega)) (q10 _ (by omega)) (q11 _ (by omega)) (q12 _ (by omega)) (q13 _ (by omega)) ha hcl hol2
end Go.Proofs.Yteeihjpnhjnknaa.Rot
