/- DERIVED. Two Sets beside one another; what Groups gave, as the kit's kinds say it; the order of joins, in plain words. -/
import Derived.Test.YtoajoklpbfehiaaSetsPart
import Derived.Test.YtoajoklpbfehiaaSetsGroups
import Derived.Test.YtoajoklpbfehiaaSetsFix
namespace Go.Proofs.Ytoajoklpbfehiaa.Sets
open Go.RowKit Go.Proofs.YtoajoklpbfehiaaW.PrintWords Go.Proofs.YtoajoklpbfehiaaW.PrintLast Go.Proofs.YtoajoklpbfehiaaW.PrintMore
set_option linter.unusedVariables false
set_option linter.unusedSimpArgs false

/-! ### what Groups gave -/
def ints (l : List Nat) : List Int := l.map fun (x : Nat) => (x : Int)
theorem iv_encs (l : List Nat) : iv l = encs (Value.int .i64) (ints l) := by simp [iv, encs, ints, Function.comp_def]
theorem GRows.rows {w : World} {B bo base : Nat} {vs : List Value} {gs : List (List Nat)} {ok : Nat → Prop} (h : GRows w B bo vs gs) (hb : base ≤ bo) (hl : gs.length ≤ 9223372036854775807) (hok : ∀ k, base ≤ k → ok k) :
    Kd.R (Kd.slice 3 (Kd.int .i64)) 34 w base ok (.slice (some ⟨bo, 0, none⟩) gs.length gs.length) (gs.map ints) := by
  have hlt := h.lt
  have hsz : (Kd.slice 3 (Kd.int .i64)).sz = 1 := rfl
  refine ⟨fun k hk => hok k (by have : bo = k := by simpa [Value.ownBlock] using hk
                                omega), vs, ⟨by simp [h.len, hsz], .inr ⟨bo, gs.length, vs.toArray, by simp, hb, h.out, by simp, by unfold maxLen; simpa using hl, by simp [h.len, hsz], ?_⟩⟩, by simp [h.len, hsz], fun j p hj => ?_⟩
  · simp [List.take_of_length_le, h.len, hsz]
  · rw [List.getElem?_map] at hj
    obtain ⟨g, hg, rfl⟩ := Option.map_eq_some_iff.1 hj
    have hj2 : j < gs.length := (List.getElem?_eq_some_iff.1 hg).1
    have e1 : gl gs j = g := by unfold gl; rw [List.getD_eq_getElem?_getD, hg]; rfl
    have e2 : (vs.drop (j * 1)).take 1 = [va vs j] := by
      rw [Nat.mul_one, List.drop_eq_getElem_cons (by rw [h.len]; exact hj2), List.take_succ_cons, List.take_zero]
      simp [va, List.getD_eq_getElem?_getD, h.len, hj2]
    refine ⟨va vs j, e2, Kd.R_of_own ?_ (fun k hk => ?_)⟩
    · have := own_weaken (h.own j hj2) (show base ≤ B by omega)
      rw [iv_encs, e1] at this
      rw [show (ints g).length = g.length by simp [ints]]
      exact this
    · have := own_lt (h.own j hj2) hk
      refine ⟨hok k (by omega), fun e => ?_⟩
      have : k = bo := by simpa [Value.ownBlock] using e
      omega

/-! ### joins in another order -/
/-- all its pairs are led to by the list's pairs -/
def Sub (n : Nat) (es : List (Int × Int)) (m : List Nat) : Prop := ∃ E, Part n E m ∧ ∀ a b, E a b → Conn (EP n es) a b
theorem Sub.start (n : Nat) (es : List (Int × Int)) : Sub n es (List.range n) := ⟨_, Part.range n, fun _ _ h => h.elim⟩
theorem pe_mem {es : List (Int × Int)} {k : Nat} (h : k < es.length) : pe es k ∈ es := by
  unfold pe; rw [List.getD_eq_getElem?_getD, List.getElem?_eq_getElem h]; exact List.getElem_mem h
/-- all its pairs are led to by the list's, and it holds the pairs from i on -/
def Cov (n : Nat) (es : List (Int × Int)) (i : Nat) (m : List Nat) : Prop := ∃ E, Part n E m ∧ (∀ a b, E a b → Conn (EP n es) a b) ∧ ∀ j, i ≤ j → j < es.length → ∀ a b : Nat, a < n → b < n → pe es j = ((a : Int), (b : Int)) → Conn E a b
theorem Sub.cov {n : Nat} {es : List (Int × Int)} {m : List Nat} (h : Sub n es m) : Cov n es es.length m := by
  obtain ⟨E, h1, h2⟩ := h
  exact ⟨E, h1, h2, fun j h3 h4 => by omega⟩
theorem Sub.join {n : Nat} {es : List (Int × Int)} {m : List Nat} (h : Sub n es m) {k : Nat} (hk : k < es.length) : Sub n es (joinOf m (pe es k).2 (pe es k).1).1 := by
  obtain ⟨E, h1, h2⟩ := h
  refine ⟨_, joinOf_part h1 _ _, ?_⟩
  rintro a b (e | ⟨ha, hb, ea, eb⟩)
  · exact h2 a b e
  · exact (Conn.one (E := EP n es) ⟨hb, ha, by rw [ea, eb]; exact pe_mem hk⟩).symm
theorem Cov.join {n : Nat} {es : List (Int × Int)} {m : List Nat} {i : Nat} (h : Cov n es (i + 1) m) (hk : i < es.length) : Cov n es i (joinOf m (pe es i).1 (pe es i).2).1 := by
  obtain ⟨E, h1, h2, h3⟩ := h
  refine ⟨_, joinOf_part h1 _ _, ?_, ?_⟩
  · rintro a b (e | ⟨ha, hb, ea, eb⟩)
    · exact h2 a b e
    · exact Conn.one (E := EP n es) ⟨ha, hb, by rw [ea, eb]; exact pe_mem hk⟩
  · intro j hj hj2 a b ha hb he
    rcases Nat.lt_or_ge i j with h | h
    · exact (h3 j h hj2 a b ha hb he).mono fun _ _ e => .one (.inl e)
    · obtain rfl : j = i := by omega
      rw [he]
      exact .one (.inr ⟨ha, hb, rfl, rfl⟩)
theorem mem_pe {es : List (Int × Int)} {x : Int × Int} (h : x ∈ es) : ∃ j, j < es.length ∧ pe es j = x := by
  obtain ⟨j, hj, rfl⟩ := List.mem_iff_getElem.1 h
  exact ⟨j, hj, by unfold pe; rw [List.getD_eq_getElem?_getD, List.getElem?_eq_getElem hj]; rfl⟩
theorem Cov.all {n : Nat} {es : List (Int × Int)} {m : List Nat} (h : Cov n es 0 m) : m = joinAll (List.range n) es := by
  obtain ⟨E, h1, h2, h3⟩ := h
  refine h1.unique (joinAll_part n es) h2 ?_
  rintro a b ⟨ha, hb, hm⟩
  obtain ⟨j, hj, hp⟩ := mem_pe hm
  exact h3 j (by omega) hj a b ha hb hp
theorem again_no {n : Nat} {es : List (Int × Int)} {i : Nat} (hi : i < es.length) : joinOf (joinAll (List.range n) es) (pe es i).1 (pe es i).2 = (joinAll (List.range n) es, false) := by
  have hp := joinAll_part n es
  by_cases hk : ok (joinAll (List.range n) es) (pe es i).1 = true ∧ ok (joinAll (List.range n) es) (pe es i).2 = true
  · obtain ⟨a, ha, ha2⟩ := ok_nat hk.1
    obtain ⟨b, hb, hb2⟩ := ok_nat hk.2
    rw [hp.len] at ha2 hb2
    rw [ha, hb]
    refine joinOf_same (hp.const (.one ⟨ha2, hb2, ?_⟩))
    rw [← ha, ← hb]
    exact pe_mem hi
  · exact joinOf_out hk
/-- how many of the first k joins were true -/
def yesTo (m : List Nat) (es : List (Int × Int)) : Nat → Nat
  | 0 => 0
  | k + 1 => yesTo m es k + if (joinOf (joinAll m (es.take k)) (pe es k).1 (pe es k).2).2 = true then 1 else 0
theorem sets_yes (n : Nat) (es : List (Int × Int)) : ∀ k, k ≤ es.length → sets (joinAll (List.range n) (es.take k)) + yesTo (List.range n) es k = n := by
  intro k
  induction k with
  | zero => intro _; simp [joinAll, yesTo, sets_range]
  | succ k ih =>
    intro hk
    have h1 := ih (by omega)
    have h2 := sets_join (joinAll_part n (es.take k)) (pe es k).1 (pe es k).2
    rw [joinAll_take _ _ (by omega)]
    unfold yesTo
    omega
theorem numTo_sets {n : Nat} {E : Nat → Nat → Prop} {m : List Nat} (h : Part n E m) : ∀ k, k ≤ n → (numTo m k).2 = (List.range k).countP fun i => gt m i == i := by
  intro k
  induction k with
  | zero => intro _; rfl
  | succ k ih =>
    intro hk
    rw [List.range_succ, List.countP_append]
    have h1 := ih (by omega)
    have h2 := h.le k (by omega)
    unfold numTo
    by_cases c : gt m k < k
    · rw [if_pos c]
      simp [h1, show gt m k ≠ k by omega]
    · rw [if_neg c]
      simp [h1, show gt m k = k by omega]
theorem numTo_all {n : Nat} {E : Nat → Nat → Prop} {m : List Nat} (h : Part n E m) : (numTo m m.length).2 = sets m := by
  rw [h.len, numTo_sets h n (Nat.le_refl _)]
  unfold sets
  rw [h.len]

/-! ### two Sets -/
structure Two (w0 w : World) (p bP bS q bQ bT : Nat) (ms mt : List Nat) : Prop where
  s : At w p bP bS ms
  t : At w q bQ bT mt
  lo : w0.heap.size ≤ p ∧ w0.heap.size ≤ bP ∧ w0.heap.size ≤ bS ∧ w0.heap.size ≤ q ∧ w0.heap.size ≤ bQ ∧ w0.heap.size ≤ bT
  ap : p < q ∧ p < bQ ∧ p < bT ∧ bP < q ∧ bP < bQ ∧ bP < bT ∧ bS < q ∧ bS < bQ ∧ bS < bT
  old : Below w0.heap.size w0 w
def Own2 (p bP bS q bQ bT : Nat) (k : Nat) : Prop := Own p bP bS k ∨ Own q bQ bT k
theorem At.frame {w w' : World} {p bP bS : Nat} {m : List Nat} {S : Nat → Prop} (h : At w p bP bS m) (f : Frame S w w') (hs : ∀ k, Own p bP bS k → ¬ S k) : At w' p bP bS m := by
  obtain ⟨P, S', h⟩ := h
  exact ⟨P, S', f.blk h.obj (hs _ (.inl rfl)), f.blk h.par (hs _ (.inr (.inl rfl))), f.blk h.siz (hs _ (.inr (.inr rfl))), h.ne1, h.ne2, h.ne3, h.small, h.rep, h.sized⟩
theorem At.hi {w : World} {p bP bS : Nat} {m : List Nat} (h : At w p bP bS m) : p < w.heap.size ∧ bP < w.heap.size ∧ bS < w.heap.size := by
  obtain ⟨P, S', h⟩ := h
  exact ⟨blk_lt h.obj, blk_lt h.par, blk_lt h.siz⟩
section
variable {w0 w w' : World} {p bP bS q bQ bT : Nat} {ms mt : List Nat}
theorem Two.alloc (h : Two w0 w p bP bS q bQ bT ms mt) (o : Obj) : Two w0 (w.alloc o) p bP bS q bQ bT ms mt := by
  have f : Frame (fun _ => False) w (w.alloc o) := (Frame.refl _ w).alloc o
  exact ⟨h.s.frame f (fun _ _ e => e), h.t.frame f (fun _ _ e => e), h.lo, h.ap, h.old.alloc (by exact h.old.size) o⟩
theorem Two.put (h : Two w0 w p bP bS q bQ bT ms mt) {b i : Nat} (u : Value) (hb : w0.heap.size ≤ b) (hn : ¬ Own2 p bP bS q bQ bT b) : Two w0 (w.setCell ⟨b, i, none⟩ u) p bP bS q bQ bT ms mt := by
  have f : Frame (· = b) w (w.setCell ⟨b, i, none⟩ u) := Frame.setCell (S := (· = b)) (p := ⟨b, i, none⟩) (Frame.refl _ w) rfl u
  exact ⟨h.s.frame f (fun k hk e => hn (.inl (e ▸ hk))), h.t.frame f (fun k hk e => hn (.inr (e ▸ hk))), h.lo, h.ap, h.old.trans (f.below h.old.size (fun k hk => by omega))⟩
theorem Two.drawn (h : Two w0 w p bP bS q bQ bT ms mt) (n : Nat) : Two w0 (w.drewN n) p bP bS q bQ bT ms mt := by
  have f : Frame (fun _ => False) w (w.drewN n) := (Frame.refl _ w).drewN n
  exact ⟨h.s.frame f (fun _ _ e => e), h.t.frame f (fun _ _ e => e), h.lo, h.ap, h.old.trans (f.below h.old.size (fun k hk => hk.elim))⟩
theorem Two.drew (h : Two w0 w p bP bS q bQ bT ms mt) : Two w0 w.drew p bP bS q bQ bT ms mt := by
  have f : Frame (fun _ => False) w w.drew := (Frame.refl _ w).drew
  exact ⟨h.s.frame f (fun _ _ e => e), h.t.frame f (fun _ _ e => e), h.lo, h.ap, h.old.trans (f.below h.old.size (fun k hk => hk.elim))⟩
theorem Two.below (h : Two w0 w p bP bS q bQ bT ms mt) (hb : Below w.heap.size w w') : Two w0 w' p bP bS q bQ bT ms mt := by
  have h1 := h.s.hi
  have h2 := h.t.hi
  have f : Frame (fun k => w.heap.size ≤ k) w w' := ⟨hb.os, hb.tape, hb.output, hb.size, fun i hi _ => hb.block i hi⟩
  exact ⟨h.s.frame f (fun k hk e => by unfold Own at hk; omega), h.t.frame f (fun k hk e => by unfold Own at hk; omega), h.lo, h.ap, h.old.trans (hb.mono h.old.size)⟩
theorem Two.join_s (h : Two w0 w p bP bS q bQ bT ms mt) (a b : Int) :
    Calls Try.prog 17 #[.pointer (some ⟨p, 0, none⟩), .int .i64 a, .int .i64 b] w fun e w' => e = .returned (.bool (joinOf ms a b).2) ∧ Two w0 w' p bP bS q bQ bT (joinOf ms a b).1 mt ∧ Frame (Own2 p bP bS q bQ bT) w w' := by
  obtain ⟨P, S, hs⟩ := h.s
  refine (join_calls p bP bS ms P S a b w hs).mono ?_
  rintro e w' ⟨rfl, hA, hF⟩
  have hap := h.ap
  have hlo := h.lo
  exact ⟨rfl, ⟨hA, h.t.frame hF (fun k hk e => by unfold Own at hk e; omega), h.lo, h.ap, h.old.trans (hF.below h.old.size (fun k hk => by unfold Own at hk; omega))⟩, hF.mono fun _ e => .inl e⟩
theorem Two.join_t (h : Two w0 w p bP bS q bQ bT ms mt) (a b : Int) :
    Calls Try.prog 17 #[.pointer (some ⟨q, 0, none⟩), .int .i64 a, .int .i64 b] w fun e w' => e = .returned (.bool (joinOf mt a b).2) ∧ Two w0 w' p bP bS q bQ bT ms (joinOf mt a b).1 ∧ Frame (Own2 p bP bS q bQ bT) w w' := by
  obtain ⟨P, S, ht⟩ := h.t
  refine (join_calls q bQ bT mt P S a b w ht).mono ?_
  rintro e w' ⟨rfl, hA, hF⟩
  have hap := h.ap
  have hlo := h.lo
  exact ⟨rfl, ⟨h.s.frame hF (fun k hk e => by unfold Own at hk e; omega), hA, h.lo, h.ap, h.old.trans (hF.below h.old.size (fun k hk => by unfold Own at hk; omega))⟩, hF.mono fun _ e => .inr e⟩
theorem Two.count_s (h : Two w0 w p bP bS q bQ bT ms mt) :
    Calls Try.prog 12 #[.pointer (some ⟨p, 0, none⟩)] w fun e w' => e = .returned (.int .i64 ((sets ms : Nat) : Int)) ∧ w = w' := by
  obtain ⟨P, S, hs⟩ := h.s
  exact count_calls p bP bS ms P S w hs
theorem Two.count_t (h : Two w0 w p bP bS q bQ bT ms mt) :
    Calls Try.prog 12 #[.pointer (some ⟨q, 0, none⟩)] w fun e w' => e = .returned (.int .i64 ((sets mt : Nat) : Int)) ∧ w = w' := by
  obtain ⟨P, S, hs⟩ := h.t
  exact count_calls q bQ bT mt P S w hs
theorem GRows.framed {B bo : Nat} {vs : List Value} {gs : List (List Nat)} {S : Nat → Prop} (h : GRows w B bo vs gs) (f : Frame S w w') (hs : ∀ k, S k → k < bo) : GRows w' B bo vs gs := by
  have hlt := h.lt
  refine ⟨h.len, f.blk h.out (fun e => by have := hs _ e; omega), fun j hj => own_move (h.own j hj) (fun k hk => ?_), h.apart, h.lt, Nat.le_trans h.base f.size⟩
  have := own_lt (h.own j hj) hk
  exact f.block k this.2 (fun e => by have := hs _ e; omega)
theorem groupsOf_length (m : List Nat) : (groupsOf m).length = (numTo m m.length).2 := grpTo_length _ _ _
theorem groupsOf_le {m : List Nat} {x : List Int} (h : x ∈ (groupsOf m).map ints) : x.length ≤ m.length := by
  obtain ⟨g, hg, rfl⟩ := List.mem_map.1 h
  obtain ⟨j, hj, rfl⟩ := List.mem_iff_getElem.1 hg
  have := grpTo_le (numTo m m.length).1 (numTo m m.length).2 m.length j
  unfold ints
  rw [List.length_map]
  have e : gl (groupsOf m) j = (groupsOf m)[j] := by unfold gl; rw [List.getD_eq_getElem?_getD, List.getElem?_eq_getElem hj]; rfl
  rw [← e]
  exact this
/-- Groups of the first -/
theorem Two.groups_s (h : Two w0 w p bP bS q bQ bT ms mt) (hc : (numTo ms ms.length).2 = sets ms) :
    Calls Try.prog 23 #[.pointer (some ⟨p, 0, none⟩)] w fun e w' => ∃ (B bo : Nat) (vs : List Value), e = .returned (.slice (some ⟨bo, 0, none⟩) (sets ms) (sets ms)) ∧ w.heap.size ≤ bo ∧ GRows w' B bo vs (groupsOf ms) ∧ Two w0 w' p bP bS q bQ bT ms mt ∧ Frame (Own2 p bP bS q bQ bT) w w' := by
  obtain ⟨P, S, hs⟩ := h.s
  refine (groups_calls p bP bS ms P S w hs).mono ?_
  rintro e w' ⟨B, bo, vs, rfl, hbo, hG, hA, hF⟩
  have hap := h.ap
  have hlo := h.lo
  rw [hc]
  exact ⟨B, bo, vs, rfl, hbo, hG, ⟨hA, h.t.frame hF (fun k hk e => by unfold Own at hk e; omega), h.lo, h.ap, h.old.trans (hF.below h.old.size (fun k hk => by unfold Own at hk; omega))⟩, hF.mono fun _ e => .inl e⟩
/-- Groups of the second -/
theorem Two.groups_t (h : Two w0 w p bP bS q bQ bT ms mt) (hc : (numTo mt mt.length).2 = sets mt) :
    Calls Try.prog 23 #[.pointer (some ⟨q, 0, none⟩)] w fun e w' => ∃ (B bo : Nat) (vs : List Value), e = .returned (.slice (some ⟨bo, 0, none⟩) (sets mt) (sets mt)) ∧ w.heap.size ≤ bo ∧ GRows w' B bo vs (groupsOf mt) ∧ Two w0 w' p bP bS q bQ bT ms mt ∧ Frame (Own2 p bP bS q bQ bT) w w' := by
  obtain ⟨P, S, hs⟩ := h.t
  refine (groups_calls q bQ bT mt P S w hs).mono ?_
  rintro e w' ⟨B, bo, vs, rfl, hbo, hG, hA, hF⟩
  have hap := h.ap
  have hlo := h.lo
  rw [hc]
  exact ⟨B, bo, vs, rfl, hbo, hG, ⟨h.s.frame hF (fun k hk e => by unfold Own at hk e; omega), hA, h.lo, h.ap, h.old.trans (hF.below h.old.size (fun k hk => by unfold Own at hk; omega))⟩, hF.mono fun _ e => .inr e⟩
end
end Go.Proofs.Ytoajoklpbfehiaa.Sets
