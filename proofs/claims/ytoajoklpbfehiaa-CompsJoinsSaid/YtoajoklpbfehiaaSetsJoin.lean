/- DERIVED. The walk of the method Join of comps.Sets. -/
import Derived.Test.YtoajoklpbfehiaaSetsSame
namespace Go.Proofs.Ytoajoklpbfehiaa.Sets
open Go.RowKit Go.Proofs.YtoajoklpbfehiaaW.PrintWords Go.Proofs.YtoajoklpbfehiaaW.PrintLast Go.Proofs.YtoajoklpbfehiaaW.PrintMore
attribute [local go_sem] max2_int min2_int max_two min_two
set_option linter.unusedVariables false
set_option linter.unusedSimpArgs false

theorem joinOf_no {m : List Nat} {a b : Int} (h : (ok m a && ok m b && (gt m a.toNat != gt m b.toNat)) = false) : joinOf m a b = (m, false) := by
  unfold joinOf; rw [h]; rfl

set_option maxHeartbeats 1000000 in
theorem join_no (p bP bS : Nat) (m P S : List Nat) (a b : Int) (w : World) (h : AtPS w p bP bS m P S) (hno : (ok m a && ok m b) = false) :
    Calls Try.prog 17 #[.pointer (some ⟨p, 0, none⟩), .int .i64 a, .int .i64 b] w fun e w' => e = .returned (.bool (joinOf m a b).2) ∧ Now p bP bS (joinOf m a b).1 w w' := by
  have H := Aside0.mk h
  clear h
  rw [joinOf_no (by rw [hno]; rfl)]
  cases ha : ok m a
  · have Q1 := Aside0.mk (fun W => has_keep (p := p) (bP := bP) (bS := bS) (P := P) (S := S) ha W)
    clear ha hno
    go_enter Try.func17, Try.ntmps17
    go_wp2_with (go_at_call 32; refine (Q1.out _ H.out).mono ?_; rintro e w' ⟨rfl, rfl⟩)
    go_ret
    exact ⟨rfl, ⟨P, S, H.out⟩, Frame.refl _ _⟩
  · have hb : ok m b = false := by rw [ha] at hno; simpa using hno
    obtain ⟨i, rfl, hi⟩ := ok_nat ha
    have Q1 := Aside0.mk (fun W => has_keep (p := p) (bP := bP) (bS := bS) (P := P) (S := S) ha W)
    have Q2 := Aside0.mk (fun W => has_keep (p := p) (bP := bP) (bS := bS) (P := P) (S := S) hb W)
    clear ha hb hno
    go_enter Try.func17, Try.ntmps17
    go_wp2_with (go_at_call 32; (first | (with_reducible refine (Q1.out _ H.out).mono ?_) | (with_reducible refine (Q2.out _ H.out).mono ?_)); rintro e w' ⟨rfl, rfl⟩)
    go_ret
    exact ⟨rfl, ⟨P, S, H.out⟩, Frame.refl _ _⟩

set_option maxHeartbeats 1000000 in
theorem join_same (p bP bS : Nat) (m P S : List Nat) (i j : Nat) (w : World) (h : AtPS w p bP bS m P S) (hi : i < m.length) (hj : j < m.length) (hs : gt m i = gt m j) :
    Calls Try.prog 17 #[.pointer (some ⟨p, 0, none⟩), .int .i64 (i : Int), .int .i64 (j : Int)] w fun e w' => e = .returned (.bool (joinOf m i j).2) ∧ Now p bP bS (joinOf m i j).1 w w' := by
  have H := Aside0.mk h
  clear h
  rw [joinOf_no (by simp [hs])]
  have Q1 := Aside0.mk (fun W => has_keep (p := p) (bP := bP) (bS := bS) (P := P) (S := S) (ok_of hi) W)
  have Q2 := Aside0.mk (fun W => has_keep (p := p) (bP := bP) (bS := bS) (P := P) (S := S) (ok_of hj) W)
  have ht : ((gt m i : Int) == (gt m j : Int)) = true := by rw [hs]; simp
  clear hs
  go_enter Try.func17, Try.ntmps17
  go_wp2_with (go_at_call 32; (first | (with_reducible refine (Q1.out _ H.out).mono ?_) | (with_reducible refine (Q2.out _ H.out).mono ?_)); rintro e w' ⟨rfl, rfl⟩)
  refine start_ (n := 14) (S := fun w' => w'.cell? ⟨p, 0, none⟩ = some (.slice (some ⟨bP, 0, none⟩) m.length m.length) ∧ Aside0 (At w' p bP bS m) ∧ Aside0 (Frame (Own p bP bS) w w')) (ds := []) #[false, false, false, false, false, false, false, false, false, false, false, false, false, false] (by kernel_rfl) rfl rfl ⟨H.out.drew.cell0, ⟨⟨P, S, H.out.drew⟩⟩, ⟨(Frame.refl _ _).drew⟩⟩ (fun hHeld => ?_)
  refine pure_ (i := 0) (N := some 19) (v := ?_) (a' := ?_) #[true, false, false, false, false, false, false, false, false, false, false, false, false, false] rfl rfl (by kernel_rfl) (fun _ _ _ h => h) (Or.inl ⟨by rfl, ?_⟩) ?_ ?_
  rotate_left
  · intro w'
    go_simp
    with_reducible rfl
  rotate_left
  · simp only [Act.put, List.setIfInBounds_toArray, List.set_cons_zero, List.set_cons_succ, i64_w, i32_w]
    rfl
  refine pure_ (i := 1) (N := some 20) (v := ?_) (a' := ?_) #[true, true, false, false, false, false, false, false, false, false, false, false, false, false] rfl rfl (by kernel_rfl) (fun _ _ _ h => h) (Or.inl ⟨by rfl, ?_⟩) ?_ ?_
  rotate_left
  · intro w'
    go_simp
    with_reducible rfl
  rotate_left
  · simp only [Act.put, List.setIfInBounds_toArray, List.set_cons_zero, List.set_cons_succ, i64_w, i32_w]
    rfl
  refine pure_ (i := 2) (N := some 21) (v := ?_) (a' := ?_) #[true, true, true, false, false, false, false, false, false, false, false, false, false, false] rfl rfl (by kernel_rfl) (fun _ _ _ h => h) (Or.inl ⟨by rfl, ?_⟩) ?_ ?_
  rotate_left
  · intro w'
    go_simp
    with_reducible rfl
  rotate_left
  · simp only [Act.put, List.setIfInBounds_toArray, List.set_cons_zero, List.set_cons_succ, i64_w, i32_w]
    rfl
  refine pure_ (i := 4) (N := some 23) (v := ?_) (a' := ?_) #[true, true, true, false, true, false, false, false, false, false, false, false, false, false] rfl rfl (by kernel_rfl) (fun _ _ _ h => h) (Or.inl ⟨by rfl, ?_⟩) ?_ ?_
  rotate_left
  · intro w'
    go_simp
    with_reducible rfl
  rotate_left
  · simp only [Act.put, List.setIfInBounds_toArray, List.set_cons_zero, List.set_cons_succ, i64_w, i32_w]
    rfl
  refine pure_ (i := 6) (N := some 25) (v := ?_) (a' := ?_) #[true, true, true, false, true, false, true, false, false, false, false, false, false, false] rfl rfl (by kernel_rfl) (fun _ _ _ h => h) (Or.inl ⟨by rfl, ?_⟩) ?_ ?_
  rotate_left
  · intro w'
    go_simp
    with_reducible rfl
  rotate_left
  · simp only [Act.put, List.setIfInBounds_toArray, List.set_cons_zero, List.set_cons_succ, i64_w, i32_w]
    rfl
  refine pure_ (i := 7) (N := some 26) (v := ?_) (a' := ?_) #[true, true, true, false, true, false, true, true, false, false, false, false, false, false] rfl rfl (by kernel_rfl) (fun _ _ _ h => h) (Or.inl ⟨by rfl, ?_⟩) ?_ ?_
  rotate_left
  · intro w'
    go_simp
    with_reducible rfl
  rotate_left
  · simp only [Act.put, List.setIfInBounds_toArray, List.set_cons_zero, List.set_cons_succ, i64_w, i32_w]
    rfl
  refine pure_ (i := 8) (N := some 27) (v := ?_) (a' := ?_) #[true, true, true, false, true, false, true, true, true, false, false, false, false, false] rfl rfl (by kernel_rfl) (fun _ _ _ h => h) (Or.inl ⟨by rfl, ?_⟩) ?_ ?_
  rotate_left
  · intro w'
    go_simp
    with_reducible rfl
  rotate_left
  · simp only [Act.put, List.setIfInBounds_toArray, List.set_cons_zero, List.set_cons_succ, i64_w, i32_w]
    rfl
  refine pure_ (i := 10) (N := some 29) (v := ?_) (a' := ?_) #[true, true, true, false, true, false, true, true, true, false, true, false, false, false] rfl rfl (by kernel_rfl) (fun _ _ _ h => h) (Or.inl ⟨by rfl, ?_⟩) ?_ ?_
  rotate_left
  · intro w'
    go_simp
    with_reducible rfl
  rotate_left
  · simp only [Act.put, List.setIfInBounds_toArray, List.set_cons_zero, List.set_cons_succ, i64_w, i32_w]
    rfl
  refine take_ (i := 3) (N := some 22) (v := ?_) (a' := ?_) #[true, true, true, true, true, false, true, true, true, false, true, false, false, false] rfl rfl (by kernel_rfl) (fun _ _ _ h => h) (Or.inl ⟨by rfl, ?_⟩) hHeld ?_ ?_
  rotate_left
  · rintro w' ⟨s0, s1, s2⟩
    go_simp
    with_reducible rfl
  rotate_left
  · simp only [Act.put, List.setIfInBounds_toArray, List.set_cons_zero, List.set_cons_succ, i64_w, i32_w]
    rfl
  refine take_ (i := 9) (N := some 28) (v := ?_) (a' := ?_) #[true, true, true, true, true, false, true, true, true, true, true, false, false, false] rfl rfl (by kernel_rfl) (fun _ _ _ h => h) (Or.inl ⟨by rfl, ?_⟩) hHeld ?_ ?_
  rotate_left
  · rintro w' ⟨s0, s1, s2⟩
    go_simp
    with_reducible rfl
  rotate_left
  · simp only [Act.put, List.setIfInBounds_toArray, List.set_cons_zero, List.set_cons_succ, i64_w, i32_w]
    rfl
  refine one_ (i := 5) (N := some 24) #[true, true, true, true, true, true, true, true, true, true, true, false, false, false] rfl rfl (by kernel_rfl) (by decide) (fun K hK => ?_)
  obtain ⟨h0, HA, HF⟩ := hHeld
  obtain ⟨P1, S1, H1⟩ := HA.out
  refine goes_ Try.func33 (by kernel_rfl) rfl #[.slice (some ⟨bP, 0, none⟩) m.length m.length, .int .i64 (i : Int)] (by rfl) rfl rfl (by simp only [List.map_toArray, List.map_cons, List.map_nil]; rfl) ?_
  with_reducible refine (root_calls bP m.length m.length i _ P1 m _ H1.par H1.rep hi rfl H1.small).mono ?_
  rintro e w3 ⟨rfl, hc⟩
  refine ⟨_, rfl, ?_⟩
  obtain ⟨Q, h1, h2⟩ := H1.climbed hc
  clear hc
  refine hK.out _ _ ⟨h1.cell0, ⟨⟨Q, S1, h1⟩⟩, ⟨HF.out.trans h2⟩⟩ (fun hHeld => ?_)
  clear hK K
  refine norm_ (a' := ?_) ?_ ?_
  rotate_left
  · show Act.put _ (some 24) _ = _
    simp only [Act.put, List.setIfInBounds_toArray, List.set_cons_zero, List.set_cons_succ, i64_w, i32_w]
    rfl
  refine one_ (i := 11) (N := some 30) #[true, true, true, true, true, true, true, true, true, true, true, true, false, false] rfl rfl (by kernel_rfl) (by decide) (fun K hK => ?_)
  obtain ⟨h0, HA, HF⟩ := hHeld
  obtain ⟨P1, S1, H1⟩ := HA.out
  refine goes_ Try.func33 (by kernel_rfl) rfl #[.slice (some ⟨bP, 0, none⟩) m.length m.length, .int .i64 (j : Int)] (by rfl) rfl rfl (by simp only [List.map_toArray, List.map_cons, List.map_nil]; rfl) ?_
  with_reducible refine (root_calls bP m.length m.length j _ P1 m _ H1.par H1.rep hj rfl H1.small).mono ?_
  rintro e w3 ⟨rfl, hc⟩
  refine ⟨_, rfl, ?_⟩
  obtain ⟨Q, h1, h2⟩ := H1.climbed hc
  clear hc
  refine hK.out _ _ ⟨h1.cell0, ⟨⟨Q, S1, h1⟩⟩, ⟨HF.out.trans h2⟩⟩ (fun hHeld => ?_)
  clear hK K
  refine norm_ (a' := ?_) ?_ ?_
  rotate_left
  · show Act.put _ (some 30) _ = _
    simp only [Act.put, List.setIfInBounds_toArray, List.set_cons_zero, List.set_cons_succ, i64_w, i32_w]
    rfl
  refine pure_ (i := 12) (N := some 7) (v := ?_) (a' := ?_) #[true, true, true, true, true, true, true, true, true, true, true, true, true, false] rfl rfl (by kernel_rfl) (fun _ _ _ h => h) (Or.inl ⟨by rfl, ?_⟩) ?_ ?_
  rotate_left
  · intro w'
    go_simp
    with_reducible rfl
  rotate_left
  · simp only [Act.put, List.setIfInBounds_toArray, List.set_cons_zero, List.set_cons_succ, i64_w, i32_w]
    rfl
  refine pure_ (i := 13) (N := some 8) (v := ?_) (a' := ?_) #[true, true, true, true, true, true, true, true, true, true, true, true, true, true] rfl rfl (by kernel_rfl) (fun _ _ _ h => h) (Or.inl ⟨by rfl, ?_⟩) ?_ ?_
  rotate_left
  · intro w'
    go_simp
    with_reducible rfl
  rotate_left
  · simp only [Act.put, List.setIfInBounds_toArray, List.set_cons_zero, List.set_cons_succ, i64_w, i32_w]
    rfl
  refine done_ (by kernel_rfl) ?_
  obtain ⟨_, HA, HF⟩ := hHeld
  go_wp2
  go_ret
  exact ⟨rfl, HA.out, HF.out⟩

/-- between the two stores of Join -/
structure MidPS (w : World) (p bP bS n : Nat) (P S : List Nat) (c : Nat) : Prop where
  obj : w.heap[p]? = some (.cells #[.slice (some ⟨bP, 0, none⟩) n n, .slice (some ⟨bS, 0, none⟩) n n, .int .i64 (c : Int)] 68 (0, 0))
  par : w.heap[bP]? = some (.cells (nv P) 3 (0, 0))
  siz : w.heap[bS]? = some (.cells (nv S) 3 (0, 0))
  ne1 : p ≠ bP
  ne2 : p ≠ bS
  ne3 : bP ≠ bS
theorem heap_setCell_ne {w : World} {b i k : Nat} {v : Value} {o : Obj} (h : w.heap[k]? = some o) (hk : k ≠ b) : (w.setCell ⟨b, i, none⟩ v).heap[k]? = some o := by
  rw [Below.heap_setCell _ _ _ _ hk]; exact h
theorem AtPS.mid {w : World} {p bP bS : Nat} {m P S : List Nat} (h : AtPS w p bP bS m P S) : MidPS w p bP bS m.length P S (sets m) := ⟨h.obj, h.par, h.siz, h.ne1, h.ne2, h.ne3⟩
theorem MidPS.drew {w : World} {p bP bS n c : Nat} {P S : List Nat} (h : MidPS w p bP bS n P S c) : MidPS w.drew p bP bS n P S c := ⟨h.obj, h.par, h.siz, h.ne1, h.ne2, h.ne3⟩
theorem MidPS.setPar {w : World} {p bP bS n c : Nat} {P S : List Nat} (h : MidPS w p bP bS n P S c) (i x : Nat) : MidPS (w.setCell ⟨bP, i, none⟩ (.int .i64 (x : Int))) p bP bS n (P.set i x) S c :=
  ⟨heap_setCell_ne h.obj h.ne1, blk_set_nv h.par, heap_setCell_ne h.siz (Ne.symm h.ne3), h.ne1, h.ne2, h.ne3⟩
theorem MidPS.setSiz {w : World} {p bP bS n c : Nat} {P S : List Nat} (h : MidPS w p bP bS n P S c) (i x : Nat) : MidPS (w.setCell ⟨bS, i, none⟩ (.int .i64 (x : Int))) p bP bS n P (S.set i x) c :=
  ⟨heap_setCell_ne h.obj h.ne2, heap_setCell_ne h.par h.ne3, blk_set_nv h.siz, h.ne1, h.ne2, h.ne3⟩
theorem MidPS.setCount {w : World} {p bP bS n c : Nat} {P S : List Nat} (h : MidPS w p bP bS n P S c) (x : Nat) : MidPS (w.setCell ⟨p, 2, none⟩ (.int .i64 (x : Int))) p bP bS n P S x :=
  ⟨by rw [blk_setCell h.obj]; rfl, heap_setCell_ne h.par (Ne.symm h.ne1), heap_setCell_ne h.siz (Ne.symm h.ne2), h.ne1, h.ne2, h.ne3⟩
theorem MidPS.cell0 {w : World} {p bP bS n c : Nat} {P S : List Nat} (h : MidPS w p bP bS n P S c) : w.cell? ⟨p, 0, none⟩ = some (.slice (some ⟨bP, 0, none⟩) n n) := (blk_cell h.obj 0).trans rfl
theorem MidPS.cell1 {w : World} {p bP bS n c : Nat} {P S : List Nat} (h : MidPS w p bP bS n P S c) : w.cell? ⟨p, 1, none⟩ = some (.slice (some ⟨bS, 0, none⟩) n n) := (blk_cell h.obj 1).trans rfl
theorem MidPS.cell2 {w : World} {p bP bS n c : Nat} {P S : List Nat} (h : MidPS w p bP bS n P S c) : w.cell? ⟨p, 2, none⟩ = some (.int .i64 (c : Int)) := (blk_cell h.obj 2).trans rfl

set_option maxHeartbeats 1000000 in
theorem join_lt (p bP bS : Nat) (m P S : List Nat) (i j : Nat) (w : World) (h : AtPS w p bP bS m P S) (hi : i < m.length) (hj : j < m.length) (hlt : gt m i < gt m j) :
    Calls Try.prog 17 #[.pointer (some ⟨p, 0, none⟩), .int .i64 (i : Int), .int .i64 (j : Int)] w fun e w' => e = .returned (.bool true) ∧ Now p bP bS (glue (gt m i) (gt m j) m) w w' := by
  have H := Aside0.mk h
  have Q1 := Aside0.mk (fun W => has_keep (p := p) (bP := bP) (bS := bS) (P := P) (S := S) (ok_of hi) W)
  have Q2 := Aside0.mk (fun W => has_keep (p := p) (bP := bP) (bS := bS) (P := P) (S := S) (ok_of hj) W)
  have ht : ((gt m i : Int) == (gt m j : Int)) = false := by simp only [beq_eq_false_iff_ne]; omega
  have HL := Aside0.mk (h.rep.mm hi)
  have HH := Aside0.mk (h.rep.mm hj)
  have hlo : gt m i < m.length := by have := h.rep.ml hi; omega
  have hhi : gt m j < m.length := by have := h.rep.ml hj; omega
  have hsm := h.small
  clear h
  go_enter Try.func17, Try.ntmps17
  go_wp2_with (go_at_call 32; (first | (with_reducible refine (Q1.out _ H.out).mono ?_) | (with_reducible refine (Q2.out _ H.out).mono ?_)); rintro e w' ⟨rfl, rfl⟩)
  refine start_ (n := 14) (S := fun w' => w'.cell? ⟨p, 0, none⟩ = some (.slice (some ⟨bP, 0, none⟩) m.length m.length) ∧ Aside0 (At w' p bP bS m) ∧ Aside0 (Frame (Own p bP bS) w w')) (ds := []) #[false, false, false, false, false, false, false, false, false, false, false, false, false, false] (by kernel_rfl) rfl rfl ⟨H.out.drew.cell0, ⟨⟨P, S, H.out.drew⟩⟩, ⟨(Frame.refl _ _).drew⟩⟩ (fun hHeld => ?_)
  refine pure_ (i := 0) (N := some 19) (v := ?_) (a' := ?_) #[true, false, false, false, false, false, false, false, false, false, false, false, false, false] rfl rfl (by kernel_rfl) (fun _ _ _ h => h) (Or.inl ⟨by rfl, ?_⟩) ?_ ?_
  rotate_left
  · intro w'
    go_simp
    with_reducible rfl
  rotate_left
  · simp only [Act.put, List.setIfInBounds_toArray, List.set_cons_zero, List.set_cons_succ, i64_w, i32_w]
    rfl
  refine pure_ (i := 1) (N := some 20) (v := ?_) (a' := ?_) #[true, true, false, false, false, false, false, false, false, false, false, false, false, false] rfl rfl (by kernel_rfl) (fun _ _ _ h => h) (Or.inl ⟨by rfl, ?_⟩) ?_ ?_
  rotate_left
  · intro w'
    go_simp
    with_reducible rfl
  rotate_left
  · simp only [Act.put, List.setIfInBounds_toArray, List.set_cons_zero, List.set_cons_succ, i64_w, i32_w]
    rfl
  refine pure_ (i := 2) (N := some 21) (v := ?_) (a' := ?_) #[true, true, true, false, false, false, false, false, false, false, false, false, false, false] rfl rfl (by kernel_rfl) (fun _ _ _ h => h) (Or.inl ⟨by rfl, ?_⟩) ?_ ?_
  rotate_left
  · intro w'
    go_simp
    with_reducible rfl
  rotate_left
  · simp only [Act.put, List.setIfInBounds_toArray, List.set_cons_zero, List.set_cons_succ, i64_w, i32_w]
    rfl
  refine pure_ (i := 4) (N := some 23) (v := ?_) (a' := ?_) #[true, true, true, false, true, false, false, false, false, false, false, false, false, false] rfl rfl (by kernel_rfl) (fun _ _ _ h => h) (Or.inl ⟨by rfl, ?_⟩) ?_ ?_
  rotate_left
  · intro w'
    go_simp
    with_reducible rfl
  rotate_left
  · simp only [Act.put, List.setIfInBounds_toArray, List.set_cons_zero, List.set_cons_succ, i64_w, i32_w]
    rfl
  refine pure_ (i := 6) (N := some 25) (v := ?_) (a' := ?_) #[true, true, true, false, true, false, true, false, false, false, false, false, false, false] rfl rfl (by kernel_rfl) (fun _ _ _ h => h) (Or.inl ⟨by rfl, ?_⟩) ?_ ?_
  rotate_left
  · intro w'
    go_simp
    with_reducible rfl
  rotate_left
  · simp only [Act.put, List.setIfInBounds_toArray, List.set_cons_zero, List.set_cons_succ, i64_w, i32_w]
    rfl
  refine pure_ (i := 7) (N := some 26) (v := ?_) (a' := ?_) #[true, true, true, false, true, false, true, true, false, false, false, false, false, false] rfl rfl (by kernel_rfl) (fun _ _ _ h => h) (Or.inl ⟨by rfl, ?_⟩) ?_ ?_
  rotate_left
  · intro w'
    go_simp
    with_reducible rfl
  rotate_left
  · simp only [Act.put, List.setIfInBounds_toArray, List.set_cons_zero, List.set_cons_succ, i64_w, i32_w]
    rfl
  refine pure_ (i := 8) (N := some 27) (v := ?_) (a' := ?_) #[true, true, true, false, true, false, true, true, true, false, false, false, false, false] rfl rfl (by kernel_rfl) (fun _ _ _ h => h) (Or.inl ⟨by rfl, ?_⟩) ?_ ?_
  rotate_left
  · intro w'
    go_simp
    with_reducible rfl
  rotate_left
  · simp only [Act.put, List.setIfInBounds_toArray, List.set_cons_zero, List.set_cons_succ, i64_w, i32_w]
    rfl
  refine pure_ (i := 10) (N := some 29) (v := ?_) (a' := ?_) #[true, true, true, false, true, false, true, true, true, false, true, false, false, false] rfl rfl (by kernel_rfl) (fun _ _ _ h => h) (Or.inl ⟨by rfl, ?_⟩) ?_ ?_
  rotate_left
  · intro w'
    go_simp
    with_reducible rfl
  rotate_left
  · simp only [Act.put, List.setIfInBounds_toArray, List.set_cons_zero, List.set_cons_succ, i64_w, i32_w]
    rfl
  refine take_ (i := 3) (N := some 22) (v := ?_) (a' := ?_) #[true, true, true, true, true, false, true, true, true, false, true, false, false, false] rfl rfl (by kernel_rfl) (fun _ _ _ h => h) (Or.inl ⟨by rfl, ?_⟩) hHeld ?_ ?_
  rotate_left
  · rintro w' ⟨s0, s1, s2⟩
    go_simp
    with_reducible rfl
  rotate_left
  · simp only [Act.put, List.setIfInBounds_toArray, List.set_cons_zero, List.set_cons_succ, i64_w, i32_w]
    rfl
  refine take_ (i := 9) (N := some 28) (v := ?_) (a' := ?_) #[true, true, true, true, true, false, true, true, true, true, true, false, false, false] rfl rfl (by kernel_rfl) (fun _ _ _ h => h) (Or.inl ⟨by rfl, ?_⟩) hHeld ?_ ?_
  rotate_left
  · rintro w' ⟨s0, s1, s2⟩
    go_simp
    with_reducible rfl
  rotate_left
  · simp only [Act.put, List.setIfInBounds_toArray, List.set_cons_zero, List.set_cons_succ, i64_w, i32_w]
    rfl
  refine one_ (i := 5) (N := some 24) #[true, true, true, true, true, true, true, true, true, true, true, false, false, false] rfl rfl (by kernel_rfl) (by decide) (fun K hK => ?_)
  obtain ⟨h0, HA, HF⟩ := hHeld
  obtain ⟨P1, S1, H1⟩ := HA.out
  refine goes_ Try.func33 (by kernel_rfl) rfl #[.slice (some ⟨bP, 0, none⟩) m.length m.length, .int .i64 (i : Int)] (by rfl) rfl rfl (by simp only [List.map_toArray, List.map_cons, List.map_nil]; rfl) ?_
  with_reducible refine (root_calls bP m.length m.length i _ P1 m _ H1.par H1.rep hi rfl H1.small).mono ?_
  rintro e w3 ⟨rfl, hc⟩
  refine ⟨_, rfl, ?_⟩
  obtain ⟨Q, h1, h2⟩ := H1.climbed hc
  clear hc
  refine hK.out _ _ ⟨h1.cell0, ⟨⟨Q, S1, h1⟩⟩, ⟨HF.out.trans h2⟩⟩ (fun hHeld => ?_)
  clear hK K
  refine norm_ (a' := ?_) ?_ ?_
  rotate_left
  · show Act.put _ (some 24) _ = _
    simp only [Act.put, List.setIfInBounds_toArray, List.set_cons_zero, List.set_cons_succ, i64_w, i32_w]
    rfl
  refine one_ (i := 11) (N := some 30) #[true, true, true, true, true, true, true, true, true, true, true, true, false, false] rfl rfl (by kernel_rfl) (by decide) (fun K hK => ?_)
  obtain ⟨h0, HA, HF⟩ := hHeld
  obtain ⟨P1, S1, H1⟩ := HA.out
  refine goes_ Try.func33 (by kernel_rfl) rfl #[.slice (some ⟨bP, 0, none⟩) m.length m.length, .int .i64 (j : Int)] (by rfl) rfl rfl (by simp only [List.map_toArray, List.map_cons, List.map_nil]; rfl) ?_
  with_reducible refine (root_calls bP m.length m.length j _ P1 m _ H1.par H1.rep hj rfl H1.small).mono ?_
  rintro e w3 ⟨rfl, hc⟩
  refine ⟨_, rfl, ?_⟩
  obtain ⟨Q, h1, h2⟩ := H1.climbed hc
  clear hc
  refine hK.out _ _ ⟨h1.cell0, ⟨⟨Q, S1, h1⟩⟩, ⟨HF.out.trans h2⟩⟩ (fun hHeld => ?_)
  clear hK K
  refine norm_ (a' := ?_) ?_ ?_
  rotate_left
  · show Act.put _ (some 30) _ = _
    simp only [Act.put, List.setIfInBounds_toArray, List.set_cons_zero, List.set_cons_succ, i64_w, i32_w]
    rfl
  refine pure_ (i := 12) (N := some 7) (v := ?_) (a' := ?_) #[true, true, true, true, true, true, true, true, true, true, true, true, true, false] rfl rfl (by kernel_rfl) (fun _ _ _ h => h) (Or.inl ⟨by rfl, ?_⟩) ?_ ?_
  rotate_left
  · intro w'
    go_simp
    with_reducible rfl
  rotate_left
  · simp only [Act.put, List.setIfInBounds_toArray, List.set_cons_zero, List.set_cons_succ, i64_w, i32_w]
    rfl
  refine pure_ (i := 13) (N := some 8) (v := ?_) (a' := ?_) #[true, true, true, true, true, true, true, true, true, true, true, true, true, true] rfl rfl (by kernel_rfl) (fun _ _ _ h => h) (Or.inl ⟨by rfl, ?_⟩) ?_ ?_
  rotate_left
  · intro w'
    go_simp
    with_reducible rfl
  rotate_left
  · simp only [Act.put, List.setIfInBounds_toArray, List.set_cons_zero, List.set_cons_succ, i64_w, i32_w]
    rfl
  refine done_ (by kernel_rfl) ?_
  obtain ⟨h0, HA, HF⟩ := hHeld
  obtain ⟨P1, S1, H1⟩ := HA.out
  have H2 := Aside0.mk H1
  clear H1 HA H Q1 Q2
  have hf := blk_free H2.out.par (gt m j)
  have hol := nv_cell H2.out.par (i := gt m j) (by have := H2.out.rep.len; omega)
  have hpair := many_pair m (r := gt m i) (s := gt m j) (by omega)
  have HG := Aside0.mk (sets_glue H2.out.rep hhi hlt HL.out HH.out)
  have hsets := sets_le m
  go_wp2
  have M1 := Aside0.mk (H2.out.mid.setPar (gt m j) (gt m i))
  have hwr : IntKind.i64.wrap ((many m (gt m i) : Int) + (many m (gt m j) : Int)) = (many m (gt m i) : Int) + (many m (gt m j) : Int) := IntWalk.i64_in _ (by omega)
  refine start_ (n := 17) (S := fun w' => w'.cell? ⟨p, 1, none⟩ = some (.slice (some ⟨bS, 0, none⟩) m.length m.length) ∧ w'.cell? ⟨bS, gt m i, none⟩ = some (.int .i64 ((many m (gt m i) : Nat) : Int)) ∧ w'.cell? ⟨bS, gt m j, none⟩ = some (.int .i64 ((many m (gt m j) : Nat) : Int)) ∧ w'.frozen? ⟨bS, gt m i, none⟩ = false) (ds := [16]) #[false, false, false, false, false, false, false, false, false, false, false, false, false, false, false, false, false] (by kernel_rfl) rfl rfl ⟨M1.out.drew.cell1, by rw [nv_cell M1.out.drew.siz (by have := H2.out.sized.len; omega), H2.out.sized.size _ hlo HL.out], by rw [nv_cell M1.out.drew.siz (by have := H2.out.sized.len; omega), H2.out.sized.size _ hhi HH.out], blk_free M1.out.drew.siz _⟩ (fun hHeld => ?_)
  refine pure_ (i := 0) (N := some 47) (v := ?_) (a' := ?_) #[true, false, false, false, false, false, false, false, false, false, false, false, false, false, false, false, false] rfl rfl (by kernel_rfl) (fun _ _ _ h => h) (Or.inl ⟨by rfl, ?_⟩) ?_ ?_
  rotate_left
  · intro w'
    go_simp
    with_reducible rfl
  rotate_left
  · simp only [Act.put, List.setIfInBounds_toArray, List.set_cons_zero, List.set_cons_succ, i64_w, i32_w]
    rfl
  refine pure_ (i := 1) (N := some 48) (v := ?_) (a' := ?_) #[true, true, false, false, false, false, false, false, false, false, false, false, false, false, false, false, false] rfl rfl (by kernel_rfl) (fun _ _ _ h => h) (Or.inl ⟨by rfl, ?_⟩) ?_ ?_
  rotate_left
  · intro w'
    go_simp
    with_reducible rfl
  rotate_left
  · simp only [Act.put, List.setIfInBounds_toArray, List.set_cons_zero, List.set_cons_succ, i64_w, i32_w]
    rfl
  refine pure_ (i := 2) (N := some 49) (v := ?_) (a' := ?_) #[true, true, true, false, false, false, false, false, false, false, false, false, false, false, false, false, false] rfl rfl (by kernel_rfl) (fun _ _ _ h => h) (Or.inl ⟨by rfl, ?_⟩) ?_ ?_
  rotate_left
  · intro w'
    go_simp
    with_reducible rfl
  rotate_left
  · simp only [Act.put, List.setIfInBounds_toArray, List.set_cons_zero, List.set_cons_succ, i64_w, i32_w]
    rfl
  refine pure_ (i := 4) (N := some 51) (v := ?_) (a' := ?_) #[true, true, true, false, true, false, false, false, false, false, false, false, false, false, false, false, false] rfl rfl (by kernel_rfl) (fun _ _ _ h => h) (Or.inl ⟨by rfl, ?_⟩) ?_ ?_
  rotate_left
  · intro w'
    go_simp
    with_reducible rfl
  rotate_left
  · simp only [Act.put, List.setIfInBounds_toArray, List.set_cons_zero, List.set_cons_succ, i64_w, i32_w]
    rfl
  refine pure_ (i := 7) (N := some 54) (v := ?_) (a' := ?_) #[true, true, true, false, true, false, false, true, false, false, false, false, false, false, false, false, false] rfl rfl (by kernel_rfl) (fun _ _ _ h => h) (Or.inl ⟨by rfl, ?_⟩) ?_ ?_
  rotate_left
  · intro w'
    go_simp
    with_reducible rfl
  rotate_left
  · simp only [Act.put, List.setIfInBounds_toArray, List.set_cons_zero, List.set_cons_succ, i64_w, i32_w]
    rfl
  refine pure_ (i := 8) (N := some 55) (v := ?_) (a' := ?_) #[true, true, true, false, true, false, false, true, true, false, false, false, false, false, false, false, false] rfl rfl (by kernel_rfl) (fun _ _ _ h => h) (Or.inl ⟨by rfl, ?_⟩) ?_ ?_
  rotate_left
  · intro w'
    go_simp
    with_reducible rfl
  rotate_left
  · simp only [Act.put, List.setIfInBounds_toArray, List.set_cons_zero, List.set_cons_succ, i64_w, i32_w]
    rfl
  refine pure_ (i := 9) (N := some 56) (v := ?_) (a' := ?_) #[true, true, true, false, true, false, false, true, true, true, false, false, false, false, false, false, false] rfl rfl (by kernel_rfl) (fun _ _ _ h => h) (Or.inl ⟨by rfl, ?_⟩) ?_ ?_
  rotate_left
  · intro w'
    go_simp
    with_reducible rfl
  rotate_left
  · simp only [Act.put, List.setIfInBounds_toArray, List.set_cons_zero, List.set_cons_succ, i64_w, i32_w]
    rfl
  refine pure_ (i := 11) (N := some 58) (v := ?_) (a' := ?_) #[true, true, true, false, true, false, false, true, true, true, false, true, false, false, false, false, false] rfl rfl (by kernel_rfl) (fun _ _ _ h => h) (Or.inl ⟨by rfl, ?_⟩) ?_ ?_
  rotate_left
  · intro w'
    go_simp
    with_reducible rfl
  rotate_left
  · simp only [Act.put, List.setIfInBounds_toArray, List.set_cons_zero, List.set_cons_succ, i64_w, i32_w]
    rfl
  refine take_ (i := 3) (N := some 50) (v := ?_) (a' := ?_) #[true, true, true, true, true, false, false, true, true, true, false, true, false, false, false, false, false] rfl rfl (by kernel_rfl) (fun _ _ _ h => h) (Or.inl ⟨by rfl, ?_⟩) hHeld ?_ ?_
  rotate_left
  · rintro w' ⟨s0, s1, s2, s3⟩
    go_simp
    with_reducible rfl
  rotate_left
  · simp only [Act.put, List.setIfInBounds_toArray, List.set_cons_zero, List.set_cons_succ, i64_w, i32_w]
    rfl
  refine pure_ (i := 5) (N := some 52) (v := ?_) (a' := ?_) #[true, true, true, true, true, true, false, true, true, true, false, true, false, false, false, false, false] rfl rfl (by kernel_rfl) (fun _ _ _ h => h) (Or.inl ⟨by rfl, ?_⟩) ?_ ?_
  rotate_left
  · intro w'
    go_simp
    with_reducible rfl
  rotate_left
  · simp only [Act.put, List.setIfInBounds_toArray, List.set_cons_zero, List.set_cons_succ, i64_w, i32_w]
    rfl
  refine take_ (i := 6) (N := some 53) (v := ?_) (a' := ?_) #[true, true, true, true, true, true, true, true, true, true, false, true, false, false, false, false, false] rfl rfl (by kernel_rfl) (fun _ _ _ h => h) (Or.inl ⟨by rfl, ?_⟩) hHeld ?_ ?_
  rotate_left
  · rintro w' ⟨s0, s1, s2, s3⟩
    go_simp
    with_reducible rfl
  rotate_left
  · simp only [Act.put, List.setIfInBounds_toArray, List.set_cons_zero, List.set_cons_succ, i64_w, i32_w]
    rfl
  refine take_ (i := 10) (N := some 57) (v := ?_) (a' := ?_) #[true, true, true, true, true, true, true, true, true, true, true, true, false, false, false, false, false] rfl rfl (by kernel_rfl) (fun _ _ _ h => h) (Or.inl ⟨by rfl, ?_⟩) hHeld ?_ ?_
  rotate_left
  · rintro w' ⟨s0, s1, s2, s3⟩
    go_simp
    with_reducible rfl
  rotate_left
  · simp only [Act.put, List.setIfInBounds_toArray, List.set_cons_zero, List.set_cons_succ, i64_w, i32_w]
    rfl
  refine pure_ (i := 12) (N := some 59) (v := ?_) (a' := ?_) #[true, true, true, true, true, true, true, true, true, true, true, true, true, false, false, false, false] rfl rfl (by kernel_rfl) (fun _ _ _ h => h) (Or.inl ⟨by rfl, ?_⟩) ?_ ?_
  rotate_left
  · intro w'
    go_simp
    with_reducible rfl
  rotate_left
  · simp only [Act.put, List.setIfInBounds_toArray, List.set_cons_zero, List.set_cons_succ, i64_w, i32_w]
    rfl
  refine take_ (i := 13) (N := some 60) (v := ?_) (a' := ?_) #[true, true, true, true, true, true, true, true, true, true, true, true, true, true, false, false, false] rfl rfl (by kernel_rfl) (fun _ _ _ h => h) (Or.inl ⟨by rfl, ?_⟩) hHeld ?_ ?_
  rotate_left
  · rintro w' ⟨s0, s1, s2, s3⟩
    go_simp
    with_reducible rfl
  rotate_left
  · simp only [Act.put, List.setIfInBounds_toArray, List.set_cons_zero, List.set_cons_succ, i64_w, i32_w]
    rfl
  refine pure_ (i := 14) (N := some 61) (v := ?_) (a' := ?_) #[true, true, true, true, true, true, true, true, true, true, true, true, true, true, true, false, false] rfl rfl (by kernel_rfl) (fun _ _ _ h => h) (Or.inl ⟨by rfl, ?_⟩) ?_ ?_
  rotate_left
  · intro w'
    go_simp
    with_reducible rfl
  rotate_left
  · simp only [Act.put, List.setIfInBounds_toArray, List.set_cons_zero, List.set_cons_succ, i64_w, i32_w]
    rfl
  refine pure_ (i := 15) (N := some 62) (v := ?_) (a' := ?_) #[true, true, true, true, true, true, true, true, true, true, true, true, true, true, true, true, false] rfl rfl (by kernel_rfl) (fun _ _ _ h => h) (Or.inl ⟨by rfl, ?_⟩) ?_ ?_
  rotate_left
  · intro w'
    go_simp
    with_reducible rfl
  rotate_left
  · simp only [Act.put, List.setIfInBounds_toArray, List.set_cons_zero, List.set_cons_succ, i64_w, i32_w]
    rfl
  refine last_ (i := 16) (N := none) #[true, true, true, true, true, true, true, true, true, true, true, true, true, true, true, true, true] rfl rfl (by kernel_rfl) (by decide) (fun K hK => ?_)
  obtain ⟨h3, h4, h5, h6⟩ := hHeld
  refine skip_ (w1 := ?_) (by rfl) rfl ?_ ?_
  rotate_left
  · go_simp
    rfl
  refine hK.out _ _ ?_
  clear hK K
  refine done_ (by kernel_rfl) ?_
  have M2 := Aside0.mk (M1.out.setSiz (gt m i) (many m (gt m i) + many m (gt m j))).drew
  clear hwr
  have e3 : (many m (gt m i) : Int) + (many m (gt m j) : Int) = ((many m (gt m i) + many m (gt m j) : Nat) : Int) := by omega
  rw [e3]
  have F2 := Aside0.mk (((HF.out.setCell (p := ⟨bP, gt m j, none⟩) (.inr (.inl rfl)) (.int .i64 ((gt m i : Nat) : Int)))).setCell (p := ⟨bS, gt m i, none⟩) (.inr (.inr rfl)) (.int .i64 ((many m (gt m i) + many m (gt m j) : Nat) : Int))).drew
  generalize (((w3.setCell ⟨bP, gt m j, none⟩ (.int .i64 ((gt m i : Nat) : Int)))).setCell ⟨bS, gt m i, none⟩ (.int .i64 ((many m (gt m i) + many m (gt m j) : Nat) : Int))).drew = w5 at M2 F2 ⊢
  clear e3
  have h9 := M2.out.cell2
  have h10 := blk_free M2.out.obj 2
  go_wp2
  go_ret
  have hg := HG.out
  have e4 : (sets m : Int) - 1 = ((sets (glue (gt m i) (gt m j) m) : Nat) : Int) := by omega
  have M3 := M2.out.setCount (sets (glue (gt m i) (gt m j) m))
  rw [← e4] at M3
  refine ⟨rfl, ⟨_, _, ⟨?_, M3.par, M3.siz, M3.ne1, M3.ne2, M3.ne3, ?_, H2.out.rep.glue hhi hlt HL.out HH.out, ?_⟩⟩, ?_⟩
  · rw [glue_length]; exact M3.obj
  · rw [glue_length]; exact hsm
  · have := H2.out.sized.glue hhi hlt HL.out HH.out
    rwa [H2.out.sized.size _ hlo HL.out, H2.out.sized.size _ hhi HH.out] at this
  · exact F2.out.setCell (p := ⟨p, 2, none⟩) (.inl rfl) _

set_option maxHeartbeats 1000000 in
theorem join_gt (p bP bS : Nat) (m P S : List Nat) (i j : Nat) (w : World) (h : AtPS w p bP bS m P S) (hi : i < m.length) (hj : j < m.length) (hlt : gt m j < gt m i) :
    Calls Try.prog 17 #[.pointer (some ⟨p, 0, none⟩), .int .i64 (i : Int), .int .i64 (j : Int)] w fun e w' => e = .returned (.bool true) ∧ Now p bP bS (glue (gt m j) (gt m i) m) w w' := by
  have H := Aside0.mk h
  have Q1 := Aside0.mk (fun W => has_keep (p := p) (bP := bP) (bS := bS) (P := P) (S := S) (ok_of hi) W)
  have Q2 := Aside0.mk (fun W => has_keep (p := p) (bP := bP) (bS := bS) (P := P) (S := S) (ok_of hj) W)
  have ht : ((gt m i : Int) == (gt m j : Int)) = false := by simp only [beq_eq_false_iff_ne]; omega
  have HL := Aside0.mk (h.rep.mm hj)
  have HH := Aside0.mk (h.rep.mm hi)
  have hlo : gt m j < m.length := by have := h.rep.ml hj; omega
  have hhi : gt m i < m.length := by have := h.rep.ml hi; omega
  have hsm := h.small
  clear h
  go_enter Try.func17, Try.ntmps17
  go_wp2_with (go_at_call 32; (first | (with_reducible refine (Q1.out _ H.out).mono ?_) | (with_reducible refine (Q2.out _ H.out).mono ?_)); rintro e w' ⟨rfl, rfl⟩)
  refine start_ (n := 14) (S := fun w' => w'.cell? ⟨p, 0, none⟩ = some (.slice (some ⟨bP, 0, none⟩) m.length m.length) ∧ Aside0 (At w' p bP bS m) ∧ Aside0 (Frame (Own p bP bS) w w')) (ds := []) #[false, false, false, false, false, false, false, false, false, false, false, false, false, false] (by kernel_rfl) rfl rfl ⟨H.out.drew.cell0, ⟨⟨P, S, H.out.drew⟩⟩, ⟨(Frame.refl _ _).drew⟩⟩ (fun hHeld => ?_)
  refine pure_ (i := 0) (N := some 19) (v := ?_) (a' := ?_) #[true, false, false, false, false, false, false, false, false, false, false, false, false, false] rfl rfl (by kernel_rfl) (fun _ _ _ h => h) (Or.inl ⟨by rfl, ?_⟩) ?_ ?_
  rotate_left
  · intro w'
    go_simp
    with_reducible rfl
  rotate_left
  · simp only [Act.put, List.setIfInBounds_toArray, List.set_cons_zero, List.set_cons_succ, i64_w, i32_w]
    rfl
  refine pure_ (i := 1) (N := some 20) (v := ?_) (a' := ?_) #[true, true, false, false, false, false, false, false, false, false, false, false, false, false] rfl rfl (by kernel_rfl) (fun _ _ _ h => h) (Or.inl ⟨by rfl, ?_⟩) ?_ ?_
  rotate_left
  · intro w'
    go_simp
    with_reducible rfl
  rotate_left
  · simp only [Act.put, List.setIfInBounds_toArray, List.set_cons_zero, List.set_cons_succ, i64_w, i32_w]
    rfl
  refine pure_ (i := 2) (N := some 21) (v := ?_) (a' := ?_) #[true, true, true, false, false, false, false, false, false, false, false, false, false, false] rfl rfl (by kernel_rfl) (fun _ _ _ h => h) (Or.inl ⟨by rfl, ?_⟩) ?_ ?_
  rotate_left
  · intro w'
    go_simp
    with_reducible rfl
  rotate_left
  · simp only [Act.put, List.setIfInBounds_toArray, List.set_cons_zero, List.set_cons_succ, i64_w, i32_w]
    rfl
  refine pure_ (i := 4) (N := some 23) (v := ?_) (a' := ?_) #[true, true, true, false, true, false, false, false, false, false, false, false, false, false] rfl rfl (by kernel_rfl) (fun _ _ _ h => h) (Or.inl ⟨by rfl, ?_⟩) ?_ ?_
  rotate_left
  · intro w'
    go_simp
    with_reducible rfl
  rotate_left
  · simp only [Act.put, List.setIfInBounds_toArray, List.set_cons_zero, List.set_cons_succ, i64_w, i32_w]
    rfl
  refine pure_ (i := 6) (N := some 25) (v := ?_) (a' := ?_) #[true, true, true, false, true, false, true, false, false, false, false, false, false, false] rfl rfl (by kernel_rfl) (fun _ _ _ h => h) (Or.inl ⟨by rfl, ?_⟩) ?_ ?_
  rotate_left
  · intro w'
    go_simp
    with_reducible rfl
  rotate_left
  · simp only [Act.put, List.setIfInBounds_toArray, List.set_cons_zero, List.set_cons_succ, i64_w, i32_w]
    rfl
  refine pure_ (i := 7) (N := some 26) (v := ?_) (a' := ?_) #[true, true, true, false, true, false, true, true, false, false, false, false, false, false] rfl rfl (by kernel_rfl) (fun _ _ _ h => h) (Or.inl ⟨by rfl, ?_⟩) ?_ ?_
  rotate_left
  · intro w'
    go_simp
    with_reducible rfl
  rotate_left
  · simp only [Act.put, List.setIfInBounds_toArray, List.set_cons_zero, List.set_cons_succ, i64_w, i32_w]
    rfl
  refine pure_ (i := 8) (N := some 27) (v := ?_) (a' := ?_) #[true, true, true, false, true, false, true, true, true, false, false, false, false, false] rfl rfl (by kernel_rfl) (fun _ _ _ h => h) (Or.inl ⟨by rfl, ?_⟩) ?_ ?_
  rotate_left
  · intro w'
    go_simp
    with_reducible rfl
  rotate_left
  · simp only [Act.put, List.setIfInBounds_toArray, List.set_cons_zero, List.set_cons_succ, i64_w, i32_w]
    rfl
  refine pure_ (i := 10) (N := some 29) (v := ?_) (a' := ?_) #[true, true, true, false, true, false, true, true, true, false, true, false, false, false] rfl rfl (by kernel_rfl) (fun _ _ _ h => h) (Or.inl ⟨by rfl, ?_⟩) ?_ ?_
  rotate_left
  · intro w'
    go_simp
    with_reducible rfl
  rotate_left
  · simp only [Act.put, List.setIfInBounds_toArray, List.set_cons_zero, List.set_cons_succ, i64_w, i32_w]
    rfl
  refine take_ (i := 3) (N := some 22) (v := ?_) (a' := ?_) #[true, true, true, true, true, false, true, true, true, false, true, false, false, false] rfl rfl (by kernel_rfl) (fun _ _ _ h => h) (Or.inl ⟨by rfl, ?_⟩) hHeld ?_ ?_
  rotate_left
  · rintro w' ⟨s0, s1, s2⟩
    go_simp
    with_reducible rfl
  rotate_left
  · simp only [Act.put, List.setIfInBounds_toArray, List.set_cons_zero, List.set_cons_succ, i64_w, i32_w]
    rfl
  refine take_ (i := 9) (N := some 28) (v := ?_) (a' := ?_) #[true, true, true, true, true, false, true, true, true, true, true, false, false, false] rfl rfl (by kernel_rfl) (fun _ _ _ h => h) (Or.inl ⟨by rfl, ?_⟩) hHeld ?_ ?_
  rotate_left
  · rintro w' ⟨s0, s1, s2⟩
    go_simp
    with_reducible rfl
  rotate_left
  · simp only [Act.put, List.setIfInBounds_toArray, List.set_cons_zero, List.set_cons_succ, i64_w, i32_w]
    rfl
  refine one_ (i := 5) (N := some 24) #[true, true, true, true, true, true, true, true, true, true, true, false, false, false] rfl rfl (by kernel_rfl) (by decide) (fun K hK => ?_)
  obtain ⟨h0, HA, HF⟩ := hHeld
  obtain ⟨P1, S1, H1⟩ := HA.out
  refine goes_ Try.func33 (by kernel_rfl) rfl #[.slice (some ⟨bP, 0, none⟩) m.length m.length, .int .i64 (i : Int)] (by rfl) rfl rfl (by simp only [List.map_toArray, List.map_cons, List.map_nil]; rfl) ?_
  with_reducible refine (root_calls bP m.length m.length i _ P1 m _ H1.par H1.rep hi rfl H1.small).mono ?_
  rintro e w3 ⟨rfl, hc⟩
  refine ⟨_, rfl, ?_⟩
  obtain ⟨Q, h1, h2⟩ := H1.climbed hc
  clear hc
  refine hK.out _ _ ⟨h1.cell0, ⟨⟨Q, S1, h1⟩⟩, ⟨HF.out.trans h2⟩⟩ (fun hHeld => ?_)
  clear hK K
  refine norm_ (a' := ?_) ?_ ?_
  rotate_left
  · show Act.put _ (some 24) _ = _
    simp only [Act.put, List.setIfInBounds_toArray, List.set_cons_zero, List.set_cons_succ, i64_w, i32_w]
    rfl
  refine one_ (i := 11) (N := some 30) #[true, true, true, true, true, true, true, true, true, true, true, true, false, false] rfl rfl (by kernel_rfl) (by decide) (fun K hK => ?_)
  obtain ⟨h0, HA, HF⟩ := hHeld
  obtain ⟨P1, S1, H1⟩ := HA.out
  refine goes_ Try.func33 (by kernel_rfl) rfl #[.slice (some ⟨bP, 0, none⟩) m.length m.length, .int .i64 (j : Int)] (by rfl) rfl rfl (by simp only [List.map_toArray, List.map_cons, List.map_nil]; rfl) ?_
  with_reducible refine (root_calls bP m.length m.length j _ P1 m _ H1.par H1.rep hj rfl H1.small).mono ?_
  rintro e w3 ⟨rfl, hc⟩
  refine ⟨_, rfl, ?_⟩
  obtain ⟨Q, h1, h2⟩ := H1.climbed hc
  clear hc
  refine hK.out _ _ ⟨h1.cell0, ⟨⟨Q, S1, h1⟩⟩, ⟨HF.out.trans h2⟩⟩ (fun hHeld => ?_)
  clear hK K
  refine norm_ (a' := ?_) ?_ ?_
  rotate_left
  · show Act.put _ (some 30) _ = _
    simp only [Act.put, List.setIfInBounds_toArray, List.set_cons_zero, List.set_cons_succ, i64_w, i32_w]
    rfl
  refine pure_ (i := 12) (N := some 7) (v := ?_) (a' := ?_) #[true, true, true, true, true, true, true, true, true, true, true, true, true, false] rfl rfl (by kernel_rfl) (fun _ _ _ h => h) (Or.inl ⟨by rfl, ?_⟩) ?_ ?_
  rotate_left
  · intro w'
    go_simp
    with_reducible rfl
  rotate_left
  · simp only [Act.put, List.setIfInBounds_toArray, List.set_cons_zero, List.set_cons_succ, i64_w, i32_w]
    rfl
  refine pure_ (i := 13) (N := some 8) (v := ?_) (a' := ?_) #[true, true, true, true, true, true, true, true, true, true, true, true, true, true] rfl rfl (by kernel_rfl) (fun _ _ _ h => h) (Or.inl ⟨by rfl, ?_⟩) ?_ ?_
  rotate_left
  · intro w'
    go_simp
    with_reducible rfl
  rotate_left
  · simp only [Act.put, List.setIfInBounds_toArray, List.set_cons_zero, List.set_cons_succ, i64_w, i32_w]
    rfl
  refine done_ (by kernel_rfl) ?_
  obtain ⟨h0, HA, HF⟩ := hHeld
  obtain ⟨P1, S1, H1⟩ := HA.out
  have H2 := Aside0.mk H1
  clear H1 HA H Q1 Q2
  have hf := blk_free H2.out.par (gt m i)
  have hol := nv_cell H2.out.par (i := gt m i) (by have := H2.out.rep.len; omega)
  have hpair := many_pair m (r := gt m j) (s := gt m i) (by omega)
  have HG := Aside0.mk (sets_glue H2.out.rep hhi hlt HL.out HH.out)
  have hsets := sets_le m
  go_wp2
  have M1 := Aside0.mk (H2.out.mid.setPar (gt m i) (gt m j))
  have hwr : IntKind.i64.wrap ((many m (gt m j) : Int) + (many m (gt m i) : Int)) = (many m (gt m j) : Int) + (many m (gt m i) : Int) := IntWalk.i64_in _ (by omega)
  refine start_ (n := 17) (S := fun w' => w'.cell? ⟨p, 1, none⟩ = some (.slice (some ⟨bS, 0, none⟩) m.length m.length) ∧ w'.cell? ⟨bS, gt m j, none⟩ = some (.int .i64 ((many m (gt m j) : Nat) : Int)) ∧ w'.cell? ⟨bS, gt m i, none⟩ = some (.int .i64 ((many m (gt m i) : Nat) : Int)) ∧ w'.frozen? ⟨bS, gt m j, none⟩ = false) (ds := [16]) #[false, false, false, false, false, false, false, false, false, false, false, false, false, false, false, false, false] (by kernel_rfl) rfl rfl ⟨M1.out.drew.cell1, by rw [nv_cell M1.out.drew.siz (by have := H2.out.sized.len; omega), H2.out.sized.size _ hlo HL.out], by rw [nv_cell M1.out.drew.siz (by have := H2.out.sized.len; omega), H2.out.sized.size _ hhi HH.out], blk_free M1.out.drew.siz _⟩ (fun hHeld => ?_)
  refine pure_ (i := 0) (N := some 47) (v := ?_) (a' := ?_) #[true, false, false, false, false, false, false, false, false, false, false, false, false, false, false, false, false] rfl rfl (by kernel_rfl) (fun _ _ _ h => h) (Or.inl ⟨by rfl, ?_⟩) ?_ ?_
  rotate_left
  · intro w'
    go_simp
    with_reducible rfl
  rotate_left
  · simp only [Act.put, List.setIfInBounds_toArray, List.set_cons_zero, List.set_cons_succ, i64_w, i32_w]
    rfl
  refine pure_ (i := 1) (N := some 48) (v := ?_) (a' := ?_) #[true, true, false, false, false, false, false, false, false, false, false, false, false, false, false, false, false] rfl rfl (by kernel_rfl) (fun _ _ _ h => h) (Or.inl ⟨by rfl, ?_⟩) ?_ ?_
  rotate_left
  · intro w'
    go_simp
    with_reducible rfl
  rotate_left
  · simp only [Act.put, List.setIfInBounds_toArray, List.set_cons_zero, List.set_cons_succ, i64_w, i32_w]
    rfl
  refine pure_ (i := 2) (N := some 49) (v := ?_) (a' := ?_) #[true, true, true, false, false, false, false, false, false, false, false, false, false, false, false, false, false] rfl rfl (by kernel_rfl) (fun _ _ _ h => h) (Or.inl ⟨by rfl, ?_⟩) ?_ ?_
  rotate_left
  · intro w'
    go_simp
    with_reducible rfl
  rotate_left
  · simp only [Act.put, List.setIfInBounds_toArray, List.set_cons_zero, List.set_cons_succ, i64_w, i32_w]
    rfl
  refine pure_ (i := 4) (N := some 51) (v := ?_) (a' := ?_) #[true, true, true, false, true, false, false, false, false, false, false, false, false, false, false, false, false] rfl rfl (by kernel_rfl) (fun _ _ _ h => h) (Or.inl ⟨by rfl, ?_⟩) ?_ ?_
  rotate_left
  · intro w'
    go_simp
    with_reducible rfl
  rotate_left
  · simp only [Act.put, List.setIfInBounds_toArray, List.set_cons_zero, List.set_cons_succ, i64_w, i32_w]
    rfl
  refine pure_ (i := 7) (N := some 54) (v := ?_) (a' := ?_) #[true, true, true, false, true, false, false, true, false, false, false, false, false, false, false, false, false] rfl rfl (by kernel_rfl) (fun _ _ _ h => h) (Or.inl ⟨by rfl, ?_⟩) ?_ ?_
  rotate_left
  · intro w'
    go_simp
    with_reducible rfl
  rotate_left
  · simp only [Act.put, List.setIfInBounds_toArray, List.set_cons_zero, List.set_cons_succ, i64_w, i32_w]
    rfl
  refine pure_ (i := 8) (N := some 55) (v := ?_) (a' := ?_) #[true, true, true, false, true, false, false, true, true, false, false, false, false, false, false, false, false] rfl rfl (by kernel_rfl) (fun _ _ _ h => h) (Or.inl ⟨by rfl, ?_⟩) ?_ ?_
  rotate_left
  · intro w'
    go_simp
    with_reducible rfl
  rotate_left
  · simp only [Act.put, List.setIfInBounds_toArray, List.set_cons_zero, List.set_cons_succ, i64_w, i32_w]
    rfl
  refine pure_ (i := 9) (N := some 56) (v := ?_) (a' := ?_) #[true, true, true, false, true, false, false, true, true, true, false, false, false, false, false, false, false] rfl rfl (by kernel_rfl) (fun _ _ _ h => h) (Or.inl ⟨by rfl, ?_⟩) ?_ ?_
  rotate_left
  · intro w'
    go_simp
    with_reducible rfl
  rotate_left
  · simp only [Act.put, List.setIfInBounds_toArray, List.set_cons_zero, List.set_cons_succ, i64_w, i32_w]
    rfl
  refine pure_ (i := 11) (N := some 58) (v := ?_) (a' := ?_) #[true, true, true, false, true, false, false, true, true, true, false, true, false, false, false, false, false] rfl rfl (by kernel_rfl) (fun _ _ _ h => h) (Or.inl ⟨by rfl, ?_⟩) ?_ ?_
  rotate_left
  · intro w'
    go_simp
    with_reducible rfl
  rotate_left
  · simp only [Act.put, List.setIfInBounds_toArray, List.set_cons_zero, List.set_cons_succ, i64_w, i32_w]
    rfl
  refine take_ (i := 3) (N := some 50) (v := ?_) (a' := ?_) #[true, true, true, true, true, false, false, true, true, true, false, true, false, false, false, false, false] rfl rfl (by kernel_rfl) (fun _ _ _ h => h) (Or.inl ⟨by rfl, ?_⟩) hHeld ?_ ?_
  rotate_left
  · rintro w' ⟨s0, s1, s2, s3⟩
    go_simp
    with_reducible rfl
  rotate_left
  · simp only [Act.put, List.setIfInBounds_toArray, List.set_cons_zero, List.set_cons_succ, i64_w, i32_w]
    rfl
  refine pure_ (i := 5) (N := some 52) (v := ?_) (a' := ?_) #[true, true, true, true, true, true, false, true, true, true, false, true, false, false, false, false, false] rfl rfl (by kernel_rfl) (fun _ _ _ h => h) (Or.inl ⟨by rfl, ?_⟩) ?_ ?_
  rotate_left
  · intro w'
    go_simp
    with_reducible rfl
  rotate_left
  · simp only [Act.put, List.setIfInBounds_toArray, List.set_cons_zero, List.set_cons_succ, i64_w, i32_w]
    rfl
  refine take_ (i := 6) (N := some 53) (v := ?_) (a' := ?_) #[true, true, true, true, true, true, true, true, true, true, false, true, false, false, false, false, false] rfl rfl (by kernel_rfl) (fun _ _ _ h => h) (Or.inl ⟨by rfl, ?_⟩) hHeld ?_ ?_
  rotate_left
  · rintro w' ⟨s0, s1, s2, s3⟩
    go_simp
    with_reducible rfl
  rotate_left
  · simp only [Act.put, List.setIfInBounds_toArray, List.set_cons_zero, List.set_cons_succ, i64_w, i32_w]
    rfl
  refine take_ (i := 10) (N := some 57) (v := ?_) (a' := ?_) #[true, true, true, true, true, true, true, true, true, true, true, true, false, false, false, false, false] rfl rfl (by kernel_rfl) (fun _ _ _ h => h) (Or.inl ⟨by rfl, ?_⟩) hHeld ?_ ?_
  rotate_left
  · rintro w' ⟨s0, s1, s2, s3⟩
    go_simp
    with_reducible rfl
  rotate_left
  · simp only [Act.put, List.setIfInBounds_toArray, List.set_cons_zero, List.set_cons_succ, i64_w, i32_w]
    rfl
  refine pure_ (i := 12) (N := some 59) (v := ?_) (a' := ?_) #[true, true, true, true, true, true, true, true, true, true, true, true, true, false, false, false, false] rfl rfl (by kernel_rfl) (fun _ _ _ h => h) (Or.inl ⟨by rfl, ?_⟩) ?_ ?_
  rotate_left
  · intro w'
    go_simp
    with_reducible rfl
  rotate_left
  · simp only [Act.put, List.setIfInBounds_toArray, List.set_cons_zero, List.set_cons_succ, i64_w, i32_w]
    rfl
  refine take_ (i := 13) (N := some 60) (v := ?_) (a' := ?_) #[true, true, true, true, true, true, true, true, true, true, true, true, true, true, false, false, false] rfl rfl (by kernel_rfl) (fun _ _ _ h => h) (Or.inl ⟨by rfl, ?_⟩) hHeld ?_ ?_
  rotate_left
  · rintro w' ⟨s0, s1, s2, s3⟩
    go_simp
    with_reducible rfl
  rotate_left
  · simp only [Act.put, List.setIfInBounds_toArray, List.set_cons_zero, List.set_cons_succ, i64_w, i32_w]
    rfl
  refine pure_ (i := 14) (N := some 61) (v := ?_) (a' := ?_) #[true, true, true, true, true, true, true, true, true, true, true, true, true, true, true, false, false] rfl rfl (by kernel_rfl) (fun _ _ _ h => h) (Or.inl ⟨by rfl, ?_⟩) ?_ ?_
  rotate_left
  · intro w'
    go_simp
    with_reducible rfl
  rotate_left
  · simp only [Act.put, List.setIfInBounds_toArray, List.set_cons_zero, List.set_cons_succ, i64_w, i32_w]
    rfl
  refine pure_ (i := 15) (N := some 62) (v := ?_) (a' := ?_) #[true, true, true, true, true, true, true, true, true, true, true, true, true, true, true, true, false] rfl rfl (by kernel_rfl) (fun _ _ _ h => h) (Or.inl ⟨by rfl, ?_⟩) ?_ ?_
  rotate_left
  · intro w'
    go_simp
    with_reducible rfl
  rotate_left
  · simp only [Act.put, List.setIfInBounds_toArray, List.set_cons_zero, List.set_cons_succ, i64_w, i32_w]
    rfl
  refine last_ (i := 16) (N := none) #[true, true, true, true, true, true, true, true, true, true, true, true, true, true, true, true, true] rfl rfl (by kernel_rfl) (by decide) (fun K hK => ?_)
  obtain ⟨h3, h4, h5, h6⟩ := hHeld
  refine skip_ (w1 := ?_) (by rfl) rfl ?_ ?_
  rotate_left
  · go_simp
    rfl
  refine hK.out _ _ ?_
  clear hK K
  refine done_ (by kernel_rfl) ?_
  have M2 := Aside0.mk (M1.out.setSiz (gt m j) (many m (gt m j) + many m (gt m i))).drew
  clear hwr
  have e3 : (many m (gt m j) : Int) + (many m (gt m i) : Int) = ((many m (gt m j) + many m (gt m i) : Nat) : Int) := by omega
  rw [e3]
  have F2 := Aside0.mk (((HF.out.setCell (p := ⟨bP, gt m i, none⟩) (.inr (.inl rfl)) (.int .i64 ((gt m j : Nat) : Int)))).setCell (p := ⟨bS, gt m j, none⟩) (.inr (.inr rfl)) (.int .i64 ((many m (gt m j) + many m (gt m i) : Nat) : Int))).drew
  generalize (((w3.setCell ⟨bP, gt m i, none⟩ (.int .i64 ((gt m j : Nat) : Int)))).setCell ⟨bS, gt m j, none⟩ (.int .i64 ((many m (gt m j) + many m (gt m i) : Nat) : Int))).drew = w5 at M2 F2 ⊢
  clear e3
  have h9 := M2.out.cell2
  have h10 := blk_free M2.out.obj 2
  go_wp2
  go_ret
  have hg := HG.out
  have e4 : (sets m : Int) - 1 = ((sets (glue (gt m j) (gt m i) m) : Nat) : Int) := by omega
  have M3 := M2.out.setCount (sets (glue (gt m j) (gt m i) m))
  rw [← e4] at M3
  refine ⟨rfl, ⟨_, _, ⟨?_, M3.par, M3.siz, M3.ne1, M3.ne2, M3.ne3, ?_, H2.out.rep.glue hhi hlt HL.out HH.out, ?_⟩⟩, ?_⟩
  · rw [glue_length]; exact M3.obj
  · rw [glue_length]; exact hsm
  · have := H2.out.sized.glue hhi hlt HL.out HH.out
    rwa [H2.out.sized.size _ hlo HL.out, H2.out.sized.size _ hhi HH.out] at this
  · exact F2.out.setCell (p := ⟨p, 2, none⟩) (.inl rfl) _

theorem join_calls (p bP bS : Nat) (m P S : List Nat) (a b : Int) (w : World) (h : AtPS w p bP bS m P S) :
    Calls Try.prog 17 #[.pointer (some ⟨p, 0, none⟩), .int .i64 a, .int .i64 b] w fun e w' => e = .returned (.bool (joinOf m a b).2) ∧ Now p bP bS (joinOf m a b).1 w w' := by
  cases hk : ok m a && ok m b
  · exact join_no p bP bS m P S a b w h hk
  · rw [Bool.and_eq_true] at hk
    obtain ⟨i, rfl, hi⟩ := ok_nat hk.1
    obtain ⟨j, rfl, hj⟩ := ok_nat hk.2
    rcases Nat.lt_trichotomy (gt m i) (gt m j) with hlt | heq | hgt
    · have e : joinOf m i j = (glue (gt m i) (gt m j) m, true) := by
        unfold joinOf
        rw [if_pos (by simp [hk.1, hk.2]; omega)]
        simp only [Int.toNat_natCast]
        rw [Nat.min_eq_left (by omega), Nat.max_eq_right (by omega)]
      rw [e]; exact join_lt p bP bS m P S i j w h hi hj hlt
    · exact join_same p bP bS m P S i j w h hi hj heq
    · have e : joinOf m i j = (glue (gt m j) (gt m i) m, true) := by
        unfold joinOf
        rw [if_pos (by simp [hk.1, hk.2]; omega)]
        simp only [Int.toNat_natCast]
        rw [Nat.min_eq_right (by omega), Nat.max_eq_left (by omega)]
      rw [e]; exact join_gt p bP bS m P S i j w h hi hj hgt
end Go.Proofs.Ytoajoklpbfehiaa.Sets
