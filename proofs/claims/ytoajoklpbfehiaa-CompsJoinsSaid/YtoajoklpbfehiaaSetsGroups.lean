/- DERIVED. The walk of the method Groups of comps.Sets. -/
import Derived.Test.YtoajoklpbfehiaaSetsNum
namespace Go.Proofs.Ytoajoklpbfehiaa.Sets
open Go.RowKit Go.Proofs.YtoajoklpbfehiaaW.PrintWords Go.Proofs.YtoajoklpbfehiaaW.PrintLast Go.Proofs.YtoajoklpbfehiaaW.PrintMore
set_option linter.unusedVariables false
set_option linter.unusedSimpArgs false

/-- the list at a place -/
def gl (gs : List (List Nat)) (j : Nat) : List Nat := gs.getD j []
/-- the value at a place -/
def va (vs : List Value) (j : Nat) : Value := vs.getD j (.slice none 0 0)
theorem gl_set (gs : List (List Nat)) (i j : Nat) (x : List Nat) : gl (gs.set i x) j = if i = j ∧ j < gs.length then x else gl gs j := by
  unfold gl
  simp only [List.getD_eq_getElem?_getD, List.getElem?_set]
  by_cases h : i = j
  · subst h
    by_cases h2 : i < gs.length <;> simp [h2]
  · simp [h]
theorem va_set (gs : List Value) (i j : Nat) (x : Value) : va (gs.set i x) j = if i = j ∧ j < gs.length then x else va gs j := by
  unfold va
  simp only [List.getD_eq_getElem?_getD, List.getElem?_set]
  by_cases h : i = j
  · subst h
    by_cases h2 : i < gs.length <;> simp [h2]
  · simp [h]
/-- a list's numbers as values -/
def iv (l : List Nat) : List Value := l.map fun (x : Nat) => Value.int .i64 (x : Int)
/-- rows of numbers of the call's own, and the row of them -/
structure GRows (w : World) (B bo : Nat) (vs : List Value) (gs : List (List Nat)) : Prop where
  len : vs.length = gs.length
  out : w.heap[bo]? = some (.cells vs.toArray 34 (0, 0))
  own : ∀ j, j < gs.length → w.ownsRow B 3 1 (va vs j) (gl gs j).length (iv (gl gs j))
  apart : ∀ i j, i < gs.length → j < gs.length → i ≠ j → ∀ k, (va vs i).ownBlock = some k → (va vs j).ownBlock ≠ some k
  lt : bo < B
  base : B ≤ w.heap.size
theorem own_lt {w : World} {B e s n : Nat} {v : Value} {xs : List Value} (h : w.ownsRow B e s v n xs) {k : Nat} (hk : v.ownBlock = some k) : B ≤ k ∧ k < w.heap.size := h.lt k hk
theorem own_form {w : World} {base e size n : Nat} {v : Value} {xs : List Value} (h : w.ownsRow base e size v n xs) : ∃ A c, v = .slice A n c := by
  rcases h.2 with ⟨rfl, rfl⟩ | ⟨g, cap, cur, rfl, _⟩
  · exact ⟨none, 0, rfl⟩
  · exact ⟨_, _, rfl⟩
theorem own_move' {w w1 : World} {base : Nat} {e : TypeId} {size n : Nat} {v : Value} {xs : List Value} (h : w.ownsRow base e size v n xs) (hm : ∀ k, v.ownBlock = some k → w1.heap[k]? = w.heap[k]?) : w1.ownsRow base e size v n xs := own_move h hm
theorem GRows.frame {w w' : World} {B bo : Nat} {vs : List Value} {gs : List (List Nat)} (h : GRows w B bo vs gs) (hs : w.heap.size ≤ w'.heap.size) (hb : ∀ k, B ≤ k → k < w.heap.size → w'.heap[k]? = w.heap[k]?) (ho : w'.heap[bo]? = w.heap[bo]?) : GRows w' B bo vs gs :=
  ⟨h.len, ho.trans h.out, fun j hj => own_move' (h.own j hj) (fun k hk => hb k (own_lt (h.own j hj) hk).1 (own_lt (h.own j hj) hk).2), h.apart, h.lt, Nat.le_trans h.base hs⟩
theorem GRows.alloc {w : World} {B bo : Nat} {vs : List Value} {gs : List (List Nat)} (h : GRows w B bo vs gs) (o : Obj) : GRows (w.alloc o) B bo vs gs :=
  h.frame (by simp) (fun k _ hk => Below.heap_alloc _ _ _ hk) (Below.heap_alloc _ _ _ (blk_lt h.out))
theorem GRows.cell {w : World} {B bo : Nat} {vs : List Value} {gs : List (List Nat)} (h : GRows w B bo vs gs) {j : Nat} (hj : j < gs.length) : w.cell? ⟨bo, j, none⟩ = some (va vs j) := by
  have hl := h.len
  simp [World.cell?, h.out, va, List.getD_eq_getElem?_getD, show j < vs.length by omega]
/-- one more at the end of row k -/
theorem GRows.put {w w1 : World} {B bo : Nat} {vs : List Value} {gs : List (List Nat)} (h : GRows w B bo vs gs) {k : Nat} (hk : k < gs.length) {v' : Value} {a : Nat}
    (hown : w1.ownsRow B 3 1 v' ((gl gs k).length + 1) (iv (gl gs k) ++ [.int .i64 (a : Int)])) (hg : w.grownBy w1 (va vs k).ownBlock) (hat : v'.ownBlock = (va vs k).ownBlock ∨ v'.ownBlock = some w.heap.size) :
    GRows (w1.setCell ⟨bo, k, none⟩ v') B bo (vs.set k v') (gs.set k (gl gs k ++ [a])) := by
  have hl := h.len
  have hlt := h.lt
  have hne : ∀ q, (va vs k).ownBlock = some q → q ≠ bo := fun q hq e => by have := (own_lt (h.own k hk) hq).1; omega
  have ho1 : w1.heap[bo]? = some (.cells vs.toArray 34 (0, 0)) := (hg.block bo (blk_lt h.out) (fun e => hne bo e.symm rfl)).trans h.out
  refine ⟨by simp [h.len], ?_, ?_, ?_, h.lt, by have := h.base; have := hg.size; simp [World.setCell]; omega⟩
  · rw [blk_setCell ho1]; simp
  · intro j hj
    rw [List.length_set] at hj
    rw [gl_set, va_set]
    by_cases hkj : k = j
    · subst hkj
      rw [if_pos ⟨rfl, by omega⟩, if_pos ⟨rfl, hj⟩]
      have e1 : iv (gl gs k ++ [a]) = iv (gl gs k) ++ [.int .i64 (a : Int)] := by simp [iv]
      rw [List.length_append, List.length_singleton, e1]
      exact own_move' hown (fun q hq => Below.heap_setCell _ _ _ _ (fun e => by have := (own_lt hown hq).1; simp at e; omega))
    · rw [if_neg (by simp [hkj]), if_neg (by simp [hkj])]
      refine own_move' (h.own j hj) (fun q hq => ?_)
      have hq2 := own_lt (h.own j hj) hq
      rw [Below.heap_setCell _ _ _ _ (fun e => by simp at e; omega)]
      exact hg.block q hq2.2 (fun e => h.apart k j hk hj hkj q e.symm hq)
  · intro i j hi hj hij q hq
    rw [List.length_set] at hi hj
    rw [va_set] at hq
    rw [va_set]
    by_cases hki : k = i
    · subst hki
      rw [if_pos ⟨rfl, by omega⟩] at hq
      rw [if_neg (by simp [hij])]
      intro hq2
      rcases hat with e | e
      · exact h.apart k j hi hj hij q (e ▸ hq) hq2
      · have := (own_lt (h.own j hj) hq2).2
        rw [hq] at e
        simp at e; omega
    · rw [if_neg (by simp [hki])] at hq
      by_cases hkj : k = j
      · subst hkj
        rw [if_pos ⟨rfl, by omega⟩]
        intro hq2
        rcases hat with e | e
        · exact h.apart i k hi hj hij q hq (e ▸ hq2)
        · have := (own_lt (h.own i hi) hq).2
          rw [hq2] at e
          simp at e; omega
      · rw [if_neg (by simp [hkj])]
        exact h.apart i j hi hj hij q hq
/-- the groups of the first k numbers, each at its place -/
def grpTo (nums : List Nat) (c : Nat) : Nat → List (List Nat)
  | 0 => List.replicate c []
  | k + 1 => (grpTo nums c k).set (gt nums k) (gl (grpTo nums c k) (gt nums k) ++ [k])
theorem grpTo_length (nums : List Nat) (c k : Nat) : (grpTo nums c k).length = c := by
  induction k with
  | zero => simp [grpTo]
  | succ k ih => simp [grpTo, ih]
theorem grpTo_le (nums : List Nat) (c k : Nat) : ∀ j, (gl (grpTo nums c k) j).length ≤ k := by
  induction k with
  | zero => intro j; unfold grpTo gl; rw [List.getD_eq_getElem?_getD, List.getElem?_replicate]; split <;> simp
  | succ k ih =>
    intro j
    unfold grpTo
    rw [gl_set]; split
    · rw [List.length_append, List.length_singleton]; exact Nat.succ_le_succ (ih _)
    · exact Nat.le_succ_of_le (ih j)
theorem gt_snoc_lt {l : List Nat} {x i : Nat} (h : i < l.length) : gt (l ++ [x]) i = gt l i := by
  unfold gt; simp only [List.getD_eq_getElem?_getD]; rw [List.getElem?_append_left h]
theorem gt_snoc_eq {l : List Nat} {x i : Nat} (h : i = l.length) : gt (l ++ [x]) i = x := by
  subst h
  unfold gt; simp
theorem numTo_lt (m : List Nat) : ∀ (k i : Nat), i < k → gt (numTo m k).1 i < (numTo m k).2 := by
  intro k
  induction k with
  | zero => intro i h; omega
  | succ k ih =>
    intro i hi
    have hl := numTo_length m k
    by_cases hlt : gt m k < k
    · have e : numTo m (k + 1) = ((numTo m k).1 ++ [gt (numTo m k).1 (gt m k)], (numTo m k).2) := by conv => lhs; unfold numTo; rw [if_pos hlt]
      rw [e]
      show gt ((numTo m k).1 ++ [gt (numTo m k).1 (gt m k)]) i < (numTo m k).2
      by_cases hik : i < k
      · rw [gt_snoc_lt (by omega)]; exact ih i hik
      · rw [gt_snoc_eq (by omega)]; exact ih _ hlt
    · have e : numTo m (k + 1) = ((numTo m k).1 ++ [(numTo m k).2], (numTo m k).2 + 1) := by conv => lhs; unfold numTo; rw [if_neg hlt]
      rw [e]
      show gt ((numTo m k).1 ++ [(numTo m k).2]) i < (numTo m k).2 + 1
      by_cases hik : i < k
      · rw [gt_snoc_lt (by omega)]; have := ih i hik; omega
      · rw [gt_snoc_eq (by omega)]; omega
theorem info_ints : (Try.prog.info? 34).map (fun i => (i.zero, i.size, i.bytes)) = some (some (.slice none 0 0), 1, 24) := by kernel_rfl
theorem made_nil (n : Nat) : madeCells #[.slice none 0 0] n = Array.replicate n (Value.slice none 0 0) := by
  apply Array.ext
  · simp [madeCells]
  · intro i h1 h2
    simp [madeCells, Nat.mod_one]
theorem GRows.start {w : World} (n : Nat) : GRows (w.alloc (.cells (Array.replicate n (Value.slice none 0 0)) 34 (0, 0))) (w.heap.size + 1) w.heap.size (List.replicate n (.slice none 0 0)) (List.replicate n []) := by
  have g : ∀ j, va (List.replicate n (.slice none 0 0)) j = .slice none 0 0 := fun j => by unfold va; rw [List.getD_eq_getElem?_getD, List.getElem?_replicate]; split <;> rfl
  have g2 : ∀ j, gl (List.replicate n []) j = [] := fun j => by unfold gl; rw [List.getD_eq_getElem?_getD, List.getElem?_replicate]; split <;> rfl
  refine ⟨by simp, by simpa using heap_last w (.cells (Array.replicate n (Value.slice none 0 0)) 34 (0, 0)), fun j _ => ?_, fun i j _ _ _ k hk => ?_, by omega, by simp⟩
  · rw [g, g2]; exact World.ownsRow_nil _ _ _ _
  · rw [g] at hk; simp [Value.ownBlock] at hk

/-- what Groups makes -/
def groupsOf (m : List Nat) : List (List Nat) := grpTo (numTo m m.length).1 (numTo m m.length).2 m.length

set_option maxHeartbeats 1000000 in
theorem groups_calls (p bP bS : Nat) (m P S : List Nat) (w : World) (h : AtPS w p bP bS m P S) :
    Calls Try.prog 23 #[.pointer (some ⟨p, 0, none⟩)] w fun e w' => ∃ (B bo : Nat) (vs : List Value), e = .returned (.slice (some ⟨bo, 0, none⟩) (numTo m m.length).2 (numTo m m.length).2) ∧ w.heap.size ≤ bo ∧ GRows w' B bo vs (groupsOf m) ∧ Now p bP bS m w w' := by
  have H := Aside0.mk h
  have hs := h.small
  have hc := numTo_le m m.length
  clear h
  go_enter Try.func23, Try.ntmps23
  go_wp2_with fail
  refine (numbers_calls p bP bS m P S _ H.out).mono ?_
  rintro e w1 ⟨bn, rfl, hbn, hrow, hN⟩
  have hp := blk_lt H.out.obj
  have hP := blk_lt H.out.par
  have hS := blk_lt H.out.siz
  have HO := Aside0.mk hrow
  have HN := Aside0.mk hN
  have mk1 := print_make_of (P := Try.prog) 51 34 (.slice none 0 0) 24 Try.underlying51 info_ints rfl (by decide) (numTo m m.length).2 (by omega)
  rw [made_nil] at mk1
  have hrl := blk_lt hrow
  have hsz := hN.2.size
  clear hrow hN H
  go_wp2
  clear mk1
  obtain ⟨nums, hnums⟩ : ∃ l, l = (numTo m m.length).1 := ⟨_, rfl⟩
  obtain ⟨c, hcc⟩ : ∃ c, c = (numTo m m.length).2 := ⟨_, rfl⟩
  have hnl : nums.length = m.length := by rw [hnums, numTo_length]
  have hng : ∀ i, i < m.length → gt nums i < c := fun i hi => by rw [hnums, hcc]; exact numTo_lt m _ i hi
  have HNL := Aside0.mk hnl
  have HNG := Aside0.mk hng
  have hgr : groupsOf m = grpTo nums c m.length := by rw [hnums, hcc]; rfl
  have HGR := Aside0.mk hgr
  have HCC := Aside0.mk hcc
  rw [← hnums] at HO
  rw [← hcc] at hc ⊢
  clear hnl hng hnums hcc hgr
  have HG0 := Aside0.mk (GRows.start (w := w1) c)
  have HO0 : Aside0 (RowAt (w1.alloc (.cells (Array.replicate c (Value.slice none 0 0)) 34 (0, 0))) bn nums) := ⟨heap_old HO.out _⟩
  have HN0 : Aside0 (Now p bP bS m w (w1.alloc (.cells (Array.replicate c (Value.slice none 0 0)) 34 (0, 0)))) := ⟨by
    obtain ⟨P', S', h1⟩ := HN.out.1
    exact ⟨P', S', heap_old h1.obj _, heap_old h1.par _, heap_old h1.siz _, h1.ne1, h1.ne2, h1.ne3, h1.small, h1.rep, h1.sized⟩, HN.out.2.alloc _⟩
  have hbo : w.heap.size ≤ w1.heap.size := hsz
  generalize w1.alloc (.cells (Array.replicate c (Value.slice none 0 0)) 34 (0, 0)) = w2 at HG0 HO0 HN0 ⊢
  obtain ⟨bo, hbo2⟩ : ∃ b, b = w1.heap.size := ⟨_, rfl⟩
  rw [← hbo2] at HG0 hrl hbo ⊢
  clear HO HN hsz hbo2
  obtain ⟨i0, hi0, hz0, hz1, hz2⟩ := info_parts info_int
  go_loopw [19] (fun v wr => ∃ (i : Nat) (vs : List Value), v = .int .i64 (i : Int) ∧ i ≤ m.length ∧ Aside0 (GRows wr (bo + 1) bo vs (grpTo nums c i)) ∧ Aside0 (RowAt wr bn nums) ∧ Aside0 (Now p bP bS m w wr)) (fun v _ => m.length - (intOf v).toNat)
  case atStart => exact ⟨0, _, rfl, by omega, HG0, HO0, HN0⟩
  case round =>
    clear HG0 HO0 HN0
    obtain ⟨i, vs, rfl, hi, HG, HO, HN⟩ := hrel
    by_cases hlt : i < m.length
    · have hk := HNG.out i hlt
      have hgl := grpTo_length nums c i
      have c1 := nv_cell HO.out (i := i) (by rw [HNL.out]; exact hlt)
      have c2 := HG.out.cell (j := gt nums i) (by omega)
      have HG1 := Aside0.mk (HG.out.alloc (.cells #[.int .i64 (i : Int)] 3 (0, 0)))
      have hle := grpTo_le nums c i (gt nums i)
      have HGL := Aside0.mk hgl
      clear hgl
      go_wp2_with (at_builtin; refine wpList_append_own_at _ rfl _ _ 34 rfl (bo + 1) 3 i0 (.int .i64 0) 1 8 Try.underlying34 hi0 hz0 hz1 hz2 rfl (by decide) _ _ _ rfl (HG1.out.own (gt nums i) (by rw [HGL.out]; exact hk)) ⟨wr.heap.size, 0, none⟩ 1 1 [.int .i64 (i : Int)] rfl rfl ?c1 ?c2 ?c3 ?c4 ?c5 ?_)
      case c1 =>
        intro j u hj
        obtain rfl : j = 0 := by
          rcases j with _ | j
          · rfl
          · simp at hj
        obtain rfl : u = .int .i64 (i : Int) := by simpa using hj.symm
        exact (blk_cell (heap_last wr (.cells #[.int .i64 (i : Int)] 3 (0, 0))) 0).trans rfl
      case c2 => intro u hu; simp at hu; subst hu; rfl
      case c3 => unfold maxLen; omega
      case c4 => omega
      case c5 => exact HG1.out.base
      intro v' w3 hown hgrow _ hat
      obtain ⟨A', c', rfl⟩ := own_form hown
      have HG2 := Aside0.mk (HG1.out.put (by rw [HGL.out]; exact hk) hown hgrow (by simpa using hat))
      have hb3 : w3.heap[bo]? = some (.cells vs.toArray 34 (0, 0)) := (hgrow.block bo (blk_lt HG1.out.out) (fun e => by have := (own_lt (HG1.out.own _ (by rw [HGL.out]; exact hk)) e.symm).1; omega)).trans HG1.out.out
      have hn3 : RowAt w3 bn nums := (hgrow.block bn (by have := blk_lt HO.out; simp; omega) (fun e => by have := (own_lt (HG1.out.own _ (by rw [HGL.out]; exact hk)) e.symm).1; omega)).trans (heap_old HO.out _)
      have hN3 : Now p bP bS m w w3 := by
        obtain ⟨P', S', h1⟩ := HN.out.1
        have e1 : ∀ k, k < w.heap.size → some k ≠ (va vs (gt nums i)).ownBlock := fun k hk2 e => by have := (own_lt (HG1.out.own _ (by rw [HGL.out]; exact hk)) e.symm).1; omega
        have e2 : ∀ {k : Nat} {o : Obj}, k < w.heap.size → wr.heap[k]? = some o → w3.heap[k]? = some o := fun hk2 ho => (hgrow.block _ (by have := HN.out.2.size; simp; omega) (e1 _ hk2)).trans (heap_old ho _)
        exact ⟨⟨P', S', e2 hp h1.obj, e2 hP h1.par, e2 hS h1.siz, h1.ne1, h1.ne2, h1.ne3, h1.small, h1.rep, h1.sized⟩,
          ⟨hgrow.os.trans HN.out.2.os, hgrow.tape.trans HN.out.2.tape, hgrow.output.trans HN.out.2.output, Nat.le_trans HN.out.2.size (by have := hgrow.size; simp at this; omega),
            fun k hk2 hs2 => (hgrow.block k (by have := HN.out.2.size; simp; omega) (e1 k hk2)).trans ((Below.heap_alloc _ _ _ (by have := HN.out.2.size; omega)).trans (HN.out.2.block k hk2 hs2))⟩⟩
      have hcl : w3.cell? ⟨bo, gt nums i, none⟩ = some (va vs (gt nums i)) := by
        have := HG.out.len
        simp [World.cell?, hb3, va, List.getD_eq_getElem?_getD, show gt nums i < vs.length by rw [this, HGL.out]; exact hk]
      have hfr : w3.frozen? ⟨bo, gt nums i, none⟩ = false := by simp [World.frozen?, hb3]
      have HN3 : Aside0 (Now p bP bS m w (w3.setCell ⟨bo, gt nums i, none⟩ (.slice A' ((gl (grpTo nums c i) (gt nums i)).length + 1) c'))) := ⟨by
        obtain ⟨P', S', h1⟩ := hN3.1
        exact ⟨P', S', heap_setCell_ne h1.obj (by omega), heap_setCell_ne h1.par (by omega), heap_setCell_ne h1.siz (by omega), h1.ne1, h1.ne2, h1.ne3, h1.small, h1.rep, h1.sized⟩,
        ⟨hN3.2.os, hN3.2.tape, hN3.2.output, by have := hN3.2.size; simpa [World.setCell] using this, fun k hk2 hs2 => (Below.heap_setCell _ _ _ _ (by simp; omega)).trans (hN3.2.block k hk2 hs2)⟩⟩
      have HO3 : Aside0 (RowAt (w3.setCell ⟨bo, gt nums i, none⟩ (.slice A' ((gl (grpTo nums c i) (gt nums i)).length + 1) c')) bn nums) := ⟨heap_setCell_ne hn3 (by omega)⟩
      clear hown hgrow hat hb3 hn3 hN3 HG1 HG HO HN c1 c2
      go_wp2
      go_roundw
      case rel => exact ⟨i + 1, _, by go_num, by omega, HG2, HO3, HN3⟩
      case measure => simp [intOf]; omega
    · obtain rfl : i = m.length := by omega
      go_wp2
      go_ret
      exact ⟨bo + 1, bo, vs, by rw [← HCC.out]; rfl, hbo, by rw [HGR.out]; exact HG.out, HN.out⟩
end Go.Proofs.Ytoajoklpbfehiaa.Sets
