/- DERIVED. The walk of comps.New. -/
import Derived.Test.YtoajoklpbfehiaaSetsJoin
namespace Go.Proofs.Ytoajoklpbfehiaa.Sets
open Go.RowKit Go.Proofs.YtoajoklpbfehiaaW.PrintWords Go.Proofs.YtoajoklpbfehiaaW.PrintLast Go.Proofs.YtoajoklpbfehiaaW.PrintMore
set_option linter.unusedVariables false
set_option linter.unusedSimpArgs false

theorem info_int : (Try.prog.info? 3).map (fun i => (i.zero, i.size, i.bytes)) = some (some (.int .i64 0), 1, 8) := by kernel_rfl
theorem made_nv (n : Nat) : madeCells #[.int .i64 0] n = nv (List.replicate n 0) := by
  apply Array.ext
  · simp [madeCells, nv]
  · intro i h1 h2
    simp [madeCells, nv, Nat.mod_one]

theorem heap_last (w : World) (o : Obj) : (w.alloc o).heap[w.heap.size]? = some o := by
  show (w.heap.push o)[w.heap.size]? = _
  simp
theorem heap_old {w : World} {k : Nat} {o : Obj} (h : w.heap[k]? = some o) (o' : Obj) : (w.alloc o').heap[k]? = some o := by
  rw [Below.heap_alloc _ _ _ (blk_lt h)]; exact h
/-- the numbers up to k, noughts behind -/
def upTo (k n : Nat) : List Nat := List.range k ++ List.replicate (n - k) 0
/-- ones up to k, noughts behind -/
def onesTo (k n : Nat) : List Nat := List.replicate k 1 ++ List.replicate (n - k) 0
theorem upTo_zero (n : Nat) : upTo 0 n = List.replicate n 0 := by simp [upTo]
theorem onesTo_zero (n : Nat) : onesTo 0 n = List.replicate n 0 := by simp [onesTo]
theorem upTo_self (n : Nat) : upTo n n = List.range n := by simp [upTo]
theorem onesTo_self (n : Nat) : onesTo n n = List.replicate n 1 := by simp [onesTo]
theorem upTo_length {k n : Nat} (h : k ≤ n) : (upTo k n).length = n := by simp [upTo]; omega
theorem onesTo_length {k n : Nat} (h : k ≤ n) : (onesTo k n).length = n := by simp [onesTo]; omega
theorem set_end {α : Type} (l : List α) (z x : α) (k n : Nat) (hl : l.length = k) (h : k < n) : (l ++ List.replicate (n - k) z).set k x = l ++ [x] ++ List.replicate (n - (k + 1)) z := by
  obtain ⟨d, hd⟩ : ∃ d, n - k = d + 1 := ⟨n - k - 1, by omega⟩
  have hd2 : n - (k + 1) = d := by omega
  rw [hd, hd2, List.replicate_succ, List.set_append_right _ _ (by omega), hl, Nat.sub_self, List.set_cons_zero, List.append_assoc]; rfl
theorem upTo_set {k n : Nat} (h : k < n) : (upTo k n).set k k = upTo (k + 1) n := by
  unfold upTo; rw [set_end _ _ _ _ _ (by simp) h, List.range_succ]
theorem onesTo_set {k n : Nat} (h : k < n) : (onesTo k n).set k 1 = onesTo (k + 1) n := by
  unfold onesTo; rw [set_end _ _ _ _ _ (by simp) h, List.replicate_succ']
theorem new_start (w : World) (n x y : Nat) (hxy : (x = w.heap.size ∧ y = w.heap.size + 1) ∨ (x = w.heap.size + 1 ∧ y = w.heap.size)) :
    MidPS (((w.alloc (.cells (madeCells #[.int .i64 0] n) 3 (0, 0))).alloc (.cells (madeCells #[.int .i64 0] n) 3 (0, 0))).alloc (.cells #[.slice (some ⟨x, 0, none⟩) n n, .slice (some ⟨y, 0, none⟩) n n, .int .i64 (n : Int)] 68 (0, 0))).drew (w.heap.size + 1 + 1) x y n (upTo 0 n) (onesTo 0 n) n ∧
    Below w.heap.size w (((w.alloc (.cells (madeCells #[.int .i64 0] n) 3 (0, 0))).alloc (.cells (madeCells #[.int .i64 0] n) 3 (0, 0))).alloc (.cells #[.slice (some ⟨x, 0, none⟩) n n, .slice (some ⟨y, 0, none⟩) n n, .int .i64 (n : Int)] 68 (0, 0))).drew := by
  rw [upTo_zero, onesTo_zero]
  have e1 := heap_last w (.cells (nv (List.replicate n 0)) 3 (0, 0))
  have e2 := heap_last (w.alloc (.cells (nv (List.replicate n 0)) 3 (0, 0))) (.cells (nv (List.replicate n 0)) 3 (0, 0))
  rw [made_nv]
  have e3 := heap_last ((w.alloc (.cells (nv (List.replicate n 0)) 3 (0, 0))).alloc (.cells (nv (List.replicate n 0)) 3 (0, 0))) (.cells #[.slice (some ⟨x, 0, none⟩) n n, .slice (some ⟨y, 0, none⟩) n n, .int .i64 (n : Int)] 68 (0, 0))
  have s1 : (w.alloc (.cells (nv (List.replicate n 0)) 3 (0, 0))).heap.size = w.heap.size + 1 := by simp
  have s2 : ((w.alloc (.cells (nv (List.replicate n 0)) 3 (0, 0))).alloc (.cells (nv (List.replicate n 0)) 3 (0, 0))).heap.size = w.heap.size + 1 + 1 := by simp
  rw [s1] at e2
  rw [s2] at e3
  refine ⟨⟨e3, ?_, ?_, by omega, by omega, by omega⟩, ?_⟩
  · rcases hxy with ⟨rfl, rfl⟩ | ⟨rfl, rfl⟩
    · exact heap_old (heap_old e1 _) _
    · exact heap_old e2 _
  · rcases hxy with ⟨rfl, rfl⟩ | ⟨rfl, rfl⟩
    · exact heap_old e2 _
    · exact heap_old (heap_old e1 _) _
  · exact ((((Below.refl _ _).alloc (Nat.le_refl _) _).alloc (by omega) _).alloc (by omega) _).drew

set_option maxHeartbeats 1000000 in
theorem new_no (n : Int) (w : World) (h : n < 0 ∨ 1048576 < n) :
    Calls Try.prog 10 #[.int .i64 n] w fun e w' => e = .returned (.tuple #[.pointer none, .int .i64 2]) ∧ w = w' := by
  rcases h with h | h
  · go_enter Try.func10, Try.ntmps10
    go_wp2
    go_ret2
    exact ⟨rfl, rfl⟩
  · have h0 : ¬ n < 0 := by omega
    go_enter Try.func10, Try.ntmps10
    go_wp2
    go_ret2
    exact ⟨rfl, rfl⟩

set_option maxHeartbeats 1000000 in
theorem new_yes (n : Nat) (w : World) (h : n ≤ 1048576) :
    Calls Try.prog 10 #[.int .i64 (n : Int)] w fun e w' => ∃ p bP bS, e = .returned (.tuple #[.pointer (some ⟨p, 0, none⟩), .int .i64 0]) ∧ w.heap.size ≤ p ∧ w.heap.size ≤ bP ∧ w.heap.size ≤ bS ∧ At w' p bP bS (List.range n) ∧ Below w.heap.size w w' := by
  have h0 : ¬ (n : Int) < 0 := by omega
  have h1 : ¬ (n : Int) > 1048576 := by omega
  have hle : (n : Int) ≤ 1048576 := by omega
  have mk1 := print_make (P := Try.prog) 66 3 .i64 8 Try.underlying66 info_int (by decide) n (by omega)
  have mk2 := print_make (P := Try.prog) 34 3 .i64 8 Try.underlying34 info_int (by decide) n (by omega)
  go_enter Try.func10, Try.ntmps10
  go_wp2
  go_region
  · obtain ⟨M0, F0⟩ := new_start w n (w.heap.size) (w.heap.size + 1) (.inl ⟨rfl, rfl⟩)
    generalize (((w.alloc (.cells (madeCells #[.int .i64 0] n) 3 (0, 0))).alloc (.cells (madeCells #[.int .i64 0] n) 3 (0, 0))).alloc (.cells #[.slice (some ⟨w.heap.size, 0, none⟩) n n, .slice (some ⟨w.heap.size + 1, 0, none⟩) n n, .int .i64 (n : Int)] 68 (0, 0))).drew = w1 at M0 F0 ⊢
    have M := Aside0.mk M0
    have F := Aside0.mk F0
    clear M0 F0 mk1 mk2
    go_wp2
    go_loopw [20] (fun v wr => ∃ i : Nat, v = .int .i64 (i : Int) ∧ i ≤ n ∧ Aside0 (MidPS wr (w.heap.size + 1 + 1) (w.heap.size) (w.heap.size + 1) n (upTo i n) (onesTo i n) n) ∧ Aside0 (Below w.heap.size w wr)) (fun v _ => n - (intOf v).toNat)
    case atStart => exact ⟨0, rfl, by omega, M, F⟩
    case round =>
      clear M F
      obtain ⟨i, rfl, hi, M, F⟩ := hrel
      by_cases hlt : i < n
      · have hlen := upTo_length hi
        have hlen2 := onesTo_length hi
        have M1 := Aside0.mk (M.out.setPar i i)
        have c1 := nv_cell M.out.par (i := i) (by omega)
        have f1 := blk_free M.out.par i
        have c2 := nv_cell M1.out.siz (i := i) (by omega)
        have f2 := blk_free M1.out.siz i
        have HL := Aside0.mk hlen
        have HL2 := Aside0.mk hlen2
        clear hlen hlen2
        go_wp2
        refine start_ (n := 15) (S := fun w' => w'.cell? ⟨w.heap.size + 1 + 1, 0, none⟩ = some (.slice (some ⟨w.heap.size, 0, none⟩) n n) ∧ w'.cell? ⟨w.heap.size + 1 + 1, 1, none⟩ = some (.slice (some ⟨w.heap.size + 1, 0, none⟩) n n)) (ds := [12, 14]) #[false, false, false, false, false, false, false, false, false, false, false, false, false, false, false] (by kernel_rfl) rfl rfl ⟨M.out.drew.cell0, M.out.drew.cell1⟩ (fun hHeld => ?_)
        refine pure_ (i := 0) (N := some 23) (v := ?_) (a' := ?_) #[true, false, false, false, false, false, false, false, false, false, false, false, false, false, false] rfl rfl (by kernel_rfl) (fun _ _ _ h => h) (Or.inl ⟨by rfl, ?_⟩) ?_ ?_
        rotate_left
        · intro w'
          go_simp
          with_reducible rfl
        rotate_left
        · simp only [Act.put, List.setIfInBounds_toArray, List.set_cons_zero, List.set_cons_succ, i64_w, i32_w]
          rfl
        refine pure_ (i := 1) (N := some 24) (v := ?_) (a' := ?_) #[true, true, false, false, false, false, false, false, false, false, false, false, false, false, false] rfl rfl (by kernel_rfl) (fun _ _ _ h => h) (Or.inl ⟨by rfl, ?_⟩) ?_ ?_
        rotate_left
        · intro w'
          go_simp
          with_reducible rfl
        rotate_left
        · simp only [Act.put, List.setIfInBounds_toArray, List.set_cons_zero, List.set_cons_succ, i64_w, i32_w]
          rfl
        refine pure_ (i := 2) (N := some 25) (v := ?_) (a' := ?_) #[true, true, true, false, false, false, false, false, false, false, false, false, false, false, false] rfl rfl (by kernel_rfl) (fun _ _ _ h => h) (Or.inl ⟨by rfl, ?_⟩) ?_ ?_
        rotate_left
        · intro w'
          go_simp
          with_reducible rfl
        rotate_left
        · simp only [Act.put, List.setIfInBounds_toArray, List.set_cons_zero, List.set_cons_succ, i64_w, i32_w]
          rfl
        refine pure_ (i := 4) (N := some 27) (v := ?_) (a' := ?_) #[true, true, true, false, true, false, false, false, false, false, false, false, false, false, false] rfl rfl (by kernel_rfl) (fun _ _ _ h => h) (Or.inl ⟨by rfl, ?_⟩) ?_ ?_
        rotate_left
        · intro w'
          go_simp
          with_reducible rfl
        rotate_left
        · simp only [Act.put, List.setIfInBounds_toArray, List.set_cons_zero, List.set_cons_succ, i64_w, i32_w]
          rfl
        refine pure_ (i := 5) (N := some 28) (v := ?_) (a' := ?_) #[true, true, true, false, true, true, false, false, false, false, false, false, false, false, false] rfl rfl (by kernel_rfl) (fun _ _ _ h => h) (Or.inl ⟨by rfl, ?_⟩) ?_ ?_
        rotate_left
        · intro w'
          go_simp
          with_reducible rfl
        rotate_left
        · simp only [Act.put, List.setIfInBounds_toArray, List.set_cons_zero, List.set_cons_succ, i64_w, i32_w]
          rfl
        refine pure_ (i := 6) (N := some 29) (v := ?_) (a' := ?_) #[true, true, true, false, true, true, true, false, false, false, false, false, false, false, false] rfl rfl (by kernel_rfl) (fun _ _ _ h => h) (Or.inl ⟨by rfl, ?_⟩) ?_ ?_
        rotate_left
        · intro w'
          go_simp
          with_reducible rfl
        rotate_left
        · simp only [Act.put, List.setIfInBounds_toArray, List.set_cons_zero, List.set_cons_succ, i64_w, i32_w]
          rfl
        refine pure_ (i := 7) (N := some 30) (v := ?_) (a' := ?_) #[true, true, true, false, true, true, true, true, false, false, false, false, false, false, false] rfl rfl (by kernel_rfl) (fun _ _ _ h => h) (Or.inl ⟨by rfl, ?_⟩) ?_ ?_
        rotate_left
        · intro w'
          go_simp
          with_reducible rfl
        rotate_left
        · simp only [Act.put, List.setIfInBounds_toArray, List.set_cons_zero, List.set_cons_succ, i64_w, i32_w]
          rfl
        refine pure_ (i := 9) (N := some 32) (v := ?_) (a' := ?_) #[true, true, true, false, true, true, true, true, false, true, false, false, false, false, false] rfl rfl (by kernel_rfl) (fun _ _ _ h => h) (Or.inl ⟨by rfl, ?_⟩) ?_ ?_
        rotate_left
        · intro w'
          go_simp
          with_reducible rfl
        rotate_left
        · simp only [Act.put, List.setIfInBounds_toArray, List.set_cons_zero, List.set_cons_succ, i64_w, i32_w]
          rfl
        refine pure_ (i := 10) (N := some 33) (v := ?_) (a' := ?_) #[true, true, true, false, true, true, true, true, false, true, true, false, false, false, false] rfl rfl (by kernel_rfl) (fun _ _ _ h => h) (Or.inl ⟨by rfl, ?_⟩) ?_ ?_
        rotate_left
        · intro w'
          go_simp
          with_reducible rfl
        rotate_left
        · simp only [Act.put, List.setIfInBounds_toArray, List.set_cons_zero, List.set_cons_succ, i64_w, i32_w]
          rfl
        refine take_ (i := 3) (N := some 26) (v := ?_) (a' := ?_) #[true, true, true, true, true, true, true, true, false, true, true, false, false, false, false] rfl rfl (by kernel_rfl) (fun _ _ _ h => h) (Or.inl ⟨by rfl, ?_⟩) hHeld ?_ ?_
        rotate_left
        · rintro w' ⟨s0, s1⟩
          go_simp
          with_reducible rfl
        rotate_left
        · simp only [Act.put, List.setIfInBounds_toArray, List.set_cons_zero, List.set_cons_succ, i64_w, i32_w]
          rfl
        refine take_ (i := 8) (N := some 31) (v := ?_) (a' := ?_) #[true, true, true, true, true, true, true, true, true, true, true, false, false, false, false] rfl rfl (by kernel_rfl) (fun _ _ _ h => h) (Or.inl ⟨by rfl, ?_⟩) hHeld ?_ ?_
        rotate_left
        · rintro w' ⟨s0, s1⟩
          go_simp
          with_reducible rfl
        rotate_left
        · simp only [Act.put, List.setIfInBounds_toArray, List.set_cons_zero, List.set_cons_succ, i64_w, i32_w]
          rfl
        refine pure_ (i := 11) (N := some 34) (v := ?_) (a' := ?_) #[true, true, true, true, true, true, true, true, true, true, true, true, false, false, false] rfl rfl (by kernel_rfl) (fun _ _ _ h => h) (Or.inl ⟨by rfl, ?_⟩) ?_ ?_
        rotate_left
        · intro w'
          go_simp
          with_reducible rfl
        rotate_left
        · simp only [Act.put, List.setIfInBounds_toArray, List.set_cons_zero, List.set_cons_succ, i64_w, i32_w]
          rfl
        refine last_ (i := 12) (N := none) #[true, true, true, true, true, true, true, true, true, true, true, true, true, false, false] rfl rfl (by kernel_rfl) (by decide) (fun K hK => ?_)
        refine skip_ (w1 := ?_) (by rfl) rfl ?_ ?_
        rotate_left
        · go_simp
          rfl
        refine hK.out _ _ ?_
        clear hK K
        refine pure_ (i := 13) (N := some 35) (v := ?_) (a' := ?_) #[true, true, true, true, true, true, true, true, true, true, true, true, true, true, false] rfl rfl (by kernel_rfl) (fun _ _ _ h => h) (Or.inl ⟨by rfl, ?_⟩) ?_ ?_
        rotate_left
        · intro w'
          go_simp
          with_reducible rfl
        rotate_left
        · simp only [Act.put, List.setIfInBounds_toArray, List.set_cons_zero, List.set_cons_succ, i64_w, i32_w]
          rfl
        refine last_ (i := 14) (N := none) #[true, true, true, true, true, true, true, true, true, true, true, true, true, true, true] rfl rfl (by kernel_rfl) (by decide) (fun K hK => ?_)
        refine skip_ (w1 := ?_) (by rfl) rfl ?_ ?_
        rotate_left
        · go_simp
          rfl
        refine hK.out _ _ ?_
        clear hK K
        refine done_ (by kernel_rfl) ?_
        go_wp2
        go_roundw
        case rel =>
          refine ⟨i + 1, by go_num, by omega, ⟨?_⟩, ⟨((F.out.setCell (p := ⟨w.heap.size, i, none⟩) (by simp) _).setCell (p := ⟨w.heap.size + 1, i, none⟩) (by simp) _).drew⟩⟩
          have h2 := (M1.out.setSiz i 1).drew
          rw [upTo_set hlt, onesTo_set hlt] at h2
          exact h2
        case measure => simp [intOf]; omega
      · obtain rfl : i = n := by omega
        go_wp2
        go_ret2
        have h2 := M.out
        rw [upTo_self, onesTo_self] at h2
        refine ⟨_, _, _, rfl, by omega, ?_, ?_, ⟨List.range i, List.replicate i 1, ⟨?_, h2.par, h2.siz, h2.ne1, h2.ne2, h2.ne3, ?_, Rep.range i, Sized.ones i⟩⟩, F.out⟩
        · exact Nat.le_refl _
        · omega
        · rw [List.length_range, sets_range]; exact h2.obj
        · rw [List.length_range]; exact h
  · obtain ⟨M0, F0⟩ := new_start w n (w.heap.size + 1) (w.heap.size) (.inr ⟨rfl, rfl⟩)
    generalize (((w.alloc (.cells (madeCells #[.int .i64 0] n) 3 (0, 0))).alloc (.cells (madeCells #[.int .i64 0] n) 3 (0, 0))).alloc (.cells #[.slice (some ⟨w.heap.size + 1, 0, none⟩) n n, .slice (some ⟨w.heap.size, 0, none⟩) n n, .int .i64 (n : Int)] 68 (0, 0))).drew = w1 at M0 F0 ⊢
    have M := Aside0.mk M0
    have F := Aside0.mk F0
    clear M0 F0 mk1 mk2
    go_wp2
    go_loopw [20] (fun v wr => ∃ i : Nat, v = .int .i64 (i : Int) ∧ i ≤ n ∧ Aside0 (MidPS wr (w.heap.size + 1 + 1) (w.heap.size + 1) (w.heap.size) n (upTo i n) (onesTo i n) n) ∧ Aside0 (Below w.heap.size w wr)) (fun v _ => n - (intOf v).toNat)
    case atStart => exact ⟨0, rfl, by omega, M, F⟩
    case round =>
      clear M F
      obtain ⟨i, rfl, hi, M, F⟩ := hrel
      by_cases hlt : i < n
      · have hlen := upTo_length hi
        have hlen2 := onesTo_length hi
        have M1 := Aside0.mk (M.out.setPar i i)
        have c1 := nv_cell M.out.par (i := i) (by omega)
        have f1 := blk_free M.out.par i
        have c2 := nv_cell M1.out.siz (i := i) (by omega)
        have f2 := blk_free M1.out.siz i
        have HL := Aside0.mk hlen
        have HL2 := Aside0.mk hlen2
        clear hlen hlen2
        go_wp2
        refine start_ (n := 15) (S := fun w' => w'.cell? ⟨w.heap.size + 1 + 1, 0, none⟩ = some (.slice (some ⟨w.heap.size + 1, 0, none⟩) n n) ∧ w'.cell? ⟨w.heap.size + 1 + 1, 1, none⟩ = some (.slice (some ⟨w.heap.size, 0, none⟩) n n)) (ds := [12, 14]) #[false, false, false, false, false, false, false, false, false, false, false, false, false, false, false] (by kernel_rfl) rfl rfl ⟨M.out.drew.cell0, M.out.drew.cell1⟩ (fun hHeld => ?_)
        refine pure_ (i := 0) (N := some 23) (v := ?_) (a' := ?_) #[true, false, false, false, false, false, false, false, false, false, false, false, false, false, false] rfl rfl (by kernel_rfl) (fun _ _ _ h => h) (Or.inl ⟨by rfl, ?_⟩) ?_ ?_
        rotate_left
        · intro w'
          go_simp
          with_reducible rfl
        rotate_left
        · simp only [Act.put, List.setIfInBounds_toArray, List.set_cons_zero, List.set_cons_succ, i64_w, i32_w]
          rfl
        refine pure_ (i := 1) (N := some 24) (v := ?_) (a' := ?_) #[true, true, false, false, false, false, false, false, false, false, false, false, false, false, false] rfl rfl (by kernel_rfl) (fun _ _ _ h => h) (Or.inl ⟨by rfl, ?_⟩) ?_ ?_
        rotate_left
        · intro w'
          go_simp
          with_reducible rfl
        rotate_left
        · simp only [Act.put, List.setIfInBounds_toArray, List.set_cons_zero, List.set_cons_succ, i64_w, i32_w]
          rfl
        refine pure_ (i := 2) (N := some 25) (v := ?_) (a' := ?_) #[true, true, true, false, false, false, false, false, false, false, false, false, false, false, false] rfl rfl (by kernel_rfl) (fun _ _ _ h => h) (Or.inl ⟨by rfl, ?_⟩) ?_ ?_
        rotate_left
        · intro w'
          go_simp
          with_reducible rfl
        rotate_left
        · simp only [Act.put, List.setIfInBounds_toArray, List.set_cons_zero, List.set_cons_succ, i64_w, i32_w]
          rfl
        refine pure_ (i := 4) (N := some 27) (v := ?_) (a' := ?_) #[true, true, true, false, true, false, false, false, false, false, false, false, false, false, false] rfl rfl (by kernel_rfl) (fun _ _ _ h => h) (Or.inl ⟨by rfl, ?_⟩) ?_ ?_
        rotate_left
        · intro w'
          go_simp
          with_reducible rfl
        rotate_left
        · simp only [Act.put, List.setIfInBounds_toArray, List.set_cons_zero, List.set_cons_succ, i64_w, i32_w]
          rfl
        refine pure_ (i := 5) (N := some 28) (v := ?_) (a' := ?_) #[true, true, true, false, true, true, false, false, false, false, false, false, false, false, false] rfl rfl (by kernel_rfl) (fun _ _ _ h => h) (Or.inl ⟨by rfl, ?_⟩) ?_ ?_
        rotate_left
        · intro w'
          go_simp
          with_reducible rfl
        rotate_left
        · simp only [Act.put, List.setIfInBounds_toArray, List.set_cons_zero, List.set_cons_succ, i64_w, i32_w]
          rfl
        refine pure_ (i := 6) (N := some 29) (v := ?_) (a' := ?_) #[true, true, true, false, true, true, true, false, false, false, false, false, false, false, false] rfl rfl (by kernel_rfl) (fun _ _ _ h => h) (Or.inl ⟨by rfl, ?_⟩) ?_ ?_
        rotate_left
        · intro w'
          go_simp
          with_reducible rfl
        rotate_left
        · simp only [Act.put, List.setIfInBounds_toArray, List.set_cons_zero, List.set_cons_succ, i64_w, i32_w]
          rfl
        refine pure_ (i := 7) (N := some 30) (v := ?_) (a' := ?_) #[true, true, true, false, true, true, true, true, false, false, false, false, false, false, false] rfl rfl (by kernel_rfl) (fun _ _ _ h => h) (Or.inl ⟨by rfl, ?_⟩) ?_ ?_
        rotate_left
        · intro w'
          go_simp
          with_reducible rfl
        rotate_left
        · simp only [Act.put, List.setIfInBounds_toArray, List.set_cons_zero, List.set_cons_succ, i64_w, i32_w]
          rfl
        refine pure_ (i := 9) (N := some 32) (v := ?_) (a' := ?_) #[true, true, true, false, true, true, true, true, false, true, false, false, false, false, false] rfl rfl (by kernel_rfl) (fun _ _ _ h => h) (Or.inl ⟨by rfl, ?_⟩) ?_ ?_
        rotate_left
        · intro w'
          go_simp
          with_reducible rfl
        rotate_left
        · simp only [Act.put, List.setIfInBounds_toArray, List.set_cons_zero, List.set_cons_succ, i64_w, i32_w]
          rfl
        refine pure_ (i := 10) (N := some 33) (v := ?_) (a' := ?_) #[true, true, true, false, true, true, true, true, false, true, true, false, false, false, false] rfl rfl (by kernel_rfl) (fun _ _ _ h => h) (Or.inl ⟨by rfl, ?_⟩) ?_ ?_
        rotate_left
        · intro w'
          go_simp
          with_reducible rfl
        rotate_left
        · simp only [Act.put, List.setIfInBounds_toArray, List.set_cons_zero, List.set_cons_succ, i64_w, i32_w]
          rfl
        refine take_ (i := 3) (N := some 26) (v := ?_) (a' := ?_) #[true, true, true, true, true, true, true, true, false, true, true, false, false, false, false] rfl rfl (by kernel_rfl) (fun _ _ _ h => h) (Or.inl ⟨by rfl, ?_⟩) hHeld ?_ ?_
        rotate_left
        · rintro w' ⟨s0, s1⟩
          go_simp
          with_reducible rfl
        rotate_left
        · simp only [Act.put, List.setIfInBounds_toArray, List.set_cons_zero, List.set_cons_succ, i64_w, i32_w]
          rfl
        refine take_ (i := 8) (N := some 31) (v := ?_) (a' := ?_) #[true, true, true, true, true, true, true, true, true, true, true, false, false, false, false] rfl rfl (by kernel_rfl) (fun _ _ _ h => h) (Or.inl ⟨by rfl, ?_⟩) hHeld ?_ ?_
        rotate_left
        · rintro w' ⟨s0, s1⟩
          go_simp
          with_reducible rfl
        rotate_left
        · simp only [Act.put, List.setIfInBounds_toArray, List.set_cons_zero, List.set_cons_succ, i64_w, i32_w]
          rfl
        refine pure_ (i := 11) (N := some 34) (v := ?_) (a' := ?_) #[true, true, true, true, true, true, true, true, true, true, true, true, false, false, false] rfl rfl (by kernel_rfl) (fun _ _ _ h => h) (Or.inl ⟨by rfl, ?_⟩) ?_ ?_
        rotate_left
        · intro w'
          go_simp
          with_reducible rfl
        rotate_left
        · simp only [Act.put, List.setIfInBounds_toArray, List.set_cons_zero, List.set_cons_succ, i64_w, i32_w]
          rfl
        refine last_ (i := 12) (N := none) #[true, true, true, true, true, true, true, true, true, true, true, true, true, false, false] rfl rfl (by kernel_rfl) (by decide) (fun K hK => ?_)
        refine skip_ (w1 := ?_) (by rfl) rfl ?_ ?_
        rotate_left
        · go_simp
          rfl
        refine hK.out _ _ ?_
        clear hK K
        refine pure_ (i := 13) (N := some 35) (v := ?_) (a' := ?_) #[true, true, true, true, true, true, true, true, true, true, true, true, true, true, false] rfl rfl (by kernel_rfl) (fun _ _ _ h => h) (Or.inl ⟨by rfl, ?_⟩) ?_ ?_
        rotate_left
        · intro w'
          go_simp
          with_reducible rfl
        rotate_left
        · simp only [Act.put, List.setIfInBounds_toArray, List.set_cons_zero, List.set_cons_succ, i64_w, i32_w]
          rfl
        refine last_ (i := 14) (N := none) #[true, true, true, true, true, true, true, true, true, true, true, true, true, true, true] rfl rfl (by kernel_rfl) (by decide) (fun K hK => ?_)
        refine skip_ (w1 := ?_) (by rfl) rfl ?_ ?_
        rotate_left
        · go_simp
          rfl
        refine hK.out _ _ ?_
        clear hK K
        refine done_ (by kernel_rfl) ?_
        go_wp2
        go_roundw
        case rel =>
          refine ⟨i + 1, by go_num, by omega, ⟨?_⟩, ⟨((F.out.setCell (p := ⟨w.heap.size + 1, i, none⟩) (by simp) _).setCell (p := ⟨w.heap.size, i, none⟩) (by simp) _).drew⟩⟩
          have h2 := (M1.out.setSiz i 1).drew
          rw [upTo_set hlt, onesTo_set hlt] at h2
          exact h2
        case measure => simp [intOf]; omega
      · obtain rfl : i = n := by omega
        go_wp2
        go_ret2
        have h2 := M.out
        rw [upTo_self, onesTo_self] at h2
        refine ⟨_, _, _, rfl, by omega, ?_, ?_, ⟨List.range i, List.replicate i 1, ⟨?_, h2.par, h2.siz, h2.ne1, h2.ne2, h2.ne3, ?_, Rep.range i, Sized.ones i⟩⟩, F.out⟩
        · omega
        · exact Nat.le_refl _
        · rw [List.length_range, sets_range]; exact h2.obj
        · rw [List.length_range]; exact h
end Go.Proofs.Ytoajoklpbfehiaa.Sets
