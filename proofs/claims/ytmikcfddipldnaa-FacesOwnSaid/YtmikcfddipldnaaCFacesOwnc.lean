/- DERIVED. Texts of this seat, one behind the other: lemmas and walks that the statement FacesOwn needs. No condition. -/
import Derived.Test.YtmikcfddipldnaaCFacesOwnb
import Derived.Deep.Onto
import Derived.Deep.QuietTactic
import Derived.BigQuiet
import Derived.StillTailTactics
import Derived.Maps.Keyed
import Derived.WideKeyArr
import Derived.WideKeyElems
import Derived.WideKeyPair
import Derived.Maps.RangeRun
namespace Go.Proofs.Ytmikcfddipldnaa.Own
open Go.RowKit Go.Proofs.YtmikcfddipldnaaW.PrintWords Go.Proofs.YtmikcfddipldnaaW.PrintLast Go.Proofs.YtmikcfddipldnaaW.PrintMore Go.Proofs.Ytmikcfddipldnaa.Mem Go.Proofs.Ytmikcfddipldnaa.Mark
set_option linter.unusedVariables false
set_option linter.unusedSimpArgs false
def tb (T : List (Nat × Nat)) (j : Nat) : Nat × Nat := T.getD j (0, 0)
theorem tb_last (T : List (Nat × Nat)) (p : Nat × Nat) : tb (T ++ [p]) T.length = p := by unfold tb; simp [List.getD_eq_getElem?_getD]
theorem tb_old (T : List (Nat × Nat)) (p : Nat × Nat) {j : Nat} (h : j < T.length) : tb (T ++ [p]) j = tb T j := by unfold tb; simp [List.getD_eq_getElem?_getD, List.getElem?_append_left h]
def sl (T : List (Nat × Nat)) (j n : Nat) : Value := .slice (some ⟨(tb T j).1, 0, none⟩) n (tb T j).2
def vals (r : List (List Int)) (T : List (Nat × Nat)) (d : Nat) : List (List Value) := (List.range T.length).map fun j => [sl T j ((gl r j).length + d)]
theorem vals_length (r : List (List Int)) (T : List (Nat × Nat)) (d : Nat) : (vals r T d).length = T.length := by unfold vals; simp
theorem vals_snoc (r : List (List Int)) (T : List (Nat × Nat)) (d b c : Nat) : vals r (T ++ [(b, c)]) d = vals r T d ++ [[.slice (some ⟨b, 0, none⟩) ((gl r T.length).length + d) c]] := by
 unfold vals
 rw [List.length_append, List.length_singleton, List.range_succ, List.map_append]
 congr 1
 · refine List.map_congr_left fun j hj => ?_
   rw [List.mem_range] at hj
   unfold sl
   rw [tb_old _ _ hj]
 · simp only [List.map_cons, List.map_nil]
   unfold sl
   rw [tb_last]
structure Tab (w : World) (base : Nat) (r : List (List Int)) (T : List (Nat × Nat)) : Prop where
 rows : ∀ j, j < T.length → Kd.R (Kd.int .i64) 3 w base (fun _ => True) (sl T j ((gl r j).length + 2)) (gl r j ++ [-7, -8])
 rise : ∀ i j, i < j → j < T.length → (tb T i).1 < (tb T j).1
theorem Tab.nil (w : World) (base : Nat) (r : List (List Int)) : Tab w base r [] := ⟨fun j h => absurd h (by simp), fun i j _ h => absurd h (by simp)⟩
theorem Tab.lt {w : World} {base : Nat} {r : List (List Int)} {T : List (Nat × Nat)} (h : Tab w base r T) {j : Nat} (hj : j < T.length) : base ≤ (tb T j).1 ∧ (tb T j).1 < w.heap.size := by
 have a := h.rows j hj
 exact ⟨Kd.R_base a _ (by simp [sl, Value.ownBlock]), Kd.R_lt a _ (by simp [sl, Value.ownBlock])⟩
theorem Tab.below {w w1 : World} {base : Nat} {r : List (List Int)} {T : List (Nat × Nat)} (h : Tab w base r T) (hb : Below w.heap.size w w1) : Tab w1 base r T :=
 ⟨fun j hj => Kd.R_below (h.rows j hj) hb, h.rise⟩
theorem Tab.grown {w w1 : World} {base : Nat} {r : List (List Int)} {T : List (Nat × Nat)} (h : Tab w base r T) {v : Value} (hty : ∀ k, v.ownBlock = some k → ∃ cells, w.heap[k]? = some (.cells cells 36 (0, 0))) (hg : w.grownBy w1 v.ownBlock) : Tab w1 base r T :=
 ⟨fun j hj => Kd.R_over' (h.rows j hj) hty (by decide) hg, h.rise⟩
theorem Tab.snoc {w : World} {base b c N : Nat} {r : List (List Int)} {T : List (Nat × Nat)} (h : Tab w base r T) (hN : ∀ j, j < T.length → (tb T j).1 < N) (hb : N ≤ b) (hR : Kd.R (Kd.int .i64) 3 w base (fun _ => True) (.slice (some ⟨b, 0, none⟩) ((gl r T.length).length + 2) c) (gl r T.length ++ [-7, -8])) : Tab w base r (T ++ [(b, c)]) := by
 refine ⟨fun j hj => ?_, fun i j hij hj => ?_⟩
 · rw [List.length_append, List.length_singleton] at hj
   rcases Nat.lt_succ_iff_lt_or_eq.1 hj with g | rfl
   · have := h.rows j g
     unfold sl at this ⊢
     rw [tb_old _ _ g]
     exact this
   · unfold sl
     rw [tb_last]
     exact hR
 · rw [List.length_append, List.length_singleton] at hj
   rcases Nat.lt_succ_iff_lt_or_eq.1 hj with g | rfl
   · rw [tb_old _ _ g, tb_old _ _ (by omega)]
     exact h.rise i j hij g
   · rw [tb_last, tb_old _ _ hij]
     have := hN i hij
     show (tb T i).1 < b
     omega
theorem Tab.reads {w : World} {base : Nat} {r : List (List Int)} {T : List (Nat × Nat)} (h : Tab w base r T) (hl : T.length = r.length) {A : Option Addr} {c : Nat} {ok : Nat → Prop} (hR : Kd.R (Kd.raw 1) 36 w base ok (.slice A T.length c) (vals r T 0)) : Kd.C KR w A r.length r ∧ r.length ≤ c := by
 obtain ⟨e1, e2, hC⟩ := Kd.R_reads' hR
 rw [vals_length] at hC
 rw [hl] at hC e2
 refine ⟨⟨rfl, hC.2.1, fun hp => ?_⟩, e2⟩
 obtain ⟨ad, e3, h3⟩ := hC.2.2 hp
 refine ⟨ad, e3, fun j p hj => ?_⟩
 have hjl : j < r.length := (List.getElem?_eq_some_iff.1 hj).1
 obtain rfl : gl r j = p := by unfold gl; rw [List.getD_eq_getElem?_getD, hj]; rfl
 have hv : (vals r T 0)[j]? = some [sl T j ((gl r j).length + 0)] := by
   unfold vals
   rw [List.getElem?_map, List.getElem?_range (by omega)]; rfl
 obtain ⟨cs, hcs, hK, hcell⟩ := h3 j _ hv
 obtain ⟨rfl, _, _⟩ := hK
 have hrow := h.rows j (by omega)
 obtain ⟨f1, f2, f3⟩ := Kd.R_reads' hrow
 refine ⟨_, rfl, ⟨some ⟨(tb T j).1, 0, none⟩, (tb T j).2, rfl, by omega, ?_⟩, hcell⟩
 have hx : (gl r j ++ [-7, -8]).length = (gl r j).length + 2 := by simp
 have := Kd.C_take (m := (gl r j).length) f3 (by omega)
 rw [List.take_left] at this
 exact this
theorem two_lit (W : World) (base : Nat) (hb : base ≤ W.heap.size) (x y : Int) : Kd.C (Kd.int .i64) (W.alloc (.cells #[.int .i64 x, .int .i64 y] 3 (0, 0))) (some ⟨W.heap.size, 0, none⟩) 2 [x, y] := by
 have h : IRow (W.alloc (.cells #[.int .i64 x, .int .i64 y] 3 (0, 0))) W.heap.size [x, y] := heap_last W _
 exact (Kd.R_reads' (h.own (base := base) (ok := fun _ => True) hb (by simp) trivial)).2.2
theorem slice_own (g n c a : Nat) (ha : a ≤ c) (W : World) : (Instr.slice 36 (.slice (some ⟨g, 0, none⟩) n c) none (some (.int .i64 (a : Int))) none).run Try.prog W = .ok (.slice (some ⟨g, 0, none⟩) a c) W := by
 rw [slice_to _ n c a ha W]
 split
 · rfl
 · rfl
theorem raw_one (v : Value) (h : v.oneCell' = true) (W : World) (base : Nat) (ok : Nat → Prop) : (Kd.raw 1).M W base ok [v] [v] := by
 refine ⟨rfl, rfl, fun u hu => ?_⟩
 rw [List.mem_singleton] at hu
 rw [hu]
 exact h
structure Lst (w : World) (lo hi : Nat) (A : Option Addr) (c : Nat) (xs : List Int) : Prop where
 R : Kd.R (Kd.int .i64) 3 w lo (fun k => lo ≤ k ∧ k < hi) (.slice A xs.length c) xs
theorem Lst.of {w : World} {lo : Nat} {A : Option Addr} {c : Nat} {xs : List Int} {ok : Nat → Prop} (h : Kd.R (Kd.int .i64) 3 w lo ok (.slice A xs.length c) xs) : Lst w lo w.heap.size A c xs :=
 ⟨Kd.R_mono (Kd.R_bound h) (fun k hk => ⟨hk.2.1, hk.2.2.1⟩)⟩
section
variable {w w' : World} {lo hi : Nat} {A : Option Addr} {c : Nat} {xs : List Int}
theorem Lst.below (h : Lst w lo hi A c xs) (hb : Below w.heap.size w w') : Lst w' lo hi A c xs := ⟨Kd.R_below h.R hb⟩
theorem Lst.frame {P : Nat → Prop} (h : Lst w lo hi A c xs) (f : Mem.Frame P w w') (hP : ∀ k, lo ≤ k → k < hi → ¬ P k) : Lst w' lo hi A c xs := ⟨Kd.R_step h.R (fun k hk hlt => f.block k hlt (hP k hk.1 hk.2))⟩
theorem Lst.reads (h : Lst w lo hi A c xs) : Kd.C (Kd.int .i64) w A xs.length xs ∧ xs.length ≤ c := ⟨(Kd.R_reads' h.R).2.2, (Kd.R_reads' h.R).2.1⟩
theorem Lst.mine (h : Lst w lo hi A c xs) {k : Nat} (hk : Mine A k) : lo ≤ k ∧ k < hi := by
 have a := Kd.R_bound h.R
 have hb := Kd.R_mono h.R (fun k hk => hk)
 exact hb.1 k (mine_own.2 hk)
theorem Lst.own (h : Lst w lo hi A c xs) : Kd.R (Kd.int .i64) 3 w lo (fun _ => True) (.slice A xs.length c) xs := Kd.R_mono h.R (fun _ _ => trivial)
end
def InT (T : List (Nat × Nat)) (k : Nat) : Prop := ∃ j, j < T.length ∧ k = (tb T j).1
def RowsT (w : World) (base : Nat) (r : List (List Int)) (T : List (Nat × Nat)) : Prop := ∀ j, j < T.length → ∃ ys : List Int, ys.length = (gl r j).length + 2 ∧ Kd.R (Kd.int .i64) 3 w base (fun k => k = (tb T j).1) (sl T j ((gl r j).length + 2)) ys
theorem Tab.rowsT {w : World} {base : Nat} {r : List (List Int)} {T : List (Nat × Nat)} (h : Tab w base r T) : RowsT w base r T := fun j hj => by
 refine ⟨_, by simp, Kd.R_mono (Kd.R_tight (by rfl) (h.rows j hj)) (fun k hk => ?_)⟩
 have : some k = some (tb T j).1 := hk
 exact Option.some.inj this
theorem RowsT.frame {P : Nat → Prop} {w w' : World} {base : Nat} {r : List (List Int)} {T : List (Nat × Nat)} (h : RowsT w base r T) (f : Mem.Frame P w w') (hP : ∀ k, InT T k → ¬ P k) : RowsT w' base r T := fun j hj => by
 obtain ⟨ys, h1, h2⟩ := h j hj
 exact ⟨ys, h1, Kd.R_step h2 (fun k hk hlt => f.block k hlt (hP k ⟨j, hj, hk⟩))⟩
theorem RowsT.put {w : World} {base : Nat} {r : List (List Int)} {T : List (Nat × Nat)} (h : RowsT w base r T) (hd : ∀ i j, i < j → j < T.length → (tb T i).1 < (tb T j).1) {j i : Nat} (hj : j < T.length) (hi : i < (gl r j).length + 2) (x : Int) :
   RowsT (w.setCell ⟨(tb T j).1, i, none⟩ (.int .i64 x)) base r T ∧ (∃ y, w.cell? ⟨(tb T j).1, i, none⟩ = some (.int .i64 y)) ∧ w.frozen? ⟨(tb T j).1, i, none⟩ = false := by
 obtain ⟨ys, h1, h2⟩ := h j hj
 have h2' := h2
 unfold sl at h2'
 rw [← h1] at h2'
 have h3 := Kd.R_put h2' (i : Int) x
 rw [Int.toNat_natCast] at h3
 obtain ⟨ad, eD, z⟩ := Kd.at_int (Kd.R_reads' h2').2.2 (i : Int) (by omega) (by omega)
 injection eD with eD
 subst eD
 rw [Int.toNat_natCast, add_plain] at z
 obtain ⟨g, cap, e1, _, _, cells, hcell⟩ := Kd.R_form h2' (by omega)
 have e2 : (tb T j).1 = g := by
   injection e1 with e1 _ _
   injection e1 with e1
   injection e1
 refine ⟨fun q hq => ?_, ⟨_, z⟩, heap_free (by rw [e2]; exact hcell) i⟩
 by_cases e : q = j
 · subst e
   refine ⟨ys.set i x, by rw [List.length_set]; exact h1, ?_⟩
   have h4 := h3.1
   rw [h1] at h4
   exact h4
 · obtain ⟨zs, g1, g2⟩ := h q hq
   refine ⟨zs, g1, Kd.R_far (p := ⟨(tb T j).1, i, none⟩) g2 (fun k hk => ?_) _⟩
   show k ≠ (tb T j).1
   rw [hk]
   rcases Nat.lt_or_gt_of_ne e with c | c
   · have := hd q j c hj; omega
   · have := hd j q c hq; omega
theorem whole_at {w : World} {base : Nat} {r : List (List Int)} {T : List (Nat × Nat)} {A : Option Addr} {n c d : Nat} {ok : Nat → Prop} (h : Kd.R (Kd.raw 1) 36 w base ok (.slice A n c) (vals r T d)) {j : Nat} (hj : j < T.length) : ∃ ad, A = some ad ∧ w.cell? (ad.add j) = some (sl T j ((gl r j).length + d)) := by
 obtain ⟨e1, e2, hC⟩ := Kd.R_reads' h
 rw [vals_length] at e1
 subst e1
 obtain ⟨ad, e3, h3⟩ := hC.2.2 (by rw [vals_length]; omega)
 have hv : (vals r T d)[j]? = some [sl T j ((gl r j).length + d)] := by
   unfold vals
   rw [List.getElem?_map, List.getElem?_range hj]; rfl
 obtain ⟨cs, hcs, ⟨rfl, _, _⟩, hcell⟩ := h3 j _ hv
 have := hcell 0 _ rfl
 rw [show (Kd.raw 1).sz = 1 from rfl, Nat.mul_one, Nat.add_zero] at this
 exact ⟨ad, e3, this⟩
theorem row_full {w : World} {base : Nat} {r : List (List Int)} {T : List (Nat × Nat)} (h : Tab w base r T) {j : Nat} (hj : j < T.length) : (gl r j).length + 2 ≤ (tb T j).2 ∧ Kd.C (Kd.int .i64) w (some ⟨(tb T j).1, 0, none⟩) ((gl r j).length + 2) (gl r j ++ [-7, -8]) ∧ Kd.C (Kd.int .i64) w (some ⟨(tb T j).1, 0, none⟩) (gl r j).length (gl r j) := by
 obtain ⟨f1, f2, f3⟩ := Kd.R_reads' (h.rows j hj)
 have hx : (gl r j ++ [-7, -8]).length = (gl r j).length + 2 := by simp
 have f4 := Kd.C_take (m := (gl r j).length) f3 (by omega)
 rw [List.take_left] at f4
 rw [hx] at f3
 exact ⟨f2, f3, f4⟩
theorem Kd.C_at2 {w : World} {g : Nat} {n : Nat} {xs : List Int} (h : (Kd.int .i64).C w (some ⟨g, 0, none⟩) n xs) (i : Nat) (hi : i < n) : w.cell? ⟨g, i, none⟩ = some (.int .i64 (gi xs i)) := by
 obtain ⟨_, e, y⟩ := Kd.at_int h (i : Int) (by omega) (by omega)
 injection e with e
 subst e
 rw [gi_rd, Int.toNat_natCast, add_plain] at y
 exact y
theorem gi_end (row : List Int) (x y : Int) : gi (row ++ [x, y]) row.length = x ∧ gi (row ++ [x, y]) (row.length + 1) = y := by
 unfold gi
 constructor
 · simp [List.getD_eq_getElem?_getD]
 · simp [List.getD_eq_getElem?_getD, List.getElem?_append_right]
theorem Tab.apart {w : World} {base : Nat} {r : List (List Int)} {T : List (Nat × Nat)} {ok : Nat → Prop} {v : Value} {xs : List (List Value)} (h : Tab w base r T) (hR : Kd.R (Kd.raw 1) 36 w base ok v xs) : Kd.R (Kd.raw 1) 36 w base (fun k => base ≤ k ∧ k < w.heap.size ∧ ¬ InT T k) v xs := by
 refine Kd.R_mono (Kd.R_bound hR) (fun k hk => ⟨hk.2.1, hk.2.2.1, fun ⟨j, hj, e⟩ => ?_⟩)
 obtain ⟨_, _, _, q, hq, cells, hc⟩ := hk
 obtain ⟨c2, hc2⟩ := Kd.R_typed (h.rows j hj) k (by rw [e]; rfl)
 rw [hc] at hc2
 injection hc2 with hc2
 injection hc2 with _ h3 _
 have hq2 : q = 36 := by simpa [Kd.raw] using hq
 rw [hq2] at h3
 exact absurd h3 (by decide)
end Go.Proofs.Ytmikcfddipldnaa.Own
namespace Go.Proofs.Ytmikcfddipldnaa.Pile
open Go.RowKit Go.Proofs.YtmikcfddipldnaaW.PrintWords Go.Proofs.YtmikcfddipldnaaW.PrintLast Go.Proofs.YtmikcfddipldnaaW.PrintMore Go.Proofs.Ytmikcfddipldnaa.Mem
set_option linter.unusedVariables false
set_option linter.unusedSimpArgs false
def PRow (w : World) (ok : Nat → Prop) (v : Value) (n : Nat) (V : Nat → Int) : Prop :=
 (v = .slice none 0 0 ∧ n = 0) ∨ ∃ g cap cur, v = .slice (some ⟨g, 0, none⟩) n cap ∧ ok g ∧ w.heap[g]? = some (.cells cur 3 (0, 0)) ∧ n ≤ cap ∧ cap ≤ maxLen ∧ cur.size = cap ∧ ∀ i, i < n → cur[i]? = some (.int .i64 (V i))
theorem PRow.mono {w : World} {ok ok' : Nat → Prop} {v : Value} {n : Nat} {V : Nat → Int} (h : PRow w ok v n V) (hok : ∀ k, ok k → ok' k) : PRow w ok' v n V := by
 rcases h with h | ⟨g, cap, cur, h1, h2, h3⟩
 · exact .inl h
 · exact .inr ⟨g, cap, cur, h1, hok g h2, h3⟩
theorem PRow.move {w w' : World} {ok : Nat → Prop} {v : Value} {n : Nat} {V : Nat → Int} (h : PRow w ok v n V) (hm : ∀ k, v.ownBlock = some k → k < w.heap.size → w'.heap[k]? = w.heap[k]?) : PRow w' ok v n V := by
 rcases h with h | ⟨g, cap, cur, h1, h2, h3, h4⟩
 · exact .inl h
 · exact .inr ⟨g, cap, cur, h1, h2, by rw [hm g (by rw [h1]; rfl) (lt_of h3)]; exact h3, h4⟩
theorem PRow.lt {w : World} {ok : Nat → Prop} {v : Value} {n : Nat} {V : Nat → Int} (h : PRow w ok v n V) {k : Nat} (hk : v.ownBlock = some k) : ok k ∧ k < w.heap.size := by
 rcases h with ⟨rfl, _⟩ | ⟨g, cap, cur, rfl, h2, h3, _⟩
 · simp [Value.ownBlock] at hk
 · obtain rfl : g = k := by simpa [Value.ownBlock] using hk
   exact ⟨h2, lt_of h3⟩
theorem PRow.slice {w : World} {ok : Nat → Prop} {v : Value} {n : Nat} {V : Nat → Int} (h : PRow w ok v n V) : ∃ A c, v = .slice A n c := by
 rcases h with ⟨rfl, rfl⟩ | ⟨g, cap, cur, rfl, _⟩
 · exact ⟨none, 0, rfl⟩
 · exact ⟨_, _, rfl⟩
theorem PRow.of_R {w : World} {base : Nat} {ok : Nat → Prop} {v : Value} {xs : List Int} (h : Kd.R (Kd.int .i64) 3 w base ok v xs) : PRow w ok v xs.length (gi xs) := by
 have hC := Kd.R_reads h
 obtain ⟨h0, inner, ho, hr⟩ := h
 rcases ho.2 with h1 | ⟨g, cap, cur, rfl, hg, hh, hn, hm, hs, ht⟩
 · exact .inl h1
 · refine .inr ⟨g, cap, cur, rfl, h0 g rfl, hh, hn, hm, hs.trans (Nat.mul_one cap), fun i hi => ?_⟩
   obtain ⟨A, c, e, _, hC⟩ := hC
   injection e with e1 _ _
   subst e1
   obtain ⟨ad, eD, z⟩ := Kd.at_int hC (i : Int) (by omega) (by omega)
   injection eD with eD
   subst eD
   rw [gi_rd, Int.toNat_natCast, add_plain] at z
   unfold World.cell? at z
   simp [hh] at z
   exact z
theorem PRow.at {w : World} {ok : Nat → Prop} {v : Value} {n : Nat} {V : Nat → Int} (h : PRow w ok v n V) {i : Nat} (hi : i < n) : ∃ g c, v = .slice (some ⟨g, 0, none⟩) n c ∧ w.cell? ⟨g, i, none⟩ = some (.int .i64 (V i)) ∧ w.frozen? ⟨g, i, none⟩ = false := by
 rcases h with ⟨_, rfl⟩ | ⟨g, cap, cur, rfl, h2, h3, _, _, _, h4⟩
 · omega
 · exact ⟨g, cap, rfl, heap_cell h3 (h4 i hi), heap_free h3 i⟩
theorem PRow.own {w : World} {ok : Nat → Prop} {v : Value} {n : Nat} {V : Nat → Int} (h : PRow w ok v n V) : w.ownsRow 0 3 1 v n ((List.range n).map fun i => .int .i64 (V i)) := by
 refine ⟨by simp, ?_⟩
 rcases h with h | ⟨g, cap, cur, h1, h2, h3, h4, h5, h6, h7⟩
 · exact .inl h
 · refine .inr ⟨g, cap, cur, h1, Nat.zero_le _, h3, h4, h5, by omega, ?_⟩
   apply List.ext_getElem?
   intro i
   rw [Nat.mul_one, List.getElem?_take, List.getElem?_map]
   by_cases hi : i < n
   · rw [if_pos hi, Array.getElem?_toList, h7 i hi, List.getElem?_range hi]; rfl
   · rw [if_neg hi, List.getElem?_eq_none (by simpa using hi)]; rfl
def upd (V : Nat → Nat → Int) (j i : Nat) (x : Int) : Nat → Nat → Int := fun a b => if a = j ∧ b = i then x else V a b
theorem upd_at (V : Nat → Nat → Int) (j i : Nat) (x : Int) : upd V j i x j i = x := by unfold upd; rw [if_pos ⟨rfl, rfl⟩]
theorem upd_ne (V : Nat → Nat → Int) {j i a b : Nat} (x : Int) (h : a ≠ j ∨ b ≠ i) : upd V j i x a b = V a b := by unfold upd; rw [if_neg (by omega)]
structure Pile (w : World) (lo hi : Nat) (T : List Value) (N : Nat → Nat) (V : Nat → Nat → Int) : Prop where
 rows : ∀ j, j < T.length → PRow w (fun k => lo ≤ k ∧ k < hi) (va T j) (N j) (V j)
 apart : ∀ i j k, i < T.length → j < T.length → (va T i).ownBlock = some k → (va T j).ownBlock = some k → i = j
def InP (T : List Value) (k : Nat) : Prop := ∃ j, j < T.length ∧ (va T j).ownBlock = some k
section
variable {w w' : World} {lo hi : Nat} {T : List Value} {N : Nat → Nat} {V : Nat → Nat → Int}
theorem Pile.step (h : Pile w lo hi T N V) (hm : ∀ k, InP T k → k < w.heap.size → w'.heap[k]? = w.heap[k]?) : Pile w' lo hi T N V :=
 ⟨fun j hj => (h.rows j hj).move (fun k hk hlt => hm k ⟨j, hj, hk⟩ hlt), h.apart⟩
theorem Pile.below (h : Pile w lo hi T N V) (hb : Below w.heap.size w w') : Pile w' lo hi T N V := h.step (fun k _ hk => hb.block k hk)
theorem Pile.inP (h : Pile w lo hi T N V) {k : Nat} (hk : InP T k) : lo ≤ k ∧ k < hi ∧ k < w.heap.size := by
 obtain ⟨j, hj, e⟩ := hk
 have := (h.rows j hj).lt e
 exact ⟨this.1.1, this.1.2, this.2⟩
theorem Pile.frame {P : Nat → Prop} (h : Pile w lo hi T N V) (f : Mem.Frame P w w') (hP : ∀ k, InP T k → ¬ P k) : Pile w' lo hi T N V := h.step (fun k hk hlt => f.block k hlt (hP k hk))
theorem Pile.congr {V' : Nat → Nat → Int} (h : Pile w lo hi T N V) (e : ∀ j i, j < T.length → i < N j → V' j i = V j i) : Pile w lo hi T N V' := by
 refine ⟨fun j hj => ?_, h.apart⟩
 rcases h.rows j hj with q | ⟨g, cap, cur, h1, h2, h3, h4, h5, h6, h7⟩
 · exact .inl q
 · exact .inr ⟨g, cap, cur, h1, h2, h3, h4, h5, h6, fun i hi => by rw [e j i hj hi]; exact h7 i hi⟩
theorem Pile.put (h : Pile w lo hi T N V) {j i : Nat} (hj : j < T.length) (hi2 : i < N j) (x : Int) :
   ∃ g c, va T j = .slice (some ⟨g, 0, none⟩) (N j) c ∧ w.cell? ⟨g, i, none⟩ = some (.int .i64 (V j i)) ∧ w.frozen? ⟨g, i, none⟩ = false ∧ InP T g ∧ Pile (w.setCell ⟨g, i, none⟩ (.int .i64 x)) lo hi T N (upd V j i x) := by
 obtain ⟨g, c, e, h1, h2⟩ := (h.rows j hj).at hi2
 have hg : (va T j).ownBlock = some g := by rw [e]; rfl
 refine ⟨g, c, e, h1, h2, ⟨j, hj, hg⟩, fun q hq => ?_, h.apart⟩
 by_cases hqj : q = j
 · subst hqj
   rcases h.rows q hq with ⟨e2, _⟩ | ⟨g2, cap, cur, e2, a2, a3, a4, a5, a6, a7⟩
   · rw [e2] at hg; simp [Value.ownBlock] at hg
   · obtain rfl : g2 = g := by rw [e2] at hg; simpa [Value.ownBlock] using hg
     refine .inr ⟨g2, cap, _, e2, a2, heap_set a3 _, a4, a5, by simpa using a6, fun k hk => ?_⟩
     rw [Array.getElem?_setIfInBounds]
     by_cases hki : i = k
     · subst hki
       rw [if_pos rfl, if_pos (by omega), upd_at]
     · rw [if_neg hki, upd_ne _ _ (.inr (fun e => hki e.symm))]
       exact a7 k hk
 · have := (h.rows q hq).move (w' := w.setCell ⟨g, i, none⟩ (.int .i64 x)) (fun k hk hlt => Below.heap_setCell _ _ _ _ (fun e => hqj (h.apart q j g hq hj (by rw [hk, e]) hg)))
   have e3 : upd V j i x q = V q := funext fun b => upd_ne _ _ (.inl hqj)
   rw [e3]
   exact this
theorem Pile.of_S {A : Option Addr} {n c : Nat} {r : List (List Int)} {ty : Nat} {ok : Nat → Prop} (hty : ty ≠ 3) (h : Kd.S KR ty w lo ok (.slice A n c) r) :
   ∃ T : List Value, T.length = r.length ∧ Pile w lo w.heap.size T (fun j => (gl r j).length) (fun j => gi (gl r j)) ∧ (∀ j, j < r.length → ∃ ad, A = some ad ∧ w.cell? (ad.add j) = some (va T j)) ∧ (∀ k, A.map (·.block) = some k → ¬ InP T k ∧ lo ≤ k ∧ k < w.heap.size) ∧ (∀ k, InP T k → ok k) := by
 have hown := Kd.S_typed h
 have hlt := Kd.S_lt h
 have hbase := Kd.S_base h
 obtain ⟨f, h⟩ := h
 obtain ⟨h0, inner, ho, hr⟩ := Kd.R_bound h
 have hsz : (Kd.tag f KR).sz = 1 := rfl
 have hil : inner.length = r.length := by have := ho.1; rw [List.length_zipIdx, hsz] at this; omega
 have hrow : ∀ j, j < r.length → Kd.R (Kd.int .i64) 3 w lo (fun k => ok k ∧ lo ≤ k ∧ k < w.heap.size ∧ f k = j) (va inner j) (gl r j) := fun j hj => by
   have hz : r.zipIdx[j]? = some (gl r j, j) := by rw [List.getElem?_zipIdx, gl_of hj, Nat.zero_add]; rfl
   obtain ⟨v, hv, hR⟩ := hr.2 j (gl r j, j) hz
   have e2 : (inner.drop (j * 1)).take 1 = [va inner j] := by
     rw [Nat.mul_one, List.drop_eq_getElem_cons (by omega), List.take_succ_cons, List.take_zero]
     simp [va, List.getD_eq_getElem?_getD, hil, hj]
   rw [hsz, e2] at hv
   injection hv with hv _
   rw [hv]
   exact Kd.R_mono hR (fun k hk => ⟨hk.1.1.1, hk.1.1.2.1, hk.1.1.2.2.1, hk.2⟩)
 refine ⟨inner, hil, ⟨fun j hj => ?_, fun i j k hi hj e1 e2 => ?_⟩, fun j hj => ?_, fun k hk => ?_, fun k ⟨j, hj, e⟩ => ((hrow j (by omega)).1 k e).1⟩
 · exact (PRow.of_R (hrow j (by omega))).mono (fun k hk => ⟨hk.2.1, hk.2.2.1⟩)
 · have a := ((hrow i (by omega)).1 k e1).2.2.2
   have b := ((hrow j (by omega)).1 k e2).2.2.2
   omega
 · rcases ho.2 with ⟨e, e2⟩ | ⟨g, cap, cur, e, _, hh, hn, _, hs, ht⟩
   · rw [List.length_zipIdx] at e2; omega
   · injection e with e _ _
     refine ⟨_, e, ?_⟩
     rw [add_plain]
     refine heap_cell hh ?_
     have e4 : inner[j]? = some (va inner j) := va_of (by omega)
     generalize va inner j = vj at e4 ⊢
     rw [← ht, List.getElem?_take] at e4
     split at e4
     · rw [Array.getElem?_toList] at e4; exact e4
     · cases e4
 · have hk' : (Value.slice A n c).ownBlock = some k := by
     cases A with
     | none => simp at hk
     | some a => simpa [Value.ownBlock] using hk
   refine ⟨fun ⟨j, hj, e⟩ => ?_, hbase k hk', hlt k hk'⟩
   obtain ⟨c1, hc1⟩ := hown k hk'
   obtain ⟨c2, hc2⟩ := Kd.R_typed (hrow j (by omega)) k e
   rw [hc1] at hc2
   injection hc2 with hc2
   injection hc2 with _ h3 _
   exact hty h3
end
def Ext (w : World) (S0 : Nat) (v0 v : Value) (n : Nat) : Prop := (∃ xs, w.ownsRow 0 3 1 v n xs) ∧ ∀ k, v.ownBlock = some k → v0.ownBlock = some k ∨ S0 ≤ k
theorem Ext.slice {w : World} {S0 : Nat} {v0 v : Value} {n : Nat} (h : Ext w S0 v0 v n) : ∃ A c, v = .slice A n c := by
 obtain ⟨xs, h1, h2 | ⟨g, cap, cur, h2, _⟩⟩ := h.1
 · exact ⟨none, 0, by rw [h2.1, h2.2]⟩
 · exact ⟨_, _, h2⟩
theorem Ext.start {w : World} {lo hi : Nat} {T : List Value} {N : Nat → Nat} {V : Nat → Nat → Int} (h : Pile w lo hi T N V) (S0 : Nat) {j : Nat} (hj : j < T.length) : Ext w S0 (va T j) (va T j) (N j) := ⟨⟨_, (h.rows j hj).own⟩, fun k hk => .inl hk⟩
theorem Ext.below {w w' : World} {S0 : Nat} {v0 v : Value} {n : Nat} (h : Ext w S0 v0 v n) (hm : ∀ k, v.ownBlock = some k → k < w.heap.size → w'.heap[k]? = w.heap[k]?) : Ext w' S0 v0 v n := by
 obtain ⟨⟨xs, h1⟩, h2⟩ := h
 refine ⟨⟨xs, own_move h1 (fun k hk => hm k hk (h1.lt k hk).2)⟩, h2⟩
section
variable {P : Program} {ops : Array Oper} {rest : List Oper} {o : Oper} {a : Act} {Q : Exit → Act → World → Prop}
theorem append_exact {W : World} (hgd : o.guard = none) (s x : Operand) (t e : TypeId) (z : Value) (bytes : Nat)
   (ho : o.op = .call { callee := .builtin .append, args := #[s, x], argTypes := #[t, t] })
   (ht : P.underlying t = some (.slice e)) (hinfo : (P.info? e).map (fun i => (i.zero, i.size, i.bytes)) = some (some z, 1, bytes)) (hz : z.cells.size = 1) (hb0 : 0 < bytes)
   (v : Value) (n : Nat) (xs : List Value) (y : Value) (hs : a.eval s = v) (hx : a.eval x = .slice (some ⟨W.heap.size, 0, none⟩) 1 1) (h1 : y.oneCell' = true)
   (HO : W.ownsRow 0 e 1 v n xs) (hl : (n + 1) * bytes ≤ 140737488355328)
   (h : ∀ v1 w1, w1.ownsRow 0 e 1 v1 (n + 1) (xs ++ [y]) → W.grownBy w1 v.ownBlock → ((v1.ownBlock = v.ownBlock ∧ ∀ g cur, v.ownBlock = some g → W.heap[g]? = some (.cells cur e (0, 0)) → ∃ cur', w1.heap[g]? = some (.cells cur' e (0, 0)) ∧ cur'.size = cur.size ∧ ∀ i, i < n → cur'[i]? = cur[i]?) ∨ (W.grownBy w1 none ∧ ∃ b, v1.ownBlock = some b ∧ W.heap.size ≤ b)) → wpList P ops Q rest (a.put o.dst v1) w1) :
   wpList P ops Q (o :: rest) a (W.alloc (.cells #[y] e)) := by
 obtain ⟨i0, hi, hzz⟩ := Option.map_eq_some_iff.1 hinfo
 simp only [Prod.mk.injEq] at hzz
 obtain ⟨hz0, hz1, hz2⟩ := hzz
 have hlen : n + 1 ≤ 140737488355328 := Nat.le_trans (Nat.le_mul_of_pos_right _ hb0) hl
 have hnews : ∀ j u, [y][j]? = some u → (W.alloc (.cells #[y] e)).cell? ((⟨W.heap.size, 0, none⟩ : Addr).add j) = some u := by
   simpa using World.news_of_block (cs := #[y]) (t := e) (fr := (0, 0)) (heap_alloc_new W (.cells #[y] e))
 have hone : ∀ u ∈ [y], u.oneCell' = true := by simpa using h1
 have hA : W.grownBy (W.alloc (.cells #[y] e)) none := World.grownBy_alloc W _ _
 rcases HO.2 with ⟨rfl, rfl⟩ | ⟨g, cap, cur, rfl, _, hg, hnc, hcm, hcs, htake⟩
 · have hx0 : xs = [] := List.eq_nil_of_length_eq_zero (by simpa using HO.1)
   subst hx0
   refine wpList_append_grows (W.alloc (.cells #[y] e)) hgd s x t ho e i0 z 1 bytes ht hi hz0 hz1 hz2 hz (by omega) none 0 0 [] hs (fun _ => ⟨rfl, rfl⟩) rfl (fun b hb => by cases hb) ⟨W.heap.size, 0, none⟩ 1 1 [y] hx rfl hnews hone (by omega) (by simp only [maxLen]; omega) hl ?_
   intro v' w' hown hg2
   have hlow := own_weaken hown (Nat.zero_le _)
   refine h v' w' hlow (World.grownBy.trans (World.grownBy_alloc W _ _) ⟨hg2.os, hg2.tape, hg2.output, hg2.size, fun k hk _ => hg2.block k hk (by simp)⟩) (.inr ⟨World.grownBy.trans hA hg2, ?_⟩)
   rcases hown.2 with ⟨_, e0⟩ | ⟨b, _, _, rfl, hb, _⟩
   · omega
   · exact ⟨b, rfl, by simp at hb; omega⟩
 · have hne : g ≠ W.heap.size := by have := lt_of hg; omega
   have hg' : (W.alloc (.cells #[y] e)).heap[g]? = some (.cells cur e (0, 0)) := heap_old hg _
   have hcur : cur.size = cap := by omega
   refine wpList_append_arg (W.alloc (.cells #[y] e)) hgd s x t ho e i0 z 1 bytes ht hi hz0 hz1 hz2 hz (by omega) g 0 n cap xs hs HO.1 (fun j u hj => ?_) ⟨W.heap.size, 0, none⟩ 1 1 [y] hx rfl hnews hone (fun hr j hj => ?_) (by simp only [maxLen]; omega) hl (fun hr => ?_) (fun hr v' w' hown hg2 => ?_)
   · have := (HO.alloc (.cells #[y] e)).cells (g := g) rfl j u hj
     rw [add_plain] at this
     rw [Nat.zero_add]
     exact this
   · obtain rfl : j = 0 := by simpa using hj
     refine ⟨?_, heap_free hg' _⟩
     have hlt2 : n < cur.size := by omega
     rw [heap_cell hg' (v := cur[n]) (by simp [Array.getElem?_eq_getElem hlt2])]
     rfl
   · have e1 : ((W.alloc (.cells #[y] e)).setCells g (0 + n * 1) [y]) = (W.alloc (.cells #[y] e)).setCell ⟨g, n, none⟩ y := by
       rw [Nat.zero_add, Nat.mul_one]; rfl
     rw [e1]
     have hset := heap_set (i := n) hg' y
     refine h _ _ ⟨by simp; have := HO.1; omega, .inr ⟨g, cap, _, rfl, Nat.zero_le _, hset, hr, hcm, by simp; omega, ?_⟩⟩ ?_ (.inl ⟨rfl, fun g2 cur2 e2 hc2 => ?_⟩)
     · apply List.ext_getElem?
       intro i
       have hxl : xs.length = n := by have := HO.1; omega
       rw [List.getElem?_take, Array.getElem?_toList, Array.getElem?_setIfInBounds]
       by_cases hi1 : i < n
       · rw [if_pos (by omega), if_neg (by omega), List.getElem?_append_left (by omega), ← htake, List.getElem?_take, if_pos (by omega), Array.getElem?_toList]
       · by_cases hi2 : i = n
         · subst hi2
           rw [if_pos (by omega), if_pos rfl, if_pos (by omega), List.getElem?_append_right (by omega), hxl]
           simp
         · rw [if_neg (by omega), List.getElem?_eq_none (by simp; omega)]
     · exact World.grownBy.trans (World.grownBy_alloc W _ _) ⟨rfl, rfl, rfl, by simp [World.setCell], fun k _ hk => Below.heap_setCell _ _ _ _ (fun e => hk (by rw [e]; rfl))⟩
     · obtain rfl : g = g2 := by simpa [Value.ownBlock] using e2
       rw [hg] at hc2
       injection hc2 with hc2
       injection hc2 with hc2 _ _
       subst hc2
       exact ⟨_, hset, by simp, fun i hi2 => by rw [Array.getElem?_setIfInBounds, if_neg (by omega)]⟩
   · have hlow := own_weaken hown (Nat.zero_le _)
     refine h v' w' hlow (World.grownBy.trans (World.grownBy_alloc W _ _) ⟨hg2.os, hg2.tape, hg2.output, hg2.size, fun k hk _ => hg2.block k hk (by simp)⟩) (.inr ⟨World.grownBy.trans hA hg2, ?_⟩)
     rcases hown.2 with ⟨_, e0⟩ | ⟨b, _, _, rfl, hb, _⟩
     · omega
     · exact ⟨b, rfl, by simp at hb; omega⟩
theorem Pile.append {W : World} {lo hi : Nat} {T : List Value} {N : Nat → Nat} {V : Nat → Nat → Int} (hgd : o.guard = none) (s x : Operand) (t : TypeId)
   (ho : o.op = .call { callee := .builtin .append, args := #[s, x], argTypes := #[t, t] })
   (ht : P.underlying t = some (.slice 3)) (hinfo : (P.info? 3).map (fun i => (i.zero, i.size, i.bytes)) = some (some (.int .i64 0), 1, 8))
   (S0 j : Nat) (v : Value) (n : Nat) (y : Int) (hs : a.eval s = v) (hx : a.eval x = .slice (some ⟨W.heap.size, 0, none⟩) 1 1)
   (hP : Pile W lo hi T N V) (hj : j < T.length) (hn : N j ≤ n) (hE : Ext W S0 (va T j) v n) (hS : hi ≤ S0) (hSW : S0 ≤ W.heap.size) (hl : n ≤ 17000000000000)
   (h : ∀ A d w1, Pile w1 lo hi T N V → Ext w1 S0 (va T j) (.slice A (n + 1) d) (n + 1) → Mem.Frame (fun k => (va T j).ownBlock = some k ∨ S0 ≤ k) W w1 → (∀ g, (Value.slice A (n + 1) d).ownBlock = some g → A = some ⟨g, 0, none⟩ ∧ w1.cell? ⟨g, n, none⟩ = some (.int .i64 y)) → A ≠ none → wpList P ops Q rest (a.put o.dst (.slice A (n + 1) d)) w1) :
   wpList P ops Q (o :: rest) a (W.alloc (.cells #[.int .i64 y] 3)) := by
 obtain ⟨⟨xs, hown⟩, hE2⟩ := hE
 refine append_exact hgd s x t 3 (.int .i64 0) 8 ho ht hinfo rfl (by omega) v n xs (.int .i64 y) hs hx rfl hown (by omega) ?_
 intro v1 w1 hown1 hg1 hk
 have hxl : xs.length = n := by have := hown.1; omega
 have hat : ∀ k, v1.ownBlock = some k → (va T j).ownBlock = some k ∨ S0 ≤ k := fun k hk1 => by
   rcases hk with ⟨e, _⟩ | ⟨_, b, e, hb⟩
   · exact hE2 k (by rw [← e]; exact hk1)
   · rw [e] at hk1
     obtain rfl : b = k := by simpa using hk1
     exact .inr (by omega)
 have hPile : Pile w1 lo hi T N V := by
   refine ⟨fun q hq => ?_, hP.apart⟩
   by_cases hqj : q = j
   · subst hqj
     rcases hk with ⟨e, hcur⟩ | ⟨hg0, _⟩
     · rcases hP.rows q hq with e2 | ⟨g, cap, cur, e1, a2, a3, a4, a5, a6, a7⟩
       · exact .inl e2
       · by_cases hvb : v.ownBlock = some g
         · obtain ⟨cur', b1, b2, b3⟩ := hcur g cur hvb a3
           exact .inr ⟨g, cap, cur', e1, a2, b1, a4, a5, by omega, fun i hi2 => by rw [b3 i (by omega)]; exact a7 i hi2⟩
         · exact .inr ⟨g, cap, cur, e1, a2, by rw [hg1.block g (lt_of a3) (fun e => hvb e.symm)]; exact a3, a4, a5, a6, a7⟩
     · exact (hP.rows q hq).move (fun k _ hlt => hg0.block k hlt (by simp))
   · refine (hP.rows q hq).move (fun k hk1 hlt => hg1.block k hlt (fun e => ?_))
     rcases hE2 k e.symm with c | c
     · exact hqj (hP.apart q j k hq hj hk1 c)
     · have := ((hP.rows q hq).lt hk1).1; omega
 have hF : Mem.Frame (fun k => (va T j).ownBlock = some k ∨ S0 ≤ k) W w1 :=
   ⟨hg1.os, hg1.tape, hg1.output, hg1.size, fun k hlt hk1 => hg1.block k hlt (fun e => hk1 (hE2 k e.symm))⟩
 have hE1 : Ext w1 S0 (va T j) v1 (n + 1) := ⟨⟨_, hown1⟩, hat⟩
 have hcell : ∀ g, v1.ownBlock = some g → w1.cell? ⟨g, n, none⟩ = some (.int .i64 y) := fun g e => by
   have := hown1.cells e n (.int .i64 y) (by rw [List.getElem?_append_right (by omega), hxl]; simp)
   rw [add_plain] at this
   exact this
 rcases hown1.2 with ⟨_, e0⟩ | ⟨g, cap, cur, rfl, _⟩
 · omega
 · exact h _ _ _ hPile hE1 hF (fun g' e => by
     obtain rfl : g = g' := by simpa [Value.ownBlock] using e
     exact ⟨rfl, hcell g rfl⟩) (by simp)
end
structure Grid (w : World) (lo hi : Nat) (A : Option Addr) (T : List Value) (N : Nat → Nat) (V : Nat → Nat → Int) : Prop where
 pile : Pile w lo hi T N V
 outer : ∀ j, j < T.length → ∃ g, A = some ⟨g, 0, none⟩ ∧ w.cell? ⟨g, j, none⟩ = some (va T j)
 far : ∀ g, A = some ⟨g, 0, none⟩ → ¬ InP T g ∧ lo ≤ g ∧ g < hi
theorem Grid.of_S {w : World} {lo : Nat} {A : Option Addr} {n c : Nat} {r : List (List Int)} {ok : Nat → Prop} (h : Kd.S KR 36 w lo ok (.slice A n c) r) :
   ∃ T : List Value, T.length = r.length ∧ Grid w lo w.heap.size A T (fun j => (gl r j).length) (fun j => gi (gl r j)) := by
 obtain ⟨T, h1, h2, h3, h4, _⟩ := Pile.of_S (by decide) h
 refine ⟨T, h1, h2, fun j hj => ?_, fun g hg => ?_⟩
 · obtain ⟨ad, e, hc⟩ := h3 j (by omega)
   subst e
   obtain ⟨g, rfl⟩ := Kd.R_head (Kd.S_R h)
   rw [add_plain] at hc
   exact ⟨g, rfl, hc⟩
 · have := h4 g (by rw [hg]; rfl)
   exact ⟨this.1, this.2.1, this.2.2⟩
section
variable {w w' : World} {lo hi : Nat} {A : Option Addr} {T : List Value} {N : Nat → Nat} {V : Nat → Nat → Int}
theorem Grid.frame {P : Nat → Prop} (h : Grid w lo hi A T N V) (f : Mem.Frame P w w') (hP : ∀ k, lo ≤ k → k < hi → ¬ P k) : Grid w' lo hi A T N V := by
 refine ⟨h.pile.frame f (fun k hk => hP k (h.pile.inP hk).1 (h.pile.inP hk).2.1), fun j hj => ?_, h.far⟩
 obtain ⟨g, e, hc⟩ := h.outer j hj
 have := h.far g e
 exact ⟨g, e, (World.cell?_of_block (f.block g (cell_lt hc) (hP g this.2.1 this.2.2))).trans hc⟩
theorem Grid.below (h : Grid w lo hi A T N V) (hb : Below w.heap.size w w') : Grid w' lo hi A T N V := h.frame (Mem.Frame.of_below (S := fun _ => False) hb) (fun _ _ _ q => q)
theorem Grid.outer_frame {P : Nat → Prop} (h : Grid w lo hi A T N V) {V' : Nat → Nat → Int} (hp : Pile w' lo hi T N V') (f : Mem.Frame P w w') (hP : ∀ g, A = some ⟨g, 0, none⟩ → ¬ P g) : Grid w' lo hi A T N V' := by
 refine ⟨hp, fun j hj => ?_, h.far⟩
 obtain ⟨g, e, hc⟩ := h.outer j hj
 exact ⟨g, e, (World.cell?_of_block (f.block g (cell_lt hc) (hP g e))).trans hc⟩
theorem Grid.congr {V' : Nat → Nat → Int} (h : Grid w lo hi A T N V) (e : ∀ j i, j < T.length → i < N j → V' j i = V j i) : Grid w lo hi A T N V' := ⟨h.pile.congr e, h.outer, h.far⟩
theorem Grid.put (h : Grid w lo hi A T N V) {j i : Nat} (hj : j < T.length) (hi2 : i < N j) (x : Int) :
   ∃ g c, va T j = .slice (some ⟨g, 0, none⟩) (N j) c ∧ w.cell? ⟨g, i, none⟩ = some (.int .i64 (V j i)) ∧ w.frozen? ⟨g, i, none⟩ = false ∧ InP T g ∧ Grid (w.setCell ⟨g, i, none⟩ (.int .i64 x)) lo hi A T N (upd V j i x) := by
 obtain ⟨g, c, e, h1, h2, h3, h4⟩ := h.pile.put hj hi2 x
 refine ⟨g, c, e, h1, h2, h3, h.outer_frame h4 ((Mem.Frame.refl (InP T) w).setCell (p := ⟨g, i, none⟩) h3 _) (fun g2 e2 => (h.far g2 e2).1)⟩
theorem Grid.row (h : Grid w lo hi A T N V) {j : Nat} (hj : j < T.length) : ∃ g B c, A = some ⟨g, 0, none⟩ ∧ va T j = .slice B (N j) c ∧ w.cell? ⟨g, j, none⟩ = some (.slice B (N j) c) := by
 obtain ⟨g, e, hc⟩ := h.outer j hj
 obtain ⟨B, c, e2⟩ := (h.pile.rows j hj).slice
 exact ⟨g, B, c, e, e2, by rw [hc, e2]⟩
end
structure Lsts (w : World) (lo hi : Nat) (A : Option Addr) (c : Nat) (xs : List (List Int)) : Prop where
 S : Kd.S KR 36 w lo (fun k => lo ≤ k ∧ k < hi) (.slice A xs.length c) xs
theorem Lsts.of {w : World} {lo : Nat} {A : Option Addr} {c : Nat} {xs : List (List Int)} {ok : Nat → Prop} (h : Kd.S KR 36 w lo ok (.slice A xs.length c) xs) : Lsts w lo w.heap.size A c xs :=
 ⟨Kd.S_mono (Kd.S_bound h) (fun k hk => ⟨hk.2.1, hk.2.2.1⟩)⟩
section
variable {w w' : World} {lo hi : Nat} {A : Option Addr} {c : Nat} {xs : List (List Int)}
theorem Lsts.below (h : Lsts w lo hi A c xs) (hb : Below w.heap.size w w') : Lsts w' lo hi A c xs := ⟨Kd.S_below h.S hb⟩
theorem Lsts.frame {P : Nat → Prop} (h : Lsts w lo hi A c xs) (f : Mem.Frame P w w') (hP : ∀ k, lo ≤ k → k < hi → ¬ P k) : Lsts w' lo hi A c xs := ⟨Kd.S_step h.S (fun k hk hlt => f.block k hlt (hP k hk.1 hk.2))⟩
theorem Lsts.reads (h : Lsts w lo hi A c xs) : Kd.C KR w A xs.length xs ∧ xs.length ≤ c := ⟨(Kd.S_reads' h.S).2.2, (Kd.S_reads' h.S).2.1⟩
end
structure Heaps (w : World) (lo hi : Nat) (T : List Value) (D : List (List Int)) : Prop where
 len : T.length = D.length
 pile : Pile w lo hi T (fun j => (gl D j).length) (fun j => gi (gl D j))
theorem Heaps.nil (w : World) (lo hi : Nat) : Heaps w lo hi [] [] := ⟨rfl, ⟨fun j h => absurd h (by simp), fun i j k h => absurd h (by simp)⟩⟩
section
variable {w w' : World} {lo mid hi : Nat} {T T' : List Value} {D D' : List (List Int)}
theorem Heaps.below (h : Heaps w lo hi T D) (hb : Below w.heap.size w w') : Heaps w' lo hi T D := ⟨h.len, h.pile.below hb⟩
theorem Heaps.frame {P : Nat → Prop} (h : Heaps w lo hi T D) (f : Mem.Frame P w w') (hP : ∀ k, lo ≤ k → k < hi → ¬ P k) : Heaps w' lo hi T D := ⟨h.len, h.pile.frame f (fun k hk => hP k (h.pile.inP hk).1 (h.pile.inP hk).2.1)⟩
theorem Heaps.grown {v : Value} (h : Heaps w lo hi T D) (hty : ∀ k, v.ownBlock = some k → ∃ cells, w.heap[k]? = some (.cells cells 36 (0, 0))) (hg : w.grownBy w' v.ownBlock) : Heaps w' lo hi T D := by
 refine ⟨h.len, h.pile.step (fun k hk hlt => hg.block k hlt (fun e => ?_))⟩
 obtain ⟨j, hj, e1⟩ := hk
 obtain ⟨c1, hc1⟩ := hty k e.symm
 rcases h.pile.rows j hj with ⟨e2, _⟩ | ⟨g, cap, cur, e2, _, h3, _⟩
 · rw [e2] at e1; simp [Value.ownBlock] at e1
 · rw [e2] at e1
   obtain rfl : g = k := by simpa [Value.ownBlock] using e1
   rw [h3] at hc1
   injection hc1 with hc1
   injection hc1 with _ h5 _
   exact absurd h5 (by decide)
end
theorem Heaps.one {w : World} {lo : Nat} {ok : Nat → Prop} {v : Value} {xs : List Int} (h : Kd.R (Kd.int .i64) 3 w lo ok v xs) : Heaps w lo w.heap.size [v] [xs] := by
 refine ⟨rfl, ⟨fun j hj => ?_, fun i j k hi hj _ _ => ?_⟩⟩
 · obtain rfl : j = 0 := by simpa using hj
   exact (PRow.of_R (Kd.R_bound h)).mono (fun k hk => ⟨hk.2.1, hk.2.2.1⟩)
 · simp at hi hj; omega
structure Outer (w : World) (A : Option Addr) (T : List Value) : Prop where
 cells : ∀ j, j < T.length → ∃ g, A = some ⟨g, 0, none⟩ ∧ w.cell? ⟨g, j, none⟩ = some (va T j)
theorem Heaps.of_S {w : World} {lo : Nat} {A : Option Addr} {n c : Nat} {r : List (List Int)} {ok : Nat → Prop} (h : Kd.S KR 36 w lo ok (.slice A n c) r) :
   ∃ T : List Value, Heaps w lo w.heap.size T r ∧ Outer w A T ∧ ∀ k, InP T k → ok k := by
 obtain ⟨T, h1, h2, h3, h4, h5⟩ := Pile.of_S (by decide) h
 refine ⟨T, ⟨h1, h2⟩, Outer.mk (fun j hj => ?_), h5⟩
 obtain ⟨ad, e, hc⟩ := h3 j (by omega)
 subst e
 obtain ⟨g, rfl⟩ := Kd.R_head (Kd.S_R h)
 rw [add_plain] at hc
 exact ⟨g, rfl, hc⟩
theorem Outer.below {w w' : World} {A : Option Addr} {T : List Value} (h : Outer w A T) (hb : Below w.heap.size w w') : Outer w' A T := ⟨fun j hj => by
 obtain ⟨g, e, hc⟩ := h.cells j hj
 exact ⟨g, e, (hb.cell (cell_lt hc)).trans hc⟩⟩
def ones (G : List Value) : List (List Value) := G.map fun v => [v]
theorem ones_length (G : List Value) : (ones G).length = G.length := by unfold ones; simp
theorem Outer.reads {w : World} {lo hi : Nat} {A : Option Addr} {T : List Value} {D : List (List Int)} (h : Outer w A T) (hP : Heaps w lo hi T D) (hl : T.length ≤ 9223372036854775807) : Kd.C (Kd.raw 1) w A T.length (ones T) := by
 refine ⟨ones_length T, hl, fun hp => ?_⟩
 obtain ⟨g, e, _⟩ := h.cells 0 hp
 refine ⟨_, e, fun j p hj => ?_⟩
 unfold ones at hj
 rw [List.getElem?_map] at hj
 obtain ⟨v, hv, rfl⟩ := Option.map_eq_some_iff.1 hj
 have hjl : j < T.length := (List.getElem?_eq_some_iff.1 hv).1
 obtain ⟨g2, e2, hc⟩ := h.cells j hjl
 obtain rfl : g = g2 := by rw [e] at e2; injection e2 with e2; injection e2
 have ev : va T j = v := by rw [va_of hjl] at hv; exact Option.some.inj hv
 refine ⟨[v], rfl, (show (Kd.raw 1).K w [v] [v] from ⟨rfl, rfl, fun u hu => ?_⟩), fun i u hu => ?_⟩
 · rw [List.mem_singleton] at hu
   obtain ⟨B, c, es⟩ := (hP.pile.rows j hjl).slice
   rw [hu, ← ev, es]
   rfl
 · obtain rfl : i = 0 := by
     rcases i with _ | i
     · rfl
     · simp at hu
   obtain rfl : v = u := by simpa using hu
   rw [show (Kd.raw 1).sz = 1 from rfl, Nat.mul_one, Nat.add_zero, add_plain, hc, ev]
end Go.Proofs.Ytmikcfddipldnaa.Pile
namespace Go.Proofs.Ytmikcfddipldnaa.Rot
open Go.RowKit Go.Proofs.YtmikcfddipldnaaW.PrintWords Go.Proofs.YtmikcfddipldnaaW.PrintLast Go.Proofs.YtmikcfddipldnaaW.PrintMore Go.Proofs.Ytmikcfddipldnaa.Mem
set_option linter.unusedVariables false
set_option linter.unusedSimpArgs false
def froms (es : List (Int × Int)) : List Int := es.flatMap fun e => [e.1, e.2]
theorem froms_length (es : List (Int × Int)) : (froms es).length = 2 * es.length := by
 induction es with
 | nil => rfl
 | cons e es ih => unfold froms at ih ⊢; rw [List.flatMap_cons, List.length_append, ih]; simp; omega
theorem froms_take {es : List (Int × Int)} {i : Nat} (h : i < es.length) : froms (es.take (i + 1)) = froms (es.take i) ++ [(pe es i).1, (pe es i).2] := by
 unfold froms
 rw [List.take_succ_eq_append_getElem h, List.flatMap_append]
 simp [pe, List.getD_eq_getElem?_getD, h]
theorem cell_two_new (w : World) (x y : Value) (t : TypeId) : ∀ j u, [x, y][j]? = some u → (w.alloc (.cells #[x, y] t)).cell? ((⟨w.heap.size, 0, none⟩ : Addr).add j) = some u := by
 intro j u hj
 rw [add_plain]
 exact heap_cell (heap_last w _) (by simpa using hj)
set_option maxHeartbeats 1000000 in
set_option maxRecDepth 100000 in
theorem begins_calls (n : Int) (A : Option Addr) (c : Nat) (es : List (Int × Int)) (w : World) (he : Pairs w A es) (hl : es.length ≤ 4194304) :
   Calls Try.prog 60 #[.agg #[.int .i64 n, .slice A es.length c]] w fun e w' => ∃ v, e = .returned v ∧ Kd.R (Kd.int .i64) 3 w' w.heap.size (fun _ => True) v (froms es) ∧ Below w.heap.size w w' := by
 have HE := Aside0.mk he
 have HB := Aside0.mk ((Below.refl w.heap.size w).alloc (Nat.le_refl _) (.cells #[.int .i64 n, .slice A es.length c] 24 (0, 0)))
 have HX := Aside0.mk (heap_last w (.cells #[.int .i64 n, .slice A es.length c] 24 (0, 0)))
 clear he
 have mk : ∀ W : World, (Instr.makeSlice 36 (.int .i64 0) (.int .i64 (2 * (es.length : Int)))).run Try.prog W = .ok (.slice (some ⟨W.heap.size, 0, none⟩) 0 (2 * es.length)) (W.alloc (.cells (madeCells #[.int .i64 0] (2 * es.length)) 3)) := by
   intro W
   obtain ⟨i0, hi, hz0, hz1, hz2⟩ := info_parts info_int
   have h := run_make (P := Try.prog) W 36 3 i0 (.int .i64 0) Try.underlying36 hi hz0 .i64 .i64 0 (2 * (es.length : Int)) (by omega) (by omega) (by rw [hz2]; omega) (by omega)
   rw [hz1, Nat.mul_one, show (2 * (es.length : Int)).toNat = 2 * es.length by omega] at h
   exact h
 have x1 : (w.alloc (.cells #[.int .i64 n, .slice A es.length c] 24 (0, 0))).cell? ⟨w.heap.size, 1, none⟩ = some (.slice A es.length c) := heap_cell HX.out rfl
 go_enter Try.func60, Try.ntmps60
 go_wp2_with fail
 clear mk
 have HB2 : Aside0 (Below w.heap.size w ((w.alloc (.cells #[.int .i64 n, .slice A es.length c] 24 (0, 0))).alloc (.cells (madeCells #[.int .i64 0] (2 * es.length)) 3))) := ⟨HB.out.alloc HB.out.size _⟩
 have HO : Aside0 (((w.alloc (.cells #[.int .i64 n, .slice A es.length c] 24 (0, 0))).alloc (.cells (madeCells #[.int .i64 0] (2 * es.length)) 3)).ownsRow w.heap.size 3 1 (.slice (some ⟨w.heap.size + 1, 0, none⟩) 0 (2 * es.length)) 0 []) := ⟨by
   have h := World.ownsRow_made (base := w.heap.size) (size := 1) (e := 3) (w.alloc (.cells #[.int .i64 n, .slice A es.length c] 24 (0, 0))) (madeCells #[.int .i64 0] (2 * es.length)) (2 * es.length) (by simp) (by unfold maxLen; omega) (by simp [size_madeCells])
   simpa using h⟩
 generalize (w.alloc (.cells #[.int .i64 n, .slice A es.length c] 24 (0, 0))).alloc (.cells (madeCells #[.int .i64 0] (2 * es.length)) 3) = w2 at HB2 HO ⊢
 clear HB HX x1
 obtain ⟨i0, hi0, hz0, hz1, hz2⟩ := info_parts info_int
 go_loopw [3, 14] (fun s y wr => ∃ (i : Nat) (B : Option Addr) (cc : Nat), s = .slice B (2 * i) cc ∧ y = .int .i64 (i : Int) ∧ i ≤ es.length ∧ Aside0 (wr.ownsRow w.heap.size 3 1 (.slice B (2 * i) cc) (froms (es.take i)).length (encs (Value.int .i64) (froms (es.take i)))) ∧ Aside0 (Below w.heap.size w wr)) (fun _ y _ => es.length - (intOf y).toNat)
 case atStart => exact ⟨0, _, _, rfl, rfl, by omega, HO, HB2⟩
 case round =>
   clear HO HB2
   obtain ⟨i, B, cc, rfl, rfl, hi, HO, HB⟩ := hrel
   by_cases hlt : i < es.length
   · obtain ⟨ad, eA, h1, h2⟩ := (HE.out.below HB.out) i hlt
     subst eA
     obtain ⟨x, hx⟩ : ∃ x, x = (pe es i).1 := ⟨_, rfl⟩
     obtain ⟨y, hy⟩ : ∃ y, y = (pe es i).2 := ⟨_, rfl⟩
     have HF := Aside0.mk (froms_take hlt)
     rw [← hx] at h1 HF
     rw [← hy] at h2 HF
     clear hx hy
     have hfl := froms_length (es.take i)
     rw [List.length_take, Nat.min_eq_left hi] at hfl
     have HFL := Aside0.mk hfl
     clear hfl
     rw [HFL.out] at HO
     have HO2 := Aside0.mk ((HO.out.alloc (.cells #[.int .i64 x, .int .i64 y] 56)).alloc (.cells #[.int .i64 x, .int .i64 y] 3))
     have HB2 := Aside0.mk ((HB.out.alloc HB.out.size (.cells #[.int .i64 x, .int .i64 y] 56)).alloc (by have := HB.out.size; simp; omega) (.cells #[.int .i64 x, .int .i64 y] 3))
     have hsz := HB.out.size
     go_wp2_with (at_builtin; go_loud (refine wpList_append_own_at _ rfl _ _ 36 rfl w.heap.size 3 i0 (.int .i64 0) 1 8 Try.underlying36 hi0 hz0 hz1 hz2 rfl (by decide) (.slice B (2 * i) cc) (2 * i) _ rfl HO2.out ⟨wr.heap.size + 1, 0, none⟩ 2 2 [.int .i64 x, .int .i64 y] rfl rfl ?c1 ?c2 ?c3 ?c4 ?c5 ?_))
     case c1 =>
       have := cell_two_new (wr.alloc (.cells #[.int .i64 x, .int .i64 y] 56)) (.int .i64 x) (.int .i64 y) 3
       simpa using this
     case c2 => intro u hu; simp at hu; rcases hu with rfl | rfl <;> rfl
     case c3 => unfold maxLen; omega
     case c4 => omega
     case c5 => simp; omega
     intro v' w3 hown hgrow _ hat
     obtain ⟨B', cc', rfl⟩ := own_slice hown
     rw [show 2 * i + 2 = 2 * (i + 1) by omega] at hown ⊢
     have HB3 := Aside0.mk (HB2.out.grown hgrow (by simp; omega) (fun k hk => (HO2.out.lt k hk).1))
     have HO3 : Aside0 (w3.ownsRow w.heap.size 3 1 (.slice B' (2 * (i + 1)) cc') (froms (es.take (i + 1))).length (encs (Value.int .i64) (froms (es.take (i + 1))))) := ⟨by
       have e : 2 * (i + 1) = (froms (es.take i) ++ [x, y]).length := by rw [List.length_append, HFL.out]; rfl
       rw [HF.out, ← e]
       simpa [encs] using hown⟩
     clear hown hgrow hat HO HO2 HB HB2 h1 h2
     go_wp2_with fail
     go_roundw
     case rel => exact ⟨i + 1, B', cc', rfl, by go_num, by omega, HO3, HB3⟩
     case measure => simp [intOf]; omega
   · obtain rfl : i = es.length := by omega
     go_wp2_with fail
     go_ret
     rw [List.take_length] at HO
     exact ⟨_, rfl, Kd.R_of_own HO.out (fun _ _ => trivial), HB.out⟩
end Go.Proofs.Ytmikcfddipldnaa.Rot
namespace Go.Proofs.Ytmikcfddipldnaa.Rot
open Go.RowKit Go.Proofs.YtmikcfddipldnaaW.PrintWords Go.Proofs.Ytmikcfddipldnaa.Mem
set_option linter.unusedVariables false
set_option linter.unusedSimpArgs false
def leaves (fr : List Int) (v : Int) (h : Int) : Bool := decide (h ≥ 0) && (decide (h < (fr.length : Int)) && (gi fr h.toNat == v))
def elems (fr : List Int) (v : Int) : List Int → List Bool → Except Int (List Bool)
 | [], S => .ok S
 | h :: t, S => if leaves fr v h = true then (if gb S h.toNat = true then .error 112 else elems fr v t (S.set h.toNat true)) else .error 111
def rows (fr ds : List Int) : Nat → List (List Int) → List Bool → Int × Int
 | _, [], _ => (0, 0)
 | v, row :: t, S => match elems fr v row S with
   | .error e => (v, e)
   | .ok S' => if (row.length : Int) = gi ds v then rows fr ds (v + 1) t S' else (v, 113)
def after (fr ds : List Int) (v : Nat) (row : List Int) (t : List (List Int)) : Except Int (List Bool) → Int × Int
 | .error e => (v, e)
 | .ok S' => if (row.length : Int) = gi ds v then rows fr ds (v + 1) t S' else (v, 113)
theorem after_ok (fr ds : List Int) (v : Nat) (row : List Int) (t : List (List Int)) (S' : List Bool) : after fr ds v row t (.ok S') = if (row.length : Int) = gi ds v then rows fr ds (v + 1) t S' else ((v : Int), 113) := rfl
theorem rows_cons (fr ds : List Int) (v : Nat) (row : List Int) (t : List (List Int)) (S : List Bool) : rows fr ds v (row :: t) S = after fr ds v row t (elems fr v row S) := by
 rw [rows]
 cases elems fr v row S <;> rfl
theorem elems_cons_no {fr : List Int} {v h : Int} {t : List Int} {S : List Bool} (hl : leaves fr v h = false) : elems fr v (h :: t) S = .error 111 := by simp [elems, hl]
theorem elems_cons_twice {fr : List Int} {v h : Int} {t : List Int} {S : List Bool} (hl : leaves fr v h = true) (hs : gb S h.toNat = true) : elems fr v (h :: t) S = .error 112 := by simp [elems, hl, hs]
theorem elems_cons {fr : List Int} {v h : Int} {t : List Int} {S : List Bool} (hl : leaves fr v h = true) (hs : gb S h.toNat = false) : elems fr v (h :: t) S = elems fr v t (S.set h.toNat true) := by simp [elems, hl, hs]
theorem elems_err (fr : List Int) (v : Int) : ∀ (l : List Int) (S : List Bool) (e : Int), elems fr v l S = .error e → e = 111 ∨ e = 112
 | [], S, e, h => by cases h
 | x :: l, S, e, h => by
   unfold elems at h
   split at h
   · split at h
     · injection h with h; exact .inr h.symm
     · exact elems_err fr v l _ e h
   · injection h with h; exact .inl h.symm
theorem rows_zero (fr ds : List Int) : ∀ (r : List (List Int)) (v : Nat) (S : List Bool), rows fr ds v r S = (0, 0) ∨ (rows fr ds v r S).2 ≠ 0
 | [], v, S => .inl rfl
 | row :: r, v, S => by
   rw [rows_cons]
   cases h : elems fr v row S with
   | error e =>
     right
     have := elems_err fr v row S e h
     show e ≠ 0
     omega
   | ok S' =>
     rw [after_ok]
     split
     · exact rows_zero fr ds r (v + 1) S'
     · right; show (113 : Int) ≠ 0; decide
def faultOf (n : Nat) (es : List (Int × Int)) (ds : List Int) (r : List (List Int)) : Int × Int :=
 if r.length = n then rows (froms es) ds 0 r (List.replicate (2 * es.length) false) else (0, 110)
theorem drop_row {r : List (List Int)} {v : Nat} (h : v < r.length) : r.drop v = gl r v :: r.drop (v + 1) := by
 rw [List.drop_eq_getElem_cons h]
 congr 1
 simp [gl, List.getD_eq_getElem?_getD, h]
theorem drop_int {r : List Int} {v : Nat} (h : v < r.length) : r.drop v = gi r v :: r.drop (v + 1) := by
 rw [List.drop_eq_getElem_cons h]
 congr 1
 simp [gi, List.getD_eq_getElem?_getD, h]
end Go.Proofs.Ytmikcfddipldnaa.Rot
namespace Go.Proofs.Ytmikcfddipldnaa.Rot
open Go.RowKit Go.Proofs.YtmikcfddipldnaaW.PrintWords Go.Proofs.Ytmikcfddipldnaa.Mem
set_option linter.unusedVariables false
set_option linter.unusedSimpArgs false
theorem nodup_subset {α : Type} [DecidableEq α] : ∀ (l m : List α), l.Nodup → (∀ x ∈ l, x ∈ m) → l.length ≤ m.length
 | [], m, _, _ => Nat.zero_le _
 | a :: l, m, hn, hs => by
   rw [List.nodup_cons] at hn
   have ha : a ∈ m := hs a (List.mem_cons_self ..)
   have h := nodup_subset l (m.erase a) hn.2 (fun x hx => by
     have hx2 := hs x (List.mem_cons_of_mem _ hx)
     exact (List.mem_erase_of_ne (fun e => hn.1 (by rw [← e]; exact hx))).2 hx2)
   rw [List.length_erase_of_mem ha] at h
   have := List.length_pos_of_mem ha
   simp; omega
theorem nodup_full {α : Type} [DecidableEq α] {l m : List α} (hn : l.Nodup) (hs : ∀ x ∈ l, x ∈ m) (hl : m.length ≤ l.length) {x : α} (hx : x ∈ m) : x ∈ l := by
 refine Decidable.byContradiction fun h => ?_
 have := nodup_subset (x :: l) m (List.nodup_cons.2 ⟨h, hn⟩) (fun y hy => by
   rcases List.mem_cons.1 hy with rfl | hy
   · exact hx
   · exact hs y hy)
 simp at this; omega
theorem leaves_iff {fr : List Int} {v h : Int} : leaves fr v h = true ↔ 0 ≤ h ∧ h < (fr.length : Int) ∧ gi fr h.toNat = v := by
 unfold leaves
 rw [Bool.and_eq_true, Bool.and_eq_true, decide_eq_true_eq, decide_eq_true_eq, beq_iff_eq]
theorem elems_ok {fr : List Int} {v : Int} : ∀ (row : List Int) (S S' : List Bool), S.length = fr.length → elems fr v row S = .ok S' →
   (∀ h ∈ row, leaves fr v h = true) ∧ row.Nodup ∧ (∀ h ∈ row, gb S h.toNat = false) ∧ S'.length = fr.length ∧ ∀ j : Nat, gb S' j = (gb S j || decide ((j : Int) ∈ row))
 | [], S, S', hl, h => by
   injection h with h
   subst h
   exact ⟨by simp, List.nodup_nil, by simp, hl, fun j => by simp⟩
 | h :: t, S, S', hl, he => by
   cases hlv : leaves fr v h with
   | false => rw [elems_cons_no hlv] at he; cases he
   | true =>
     cases hs : gb S h.toNat with
     | true => rw [elems_cons_twice hlv hs] at he; cases he
     | false =>
       rw [elems_cons hlv hs] at he
       obtain ⟨h1, h2, h3, h4, h5⟩ := elems_ok t _ S' (by rw [List.length_set]; exact hl) he
       obtain ⟨l1, l2, l3⟩ := leaves_iff.1 hlv
       have hne : ∀ x ∈ t, x ≠ h ∧ gb S x.toNat = false := by
         intro x hx
         have := h3 x hx
         rw [gb_set] at this
         by_cases e : h.toNat = x.toNat ∧ x.toNat < S.length
         · rw [if_pos e] at this; cases this
         · rw [if_neg e] at this
           refine ⟨fun e2 => e ⟨by rw [e2], by rw [e2, hl]; omega⟩, this⟩
       refine ⟨?_, ?_, ?_, h4, fun j => ?_⟩
       · intro x hx
         rcases List.mem_cons.1 hx with rfl | hx
         · exact hlv
         · exact h1 x hx
       · rw [List.nodup_cons]
         exact ⟨fun hx => (hne h hx).1 rfl, h2⟩
       · intro x hx
         rcases List.mem_cons.1 hx with rfl | hx
         · exact hs
         · exact (hne x hx).2
       · rw [h5, gb_set]
         by_cases e : h.toNat = j
         · have e2 : h = (j : Int) := by omega
           rw [if_pos ⟨e, by rw [hl]; omega⟩]
           simp [e2]
         · have e2 : ¬ (j : Int) = h := fun x => e (by omega)
           rw [if_neg (fun x => e x.1)]
           simp [e2]
theorem elems_mk {fr : List Int} {v : Int} : ∀ (row : List Int) (S : List Bool), S.length = fr.length → (∀ h ∈ row, leaves fr v h = true) → row.Nodup → (∀ h ∈ row, gb S h.toNat = false) → ∃ S', elems fr v row S = .ok S'
 | [], S, _, _, _, _ => ⟨S, rfl⟩
 | h :: t, S, hl, h1, h2, h3 => by
   rw [elems_cons (h1 h (List.mem_cons_self ..)) (h3 h (List.mem_cons_self ..))]
   rw [List.nodup_cons] at h2
   refine elems_mk t _ (by rw [List.length_set]; exact hl) (fun x hx => h1 x (List.mem_cons_of_mem _ hx)) h2.2 (fun x hx => ?_)
   rw [gb_set]
   obtain ⟨l1, _, _⟩ := leaves_iff.1 (h1 h (List.mem_cons_self ..))
   obtain ⟨m1, _, _⟩ := leaves_iff.1 (h1 x (List.mem_cons_of_mem _ hx))
   rw [if_neg]
   · exact h3 x (List.mem_cons_of_mem _ hx)
   · rintro ⟨e, _⟩
     exact h2.1 (by rw [show h = x by omega]; exact hx)
def RowOk (fr ds : List Int) (v : Nat) (row : List Int) : Prop := (∀ h ∈ row, leaves fr v h = true) ∧ row.Nodup ∧ (row.length : Int) = gi ds v
theorem rows_ok {fr ds : List Int} {r : List (List Int)} (d : Nat) : ∀ (v : Nat) (S : List Bool), v + d = r.length → S.length = fr.length → (∀ j : Nat, gb S j = true → ∃ u, u < v ∧ leaves fr u (j : Int) = true) →
   (rows fr ds v (r.drop v) S = (0, 0) ↔ ∀ u, v ≤ u → u < r.length → RowOk fr ds u (gl r u)) := by
 induction d with
 | zero =>
   intro v S hv hl hm
   rw [List.drop_of_length_le (by omega)]
   exact ⟨fun _ u h1 h2 => by omega, fun _ => rfl⟩
 | succ d ih =>
   intro v S hv hl hm
   have hlt : v < r.length := by omega
   rw [drop_row hlt, rows_cons]
   constructor
   · intro h
     cases he : elems fr v (gl r v) S with
     | error e =>
       rw [he] at h
       have h2 : ((v : Int), e) = (0, 0) := h
       have := elems_err fr v _ S e he
       simp only [Prod.mk.injEq] at h2
       omega
     | ok S' =>
       rw [he, after_ok] at h
       obtain ⟨e1, e2, e3, e4, e5⟩ := elems_ok _ S S' hl he
       by_cases hd : ((gl r v).length : Int) = gi ds v
       · rw [if_pos hd] at h
         have h3 := (ih (v + 1) S' (by omega) e4 (fun j hj => ?_)).1 h
         · intro u hu1 hu2
           rcases Nat.eq_or_lt_of_le hu1 with rfl | hu
           · exact ⟨e1, e2, hd⟩
           · exact h3 u hu hu2
         · rw [e5, Bool.or_eq_true, decide_eq_true_eq] at hj
           rcases hj with hj | hj
           · obtain ⟨u, h1, h2⟩ := hm j hj
             exact ⟨u, by omega, h2⟩
           · exact ⟨v, by omega, e1 _ hj⟩
       · rw [if_neg hd] at h
         simp only [Prod.mk.injEq] at h
         omega
   · intro h
     obtain ⟨h1, h2, h3⟩ := h v (Nat.le_refl _) hlt
     obtain ⟨S', he⟩ := elems_mk (gl r v) S hl h1 h2 (fun x hx => by
       cases hb : gb S x.toNat with
       | false => rfl
       | true =>
         obtain ⟨u, hu, hlu⟩ := hm _ hb
         obtain ⟨a1, a2, a3⟩ := leaves_iff.1 (h1 x hx)
         obtain ⟨b1, b2, b3⟩ := leaves_iff.1 hlu
         rw [Int.toNat_natCast] at b3
         omega)
     obtain ⟨e1, e2, e3, e4, e5⟩ := elems_ok _ S S' hl he
     rw [he, after_ok, if_pos h3]
     refine (ih (v + 1) S' (by omega) e4 (fun j hj => ?_)).2 (fun u hu1 hu2 => h u (by omega) hu2)
     rw [e5, Bool.or_eq_true, decide_eq_true_eq] at hj
     rcases hj with hj | hj
     · obtain ⟨u, h1, h2⟩ := hm j hj
       exact ⟨u, by omega, h2⟩
     · exact ⟨v, by omega, e1 _ hj⟩
theorem gb_none (n j : Nat) : gb (List.replicate n false) j = false := by
 unfold gb
 by_cases h : j < n <;> simp [List.getD_eq_getElem?_getD, List.getElem?_replicate, h]
theorem rows_none {fr ds : List Int} {r : List (List Int)} : rows fr ds 0 r (List.replicate fr.length false) = (0, 0) ↔ ∀ u, u < r.length → RowOk fr ds u (gl r u) := by
 have h := rows_ok (fr := fr) (ds := ds) (r := r) r.length 0 (List.replicate fr.length false) (by omega) (by simp) (fun j hj => by rw [gb_none] at hj; cases hj)
 rw [List.drop_zero] at h
 exact h.trans ⟨fun h u hu => h u (Nat.zero_le _) hu, fun h u _ hu => h u hu⟩
def leaving (fr : List Int) (v : Nat) : List Int := ((List.range fr.length).filter fun j => gi fr j == (v : Int)).map fun (j : Nat) => (j : Int)
theorem mem_leaving {fr : List Int} {v : Nat} {h : Int} : h ∈ leaving fr v ↔ leaves fr v h = true := by
 unfold leaving
 rw [leaves_iff, List.mem_map]
 constructor
 · rintro ⟨j, hj, rfl⟩
   rw [List.mem_filter, List.mem_range, beq_iff_eq] at hj
   exact ⟨by omega, by omega, by rw [Int.toNat_natCast]; exact hj.2⟩
 · rintro ⟨h1, h2, h3⟩
   exact ⟨h.toNat, by rw [List.mem_filter, List.mem_range, beq_iff_eq]; exact ⟨by omega, h3⟩, by omega⟩
theorem leaving_nodup (fr : List Int) (v : Nat) : (leaving fr v).Nodup := by
 unfold leaving
 refine List.pairwise_map.2 ((List.Pairwise.filter _ List.nodup_range).imp fun {a b} h e => h (by omega))
structure IsRot (fr : List Int) (n : Nat) (r : List (List Int)) : Prop where
 len : r.length = n
 nodup : ∀ v, v < n → (gl r v).Nodup
 mem : ∀ v, v < n → ∀ h, h ∈ gl r v ↔ leaves fr v h = true
theorem isRot_of {fr ds : List Int} {n : Nat} {r : List (List Int)} (hl : r.length = n) (hd : ∀ v, v < n → gi ds v = ((leaving fr v).length : Int)) : rows fr ds 0 r (List.replicate fr.length false) = (0, 0) ↔ IsRot fr n r := by
 rw [rows_none]
 constructor
 · intro h
   refine ⟨hl, fun v hv => (h v (by omega)).2.1, fun v hv x => ⟨(h v (by omega)).1 x, fun hx => ?_⟩⟩
   obtain ⟨h1, h2, h3⟩ := h v (by omega)
   rw [hd v hv] at h3
   exact nodup_full h2 (fun y hy => mem_leaving.2 (h1 y hy)) (by omega) (mem_leaving.2 hx)
 · intro h v hv
   have hv2 : v < n := by omega
   refine ⟨fun x hx => (h.mem v hv2 x).1 hx, h.nodup v hv2, ?_⟩
   rw [hd v hv2]
   have h1 := nodup_subset (gl r v) (leaving fr v) (h.nodup v hv2) (fun x hx => mem_leaving.2 ((h.mem v hv2 x).1 hx))
   have h2 := nodup_subset (leaving fr v) (gl r v) (leaving_nodup fr v) (fun x hx => (h.mem v hv2 x).2 (mem_leaving.1 hx))
   omega
end Go.Proofs.Ytmikcfddipldnaa.Rot
namespace Go.Proofs.Ytmikcfddipldnaa.Seen
open Go.RowKit Go.Proofs.YtmikcfddipldnaaW.PrintWords Go.Proofs.YtmikcfddipldnaaW.PrintLast Go.Proofs.YtmikcfddipldnaaW.PrintMore Go.Proofs.Ytmikcfddipldnaa.Mem
set_option linter.unusedVariables false
set_option linter.unusedSimpArgs false
def tw (h : Int) : Int := Go.bits .xor .i64 h 1
def it (nx : List Int) (h : Int) : Nat → Int
 | 0 => h
 | j + 1 => gi nx (it nx h j).toNat
def per (nx : List Int) (h : Int) : Nat := (((List.range nx.length).find? fun j => it nx h (j + 1) == h).map (· + 1)).getD 0
structure St where
 num : List Int
 ent : List Int
 ord : List Int
 cd : List Int
def stepH (tos : List Int) (s : St) (h : Int) : St :=
 if gi s.num (gi tos h.toNat).toNat < 0 then ⟨s.num.set (gi tos h.toNat).toNat s.ord.length, s.ent ++ [tw h], s.ord ++ [gi tos h.toNat], s.cd ++ [(s.ord.length : Int)]⟩
 else ⟨s.num, s.ent, s.ord, s.cd ++ [gi s.num (gi tos h.toNat).toNat]⟩
def turn (nx tos : List Int) (s : St) (h : Int) : Nat → St
 | 0 => s
 | j + 1 => stepH tos (turn nx tos s h j) (it nx h j)
def vert (nx tos : List Int) (s : St) (h : Int) : St :=
 { turn nx tos { s with cd := [] } h (per nx h) with cd := s.cd ++ ((per nx h : Nat) : Int) :: (turn nx tos { s with cd := [] } h (per nx h)).cd }
def upto (nx tos : List Int) (s : St) : Nat → St
 | 0 => s
 | k + 1 => if k < (upto nx tos s k).ent.length then vert nx tos (upto nx tos s k) (gi (upto nx tos s k).ent k) else upto nx tos s k
def start (n : Nat) (tos : List Int) (root : Int) (v : Int) : St := ⟨(List.replicate n (-1)).set v.toNat 0, [root], [v], []⟩
def all (n : Nat) (nx tos : List Int) (root : Int) : St := upto nx tos (start n tos root (gi tos (tw root).toNat)) n
def inR (x : Int) (m : Nat) : Bool := decide (0 ≤ x ∧ x < (m : Int))
def fit (n : Nat) (nx tos : List Int) : Bool := decide (n ≤ 1048576 ∧ nx.length ≤ 8388608 ∧ tos.length = nx.length) &&
 (List.range nx.length).all fun h => inR (gi nx h) nx.length && inR (gi tos h) n && inR (tw (h : Nat)) nx.length && decide (0 < per nx (h : Nat))
structure Fit (n : Nat) (nx tos : List Int) : Prop where
 hn : n ≤ 1048576
 hm : nx.length ≤ 8388608
 ht : tos.length = nx.length
 hnx : ∀ h, h < nx.length → 0 ≤ gi nx h ∧ gi nx h < (nx.length : Int)
 htos : ∀ h, h < nx.length → 0 ≤ gi tos h ∧ gi tos h < (n : Int)
 htw : ∀ h : Nat, h < nx.length → 0 ≤ tw (h : Int) ∧ tw (h : Int) < (nx.length : Int)
 hper : ∀ h : Nat, h < nx.length → 0 < per nx (h : Int)
def neg (l : List Int) : Nat := (l.filter fun x => decide (x < 0)).length
theorem neg_set : ∀ (l : List Int) (i : Nat) (x : Int), i < l.length → gi l i < 0 → 0 ≤ x → neg (l.set i x) + 1 = neg l
 | [], i, x, h, _, _ => by simp at h
 | a :: l, 0, x, h, h1, h2 => by
   have h1 : a < 0 := h1
   unfold neg
   simp only [List.set_cons_zero]
   rw [List.filter_cons_of_neg (by simpa using h2), List.filter_cons_of_pos (by simpa using h1)]
   rfl
 | a :: l, i + 1, x, h, h1, h2 => by
   have ih := neg_set l i x (by simpa using h) h1 h2
   unfold neg at ih ⊢
   simp only [List.set_cons_succ, List.filter_cons]
   split
   · simp only [List.length_cons]; omega
   · exact ih
theorem neg_all (n : Nat) : neg (List.replicate n (-1)) = n := by
 unfold neg
 rw [List.filter_eq_self.2 (fun x hx => by rw [List.eq_of_mem_replicate hx]; rfl), List.length_replicate]
structure Ok (n m : Nat) (s : St) : Prop where
 num : s.num.length = n
 ent : s.ent.length = s.ord.length
 cnt : s.ord.length + neg s.num = n
 inE : ∀ i, i < s.ent.length → 0 ≤ gi s.ent i ∧ gi s.ent i < (m : Int)
 inO : ∀ i, i < s.ord.length → 0 ≤ gi s.ord i ∧ gi s.ord i < (n : Int)
theorem gi_app {x : List Int} {h : Int} {i : Nat} : gi (x ++ [h]) i = if i < x.length then gi x i else if i = x.length then h else 0 := by
 unfold gi
 rw [List.getD_eq_getElem?_getD, List.getD_eq_getElem?_getD]
 by_cases c : i < x.length
 · rw [if_pos c, List.getElem?_append_left c]
 · rw [if_neg c, List.getElem?_append_right (by omega)]
   by_cases d : i = x.length
   · subst d; simp
   · rw [if_neg d, List.getElem?_eq_none (by simp; omega)]; rfl
theorem Ok.step {n : Nat} {nx tos : List Int} (hf : Fit n nx tos) {s : St} (h : Ok n nx.length s) {q : Int} (h0 : 0 ≤ q) (h1 : q < (nx.length : Int)) : Ok n nx.length (stepH tos s q) := by
 obtain ⟨p, rfl⟩ := Int.eq_ofNat_of_zero_le h0
 have hp : p < nx.length := by omega
 have ht := hf.htos p hp
 have hw := hf.htw p hp
 unfold stepH
 rw [Int.toNat_natCast]
 by_cases c : gi s.num (gi tos p).toNat < 0
 · rw [if_pos c]
   have hl : (gi tos p).toNat < s.num.length := by rw [h.num]; omega
   have hn := neg_set s.num (gi tos p).toNat (s.ord.length : Int) hl c (by omega)
   have hc := h.cnt
   have hE := h.ent
   refine ⟨by simp [h.num], by simp [hE], by simp only [List.length_append, List.length_singleton]; omega, fun i hi => ?_, fun i hi => ?_⟩
   · simp only [List.length_append, List.length_singleton] at hi
     simp only [gi_app]
     by_cases d : i < s.ent.length
     · rw [if_pos d]; exact h.inE i d
     · rw [if_neg d, if_pos (by omega)]; exact hw
   · simp only [List.length_append, List.length_singleton] at hi
     simp only [gi_app]
     by_cases d : i < s.ord.length
     · rw [if_pos d]; exact h.inO i d
     · rw [if_neg d, if_pos (by omega)]; exact ht
 · rw [if_neg c]
   exact ⟨h.num, h.ent, h.cnt, h.inE, h.inO⟩
theorem it_in {n : Nat} {nx tos : List Int} (hf : Fit n nx tos) {q : Int} (h0 : 0 ≤ q) (h1 : q < (nx.length : Int)) : ∀ j, 0 ≤ it nx q j ∧ it nx q j < (nx.length : Int)
 | 0 => ⟨h0, h1⟩
 | j + 1 => by
   obtain ⟨a, b⟩ := it_in hf h0 h1 j
   exact hf.hnx _ (by omega)
theorem Ok.cd {n m : Nat} {s : St} (h : Ok n m s) (c : List Int) : Ok n m { s with cd := c } := ⟨h.num, h.ent, h.cnt, h.inE, h.inO⟩
theorem Ok.turn {n : Nat} {nx tos : List Int} (hf : Fit n nx tos) {s : St} (h : Ok n nx.length s) {q : Int} (h0 : 0 ≤ q) (h1 : q < (nx.length : Int)) : ∀ j, Ok n nx.length (turn nx tos s q j)
 | 0 => h
 | j + 1 => (Ok.turn hf h h0 h1 j).step hf (it_in hf h0 h1 j).1 (it_in hf h0 h1 j).2
theorem Ok.vert {n : Nat} {nx tos : List Int} (hf : Fit n nx tos) {s : St} (h : Ok n nx.length s) {q : Int} (h0 : 0 ≤ q) (h1 : q < (nx.length : Int)) : Ok n nx.length (vert nx tos s q) := (Ok.turn hf (h.cd []) h0 h1 _).cd _
theorem Ok.upto {n : Nat} {nx tos : List Int} (hf : Fit n nx tos) {s : St} (h : Ok n nx.length s) : ∀ k, Ok n nx.length (upto nx tos s k)
 | 0 => h
 | k + 1 => by
   have ih := Ok.upto hf h k
   unfold Seen.upto
   split
   · rename_i hk; exact ih.vert hf (ih.inE k hk).1 (ih.inE k hk).2
   · exact ih
theorem Ok.le {n m : Nat} {s : St} (h : Ok n m s) : s.ent.length ≤ n := by have := h.cnt; have := h.ent; omega
theorem Ok.start {n m : Nat} {tos : List Int} {root v : Int} (hr : 0 ≤ root ∧ root < (m : Int)) (hv : 0 ≤ v ∧ v < (n : Int)) : Ok n m (start n tos root v) := by
 obtain ⟨i, rfl⟩ := Int.eq_ofNat_of_zero_le hv.1
 have h1 : i < n := by omega
 have h2 : gi (List.replicate n (-1)) i < 0 := by
   unfold gi
   rw [List.getD_eq_getElem?_getD, List.getElem?_replicate, if_pos h1]; decide
 have h3 := neg_set (List.replicate n (-1)) i 0 (by simpa using h1) h2 (by omega)
 rw [neg_all] at h3
 refine ⟨by simp [Seen.start], rfl, ?_, fun j hj => ?_, fun j hj => ?_⟩
 · show 1 + neg ((List.replicate n (-1)).set i 0) = n
   omega
 · have : j = 0 := by simpa [Seen.start] using hj
   subst this; exact hr
 · have : j = 0 := by simpa [Seen.start] using hj
   subst this; exact hv
end Go.Proofs.Ytmikcfddipldnaa.Seen
namespace Go.Proofs.Ytmikcfddipldnaa.Graph
open Go.RowKit Go.Proofs.YtmikcfddipldnaaW.PrintWords Go.Proofs.YtmikcfddipldnaaW.PrintLast Go.Proofs.YtmikcfddipldnaaW.PrintMore Go.Proofs.Ytmikcfddipldnaa.Mem Go.Proofs.Ytmikcfddipldnaa.Rot
set_option linter.unusedVariables false
set_option linter.unusedSimpArgs false
theorem froms_two : ∀ (es : List (Int × Int)) (i : Nat), i < es.length → gi (froms es) (2 * i) = (pe es i).1 ∧ gi (froms es) (2 * i + 1) = (pe es i).2
 | [], i, h => by simp at h
 | e :: es, 0, _ => ⟨rfl, rfl⟩
 | e :: es, i + 1, h => by
   have ih := froms_two es i (by simpa using h)
   have e1 : froms (e :: es) = e.1 :: e.2 :: froms es := rfl
   have e2 : pe (e :: es) (i + 1) = pe es i := by unfold pe; simp
   rw [e1, e2, show 2 * (i + 1) = 2 * i + 1 + 1 by omega]
   exact ih
def tosL (es : List (Int × Int)) : List Int := es.flatMap fun e => [e.2, e.1]
end Go.Proofs.Ytmikcfddipldnaa.Graph
namespace Go.Proofs.Ytmikcfddipldnaa.Seen
open Go.RowKit Go.Proofs.YtmikcfddipldnaaW.PrintWords Go.Proofs.YtmikcfddipldnaaW.PrintLast Go.Proofs.YtmikcfddipldnaaW.PrintMore Go.Proofs.Ytmikcfddipldnaa.Mem
set_option linter.unusedVariables false
set_option linter.unusedSimpArgs false
theorem xor_one2 (q : Nat) : q ^^^ 1 = if q % 2 = 0 then q + 1 else q - 1 := by
 have h1 : (q ^^^ 1) / 2 = q / 2 := by rw [Nat.xor_div_two]; simp
 have h2 : (q ^^^ 1) % 2 = (q + 1) % 2 := by
   have h := Nat.xor_mod_two_pow (a := q) (b := 1) (n := 1)
   rw [show 2 ^ 1 = 2 from rfl] at h
   rw [h]
   rcases Nat.mod_two_eq_zero_or_one q with e | e <;> rw [e] <;> simp <;> omega
 split <;> omega
theorem tw_nat {q : Nat} (h : q ≤ 9000000) : tw (q : Int) = ((if q % 2 = 0 then q + 1 else q - 1 : Nat) : Int) := by
 unfold tw Go.bits
 have e : (BitVec.ofInt IntKind.i64.bits (q : Int) ^^^ BitVec.ofInt IntKind.i64.bits 1).toNat = q ^^^ 1 := by
   rw [BitVec.toNat_xor, BitVec.toNat_ofInt, BitVec.toNat_ofInt]
   have hb : IntKind.i64.bits = 64 := rfl
   rw [hb]
   have e1 : ((q : Int) % (2 ^ 64 : Nat)).toNat = q := by omega
   have e2 : ((1 : Int) % (2 ^ 64 : Nat)).toNat = 1 := by omega
   rw [e1, e2]
 simp only [e]
 rw [xor_one2, IntWalk.i64_in _ (by split <;> omega)]
end Go.Proofs.Ytmikcfddipldnaa.Seen
namespace Go.Proofs.Ytmikcfddipldnaa.Graph
open Go.RowKit Go.Proofs.YtmikcfddipldnaaW.PrintWords Go.Proofs.YtmikcfddipldnaaW.PrintLast Go.Proofs.YtmikcfddipldnaaW.PrintMore Go.Proofs.Ytmikcfddipldnaa.Mem Go.Proofs.Ytmikcfddipldnaa.Rot
set_option linter.unusedVariables false
set_option linter.unusedSimpArgs false
set_option maxHeartbeats 1000000 in
set_option maxRecDepth 100000 in
theorem from11_calls (n : Int) (A : Option Addr) (c : Nat) (es : List (Int × Int)) (h : Nat) (w : World) (he : Pairs w A es) (hl : es.length ≤ 4194304) (hh : h < 2 * es.length) :
   Calls Try.prog 66 #[.agg #[.int .i64 n, .slice A es.length c], .int .i64 (h : Int)] w fun e w' => e = .returned (.int .i64 (gi (froms es) h)) ∧ Below w.heap.size w w' := by
 have HE := Aside0.mk he
 have HB := Aside0.mk ((Below.refl w.heap.size w).alloc (Nat.le_refl _) (.cells #[.int .i64 n, .slice A es.length c] 24 (0, 0)))
 have HX := Aside0.mk (heap_last w (.cells #[.int .i64 n, .slice A es.length c] 24 (0, 0)))
 clear he
 have x0 : (w.alloc (.cells #[.int .i64 n, .slice A es.length c] 24 (0, 0))).cell? ⟨w.heap.size, 0, none⟩ = some (.int .i64 n) := heap_cell HX.out rfl
 have x1 : (w.alloc (.cells #[.int .i64 n, .slice A es.length c] 24 (0, 0))).cell? ⟨w.heap.size, 1, none⟩ = some (.slice A es.length c) := heap_cell HX.out rfl
 by_cases hpar : h % 2 = 0
 · obtain ⟨i, hi⟩ : ∃ i, h = 2 * i := ⟨h / 2, by omega⟩
   have hie : i < es.length := by omega
   have HV := Aside0.mk (froms_two es i hie)
   obtain ⟨ad, eA, y1, y2⟩ := (HE.out.below HB.out) i hie
   subst eA
   obtain ⟨a, ha⟩ : ∃ a : Int, a = (h : Int) := ⟨_, rfl⟩
   have h0 : 0 ≤ a := by omega
   have h1 : a ≤ 8388608 := by omega
   have q1 : a % 2 = 0 := by omega
   have q2 : a / 2 = (i : Int) := by omega
   have HI := Aside0.mk hi
   rw [← ha]
   clear ha hi hpar
   go_enter Try.func66, Try.ntmps66
   go_wp2_with fail
   go_ret
   exact ⟨by rw [HI.out, HV.out.1]; rfl, HB.out⟩
 · obtain ⟨i, hi⟩ : ∃ i, h = 2 * i + 1 := ⟨h / 2, by omega⟩
   have hie : i < es.length := by omega
   have HV := Aside0.mk (froms_two es i hie)
   obtain ⟨ad, eA, y1, y2⟩ := (HE.out.below HB.out) i hie
   subst eA
   obtain ⟨a, ha⟩ : ∃ a : Int, a = (h : Int) := ⟨_, rfl⟩
   have h0 : 0 ≤ a := by omega
   have h1 : a ≤ 8388608 := by omega
   have q1 : a % 2 = 1 := by omega
   have q2 : a / 2 = (i : Int) := by omega
   have HI := Aside0.mk hi
   rw [← ha]
   clear ha hi hpar
   go_enter Try.func66, Try.ntmps66
   go_wp2_with fail
   go_ret
   exact ⟨by rw [HI.out, HV.out.2]; rfl, HB.out⟩
set_option maxHeartbeats 1000000 in
set_option maxRecDepth 100000 in
theorem leaves_calls (n : Int) (A : Option Addr) (c : Nat) (es : List (Int × Int)) (h v : Int) (w : World) (he : Pairs w A es) (hl : es.length ≤ 4194304) :
   Calls Try.prog 63 #[.agg #[.int .i64 n, .slice A es.length c], .int .i64 h, .int .i64 v] w fun e w' => e = .returned (.bool (leaves (froms es) v h)) ∧ Below w.heap.size w w' := by
 have he2 := he
 have HE := Aside0.mk he
 have HB := Aside0.mk ((Below.refl w.heap.size w).alloc (Nat.le_refl _) (.cells #[.int .i64 n, .slice A es.length c] 24 (0, 0)))
 have HX := Aside0.mk (heap_last w (.cells #[.int .i64 n, .slice A es.length c] 24 (0, 0)))
 clear he
 have x0 : (w.alloc (.cells #[.int .i64 n, .slice A es.length c] 24 (0, 0))).cell? ⟨w.heap.size, 0, none⟩ = some (.int .i64 n) := heap_cell HX.out rfl
 have x1 : (w.alloc (.cells #[.int .i64 n, .slice A es.length c] 24 (0, 0))).cell? ⟨w.heap.size, 1, none⟩ = some (.slice A es.length c) := heap_cell HX.out rfl
 have HE2 := Aside0.mk he2
 clear he2
 have hfl := froms_length es
 obtain ⟨M, hM⟩ : ∃ M : Int, M = 2 * (es.length : Int) := ⟨_, rfl⟩
 have q : IntKind.i64.wrap (2 * (es.length : Int)) = M := by rw [IntWalk.i64_in _ (by omega)]; omega
 by_cases h0 : 0 ≤ h
 · have t0 : decide (0 ≤ h) = true := decide_eq_true h0
   by_cases h1 : h < M
   · have t1 : decide (h < M) = true := decide_eq_true h1
     obtain ⟨i, rfl⟩ := Int.eq_ofNat_of_zero_le h0
     have HI : Aside0 (leaves (froms es) v (i : Int) = (gi (froms es) i == v)) := ⟨by
       unfold leaves
       rw [decide_eq_true (show (i : Int) ≥ 0 by omega), decide_eq_true (show (i : Int) < ((froms es).length : Int) by omega), Int.toNat_natCast]; rfl⟩
     have HH : Aside0 (i < 2 * es.length) := ⟨by omega⟩
     clear hM hfl
     go_enter Try.func63, Try.ntmps63
     go_wp2_with fail
     refine (from11_calls n A c es i _ (HE.out.below HB.out) hl HH.out).mono ?_
     rintro e w2 ⟨rfl, hb⟩
     have HB2 := Aside0.mk (HB.out.trans (hb.mono HB.out.size))
     clear hb
     go_wp2_with fail
     go_ret
     exact ⟨by rw [HI.out]; rfl, HB2.out⟩
   · have t1 : decide (h < M) = false := decide_eq_false h1
     have HI : Aside0 (leaves (froms es) v h = false) := ⟨by
       unfold leaves
       rw [decide_eq_false (show ¬ h < ((froms es).length : Int) by omega), Bool.false_and, Bool.and_false]⟩
     clear hM hfl
     go_enter Try.func63, Try.ntmps63
     go_wp2_with fail
     go_ret
     exact ⟨by rw [HI.out]; rfl, HB.out⟩
 · have t0 : decide (0 ≤ h) = false := decide_eq_false h0
   have HI : Aside0 (leaves (froms es) v h = false) := ⟨by
     unfold leaves
     rw [decide_eq_false (show ¬ h ≥ 0 by omega), Bool.false_and]⟩
   clear hM hfl
   go_enter Try.func63, Try.ntmps63
   go_wp2_with fail
   go_ret
   exact ⟨by rw [HI.out]; rfl, HB.out⟩
set_option maxHeartbeats 1000000 in
set_option maxRecDepth 100000 in
theorem stands_calls (A : Option Addr) (c : Nat) (row : List Int) (j : Nat) (x : Int) (w : World) (hr : Kd.C (Kd.int .i64) w A row.length row) (hj : j ≤ row.length) (hl : row.length ≤ 18000000000000) :
   Calls Try.prog 64 #[.slice A row.length c, .int .i64 (j : Int), .int .i64 x] w fun e w' => e = .returned (.bool (decide (x ∈ row.take j))) ∧ w = w' := by
 have HR := Aside0.mk hr
 clear hr
 go_enter Try.func64, Try.ntmps64
 go_wp2_with fail
 have HP0 : Aside0 (x ∉ row.take 0) := ⟨by simp⟩
 go_loop [7] (fun y => ∃ (i : Nat), y = .int .i64 (i : Int) ∧ i ≤ j ∧ Aside0 (x ∉ row.take i)) (fun y => j - (intOf y).toNat)
 case atStart => exact ⟨0, rfl, by omega, HP0⟩
 case round =>
   clear HP0
   obtain ⟨i, rfl, hi, HP⟩ := hrel
   by_cases hlt : i < j
   · have hir : i < row.length := by omega
     obtain ⟨ad, eA, y1⟩ := Kd.at_int HR.out (i : Int) (by omega) (by omega)
     rw [gi_rd, Int.toNat_natCast] at y1
     subst eA
     by_cases hx : gi row i = x
     · have HG : Aside0 (decide (x ∈ row.take j) = true) := ⟨decide_eq_true (by
         rw [← hx, List.mem_iff_getElem]
         refine ⟨i, by rw [List.length_take]; omega, ?_⟩
         rw [List.getElem_take]
         unfold gi
         simp [List.getD_eq_getElem?_getD, hir])⟩
       have t : (gi row i == x) = true := beq_iff_eq.2 hx
       obtain ⟨z, hz⟩ : ∃ z, z = gi row i := ⟨_, rfl⟩
       rw [← hz] at y1 t
       clear hx hz
       go_wp2_with fail
       go_ret
       exact ⟨by rw [HG.out]; rfl, rfl⟩
     · have t : (gi row i == x) = false := beq_eq_false_iff_ne.2 hx
       have HP2 : Aside0 (x ∉ row.take (i + 1)) := ⟨fun h => by
         rw [List.take_succ_eq_append_getElem hir, List.mem_append, List.mem_singleton] at h
         rcases h with h | h
         · exact HP.out h
         · apply hx
           rw [h]
           unfold gi
           simp [List.getD_eq_getElem?_getD, hir]⟩
       obtain ⟨z, hz⟩ : ∃ z, z = gi row i := ⟨_, rfl⟩
       rw [← hz] at y1 t
       clear hx hz
       go_wp2_with fail
       go_round
       case rel => exact ⟨i + 1, by go_num, by omega, HP2⟩
       case measure => simp [intOf]; omega
   · obtain rfl : j = i := by omega
     have HG : Aside0 (decide (x ∈ row.take j) = false) := ⟨decide_eq_false HP.out⟩
     go_wp2_with fail
     go_ret
     exact ⟨by rw [HG.out]; rfl, rfl⟩
def cntF (fr : List Int) (m : Nat) (v : Int) : Nat := ((List.range m).filter fun j => gi fr j == v).length
theorem cntF_succ (fr : List Int) (m : Nat) (v : Int) : cntF fr (m + 1) v = cntF fr m v + if gi fr m = v then 1 else 0 := by
 unfold cntF
 rw [List.range_succ, List.filter_append, List.length_append]
 by_cases h : gi fr m = v
 · simp [h]
 · simp [h]
theorem cntF_le (fr : List Int) (m : Nat) (v : Int) : cntF fr m v ≤ m := by
 unfold cntF
 exact Nat.le_trans (List.length_filter_le _ _) (by simp)
set_option maxHeartbeats 1000000 in
set_option maxRecDepth 100000 in
theorem degree11_calls (n : Int) (A : Option Addr) (c : Nat) (es : List (Int × Int)) (v : Int) (w : World) (he : Pairs w A es) (hl : es.length ≤ 4194304) :
   Calls Try.prog 65 #[.agg #[.int .i64 n, .slice A es.length c], .int .i64 v] w fun e w' => e = .returned (.int .i64 ((cntF (froms es) (2 * es.length) v : Nat) : Int)) ∧ Below w.heap.size w w' := by
 have HE := Aside0.mk he
 have HB := Aside0.mk ((Below.refl w.heap.size w).alloc (Nat.le_refl _) (.cells #[.int .i64 n, .slice A es.length c] 24 (0, 0)))
 have HX := Aside0.mk (heap_last w (.cells #[.int .i64 n, .slice A es.length c] 24 (0, 0)))
 clear he
 have x0 : (w.alloc (.cells #[.int .i64 n, .slice A es.length c] 24 (0, 0))).cell? ⟨w.heap.size, 0, none⟩ = some (.int .i64 n) := heap_cell HX.out rfl
 have x1 : (w.alloc (.cells #[.int .i64 n, .slice A es.length c] 24 (0, 0))).cell? ⟨w.heap.size, 1, none⟩ = some (.slice A es.length c) := heap_cell HX.out rfl
 obtain ⟨M, hM⟩ : ∃ M : Nat, M = 2 * es.length := ⟨_, rfl⟩
 have hMb : M ≤ 8388608 := by omega
 have q : IntKind.i64.wrap (2 * (es.length : Int)) = (M : Int) := by rw [IntWalk.i64_in _ (by omega)]; omega
 have HM := Aside0.mk hM
 have HQ := Aside0.mk q
 rw [← hM]
 clear hM q x0 x1
 go_enter Try.func65, Try.ntmps65
 go_wp2_with fail
 generalize w.alloc (.cells #[.int .i64 n, .slice A es.length c] 24 (0, 0)) = w1 at HX HB ⊢
 obtain ⟨bg, hbg⟩ : ∃ bg, bg = w.heap.size := ⟨_, rfl⟩
 rw [← hbg] at HX ⊢
 clear hbg
 go_loopw [5, 6] (fun z y wr => ∃ (i : Nat), z = .int .i64 ((cntF (froms es) i v : Nat) : Int) ∧ y = .int .i64 (i : Int) ∧ i ≤ M ∧ Aside0 (wr.heap[bg]? = some (.cells #[.int .i64 n, .slice A es.length c] 24 (0, 0))) ∧ Aside0 (Below w.heap.size w wr)) (fun _ y _ => M - (intOf y).toNat)
 case atStart => exact ⟨0, rfl, rfl, by omega, HX, HB⟩
 case round =>
   clear HX HB
   obtain ⟨i, rfl, rfl, hi, HX, HB⟩ := hrel
   have x0 : wr.cell? ⟨bg, 0, none⟩ = some (.int .i64 n) := heap_cell HX.out rfl
   have x1 : wr.cell? ⟨bg, 1, none⟩ = some (.slice A es.length c) := heap_cell HX.out rfl
   have q := HQ.out
   by_cases hlt : i < M
   · have hs := cntF_succ (froms es) i v
     have hle := cntF_le (froms es) i v
     obtain ⟨z, hz⟩ : ∃ z, z = cntF (froms es) i v := ⟨_, rfl⟩
     rw [← hz] at hs hle ⊢
     have HS := Aside0.mk hs
     clear hs hz
     go_wp2_with fail
     refine (from11_calls n A c es i wr (HE.out.below HB.out) hl (by rw [← HM.out]; exact hlt)).mono ?_
     rintro e w2 ⟨rfl, hb⟩
     have HX2 := Aside0.mk ((hb.block _ (lt_of HX.out)).trans HX.out)
     have HB2 := Aside0.mk (HB.out.trans (hb.mono HB.out.size))
     clear hb x0 x1 HX HB q
     by_cases hv : gi (froms es) i = v
     · have t : (gi (froms es) i == v) = true := beq_iff_eq.2 hv
       have HS2 : Aside0 (((cntF (froms es) (i + 1) v : Nat) : Int) = (z : Int) + 1) := ⟨by rw [HS.out, if_pos hv]; omega⟩
       clear hv
       go_wp2_with fail
       go_roundw
       case rel => exact ⟨i + 1, by rw [HS2.out], by go_num, by omega, HX2, HB2⟩
       case measure => simp [intOf]; omega
     · have t : (gi (froms es) i == v) = false := beq_eq_false_iff_ne.2 hv
       have HS2 : Aside0 (cntF (froms es) (i + 1) v = z) := ⟨by rw [HS.out, if_neg hv]; rfl⟩
       clear hv
       go_wp2_with fail
       go_roundw
       case rel => exact ⟨i + 1, by rw [HS2.out], by go_num, by omega, HX2, HB2⟩
       case measure => simp [intOf]; omega
   · obtain rfl : M = i := by omega
     go_wp2_with fail
     go_ret
     exact ⟨rfl, HB.out⟩
end Go.Proofs.Ytmikcfddipldnaa.Graph
namespace Go.Proofs.Ytmikcfddipldnaa.ValH
open Go.RowKit Go.Proofs.YtmikcfddipldnaaW.PrintWords Go.Proofs.YtmikcfddipldnaaW.PrintLast Go.Proofs.YtmikcfddipldnaaW.PrintMore Go.Proofs.Ytmikcfddipldnaa.Mem
set_option linter.unusedVariables false
set_option linter.unusedSimpArgs false
abbrev P2 := Int × Int
def okP (n : Int) (p : P2) : Bool := decide (0 ≤ p.1 ∧ p.1 < p.2 ∧ p.2 < n)
def ltP (p q : P2) : Bool := decide (p.1 < q.1 ∨ (p.1 = q.1 ∧ p.2 < q.2))
def goodRest (n : Int) : List P2 → Bool
 | [] => true
 | [p] => okP n p
 | p :: q :: t => okP n p && (ltP p q && goodRest n (q :: t))
def goodB (n : Int) (es : List P2) : Bool := decide (0 ≤ n ∧ n ≤ 1048576 ∧ es.length ≤ 4194304) && goodRest n es
def OkAt (n : Int) (es : List P2) (i : Nat) : Prop := okP n (pe es i) = true ∧ (0 < i → ltP (pe es (i - 1)) (pe es i) = true)
theorem pe_succ (p : P2) (es : List P2) (i : Nat) : pe (p :: es) (i + 1) = pe es i := by unfold pe; simp
theorem pe_zero (p : P2) (es : List P2) : pe (p :: es) 0 = p := by unfold pe; simp
theorem goodRest_iff (n : Int) : ∀ es : List P2, goodRest n es = true ↔ ∀ i, i < es.length → OkAt n es i
 | [] => ⟨fun _ i h => absurd h (by simp), fun _ => rfl⟩
 | [p] => by
   constructor
   · intro h i hi
     have : i = 0 := by simpa using hi
     subst this
     exact ⟨by rw [pe_zero]; exact h, fun h => absurd h (by omega)⟩
   · intro h
     have := (h 0 (by simp)).1
     rw [pe_zero] at this
     exact this
 | p :: q :: t => by
   have ih := goodRest_iff n (q :: t)
   show (okP n p && (ltP p q && goodRest n (q :: t))) = true ↔ _
   rw [Bool.and_eq_true, Bool.and_eq_true, ih]
   constructor
   · rintro ⟨h1, h2, h3⟩ i hi
     cases i with
     | zero => exact ⟨by rw [pe_zero]; exact h1, fun h => absurd h (by omega)⟩
     | succ i =>
       have := h3 i (by simpa using hi)
       refine ⟨by rw [pe_succ]; exact this.1, fun _ => ?_⟩
       cases i with
       | zero => rw [pe_succ, pe_zero]; exact h2
       | succ i =>
         have h4 := this.2 (by omega)
         rw [Nat.add_sub_cancel] at h4 ⊢
         rw [pe_succ, pe_succ]; exact h4
   · intro h
     have h0 := h 0 (by simp)
     have h1 := h 1 (by simp)
     have h01 := h0.1
     rw [pe_zero] at h01
     refine ⟨h01, ?_, fun i hi => ?_⟩
     · have := h1.2 (by omega)
       rw [Nat.sub_self, pe_zero, pe_succ p (q :: t) 0, pe_zero] at this
       exact this
     · have h2 := h (i + 1) (by simpa using hi)
       rw [OkAt, pe_succ] at h2
       refine ⟨h2.1, fun h3 => ?_⟩
       have := h2.2 (by omega)
       rw [show i + 1 - 1 = (i - 1) + 1 by omega, pe_succ] at this
       exact this
theorem goodB_iff (n : Int) (es : List P2) : goodB n es = true ↔ 0 ≤ n ∧ n ≤ 1048576 ∧ es.length ≤ 4194304 ∧ ∀ i, i < es.length → OkAt n es i := by
 unfold goodB
 rw [Bool.and_eq_true, decide_eq_true_eq, goodRest_iff]
 constructor
 · rintro ⟨⟨a, b, c⟩, d⟩; exact ⟨a, b, c, d⟩
 · rintro ⟨a, b, c, d⟩; exact ⟨⟨a, b, c⟩, d⟩
theorem goodB_no {n : Int} {es : List P2} (h : ¬ (0 ≤ n ∧ n ≤ 1048576 ∧ es.length ≤ 4194304 ∧ ∀ i, i < es.length → OkAt n es i)) : goodB n es = false := by
 cases e : goodB n es with
 | false => rfl
 | true => exact absurd ((goodB_iff n es).1 e) h
theorem below_drewN {B : Nat} {w w' : World} (h : Below B w w') (n : Nat) : Below B w (w'.drewN n) := ⟨h.os, h.tape, h.output, h.size, h.block⟩
def cmpI (a b c d : Int) : Int := if a = c then b - d else a - c
theorem cmpI_lt {a b c d : Int} : cmpI a b c d < 0 ↔ ltP (a, b) (c, d) = true := by
 unfold cmpI ltP
 rw [decide_eq_true_eq]
 split <;> simp only <;> omega
set_option maxHeartbeats 1000000 in
set_option maxRecDepth 100000 in
theorem compare_calls (a b c d : Int) (w : World) (ha : 0 ≤ a ∧ a ≤ 1048576) (hb : 0 ≤ b ∧ b ≤ 1048576) (hc : 0 ≤ c ∧ c ≤ 1048576) (hd : 0 ≤ d ∧ d ≤ 1048576) :
   Calls Try.prog 52 #[.agg #[.int .i64 a, .int .i64 b], .agg #[.int .i64 c, .int .i64 d]] w fun e w' => e = .returned (.int .i64 (cmpI a b c d)) ∧ Below w.heap.size w w' := by
 by_cases h : a = c
 · have t : (a != c) = false := bne_eq_false_iff_eq.2 h
   have HE : Aside0 (cmpI a b c d = b - d) := ⟨by unfold cmpI; rw [if_pos h]⟩
   have q : IntKind.i64.wrap (b - d) = b - d := IntWalk.i64_in _ (by omega)
   clear h
   go_enter Try.func52, Try.ntmps52
   go_wp2_with fail
   go_ret
   exact ⟨by rw [HE.out]; first | rfl | (congr 2), ((Below.refl _ _).alloc (Nat.le_refl _) _).alloc (by simp) _⟩
 · have t : (a != c) = true := bne_iff_ne.2 h
   have HE : Aside0 (cmpI a b c d = a - c) := ⟨by unfold cmpI; rw [if_neg h]⟩
   have q : IntKind.i64.wrap (a - c) = a - c := IntWalk.i64_in _ (by omega)
   clear h
   go_enter Try.func52, Try.ntmps52
   go_wp2_with fail
   go_ret
   exact ⟨by rw [HE.out]; first | rfl | (congr 2), ((Below.refl _ _).alloc (Nat.le_refl _) _).alloc (by simp) _⟩
set_option maxHeartbeats 4000000 in
set_option maxRecDepth 100000 in
theorem simple_calls (n : Int) (A : Option Addr) (c : Nat) (es : List P2) (w : World) (he : Pairs w A es) (hc : es.length ≤ c) :
   Calls Try.prog 35 #[.agg #[.int .i64 n, .slice A es.length c]] w fun e w' => e = .returned (.bool (goodB n es)) ∧ Below w.heap.size w w' := by
 have HE := Aside0.mk he
 have HB := Aside0.mk ((Below.refl w.heap.size w).alloc (Nat.le_refl _) (.cells #[.int .i64 n, .slice A es.length c] 24 (0, 0)))
 have HX := Aside0.mk (heap_last w (.cells #[.int .i64 n, .slice A es.length c] 24 (0, 0)))
 clear he
 have x0 : (w.alloc (.cells #[.int .i64 n, .slice A es.length c] 24 (0, 0))).cell? ⟨w.heap.size, 0, none⟩ = some (.int .i64 n) := heap_cell HX.out rfl
 have x1 : (w.alloc (.cells #[.int .i64 n, .slice A es.length c] 24 (0, 0))).cell? ⟨w.heap.size, 1, none⟩ = some (.slice A es.length c) := heap_cell HX.out rfl
 by_cases h0 : 0 ≤ n ∧ n ≤ 1048576 ∧ es.length ≤ 4194304
 · obtain ⟨h0, h1, h2⟩ := h0
   have t0 : decide (n < 0) = false := decide_eq_false (by omega)
   have t1 : decide (1048576 < n) = false := decide_eq_false (by omega)
   have t2 : decide (4194304 < (es.length : Int)) = false := decide_eq_false (by omega)
   go_enter Try.func35, Try.ntmps35
   go_wp2_with fail
   obtain ⟨W0, hW0⟩ : ∃ W0, W0 = w.alloc (.cells #[.int .i64 n, .slice A es.length c] 24 (0, 0)) := ⟨_, rfl⟩
   rw [← hW0] at HB HX ⊢
   obtain ⟨bg, hbg⟩ : ∃ bg, bg = w.heap.size := ⟨_, rfl⟩
   rw [← hbg] at HX ⊢
   have HBG := Aside0.mk hbg
   clear hbg hW0 x0 x1
   have HP0 : Aside0 (∀ j, j < 0 → OkAt n es j) := ⟨fun j h => absurd h (by omega)⟩
   go_loopw [22] (fun y wr => ∃ (i : Nat), y = .int .i64 (i : Int) ∧ i ≤ es.length ∧ Aside0 (∀ j, j < i → OkAt n es j) ∧ Aside0 (Below w.heap.size w wr) ∧ Aside0 (wr.heap[bg]? = some (.cells #[.int .i64 n, .slice A es.length c] 24 (0, 0)))) (fun y _ => es.length - (intOf y).toNat)
   case atStart => exact ⟨0, rfl, by omega, HP0, HB, HX⟩
   case round =>
     clear HP0 HB HX
     obtain ⟨i, rfl, hi, HP, HB, HX⟩ := hrel
     by_cases hlt : i < es.length
     · obtain ⟨ad, eA, y1, y2⟩ := (HE.out.below HB.out) i hlt
       subst eA
       have HPR : Aside0 (0 < i → ∃ p, i = p + 1 ∧ OkAt n es p ∧ wr.cell? (ad.add (p * 2)) = some (.int .i64 (pe es p).1) ∧ wr.cell? ⟨(ad.add (p * 2)).block, (ad.add (p * 2)).off + 1, none⟩ = some (.int .i64 (pe es p).2)) := ⟨fun h => by
         obtain ⟨ad', e', z1, z2⟩ := (HE.out.below HB.out) (i - 1) (by omega)
         obtain rfl : ad = ad' := by simpa using e'
         exact ⟨i - 1, by omega, HP.out _ (by omega), z1, z2⟩⟩
       obtain ⟨u, hu⟩ : ∃ u, u = (pe es i).1 := ⟨_, rfl⟩
       obtain ⟨v, hv⟩ : ∃ v, v = (pe es i).2 := ⟨_, rfl⟩
       rw [← hu] at y1
       rw [← hv] at y2
       have HUV : Aside0 (pe es i = (u, v)) := ⟨by rw [hu, hv]⟩
       clear hu hv
       have HBAD : Aside0 (¬ OkAt n es i → goodB n es = false) := ⟨fun h => goodB_no (fun g => h (g.2.2.2 i hlt))⟩
       have HX2 := Aside0.mk (heap_old HX.out (.cells #[.int .i64 u, .int .i64 v] 56 (0, 0)))
       have HB2 := Aside0.mk (HB.out.alloc HB.out.size (.cells #[.int .i64 u, .int .i64 v] 56 (0, 0)))
       have HY2 := Aside0.mk (heap_last wr (.cells #[.int .i64 u, .int .i64 v] 56 (0, 0)))
       go_wp2_with fail
       clear y1 y2
       have x0 : (wr.alloc (.cells #[.int .i64 u, .int .i64 v] 56 (0, 0))).cell? ⟨bg, 0, none⟩ = some (.int .i64 n) := heap_cell HX2.out rfl
       have x1 : (wr.alloc (.cells #[.int .i64 u, .int .i64 v] 56 (0, 0))).cell? ⟨bg, 1, none⟩ = some (.slice (some ad) es.length c) := heap_cell HX2.out rfl
       have x2 : (wr.alloc (.cells #[.int .i64 u, .int .i64 v] 56 (0, 0))).cell? ⟨wr.heap.size, 0, none⟩ = some (.int .i64 u) := heap_cell HY2.out rfl
       have x3 : (wr.alloc (.cells #[.int .i64 u, .int .i64 v] 56 (0, 0))).cell? ⟨wr.heap.size, 1, none⟩ = some (.int .i64 v) := heap_cell HY2.out rfl
       have HBX : Aside0 (∀ b, b < wr.heap.size → (wr.alloc (.cells #[.int .i64 u, .int .i64 v] 56 (0, 0))).heap[b]? = wr.heap[b]?) := ⟨fun b hb => Below.heap_alloc _ _ _ hb⟩
       generalize wr.alloc (.cells #[.int .i64 u, .int .i64 v] 56 (0, 0)) = w2 at HX2 HB2 HY2 HBX x0 x1 x2 x3 ⊢
       obtain ⟨be, hbe⟩ : ∃ be, be = wr.heap.size := ⟨_, rfl⟩
       rw [← hbe] at x2 x3 HY2 HBX ⊢
       have HBE := Aside0.mk hbe
       clear hbe
       by_cases a0 : u < 0
       · have HG := Aside0.mk (HBAD.out (fun h => by have := h.1; rw [HUV.out] at this; unfold okP at this; rw [decide_eq_true_eq] at this; simp only at this; omega))
         have t3 : decide (u < 0) = true := decide_eq_true a0
         go_quiet (fail)
         go_wp2_with fail
         go_ret
         exact ⟨by rw [HG.out]; rfl, below_drewN HB2.out _⟩
       have t3 : decide (u < 0) = false := decide_eq_false a0
       by_cases a1 : v ≤ u
       · have HG := Aside0.mk (HBAD.out (fun h => by have := h.1; rw [HUV.out] at this; unfold okP at this; rw [decide_eq_true_eq] at this; simp only at this; omega))
         have t4 : decide (v ≤ u) = true := decide_eq_true a1
         go_quiet (fail)
         go_wp2_with fail
         go_ret
         exact ⟨by rw [HG.out]; rfl, below_drewN HB2.out _⟩
       have t4 : decide (v ≤ u) = false := decide_eq_false a1
       by_cases a2 : n ≤ v
       · have HG := Aside0.mk (HBAD.out (fun h => by have := h.1; rw [HUV.out] at this; unfold okP at this; rw [decide_eq_true_eq] at this; simp only at this; omega))
         have t5 : decide (n ≤ v) = true := decide_eq_true a2
         go_quiet (fail)
         go_wp2_with fail
         go_ret
         exact ⟨by rw [HG.out]; rfl, below_drewN HB2.out _⟩
       have t5 : decide (n ≤ v) = false := decide_eq_false a2
       have HOK : Aside0 (okP n (pe es i) = true) := ⟨by rw [HUV.out]; unfold okP; rw [decide_eq_true_eq]; simp only; omega⟩
       by_cases a3 : 0 < i
       · obtain ⟨p, hp, hop, z1, z2⟩ := HPR.out a3
         have t6 : decide (0 < (i : Int)) = true := decide_eq_true (by omega)
         obtain ⟨u', hu⟩ : ∃ u', u' = (pe es p).1 := ⟨_, rfl⟩
         obtain ⟨v', hv⟩ : ∃ v', v' = (pe es p).2 := ⟨_, rfl⟩
         rw [← hu] at z1
         rw [← hv] at z2
         have HUV' : Aside0 (pe es p = (u', v')) := ⟨by rw [hu, hv]⟩
         have hr : 0 ≤ u' ∧ u' < v' ∧ v' < n := by
           have := hop.1
           rw [HUV'.out] at this
           unfold okP at this
           simpa using this
         obtain ⟨hr0, hr1, hr2⟩ := hr
         have z1' : w2.cell? (ad.add (p * 2)) = some (.int .i64 u') := by
           rw [World.cell?, HBX.out _ (by rw [HBE.out]; exact cell_lt z1)]; exact z1
         have z2' : w2.cell? ⟨(ad.add (p * 2)).block, (ad.add (p * 2)).off + 1, none⟩ = some (.int .i64 v') := by
           rw [World.cell?, HBX.out _ (by rw [HBE.out]; exact cell_lt z2)]; exact z2
         have q1 : IntKind.i64.wrap ((i : Int) - 1) = (p : Int) := by rw [IntWalk.i64_in _ (by omega)]; omega
         have hpl : p < es.length := by omega
         have HP2 := Aside0.mk hp
         clear hu hv hop hp z1 z2
         go_still_tail 28, (by kernel_rfl)
         have HB3 : Aside0 (Below w.heap.size w w2.drew) := ⟨HB2.out.drew⟩
         have HX3 : Aside0 (w2.drew.heap[bg]? = some (.cells #[.int .i64 n, .slice (some ad) es.length c] 24 (0, 0))) := ⟨HX2.out⟩
         change wpList _ _ _ _ _ w2.drew
         generalize w2.drew = w3 at HB3 HX3 ⊢
         clear x0 x1 x2 x3 z1' z2' HB2 HX2 HY2 HBX
         by_cases hlt2 : ltP (u', v') (u, v) = true
         · have hz := cmpI_lt.2 hlt2
           have t7 : decide (0 ≤ cmpI u' v' u v) = false := decide_eq_false (by omega)
           have HP3 : Aside0 (∀ j, j < i + 1 → OkAt n es j) := ⟨fun j hj => by
             rcases Nat.lt_succ_iff_lt_or_eq.1 hj with g | rfl
             · exact HP.out j g
             · exact ⟨HOK.out, fun h => by rw [show j - 1 = p by have := HP2.out; omega, HUV.out, HUV'.out]; exact hlt2⟩⟩
           clear hz hlt2
           go_wp2_with (go_at_call 52; refine (compare_calls u' v' u v _ (by omega) (by omega) (by omega) (by omega)).mono ?_; rintro e w4 ⟨rfl, hb⟩)
           have HX4 := Aside0.mk ((hb.block _ (lt_of HX3.out)).trans HX3.out)
           have HB4 := Aside0.mk (HB3.out.trans (hb.mono HB3.out.size))
           clear hb HX3 HB3
           go_wp2_with fail
           go_roundw
           case rel => exact ⟨i + 1, by go_num, by omega, HP3, HB4, HX4⟩
           case measure => simp [intOf]; omega
         · have HG := Aside0.mk (HBAD.out (fun h => hlt2 (by
             have := h.2 a3
             rw [show i - 1 = p by have := HP2.out; omega, HUV.out, HUV'.out] at this
             exact this)))
           have hz : ¬ cmpI u' v' u v < 0 := fun h => hlt2 (cmpI_lt.1 h)
           have t7 : decide (0 ≤ cmpI u' v' u v) = true := decide_eq_true (by omega)
           clear hz hlt2
           go_wp2_with (go_at_call 52; refine (compare_calls u' v' u v _ (by omega) (by omega) (by omega) (by omega)).mono ?_; rintro e w4 ⟨rfl, hb⟩)
           have HB4 := Aside0.mk (HB3.out.trans (hb.mono HB3.out.size))
           clear hb HB3
           go_wp2_with fail
           go_ret
           exact ⟨by rw [HG.out]; rfl, HB4.out⟩
       · have t6 : decide (0 < (i : Int)) = false := decide_eq_false (by omega)
         have HP2 : Aside0 (∀ j, j < i + 1 → OkAt n es j) := ⟨fun j hj => by
           rcases Nat.lt_succ_iff_lt_or_eq.1 hj with g | rfl
           · exact HP.out j g
           · exact ⟨HOK.out, fun h => absurd h a3⟩⟩
         go_quiet (fail)
         go_wp2_with fail
         go_roundw
         case rel => exact ⟨i + 1, by go_num, by omega, HP2, ⟨below_drewN HB2.out _⟩, ⟨HX2.out⟩⟩
         case measure => simp [intOf]; omega
     · obtain rfl : i = es.length := by omega
       have HG := Aside0.mk ((goodB_iff n es).2 ⟨h0, h1, h2, HP.out⟩)
       go_wp2_with fail
       go_ret
       exact ⟨by rw [HG.out]; rfl, HB.out⟩
 · have HG := Aside0.mk (goodB_no (n := n) (es := es) (fun h => h0 ⟨h.1, h.2.1, h.2.2.1⟩))
   by_cases a0 : n < 0
   · have t0 : decide (n < 0) = true := decide_eq_true a0
     clear h0
     go_enter Try.func35, Try.ntmps35
     go_wp2_with fail
     go_ret
     exact ⟨by rw [HG.out]; rfl, HB.out⟩
   · have t0 : decide (n < 0) = false := decide_eq_false a0
     by_cases a1 : 1048576 < n
     · have t1 : decide (1048576 < n) = true := decide_eq_true a1
       clear h0
       go_enter Try.func35, Try.ntmps35
       go_wp2_with fail
       go_ret
       exact ⟨by rw [HG.out]; rfl, HB.out⟩
     · have t1 : decide (1048576 < n) = false := decide_eq_false a1
       have t2 : decide (4194304 < (es.length : Int)) = true := decide_eq_true (by omega)
       clear h0
       go_enter Try.func35, Try.ntmps35
       go_wp2_with fail
       go_ret
       exact ⟨by rw [HG.out]; rfl, HB.out⟩
set_option maxHeartbeats 1000000 in
set_option maxRecDepth 100000 in
theorem less_calls (a b c d : Int) (w : World) :
   Calls Try.prog 55 #[.agg #[.int .i64 a, .int .i64 b], .agg #[.int .i64 c, .int .i64 d]] w fun e w' => e = .returned (.bool (ltP (a, b) (c, d))) ∧ Below w.heap.size w w' := by
 by_cases h : a < c
 · have t : decide (a < c) = true := decide_eq_true h
   have HE : Aside0 (ltP (a, b) (c, d) = true) := ⟨decide_eq_true (Or.inl h)⟩
   clear h
   go_enter Try.func55, Try.ntmps55
   go_wp2_with fail
   go_ret
   exact ⟨by rw [HE.out]; rfl, ((Below.refl _ _).alloc (Nat.le_refl _) _).alloc (by simp) _⟩
 · have t : decide (a < c) = false := decide_eq_false h
   by_cases h2 : a = c
   · have t2 : (a == c) = true := beq_iff_eq.2 h2
     have HE : Aside0 (ltP (a, b) (c, d) = decide (b < d)) := ⟨by unfold ltP; rw [decide_eq_decide]; simp only; omega⟩
     clear h h2
     go_enter Try.func55, Try.ntmps55
     go_wp2_with fail
     go_ret
     exact ⟨by rw [HE.out]; rfl, ((Below.refl _ _).alloc (Nat.le_refl _) _).alloc (by simp) _⟩
   · have t2 : (a == c) = false := beq_eq_false_iff_ne.2 h2
     have HE : Aside0 (ltP (a, b) (c, d) = false) := ⟨by unfold ltP; rw [decide_eq_false_iff_not]; simp only; omega⟩
     clear h h2
     go_enter Try.func55, Try.ntmps55
     go_wp2_with fail
     go_ret
     exact ⟨by rw [HE.out]; rfl, ((Below.refl _ _).alloc (Nat.le_refl _) _).alloc (by simp) _⟩
set_option maxHeartbeats 4000000 in
set_option maxRecDepth 100000 in
theorem ref_calls (n : Int) (A : Option Addr) (c : Nat) (es : List P2) (w : World) (he : Pairs w A es) (hc : es.length ≤ c) :
   Calls Try.prog 47 #[.agg #[.int .i64 n, .slice A es.length c]] w fun e w' => e = .returned (.bool (goodB n es)) ∧ Below w.heap.size w w' := by
 have HE := Aside0.mk he
 have HB := Aside0.mk ((Below.refl w.heap.size w).alloc (Nat.le_refl _) (.cells #[.int .i64 n, .slice A es.length c] 24 (0, 0)))
 have HX := Aside0.mk (heap_last w (.cells #[.int .i64 n, .slice A es.length c] 24 (0, 0)))
 clear he
 have x0 : (w.alloc (.cells #[.int .i64 n, .slice A es.length c] 24 (0, 0))).cell? ⟨w.heap.size, 0, none⟩ = some (.int .i64 n) := heap_cell HX.out rfl
 have x1 : (w.alloc (.cells #[.int .i64 n, .slice A es.length c] 24 (0, 0))).cell? ⟨w.heap.size, 1, none⟩ = some (.slice A es.length c) := heap_cell HX.out rfl
 by_cases h0 : 0 ≤ n ∧ n ≤ 1048576 ∧ es.length ≤ 4194304
 · obtain ⟨h0, h1, h2⟩ := h0
   have t0 : decide (n < 0) = false := decide_eq_false (by omega)
   have t1 : decide (1048576 < n) = false := decide_eq_false (by omega)
   have t2 : decide (4194304 < (es.length : Int)) = false := decide_eq_false (by omega)
   go_enter Try.func47, Try.ntmps47
   go_wp2_with fail
   obtain ⟨W0, hW0⟩ : ∃ W0, W0 = w.alloc (.cells #[.int .i64 n, .slice A es.length c] 24 (0, 0)) := ⟨_, rfl⟩
   rw [← hW0] at HB HX ⊢
   obtain ⟨bg, hbg⟩ : ∃ bg, bg = w.heap.size := ⟨_, rfl⟩
   rw [← hbg] at HX ⊢
   have HBG := Aside0.mk hbg
   clear hbg hW0 x0 x1
   have HP0 : Aside0 (∀ j, j < 0 → OkAt n es j) := ⟨fun j h => absurd h (by omega)⟩
   go_loopw [3] (fun y wr => ∃ (i : Nat), y = .int .i64 (i : Int) ∧ i ≤ es.length ∧ Aside0 (∀ j, j < i → OkAt n es j) ∧ Aside0 (Below w.heap.size w wr) ∧ Aside0 (wr.heap[bg]? = some (.cells #[.int .i64 n, .slice A es.length c] 24 (0, 0)))) (fun y _ => es.length - (intOf y).toNat)
   case atStart => exact ⟨0, rfl, by omega, HP0, HB, HX⟩
   case round =>
     clear HP0 HB HX
     obtain ⟨i, rfl, hi, HP, HB, HX⟩ := hrel
     have w1 : wr.cell? ⟨bg, 1, none⟩ = some (.slice A es.length c) := heap_cell HX.out rfl
     by_cases hlt : i < es.length
     · obtain ⟨ad, eA, y1, y2⟩ := (HE.out.below HB.out) i hlt
       subst eA
       have HPR : Aside0 (0 < i → ∃ p, i = p + 1 ∧ OkAt n es p ∧ wr.cell? (ad.add (p * 2)) = some (.int .i64 (pe es p).1) ∧ wr.cell? ⟨(ad.add (p * 2)).block, (ad.add (p * 2)).off + 1, none⟩ = some (.int .i64 (pe es p).2)) := ⟨fun h => by
         obtain ⟨ad', e', z1, z2⟩ := (HE.out.below HB.out) (i - 1) (by omega)
         obtain rfl : ad = ad' := by simpa using e'
         exact ⟨i - 1, by omega, HP.out _ (by omega), z1, z2⟩⟩
       obtain ⟨u, hu⟩ : ∃ u, u = (pe es i).1 := ⟨_, rfl⟩
       obtain ⟨v, hv⟩ : ∃ v, v = (pe es i).2 := ⟨_, rfl⟩
       rw [← hu] at y1
       rw [← hv] at y2
       have HUV : Aside0 (pe es i = (u, v)) := ⟨by rw [hu, hv]⟩
       clear hu hv
       have HBAD : Aside0 (¬ OkAt n es i → goodB n es = false) := ⟨fun h => goodB_no (fun g => h (g.2.2.2 i hlt))⟩
       have HX2 := Aside0.mk (heap_old HX.out (.cells #[.int .i64 u, .int .i64 v] 56 (0, 0)))
       have HB2 := Aside0.mk (HB.out.alloc HB.out.size (.cells #[.int .i64 u, .int .i64 v] 56 (0, 0)))
       have HY2 := Aside0.mk (heap_last wr (.cells #[.int .i64 u, .int .i64 v] 56 (0, 0)))
       have x0 : (wr.alloc (.cells #[.int .i64 u, .int .i64 v] 56 (0, 0))).cell? ⟨bg, 0, none⟩ = some (.int .i64 n) := heap_cell HX2.out rfl
       have x1 : (wr.alloc (.cells #[.int .i64 u, .int .i64 v] 56 (0, 0))).cell? ⟨bg, 1, none⟩ = some (.slice (some ad) es.length c) := heap_cell HX2.out rfl
       have x2 : (wr.alloc (.cells #[.int .i64 u, .int .i64 v] 56 (0, 0))).cell? ⟨wr.heap.size, 0, none⟩ = some (.int .i64 u) := heap_cell HY2.out rfl
       have x3 : (wr.alloc (.cells #[.int .i64 u, .int .i64 v] 56 (0, 0))).cell? ⟨wr.heap.size, 1, none⟩ = some (.int .i64 v) := heap_cell HY2.out rfl
       have HBX : Aside0 (∀ b, b < wr.heap.size → (wr.alloc (.cells #[.int .i64 u, .int .i64 v] 56 (0, 0))).heap[b]? = wr.heap[b]?) := ⟨fun b hb => Below.heap_alloc _ _ _ hb⟩
       by_cases a0 : u < 0
       · have HG := Aside0.mk (HBAD.out (fun h => by have := h.1; rw [HUV.out] at this; unfold okP at this; rw [decide_eq_true_eq] at this; simp only at this; omega))
         have t3 : decide (u < 0) = true := decide_eq_true a0
         go_wp2_with fail
         go_ret
         exact ⟨by rw [HG.out]; rfl, HB2.out⟩
       have t3 : decide (u < 0) = false := decide_eq_false a0
       by_cases a1 : v ≤ u
       · have HG := Aside0.mk (HBAD.out (fun h => by have := h.1; rw [HUV.out] at this; unfold okP at this; rw [decide_eq_true_eq] at this; simp only at this; omega))
         have t4 : decide (v ≤ u) = true := decide_eq_true a1
         go_wp2_with fail
         go_ret
         exact ⟨by rw [HG.out]; rfl, HB2.out⟩
       have t4 : decide (v ≤ u) = false := decide_eq_false a1
       by_cases a2 : n ≤ v
       · have HG := Aside0.mk (HBAD.out (fun h => by have := h.1; rw [HUV.out] at this; unfold okP at this; rw [decide_eq_true_eq] at this; simp only at this; omega))
         have t5 : decide (n ≤ v) = true := decide_eq_true a2
         go_wp2_with fail
         go_ret
         exact ⟨by rw [HG.out]; rfl, HB2.out⟩
       have t5 : decide (n ≤ v) = false := decide_eq_false a2
       have HOK : Aside0 (okP n (pe es i) = true) := ⟨by rw [HUV.out]; unfold okP; rw [decide_eq_true_eq]; simp only; omega⟩
       by_cases a3 : 0 < i
       · have t6 : decide (0 < (i : Int)) = true := decide_eq_true (by omega)
         go_wp2_with fail
         clear y1 y2 w1
         generalize wr.alloc (.cells #[.int .i64 u, .int .i64 v] 56 (0, 0)) = w2 at HX2 HB2 HY2 HBX x0 x1 x2 x3 ⊢
         obtain ⟨be, hbe⟩ : ∃ be, be = wr.heap.size := ⟨_, rfl⟩
         rw [← hbe] at x2 x3 HY2 HBX ⊢
         have HBE := Aside0.mk hbe
         clear hbe
         obtain ⟨p, hp, hop, z1, z2⟩ := HPR.out a3
         obtain ⟨u', hu⟩ : ∃ u', u' = (pe es p).1 := ⟨_, rfl⟩
         obtain ⟨v', hv⟩ : ∃ v', v' = (pe es p).2 := ⟨_, rfl⟩
         rw [← hu] at z1
         rw [← hv] at z2
         have HUV' : Aside0 (pe es p = (u', v')) := ⟨by rw [hu, hv]⟩
         have hr : 0 ≤ u' ∧ u' < v' ∧ v' < n := by
           have := hop.1
           rw [HUV'.out] at this
           unfold okP at this
           simpa using this
         obtain ⟨hr0, hr1, hr2⟩ := hr
         have z1' : w2.cell? (ad.add (p * 2)) = some (.int .i64 u') := by
           rw [World.cell?, HBX.out _ (by rw [HBE.out]; exact cell_lt z1)]; exact z1
         have z2' : w2.cell? ⟨(ad.add (p * 2)).block, (ad.add (p * 2)).off + 1, none⟩ = some (.int .i64 v') := by
           rw [World.cell?, HBX.out _ (by rw [HBE.out]; exact cell_lt z2)]; exact z2
         have q1 : IntKind.i64.wrap ((i : Int) - 1) = (p : Int) := by rw [IntWalk.i64_in _ (by omega)]; omega
         have hpl : p < es.length := by omega
         have HP2 := Aside0.mk hp
         clear hu hv hop hp z1 z2
         go_still_tail 7, (by kernel_rfl)
         have HB3 : Aside0 (Below w.heap.size w w2.drew) := ⟨HB2.out.drew⟩
         have HX3 : Aside0 (w2.drew.heap[bg]? = some (.cells #[.int .i64 n, .slice (some ad) es.length c] 24 (0, 0))) := ⟨HX2.out⟩
         change wpList _ _ _ _ _ w2.drew
         generalize w2.drew = w3 at HB3 HX3 ⊢
         clear x0 x1 x2 x3 z1' z2' HB2 HX2 HY2 HBX
         by_cases hlt2 : ltP (u', v') (u, v) = true
         · have t7 := hlt2
           have HP3 : Aside0 (∀ j, j < i + 1 → OkAt n es j) := ⟨fun j hj => by
             rcases Nat.lt_succ_iff_lt_or_eq.1 hj with g | rfl
             · exact HP.out j g
             · exact ⟨HOK.out, fun h => by rw [show j - 1 = p by have := HP2.out; omega, HUV.out, HUV'.out]; exact hlt2⟩⟩
           clear hlt2
           go_wp2_with (go_at_call 55; refine (less_calls u' v' u v _).mono ?_; rintro e w4 ⟨rfl, hb⟩)
           have HX4 := Aside0.mk ((hb.block _ (lt_of HX3.out)).trans HX3.out)
           have HB4 := Aside0.mk (HB3.out.trans (hb.mono HB3.out.size))
           clear hb HX3 HB3
           go_wp2_with fail
           go_roundw
           case rel => exact ⟨i + 1, by go_num, by omega, HP3, HB4, HX4⟩
           case measure => simp [intOf]; omega
         · have HG := Aside0.mk (HBAD.out (fun h => hlt2 (by
             have := h.2 a3
             rw [show i - 1 = p by have := HP2.out; omega, HUV.out, HUV'.out] at this
             exact this)))
           have t7 : ltP (u', v') (u, v) = false := by simpa using hlt2
           clear hlt2
           go_wp2_with (go_at_call 55; refine (less_calls u' v' u v _).mono ?_; rintro e w4 ⟨rfl, hb⟩)
           have HB4 := Aside0.mk (HB3.out.trans (hb.mono HB3.out.size))
           clear hb HB3
           go_wp2_with fail
           go_ret
           exact ⟨by rw [HG.out]; rfl, HB4.out⟩
       · have t6 : decide (0 < (i : Int)) = false := decide_eq_false (by omega)
         have HP2 : Aside0 (∀ j, j < i + 1 → OkAt n es j) := ⟨fun j hj => by
           rcases Nat.lt_succ_iff_lt_or_eq.1 hj with g | rfl
           · exact HP.out j g
           · exact ⟨HOK.out, fun h => absurd h a3⟩⟩
         go_wp2_with fail
         go_roundw
         case rel => exact ⟨i + 1, by go_num, by omega, HP2, HB2, HX2⟩
         case measure => simp [intOf]; omega
     · obtain rfl : i = es.length := by omega
       have HG := Aside0.mk ((goodB_iff n es).2 ⟨h0, h1, h2, HP.out⟩)
       go_wp2_with fail
       go_ret
       exact ⟨by rw [HG.out]; rfl, HB.out⟩
 · have HG := Aside0.mk (goodB_no (n := n) (es := es) (fun h => h0 ⟨h.1, h.2.1, h.2.2.1⟩))
   by_cases a0 : n < 0
   · have t0 : decide (n < 0) = true := decide_eq_true a0
     clear h0
     go_enter Try.func47, Try.ntmps47
     go_wp2_with fail
     go_ret
     exact ⟨by rw [HG.out]; rfl, HB.out⟩
   · have t0 : decide (n < 0) = false := decide_eq_false a0
     by_cases a1 : 1048576 < n
     · have t1 : decide (1048576 < n) = true := decide_eq_true a1
       clear h0
       go_enter Try.func47, Try.ntmps47
       go_wp2_with fail
       go_ret
       exact ⟨by rw [HG.out]; rfl, HB.out⟩
     · have t1 : decide (1048576 < n) = false := decide_eq_false a1
       have t2 : decide (4194304 < (es.length : Int)) = true := decide_eq_true (by omega)
       clear h0
       go_enter Try.func47, Try.ntmps47
       go_wp2_with fail
       go_ret
       exact ⟨by rw [HG.out]; rfl, HB.out⟩
end Go.Proofs.Ytmikcfddipldnaa.ValH
namespace Go.Proofs.Ytmikcfddipldnaa.Graph
open Go.RowKit Go.Proofs.YtmikcfddipldnaaW.PrintWords Go.Proofs.YtmikcfddipldnaaW.PrintLast Go.Proofs.YtmikcfddipldnaaW.PrintMore Go.Proofs.Ytmikcfddipldnaa.Mem Go.Proofs.Ytmikcfddipldnaa.Rot
set_option linter.unusedVariables false
set_option linter.unusedSimpArgs false
theorem leaving_cntF (fr : List Int) (v : Nat) : (leaving fr v).length = cntF fr fr.length v := by unfold leaving cntF; rw [List.length_map]
theorem mem_gi2 {l : List Int} {x : Int} (h : x ∈ l) : ∃ j, j < l.length ∧ gi l j = x := by
 obtain ⟨j, hj, e⟩ := List.getElem_of_mem h
 exact ⟨j, hj, by unfold gi; rw [List.getD_eq_getElem?_getD, List.getElem?_eq_getElem hj]; exact e⟩
theorem take_gi {l : List Int} {j : Nat} (h : j < l.length) : l.take (j + 1) = l.take j ++ [gi l j] := by
 rw [List.take_succ_eq_append_getElem h]
 unfold gi
 rw [List.getD_eq_getElem?_getD, List.getElem?_eq_getElem h]; rfl
structure EInv (fr ds : List Int) (v : Nat) (row : List Int) (rest : List (List Int)) (T : List Bool) (i : Nat) (res : Int × Int) : Prop where
 len : T.length = fr.length
 lv : ∀ j, j < i → leaves fr v (gi row j) = true
 nd : (row.take i).Nodup
 m1 : ∀ q : Nat, gb T q = true → (∃ u, u < v ∧ leaves fr u (q : Int) = true) ∨ (q : Int) ∈ row.take i
 m2 : ∀ q : Nat, (q : Int) ∈ row.take i → gb T q = true
 res : after fr ds v row rest (elems fr v (row.drop i) T) = res
section
variable {fr ds : List Int} {v : Nat} {row : List Int} {rest : List (List Int)} {T : List Bool} {i : Nat} {res : Int × Int}
theorem EInv.bad (h : EInv fr ds v row rest T i res) (hi : i < row.length) (hl : leaves fr v (gi row i) = false) : res = ((v : Int), 111) := by
 rw [← h.res, drop_int hi, elems_cons_no hl]; rfl
theorem EInv.seen (h : EInv fr ds v row rest T i res) (hi : i < row.length) (hl : leaves fr v (gi row i) = true) : gb T (gi row i).toNat = true ↔ gi row i ∈ row.take i := by
 obtain ⟨l1, l2, l3⟩ := leaves_iff.1 hl
 obtain ⟨q, hq⟩ := Int.eq_ofNat_of_zero_le l1
 constructor
 · intro g
   rcases h.m1 _ g with ⟨u, h1, h2⟩ | g2
   · obtain ⟨_, _, h3⟩ := leaves_iff.1 h2
     rw [Int.toNat_natCast] at h3
     omega
   · rw [hq, Int.toNat_natCast] at g2
     rw [hq]; exact g2
 · intro g
   exact h.m2 _ (by rw [hq, Int.toNat_natCast]; rw [hq] at g; exact g)
theorem EInv.twice (h : EInv fr ds v row rest T i res) (hi : i < row.length) (hl : leaves fr v (gi row i) = true) (hm : gi row i ∈ row.take i) : res = ((v : Int), 112) := by
 rw [← h.res, drop_int hi, elems_cons_twice hl ((h.seen hi hl).2 hm)]; rfl
theorem EInv.step (h : EInv fr ds v row rest T i res) (hi : i < row.length) (hl : leaves fr v (gi row i) = true) (hm : gi row i ∉ row.take i) : EInv fr ds v row rest (T.set (gi row i).toNat true) (i + 1) res := by
 obtain ⟨l1, l2, l3⟩ := leaves_iff.1 hl
 have hs : gb T (gi row i).toNat = false := by
   cases e : gb T (gi row i).toNat with
   | false => rfl
   | true => exact absurd ((h.seen hi hl).1 e) hm
 have hlen := h.len
 refine ⟨by rw [List.length_set]; exact h.len, fun j hj => ?_, ?_, fun p hp => ?_, fun p hp => ?_, ?_⟩
 · rcases Nat.lt_succ_iff_lt_or_eq.1 hj with g | rfl
   · exact h.lv j g
   · exact hl
 · rw [take_gi hi, List.nodup_append]
   refine ⟨h.nd, by simp, fun a ha b hb2 => ?_⟩
   rw [List.mem_singleton] at hb2
   rintro rfl
   exact hm (by rw [← hb2]; exact ha)
 · rw [gb_set] at hp
   rw [take_gi hi]
   by_cases c : (gi row i).toNat = p ∧ p < T.length
   · right
     rw [show (p : Int) = gi row i by omega]
     simp
   · rw [if_neg c] at hp
     rcases h.m1 p hp with g | g
     · exact .inl g
     · exact .inr (List.mem_append_left _ g)
 · rw [take_gi hi, List.mem_append, List.mem_singleton] at hp
   rw [gb_set]
   by_cases c : (gi row i).toNat = p ∧ p < T.length
   · rw [if_pos c]
   · rw [if_neg c]
     rcases hp with g | g
     · exact h.m2 p g
     · exact absurd ⟨by omega, by omega⟩ c
 · rw [← h.res, drop_int hi, elems_cons hl hs]
theorem EInv.lvs (h : EInv fr ds v row rest T row.length res) : ∀ x ∈ row, leaves fr v x = true := by
 intro x hx
 obtain ⟨j, hj, rfl⟩ := mem_gi2 hx
 exact h.lv j hj
theorem EInv.le (h : EInv fr ds v row rest T row.length res) : row.length ≤ cntF fr fr.length v := by
 have h1 := h.nd
 rw [List.take_length] at h1
 have := nodup_subset row (leaving fr v) h1 (fun x hx => mem_leaving.2 (h.lvs x hx))
 rw [leaving_cntF] at this
 exact this
theorem EInv.few (h : EInv fr ds v row rest T row.length res) (hd : gi ds v = ((cntF fr fr.length v : Nat) : Int)) (hlt : row.length < cntF fr fr.length v) : res = ((v : Int), 113) := by
 have h1 := h.res
 rw [List.drop_length, show elems fr v [] T = .ok T from rfl, after_ok, if_neg (by omega)] at h1
 exact h1.symm
theorem EInv.done (h : EInv fr ds v row rest T row.length res) (hd : gi ds v = ((cntF fr fr.length v : Nat) : Int)) (hlt : ¬ row.length < cntF fr fr.length v) : T.length = fr.length ∧ (∀ q : Nat, gb T q = true → ∃ u, u < v + 1 ∧ leaves fr u (q : Int) = true) ∧ rows fr ds (v + 1) rest T = res := by
 have h1 := h.res
 have h2 := h.le
 rw [List.drop_length, show elems fr v [] T = .ok T from rfl, after_ok, if_pos (by omega)] at h1
 refine ⟨h.len, fun q hq => ?_, h1⟩
 rcases h.m1 q hq with ⟨u, a, b⟩ | g
 · exact ⟨u, by omega, b⟩
 · rw [List.take_length] at g
   exact ⟨v, by omega, h.lvs _ g⟩
theorem EInv.start {S : List Bool} (h1 : S.length = fr.length) (h2 : ∀ q : Nat, gb S q = true → ∃ u, u < v ∧ leaves fr u (q : Int) = true) (h3 : rows fr ds v (row :: rest) S = res) : EInv fr ds v row rest S 0 res :=
 ⟨h1, fun j hj => absurd hj (by omega), by simp, fun q hq => .inl (h2 q hq), fun q hq => by simp at hq, by rw [List.drop_zero, ← rows_cons]; exact h3⟩
end
def degs (es : List (Int × Int)) (n : Nat) : List Int := (List.range n).map fun (v : Nat) => ((cntF (froms es) (2 * es.length) (v : Int) : Nat) : Int)
theorem gi_degs {es : List (Int × Int)} {n v : Nat} (h : v < n) : gi (degs es n) v = ((cntF (froms es) (froms es).length (v : Int) : Nat) : Int) := by
 unfold gi degs
 rw [froms_length]
 simp [List.getD_eq_getElem?_getD, h]
def checkR (n : Int) (es : List (Int × Int)) (r : List (List Int)) : Int × Int :=
 if ValH.goodB n es = true then (if (r.length : Int) = n then rows (froms es) (degs es n.toNat) 0 r (List.replicate (2 * es.length) false) else (0, 110)) else (0, 1)
set_option maxHeartbeats 4000000 in
set_option maxRecDepth 100000 in
theorem checkR_calls (n : Int) (A : Option Addr) (c : Nat) (es : List (Int × Int)) (A1 : Option Addr) (c1 : Nat) (r : List (List Int)) (w : World) (he : Pairs w A es) (hc : es.length ≤ c) (hr : Kd.C KR w A1 r.length r) (hsm : ∀ v, v < r.length → (gl r v).length ≤ 18000000000000) :
   Calls Try.prog 57 #[.agg #[.int .i64 n, .slice A es.length c], .slice A1 r.length c1] w fun e w' => e = .returned (.tuple #[.int .i64 (checkR n es r).1, .int .i64 (checkR n es r).2]) ∧ Below w.heap.size w w' := by
 have HE := Aside0.mk he
 have HR := Aside0.mk hr
 have HSM := Aside0.mk hsm
 have HCC := Aside0.mk hc
 have HB := Aside0.mk ((Below.refl w.heap.size w).alloc (Nat.le_refl _) (.cells #[.int .i64 n, .slice A es.length c] 24 (0, 0)))
 have HX := Aside0.mk (heap_last w (.cells #[.int .i64 n, .slice A es.length c] 24 (0, 0)))
 have x0 : (w.alloc (.cells #[.int .i64 n, .slice A es.length c] 24 (0, 0))).cell? ⟨w.heap.size, 0, none⟩ = some (.int .i64 n) := heap_cell HX.out rfl
 have x1 : (w.alloc (.cells #[.int .i64 n, .slice A es.length c] 24 (0, 0))).cell? ⟨w.heap.size, 1, none⟩ = some (.slice A es.length c) := heap_cell HX.out rfl
 clear he hr hsm hc
 obtain ⟨RES, hRES⟩ : ∃ RES, RES = checkR n es r := ⟨_, rfl⟩
 rw [← hRES]
 have HRES := Aside0.mk hRES
 clear hRES
 go_enter Try.func57, Try.ntmps57
 go_wp2_with fail
 clear x0 x1
 generalize w.alloc (.cells #[.int .i64 n, .slice A es.length c] 24 (0, 0)) = w1 at HX HB ⊢
 obtain ⟨bg, hbg⟩ : ∃ bg, bg = w.heap.size := ⟨_, rfl⟩
 rw [← hbg] at HX ⊢
 clear hbg
 refine (ValH.ref_calls n A c es w1 (HE.out.below HB.out) HCC.out).mono ?_
 rintro e w2 ⟨rfl, hb⟩
 have HX2 := Aside0.mk ((hb.block _ (lt_of HX.out)).trans HX.out)
 have HB2 := Aside0.mk (HB.out.trans (hb.mono HB.out.size))
 clear hb HX HB
 first | clear x0 x1 | skip
 have x0 : w2.cell? ⟨bg, 0, none⟩ = some (.int .i64 n) := heap_cell HX2.out rfl
 have x1 : w2.cell? ⟨bg, 1, none⟩ = some (.slice A es.length c) := heap_cell HX2.out rfl
 cases hgd : ValH.goodB n es with
 | false =>
   have HG : Aside0 (RES = (0, 1)) := ⟨by rw [HRES.out]; unfold checkR; rw [if_neg (by rw [hgd]; decide)]⟩
   clear hgd
   go_wp2_with fail
   go_ret2
   exact ⟨by rw [HG.out]; rfl, HB2.out⟩
 | true =>
   obtain ⟨g0, g1, g2, g3⟩ := (ValH.goodB_iff n es).1 hgd
   clear g3
   by_cases hlen : (r.length : Int) = n
   · have t0 : ((r.length : Int) != n) = false := bne_eq_false_iff_eq.2 hlen
     have hR0 : rows (froms es) (degs es n.toNat) 0 r (List.replicate (2 * es.length) false) = RES := by rw [HRES.out]; unfold checkR; rw [if_pos hgd, if_pos hlen]
     obtain ⟨fr, hfr⟩ : ∃ fr, fr = froms es := ⟨_, rfl⟩
     obtain ⟨ds, hds⟩ : ∃ ds, ds = degs es n.toNat := ⟨_, rfl⟩
     have HDS : Aside0 (∀ v, v < r.length → gi ds v = ((cntF fr fr.length (v : Int) : Nat) : Int)) := ⟨fun v hv => by rw [hds, hfr]; exact gi_degs (by omega)⟩
     have HFL : Aside0 (fr.length = 2 * es.length) := ⟨by rw [hfr]; exact froms_length es⟩
     have HST : Aside0 (∃ S : List Bool, S.length = fr.length ∧ (∀ q : Nat, gb S q = true → ∃ u : Nat, u < 0 ∧ leaves fr u (q : Int) = true) ∧ rows fr ds 0 (r.drop 0) S = RES) := ⟨⟨List.replicate (2 * es.length) false, by rw [List.length_replicate, HFL.out], (fun q hq => by rw [gb_none] at hq; cases hq), by rw [List.drop_zero, hfr, hds]; exact hR0⟩⟩
     have HFR := Aside0.mk hfr
     have HLN := Aside0.mk hlen
     clear hR0 hfr hds hgd hlen
     go_wp2_with fail
     go_loopw [6] (fun y wr => ∃ (v : Nat), y = .int .i64 (v : Int) ∧ v ≤ r.length ∧ Aside0 (∃ S : List Bool, S.length = fr.length ∧ (∀ q : Nat, gb S q = true → ∃ u, u < v ∧ leaves fr u (q : Int) = true) ∧ rows fr ds v (r.drop v) S = RES) ∧ Aside0 (wr.heap[bg]? = some (.cells #[.int .i64 n, .slice A es.length c] 24 (0, 0))) ∧ Aside0 (Below w.heap.size w wr)) (fun y _ => r.length - (intOf y).toNat)
     case atStart => exact ⟨0, rfl, by omega, HST, HX2, HB2⟩
     case round =>
       clear HST HX2 HB2
       obtain ⟨v, rfl, hv, HST, HX, HB⟩ := hrel
       have hln := HLN.out
       have hv2 : (v : Int) ≤ n := by omega
       by_cases hlt : v < r.length
       · have hvn : (v : Int) < n := by omega
         obtain ⟨ad, D, cD, eA, hx0, hcD, hrow⟩ := row_at HR.out hlt
         subst eA
         obtain ⟨S, h1, h2, h3⟩ := HST.out
         rw [drop_row hlt] at h3
         have HI0 := Aside0.mk (EInv.start h1 h2 h3)
         have hrl := HSM.out v hlt
         have HDV := Aside0.mk (HDS.out v hlt)
         obtain ⟨row, hrw⟩ : ∃ row, row = gl r v := ⟨_, rfl⟩
         rw [← hrw] at hx0 hcD hrow hrl HI0
         have HROW := Aside0.mk hrow
         have HXC := Aside0.mk hx0
         obtain ⟨rest, hrest⟩ : ∃ rest, rest = r.drop (v + 1) := ⟨_, rfl⟩
         rw [← hrest] at HI0
         have HREST := Aside0.mk hrest
         have x0 : wr.cell? ⟨bg, 0, none⟩ = some (.int .i64 n) := heap_cell HX.out rfl
         clear h1 h2 h3 hrow hx0 hrw hrest hln
         go_wp2_with fail
         clear x0
         go_loopw [7] (fun y wr => ∃ (i : Nat), y = .int .i64 (i : Int) ∧ i ≤ row.length ∧ Aside0 (∃ T, EInv fr ds v row rest T i RES) ∧ Aside0 (wr.heap[bg]? = some (.cells #[.int .i64 n, .slice A es.length c] 24 (0, 0))) ∧ Aside0 (Below w.heap.size w wr)) (fun y _ => row.length - (intOf y).toNat)
         case atStart => exact ⟨0, rfl, by omega, ⟨⟨S, HI0.out⟩⟩, HX, HB⟩
         case round =>
           clear HI0 HX HB
           obtain ⟨i, rfl, hi, HI, HX, HB⟩ := hrel
           have x0 : wr.cell? ⟨bg, 0, none⟩ = some (.int .i64 n) := heap_cell HX.out rfl
           have x1 : wr.cell? ⟨bg, 1, none⟩ = some (.slice A es.length c) := heap_cell HX.out rfl
           have hx := (HB.out.cell (cell_lt HXC.out)).trans HXC.out
           by_cases hil : i < row.length
           · obtain ⟨ad2, eD, hxu⟩ := Kd.at_int (Kd.C_below HROW.out HB.out) (i : Int) (by omega) (by omega)
             subst eD
             rw [gi_rd, Int.toNat_natCast] at hxu
             obtain ⟨u, hu⟩ : ∃ u, u = gi row i := ⟨_, rfl⟩
             rw [← hu] at hxu
             have HU := Aside0.mk hu
             clear hu
             go_wp2_with fail
             go_still_tail 9, (by kernel_rfl)
             have HX3 : Aside0 (wr.drew.heap[bg]? = some (.cells #[.int .i64 n, .slice A es.length c] 24 (0, 0))) := ⟨HX.out⟩
             have HB3 : Aside0 (Below w.heap.size w wr.drew) := ⟨HB.out.drew⟩
             change wpList _ _ _ _ _ wr.drew
             generalize wr.drew = w3 at HX3 HB3 ⊢
             clear x0 x1 hx hxu HX HB
             go_wp2_with fail
             refine (leaves_calls n A c es u v w3 (HE.out.below HB3.out) g2).mono ?_
             rintro e w4 ⟨rfl, hb⟩
             have HX4 := Aside0.mk ((hb.block _ (lt_of HX3.out)).trans HX3.out)
             have HB4 := Aside0.mk (HB3.out.trans (hb.mono HB3.out.size))
             clear hb HX3 HB3
             first | clear x0 x1 | skip
             have x0 : w4.cell? ⟨bg, 0, none⟩ = some (.int .i64 n) := heap_cell HX4.out rfl
             have x1 : w4.cell? ⟨bg, 1, none⟩ = some (.slice A es.length c) := heap_cell HX4.out rfl
             rw [← HFR.out]
             cases hlv : leaves fr v u with
             | false =>
               have HG : Aside0 (RES = ((v : Int), 111)) := ⟨by obtain ⟨T, hT⟩ := HI.out; exact hT.bad hil (by rw [← HU.out]; exact hlv)⟩
               clear hlv
               go_wp2_with fail
               go_ret2
               exact ⟨by rw [HG.out]; rfl, HB4.out⟩
             | true =>
               have HLV := Aside0.mk hlv
               clear hlv
               have hx := (HB4.out.cell (cell_lt HXC.out)).trans HXC.out
               obtain ⟨ad2', eD, hxu⟩ := Kd.at_int (Kd.C_below HROW.out HB4.out) (i : Int) (by omega) (by omega)
               injection eD with eD
               subst eD
               rw [gi_rd, Int.toNat_natCast, ← HU.out] at hxu
               go_wp2_with fail
               go_still_tail 12, (by kernel_rfl)
               have HX5 : Aside0 (w4.drew.heap[bg]? = some (.cells #[.int .i64 n, .slice A es.length c] 24 (0, 0))) := ⟨HX4.out⟩
               have HB5 : Aside0 (Below w.heap.size w w4.drew) := ⟨HB4.out.drew⟩
               change wpList _ _ _ _ _ w4.drew
               generalize w4.drew = w5 at HX5 HB5 ⊢
               clear x0 x1 hx hxu HX4 HB4
               go_wp2_with fail
               refine (stands_calls (some ad2) cD row i u w5 (Kd.C_below HROW.out HB5.out) (by omega) hrl).mono ?_
               rintro e w6 ⟨rfl, rfl⟩
               by_cases hst : u ∈ row.take i
               · have HG : Aside0 (RES = ((v : Int), 112)) := ⟨by obtain ⟨T, hT⟩ := HI.out; exact hT.twice hil (by rw [← HU.out]; exact HLV.out) (by rw [← HU.out]; exact hst)⟩
                 rw [decide_eq_true hst]
                 clear hst
                 go_wp2_with fail
                 go_ret2
                 exact ⟨by rw [HG.out]; rfl, HB5.out⟩
               · have HI2 : Aside0 (∃ T, EInv fr ds v row rest T (i + 1) RES) := ⟨by obtain ⟨T, hT⟩ := HI.out; exact ⟨_, hT.step hil (by rw [← HU.out]; exact HLV.out) (by rw [← HU.out]; exact hst)⟩⟩
                 rw [decide_eq_false hst]
                 clear hst
                 go_wp2_with fail
                 go_roundw
                 case rel => exact ⟨i + 1, by go_num, by omega, HI2, HX5, HB5⟩
                 case measure => simp [intOf]; omega
           · obtain rfl : i = row.length := by omega
             obtain ⟨cn, hcn⟩ : ∃ cn, cn = cntF fr fr.length (v : Int) := ⟨_, rfl⟩
             rw [← hcn] at HDV
             have HDG : Aside0 (∀ W, Below w.heap.size w W → Calls Try.prog 65 #[.agg #[.int .i64 n, .slice A es.length c], .int .i64 (v : Int)] W fun e w' => e = .returned (.int .i64 (cn : Int)) ∧ Below W.heap.size W w') := ⟨fun W hW => by
               have h1 := degree11_calls n A c es (v : Int) W (HE.out.below hW) g2
               rw [← HFR.out, ← HFL.out, ← hcn] at h1
               exact h1⟩
             have HCN := Aside0.mk hcn
             clear hcn
             by_cases hfew : row.length < cn
             · have HG : Aside0 (RES = ((v : Int), 113)) := ⟨by obtain ⟨T, hT⟩ := HI.out; exact hT.few (by rw [← HCN.out]; exact HDV.out) (by rw [← HCN.out]; exact hfew)⟩
               have t1 : decide ((row.length : Int) < (cn : Int)) = true := decide_eq_true (by omega)
               go_wp2_with fail
               refine start_ (n := 9) (S := fun w' => w'.cell? ⟨bg, 0, none⟩ = some (.int .i64 n) ∧ w'.cell? ⟨bg, 1, none⟩ = some (.slice A es.length c) ∧ w'.cell? (ad.add v) = some (.slice D row.length cD) ∧ Aside0 (w'.heap[bg]? = some (.cells #[.int .i64 n, .slice A es.length c] 24 (0, 0))) ∧ Aside0 (Below w.heap.size w w')) (ds := []) #[false, false, false, false, false, false, false, false, false] (by kernel_rfl) rfl rfl ⟨x0, x1, hx, ⟨HX.out⟩, ⟨HB.out.drew⟩⟩ (fun hHeld => ?_)
               refine pure_ (i := 0) (N := some 57) (v := ?_) (a' := ?_) #[true, false, false, false, false, false, false, false, false] rfl rfl (by kernel_rfl) (fun _ _ _ h => h) (Or.inl ⟨by rfl, ?_⟩) ?_ ?_
               rotate_left
               · intro w'
                 go_simp
                 with_reducible rfl
               rotate_left
               · simp only [Act.put, List.setIfInBounds_toArray, List.set_cons_zero, List.set_cons_succ, i64_w, i32_w]
                 rfl
               refine pure_ (i := 1) (N := some 58) (v := ?_) (a' := ?_) #[true, true, false, false, false, false, false, false, false] rfl rfl (by kernel_rfl) (fun _ _ _ h => h) (Or.inl ⟨by rfl, ?_⟩) ?_ ?_
               rotate_left
               · intro w'
                 go_simp
                 with_reducible rfl
               rotate_left
               · simp only [Act.put, List.setIfInBounds_toArray, List.set_cons_zero, List.set_cons_succ, i64_w, i32_w]
                 rfl
               refine pure_ (i := 2) (N := some 59) (v := ?_) (a' := ?_) #[true, true, true, false, false, false, false, false, false] rfl rfl (by kernel_rfl) (fun _ _ _ h => h) (Or.inl ⟨by rfl, ?_⟩) ?_ ?_
               rotate_left
               · intro w'
                 go_simp
                 with_reducible rfl
               rotate_left
               · simp only [Act.put, List.setIfInBounds_toArray, List.set_cons_zero, List.set_cons_succ, i64_w, i32_w]
                 rfl
               refine pure_ (i := 6) (N := some 63) (v := ?_) (a' := ?_) #[true, true, true, false, false, false, true, false, false] rfl rfl (by kernel_rfl) (fun _ _ _ h => h) (Or.inl ⟨by rfl, ?_⟩) ?_ ?_
               rotate_left
               · intro w'
                 go_simp
                 with_reducible rfl
               rotate_left
               · simp only [Act.put, List.setIfInBounds_toArray, List.set_cons_zero, List.set_cons_succ, i64_w, i32_w]
                 rfl
               refine take_ (i := 3) (N := some 60) (v := ?_) (a' := ?_) #[true, true, true, true, false, false, true, false, false] rfl rfl (by kernel_rfl) (fun _ _ _ h => h) (Or.inl ⟨by rfl, ?_⟩) hHeld ?_ ?_
               rotate_left
               · rintro w' ⟨s0, s1, s2, s3, s4⟩
                 go_simp
                 with_reducible rfl
               rotate_left
               · simp only [Act.put, List.setIfInBounds_toArray, List.set_cons_zero, List.set_cons_succ, i64_w, i32_w]
                 rfl
               refine pure_ (i := 4) (N := some 61) (v := ?_) (a' := ?_) #[true, true, true, true, true, false, true, false, false] rfl rfl (by kernel_rfl) (fun _ _ _ h => h) (Or.inl ⟨by rfl, ?_⟩) ?_ ?_
               rotate_left
               · intro w'
                 go_simp
                 with_reducible rfl
               rotate_left
               · simp only [Act.put, List.setIfInBounds_toArray, List.set_cons_zero, List.set_cons_succ, i64_w, i32_w]
                 rfl
               refine take_ (i := 5) (N := some 62) (v := ?_) (a' := ?_) #[true, true, true, true, true, true, true, false, false] rfl rfl (by kernel_rfl) (fun _ _ _ h => h) (Or.inl ⟨by rfl, ?_⟩) hHeld ?_ ?_
               rotate_left
               · rintro w' ⟨s0, s1, s2, s3, s4⟩
                 go_simp
                 with_reducible rfl
               rotate_left
               · simp only [Act.put, List.setIfInBounds_toArray, List.set_cons_zero, List.set_cons_succ, i64_w, i32_w]
                 rfl
               refine one_ (i := 7) (N := some 64) #[true, true, true, true, true, true, true, true, false] rfl rfl (by kernel_rfl) (by decide) (fun K hK => ?_)
               obtain ⟨h1, h2, h3, h4, h5⟩ := hHeld
               refine goes_ Try.func65 (by kernel_rfl) rfl #[.agg #[.int .i64 n, .slice A es.length c], .int .i64 (v : Int)] (by rfl) rfl rfl (by simp only [List.map_toArray, List.map_cons, List.map_nil]; rfl) ?_
               with_reducible refine (HDG.out _ h5.out).mono ?_
               rintro e w4 ⟨rfl, hb⟩
               refine ⟨_, rfl, ?_⟩
               have HX4 := Aside0.mk ((hb.block _ (lt_of h4.out)).trans h4.out)
               have HB4 := Aside0.mk (h5.out.trans (hb.mono h5.out.size))
               have h3' := (hb.cell (cell_lt h3)).trans h3
               clear hb h1 h2 h3 h4 h5
               refine hK.out _ _ ⟨heap_cell HX4.out rfl, heap_cell HX4.out rfl, h3', HX4, HB4⟩ (fun hHeld => ?_)
               clear hK K
               refine norm_ (a' := ?_) ?_ ?_
               rotate_left
               · show Act.put _ (some 64) _ = _
                 simp only [Act.put, List.setIfInBounds_toArray, List.set_cons_zero, List.set_cons_succ, i64_w, i32_w]
                 rfl
               refine pure_ (i := 8) (N := some 65) (v := ?_) (a' := ?_) #[true, true, true, true, true, true, true, true, true] rfl rfl (by kernel_rfl) (fun _ _ _ h => h) (Or.inl ⟨by rfl, ?_⟩) ?_ ?_
               rotate_left
               · intro w'
                 go_simp
                 with_reducible rfl
               rotate_left
               · simp only [Act.put, List.setIfInBounds_toArray, List.set_cons_zero, List.set_cons_succ, i64_w, i32_w]
                 rfl
               refine done_ (by kernel_rfl) ?_
               obtain ⟨h1, h2, h3, HX4, HB4⟩ := hHeld
               clear h1 h2 h3
               go_wp2_with fail
               go_ret2
               exact ⟨by rw [HG.out]; rfl, HB4.out⟩
             · have HST2 : Aside0 (∃ S : List Bool, S.length = fr.length ∧ (∀ q : Nat, gb S q = true → ∃ u, u < v + 1 ∧ leaves fr u (q : Int) = true) ∧ rows fr ds (v + 1) (r.drop (v + 1)) S = RES) := ⟨by
                 obtain ⟨T, hT⟩ := HI.out
                 rw [← HREST.out]
                 exact ⟨T, hT.done (by rw [← HCN.out]; exact HDV.out) (by rw [← HCN.out]; exact hfew)⟩⟩
               have t1 : decide ((row.length : Int) < (cn : Int)) = false := decide_eq_false (by omega)
               go_wp2_with fail
               refine start_ (n := 9) (S := fun w' => w'.cell? ⟨bg, 0, none⟩ = some (.int .i64 n) ∧ w'.cell? ⟨bg, 1, none⟩ = some (.slice A es.length c) ∧ w'.cell? (ad.add v) = some (.slice D row.length cD) ∧ Aside0 (w'.heap[bg]? = some (.cells #[.int .i64 n, .slice A es.length c] 24 (0, 0))) ∧ Aside0 (Below w.heap.size w w')) (ds := []) #[false, false, false, false, false, false, false, false, false] (by kernel_rfl) rfl rfl ⟨x0, x1, hx, ⟨HX.out⟩, ⟨HB.out.drew⟩⟩ (fun hHeld => ?_)
               refine pure_ (i := 0) (N := some 57) (v := ?_) (a' := ?_) #[true, false, false, false, false, false, false, false, false] rfl rfl (by kernel_rfl) (fun _ _ _ h => h) (Or.inl ⟨by rfl, ?_⟩) ?_ ?_
               rotate_left
               · intro w'
                 go_simp
                 with_reducible rfl
               rotate_left
               · simp only [Act.put, List.setIfInBounds_toArray, List.set_cons_zero, List.set_cons_succ, i64_w, i32_w]
                 rfl
               refine pure_ (i := 1) (N := some 58) (v := ?_) (a' := ?_) #[true, true, false, false, false, false, false, false, false] rfl rfl (by kernel_rfl) (fun _ _ _ h => h) (Or.inl ⟨by rfl, ?_⟩) ?_ ?_
               rotate_left
               · intro w'
                 go_simp
                 with_reducible rfl
               rotate_left
               · simp only [Act.put, List.setIfInBounds_toArray, List.set_cons_zero, List.set_cons_succ, i64_w, i32_w]
                 rfl
               refine pure_ (i := 2) (N := some 59) (v := ?_) (a' := ?_) #[true, true, true, false, false, false, false, false, false] rfl rfl (by kernel_rfl) (fun _ _ _ h => h) (Or.inl ⟨by rfl, ?_⟩) ?_ ?_
               rotate_left
               · intro w'
                 go_simp
                 with_reducible rfl
               rotate_left
               · simp only [Act.put, List.setIfInBounds_toArray, List.set_cons_zero, List.set_cons_succ, i64_w, i32_w]
                 rfl
               refine pure_ (i := 6) (N := some 63) (v := ?_) (a' := ?_) #[true, true, true, false, false, false, true, false, false] rfl rfl (by kernel_rfl) (fun _ _ _ h => h) (Or.inl ⟨by rfl, ?_⟩) ?_ ?_
               rotate_left
               · intro w'
                 go_simp
                 with_reducible rfl
               rotate_left
               · simp only [Act.put, List.setIfInBounds_toArray, List.set_cons_zero, List.set_cons_succ, i64_w, i32_w]
                 rfl
               refine take_ (i := 3) (N := some 60) (v := ?_) (a' := ?_) #[true, true, true, true, false, false, true, false, false] rfl rfl (by kernel_rfl) (fun _ _ _ h => h) (Or.inl ⟨by rfl, ?_⟩) hHeld ?_ ?_
               rotate_left
               · rintro w' ⟨s0, s1, s2, s3, s4⟩
                 go_simp
                 with_reducible rfl
               rotate_left
               · simp only [Act.put, List.setIfInBounds_toArray, List.set_cons_zero, List.set_cons_succ, i64_w, i32_w]
                 rfl
               refine pure_ (i := 4) (N := some 61) (v := ?_) (a' := ?_) #[true, true, true, true, true, false, true, false, false] rfl rfl (by kernel_rfl) (fun _ _ _ h => h) (Or.inl ⟨by rfl, ?_⟩) ?_ ?_
               rotate_left
               · intro w'
                 go_simp
                 with_reducible rfl
               rotate_left
               · simp only [Act.put, List.setIfInBounds_toArray, List.set_cons_zero, List.set_cons_succ, i64_w, i32_w]
                 rfl
               refine take_ (i := 5) (N := some 62) (v := ?_) (a' := ?_) #[true, true, true, true, true, true, true, false, false] rfl rfl (by kernel_rfl) (fun _ _ _ h => h) (Or.inl ⟨by rfl, ?_⟩) hHeld ?_ ?_
               rotate_left
               · rintro w' ⟨s0, s1, s2, s3, s4⟩
                 go_simp
                 with_reducible rfl
               rotate_left
               · simp only [Act.put, List.setIfInBounds_toArray, List.set_cons_zero, List.set_cons_succ, i64_w, i32_w]
                 rfl
               refine one_ (i := 7) (N := some 64) #[true, true, true, true, true, true, true, true, false] rfl rfl (by kernel_rfl) (by decide) (fun K hK => ?_)
               obtain ⟨h1, h2, h3, h4, h5⟩ := hHeld
               refine goes_ Try.func65 (by kernel_rfl) rfl #[.agg #[.int .i64 n, .slice A es.length c], .int .i64 (v : Int)] (by rfl) rfl rfl (by simp only [List.map_toArray, List.map_cons, List.map_nil]; rfl) ?_
               with_reducible refine (HDG.out _ h5.out).mono ?_
               rintro e w4 ⟨rfl, hb⟩
               refine ⟨_, rfl, ?_⟩
               have HX4 := Aside0.mk ((hb.block _ (lt_of h4.out)).trans h4.out)
               have HB4 := Aside0.mk (h5.out.trans (hb.mono h5.out.size))
               have h3' := (hb.cell (cell_lt h3)).trans h3
               clear hb h1 h2 h3 h4 h5
               refine hK.out _ _ ⟨heap_cell HX4.out rfl, heap_cell HX4.out rfl, h3', HX4, HB4⟩ (fun hHeld => ?_)
               clear hK K
               refine norm_ (a' := ?_) ?_ ?_
               rotate_left
               · show Act.put _ (some 64) _ = _
                 simp only [Act.put, List.setIfInBounds_toArray, List.set_cons_zero, List.set_cons_succ, i64_w, i32_w]
                 rfl
               refine pure_ (i := 8) (N := some 65) (v := ?_) (a' := ?_) #[true, true, true, true, true, true, true, true, true] rfl rfl (by kernel_rfl) (fun _ _ _ h => h) (Or.inl ⟨by rfl, ?_⟩) ?_ ?_
               rotate_left
               · intro w'
                 go_simp
                 with_reducible rfl
               rotate_left
               · simp only [Act.put, List.setIfInBounds_toArray, List.set_cons_zero, List.set_cons_succ, i64_w, i32_w]
                 rfl
               refine done_ (by kernel_rfl) ?_
               obtain ⟨h1, h2, h3, HX4, HB4⟩ := hHeld
               clear h1 h2 h3
               go_wp2_with fail
               go_roundw
               case rel => exact ⟨v + 1, by go_num, by omega, HST2, HX4, HB4⟩
               case measure => simp [intOf]; omega
       · obtain rfl : v = r.length := by omega
         have HG : Aside0 (RES = (0, 0)) := ⟨by
           obtain ⟨S, _, _, h3⟩ := HST.out
           rw [List.drop_length] at h3
           exact h3.symm⟩
         have x0 : wr.cell? ⟨bg, 0, none⟩ = some (.int .i64 n) := heap_cell HX.out rfl
         have t1 : decide ((r.length : Int) < n) = false := decide_eq_false (by omega)
         clear hln
         go_wp2_with fail
         go_ret2
         exact ⟨by rw [HG.out]; rfl, HB.out⟩
   · have t0 : ((r.length : Int) != n) = true := bne_iff_ne.2 hlen
     have HG : Aside0 (RES = (0, 110)) := ⟨by rw [HRES.out]; unfold checkR; rw [if_pos hgd, if_neg hlen]⟩
     clear hgd hlen
     go_wp2_with fail
     go_ret2
     exact ⟨by rw [HG.out]; rfl, HB2.out⟩
end Go.Proofs.Ytmikcfddipldnaa.Graph
namespace Go.Proofs.Ytmikcfddipldnaa.Face
open Go.RowKit Go.Proofs.YtmikcfddipldnaaW.PrintWords Go.Proofs.YtmikcfddipldnaaW.PrintLast Go.Proofs.YtmikcfddipldnaaW.PrintMore Go.Proofs.Ytmikcfddipldnaa.Mem
set_option linter.unusedVariables false
set_option linter.unusedSimpArgs false
def goFace (st : List Int) : Nat → List Bool → List Int → Int → List Bool × List Int
 | 0, S, f, k => (S, f)
 | n + 1, S, f, k => if gb S k.toNat = true then (S, f) else goFace st n (S.set k.toNat true) (f ++ [k]) (gi st k.toNat)
def facesTo (st : List Int) (M : Nat) : Nat → List Bool × List (List Int)
 | 0 => (List.replicate M false, [])
 | h + 1 => if gb (facesTo st M h).1 h = true then facesTo st M h else ((goFace st M (facesTo st M h).1 [] (h : Int)).1, (facesTo st M h).2 ++ [(goFace st M (facesTo st M h).1 [] (h : Int)).2])
def facesL (st : List Int) : List (List Int) := (facesTo st st.length st.length).2
def left (S : List Bool) : Nat := S.countP fun b => !b
theorem left_le (S : List Bool) : left S ≤ S.length := List.countP_le_length
theorem left_set : ∀ (S : List Bool) (i : Nat), i < S.length → gb S i = false → left (S.set i true) + 1 = left S
 | [], i, h, _ => absurd h (by simp)
 | b :: S, 0, _, h => by
   have : b = false := h
   subst this
   simp [left]
 | b :: S, i + 1, h, e => by
   have ih := left_set S i (by simpa using h) e
   unfold left at ih ⊢
   rw [List.set_cons_succ, List.countP_cons, List.countP_cons]
   omega
theorem left_zero {S : List Bool} (h : left S = 0) {i : Nat} (hi : i < S.length) : gb S i = true := by
 cases e : gb S i with
 | true => rfl
 | false => have := left_set S i hi e; omega
structure Fits (st : List Int) : Prop where
 len : st.length ≤ 8388608
 inn : ∀ i, i < st.length → 0 ≤ gi st i ∧ gi st i < (st.length : Int)
def fitsB (st : List Int) : Bool := decide (st.length ≤ 8388608) && st.all fun x => decide (0 ≤ x ∧ x < (st.length : Int))
theorem fits_iff {st : List Int} : fitsB st = true ↔ Fits st := by
 unfold fitsB
 simp only [Bool.and_eq_true, decide_eq_true_eq, List.all_eq_true]
 constructor
 · rintro ⟨h1, h2⟩
   exact ⟨h1, fun i hi => h2 _ (List.mem_of_getElem? (gi_of hi))⟩
 · intro h
   refine ⟨h.len, fun x hx => ?_⟩
   obtain ⟨i, hi, rfl⟩ := List.getElem_of_mem hx
   have := h.inn i hi
   have e : gi st i = st[i] := by unfold gi; rw [List.getD_eq_getElem?_getD, List.getElem?_eq_getElem hi]; rfl
   rw [e] at this
   exact this
theorem goFace_len {st : List Int} : ∀ (n : Nat) (S : List Bool) (f : List Int) (k : Int), (goFace st n S f k).1.length = S.length
 | 0, _, _, _ => rfl
 | n + 1, S, f, k => by
   unfold goFace
   split
   · rfl
   · rw [goFace_len n]; simp
theorem facesTo_len (st : List Int) (M : Nat) : ∀ h, (facesTo st M h).1.length = M ∧ (facesTo st M h).2.length ≤ h
 | 0 => by simp [facesTo]
 | h + 1 => by
   obtain ⟨h1, h2⟩ := facesTo_len st M h
   unfold facesTo
   split
   · exact ⟨h1, by omega⟩
   · refine ⟨by simp only; rw [goFace_len]; exact h1, by simp; omega⟩
end Go.Proofs.Ytmikcfddipldnaa.Face
namespace Go.Proofs.Ytmikcfddipldnaa.Face
open Go.RowKit Go.Proofs.YtmikcfddipldnaaW.PrintWords Go.Proofs.YtmikcfddipldnaaW.PrintLast Go.Proofs.YtmikcfddipldnaaW.PrintMore Go.Proofs.Ytmikcfddipldnaa.Mem
set_option linter.unusedVariables false
set_option linter.unusedSimpArgs false
def ListsPost (fs : List (List Int)) (e0 : Int) (w : World) (e : Ending) (w' : World) : Prop := ∃ v0_ : Value, e = .returned (.tuple #[v0_, .int .i64 e0]) ∧ Kd.S (Kd.slice 3 (Kd.int .i64)) 36 w' w.heap.size (fun _ => True) v0_ fs ∧ Below w.heap.size w w'
def StepSays (st : List Int) (e0 n : Int) (A : Option Addr) (m c : Nat) (Ar : Option Addr) (mr cr : Nat) (w : World) : Prop := ∀ W : World, Below w.heap.size w W →
 Calls Try.prog 31 #[.agg #[.int .i64 n, .slice A m c], .slice Ar mr cr] W fun e w' => ∃ v, e = .returned (.tuple #[v, .int .i64 e0]) ∧ Kd.R (Kd.int .i64) 3 w' W.heap.size (fun _ => True) v st ∧ Below W.heap.size W w'
def lenOf : Value → Nat
 | .slice _ n _ => n
 | _ => 0
abbrev KL : Kd (List Int) := Kd.slice 3 (Kd.int .i64)
set_option maxHeartbeats 1000000 in
set_option maxRecDepth 100000 in
theorem of_bad (n : Int) (A : Option Addr) (m c0 : Nat) (Ar : Option Addr) (mr cr : Nat) (e0 : Int) (he : e0 ≠ 0) (st : List Int) (w : World) (hst : StepSays st e0 n A m c0 Ar mr cr w) :
   Calls Try.prog 13 #[.agg #[.int .i64 n, .slice A m c0], .slice Ar mr cr] w fun e w' => ListsPost [] e0 w e w' := by
 have HST := Aside0.mk hst
 clear hst
 have HB := Aside0.mk ((Below.refl w.heap.size w).alloc (Nat.le_refl _) (.cells #[.int .i64 n, .slice A m c0] 24 (0, 0)))
 have HX := Aside0.mk (heap_last w (.cells #[.int .i64 n, .slice A m c0] 24 (0, 0)))
 have x0 : (w.alloc (.cells #[.int .i64 n, .slice A m c0] 24 (0, 0))).cell? ⟨w.heap.size, 0, none⟩ = some (.int .i64 n) := heap_cell HX.out rfl
 have x1 : (w.alloc (.cells #[.int .i64 n, .slice A m c0] 24 (0, 0))).cell? ⟨w.heap.size, 1, none⟩ = some (.slice A m c0) := heap_cell HX.out rfl
 have t1 : (e0 != 0) = true := bne_iff_ne.2 he
 go_enter Try.func13, Try.ntmps13
 go_wp2_with fail
 clear x0 x1
 generalize w.alloc (.cells #[.int .i64 n, .slice A m c0] 24 (0, 0)) = w1 at HX HB ⊢
 obtain ⟨bg, hbg⟩ : ∃ bg, bg = w.heap.size := ⟨_, rfl⟩
 rw [← hbg] at HX ⊢
 clear hbg
 refine (HST.out w1 HB.out).mono ?_
 rintro e' w2 ⟨v, rfl, hR, hb⟩
 obtain ⟨AS, cS, rfl, hcS, hS⟩ := Kd.R_reads hR
 have HB2 := Aside0.mk (HB.out.trans (hb.mono HB.out.size))
 have HS2 := Aside0.mk hS
 clear hb HX HB hR hS HST
 go_wp2_with fail
 go_ret2
 exact ⟨_, rfl, Kd.S_nil _ _ _ _ _, HB2.out⟩
set_option maxHeartbeats 4000000 in
set_option maxRecDepth 100000 in
theorem of_ok (n : Int) (A : Option Addr) (m c0 : Nat) (Ar : Option Addr) (mr cr : Nat) (st : List Int) (w : World) (hf : Fits st) (hst : StepSays st 0 n A m c0 Ar mr cr w) :
   Calls Try.prog 13 #[.agg #[.int .i64 n, .slice A m c0], .slice Ar mr cr] w fun e w' => ListsPost (facesL st) 0 w e w' := by
 have HST := Aside0.mk hst
 have HF := Aside0.mk hf
 have hMb := hf.len
 obtain ⟨M, hM⟩ : ∃ M, M = st.length := ⟨_, rfl⟩
 rw [← hM] at hMb
 have HM := Aside0.mk hM
 clear hst hf hM
 have HB := Aside0.mk ((Below.refl w.heap.size w).alloc (Nat.le_refl _) (.cells #[.int .i64 n, .slice A m c0] 24 (0, 0)))
 have HX := Aside0.mk (heap_last w (.cells #[.int .i64 n, .slice A m c0] 24 (0, 0)))
 have x0 : (w.alloc (.cells #[.int .i64 n, .slice A m c0] 24 (0, 0))).cell? ⟨w.heap.size, 0, none⟩ = some (.int .i64 n) := heap_cell HX.out rfl
 have x1 : (w.alloc (.cells #[.int .i64 n, .slice A m c0] 24 (0, 0))).cell? ⟨w.heap.size, 1, none⟩ = some (.slice A m c0) := heap_cell HX.out rfl
 go_enter Try.func13, Try.ntmps13
 go_wp2_with fail
 clear x0 x1
 generalize w.alloc (.cells #[.int .i64 n, .slice A m c0] 24 (0, 0)) = w1 at HX HB ⊢
 obtain ⟨bg, hbg⟩ : ∃ bg, bg = w.heap.size := ⟨_, rfl⟩
 rw [← hbg] at HX ⊢
 clear hbg
 refine (HST.out w1 HB.out).mono ?_
 rintro e' w2 ⟨v, rfl, hR, hb⟩
 obtain ⟨AS, cS, rfl, hcS, hS⟩ := Kd.R_reads hR
 have HB2 := Aside0.mk (HB.out.trans (hb.mono HB.out.size))
 have HS2 := Aside0.mk hS
 clear hb HX HB hR hS HST
 have mk := print_make_of (P := Try.prog) 60 4 (.bool false) 1 Try.underlying60 info_bool rfl (by decide) M (by omega)
 rw [made_bool] at mk
 rw [← HM.out]
 go_upto_region 5 with (fail)
 have HT : Aside0 (BRow (w2.alloc (.cells (Array.replicate M (Value.bool false)) 4 (0, 0))) w2.heap.size (facesTo st M 0).1) := ⟨BRow.start w2 M⟩
 have HBB := Aside0.mk ((Below.refl w2.heap.size w2).alloc (Nat.le_refl _) (.cells (Array.replicate M (Value.bool false)) 4 (0, 0)))
 obtain ⟨bn, hbn⟩ : ∃ bn, bn = w2.heap.size := ⟨_, rfl⟩
 rw [← hbn] at HT ⊢
 have HLO : Aside0 (w2.heap.size ≤ bn) := ⟨by omega⟩
 clear mk hbn
 generalize w2.alloc (.cells (Array.replicate M (Value.bool false)) 4 (0, 0)) = w3 at HT HBB ⊢
 have HO : Aside0 (Kd.S KL 36 w3 w2.heap.size (fun _ => True) (.slice none 0 0) (facesTo st M 0).2) := ⟨Kd.S_nil _ _ _ _ _⟩
 go_wp2_with fail
 go_loopw [9, 10] (fun v y wr => ∃ (h : Nat), y = .int .i64 (h : Int) ∧ h ≤ M ∧ Aside0 (BRow wr bn (facesTo st M h).1) ∧ Aside0 (Kd.S KL 36 wr w2.heap.size (fun _ => True) v (facesTo st M h).2) ∧ Aside0 (Below w2.heap.size w2 wr)) (fun _ y _ => M - (intOf y).toNat)
 case atStart => exact ⟨0, rfl, by omega, HT, HO, HBB⟩
 case round =>
   clear HT HO HBB
   obtain ⟨h, rfl, hh, HT, HO, HBB⟩ := hrel
   obtain ⟨S, hS⟩ : ∃ S, S = (facesTo st M h).1 := ⟨_, rfl⟩
   obtain ⟨out, hout⟩ : ∃ out, out = (facesTo st M h).2 := ⟨_, rfl⟩
   rw [← hS] at HT
   rw [← hout] at HO
   have HFT : Aside0 (S = (facesTo st M h).1 ∧ out = (facesTo st M h).2) := ⟨hS, hout⟩
   have hlen := facesTo_len st M h
   rw [← hS, ← hout] at hlen
   obtain ⟨hSl, hol⟩ := hlen
   clear hS hout
   by_cases hlt : h < M
   · have c1 := HT.out.cell (i := h) (by omega)
     obtain ⟨b, hb⟩ : ∃ b, b = gb S h := ⟨_, rfl⟩
     rw [← hb] at c1
     have HBH := Aside0.mk hb
     clear hb
     cases b with
     | true =>
       have HN : Aside0 (facesTo st M (h + 1) = facesTo st M h) := ⟨by
         conv => lhs; unfold facesTo
         rw [← HFT.out.1, if_pos HBH.out.symm]⟩
       go_wp2_with fail
       go_roundw
       case rel => exact ⟨h + 1, by go_num, by omega, ⟨by rw [HN.out, ← HFT.out.1]; exact HT.out⟩, ⟨by rw [HN.out, ← HFT.out.2]; exact HO.out⟩, HBB⟩
       case measure => simp [intOf]; omega
     | false =>
       have HN : Aside0 (facesTo st M (h + 1) = ((goFace st M S [] (h : Int)).1, out ++ [(goFace st M S [] (h : Int)).2])) := ⟨by
         conv => lhs; unfold facesTo
         rw [← HFT.out.1, ← HFT.out.2, if_neg (by rw [← HBH.out]; simp)]⟩
       have HF0 : Aside0 (Kd.R (Kd.int .i64) 3 wr w2.heap.size (fun _ => True) (.slice none 0 0) []) := ⟨Kd.R_nil _ _ _ _ _⟩
       have HO0 := Aside0.mk (Kd.S_mono HO.out (ok' := fun k => some k ≠ (Value.slice none 0 0).ownBlock) (fun k _ => by simp [Value.ownBlock]))
       have HL0 : Aside0 (left S ≤ M) := ⟨by have := left_le S; omega⟩
       obtain ⟨RES, hres⟩ : ∃ RES, RES = goFace st M S [] (h : Int) := ⟨_, rfl⟩
       rw [← hres] at HN
       have HRES := Aside0.mk hres.symm
       have HS0 : Aside0 (S.length = M) := ⟨hSl⟩
       clear hres HO
       go_wp2_with fail
       clear c1
       have hhM : h < M := hlt
       go_loopw [11, 12] (fun V y wr => ∃ (k : Nat) (T : List Bool) (fc : List Int) (n : Nat) (Af : Option Addr) (cf : Nat), V = .slice Af fc.length cf ∧ y = .int .i64 (k : Int) ∧ k < M ∧ Aside0 (goFace st n T fc (k : Int) = RES) ∧ left T ≤ n ∧ Aside0 (T.length = M) ∧ fc.length + n ≤ M ∧ Aside0 (BRow wr bn T) ∧ Aside0 (Kd.R (Kd.int .i64) 3 wr w2.heap.size (fun _ => True) (.slice Af fc.length cf) fc) ∧ Aside0 (Kd.S KL 36 wr w2.heap.size (fun k => some k ≠ (Value.slice Af fc.length cf).ownBlock) u9 out) ∧ Aside0 (Below w2.heap.size w2 wr)) (fun V _ _ => M - lenOf V)
       case atStart => exact ⟨h, S, [], M, none, 0, rfl, rfl, hlt, HRES, HL0.out, HS0, by simp, HT, HF0, HO0, HBB⟩
       case round =>
         clear HT HF0 HO0 HBB HL0 HS0 HRES hSl
         obtain ⟨k, T, fc, nn, Af, cf, rfl, rfl, hk, HRES, hn, HTL, hfn, HT, HFC, HO, HBB⟩ := hrel
         have d1 := HT.out.cell (i := k) (by rw [HTL.out]; exact hk)
         obtain ⟨b, hb⟩ : ∃ b, b = gb T k := ⟨_, rfl⟩
         rw [← hb] at d1
         have HBK := Aside0.mk hb
         clear hb
         cases b with
         | false =>
           obtain ⟨nn, rfl⟩ : ∃ q, nn = q + 1 := by
             rcases nn with _ | q
             · have h1 := left_zero (S := T) (by omega) (i := k) (by rw [HTL.out]; exact hk)
               rw [← HBK.out] at h1
               cases h1
             · exact ⟨q, rfl⟩
           have f1 := HT.out.free k
           have hls := left_set T k (by rw [HTL.out]; exact hk) HBK.out.symm
           have hre := HRES.out
           unfold goFace at hre
           rw [if_neg (by rw [Int.toNat_natCast, ← HBK.out]; simp), Int.toNat_natCast] at hre
           obtain ⟨adS, eS, z0⟩ := Kd.at_int HS2.out (k : Int) (by omega) (by have := HM.out; omega)
           subst eS
           rw [gi_rd, Int.toNat_natCast] at z0
           have hin := HF.out.inn k (by rw [← HM.out]; exact hk)
           obtain ⟨k2, hk2⟩ : ∃ k2 : Nat, gi st k = (k2 : Int) := ⟨(gi st k).toNat, by omega⟩
           rw [hk2] at z0 hre hin
           have hk2M : k2 < M := by have := HM.out; omega
           have HRE := Aside0.mk hre
           have HT2 := Aside0.mk (HT.out.put k true)
           have HB2' := Aside0.mk (HBB.out.setCell (p := ⟨bn, k, none⟩) HLO.out (.bool true))
           have HF2 := Aside0.mk (Kd.R_set HFC.out HT.out (by decide) k (.bool true))
           have HO2 := Aside0.mk (Kd.S_set HO.out HT.out (by decide) k (.bool true))
           have HLS : Aside0 (left (T.set k true) ≤ nn) := ⟨by omega⟩
           have hkS : k < st.length := by rw [← HM.out]; exact hk
           clear hre hls hin hk2 HT HBB HFC HO HRES hn
           go_upto_region 14 with (fail)
           clear d1 f1
           have z2 : (wr.setCell ⟨bn, k, none⟩ (.bool true)).heap.size = wr.heap.size := by simp [World.setCell]
           generalize wr.setCell ⟨bn, k, none⟩ (.bool true) = w3 at HT2 HB2' HF2 HO2 ⊢
           clear z2
           go_wp2_with ((with_reducible refine gate_builtin (b := .append) (xs := #[.tmp 44, .tmp 46]) rfl ?_); at_builtin; refine Kd.R_append (Kd.int .i64) (w0 := w2) w2.heap.size rfl (.tmp 44) (.tmp 46) 36 3 (.int .i64 0) 8 rfl Try.underlying36 info_int rfl (by decide) (by omega) (.slice Af fc.length cf) fc (k : Int) [.int .i64 (k : Int)] (fun _ => True) (fun _ => False) rfl rfl rfl (fun _ hk => hk.elim) (fun _ _ => trivial) HF2.out HB2'.out HB2'.out.size (by omega) ?_)
           intro v1 w4 hr hb hg hat
           have HO4 := Aside0.mk (Kd.S_mono (Kd.S_after (ok := fun _ => True) (Kd.S_mono HO2.out (fun k hk => ⟨trivial, hk⟩)) hg hat) (fun k hk => hk.2))
           have HT4 : Aside0 (BRow w4 bn (T.set k true)) := ⟨(hg.block bn (lt_of HT2.out) (Kd.R_ne HF2.out HT2.out (by decide))).trans HT2.out⟩
           have HB4 := Aside0.mk hb
           have z1 := (hb.cell (cell_lt z0)).trans z0
           obtain ⟨A', c', rfl⟩ := Kd.R_slice hr
           have HF4 := Aside0.mk hr
           clear hr hb hg hat HO2 HT2 HB2' HF2 z0
           go_wp2_with fail
           clear z1
           go_roundw
           case rel => exact ⟨k2, T.set k true, fc ++ [(k : Int)], nn, A', c', rfl, rfl, hk2M, HRE, HLS.out, ⟨by rw [List.length_set]; exact HTL.out⟩, by simp; omega, HT4, HF4, HO4, HB4⟩
           case measure => simp [lenOf]; omega
         | true =>
           have HRE : Aside0 (RES = (T, fc)) := ⟨by
             rw [← HRES.out]
             cases nn with
             | zero => rfl
             | succ nn => unfold goFace; rw [if_pos (by rw [Int.toNat_natCast]; exact HBK.out.symm)]⟩
           have HFP := Aside0.mk (Kd.M_row (Kd.R_tight rfl HFC.out))
           have HOK : Aside0 (∀ q, some q = (Value.slice Af fc.length cf).ownBlock → True ∧ some q ≠ u9.ownBlock) := ⟨fun q hq => ⟨trivial, fun e => (Kd.S_R HO.out).1 q e.symm hq⟩⟩
           clear HRES HTL hn
           go_wp2_with ((with_reducible refine gate_builtin (b := .append) (xs := #[.tmp 52, .tmp 54]) rfl ?_); at_builtin; refine Kd.S_append KL (w0 := w2) w2.heap.size rfl (.tmp 52) (.tmp 54) 25 36 (.slice none 0 0) 24 rfl Try.underlying25 info_ints rfl (by decide) (by omega) u9 out fc [.slice Af fc.length cf] (fun _ => True) (fun k => some k = (Value.slice Af fc.length cf).ownBlock) rfl rfl HFP.out HOK.out (fun _ _ => trivial) (Kd.S_mono HO.out (fun k hk => ⟨trivial, hk⟩)) HBB.out HBB.out.size (by omega) ?_)
           intro v1 w4 hr hb hg hat
           have HT4 : Aside0 (BRow w4 bn T) := ⟨(hg.block bn (lt_of HT.out) (Kd.S_ne HO.out HT.out (by decide))).trans HT.out⟩
           have HB4 := Aside0.mk hb
           have HO4 := Aside0.mk hr
           clear hr hb hg hat HT HO HFC HFP HOK HBB d1
           go_wp2_with fail
           go_roundw
           case rel => exact ⟨h + 1, by go_num, by omega, ⟨by rw [HN.out, HRE.out]; exact HT4.out⟩, ⟨by rw [HN.out, HRE.out]; exact HO4.out⟩, HB4⟩
           case measure => simp [intOf]; omega
   · obtain rfl : h = M := by omega
     have HFL : Aside0 (facesL st = out) := ⟨by unfold facesL; rw [← HM.out, ← HFT.out.2]⟩
     have HBF := Aside0.mk (HB2.out.trans (HBB.out.mono HB2.out.size))
     go_wp2_with fail
     go_ret2
     exact ⟨_, rfl, by rw [HFL.out]; exact Kd.S_lower HO.out HB2.out.size, HBF.out⟩
end Go.Proofs.Ytmikcfddipldnaa.Face
namespace Go.Proofs.Ytmikcfddipldnaa.Mem
open Go.Maps
open Go.ChangeMaps (setBlock heap_setBlock_same heap_setBlock_other)
open Go.RowKit Go.Proofs.YtmikcfddipldnaaW.PrintWords Go.Proofs.YtmikcfddipldnaaW.PrintLast Go.Proofs.YtmikcfddipldnaaW.PrintMore Go.WideMaps Go.MapKept
set_option linter.unusedVariables false
set_option linter.unusedSimpArgs false
def MapAt (P : Program) (k : TypeId) (w : World) (b s : Nat) (f : Value → Option Value) : Prop :=
 ∃ es clock, w.heap[b]? = some (.map es clock) ∧ Stamped es clock ∧ es.size ≤ s ∧ (∀ x ∈ es.toList, ∃ l, keyOf P k x.key = some l) ∧ (∀ x ∈ es.toList, f x.key = some x.val) ∧ ∀ kv v, f kv = some v → ∃ x ∈ es.toList, x.key = kv
section
variable {P : Program} {k : TypeId} {w : World} {b s : Nat} {f : Value → Option Value}
theorem MapAt.new (P : Program) (k : TypeId) (w : World) (c : Nat) : MapAt P k (w.alloc (.map #[] c)) w.heap.size 0 (fun _ => none) :=
 ⟨#[], c, heap_last w _, ⟨by simp, by simp, by simp⟩, Nat.le_refl _, by simp, by simp, by simp⟩
theorem MapAt.lt (h : MapAt P k w b s f) : b < w.heap.size := by
 obtain ⟨es, c, h1, _⟩ := h
 exact lt_of h1
theorem MapAt.move {w' : World} (h : MapAt P k w b s f) (hb : w'.heap[b]? = w.heap[b]?) : MapAt P k w' b s f := by
 obtain ⟨es, c, h1, h2⟩ := h
 exact ⟨es, c, hb.trans h1, h2⟩
theorem MapAt.below {w' : World} (h : MapAt P k w b s f) (hb : Below w.heap.size w w') : MapAt P k w' b s f := h.move (hb.block b h.lt)
theorem MapAt.frame {S : Nat → Prop} {w' : World} (h : MapAt P k w b s f) (hb : Frame S w w') (hs : ¬ S b) : MapAt P k w' b s f := h.move (hb.block b h.lt hs)
theorem MapAt.mono {s' : Nat} (h : MapAt P k w b s f) (hs : s ≤ s') : MapAt P k w b s' f := by
 obtain ⟨es, c, h1, h2, h3, h4⟩ := h
 exact ⟨es, c, h1, h2, Nat.le_trans h3 hs, h4⟩
theorem setBlock_frame {o : Obj} (hb : b < w.heap.size) : Frame (fun i => i = b) w (setBlock w b o) := by
 refine ⟨rfl, rfl, rfl, by simp [setBlock], fun i hi hne => ?_⟩
 unfold setBlock
 simp only
 rw [Array.getElem?_setIfInBounds, if_neg (fun e => hne e.symm)]
theorem MapAt.put {t e : TypeId} (K : Keyed P k) (ht : P.underlying t = some (.map k e)) (h : MapAt P k w b s f) (hs : s < maxLen) {key val : Value} {kl : Lit} (hkey : keyOf P k key = some kl) {f' : Value → Option Value} (hf1 : f' key = some val) (hf2 : ∀ q, q ≠ key → f' q = f q) :
   ∃ w', (Instr.mapUpdate t (.map (some b)) key val).run P w = .ok () w' ∧ MapAt P k w' b (s + 1) f' ∧ Frame (fun i => i = b) w w' := by
 obtain ⟨es, clock, hb, hst, hsz, hks, hin, hof⟩ := h
 rcases K.find w hkey es.toList hks with ⟨h1, h2⟩ | ⟨j, e0, h1, h2, h3⟩
 · refine ⟨setBlock w b (.map (es.push ⟨key, val, clock⟩) (clock + 1)), ?_, ⟨es.push ⟨key, val, clock⟩, clock + 1, heap_setBlock_same hb _, stamped_push hst h2, by simp; omega, ?_, ?_, ?_⟩, setBlock_frame (lt_of hb)⟩
   · simp [Instr.mapUpdate, run_underlying ht, MapKept.run_getObj_map hb, K.check w false hkey, h1, MapKept.run_setObj_map _ hb, Result.andThen, setBlock]
   · intro x hx
     simp only [Array.toList_push, List.mem_append, List.mem_singleton] at hx
     rcases hx with hx | rfl
     · exact hks x hx
     · exact ⟨kl, hkey⟩
   · intro x hx
     simp only [Array.toList_push, List.mem_append, List.mem_singleton] at hx
     rcases hx with hx | rfl
     · rw [hf2 _ (h2 x hx)]; exact hin x hx
     · exact hf1
   · intro q v hq
     simp only [Array.toList_push, List.mem_append, List.mem_singleton]
     rcases Classical.em (q = key) with c | c
     · exact ⟨_, .inr rfl, c.symm⟩
     · rw [hf2 _ c] at hq
       obtain ⟨x, hx, e⟩ := hof q v hq
       exact ⟨x, .inl hx, e⟩
 · have hj : es[j]? = some e0 := by simpa using h2
   have hjl : j < es.toList.length := (List.getElem?_eq_some_iff.1 h2).1
   have hkeyf : ∀ e', es[j]? = some e' → ({ e' with key := key, val := val } : MapEntry).key = e'.key := fun e' he' => by rw [hj] at he'; cases he'; exact h3.symm
   have hl : (es.modify j (fun e' => { e' with key := key, val := val })).toList = es.toList.set j { e0 with key := key, val := val } := by
     rw [Array.toList_modify, Go.ChangeMaps.modify_eq_set _ _ _ _ h2]
   have hnd : es.toList.Pairwise (fun x y => x.key ≠ y.key) := by
     have := hst.2.2
     rw [List.Nodup, List.pairwise_map] at this
     exact this
   refine ⟨setBlock w b (.map (es.modify j (fun e' => { e' with key := key, val := val })) clock), ?_, ⟨_, clock, heap_setBlock_same hb _, stamped_modify hst _ _ (fun _ _ => rfl) (fun e' _ he' => hkeyf e' he'), by simp; omega, ?_, ?_, ?_⟩, setBlock_frame (lt_of hb)⟩
   · simp [Instr.mapUpdate, run_underlying ht, MapKept.run_getObj_map hb, K.check w false hkey, h1, hj, h3, K.stays w hkey, MapKept.run_setObj_map _ hb, Result.andThen, setBlock]
   · intro x hx
     rw [hl] at hx
     rcases List.mem_or_eq_of_mem_set hx with hx | rfl
     · exact hks x hx
     · exact ⟨kl, hkey⟩
   · intro x hx
     rw [hl] at hx
     obtain ⟨i, hi, e⟩ := List.getElem_of_mem hx
     rw [List.length_set] at hi
     rw [List.getElem_set] at e
     by_cases c : j = i
     · rw [if_pos c] at e
       rw [← e]
       exact hf1
     · rw [if_neg c] at e
       rw [hf2]
       · exact hin x (by rw [← e]; exact List.getElem_mem hi)
       · intro q
         have e0j : es.toList[j] = e0 := (List.getElem?_eq_some_iff.1 h2).2
         rcases Nat.lt_or_gt_of_ne c with g | g
         · exact List.pairwise_iff_getElem.1 hnd j i hjl hi g (by rw [e0j, e, h3, q])
         · exact List.pairwise_iff_getElem.1 hnd i j hi hjl g (by rw [e0j, e, h3, q])
   · intro q v hq
     rw [hl]
     rcases Classical.em (q = key) with c | c
     · exact ⟨{ e0 with key := key, val := val }, List.mem_iff_getElem.2 ⟨j, by rw [List.length_set]; exact hjl, by simp⟩, c.symm⟩
     · rw [hf2 _ c] at hq
       obtain ⟨x, hx, e⟩ := hof q v hq
       obtain ⟨i, hi, ex⟩ := List.getElem_of_mem hx
       have hij : j ≠ i := by
         rintro rfl
         have e0j : es.toList[j] = e0 := (List.getElem?_eq_some_iff.1 h2).2
         rw [e0j] at ex
         exact c (by rw [← e, ← ex, h3])
       exact ⟨x, List.mem_iff_getElem.2 ⟨i, by rw [List.length_set]; exact hi, by rw [List.getElem_set, if_neg hij]; exact ex⟩, e⟩
theorem MapAt.get {t e : TypeId} (K : Keyed P k) (ht : P.underlying t = some (.map k e)) (h : MapAt P k w b s f) {z : Value} (hz : (zeroValue e).run P w = .ok z w) {key : Value} {kl : Lit} (hkey : keyOf P k key = some kl) :
   (Instr.lookup t (.map (some b)) key false).run P w = .ok ((f key).getD z) w := by
 obtain ⟨es, clock, hb, hst, hsz, hks, hin, hof⟩ := h
 rcases K.find w hkey es.toList hks with ⟨h1, h2⟩ | ⟨j, e0, h1, h2, h3⟩
 · have hn : f key = none := by
     cases e : f key with
     | none => rfl
     | some v =>
       obtain ⟨x, hx, q⟩ := hof key v e
       exact absurd q (h2 x hx)
   rw [hn]
   simp [Instr.lookup, run_underlying ht, MapKept.run_getObj_map hb, K.check w _ hkey, h1, hz, Result.andThen]
 · have hv := hin e0 (List.mem_of_getElem? h2)
   rw [h3] at hv
   rw [hv]
   simp [Instr.lookup, run_underlying ht, MapKept.run_getObj_map hb, K.check w _ hkey, h1, Result.andThen]
end
end Go.Proofs.Ytmikcfddipldnaa.Mem
namespace Go.Proofs.Ytmikcfddipldnaa.Cnt
open Go.Maps Go.MapKept
open Go.RowKit Go.Proofs.YtmikcfddipldnaaW.PrintWords Go.Proofs.YtmikcfddipldnaaW.PrintLast Go.Proofs.Ytmikcfddipldnaa.Mem
set_option linter.unusedVariables false
set_option linter.unusedSimpArgs false
def InI (x : Int) : Prop := -9223372036854775808 ≤ x ∧ x ≤ 9223372036854775807
theorem lawInt : Keyed Try.prog 3 := int_keyed Try.underlying3
theorem key_int {x : Int} (h : InI x) : ∃ l, keyOf Try.prog 3 (.int .i64 x) = some l := ⟨_, keyOf_int_mk Try.underlying3 (by
 obtain ⟨a, b⟩ := h
 have e1 : IntKind.i64.min = -9223372036854775808 := by decide
 have e2 : IntKind.i64.max = 9223372036854775807 := by decide
 simp [Lit.wf, e1, e2, a, b])⟩
def tv (a b c : Int) : Value := .agg #[.int .i64 a, .int .i64 b, .int .i64 c]
def MapT (w : World) (b s : Nat) (S : List Int) (A B C : Int → Int) : Prop :=
 ∃ f, MapAt Try.prog 3 w b s f ∧ (∀ k, f (.int .i64 k) = if k ∈ S then some (tv (A k) (B k) (C k)) else none) ∧ (∀ v x, f v = some x → ∃ k, v = .int .i64 k) ∧ ∀ k, k ∉ S → A k = 0 ∧ B k = 0 ∧ C k = 0
theorem MapT.new (w : World) (c : Nat) : MapT (w.alloc (.map #[] c)) w.heap.size 0 [] (fun _ => 0) (fun _ => 0) (fun _ => 0) :=
 ⟨_, MapAt.new _ _ _ _, fun k => by simp, fun v x h => by simp at h, fun _ _ => ⟨rfl, rfl, rfl⟩⟩
section
variable {w w' : World} {b s : Nat} {S : List Int} {A B C : Int → Int}
theorem MapT.move (h : MapT w b s S A B C) (hb : w'.heap[b]? = w.heap[b]?) : MapT w' b s S A B C := by
 obtain ⟨f, h1, h2⟩ := h
 exact ⟨f, h1.move hb, h2⟩
theorem MapT.lt (h : MapT w b s S A B C) : b < w.heap.size := by
 obtain ⟨f, h1, _⟩ := h
 exact h1.lt
theorem MapT.same {S' : List Int} (h : MapT w b s S A B C) (hs : ∀ k, k ∈ S ↔ k ∈ S') : MapT w b s S' A B C := by
 obtain ⟨f, h1, h2, h3, h4⟩ := h
 refine ⟨f, h1, fun k => ?_, h3, fun k hk => h4 k (fun e => hk ((hs k).1 e))⟩
 rw [h2]
 by_cases c : k ∈ S
 · rw [if_pos c, if_pos ((hs k).1 c)]
 · rw [if_neg c, if_neg (fun e => c ((hs k).2 e))]
def up (f : Int → Int) (k x : Int) : Int → Int := fun q => if q = k then x else f q
theorem MapT.put (h : MapT w b s S A B C) (hs : s ≤ 900000000000000000) {k : Int} (hk : InI k) (x y z : Int) :
   ∃ w', (Instr.mapUpdate 61 (.map (some b)) (.int .i64 k) (tv x y z)).run Try.prog w = .ok () w' ∧ MapT w' b (s + 1) (S ++ [k]) (up A k x) (up B k y) (up C k z) ∧ Mem.Frame (fun i => i = b) w w' := by
 obtain ⟨f, h1, h2, h3, h4⟩ := h
 obtain ⟨l, hl⟩ := key_int hk
 classical
 obtain ⟨w', e1, e2, e3⟩ := h1.put (t := 61) (e := 63) lawInt (by kernel_rfl) (by unfold maxLen; omega) (val := tv x y z) hl (f' := fun q => if q = .int .i64 k then some (tv x y z) else f q) (if_pos rfl) (fun q hq => if_neg hq)
 refine ⟨w', e1, ⟨_, e2, fun p => ?_, fun v u hv => ?_, fun p hp => ?_⟩, e3⟩
 · by_cases c : p = k
   · subst c
     rw [if_pos rfl, if_pos (by simp)]
     simp only [up, if_true]
   · rw [if_neg (fun e => c (by simpa using e)), h2]
     simp only [up, if_neg c]
     by_cases d : p ∈ S
     · rw [if_pos d, if_pos (by simp [d])]
     · rw [if_neg d, if_neg (by simp [d, c])]
 · by_cases c : v = .int .i64 k
   · exact ⟨k, c⟩
   · simp only [if_neg c] at hv
     exact h3 v u hv
 · simp only [List.mem_append, List.mem_singleton, not_or] at hp
   simp only [up, if_neg hp.2]
   exact h4 p hp.1
theorem MapT.get (h : MapT w b s S A B C) {k : Int} (hk : InI k) :
   (Instr.lookup 61 (.map (some b)) (.int .i64 k) false).run Try.prog w = .ok (tv (A k) (B k) (C k)) w := by
 obtain ⟨f, h1, h2, h3, h4⟩ := h
 obtain ⟨l, hl⟩ := key_int hk
 have := h1.get (t := 61) (e := 63) lawInt (by kernel_rfl) (z := tv 0 0 0) (by kernel_rfl) hl
 rw [this, h2]
 by_cases c : k ∈ S
 · rw [if_pos c]; rfl
 · obtain ⟨a1, a2, a3⟩ := h4 k c
   rw [if_neg c, a1, a2, a3]; rfl
def seenG (g : MapEntry → Int) : List MapEntry → Array Nat → Int
 | [], _ => 0
 | x :: l, seen => (if seen.contains x.born then g x else 0) + seenG g l seen
theorem seenG_other (g : MapEntry → Int) (seen : Array Nat) (b : Nat) : ∀ (es : List MapEntry), b ∉ es.map (·.born) → seenG g es (seen.push b) = seenG g es seen
 | [], _ => rfl
 | x :: l, h => by
   have hx : (x.born == b) = false := by
     cases hc : x.born == b with
     | false => rfl
     | true => exact absurd (List.mem_cons.2 (Or.inl (beq_iff_eq.1 hc).symm)) h
   have ih := seenG_other g seen b l (fun e => h (List.mem_cons.2 (Or.inr e)))
   simp only [seenG, contains_push, hx, Bool.or_false, ih]
theorem seenG_push (g : MapEntry → Int) (seen : Array Nat) (e : MapEntry) (hs : seen.contains e.born = false) : ∀ (es : List MapEntry), (es.map (·.born)).Nodup → e ∈ es → seenG g es (seen.push e.born) = seenG g es seen + g e
 | x :: l, hn, he => by
   have hn' : x.born ∉ l.map (·.born) ∧ (l.map (·.born)).Nodup := List.nodup_cons.1 hn
   rcases List.mem_cons.1 he with rfl | h
   · simp only [seenG, contains_push, hs, beq_self_eq_true, Bool.or_true, if_true, Bool.false_eq_true, if_false, seenG_other g seen e.born l hn'.1]
     omega
   · have hx : (x.born == e.born) = false := by
       cases hc : x.born == e.born with
       | false => rfl
       | true => exact absurd (by rw [beq_iff_eq.1 hc]; exact List.mem_map.2 ⟨e, h, rfl⟩) hn'.1
     simp only [seenG, contains_push, hx, Bool.or_false, seenG_push g seen e hs l hn'.2 h]
     omega
theorem seenG_full (g : MapEntry → Int) (seen : Array Nat) : ∀ (es : List MapEntry), (∀ x ∈ es, seen.contains x.born = true) → seenG g es seen = (es.map g).sum
 | [], _ => rfl
 | x :: l, h => by
   simp only [seenG, h x (List.mem_cons.2 (Or.inl rfl)), if_true, List.map_cons, List.sum_cons, seenG_full g seen l (fun y hy => h y (List.mem_cons.2 (Or.inr hy)))]
theorem seenG_none (g : MapEntry → Int) : ∀ (es : List MapEntry), seenG g es #[] = 0
 | [] => rfl
 | x :: l => by
   have : (#[] : Array Nat).contains x.born = false := by simp
   simp only [seenG, this, Bool.false_eq_true, if_false, seenG_none g l]
   rfl
theorem seenG_all (g : MapEntry → Int) (es : Array MapEntry) (seen : Array Nat) (h : (leftOf es seen).size = 0) : seenG g es.toList seen = (es.toList.map g).sum := seenG_full g seen es.toList (all_seen es seen h)
theorem seenG_bound (g : MapEntry → Int) (seen : Array Nat) (D : Nat) : ∀ (es : List MapEntry), (∀ x ∈ es, -(D : Int) ≤ g x ∧ g x ≤ D) → -((es.length * D : Nat) : Int) ≤ seenG g es seen ∧ seenG g es seen ≤ ((es.length * D : Nat) : Int)
 | [], _ => by simp [seenG]
 | x :: l, h => by
   have ih := seenG_bound g seen D l (fun y hy => h y (List.mem_cons_of_mem _ hy))
   have hx := h x (List.mem_cons_self ..)
   have e : (x :: l).length * D = l.length * D + D := by rw [List.length_cons, Nat.succ_mul]
   rw [e]
   unfold seenG
   split <;> omega
theorem sum_perm {l m : List Int} (h : l.Perm m) : l.sum = m.sum := by
 induction h with
 | nil => rfl
 | cons x _ ih => rw [List.sum_cons, List.sum_cons, ih]
 | swap x y l => simp only [List.sum_cons]; omega
 | trans _ _ h1 h2 => exact h1.trans h2
theorem MapT.entries (h : MapT w b s S A B C) : ∃ es clock, w.heap[b]? = some (.map es clock) ∧ Stamped es clock ∧ es.size ≤ s ∧ (∀ x ∈ es.toList, ∃ k, k ∈ S ∧ x.key = .int .i64 k ∧ x.val = tv (A k) (B k) (C k)) ∧
   ∀ (G : Int → Int) (c : Nat), (∀ k, k ∈ S ↔ 0 ≤ k ∧ k < c) → (es.toList.map fun x => G (valOf x.key)).sum = ((List.range c).map fun (k : Nat) => G k).sum := by
 obtain ⟨f, ⟨es, clock, hb, hst, hsz, hks, hin, hof⟩, h2, h3, h4⟩ := h
 have hent : ∀ x ∈ es.toList, ∃ k, k ∈ S ∧ x.key = .int .i64 k ∧ x.val = tv (A k) (B k) (C k) := by
   intro x hx
   have h5 := hin x hx
   obtain ⟨k, hk⟩ := h3 _ _ h5
   rw [hk, h2] at h5
   by_cases c : k ∈ S
   · rw [if_pos c] at h5
     exact ⟨k, c, hk, (Option.some.inj h5).symm⟩
   · rw [if_neg c] at h5; cases h5
 refine ⟨es, clock, hb, hst, hsz, hent, fun G c hc => ?_⟩
 have hnd : (es.toList.map fun x => valOf x.key).Nodup := by
   have h5 := hst.2.2
   rw [List.Nodup, List.pairwise_map] at h5 ⊢
   refine List.Pairwise.imp_of_mem (fun {x y} hx hy hne => ?_) h5
   obtain ⟨k1, _, e1, _⟩ := hent x hx
   obtain ⟨k2, _, e2, _⟩ := hent y hy
   rw [e1, e2] at hne ⊢
   exact fun e => hne (by rw [show k1 = k2 from e])
 have hp : (es.toList.map fun x => valOf x.key).Perm ((List.range c).map fun (k : Nat) => (k : Int)) := by
   refine (List.perm_ext_iff_of_nodup hnd ?_).2 fun k => ?_
   · rw [List.Nodup, List.pairwise_map]
     exact List.nodup_range.imp fun {a b} h e => h (by omega)
   · rw [List.mem_map, List.mem_map]
     constructor
     · rintro ⟨x, hx, rfl⟩
       obtain ⟨k1, m1, e1, _⟩ := hent x hx
       have := (hc k1).1 m1
       refine ⟨k1.toNat, by rw [List.mem_range]; omega, ?_⟩
       rw [e1]; show _ = k1; omega
     · rintro ⟨n, hn, rfl⟩
       have hm : (n : Int) ∈ S := (hc n).2 (by rw [List.mem_range] at hn; omega)
       have h5 := h2 n
       rw [if_pos hm] at h5
       obtain ⟨x, hx, e⟩ := hof _ _ h5
       exact ⟨x, hx, by rw [e]; rfl⟩
 have h6 := sum_perm (hp.map G)
 rw [List.map_map, List.map_map] at h6
 exact h6
end
end Go.Proofs.Ytmikcfddipldnaa.Cnt
namespace Go.Proofs.Ytmikcfddipldnaa.Cnt
open Go.Maps Go.MapKept
open Go.ChangeMaps (setBlock heap_setBlock_same heap_setBlock_other)
open Go.RowKit Go.Proofs.YtmikcfddipldnaaW.PrintWords Go.Proofs.YtmikcfddipldnaaW.PrintLast Go.Proofs.YtmikcfddipldnaaW.PrintMore Go.Proofs.Ytmikcfddipldnaa.Mem
set_option linter.unusedVariables false
set_option linter.unusedSimpArgs false
def cntTo (ks : List Int) (i : Nat) (k : Int) : Int := ((ks.take i).countP (· == k) : Nat)
theorem cntTo_zero (ks : List Int) : cntTo ks 0 = fun _ => 0 := by funext k; simp [cntTo]
theorem cntTo_succ (ks : List Int) {i : Nat} (h : i < ks.length) : up (cntTo ks i) (gi ks i) (cntTo ks i (gi ks i) + 1) = cntTo ks (i + 1) := by
 funext k
 have e : ks.take (i + 1) = ks.take i ++ [gi ks i] := by
   rw [List.take_succ_eq_append_getElem h]
   simp [gi, List.getD_eq_getElem?_getD, h]
 unfold up cntTo
 rw [e, List.countP_append]
 by_cases c : k = gi ks i
 · rw [if_pos c, c]; simp
 · rw [if_neg c]; simp [Ne.symm c]
theorem cntTo_le (ks : List Int) (i : Nat) (k : Int) : 0 ≤ cntTo ks i k ∧ cntTo ks i k ≤ ks.length := by
 unfold cntTo
 have h1 := List.countP_le_length (p := (· == k)) (l := ks.take i)
 have h2 : (ks.take i).length ≤ ks.length := by rw [List.length_take]; omega
 omega
theorem up_self (f : Int → Int) (k : Int) : up f k (f k) = f := by funext q; unfold up; split <;> simp_all
def ksE (og : List Int) (es : List (Int × Int)) : List Int := es.map fun e => gi og e.1.toNat
def ksF (og : List Int) (es : List (Int × Int)) (fs : List (List Int)) : List Int := fs.map fun f => gi og (pe es ((gi f 0).toNat / 2)).1.toNat
theorem gi_ksE (og : List Int) (es : List (Int × Int)) {j : Nat} (h : j < es.length) : gi (ksE og es) j = gi og (pe es j).1.toNat := by simp [gi, ksE, pe, List.getD_eq_getElem?_getD, h]
theorem gi_ksF (og : List Int) (es : List (Int × Int)) (fs : List (List Int)) {q : Nat} (h : q < fs.length) : gi (ksF og es fs) q = gi og (pe es ((gi (gl fs q) 0).toNat / 2)).1.toNat := by simp [gi, gl, ksF, List.getD_eq_getElem?_getD, h]
def term (a m f : Int) : Int := if m > 0 then Int.tdiv (2 - a + m - f) 2 else 0
def genusSum (og : List Int) (es : List (Int × Int)) (fs : List (List Int)) (c : Nat) : Int :=
 ((List.range c).map fun (k : Nat) => term (cntTo og og.length k) (cntTo (ksE og es) es.length k) (cntTo (ksF og es fs) fs.length k)).sum
structure Fit (og : List Int) (es : List (Int × Int)) (fs : List (List Int)) (c : Nat) : Prop where
 hc : c ≤ 1048576
 ho : og.length ≤ 1048576
 he : es.length ≤ 4194304
 hf : fs.length ≤ 8388608
 key : ∀ k, k ∈ og ↔ 0 ≤ k ∧ k < (c : Int)
 edge : ∀ j, j < es.length → 0 ≤ (pe es j).1 ∧ (pe es j).1 < (og.length : Int)
 face : ∀ q, q < fs.length → 0 < (gl fs q).length ∧ 0 ≤ gi (gl fs q) 0 ∧ gi (gl fs q) 0 < ((2 * es.length : Nat) : Int)
theorem tdiv2 (x : Int) : Int.tdiv x 2 = if 0 ≤ x then x / 2 else -((-x) / 2) := by
 split
 · exact Int.tdiv_eq_ediv_of_nonneg (by omega)
 · have h := Int.neg_tdiv x 2
   have h1 : Int.tdiv (-x) 2 = (-x) / 2 := Int.tdiv_eq_ediv_of_nonneg (by omega)
   omega
theorem term_bound {a m f : Int} (ha : 0 ≤ a ∧ a ≤ 9000000) (hm : 0 ≤ m ∧ m ≤ 9000000) (hf : 0 ≤ f ∧ f ≤ 9000000) : -((20000000 : Nat) : Int) ≤ term a m f ∧ term a m f ≤ ((20000000 : Nat) : Int) := by
 unfold term
 split
 · rw [tdiv2]
   split <;> omega
 · omega
def GenusPost (g e0 : Int) (w : World) (e : Ending) (w' : World) : Prop := e = .returned (.tuple #[.int .i64 g, .int .i64 e0]) ∧ Below w.heap.size w w'
def OfSays (fs : List (List Int)) (e0 n : Int) (A : Option Addr) (m c : Nat) (Ar : Option Addr) (mr cr : Nat) (w : World) : Prop := ∀ W : World, Below w.heap.size w W →
 Calls Try.prog 10 #[.agg #[.int .i64 n, .slice A m c], .slice Ar mr cr] W fun e w' => ∃ v, e = .returned (.tuple #[v, .int .i64 e0]) ∧ Kd.R (Kd.slice 3 (Kd.int .i64)) 36 w' W.heap.size (fun _ => True) v fs ∧ Below W.heap.size W w'
def CompsSays (og : List Int) (k : Int) (n : Int) (A : Option Addr) (m c : Nat) (w : World) : Prop := ∀ W : World, Below w.heap.size w W →
 Calls Try.prog 24 #[.agg #[.int .i64 n, .slice A m c]] W fun e w' => ∃ v, e = .returned (.tuple #[v, .int .i64 k, .int .i64 0]) ∧ Kd.R (Kd.int .i64) 3 w' W.heap.size (fun _ => True) v og ∧ Below W.heap.size W w'
theorem setBlock_below {w : World} {b B : Nat} {o : Obj} (hb : B ≤ b) : Below B w (setBlock w b o) := by
 refine ⟨rfl, rfl, rfl, by simp [setBlock], fun i hi => ?_⟩
 unfold setBlock
 simp only
 rw [Array.getElem?_setIfInBounds, if_neg (by omega)]
set_option maxHeartbeats 1000000 in
set_option maxRecDepth 100000 in
theorem genus_bad (n : Int) (A : Option Addr) (m c0 : Nat) (Ar : Option Addr) (mr cr : Nat) (e0 : Int) (he : e0 ≠ 0) (fs : List (List Int)) (w : World) (hof : OfSays fs e0 n A m c0 Ar mr cr w) :
   Calls Try.prog 18 #[.agg #[.int .i64 n, .slice A m c0], .slice Ar mr cr] w fun e w' => GenusPost 0 e0 w e w' := by
 have HOF := Aside0.mk hof
 clear hof
 have HB := Aside0.mk ((Below.refl w.heap.size w).alloc (Nat.le_refl _) (.cells #[.int .i64 n, .slice A m c0] 24 (0, 0)))
 have HX := Aside0.mk (heap_last w (.cells #[.int .i64 n, .slice A m c0] 24 (0, 0)))
 have x0 : (w.alloc (.cells #[.int .i64 n, .slice A m c0] 24 (0, 0))).cell? ⟨w.heap.size, 0, none⟩ = some (.int .i64 n) := heap_cell HX.out rfl
 have x1 : (w.alloc (.cells #[.int .i64 n, .slice A m c0] 24 (0, 0))).cell? ⟨w.heap.size, 1, none⟩ = some (.slice A m c0) := heap_cell HX.out rfl
 have t1 : (e0 != 0) = true := bne_iff_ne.2 he
 go_enter Try.func18, Try.ntmps18
 go_wp2_with fail
 clear x0 x1
 generalize w.alloc (.cells #[.int .i64 n, .slice A m c0] 24 (0, 0)) = w1 at HX HB ⊢
 obtain ⟨bg, hbg⟩ : ∃ bg, bg = w.heap.size := ⟨_, rfl⟩
 rw [← hbg] at HX ⊢
 clear hbg
 refine (HOF.out w1 HB.out).mono ?_
 rintro e' w2 ⟨v, rfl, hR, hb⟩
 obtain ⟨AF, cF, rfl, hcF, hF⟩ := Kd.R_reads hR
 have HX2 := Aside0.mk ((hb.block _ (lt_of HX.out)).trans HX.out)
 have HB2 := Aside0.mk (HB.out.trans (hb.mono HB.out.size))
 have HF2 := Aside0.mk hF
 clear hb HX HB hR hF HOF
 go_wp2_with fail
 go_ret2
 exact ⟨rfl, HB2.out⟩
theorem take_snoc (ks : List Int) {i : Nat} (h : i < ks.length) : ks.take (i + 1) = ks.take i ++ [gi ks i] := by
 rw [List.take_succ_eq_append_getElem h]
 simp [gi, List.getD_eq_getElem?_getD, h]
theorem gi_mem {l : List Int} {i : Nat} (h : i < l.length) : gi l i ∈ l := by
 unfold gi
 rw [List.getD_eq_getElem?_getD, List.getElem?_eq_getElem h]
 exact List.getElem_mem h
theorem mem_snoc {S : List Int} {k : Int} (h : k ∈ S) (q : Int) : q ∈ S ++ [k] ↔ q ∈ S := by
 rw [List.mem_append, List.mem_singleton]
 exact ⟨fun e => e.elim id (fun e => e ▸ h), .inl⟩
set_option maxHeartbeats 4000000 in
set_option maxRecDepth 100000 in
theorem genus_ok (n : Int) (A : Option Addr) (es : List (Int × Int)) (m c0 : Nat) (Ar : Option Addr) (mr cr : Nat) (fs : List (List Int)) (og : List Int) (c : Nat) (w : World) (hm : m = es.length) (he : Pairs w A es) (hfit : Fit og es fs c) (hof : OfSays fs 0 n A m c0 Ar mr cr w) (hco : CompsSays og c n A m c0 w) :
   Calls Try.prog 18 #[.agg #[.int .i64 n, .slice A m c0], .slice Ar mr cr] w fun e w' => GenusPost (genusSum og es fs c) 0 w e w' := by
 have HOF := Aside0.mk hof
 have HCO := Aside0.mk hco
 have HE := Aside0.mk he
 have HME := Aside0.mk hm
 have HFIT := Aside0.mk hfit
 clear hof hco he hm hfit
 have HB := Aside0.mk ((Below.refl w.heap.size w).alloc (Nat.le_refl _) (.cells #[.int .i64 n, .slice A m c0] 24 (0, 0)))
 have HX := Aside0.mk (heap_last w (.cells #[.int .i64 n, .slice A m c0] 24 (0, 0)))
 have x0 : (w.alloc (.cells #[.int .i64 n, .slice A m c0] 24 (0, 0))).cell? ⟨w.heap.size, 0, none⟩ = some (.int .i64 n) := heap_cell HX.out rfl
 have x1 : (w.alloc (.cells #[.int .i64 n, .slice A m c0] 24 (0, 0))).cell? ⟨w.heap.size, 1, none⟩ = some (.slice A m c0) := heap_cell HX.out rfl
 go_enter Try.func18, Try.ntmps18
 go_wp2_with fail
 clear x0 x1
 generalize w.alloc (.cells #[.int .i64 n, .slice A m c0] 24 (0, 0)) = w1 at HX HB ⊢
 obtain ⟨bg, hbg⟩ : ∃ bg, bg = w.heap.size := ⟨_, rfl⟩
 rw [← hbg] at HX ⊢
 clear hbg
 refine (HOF.out w1 HB.out).mono ?_
 rintro e' w2 ⟨v, rfl, hR, hb⟩
 obtain ⟨AF, cF, rfl, hcF, hF⟩ := Kd.R_reads hR
 have HX2 := Aside0.mk ((hb.block _ (lt_of HX.out)).trans HX.out)
 have HB2 := Aside0.mk (HB.out.trans (hb.mono HB.out.size))
 have HF2 := Aside0.mk hF
 clear hb HX HB hR hF HOF
 have x0 : w2.cell? ⟨bg, 0, none⟩ = some (.int .i64 n) := heap_cell HX2.out rfl
 have x1 : w2.cell? ⟨bg, 1, none⟩ = some (.slice A m c0) := heap_cell HX2.out rfl
 go_wp2_with fail
 clear x0 x1
 refine (HCO.out w2 HB2.out).mono ?_
 rintro e' w3 ⟨v, rfl, hR, hb⟩
 obtain ⟨AO, cO, rfl, hcO, hO⟩ := Kd.R_reads hR
 have HX3 := Aside0.mk ((hb.block _ (lt_of HX2.out)).trans HX2.out)
 have HB3 := Aside0.mk (HB2.out.trans (hb.mono HB2.out.size))
 have HF3 := Aside0.mk (Kd.C_below HF2.out hb)
 have HO3 := Aside0.mk hO
 have HE3 := Aside0.mk (HE.out.below HB3.out)
 clear hb HX2 HB2 hR hO HF2 HCO HE
 have hmm := @run_makeMap Try.prog
 go_upto_region 6 with (fail)
 have HM0 := Aside0.mk (MapT.new w3 0)
 have HB4 := Aside0.mk ((Below.refl w3.heap.size w3).alloc (Nat.le_refl _) (.map #[] 0))
 obtain ⟨bm, hbm⟩ : ∃ bm, bm = w3.heap.size := ⟨_, rfl⟩
 rw [← hbm] at HM0 ⊢
 have HBM : Aside0 (bm = w3.heap.size) := ⟨hbm⟩
 generalize w3.alloc (.map #[] 0) = w4 at HM0 HB4 ⊢
 clear hmm hbm
 obtain ⟨ke, hke⟩ : ∃ ke, ke = ksE og es := ⟨_, rfl⟩
 obtain ⟨kf, hkf⟩ : ∃ kf, kf = ksF og es fs := ⟨_, rfl⟩
 have HKE := Aside0.mk hke
 have HKF := Aside0.mk hkf
 clear hke hkf
 obtain ⟨N, hN⟩ : ∃ N, N = og.length := ⟨_, rfl⟩
 have HN := Aside0.mk hN
 have hNb : N ≤ 1048576 := by rw [hN]; exact HFIT.out.ho
 have hM0 : MapT w4 bm 0 (og.take 0) (cntTo og 0) (cntTo ke 0) (cntTo kf 0) := by rw [cntTo_zero, cntTo_zero, cntTo_zero, List.take_zero]; exact HM0.out
 have HM1 := Aside0.mk hM0
 rw [← hN]
 clear hN HM0 hM0
 go_wp2_with fail
 go_loopw [43] (fun y wr => ∃ (i : Nat), y = .int .i64 (i : Int) ∧ i ≤ N ∧ Aside0 (MapT wr bm i (og.take i) (cntTo og i) (cntTo ke 0) (cntTo kf 0)) ∧ Aside0 (Below w3.heap.size w3 wr)) (fun y _ => N - (intOf y).toNat)
 case atStart => exact ⟨0, rfl, by omega, HM1, HB4⟩
 case round =>
   clear HM1 HB4
   obtain ⟨i, rfl, hi, HM, HB⟩ := hrel
   by_cases hlt : i < N
   · have hlt2 : i < og.length := by rw [← HN.out]; exact hlt
     obtain ⟨ad, eA, hx⟩ := Kd.at_int (Kd.C_below HO3.out HB.out) (i : Int) (by omega) (by omega)
     subst eA
     rw [gi_rd, Int.toNat_natCast] at hx
     have hmem : gi og i ∈ og := by
       unfold gi
       rw [List.getD_eq_getElem?_getD, List.getElem?_eq_getElem hlt2]
       exact List.getElem_mem hlt2
     have hkk := (HFIT.out.key _).1 hmem
     have hcc := HFIT.out.hc
     have hk : InI (gi og i) := ⟨by omega, by omega⟩
     have hup := cntTo_succ og hlt2
     obtain ⟨k, hkd⟩ : ∃ k, k = gi og i := ⟨_, rfl⟩
     rw [← hkd] at hx hk hup
     have HUP := Aside0.mk hup
     have HKD := Aside0.mk hkd
     have hol := HN.out
     clear hkd hmem hkk hup hcc
     have la := HM.out.get hk
     obtain ⟨a0, ha0⟩ : ∃ a0, a0 = (cntTo og i) k := ⟨_, rfl⟩
     obtain ⟨b0, hb0⟩ : ∃ b0, b0 = (cntTo ke 0) k := ⟨_, rfl⟩
     obtain ⟨d0, hd0⟩ : ∃ d0, d0 = (cntTo kf 0) k := ⟨_, rfl⟩
     rw [← ha0, ← hb0, ← hd0] at la
     replace la : (Instr.lookup 61 (.map (some bm)) (.int .i64 k) false).run Try.prog wr = .ok (.agg #[.int .i64 a0, .int .i64 b0, .int .i64 d0]) wr := la
     have HAB : Aside0 (a0 = (cntTo og i) k ∧ b0 = (cntTo ke 0) k ∧ d0 = (cntTo kf 0) k) := ⟨ha0, hb0, hd0⟩
     have u0 : (wr.alloc (.cells #[.int .i64 a0, .int .i64 b0, .int .i64 d0] 63 (0, 0))).cell? ⟨wr.heap.size, 0, none⟩ = some (.int .i64 a0) := heap_cell (heap_last _ _) rfl
     have u3 : (wr.alloc (.cells #[.int .i64 a0, .int .i64 b0, .int .i64 d0] 63 (0, 0))).frozen? ⟨wr.heap.size, 0, none⟩ = false := heap_free (heap_last _ _) _
     obtain ⟨o1, ho1⟩ : ∃ o1, o1 = a0 + 1 := ⟨_, rfl⟩
     have q1 : IntKind.i64.wrap (a0 + 1) = o1 := by rw [ho1]; exact IntWalk.i64_in _ (by rw [ha0]; have := cntTo_le og i k; omega)
     have HO1 := Aside0.mk ho1
     clear ha0 hb0 hd0 ho1
     go_upto_region 11 with (fail)
     clear u0 u3 q1
     have HT6 := Aside0.mk (heap_last wr (.cells #[.int .i64 o1, .int .i64 b0, .int .i64 d0] 63 (0, 0)))
     have hb6 : Below wr.heap.size wr (wr.alloc (.cells #[.int .i64 o1, .int .i64 b0, .int .i64 d0] 63 (0, 0))) := (Below.refl _ _).alloc (Nat.le_refl _) _
     have HB6 := Aside0.mk (HB.out.trans (hb6.mono HB.out.size))
     have HM6 := Aside0.mk (HM.out.move (hb6.block _ HM.out.lt))
     clear hb6 la
     generalize wr.alloc (.cells #[.int .i64 o1, .int .i64 b0, .int .i64 d0] 63 (0, 0)) = w6 at HT6 HT6 HB6 HM6 ⊢
     obtain ⟨bt, hbt⟩ : ∃ bt, bt = wr.heap.size := ⟨_, rfl⟩
     rw [← hbt] at HT6 ⊢
     obtain ⟨w7, r7, m7, f7⟩ := MapT.put (w := w6) (HM6.out.move rfl) (by omega) hk o1 b0 d0
     replace r7 : (Instr.mapUpdate 61 (.map (some bm)) (.int .i64 k) (.agg #[.int .i64 o1, .int .i64 b0, .int .i64 d0])).run Try.prog w6 = .ok () w7 := r7
     have HB7 : Aside0 (Below w3.heap.size w3 w7) := ⟨HB6.out.trans (f7.below HB6.out.size (fun k hk => by have := HBM.out; omega))⟩
     have HM7 := Aside0.mk m7
     clear hbt m7 f7 HM6
     have z0 : w6.cell? ⟨bt, 0, none⟩ = some (.int .i64 o1) := heap_cell HT6.out rfl
     have z1 : w6.cell? ⟨bt, 1, none⟩ = some (.int .i64 b0) := heap_cell HT6.out rfl
     have z2 : w6.cell? ⟨bt, 2, none⟩ = some (.int .i64 d0) := heap_cell HT6.out rfl
     go_wp2_with fail
     go_roundw
     case rel =>
       have e := HM7.out
       rw [HAB.out.2.1, HAB.out.2.2, up_self, up_self, HO1.out, HAB.out.1, HUP.out, HKD.out, ← take_snoc og hlt2] at e
       exact ⟨i + 1, by go_num, by omega, ⟨e⟩, HB7⟩
     case measure => simp [intOf]; omega
   · obtain rfl : i = N := by omega
     clear hlt hi
     have hM1 : MapT wr bm (i + 0) og (cntTo og i) (cntTo ke 0) (cntTo kf 0) := by
       have e := HM.out
       rw [HN.out, List.take_length] at e
       rw [HN.out]
       exact e
     have HM1 := Aside0.mk hM1
     have x1 : wr.cell? ⟨bg, 1, none⟩ = some (.slice A m c0) := heap_cell ((HB.out.block _ (lt_of HX3.out)).trans HX3.out) rfl
     have HB4 := HB
     clear hM1 HM HB
     go_wp2_with fail
     clear x1
     go_loopw [61] (fun y wr => ∃ (j : Nat), y = .int .i64 (j : Int) ∧ j ≤ m ∧ Aside0 (MapT wr bm (i + j) og (cntTo og i) (cntTo ke j) (cntTo kf 0)) ∧ Aside0 (Below w3.heap.size w3 wr)) (fun y _ => m - (intOf y).toNat)
     case atStart => exact ⟨0, rfl, by omega, HM1, HB4⟩
     case round =>
       clear HM1 HB4
       obtain ⟨j, rfl, hj, HM, HB⟩ := hrel
       have hmb : m ≤ 4194304 := by rw [HME.out]; exact HFIT.out.he
       by_cases hlt : j < m
       · have hlt2 : j < es.length := by rw [← HME.out]; exact hlt
         obtain ⟨ad, eA, h1, h2⟩ := (HE3.out.below HB.out) j hlt2
         subst eA
         have hed := HFIT.out.edge j hlt2
         have hgk := gi_ksE og es hlt2
         have hup := cntTo_succ ke (i := j) (by rw [HKE.out, ksE, List.length_map]; exact hlt2)
         rw [HKE.out, hgk, ← HKE.out] at hup
         obtain ⟨x, hx⟩ : ∃ x : Nat, (pe es j).1 = (x : Int) := ⟨(pe es j).1.toNat, by omega⟩
         obtain ⟨y, hy⟩ : ∃ y, y = (pe es j).2 := ⟨_, rfl⟩
         rw [hx] at h1 hed hup
         rw [← hy] at h2
         rw [Int.toNat_natCast] at hup
         obtain ⟨ado, eO, hxo⟩ := Kd.at_int (Kd.C_below HO3.out HB.out) (x : Int) (by omega) (by omega)
         subst eO
         rw [gi_rd, Int.toNat_natCast] at hxo
         have hxl : x < og.length := by omega
         have hmem := gi_mem hxl
         have hkk := (HFIT.out.key _).1 hmem
         have hcc := HFIT.out.hc
         have hk : InI (gi og x) := ⟨by omega, by omega⟩
         obtain ⟨k, hkd⟩ : ∃ k, k = gi og x := ⟨_, rfl⟩
         rw [← hkd] at hxo hk hup hmem
         have HUP := Aside0.mk hup
         have HKS := Aside0.mk hmem
         have HXL : Aside0 (x < i) := ⟨by rw [HN.out]; exact hxl⟩
         obtain ⟨w5, hw5⟩ : ∃ w5, w5 = wr.alloc (.cells #[.int .i64 (x : Int), .int .i64 y] 56 (0, 0)) := ⟨_, rfl⟩
         have hb5 : Below wr.heap.size wr w5 := by rw [hw5]; exact (Below.refl _ _).alloc (Nat.le_refl _) _
         have HT5 : Aside0 (w5.heap[wr.heap.size]? = some (.cells #[.int .i64 (x : Int), .int .i64 y] 56 (0, 0))) := ⟨by rw [hw5]; exact heap_last _ _⟩
         have HB5 := Aside0.mk (HB.out.trans (hb5.mono HB.out.size))
         have HM5 := Aside0.mk (HM.out.move (hb5.block _ HM.out.lt))
         have HBE : Aside0 (wr.heap.size < w5.heap.size ∧ bm < wr.heap.size) := ⟨lt_of HT5.out, HM.out.lt⟩
         have hol := HN.out
         have hkl : ke.length ≤ 4194304 := by rw [HKE.out, ksE, List.length_map]; exact HFIT.out.he
         have hxo0 := hxo
         have HH5 := Aside0.mk hw5
         clear hw5 hkd hkk hup hcc HM HB hed hmem hgk hx hy
         go_upto_region 16 with (fail)
         have hw5 := HH5.out
         rw [← hw5]
         have hxo := (hb5.cell (cell_lt hxo0)).trans hxo0
         have HXO := Aside0.mk hxo
         obtain ⟨be, hbe⟩ : ∃ be, be = wr.heap.size := ⟨_, rfl⟩
         rw [← hbe] at HT5 HBE ⊢
         have v0 : w5.cell? ⟨be, 0, none⟩ = some (.int .i64 (x : Int)) := heap_cell HT5.out rfl
         clear hw5 HH5 hbe hb5 h1 h2 hxo0
         have la := HM5.out.get hk
         obtain ⟨a0, ha0⟩ : ∃ a0, a0 = (cntTo og i) k := ⟨_, rfl⟩
         obtain ⟨b0, hb0⟩ : ∃ b0, b0 = (cntTo ke j) k := ⟨_, rfl⟩
         obtain ⟨d0, hd0⟩ : ∃ d0, d0 = (cntTo kf 0) k := ⟨_, rfl⟩
         rw [← ha0, ← hb0, ← hd0] at la
         replace la : (Instr.lookup 61 (.map (some bm)) (.int .i64 k) false).run Try.prog w5 = .ok (.agg #[.int .i64 a0, .int .i64 b0, .int .i64 d0]) w5 := la
         have HAB : Aside0 (a0 = (cntTo og i) k ∧ b0 = (cntTo ke j) k ∧ d0 = (cntTo kf 0) k) := ⟨ha0, hb0, hd0⟩
         have u0 : (w5.alloc (.cells #[.int .i64 a0, .int .i64 b0, .int .i64 d0] 63 (0, 0))).cell? ⟨w5.heap.size, 1, none⟩ = some (.int .i64 b0) := heap_cell (heap_last _ _) rfl
         have u3 : (w5.alloc (.cells #[.int .i64 a0, .int .i64 b0, .int .i64 d0] 63 (0, 0))).frozen? ⟨w5.heap.size, 1, none⟩ = false := heap_free (heap_last _ _) _
         obtain ⟨o1, ho1⟩ : ∃ o1, o1 = b0 + 1 := ⟨_, rfl⟩
         have q1 : IntKind.i64.wrap (b0 + 1) = o1 := by rw [ho1]; exact IntWalk.i64_in _ (by rw [hb0]; have := cntTo_le ke j k; omega)
         have HO1 := Aside0.mk ho1
         clear ha0 hb0 hd0 ho1
         go_upto_region 18 with (fail)
         clear u0 u3 q1
         have HT6 := Aside0.mk (heap_last w5 (.cells #[.int .i64 a0, .int .i64 o1, .int .i64 d0] 63 (0, 0)))
         have hb6 : Below w5.heap.size w5 (w5.alloc (.cells #[.int .i64 a0, .int .i64 o1, .int .i64 d0] 63 (0, 0))) := (Below.refl _ _).alloc (Nat.le_refl _) _
         have HB6 := Aside0.mk (HB5.out.trans (hb6.mono HB5.out.size))
         have HM6 := Aside0.mk (HM5.out.move (hb6.block _ HM5.out.lt))
         have HBE6 : Aside0 ((w5.alloc (.cells #[.int .i64 a0, .int .i64 o1, .int .i64 d0] 63 (0, 0))).heap[be]? = some (.cells #[.int .i64 (x : Int), .int .i64 y] 56 (0, 0))) := ⟨heap_old HT5.out _⟩
         have HXO6 : Aside0 ((w5.alloc (.cells #[.int .i64 a0, .int .i64 o1, .int .i64 d0] 63 (0, 0))).cell? (ado.add x) = some (.int .i64 k)) := ⟨(hb6.cell (cell_lt HXO.out)).trans HXO.out⟩
         clear hb6 la
         generalize w5.alloc (.cells #[.int .i64 a0, .int .i64 o1, .int .i64 d0] 63 (0, 0)) = w6 at HBE6 HXO6 HT6 HB6 HM6 ⊢
         obtain ⟨bt, hbt⟩ : ∃ bt, bt = w5.heap.size := ⟨_, rfl⟩
         rw [← hbt] at HT6 ⊢
         obtain ⟨w7, r7, m7, f7⟩ := MapT.put (w := w6.drew) (HM6.out.move rfl) (by omega) hk a0 o1 d0
         replace r7 : (Instr.mapUpdate 61 (.map (some bm)) (.int .i64 k) (.agg #[.int .i64 a0, .int .i64 o1, .int .i64 d0])).run Try.prog w6.drew = .ok () w7 := r7
         have HB7 : Aside0 (Below w3.heap.size w3 w7) := ⟨HB6.out.drew.trans (f7.below HB6.out.size (fun k hk => by have := HBM.out; omega))⟩
         have HM7 := Aside0.mk m7
         clear hbt m7 f7 HM6
         have E0 : Aside0 (w6.drew.cell? ⟨be, 0, none⟩ = some (.int .i64 (x : Int))) := ⟨heap_cell (w := w6) HBE6.out rfl⟩
         have E1 : Aside0 (w6.drew.cell? (ado.add x) = some (.int .i64 k)) := ⟨HXO6.out⟩
         have E2 : Aside0 (w6.drew.cell? ⟨bt, 0, none⟩ = some (.int .i64 a0)) := ⟨heap_cell (w := w6) HT6.out rfl⟩
         have E3 : Aside0 (w6.drew.cell? ⟨bt, 1, none⟩ = some (.int .i64 o1)) := ⟨heap_cell (w := w6) HT6.out rfl⟩
         have E4 : Aside0 (w6.drew.cell? ⟨bt, 2, none⟩ = some (.int .i64 d0)) := ⟨heap_cell (w := w6) HT6.out rfl⟩
         clear HT6 HBE6 HXO6 HB6 v0 hxo
         have hxi := HXL.out
         refine start_ (n := 8) (S := fun w' => w'.cell? ⟨be, 0, none⟩ = some (.int .i64 (x : Int)) ∧ w'.cell? (ado.add x) = some (.int .i64 k) ∧ w'.cell? ⟨bt, 0, none⟩ = some (.int .i64 a0) ∧ w'.cell? ⟨bt, 1, none⟩ = some (.int .i64 o1) ∧ w'.cell? ⟨bt, 2, none⟩ = some (.int .i64 d0)) (ds := [7]) #[false, false, false, false, false, false, false, false] (by kernel_rfl) rfl rfl ⟨E0.out, E1.out, E2.out, E3.out, E4.out⟩ (fun hHeld => ?_)
         refine pure_ (i := 0) (N := some 76) (v := ?_) (a' := ?_) #[true, false, false, false, false, false, false, false] rfl rfl (by kernel_rfl) (fun _ _ _ h => h) (Or.inl ⟨by rfl, ?_⟩) ?_ ?_
         rotate_left
         · intro w'
           go_simp
           with_reducible rfl
         rotate_left
         · simp only [Act.put, List.setIfInBounds_toArray, List.set_cons_zero, List.set_cons_succ, i64_w, i32_w]
           rfl
         refine pure_ (i := 1) (N := some 77) (v := ?_) (a' := ?_) #[true, true, false, false, false, false, false, false] rfl rfl (by kernel_rfl) (fun _ _ _ h => h) (Or.inl ⟨by rfl, ?_⟩) ?_ ?_
         rotate_left
         · intro w'
           go_simp
           with_reducible rfl
         rotate_left
         · simp only [Act.put, List.setIfInBounds_toArray, List.set_cons_zero, List.set_cons_succ, i64_w, i32_w]
           rfl
         refine pure_ (i := 2) (N := some 78) (v := ?_) (a' := ?_) #[true, true, true, false, false, false, false, false] rfl rfl (by kernel_rfl) (fun _ _ _ h => h) (Or.inl ⟨by rfl, ?_⟩) ?_ ?_
         rotate_left
         · intro w'
           go_simp
           with_reducible rfl
         rotate_left
         · simp only [Act.put, List.setIfInBounds_toArray, List.set_cons_zero, List.set_cons_succ, i64_w, i32_w]
           rfl
         refine take_ (i := 3) (N := some 79) (v := ?_) (a' := ?_) #[true, true, true, true, false, false, false, false] rfl rfl (by kernel_rfl) (fun _ _ _ h => h) (Or.inl ⟨by rfl, ?_⟩) hHeld ?_ ?_
         rotate_left
         · rintro w' ⟨s0, s1, s2, s3, s4⟩
           go_simp
           with_reducible rfl
         rotate_left
         · simp only [Act.put, List.setIfInBounds_toArray, List.set_cons_zero, List.set_cons_succ, i64_w, i32_w]
           rfl
         refine pure_ (i := 4) (N := some 80) (v := ?_) (a' := ?_) #[true, true, true, true, true, false, false, false] rfl rfl (by kernel_rfl) (fun _ _ _ h => h) (Or.inl ⟨by rfl, ?_⟩) ?_ ?_
         rotate_left
         · intro w'
           go_simp
           with_reducible rfl
         rotate_left
         · simp only [Act.put, List.setIfInBounds_toArray, List.set_cons_zero, List.set_cons_succ, i64_w, i32_w]
           rfl
         refine take_ (i := 5) (N := some 81) (v := ?_) (a' := ?_) #[true, true, true, true, true, true, false, false] rfl rfl (by kernel_rfl) (fun _ _ _ h => h) (Or.inl ⟨by rfl, ?_⟩) hHeld ?_ ?_
         rotate_left
         · rintro w' ⟨s0, s1, s2, s3, s4⟩
           go_simp
           with_reducible rfl
         rotate_left
         · simp only [Act.put, List.setIfInBounds_toArray, List.set_cons_zero, List.set_cons_succ, i64_w, i32_w]
           rfl
         refine take_ (i := 6) (N := some 82) (v := ?_) (a' := ?_) #[true, true, true, true, true, true, true, false] rfl rfl (by kernel_rfl) (fun _ _ _ h => h) (Or.inl ⟨by rfl, ?_⟩) hHeld ?_ ?_
         rotate_left
         · rintro w' ⟨s0, s1, s2, s3, s4⟩
           go_simp
           with_reducible rfl
         rotate_left
         · simp only [Act.put, List.setIfInBounds_toArray, List.set_cons_zero, List.set_cons_succ, i64_w, i32_w]
           rfl
         refine last_ (i := 7) (N := none) #[true, true, true, true, true, true, true, true] rfl rfl (by kernel_rfl) (by decide) (fun K hK => ?_)
         refine skip_ (w1 := ?_) (by rfl) rfl ?_ ?_
         rotate_left
         · go_simp
           rfl
         refine hK.out _ _ ?_
         clear hK K
         refine done_ (by kernel_rfl) ?_
         clear r7
         go_wp2_with fail
         go_roundw
         case rel =>
           have e := HM7.out
           rw [HAB.out.1, HAB.out.2.2, up_self, up_self, HO1.out, HAB.out.2.1, HUP.out] at e
           exact ⟨j + 1, by go_num, by omega, ⟨e.same (mem_snoc HKS.out)⟩, HB7⟩
         case measure => simp [intOf]; omega
       · obtain rfl : j = m := by omega
         clear hlt hj
         have hM2 : MapT wr bm (i + j + 0) og (cntTo og i) (cntTo ke j) (cntTo kf 0) := HM.out
         have HM2 := Aside0.mk hM2
         have HB4 := HB
         obtain ⟨L, hL⟩ : ∃ L, L = fs.length := ⟨_, rfl⟩
         have HL := Aside0.mk hL
         have hLb : L ≤ 8388608 := by rw [hL]; exact HFIT.out.hf
         rw [← hL]
         clear hM2 HM HB hL
         go_wp2_with fail
         go_loopw [86] (fun y wr => ∃ (q : Nat), y = .int .i64 (q : Int) ∧ q ≤ L ∧ Aside0 (MapT wr bm (i + j + q) og (cntTo og i) (cntTo ke j) (cntTo kf q)) ∧ Aside0 (Below w3.heap.size w3 wr)) (fun y _ => L - (intOf y).toNat)
         case atStart => exact ⟨0, rfl, by omega, HM2, HB4⟩
         case round =>
           clear HM2 HB4
           obtain ⟨q, rfl, hq, HM, HB⟩ := hrel
           have hmb : j ≤ 4194304 := by rw [HME.out]; exact HFIT.out.he
           by_cases hlt : q < L
           · have hlt2 : q < fs.length := by rw [← HL.out]; exact hlt
             obtain ⟨ad, B, cB, eA, hx, hcB, hrow⟩ := row_at (Kd.C_below HF3.out HB.out) hlt2
             subst eA
             obtain ⟨f1, f2, f3⟩ := HFIT.out.face q hlt2
             have hgk := gi_ksF og es fs hlt2
             have hup := cntTo_succ kf (i := q) (by rw [HKF.out, ksF, List.length_map]; exact hlt2)
             rw [HKF.out, hgk, ← HKF.out] at hup
             obtain ⟨face, hface⟩ : ∃ face, face = gl fs q := ⟨_, rfl⟩
             rw [← hface] at hx hcB hrow f1 f2 f3 hup
             obtain ⟨h, hh⟩ : ∃ h : Nat, gi face 0 = (h : Int) := ⟨(gi face 0).toNat, by omega⟩
             obtain ⟨adB, eB, h0⟩ := Kd.at_int hrow 0 (by omega) (by omega)
             subst eB
             rw [show (0 : Int) = ((0 : Nat) : Int) from rfl, gi_rd, Int.toNat_natCast, hh, Addr.add_zero'] at h0
             rw [hh] at f3 hup
             rw [Int.toNat_natCast] at hup
             obtain ⟨ei, hei⟩ : ∃ ei, ei = h / 2 := ⟨_, rfl⟩
             rw [← hei] at hup
             have hel : ei < es.length := by omega
             have q5 : Int.tdiv (h : Int) 2 = (ei : Int) := by rw [hei]; rfl
             have q6 : IntKind.i64.wrap (ei : Int) = (ei : Int) := IntWalk.i64_in _ (by have := HFIT.out.he; omega)
             obtain ⟨ade, eE, h1, h2⟩ := (HE3.out.below HB.out) ei hel
             subst eE
             have hed := HFIT.out.edge ei hel
             obtain ⟨x, hx1⟩ : ∃ x : Nat, (pe es ei).1 = (x : Int) := ⟨(pe es ei).1.toNat, by omega⟩
             rw [hx1] at h1 hed hup
             rw [Int.toNat_natCast] at hup
             obtain ⟨ado, eO, hxo⟩ := Kd.at_int (Kd.C_below HO3.out HB.out) (x : Int) (by omega) (by omega)
             subst eO
             rw [gi_rd, Int.toNat_natCast] at hxo
             have hxl : x < og.length := by omega
             have hmem := gi_mem hxl
             have hkk := (HFIT.out.key _).1 hmem
             have hcc := HFIT.out.hc
             have hk : InI (gi og x) := ⟨by omega, by omega⟩
             obtain ⟨k, hkd⟩ : ∃ k, k = gi og x := ⟨_, rfl⟩
             rw [← hkd] at hxo hk hup hmem
             have HUP := Aside0.mk hup
             have HKS := Aside0.mk hmem
             have hxi : x < i := by rw [HN.out]; exact hxl
             have hej : ei < j := by rw [HME.out]; exact hel
             have hfl : 0 < face.length := f1
             have x1 : wr.cell? ⟨bg, 1, none⟩ = some (.slice (some ade) j c0) := heap_cell ((HB.out.block _ (lt_of HX3.out)).trans HX3.out) rfl
             have hol := HN.out
             have hkl : kf.length ≤ 8388608 := by rw [HKF.out, ksF, List.length_map]; exact HFIT.out.hf
             have HOL := Aside0.mk hol
             clear hkd hkk hup hcc hed hmem hgk hx1 h2 hface hh hei f1 f2 f3 hrow hol
             go_wp2_with fail
             go_quiet (fail)
             have HM5 : Aside0 (MapT (wr.drewN nq) bm (i + j + q) og (cntTo og i) (cntTo ke j) (cntTo kf q)) := ⟨HM.out.move rfl⟩
             have HB5 : Aside0 (Below w3.heap.size w3 (wr.drewN nq)) := ⟨⟨HB.out.os, HB.out.tape, HB.out.output, HB.out.size, HB.out.block⟩⟩
             clear hx h0 h1 hxo q5 q6 x1 HM HB
             generalize wr.drewN nq = w5 at HM5 HB5 ⊢
             have la := HM5.out.get hk
             obtain ⟨a0, ha0⟩ : ∃ a0, a0 = (cntTo og i) k := ⟨_, rfl⟩
             obtain ⟨b0, hb0⟩ : ∃ b0, b0 = (cntTo ke j) k := ⟨_, rfl⟩
             obtain ⟨d0, hd0⟩ : ∃ d0, d0 = (cntTo kf q) k := ⟨_, rfl⟩
             rw [← ha0, ← hb0, ← hd0] at la
             replace la : (Instr.lookup 61 (.map (some bm)) (.int .i64 k) false).run Try.prog w5 = .ok (.agg #[.int .i64 a0, .int .i64 b0, .int .i64 d0]) w5 := la
             have HAB : Aside0 (a0 = (cntTo og i) k ∧ b0 = (cntTo ke j) k ∧ d0 = (cntTo kf q) k) := ⟨ha0, hb0, hd0⟩
             have u0 : (w5.alloc (.cells #[.int .i64 a0, .int .i64 b0, .int .i64 d0] 63 (0, 0))).cell? ⟨w5.heap.size, 2, none⟩ = some (.int .i64 d0) := heap_cell (heap_last _ _) rfl
             have u3 : (w5.alloc (.cells #[.int .i64 a0, .int .i64 b0, .int .i64 d0] 63 (0, 0))).frozen? ⟨w5.heap.size, 2, none⟩ = false := heap_free (heap_last _ _) _
             obtain ⟨o1, ho1⟩ : ∃ o1, o1 = d0 + 1 := ⟨_, rfl⟩
             have q1 : IntKind.i64.wrap (d0 + 1) = o1 := by rw [ho1]; exact IntWalk.i64_in _ (by rw [hd0]; have := cntTo_le kf q k; omega)
             have HO1 := Aside0.mk ho1
             clear ha0 hb0 hd0 ho1
             go_upto_region 26 with (fail)
             clear u0 u3 q1
             have HT6 := Aside0.mk (heap_last w5 (.cells #[.int .i64 a0, .int .i64 b0, .int .i64 o1] 63 (0, 0)))
             have hb6 : Below w5.heap.size w5 (w5.alloc (.cells #[.int .i64 a0, .int .i64 b0, .int .i64 o1] 63 (0, 0))) := (Below.refl _ _).alloc (Nat.le_refl _) _
             have HB6 := Aside0.mk (HB5.out.trans (hb6.mono HB5.out.size))
             have HM6 := Aside0.mk (HM5.out.move (hb6.block _ HM5.out.lt))
             clear hb6 la
             generalize w5.alloc (.cells #[.int .i64 a0, .int .i64 b0, .int .i64 o1] 63 (0, 0)) = w6 at HT6 HT6 HB6 HM6 ⊢
             obtain ⟨bt, hbt⟩ : ∃ bt, bt = w5.heap.size := ⟨_, rfl⟩
             rw [← hbt] at HT6 ⊢
             obtain ⟨w7, r7, m7, f7⟩ := MapT.put (w := w6) (HM6.out.move rfl) (by omega) hk a0 b0 o1
             replace r7 : (Instr.mapUpdate 61 (.map (some bm)) (.int .i64 k) (.agg #[.int .i64 a0, .int .i64 b0, .int .i64 o1])).run Try.prog w6 = .ok () w7 := r7
             have HB7 : Aside0 (Below w3.heap.size w3 w7) := ⟨HB6.out.trans (f7.below HB6.out.size (fun k hk => by have := HBM.out; omega))⟩
             have HM7 := Aside0.mk m7
             clear hbt m7 f7 HM6
             have z0 : w6.cell? ⟨bt, 0, none⟩ = some (.int .i64 a0) := heap_cell HT6.out rfl
             have z1 : w6.cell? ⟨bt, 1, none⟩ = some (.int .i64 b0) := heap_cell HT6.out rfl
             have z2 : w6.cell? ⟨bt, 2, none⟩ = some (.int .i64 o1) := heap_cell HT6.out rfl
             go_wp2_with fail
             go_roundw
             case rel =>
               have e := HM7.out
               rw [HAB.out.1, HAB.out.2.1, up_self, up_self, HO1.out, HAB.out.2.2, HUP.out] at e
               exact ⟨q + 1, by go_num, by omega, ⟨e.same (mem_snoc HKS.out)⟩, HB7⟩
             case measure => simp [intOf]; omega
           · obtain rfl : q = L := by omega
             clear hlt hq hmb
             obtain ⟨ms, clock, hbk, hst, hsz, hent, hsum⟩ := HM.out.entries
             have hrg := run_range_map (P := Try.prog) wr 61 3 63 bm ms clock Try.underlying61 hbk
             have hrl : bm < wr.heap.size := HM.out.lt
             obtain ⟨G, hG⟩ : ∃ G : Int → Int, G = fun k => term (cntTo og i k) (cntTo ke j k) (cntTo kf q k) := ⟨_, rfl⟩
             have HTOT : Aside0 ((ms.toList.map fun x => G (valOf x.key)).sum = genusSum og es fs c) := ⟨by
               rw [hsum G c HFIT.out.key, hG]
               unfold genusSum
               rw [← HKE.out, ← HKF.out, ← HN.out, ← HME.out, ← HL.out]⟩
             have HGE : Aside0 (∀ k, G k = term (cntTo og i k) (cntTo ke j k) (cntTo kf q k)) := ⟨fun k => by rw [hG]⟩
             have HENT := Aside0.mk hent
             have HST := Aside0.mk hst
             have HSZ := Aside0.mk hsz
             have HLEN : Aside0 (og.length = i ∧ ke.length = j ∧ kf.length = q ∧ i ≤ 1048576 ∧ j ≤ 4194304 ∧ q ≤ 8388608) := ⟨HN.out.symm, by rw [HKE.out, ksE, List.length_map, HME.out], by rw [HKF.out, ksF, List.length_map, HL.out], hNb, by rw [HME.out]; exact HFIT.out.he, hLb⟩
             have HGB : Aside0 (∀ k, (0 ≤ cntTo og i k ∧ cntTo og i k ≤ 9000000) ∧ (0 ≤ cntTo ke j k ∧ cntTo ke j k ≤ 9000000) ∧ (0 ≤ cntTo kf q k ∧ cntTo kf q k ≤ 9000000)) := ⟨fun k => by
               have h1 := cntTo_le og i k
               have h2 := cntTo_le ke j k
               have h3 := cntTo_le kf q k
               have := HLEN.out
               omega⟩
             have HSB : Aside0 (∀ seen, -400000000000000 ≤ seenG (fun x => G (valOf x.key)) ms.toList seen ∧ seenG (fun x => G (valOf x.key)) ms.toList seen ≤ 400000000000000) := ⟨fun seen => by
               have h1 := seenG_bound (fun x => G (valOf x.key)) seen 20000000 ms.toList (fun x _ => by
                 have := HGB.out (valOf x.key)
                 show _ ≤ G (valOf x.key) ∧ G (valOf x.key) ≤ _
                 rw [HGE.out]
                 exact term_bound this.1 this.2.1 this.2.2)
               have h2 : ms.toList.length ≤ 13631488 := by
                 have := HSZ.out
                 have := HLEN.out
                 rw [Array.length_toList]; omega
               have h3 : ms.toList.length * 20000000 ≤ 13631488 * 20000000 := Nat.mul_le_mul_right _ h2
               omega⟩
             have HMP5 : Aside0 ((wr.alloc (.mapIter (some bm) clock #[] clock)).heap[bm]? = some (.map ms clock)) := ⟨heap_old hbk _⟩
             have HIT5 : Aside0 ((wr.alloc (.mapIter (some bm) clock #[] clock)).heap[wr.heap.size]? = some (.mapIter (some bm) clock #[] clock)) := ⟨heap_last _ _⟩
             have HB5 := Aside0.mk (HB.out.alloc HB.out.size (.mapIter (some bm) clock #[] clock))
             have HRL : Aside0 (w3.heap.size ≤ wr.heap.size ∧ bm ≠ wr.heap.size) := ⟨HB.out.size, by omega⟩
             have HIS5 : Aside0 (seenG (fun x => G (valOf x.key)) ms.toList #[] = 0) := ⟨seenG_none _ _⟩
             clear hG hent hst hsz hsum HM HB hbk hrl
             go_wp2_with fail
             generalize wr.alloc (.mapIter (some bm) clock #[] clock) = w5 at HMP5 HIT5 HB5 ⊢
             obtain ⟨r, hr⟩ : ∃ r, r = wr.heap.size := ⟨_, rfl⟩
             rw [← hr] at HIT5 HRL ⊢
             clear hr hrg
             go_loopw [22] (fun s wr => ∃ (seen : Array Nat) (c1 : Nat), s = .int .i64 (seenG (fun x => G (valOf x.key)) ms.toList seen) ∧ clock ≤ c1 ∧ Aside0 (wr.heap[r]? = some (.mapIter (some bm) clock seen c1)) ∧ Aside0 (wr.heap[bm]? = some (.map ms clock)) ∧ Aside0 (Below w3.heap.size w3 wr)) (fun _ wr => (leftOf ms (wr.iterSeen r)).size)
             case atStart => exact ⟨#[], clock, by rw [HIS5.out], Nat.le_refl _, HIT5, HMP5, HB5⟩
             case round =>
               clear HIS5 HIT5 HMP5 HB5
               obtain ⟨seen, c1, rfl, hc1, HIT, HMP, HB⟩ := hrel
               obtain ⟨sv, hsv⟩ : ∃ sv, sv = seenG (fun x => G (valOf x.key)) ms.toList seen := ⟨_, rfl⟩
               rw [← hsv]
               have HSV := Aside0.mk hsv
               have hsb := HSB.out seen
               rw [← hsv] at hsb
               clear hsv
               have law := run_next_at (P := Try.prog) wr 0 r bm clock c1 seen ms clock HIT.out HMP.out HST.out.1 hc1
               rcases law with ⟨h0, hrun⟩ | ⟨e, he, w1, hw1, hrun⟩
               · have hnx : ∀ ty, (Instr.next (.pointer (some ⟨r, 0, none⟩)) false ty).run Try.prog wr = _ := fun _ => hrun
                 have hfin : sv = genusSum og es fs c := by rw [HSV.out, seenG_all _ _ _ h0, HTOT.out]
                 have HFIN := Aside0.mk hfin
                 have HBF := Aside0.mk (HB3.out.trans (HB.out.mono HB3.out.size))
                 clear hfin h0 hrun
                 go_wp2_with fail
                 go_ret2
                 exact ⟨by rw [HFIN.out]; rfl, HBF.out⟩
               · obtain ⟨k, hkS, hkey, hval⟩ := HENT.out e (mem_left he).1
                 have hgk := HGE.out k
                 have hbb := HGB.out k
                 obtain ⟨a, ha⟩ : ∃ a, a = cntTo og i k := ⟨_, rfl⟩
                 obtain ⟨b, hb⟩ : ∃ b, b = cntTo ke j k := ⟨_, rfl⟩
                 obtain ⟨d, hd⟩ : ∃ d, d = cntTo kf q k := ⟨_, rfl⟩
                 rw [← ha, ← hb, ← hd] at hval hgk hbb
                 replace hval : e.val = .agg #[.int .i64 a, .int .i64 b, .int .i64 d] := hval
                 have hpush := seenG_push (fun x => G (valOf x.key)) seen e (mem_left he).2 ms.toList HST.out.2.1 (mem_left he).1
                 rw [← HSV.out] at hpush
                 have hsb2 := HSB.out (seen.push e.born)
                 rw [hpush] at hsb2
                 have hke : G (valOf e.key) = term a b d := by rw [hkey]; exact hgk
                 simp only [hke] at hpush hsb2
                 have hshr := left_shrinks ms seen e he
                 have hr1 : w1.heap = wr.heap := by rcases hw1 with rfl | rfl <;> rfl
                 have hrlt : r < w1.heap.size := by rw [hr1]; exact lt_of HIT.out
                 have hIT5 : (setBlock w1 r (.mapIter (some bm) clock (seen.push e.born) clock)).heap[r]? = some (.mapIter (some bm) clock (seen.push e.born) clock) := by unfold setBlock; simp only; rw [Array.getElem?_setIfInBounds, if_pos rfl, if_pos hrlt]
                 have hMP5 : (setBlock w1 r (.mapIter (some bm) clock (seen.push e.born) clock)).heap[bm]? = some (.map ms clock) := by
                   unfold setBlock
                   simp only
                   rw [Array.getElem?_setIfInBounds, if_neg (fun e => HRL.out.2 e.symm), hr1]
                   exact HMP.out
                 have hB5 : Below w3.heap.size w3 (setBlock w1 r (.mapIter (some bm) clock (seen.push e.born) clock)) := by
                   have hB1 : Below w3.heap.size w3 w1 := by
                     rcases hw1 with rfl | rfl
                     · exact HB.out
                     · exact HB.out.drew
                   exact hB1.trans (setBlock_below HRL.out.1)
                 rw [hkey, hval] at hrun
                 have hnx : ∀ ty, (Instr.next (.pointer (some ⟨r, 0, none⟩)) false ty).run Try.prog wr = _ := fun _ => hrun
                 have hen := run_entry_at (P := Try.prog) _ r bm clock seen ms clock e hIT5 hMP5 (mem_left he).1 HST.out.2.1
                 rw [hkey, hval] at hen
                 have HIT5 := Aside0.mk hIT5
                 have HMP5 := Aside0.mk hMP5
                 have HB5 := Aside0.mk hB5
                 have HPU := Aside0.mk hpush
                 have HSH : Aside0 ((leftOf ms (seen.push e.born)).size < (leftOf ms (wr.iterSeen r)).size) := ⟨by
                   have : wr.iterSeen r = seen := by unfold World.iterSeen; rw [HIT.out]
                   rw [this]; exact hshr⟩
                 obtain ⟨sn, hsn⟩ : ∃ sn, sn = seen.push e.born := ⟨_, rfl⟩
                 rw [← hsn] at hnx hen HIT5 HMP5 HB5 HPU HSH
                 clear hsn hIT5 hMP5 hB5 hpush hshr hrun hkey hval hke he hw1 hr1 hrlt HIT HMP HB hgk ha hb hd hkS HSV
                 generalize setBlock w1 r (.mapIter (some bm) clock sn clock) = w5 at hnx hen HIT5 HMP5 HB5
                 have HIT6 := Aside0.mk (heap_old HIT5.out (.cells #[.int .i64 a, .int .i64 b, .int .i64 d] 63 (0, 0)))
                 have HMP6 := Aside0.mk (heap_old HMP5.out (.cells #[.int .i64 a, .int .i64 b, .int .i64 d] 63 (0, 0)))
                 have HB6 := Aside0.mk (HB5.out.alloc HB5.out.size (.cells #[.int .i64 a, .int .i64 b, .int .i64 d] 63 (0, 0)))
                 have u0 : (w5.alloc (.cells #[.int .i64 a, .int .i64 b, .int .i64 d] 63 (0, 0))).cell? ⟨w5.heap.size, 0, none⟩ = some (.int .i64 a) := heap_cell (heap_last _ _) rfl
                 have u1 : (w5.alloc (.cells #[.int .i64 a, .int .i64 b, .int .i64 d] 63 (0, 0))).cell? ⟨w5.heap.size, 1, none⟩ = some (.int .i64 b) := heap_cell (heap_last _ _) rfl
                 have u2 : (w5.alloc (.cells #[.int .i64 a, .int .i64 b, .int .i64 d] 63 (0, 0))).cell? ⟨w5.heap.size, 2, none⟩ = some (.int .i64 d) := heap_cell (heap_last _ _) rfl
                 by_cases hb0 : b > 0
                 · have t1 : decide (b > 0) = true := decide_eq_true hb0
                   have hterm : term a b d = Int.tdiv (2 - a + b - d) 2 := by unfold term; rw [if_pos hb0]
                   rw [hterm] at HPU hsb2
                   obtain ⟨p1, hp1⟩ : ∃ p1, p1 = 2 - a := ⟨_, rfl⟩
                   obtain ⟨p2, hp2⟩ : ∃ p2, p2 = p1 + b := ⟨_, rfl⟩
                   obtain ⟨p3, hp3⟩ : ∃ p3, p3 = p2 - d := ⟨_, rfl⟩
                   obtain ⟨p4, hp4⟩ : ∃ p4, p4 = Int.tdiv p3 2 := ⟨_, rfl⟩
                   obtain ⟨p5, hp5⟩ : ∃ p5, p5 = sv + p4 := ⟨_, rfl⟩
                   rw [← hp1, ← hp2, ← hp3, ← hp4, ← hp5] at HPU hsb2
                   have hb4 : -20000000 ≤ p4 ∧ p4 ≤ 20000000 := by rw [hp4, tdiv2]; split <;> omega
                   have q1 : IntKind.i64.wrap (2 - a) = p1 := by rw [← hp1]; exact IntWalk.i64_in _ (by omega)
                   have q2 : IntKind.i64.wrap (p1 + b) = p2 := by rw [← hp2]; exact IntWalk.i64_in _ (by omega)
                   have q3 : IntKind.i64.wrap (p2 - d) = p3 := by rw [← hp3]; exact IntWalk.i64_in _ (by omega)
                   have q4 : Int.tdiv p3 2 = p4 := hp4.symm
                   have q4' : IntKind.i64.wrap p4 = p4 := IntWalk.i64_in _ (by omega)
                   have q5 : IntKind.i64.wrap (sv + p4) = p5 := by rw [← hp5]; exact IntWalk.i64_in _ (by omega)
                   clear hp1 hp2 hp3 hp4 hp5 hb4 hterm hb0 hsb hsb2 hbb
                   go_wp2_with fail
                   clear q1 q2 q3 q4 q4' q5 t1
                   go_roundw
                   case rel => exact ⟨sn, clock, by rw [HPU.out], Nat.le_refl _, HIT6, HMP6, HB6⟩
                   case measure =>
                     have : (w5.alloc (.cells #[.int .i64 a, .int .i64 b, .int .i64 d] 63 (0, 0))).iterSeen r = sn := by unfold World.iterSeen; rw [HIT6.out]
                     rw [this]; exact HSH.out
                 · have t1 : decide (b > 0) = false := decide_eq_false hb0
                   have hterm : term a b d = 0 := by unfold term; rw [if_neg hb0]
                   rw [hterm] at HPU
                   have HPU2 : Aside0 (seenG (fun x => G (valOf x.key)) ms.toList sn = sv) := ⟨by have := HPU.out; omega⟩
                   clear hterm hb0 hsb hsb2 hbb HPU
                   go_wp2_with fail
                   clear t1
                   go_roundw
                   case rel => exact ⟨sn, clock, by rw [HPU2.out], Nat.le_refl _, HIT6, HMP6, HB6⟩
                   case measure =>
                     have : (w5.alloc (.cells #[.int .i64 a, .int .i64 b, .int .i64 d] 63 (0, 0))).iterSeen r = sn := by unfold World.iterSeen; rw [HIT6.out]
                     rw [this]; exact HSH.out
def fitB (og : List Int) (es : List (Int × Int)) (fs : List (List Int)) (c : Nat) : Bool :=
 decide (c ≤ 1048576) && (decide (og.length ≤ 1048576) && (decide (es.length ≤ 4194304) && (decide (fs.length ≤ 8388608) && (og.all (fun x => decide (0 ≤ x ∧ x < (c : Int))) && ((List.range c).all (fun k => og.contains (k : Int)) &&
   (es.all (fun e => decide (0 ≤ e.1 ∧ e.1 < (og.length : Int))) && fs.all fun f => decide (0 < f.length ∧ 0 ≤ gi f 0 ∧ gi f 0 < ((2 * es.length : Nat) : Int))))))))
theorem fit_of {og : List Int} {es : List (Int × Int)} {fs : List (List Int)} {c : Nat} : fitB og es fs c = true ↔ Fit og es fs c := by
 unfold fitB
 simp only [Bool.and_eq_true, decide_eq_true_eq, List.all_eq_true, List.mem_range, List.contains_iff_mem]
 constructor
 · rintro ⟨h1, h2, h3, h4, h5, h6, h7, h8⟩
   refine ⟨h1, h2, h3, h4, fun k => ⟨h5 k, fun h => ?_⟩, fun j hj => ?_, fun q hq => ?_⟩
   · obtain ⟨n, rfl⟩ := Int.eq_ofNat_of_zero_le h.1
     exact h6 n (by omega)
   · have := h7 _ (List.mem_of_getElem? (pe_of hj))
     exact this
   · have := h8 _ (List.mem_of_getElem? (gl_of hq))
     exact this
 · intro h
   refine ⟨h.hc, h.ho, h.he, h.hf, fun x hx => (h.key x).1 hx, fun k hk => (h.key k).2 (by omega), fun e he => ?_, fun f hf => ?_⟩
   · obtain ⟨i, hi, rfl⟩ := List.getElem_of_mem he
     have := h.edge i hi
     have e : pe es i = es[i] := by unfold pe; rw [List.getD_eq_getElem?_getD, List.getElem?_eq_getElem hi]; rfl
     rw [e] at this
     exact this
   · obtain ⟨i, hi, rfl⟩ := List.getElem_of_mem hf
     have := h.face i hi
     have e : gl fs i = fs[i] := by unfold gl; rw [List.getD_eq_getElem?_getD, List.getElem?_eq_getElem hi]; rfl
     rw [e] at this
     exact this
end Go.Proofs.Ytmikcfddipldnaa.Cnt
namespace Go.Proofs.Ytmikcfddipldnaa.Face
open Go.RowKit Go.Proofs.YtmikcfddipldnaaW.PrintWords Go.Proofs.YtmikcfddipldnaaW.PrintLast Go.Proofs.YtmikcfddipldnaaW.PrintMore Go.Proofs.Ytmikcfddipldnaa.Mem
set_option linter.unusedVariables false
set_option linter.unusedSimpArgs false
def markRow (row : List Int) (q : Int) (o : List Int) : Nat → List Int
 | 0 => o
 | i + 1 => (markRow row q o i).set (gi row i).toNat q
def markRows (fs : List (List Int)) (M : Nat) : Nat → List Int
 | 0 => List.replicate M 0
 | q + 1 => markRow (gl fs q) (q : Int) (markRows fs M q) (gl fs q).length
def leftL (fs : List (List Int)) (M : Nat) : List Int := markRows fs M fs.length
theorem markRow_length (row : List Int) (q : Int) (o : List Int) : ∀ i, (markRow row q o i).length = o.length
 | 0 => rfl
 | i + 1 => by show ((markRow row q o i).set _ _).length = _; rw [List.length_set, markRow_length row q o i]
theorem markRows_length (fs : List (List Int)) (M : Nat) : ∀ q, (markRows fs M q).length = M
 | 0 => by simp [markRows]
 | q + 1 => by show (markRow _ _ _ _).length = _; rw [markRow_length, markRows_length fs M q]
structure FitL (fs : List (List Int)) (m : Nat) : Prop where
 hm : m ≤ 4194304
 hf : fs.length ≤ 8388608
 hr : ∀ q, q < fs.length → (gl fs q).length ≤ 8388608
 inn : ∀ q i, q < fs.length → i < (gl fs q).length → 0 ≤ gi (gl fs q) i ∧ gi (gl fs q) i < ((2 * m : Nat) : Int)
def fitL (fs : List (List Int)) (m : Nat) : Bool := decide (m ≤ 4194304) && (decide (fs.length ≤ 8388608) && fs.all fun row => decide (row.length ≤ 8388608) && row.all fun h => decide (0 ≤ h ∧ h < ((2 * m : Nat) : Int)))
theorem fitL_iff {fs : List (List Int)} {m : Nat} : fitL fs m = true ↔ FitL fs m := by
 unfold fitL
 simp only [Bool.and_eq_true, decide_eq_true_eq, List.all_eq_true]
 constructor
 · rintro ⟨h1, h2, h3⟩
   exact ⟨h1, h2, fun q hq => (h3 _ (List.mem_of_getElem? (gl_of hq))).1, fun q i hq hi => (h3 _ (List.mem_of_getElem? (gl_of hq))).2 _ (List.mem_of_getElem? (gi_of hi))⟩
 · intro h
   refine ⟨h.hm, h.hf, fun row hrow => ?_⟩
   obtain ⟨q, hq, rfl⟩ := List.getElem_of_mem hrow
   have e : gl fs q = fs[q] := by unfold gl; rw [List.getD_eq_getElem?_getD, List.getElem?_eq_getElem hq]; rfl
   rw [← e]
   refine ⟨h.hr q hq, fun x hx => ?_⟩
   obtain ⟨i, hi, rfl⟩ := List.getElem_of_mem hx
   have e2 : gi (gl fs q) i = (gl fs q)[i] := by unfold gi; rw [List.getD_eq_getElem?_getD, List.getElem?_eq_getElem hi]; rfl
   rw [← e2]
   exact h.inn q i hq hi
def IntsPost (xs : List Int) (e0 : Int) (w : World) (e : Ending) (w' : World) : Prop := ∃ v0_ : Value, e = .returned (.tuple #[v0_, .int .i64 e0]) ∧ Kd.R (Kd.int .i64) 3 w' w.heap.size (fun _ => True) v0_ xs ∧ Below w.heap.size w w'
def OfSaysL (fs : List (List Int)) (e0 n : Int) (A : Option Addr) (m c : Nat) (Ar : Option Addr) (mr cr : Nat) (w : World) : Prop := ∀ W : World, Below w.heap.size w W →
 Calls Try.prog 10 #[.agg #[.int .i64 n, .slice A m c], .slice Ar mr cr] W fun e w' => ∃ v, e = .returned (.tuple #[v, .int .i64 e0]) ∧ Kd.R (Kd.slice 3 (Kd.int .i64)) 36 w' W.heap.size (fun _ => True) v fs ∧ Below W.heap.size W w'
set_option maxHeartbeats 1000000 in
set_option maxRecDepth 100000 in
theorem left_bad (n : Int) (A : Option Addr) (m c0 : Nat) (Ar : Option Addr) (mr cr : Nat) (e0 : Int) (he : e0 ≠ 0) (fs : List (List Int)) (w : World) (hof : OfSaysL fs e0 n A m c0 Ar mr cr w) :
   Calls Try.prog 15 #[.agg #[.int .i64 n, .slice A m c0], .slice Ar mr cr] w fun e w' => IntsPost [] e0 w e w' := by
 have HOF := Aside0.mk hof
 clear hof
 have HB := Aside0.mk ((Below.refl w.heap.size w).alloc (Nat.le_refl _) (.cells #[.int .i64 n, .slice A m c0] 24 (0, 0)))
 have HX := Aside0.mk (heap_last w (.cells #[.int .i64 n, .slice A m c0] 24 (0, 0)))
 have x0 : (w.alloc (.cells #[.int .i64 n, .slice A m c0] 24 (0, 0))).cell? ⟨w.heap.size, 0, none⟩ = some (.int .i64 n) := heap_cell HX.out rfl
 have x1 : (w.alloc (.cells #[.int .i64 n, .slice A m c0] 24 (0, 0))).cell? ⟨w.heap.size, 1, none⟩ = some (.slice A m c0) := heap_cell HX.out rfl
 have t1 : (e0 != 0) = true := bne_iff_ne.2 he
 go_enter Try.func15, Try.ntmps15
 go_wp2_with fail
 clear x0 x1
 generalize w.alloc (.cells #[.int .i64 n, .slice A m c0] 24 (0, 0)) = w1 at HX HB ⊢
 obtain ⟨bg, hbg⟩ : ∃ bg, bg = w.heap.size := ⟨_, rfl⟩
 rw [← hbg] at HX ⊢
 clear hbg
 refine (HOF.out w1 HB.out).mono ?_
 rintro e' w2 ⟨v, rfl, hR, hb⟩
 obtain ⟨AF, cF, rfl, hcF, hF⟩ := Kd.R_reads hR
 have HX2 := Aside0.mk ((hb.block _ (lt_of HX.out)).trans HX.out)
 have HB2 := Aside0.mk (HB.out.trans (hb.mono HB.out.size))
 have HF2 := Aside0.mk hF
 clear hb HX HB hR hF HOF
 go_wp2_with fail
 go_ret2
 exact ⟨_, rfl, Kd.R_nil _ _ _ _ _, HB2.out⟩
def RefSaysL (fs : List (List Int)) (e0 n : Int) (A : Option Addr) (m c : Nat) (Ar : Option Addr) (mr cr : Nat) (w : World) : Prop := ∀ W : World, Below w.heap.size w W →
 Calls Try.prog 13 #[.agg #[.int .i64 n, .slice A m c], .slice Ar mr cr] W fun e w' => ∃ v, e = .returned (.tuple #[v, .int .i64 e0]) ∧ Kd.R (Kd.slice 3 (Kd.int .i64)) 36 w' W.heap.size (fun _ => True) v fs ∧ Below W.heap.size W w'
set_option maxHeartbeats 1000000 in
set_option maxRecDepth 100000 in
theorem refleft_bad (n : Int) (A : Option Addr) (m c0 : Nat) (Ar : Option Addr) (mr cr : Nat) (e0 : Int) (he : e0 ≠ 0) (fs : List (List Int)) (w : World) (hof : RefSaysL fs e0 n A m c0 Ar mr cr w) :
   Calls Try.prog 16 #[.agg #[.int .i64 n, .slice A m c0], .slice Ar mr cr] w fun e w' => IntsPost [] e0 w e w' := by
 have HOF := Aside0.mk hof
 clear hof
 have HB := Aside0.mk ((Below.refl w.heap.size w).alloc (Nat.le_refl _) (.cells #[.int .i64 n, .slice A m c0] 24 (0, 0)))
 have HX := Aside0.mk (heap_last w (.cells #[.int .i64 n, .slice A m c0] 24 (0, 0)))
 have x0 : (w.alloc (.cells #[.int .i64 n, .slice A m c0] 24 (0, 0))).cell? ⟨w.heap.size, 0, none⟩ = some (.int .i64 n) := heap_cell HX.out rfl
 have x1 : (w.alloc (.cells #[.int .i64 n, .slice A m c0] 24 (0, 0))).cell? ⟨w.heap.size, 1, none⟩ = some (.slice A m c0) := heap_cell HX.out rfl
 have t1 : (e0 != 0) = true := bne_iff_ne.2 he
 go_enter Try.func16, Try.ntmps16
 go_wp2_with fail
 clear x0 x1
 generalize w.alloc (.cells #[.int .i64 n, .slice A m c0] 24 (0, 0)) = w1 at HX HB ⊢
 obtain ⟨bg, hbg⟩ : ∃ bg, bg = w.heap.size := ⟨_, rfl⟩
 rw [← hbg] at HX ⊢
 clear hbg
 refine (HOF.out w1 HB.out).mono ?_
 rintro e' w2 ⟨v, rfl, hR, hb⟩
 obtain ⟨AF, cF, rfl, hcF, hF⟩ := Kd.R_reads hR
 have HX2 := Aside0.mk ((hb.block _ (lt_of HX.out)).trans HX.out)
 have HB2 := Aside0.mk (HB.out.trans (hb.mono HB.out.size))
 have HF2 := Aside0.mk hF
 clear hb HX HB hR hF HOF
 go_wp2_with fail
 go_ret2
 exact ⟨_, rfl, Kd.R_nil _ _ _ _ _, HB2.out⟩
set_option maxHeartbeats 4000000 in
set_option maxRecDepth 100000 in
theorem left_ok (n : Int) (A : Option Addr) (m c0 : Nat) (Ar : Option Addr) (mr cr : Nat) (fs : List (List Int)) (w : World) (hfit : FitL fs m) (hof : OfSaysL fs 0 n A m c0 Ar mr cr w) :
   Calls Try.prog 15 #[.agg #[.int .i64 n, .slice A m c0], .slice Ar mr cr] w fun e w' => IntsPost (leftL fs (2 * m)) 0 w e w' := by
 have HOF := Aside0.mk hof
 have HFIT := Aside0.mk hfit
 have hm := hfit.hm
 have hfl := hfit.hf
 obtain ⟨M, hM⟩ : ∃ M, M = 2 * m := ⟨_, rfl⟩
 rw [← hM]
 have HM := Aside0.mk hM
 have hMb : M ≤ 8388608 := by omega
 have q : IntKind.i64.wrap (2 * (m : Int)) = (M : Int) := by rw [IntWalk.i64_in _ (by omega)]; omega
 have mk := print_make (P := Try.prog) 36 3 .i64 8 Try.underlying36 info_int (by decide) M (by omega)
 have hMm : 2 * (m : Int) = (M : Int) := by omega
 clear hof hfit hM
 have HB := Aside0.mk ((Below.refl w.heap.size w).alloc (Nat.le_refl _) (.cells #[.int .i64 n, .slice A m c0] 24 (0, 0)))
 have HX := Aside0.mk (heap_last w (.cells #[.int .i64 n, .slice A m c0] 24 (0, 0)))
 have x0 : (w.alloc (.cells #[.int .i64 n, .slice A m c0] 24 (0, 0))).cell? ⟨w.heap.size, 0, none⟩ = some (.int .i64 n) := heap_cell HX.out rfl
 have x1 : (w.alloc (.cells #[.int .i64 n, .slice A m c0] 24 (0, 0))).cell? ⟨w.heap.size, 1, none⟩ = some (.slice A m c0) := heap_cell HX.out rfl
 go_enter Try.func15, Try.ntmps15
 go_wp2_with fail
 clear x0 x1
 generalize w.alloc (.cells #[.int .i64 n, .slice A m c0] 24 (0, 0)) = w1 at HX HB ⊢
 obtain ⟨bg, hbg⟩ : ∃ bg, bg = w.heap.size := ⟨_, rfl⟩
 rw [← hbg] at HX ⊢
 clear hbg
 refine (HOF.out w1 HB.out).mono ?_
 rintro e' w2 ⟨v, rfl, hR, hb⟩
 obtain ⟨AF, cF, rfl, hcF, hF⟩ := Kd.R_reads hR
 have HX2 := Aside0.mk ((hb.block _ (lt_of HX.out)).trans HX.out)
 have HB2 := Aside0.mk (HB.out.trans (hb.mono HB.out.size))
 have HF2 := Aside0.mk hF
 clear hb HX HB hR hF HOF
 have x1 : w2.cell? ⟨bg, 1, none⟩ = some (.slice A m c0) := heap_cell HX2.out rfl
 go_upto_region 5 with (fail)
 clear x1 mk
 obtain ⟨bn, hbn⟩ : ∃ bn, bn = w2.heap.size := ⟨_, rfl⟩
 have HT : Aside0 (IRow (w2.alloc (.cells (madeCells #[.int .i64 0] M) 3 (0, 0))) bn (markRows fs M 0)) := ⟨by
   rw [made_int, hbn]
   exact IRow.start w2 M⟩
 have HBB := Aside0.mk ((Below.refl w2.heap.size w2).alloc (Nat.le_refl _) (.cells (madeCells #[.int .i64 0] M) 3 (0, 0)))
 have HLO : Aside0 (w2.heap.size ≤ bn) := ⟨by omega⟩
 rw [← hbn]
 clear hbn HX2
 generalize w2.alloc (.cells (madeCells #[.int .i64 0] M) 3 (0, 0)) = w3 at HT HBB ⊢
 clear hMm q
 go_wp2_with fail
 go_loopw [29] (fun y wr => ∃ (q : Nat), y = .int .i64 (q : Int) ∧ q ≤ fs.length ∧ Aside0 (IRow wr bn (markRows fs M q)) ∧ Aside0 (Below w2.heap.size w2 wr)) (fun y _ => fs.length - (intOf y).toNat)
 case atStart => exact ⟨0, rfl, by omega, HT, HBB⟩
 case round =>
   clear HT HBB
   obtain ⟨q, rfl, hq, HT, HBB⟩ := hrel
   by_cases hlt : q < fs.length
   · obtain ⟨ad, D, cD, eA, hx0, hcD, hrow⟩ := row_at HF2.out hlt
     subst eA
     have hrl2 := HFIT.out.hr q hlt
     have hin := HFIT.out.inn q
     obtain ⟨row, hrw⟩ : ∃ row, row = gl fs q := ⟨_, rfl⟩
     rw [← hrw] at hx0 hcD hrow hrl2 hin
     have HROW := Aside0.mk hrow
     have HXC := Aside0.mk hx0
     have HRW := Aside0.mk hrw
     have HIN := Aside0.mk hin
     have hx := (HBB.out.cell (cell_lt hx0)).trans hx0
     have HT0 : Aside0 (IRow wr bn (markRow row (q : Int) (markRows fs M q) 0)) := HT
     clear hrow hx0 hrw HT hin
     go_wp2_with fail
     clear hx
     go_loopw [36] (fun y wr => ∃ (i : Nat), y = .int .i64 (i : Int) ∧ i ≤ row.length ∧ Aside0 (IRow wr bn (markRow row (q : Int) (markRows fs M q) i)) ∧ Aside0 (Below w2.heap.size w2 wr)) (fun y _ => row.length - (intOf y).toNat)
     case atStart => exact ⟨0, rfl, by omega, HT0, HBB⟩
     case round =>
       clear HT0 HBB
       obtain ⟨i, rfl, hi, HT, HBB⟩ := hrel
       have hx := (HBB.out.cell (cell_lt HXC.out)).trans HXC.out
       by_cases hil : i < row.length
       · have hin := HIN.out i hlt hil
         obtain ⟨h, hh⟩ : ∃ h : Nat, gi row i = (h : Int) := ⟨(gi row i).toNat, by omega⟩
         have hhM : h < M := by rw [hh] at hin; have := HM.out; omega
         obtain ⟨ad2, eD, hxu⟩ := Kd.at_int (Kd.C_below HROW.out HBB.out) (i : Int) (by omega) (by omega)
         rw [gi_rd, Int.toNat_natCast, hh] at hxu
         have c1 := HT.out.cell (i := h) (by rw [markRow_length, markRows_length]; exact hhM)
         have f1 := HT.out.free h
         have HT2 : Aside0 (IRow (wr.setCell ⟨bn, h, none⟩ (.int .i64 (q : Int))) bn (markRow row (q : Int) (markRows fs M q) (i + 1))) := ⟨by
           have h1 := HT.out.put h (q : Int)
           show IRow _ bn ((markRow row (q : Int) (markRows fs M q) i).set (gi row i).toNat (q : Int))
           rw [hh, Int.toNat_natCast]
           exact h1⟩
         have HB2 := Aside0.mk (HBB.out.setCell (p := ⟨bn, h, none⟩) HLO.out (.int .i64 (q : Int)))
         subst eD
         clear hin hh
         go_wp2_with fail
         clear hx hxu c1 f1
         go_roundw
         case rel => exact ⟨i + 1, by go_num, by omega, HT2, HB2⟩
         case measure => simp [intOf]; omega
       · obtain rfl : i = row.length := by omega
         have HT3 : Aside0 (IRow wr bn (markRows fs M (q + 1))) := ⟨by show IRow wr bn (markRow (gl fs q) (q : Int) (markRows fs M q) (gl fs q).length); rw [← HRW.out]; exact HT.out⟩
         go_wp2_with fail
         go_roundw
         case rel => exact ⟨q + 1, by go_num, by omega, HT3, HBB⟩
         case measure => simp [intOf]; omega
   · obtain rfl : q = fs.length := by omega
     have HBF := Aside0.mk (HB2.out.trans (HBB.out.mono HB2.out.size))
     have HLW : Aside0 (w.heap.size ≤ bn) := ⟨Nat.le_trans HB2.out.size HLO.out⟩
     go_wp2_with fail
     go_ret2
     have h1 := HT.out.own (base := w.heap.size) (ok := fun _ => True) HLW.out (by rw [markRows_length]; omega) trivial
     rw [markRows_length] at h1
     exact ⟨_, rfl, h1, HBF.out⟩
set_option maxHeartbeats 4000000 in
set_option maxRecDepth 100000 in
theorem refleft_ok (n : Int) (A : Option Addr) (m c0 : Nat) (Ar : Option Addr) (mr cr : Nat) (fs : List (List Int)) (w : World) (hfit : FitL fs m) (hof : RefSaysL fs 0 n A m c0 Ar mr cr w) :
   Calls Try.prog 16 #[.agg #[.int .i64 n, .slice A m c0], .slice Ar mr cr] w fun e w' => IntsPost (leftL fs (2 * m)) 0 w e w' := by
 have HOF := Aside0.mk hof
 have HFIT := Aside0.mk hfit
 have hm := hfit.hm
 have hfl := hfit.hf
 obtain ⟨M, hM⟩ : ∃ M, M = 2 * m := ⟨_, rfl⟩
 rw [← hM]
 have HM := Aside0.mk hM
 have hMb : M ≤ 8388608 := by omega
 have q : IntKind.i64.wrap (2 * (m : Int)) = (M : Int) := by rw [IntWalk.i64_in _ (by omega)]; omega
 have mk := print_make (P := Try.prog) 36 3 .i64 8 Try.underlying36 info_int (by decide) M (by omega)
 have hMm : 2 * (m : Int) = (M : Int) := by omega
 clear hof hfit hM
 have HB := Aside0.mk ((Below.refl w.heap.size w).alloc (Nat.le_refl _) (.cells #[.int .i64 n, .slice A m c0] 24 (0, 0)))
 have HX := Aside0.mk (heap_last w (.cells #[.int .i64 n, .slice A m c0] 24 (0, 0)))
 have x0 : (w.alloc (.cells #[.int .i64 n, .slice A m c0] 24 (0, 0))).cell? ⟨w.heap.size, 0, none⟩ = some (.int .i64 n) := heap_cell HX.out rfl
 have x1 : (w.alloc (.cells #[.int .i64 n, .slice A m c0] 24 (0, 0))).cell? ⟨w.heap.size, 1, none⟩ = some (.slice A m c0) := heap_cell HX.out rfl
 go_enter Try.func16, Try.ntmps16
 go_wp2_with fail
 clear x0 x1
 generalize w.alloc (.cells #[.int .i64 n, .slice A m c0] 24 (0, 0)) = w1 at HX HB ⊢
 obtain ⟨bg, hbg⟩ : ∃ bg, bg = w.heap.size := ⟨_, rfl⟩
 rw [← hbg] at HX ⊢
 clear hbg
 refine (HOF.out w1 HB.out).mono ?_
 rintro e' w2 ⟨v, rfl, hR, hb⟩
 obtain ⟨AF, cF, rfl, hcF, hF⟩ := Kd.R_reads hR
 have HX2 := Aside0.mk ((hb.block _ (lt_of HX.out)).trans HX.out)
 have HB2 := Aside0.mk (HB.out.trans (hb.mono HB.out.size))
 have HF2 := Aside0.mk hF
 clear hb HX HB hR hF HOF
 have x1 : w2.cell? ⟨bg, 1, none⟩ = some (.slice A m c0) := heap_cell HX2.out rfl
 go_upto_region 5 with (fail)
 clear x1 mk
 obtain ⟨bn, hbn⟩ : ∃ bn, bn = w2.heap.size := ⟨_, rfl⟩
 have HT : Aside0 (IRow (w2.alloc (.cells (madeCells #[.int .i64 0] M) 3 (0, 0))) bn (markRows fs M 0)) := ⟨by
   rw [made_int, hbn]
   exact IRow.start w2 M⟩
 have HBB := Aside0.mk ((Below.refl w2.heap.size w2).alloc (Nat.le_refl _) (.cells (madeCells #[.int .i64 0] M) 3 (0, 0)))
 have HLO : Aside0 (w2.heap.size ≤ bn) := ⟨by omega⟩
 rw [← hbn]
 clear hbn HX2
 generalize w2.alloc (.cells (madeCells #[.int .i64 0] M) 3 (0, 0)) = w3 at HT HBB ⊢
 clear hMm q
 go_wp2_with fail
 go_loopw [9] (fun y wr => ∃ (q : Nat), y = .int .i64 (q : Int) ∧ q ≤ fs.length ∧ Aside0 (IRow wr bn (markRows fs M q)) ∧ Aside0 (Below w2.heap.size w2 wr)) (fun y _ => fs.length - (intOf y).toNat)
 case atStart => exact ⟨0, rfl, by omega, HT, HBB⟩
 case round =>
   clear HT HBB
   obtain ⟨q, rfl, hq, HT, HBB⟩ := hrel
   by_cases hlt : q < fs.length
   · obtain ⟨ad, D, cD, eA, hx0, hcD, hrow⟩ := row_at HF2.out hlt
     subst eA
     have hrl2 := HFIT.out.hr q hlt
     have hin := HFIT.out.inn q
     obtain ⟨row, hrw⟩ : ∃ row, row = gl fs q := ⟨_, rfl⟩
     rw [← hrw] at hx0 hcD hrow hrl2 hin
     have HROW := Aside0.mk hrow
     have HXC := Aside0.mk hx0
     have HRW := Aside0.mk hrw
     have HIN := Aside0.mk hin
     have hx := (HBB.out.cell (cell_lt hx0)).trans hx0
     have HT0 : Aside0 (IRow wr bn (markRow row (q : Int) (markRows fs M q) 0)) := HT
     clear hrow hx0 hrw HT hin
     go_wp2_with fail
     clear hx
     go_loopw [10] (fun y wr => ∃ (i : Nat), y = .int .i64 (i : Int) ∧ i ≤ row.length ∧ Aside0 (IRow wr bn (markRow row (q : Int) (markRows fs M q) i)) ∧ Aside0 (Below w2.heap.size w2 wr)) (fun y _ => row.length - (intOf y).toNat)
     case atStart => exact ⟨0, rfl, by omega, HT0, HBB⟩
     case round =>
       clear HT0 HBB
       obtain ⟨i, rfl, hi, HT, HBB⟩ := hrel
       have hx := (HBB.out.cell (cell_lt HXC.out)).trans HXC.out
       by_cases hil : i < row.length
       · have hin := HIN.out i hlt hil
         obtain ⟨h, hh⟩ : ∃ h : Nat, gi row i = (h : Int) := ⟨(gi row i).toNat, by omega⟩
         have hhM : h < M := by rw [hh] at hin; have := HM.out; omega
         obtain ⟨ad2, eD, hxu⟩ := Kd.at_int (Kd.C_below HROW.out HBB.out) (i : Int) (by omega) (by omega)
         rw [gi_rd, Int.toNat_natCast, hh] at hxu
         have c1 := HT.out.cell (i := h) (by rw [markRow_length, markRows_length]; exact hhM)
         have f1 := HT.out.free h
         have HT2 : Aside0 (IRow (wr.setCell ⟨bn, h, none⟩ (.int .i64 (q : Int))) bn (markRow row (q : Int) (markRows fs M q) (i + 1))) := ⟨by
           have h1 := HT.out.put h (q : Int)
           show IRow _ bn ((markRow row (q : Int) (markRows fs M q) i).set (gi row i).toNat (q : Int))
           rw [hh, Int.toNat_natCast]
           exact h1⟩
         have HB2 := Aside0.mk (HBB.out.setCell (p := ⟨bn, h, none⟩) HLO.out (.int .i64 (q : Int)))
         subst eD
         clear hin hh
         go_wp2_with fail
         clear hx hxu c1 f1
         go_roundw
         case rel => exact ⟨i + 1, by go_num, by omega, HT2, HB2⟩
         case measure => simp [intOf]; omega
       · obtain rfl : i = row.length := by omega
         have HT3 : Aside0 (IRow wr bn (markRows fs M (q + 1))) := ⟨by show IRow wr bn (markRow (gl fs q) (q : Int) (markRows fs M q) (gl fs q).length); rw [← HRW.out]; exact HT.out⟩
         go_wp2_with fail
         go_roundw
         case rel => exact ⟨q + 1, by go_num, by omega, HT3, HBB⟩
         case measure => simp [intOf]; omega
   · obtain rfl : q = fs.length := by omega
     have HBF := Aside0.mk (HB2.out.trans (HBB.out.mono HB2.out.size))
     have HLW : Aside0 (w.heap.size ≤ bn) := ⟨Nat.le_trans HB2.out.size HLO.out⟩
     go_wp2_with fail
     go_ret2
     have h1 := HT.out.own (base := w.heap.size) (ok := fun _ => True) HLW.out (by rw [markRows_length]; omega) trivial
     rw [markRows_length] at h1
     exact ⟨_, rfl, h1, HBF.out⟩
end Go.Proofs.Ytmikcfddipldnaa.Face
