/- DERIVED. Texts of this seat, one behind the other: lemmas and walks that the statement CanonNames needs. No condition. -/
import Derived.Test.YteeihjpnhjnknaaCCanonNamesb
import Derived.Deep.Onto
import Derived.Deep.QuietTactic
import Derived.BigQuiet
import Derived.StillTailTactics
namespace Go.Proofs.Yteeihjpnhjnknaa.Mk
open Go.RowKit Go.Proofs.YteeihjpnhjnknaaW.PrintWords Go.Proofs.YteeihjpnhjnknaaW.PrintLast Go.Proofs.YteeihjpnhjnknaaW.PrintMore Go.Proofs.Yteeihjpnhjnknaa.Mem
set_option linter.unusedVariables false
set_option linter.unusedSimpArgs false
def lessB (x y : Int × Int) : Bool := decide (x.1 < y.1) || (x.1 == y.1 && decide (x.2 < y.2))
def kp : Kd (Int × Int) where
 sz := 2
 E := []
 K := fun _ x cs => cs = [.int .i64 x.1, .int .i64 x.2]
 M := fun _ _ _ x cs => cs = [.int .i64 x.1, .int .i64 x.2]
 K_len := fun h => by rw [h]; rfl
 K_one := fun h => by rw [h]; intro u hu; simp only [List.mem_cons, List.not_mem_nil, or_false] at hu; rcases hu with rfl | rfl <;> rfl
 K_below := fun _ h => h
 K_of_M := fun h => h
 M_mono := fun _ h => h
 M_bound := fun h => h
 M_move := fun _ h => h
 M_lower := fun _ h => h
def PR (w : World) (A : Option Addr) (l : List (Int × Int)) : Prop := ∀ i, i < l.length → ∃ g, A = some ⟨g, 0, none⟩ ∧ w.cell? ⟨g, i * 2, none⟩ = some (.int .i64 (pe l i).1) ∧ w.cell? ⟨g, i * 2 + 1, none⟩ = some (.int .i64 (pe l i).2)
theorem PR.below {w w' : World} {A : Option Addr} {l : List (Int × Int)} (h : PR w A l) (hb : Below w.heap.size w w') : PR w' A l := fun i hi => by
 obtain ⟨g, e, h1, h2⟩ := h i hi
 exact ⟨g, e, (hb.cell (cell_lt h1)).trans h1, (hb.cell (cell_lt h2)).trans h2⟩
theorem PR.of_R {w : World} {e base : Nat} {ok : Nat → Prop} {A : Option Addr} {n c : Nat} {l : List (Int × Int)} (h : Kd.R kp e w base ok (.slice A n c) l) : PR w A l := by
 intro i hi
 obtain ⟨e1, e2, hC⟩ := Kd.R_reads' h
 obtain ⟨ad, e3, h3⟩ := hC.2.2 (by omega)
 subst e3
 obtain ⟨g, rfl⟩ := Kd.R_head h
 obtain ⟨cs, hcs, hK, hcell⟩ := h3 i _ (pe_of hi)
 have hK' : cs = [.int .i64 (pe l i).1, .int .i64 (pe l i).2] := hK
 subst hK'
 have h0 := hcell 0 _ rfl
 have h1 := hcell 1 _ rfl
 rw [show kp.sz = 2 from rfl, add_plain] at h0 h1
 exact ⟨g, rfl, h0, h1⟩
def ahead (l : List (Int × Int)) (x : Int × Int) : Nat := (l.takeWhile fun y => lessB y x).length
theorem ahead_le (l : List (Int × Int)) (x : Int × Int) : ahead l x ≤ l.length := by
 unfold ahead
 exact (List.takeWhile_prefix _).length_le
theorem tw_pos {y x : Int × Int} {t : List (Int × Int)} (h : lessB y x = true) : (y :: t).takeWhile (fun y => lessB y x) = y :: t.takeWhile (fun y => lessB y x) := List.takeWhile_cons_of_pos h
theorem tw_neg {y x : Int × Int} {t : List (Int × Int)} (h : ¬ lessB y x = true) : (y :: t).takeWhile (fun y => lessB y x) = [] := List.takeWhile_cons_of_neg h
theorem ahead_lt (l : List (Int × Int)) (x : Int × Int) : ∀ i, i < ahead l x → lessB (pe l i) x = true := by
 induction l with
 | nil => intro i hi; simp [ahead] at hi
 | cons y t ih =>
  intro i hi
  unfold ahead at hi
  by_cases h : lessB y x = true
  ·rw [tw_pos h] at hi
   cases i with
   | zero => exact h
   | succ i => exact ih i (by simpa [ahead] using hi)
  ·rw [tw_neg h] at hi
   simp at hi
theorem ahead_at (l : List (Int × Int)) (x : Int × Int) : ahead l x < l.length → lessB (pe l (ahead l x)) x = false := by
 induction l with
 | nil => intro h; simp [ahead] at h
 | cons y t ih =>
  intro hi
  unfold ahead at hi ⊢
  by_cases h : lessB y x = true
  ·rw [tw_pos h] at hi ⊢
   exact ih (by simpa [ahead] using hi)
  ·rw [tw_neg h]
   simpa [pe] using h
def putL (l : List (Int × Int)) (x : Int × Int) : List (Int × Int) := if ahead l x < l.length ∧ pe l (ahead l x) = x then l else l.take (ahead l x) ++ x :: l.drop (ahead l x)
set_option maxHeartbeats 1000000 in
set_option maxRecDepth 100000 in
theorem less_calls (a b c d : Int) (w : World) :
  Calls Try.prog 65 #[.agg #[.int .i64 a, .int .i64 b], .agg #[.int .i64 c, .int .i64 d]] w fun e w' => e = .returned (.bool (lessB (a, b) (c, d))) ∧ Below w.heap.size w w' := by
 have HB : Aside0 (Below w.heap.size w ((w.alloc (.cells #[.int .i64 a, .int .i64 b] 89 (0, 0))).alloc (.cells #[.int .i64 c, .int .i64 d] 89 (0, 0)))) := ⟨((Below.refl w.heap.size w).alloc (Nat.le_refl _) _).alloc (by simp) _⟩
 by_cases h1 : a < c
 ·have s1 : decide (a < c) = true := decide_eq_true h1
  have e0 : lessB (a, b) (c, d) = true := by unfold lessB; simp [h1]
  have HE := Aside0.mk e0
  clear h1 e0
  go_enter Try.func65, Try.ntmps65
  go_wp2_with fail
  go_ret
  exact ⟨by rw [HE.out]; rfl, HB.out⟩
 ·have s1 : decide (a < c) = false := decide_eq_false h1
  by_cases h2 : a = c
  ·subst h2
   have s2 : (a == a) = true := beq_self_eq_true a
   obtain ⟨q, hq⟩ : ∃ q, q = decide (b < d) := ⟨_, rfl⟩
   have HE : Aside0 (lessB (a, b) (a, d) = q) := ⟨by unfold lessB; simp [hq]⟩
   have s3 : decide (b < d) = q := hq.symm
   clear h1 hq
   go_enter Try.func65, Try.ntmps65
   go_wp2_with fail
   go_ret
   exact ⟨by rw [HE.out]; rfl, HB.out⟩
  ·have s2 : (a == c) = false := beq_eq_false_iff_ne.2 h2
   have HE : Aside0 (lessB (a, b) (c, d) = false) := ⟨by unfold lessB; simp [h1, h2]⟩
   clear h1 h2
   go_enter Try.func65, Try.ntmps65
   go_wp2_with fail
   go_ret
   exact ⟨by rw [HE.out]; rfl, HB.out⟩
theorem ValB.below_drewN {k : Nat} {a b : World} (h : Below k a b) (m : Nat) : Below k a (b.drewN m) := ⟨h.os, h.tape, h.output, h.size, h.block⟩
theorem info_edge : (Try.prog.info? 89).map (fun i => (i.zero, i.size, i.bytes)) = some (some (.agg #[.int .i64 0, .int .i64 0]), 2, 16) := by kernel_rfl
def joined (l : List (Int × Int)) (K : Nat) (x : Int × Int) (i : Nat) : List (Int × Int) := l.take K ++ [x] ++ (l.take i).drop K
theorem joined_length {l : List (Int × Int)} {K : Nat} (x : Int × Int) {i : Nat} (hi : i ≤ l.length) (hK : K ≤ i) : (joined l K x i).length = i + 1 := by unfold joined; simp; omega
theorem joined_snoc {l : List (Int × Int)} {K : Nat} {x : Int × Int} {i : Nat} (hK : K ≤ i) (hi : i < l.length) : joined l K x i ++ [pe l i] = joined l K x (i + 1) := by
 unfold joined
 rw [List.append_assoc]
 congr 1
 rw [List.take_add_one, pe_of hi, List.drop_append_of_le_length (by simp; omega)]
 rfl
set_option maxHeartbeats 4000000 in
set_option maxRecDepth 100000 in
theorem put_calls (A : Option Addr) (c : Nat) (l : List (Int × Int)) (x1 x2 : Int) (w : World) (hp : PR w A l) (hl : l.length ≤ 8000000000) (hc : l.length ≤ c) :
  Calls Try.prog 62 #[.slice A l.length c, .agg #[.int .i64 x1, .int .i64 x2]] w fun e w' => Below w.heap.size w w' ∧ ∃ v, e = .returned v ∧ ((putL l (x1, x2) = l ∧ v = .slice A l.length c) ∨ Kd.R kp 89 w' w.heap.size (fun _ => True) v (putL l (x1, x2))) := by
 have HB : Aside0 (Below w.heap.size w (w.alloc (.cells #[.int .i64 x1, .int .i64 x2] 89 (0, 0)))) := ⟨(Below.refl w.heap.size w).alloc (Nat.le_refl _) _⟩
 have HX := Aside0.mk (heap_last w (.cells #[.int .i64 x1, .int .i64 x2] 89 (0, 0)))
 have HP0 := Aside0.mk hp
 obtain ⟨b, hb⟩ : ∃ b, b = w.heap.size := ⟨_, rfl⟩
 obtain ⟨K, hK⟩ : ∃ K, K = ahead l (x1, x2) := ⟨_, rfl⟩
 have HK := Aside0.mk hK
 have hKl : K ≤ l.length := by rw [hK]; exact ahead_le _ _
 rw [← hb] at HX
 clear hp hK
 go_enter Try.func62, Try.ntmps62
 go_wp2_with fail
 rw [← hb]
 have HBB := Aside0.mk hb
 clear hb
 have HO : Aside0 (Kd.R kp 89 (w.alloc (.cells #[.int .i64 x1, .int .i64 x2] 89 (0, 0))) w.heap.size (fun _ => True) (.slice none 0 0) (l.take 0)) := ⟨Kd.R_nil _ _ _ _ _⟩
 go_loopw [5, 6] (fun u y ws => ∃ (i : Nat) (Ao : Option Addr) (co : Nat), u = .slice Ao i co ∧ y = .int .i64 (i : Int) ∧ i ≤ K ∧ Aside0 (Kd.R kp 89 ws w.heap.size (fun _ => True) (.slice Ao i co) (l.take i)) ∧ Aside0 (Below w.heap.size w ws) ∧ Aside0 (ws.heap[b]? = some (.cells #[.int .i64 x1, .int .i64 x2] 89 (0, 0))) ∧ Aside0 (∀ k, (Value.slice Ao i co).ownBlock = some k → b ≠ k)) (fun _ y _ => l.length - (intOf y).toNat)
 case atStart => exact ⟨0, none, 0, rfl, rfl, by omega, HO, HB, HX, ⟨fun k hk => by simp [Value.ownBlock] at hk⟩⟩
 case round =>
  clear HO HB HX
  obtain ⟨i, Ao, co, rfl, rfl, hi, HO, HB, HX, HOB⟩ := hrel
  by_cases hlt : i < l.length
  ·have HP := Aside0.mk (HP0.out.below HB.out)
   obtain ⟨g, rfl, y1, y2⟩ := HP.out i hlt
   obtain ⟨p1, hp1⟩ : ∃ p1, p1 = (pe l i).1 := ⟨_, rfl⟩
   obtain ⟨p2, hp2⟩ : ∃ p2, p2 = (pe l i).2 := ⟨_, rfl⟩
   rw [← hp1] at y1
   rw [← hp2] at y2
   have HPP : Aside0 (pe l i = (p1, p2)) := ⟨by rw [hp1, hp2]⟩
   have y3 : wr.cell? ⟨b, 0, none⟩ = some (.int .i64 x1) := heap_cell HX.out rfl
   have y4 : wr.cell? ⟨b, 1, none⟩ = some (.int .i64 x2) := heap_cell HX.out rfl
   clear hp1 hp2
   by_cases hik : i < K
   ·have HLS : Aside0 (∀ W : World, Calls Try.prog 65 #[.agg #[.int .i64 p1, .int .i64 p2], .agg #[.int .i64 x1, .int .i64 x2]] W fun e w' => e = .returned (.bool true) ∧ Below W.heap.size W w') := ⟨fun W => by
     have h := less_calls p1 p2 x1 x2 W
     rw [← HPP.out, ahead_lt l (x1, x2) i (by rw [← HK.out]; exact hik)] at h
     exact h⟩
    go_upto_region 4 with (fail)
    refine start_ (n := 7) (S := fun w' => w'.cell? ⟨g, i * 2, none⟩ = some (.int .i64 p1) ∧ w'.cell? ⟨g, i * 2 + 1, none⟩ = some (.int .i64 p2) ∧ w'.cell? ⟨b, 0, none⟩ = some (.int .i64 x1) ∧ w'.cell? ⟨b, 1, none⟩ = some (.int .i64 x2)) (ds := [5]) #[false, false, false, false, false, false, false] (by kernel_rfl) rfl rfl ⟨y1, y2, y3, y4⟩ (fun hHeld => ?_)
    refine pure_ (i := 0) (N := some 12) (v := ?_) (a' := ?_) #[true, false, false, false, false, false, false] rfl rfl (by kernel_rfl) (fun _ _ _ h => h) (Or.inl ⟨by rfl, ?_⟩) ?_ ?_
    rotate_left
    ·intro w'
     go_simp
     with_reducible rfl
    rotate_left
    ·simp only [Act.put, List.setIfInBounds_toArray, List.set_cons_zero, List.set_cons_succ, i64_w, i32_w]
     rfl
    refine pure_ (i := 1) (N := some 13) (v := ?_) (a' := ?_) #[true, true, false, false, false, false, false] rfl rfl (by kernel_rfl) (fun _ _ _ h => h) (Or.inl ⟨by rfl, ?_⟩) ?_ ?_
    rotate_left
    ·intro w'
     go_simp
     with_reducible rfl
    rotate_left
    ·simp only [Act.put, List.setIfInBounds_toArray, List.set_cons_zero, List.set_cons_succ, i64_w, i32_w]
     rfl
    refine pure_ (i := 2) (N := some 14) (v := ?_) (a' := ?_) #[true, true, true, false, false, false, false] rfl rfl (by kernel_rfl) (fun _ _ _ h => h) (Or.inl ⟨by rfl, ?_⟩) ?_ ?_
    rotate_left
    ·intro w'
     go_simp
     with_reducible rfl
    rotate_left
    ·simp only [Act.put, List.setIfInBounds_toArray, List.set_cons_zero, List.set_cons_succ, i64_w, i32_w]
     rfl
    refine take_ (i := 3) (N := some 15) (v := ?_) (a' := ?_) #[true, true, true, true, false, false, false] rfl rfl (by kernel_rfl) (fun _ _ _ h => h) (Or.inl ⟨by rfl, ?_⟩) hHeld ?_ ?_
    rotate_left
    ·rintro w' ⟨s0, s1, s2, s3⟩
     go_simp
     with_reducible rfl
    rotate_left
    ·simp only [Act.put, List.setIfInBounds_toArray, List.set_cons_zero, List.set_cons_succ, i64_w, i32_w]
     rfl
    refine take_ (i := 4) (N := some 16) (v := ?_) (a' := ?_) #[true, true, true, true, true, false, false] rfl rfl (by kernel_rfl) (fun _ _ _ h => h) (Or.inl ⟨by rfl, ?_⟩) hHeld ?_ ?_
    rotate_left
    ·rintro w' ⟨s0, s1, s2, s3⟩
     go_simp
     with_reducible rfl
    rotate_left
    ·simp only [Act.put, List.setIfInBounds_toArray, List.set_cons_zero, List.set_cons_succ, i64_w, i32_w]
     rfl
    refine last_ (i := 5) (N := some 17) #[true, true, true, true, true, true, false] rfl rfl (by kernel_rfl) (by decide) (fun K hK => ?_)
    refine goes_ Try.func65 (by kernel_rfl) rfl #[.agg #[.int .i64 p1, .int .i64 p2], .agg #[.int .i64 x1, .int .i64 x2]] (by rfl) rfl rfl (by simp only [List.map_toArray, List.map_cons, List.map_nil]; rfl) ?_
    with_reducible refine (HLS.out _).mono ?_
    rintro e' w5 ⟨rfl, hb⟩
    refine ⟨_, rfl, ?_⟩
    have HB5 := Aside0.mk (HB.out.drew.trans (hb.mono HB.out.size))
    have HX5 := Aside0.mk ((hb.block _ (lt_of HX.out)).trans HX.out)
    have HO5 := Aside0.mk (Kd.R_below (Kd.R_drew HO.out) hb)
    have HP5 := Aside0.mk ((HP.out.below ((Below.refl _ _).drew)).below hb)
    refine hK.out _ _ ?_
    clear hK K
    refine norm_ (a' := ?_) ?_ ?_
    rotate_left
    ·show Act.put _ (some 17) _ = _
     simp only [Act.put, List.setIfInBounds_toArray, List.set_cons_zero, List.set_cons_succ, i64_w, i32_w]
     rfl
    refine pure_ (i := 6) (N := some 7) (v := ?_) (a' := ?_) #[true, true, true, true, true, true, true] rfl rfl (by kernel_rfl) (fun _ _ _ h => h) (Or.inl ⟨by rfl, ?_⟩) ?_ ?_
    rotate_left
    ·intro w'
     go_simp
     with_reducible rfl
    rotate_left
    ·simp only [Act.put, List.setIfInBounds_toArray, List.set_cons_zero, List.set_cons_succ, i64_w, i32_w]
     rfl
    refine done_ (by kernel_rfl) ?_
    obtain ⟨g2, eg, z1, z2⟩ := HP5.out i hlt
    obtain rfl : g = g2 := by injection eg with eg; injection eg
    rw [HPP.out] at z1 z2
    clear y1 y2 y3 y4 hHeld hb eg
    have HSZ5 : Aside0 (w.heap.size ≤ w5.heap.size) := ⟨HB5.out.size⟩
    have HLB : Aside0 (((l.take i).length + 1) * 16 ≤ 140737488355328) := ⟨by rw [List.length_take]; omega⟩
    go_wp2_with ((with_reducible refine gate_builtin (b := .append) (xs := #[.tmp 20, .tmp 25]) rfl ?_); at_builtin; refine Kd.R_append kp (w0 := w) (W := w5) w.heap.size rfl (.tmp 20) (.tmp 25) 22 89 (.agg #[.int .i64 0, .int .i64 0]) 16 rfl Try.underlying22 info_edge rfl (by decide) (by decide) (.slice Ao i co) (l.take i) (p1, p2) [.int .i64 p1, .int .i64 p2] (fun _ => True) (fun _ => False) rfl rfl rfl (fun _ hk => hk.elim) (fun _ _ => trivial) HO5.out HB5.out HSZ5.out HLB.out ?_)
    intro v6 w6 hR hb6 hg6 hat6
    obtain ⟨A6, c6, rfl⟩ := Kd.R_slice hR
    have e1 : l.take i ++ [(p1, p2)] = l.take (i + 1) := by rw [List.take_add_one, pe_of hlt, HPP.out]; rfl
    rw [e1, List.length_take, Nat.min_eq_left (by omega)] at hR hat6
    rw [e1, List.length_take, Nat.min_eq_left (by omega)]
    have HO6 := Aside0.mk hR
    have HX6 : Aside0 (w6.heap[b]? = some (.cells #[.int .i64 x1, .int .i64 x2] 89 (0, 0))) := ⟨by
     have hb7 := hg6.block b (lt_of HX5.out) (fun e => by
      have h1 := Kd.R_base HO5.out b e.symm
      have h2 := HOB.out b e.symm
      omega)
     rw [hb7]; exact HX5.out⟩
    have HB6 := Aside0.mk hb6
    have HOB6 : Aside0 (∀ k, (Value.slice A6 (i + 1) c6).ownBlock = some k → b ≠ k) := ⟨fun k hk e => by
     subst e
     rcases hat6 with h | ⟨q, h, hq⟩
     ·exact HOB.out b (h ▸ hk) rfl
     ·rw [h] at hk
      injection hk with hk
      have := lt_of HX5.out
      omega⟩
    clear hR hb6 hg6 hat6 e1 HO HB HX HOB HP HB5 HX5 HO5 HP5 HSZ5 HLB z1 z2 HLS
    go_wp2_with fail
    go_roundw
    case rel => exact ⟨i + 1, A6, c6, rfl, by go_num, by omega, HO6, HB6, HX6, HOB6⟩
    case measure => simp [intOf]; omega
   ·obtain rfl : i = K := by omega
    have HLS : Aside0 (∀ W : World, Calls Try.prog 65 #[.agg #[.int .i64 p1, .int .i64 p2], .agg #[.int .i64 x1, .int .i64 x2]] W fun e w' => e = .returned (.bool false) ∧ Below W.heap.size W w') := ⟨fun W => by
     have h := less_calls p1 p2 x1 x2 W
     rw [← HPP.out, HK.out, ahead_at l (x1, x2) (by rw [← HK.out]; exact hlt)] at h
     exact h⟩
    go_upto_region 4 with (fail)
    refine start_ (n := 7) (S := fun w' => w'.cell? ⟨g, i * 2, none⟩ = some (.int .i64 p1) ∧ w'.cell? ⟨g, i * 2 + 1, none⟩ = some (.int .i64 p2) ∧ w'.cell? ⟨b, 0, none⟩ = some (.int .i64 x1) ∧ w'.cell? ⟨b, 1, none⟩ = some (.int .i64 x2)) (ds := [5]) #[false, false, false, false, false, false, false] (by kernel_rfl) rfl rfl ⟨y1, y2, y3, y4⟩ (fun hHeld => ?_)
    refine pure_ (i := 0) (N := some 12) (v := ?_) (a' := ?_) #[true, false, false, false, false, false, false] rfl rfl (by kernel_rfl) (fun _ _ _ h => h) (Or.inl ⟨by rfl, ?_⟩) ?_ ?_
    rotate_left
    ·intro w'
     go_simp
     with_reducible rfl
    rotate_left
    ·simp only [Act.put, List.setIfInBounds_toArray, List.set_cons_zero, List.set_cons_succ, i64_w, i32_w]
     rfl
    refine pure_ (i := 1) (N := some 13) (v := ?_) (a' := ?_) #[true, true, false, false, false, false, false] rfl rfl (by kernel_rfl) (fun _ _ _ h => h) (Or.inl ⟨by rfl, ?_⟩) ?_ ?_
    rotate_left
    ·intro w'
     go_simp
     with_reducible rfl
    rotate_left
    ·simp only [Act.put, List.setIfInBounds_toArray, List.set_cons_zero, List.set_cons_succ, i64_w, i32_w]
     rfl
    refine pure_ (i := 2) (N := some 14) (v := ?_) (a' := ?_) #[true, true, true, false, false, false, false] rfl rfl (by kernel_rfl) (fun _ _ _ h => h) (Or.inl ⟨by rfl, ?_⟩) ?_ ?_
    rotate_left
    ·intro w'
     go_simp
     with_reducible rfl
    rotate_left
    ·simp only [Act.put, List.setIfInBounds_toArray, List.set_cons_zero, List.set_cons_succ, i64_w, i32_w]
     rfl
    refine take_ (i := 3) (N := some 15) (v := ?_) (a' := ?_) #[true, true, true, true, false, false, false] rfl rfl (by kernel_rfl) (fun _ _ _ h => h) (Or.inl ⟨by rfl, ?_⟩) hHeld ?_ ?_
    rotate_left
    ·rintro w' ⟨s0, s1, s2, s3⟩
     go_simp
     with_reducible rfl
    rotate_left
    ·simp only [Act.put, List.setIfInBounds_toArray, List.set_cons_zero, List.set_cons_succ, i64_w, i32_w]
     rfl
    refine take_ (i := 4) (N := some 16) (v := ?_) (a' := ?_) #[true, true, true, true, true, false, false] rfl rfl (by kernel_rfl) (fun _ _ _ h => h) (Or.inl ⟨by rfl, ?_⟩) hHeld ?_ ?_
    rotate_left
    ·rintro w' ⟨s0, s1, s2, s3⟩
     go_simp
     with_reducible rfl
    rotate_left
    ·simp only [Act.put, List.setIfInBounds_toArray, List.set_cons_zero, List.set_cons_succ, i64_w, i32_w]
     rfl
    refine last_ (i := 5) (N := some 17) #[true, true, true, true, true, true, false] rfl rfl (by kernel_rfl) (by decide) (fun K hK => ?_)
    refine goes_ Try.func65 (by kernel_rfl) rfl #[.agg #[.int .i64 p1, .int .i64 p2], .agg #[.int .i64 x1, .int .i64 x2]] (by rfl) rfl rfl (by simp only [List.map_toArray, List.map_cons, List.map_nil]; rfl) ?_
    with_reducible refine (HLS.out _).mono ?_
    rintro e' w5 ⟨rfl, hb⟩
    refine ⟨_, rfl, ?_⟩
    have HB5 := Aside0.mk (HB.out.drew.trans (hb.mono HB.out.size))
    have HX5 := Aside0.mk ((hb.block _ (lt_of HX.out)).trans HX.out)
    have HO5 := Aside0.mk (Kd.R_below (Kd.R_drew HO.out) hb)
    have HP5 := Aside0.mk ((HP.out.below ((Below.refl _ _).drew)).below hb)
    refine hK.out _ _ ?_
    clear hK K
    refine norm_ (a' := ?_) ?_ ?_
    rotate_left
    ·show Act.put _ (some 17) _ = _
     simp only [Act.put, List.setIfInBounds_toArray, List.set_cons_zero, List.set_cons_succ, i64_w, i32_w]
     rfl
    refine pure_ (i := 6) (N := some 7) (v := ?_) (a' := ?_) #[true, true, true, true, true, true, true] rfl rfl (by kernel_rfl) (fun _ _ _ h => h) (Or.inl ⟨by rfl, ?_⟩) ?_ ?_
    rotate_left
    ·intro w'
     go_simp
     with_reducible rfl
    rotate_left
    ·simp only [Act.put, List.setIfInBounds_toArray, List.set_cons_zero, List.set_cons_succ, i64_w, i32_w]
     rfl
    refine done_ (by kernel_rfl) ?_
    obtain ⟨g2, eg, z1, z2⟩ := HP5.out i hlt
    obtain rfl : g = g2 := by injection eg with eg; injection eg
    rw [HPP.out] at z1 z2
    have z3 : w5.cell? ⟨b, 0, none⟩ = some (.int .i64 x1) := heap_cell HX5.out rfl
    have z4 : w5.cell? ⟨b, 1, none⟩ = some (.int .i64 x2) := heap_cell HX5.out rfl
    clear y1 y2 y3 y4 hHeld hb eg HLS HO HB HX HP
    by_cases hq : p1 = x1 ∧ p2 = x2
    ·obtain ⟨rfl, rfl⟩ := hq
     have HRES : Aside0 (putL l (p1, p2) = l) := ⟨by unfold putL; rw [if_pos ⟨by rw [← HK.out]; exact hlt, by rw [← HK.out]; exact HPP.out⟩]⟩
     go_wp2_with fail
     go_quiet (fail)
     go_wp2_with fail
     go_ret
     exact ⟨(by first | exact HB5.out | exact ValB.below_drewN HB5.out _), _, rfl, .inl ⟨HRES.out, rfl⟩⟩
    ·by_cases hq1 : p1 = x1
     ·obtain rfl : x1 = p1 := hq1.symm
      have s1 : (p2 == x2) = false := beq_eq_false_iff_ne.2 (fun h => hq ⟨rfl, h⟩)
      have HNO : Aside0 (¬ (i < l.length ∧ pe l i = (x1, x2))) := ⟨fun h => hq (by rw [HPP.out] at h; simpa using h.2)⟩
      clear hq
      go_wp2_with fail
      go_quiet (fail)
      have HB7 := Aside0.mk (ValB.below_drewN HB5.out nq)
      have HO7 := Aside0.mk (Kd.R_drewN HO5.out nq)
      have z5 : (w5.drewN nq).cell? ⟨b, 0, none⟩ = some (.int .i64 x1) := heap_cell (w := w5.drewN nq) HX5.out rfl
      have z6 : (w5.drewN nq).cell? ⟨b, 1, none⟩ = some (.int .i64 x2) := heap_cell (w := w5.drewN nq) HX5.out rfl
      generalize w5.drewN nq = w7 at HB7 HO7 z5 z6 ⊢
      clear HB5 HO5 HX5
      have HOX : Aside0 (((l.take i).length + 1) * 16 ≤ 140737488355328) := ⟨by rw [List.length_take]; omega⟩
      have HSZ5 : Aside0 (w.heap.size ≤ w7.heap.size) := ⟨HB7.out.size⟩
      have HCO := Aside0.mk HO7.out
      go_wp2_with ((with_reducible refine gate_builtin (b := .append) (xs := #[.tmp 42, .tmp 44]) rfl ?_); at_builtin; refine Kd.R_append kp (w0 := w) (W := w7) w.heap.size rfl (.tmp 42) (.tmp 44) 22 89 (.agg #[.int .i64 0, .int .i64 0]) 16 rfl Try.underlying22 info_edge rfl (by decide) (by decide) (.slice Ao i co) (l.take i) (x1, x2) [.int .i64 x1, .int .i64 x2] (fun _ => True) (fun _ => False) rfl rfl rfl (fun _ hk => hk.elim) (fun _ _ => trivial) HCO.out HB7.out HSZ5.out HOX.out ?_)
      intro v6 w6 hR hb6 hg6 hat6
      obtain ⟨A6, c6, rfl⟩ := Kd.R_slice hR
      have e1 : l.take i ++ [(x1, x2)] = joined l i (x1, x2) i := by unfold joined; simp
      rw [e1, joined_length _ (by omega) (Nat.le_refl _)] at hR
      rw [e1, joined_length _ (by omega) (Nat.le_refl _)]
      have HO2 := Aside0.mk hR
      have HB2 := Aside0.mk hb6
      have HRES : Aside0 (putL l (x1, x2) = joined l i (x1, x2) l.length) := ⟨by unfold putL joined; rw [← HK.out, if_neg HNO.out, List.take_length, List.append_assoc]; rfl⟩
      clear hR hb6 hg6 hat6 e1 HOX HSZ5 HCO HO7 HB7 HNO z5 z6
      go_wp2_with fail
      go_loopw [5, 6] (fun u y ws => ∃ (q M : Nat) (Ao : Option Addr) (co : Nat), u = .slice Ao M co ∧ y = .int .i64 (q : Int) ∧ i ≤ q ∧ q ≤ l.length ∧ Aside0 (M = q + 1) ∧ Aside0 (Kd.R kp 89 ws w.heap.size (fun _ => True) (.slice Ao M co) (joined l i (x1, x2) q)) ∧ Aside0 (Below w.heap.size w ws)) (fun _ y _ => l.length - (intOf y).toNat)
      case atStart => exact ⟨i, i + 1, A6, c6, rfl, rfl, Nat.le_refl _, by omega, ⟨rfl⟩, HO2, HB2⟩
      case round =>
       clear HO2 HB2
       obtain ⟨q, M, Ao, co, rfl, rfl, hKi, hq2, HMQ, HO, HB⟩ := hrel
       by_cases hlt2 : q < l.length
       ·obtain ⟨g3, eg3, y1, y2⟩ := (HP0.out.below HB.out) q hlt2
        first | subst eg3 | (obtain rfl : g = g3 := by injection eg3 with eg3; injection eg3)
        obtain ⟨p1, hp1⟩ : ∃ p1, p1 = (pe l q).1 := ⟨_, rfl⟩
        obtain ⟨p2, hp2⟩ : ∃ p2, p2 = (pe l q).2 := ⟨_, rfl⟩
        rw [← hp1] at y1
        rw [← hp2] at y2
        have HPP : Aside0 (pe l q = (p1, p2)) := ⟨by rw [hp1, hp2]⟩
        have HSZ : Aside0 (w.heap.size ≤ wr.heap.size) := ⟨HB.out.size⟩
        have HLB : Aside0 (((joined l i (x1, x2) q).length + 1) * 16 ≤ 140737488355328) := ⟨by rw [joined_length _ hq2 hKi]; omega⟩
        clear hp1 hp2
        go_wp2_with ((with_reducible refine gate_builtin (b := .append) (xs := #[.tmp 50, .tmp 55]) rfl ?_); at_builtin; refine Kd.R_append kp (w0 := w) (W := wr) w.heap.size rfl (.tmp 50) (.tmp 55) 22 89 (.agg #[.int .i64 0, .int .i64 0]) 16 rfl Try.underlying22 info_edge rfl (by decide) (by decide) (.slice Ao M co) (joined l i (x1, x2) q) (p1, p2) [.int .i64 p1, .int .i64 p2] (fun _ => True) (fun _ => False) rfl rfl rfl (fun _ hk => hk.elim) (fun _ _ => trivial) HO.out HB.out HSZ.out HLB.out ?_)
        intro v6 w6 hR hb6 _ _
        obtain ⟨A6, c6, rfl⟩ := Kd.R_slice hR
        have e1 : joined l i (x1, x2) q ++ [(p1, p2)] = joined l i (x1, x2) (q + 1) := by rw [← HPP.out]; exact joined_snoc hKi hlt2
        rw [e1, joined_length _ (by omega) (by omega)] at hR
        rw [e1, joined_length _ (by omega) (by omega)]
        have HO2 := Aside0.mk hR
        have HB2 := Aside0.mk hb6
        clear hR hb6 e1 HO HB HSZ HLB y1 y2
        go_wp2_with fail
        go_roundw
        case rel => exact ⟨q + 1, q + 1 + 1, A6, c6, rfl, by go_num, by omega, by omega, ⟨rfl⟩, HO2, HB2⟩
        case measure => simp [intOf]; omega
       ·obtain rfl : q = l.length := by omega
        go_wp2_with fail
        go_ret
        exact ⟨HB.out, _, rfl, .inr (by rw [HRES.out]; exact HO.out)⟩
     ·have s1 : (p1 == x1) = false := beq_eq_false_iff_ne.2 hq1
      have HNO : Aside0 (¬ (i < l.length ∧ pe l i = (x1, x2))) := ⟨fun h => hq (by rw [HPP.out] at h; simpa using h.2)⟩
      clear hq hq1
      go_wp2_with fail
      go_quiet (fail)
      have HB7 := Aside0.mk (ValB.below_drewN HB5.out nq)
      have HO7 := Aside0.mk (Kd.R_drewN HO5.out nq)
      have z5 : (w5.drewN nq).cell? ⟨b, 0, none⟩ = some (.int .i64 x1) := heap_cell (w := w5.drewN nq) HX5.out rfl
      have z6 : (w5.drewN nq).cell? ⟨b, 1, none⟩ = some (.int .i64 x2) := heap_cell (w := w5.drewN nq) HX5.out rfl
      generalize w5.drewN nq = w7 at HB7 HO7 z5 z6 ⊢
      clear HB5 HO5 HX5
      have HOX : Aside0 (((l.take i).length + 1) * 16 ≤ 140737488355328) := ⟨by rw [List.length_take]; omega⟩
      have HSZ5 : Aside0 (w.heap.size ≤ w7.heap.size) := ⟨HB7.out.size⟩
      have HCO := Aside0.mk HO7.out
      go_wp2_with ((with_reducible refine gate_builtin (b := .append) (xs := #[.tmp 42, .tmp 44]) rfl ?_); at_builtin; refine Kd.R_append kp (w0 := w) (W := w7) w.heap.size rfl (.tmp 42) (.tmp 44) 22 89 (.agg #[.int .i64 0, .int .i64 0]) 16 rfl Try.underlying22 info_edge rfl (by decide) (by decide) (.slice Ao i co) (l.take i) (x1, x2) [.int .i64 x1, .int .i64 x2] (fun _ => True) (fun _ => False) rfl rfl rfl (fun _ hk => hk.elim) (fun _ _ => trivial) HCO.out HB7.out HSZ5.out HOX.out ?_)
      intro v6 w6 hR hb6 hg6 hat6
      obtain ⟨A6, c6, rfl⟩ := Kd.R_slice hR
      have e1 : l.take i ++ [(x1, x2)] = joined l i (x1, x2) i := by unfold joined; simp
      rw [e1, joined_length _ (by omega) (Nat.le_refl _)] at hR
      rw [e1, joined_length _ (by omega) (Nat.le_refl _)]
      have HO2 := Aside0.mk hR
      have HB2 := Aside0.mk hb6
      have HRES : Aside0 (putL l (x1, x2) = joined l i (x1, x2) l.length) := ⟨by unfold putL joined; rw [← HK.out, if_neg HNO.out, List.take_length, List.append_assoc]; rfl⟩
      clear hR hb6 hg6 hat6 e1 HOX HSZ5 HCO HO7 HB7 HNO z5 z6
      go_wp2_with fail
      go_loopw [5, 6] (fun u y ws => ∃ (q M : Nat) (Ao : Option Addr) (co : Nat), u = .slice Ao M co ∧ y = .int .i64 (q : Int) ∧ i ≤ q ∧ q ≤ l.length ∧ Aside0 (M = q + 1) ∧ Aside0 (Kd.R kp 89 ws w.heap.size (fun _ => True) (.slice Ao M co) (joined l i (x1, x2) q)) ∧ Aside0 (Below w.heap.size w ws)) (fun _ y _ => l.length - (intOf y).toNat)
      case atStart => exact ⟨i, i + 1, A6, c6, rfl, rfl, Nat.le_refl _, by omega, ⟨rfl⟩, HO2, HB2⟩
      case round =>
       clear HO2 HB2
       obtain ⟨q, M, Ao, co, rfl, rfl, hKi, hq2, HMQ, HO, HB⟩ := hrel
       by_cases hlt2 : q < l.length
       ·obtain ⟨g3, eg3, y1, y2⟩ := (HP0.out.below HB.out) q hlt2
        first | subst eg3 | (obtain rfl : g = g3 := by injection eg3 with eg3; injection eg3)
        obtain ⟨p1, hp1⟩ : ∃ p1, p1 = (pe l q).1 := ⟨_, rfl⟩
        obtain ⟨p2, hp2⟩ : ∃ p2, p2 = (pe l q).2 := ⟨_, rfl⟩
        rw [← hp1] at y1
        rw [← hp2] at y2
        have HPP : Aside0 (pe l q = (p1, p2)) := ⟨by rw [hp1, hp2]⟩
        have HSZ : Aside0 (w.heap.size ≤ wr.heap.size) := ⟨HB.out.size⟩
        have HLB : Aside0 (((joined l i (x1, x2) q).length + 1) * 16 ≤ 140737488355328) := ⟨by rw [joined_length _ hq2 hKi]; omega⟩
        clear hp1 hp2
        go_wp2_with ((with_reducible refine gate_builtin (b := .append) (xs := #[.tmp 50, .tmp 55]) rfl ?_); at_builtin; refine Kd.R_append kp (w0 := w) (W := wr) w.heap.size rfl (.tmp 50) (.tmp 55) 22 89 (.agg #[.int .i64 0, .int .i64 0]) 16 rfl Try.underlying22 info_edge rfl (by decide) (by decide) (.slice Ao M co) (joined l i (x1, x2) q) (p1, p2) [.int .i64 p1, .int .i64 p2] (fun _ => True) (fun _ => False) rfl rfl rfl (fun _ hk => hk.elim) (fun _ _ => trivial) HO.out HB.out HSZ.out HLB.out ?_)
        intro v6 w6 hR hb6 _ _
        obtain ⟨A6, c6, rfl⟩ := Kd.R_slice hR
        have e1 : joined l i (x1, x2) q ++ [(p1, p2)] = joined l i (x1, x2) (q + 1) := by rw [← HPP.out]; exact joined_snoc hKi hlt2
        rw [e1, joined_length _ (by omega) (by omega)] at hR
        rw [e1, joined_length _ (by omega) (by omega)]
        have HO2 := Aside0.mk hR
        have HB2 := Aside0.mk hb6
        clear hR hb6 e1 HO HB HSZ HLB y1 y2
        go_wp2_with fail
        go_roundw
        case rel => exact ⟨q + 1, q + 1 + 1, A6, c6, rfl, by go_num, by omega, by omega, ⟨rfl⟩, HO2, HB2⟩
        case measure => simp [intOf]; omega
       ·obtain rfl : q = l.length := by omega
        go_wp2_with fail
        go_ret
        exact ⟨HB.out, _, rfl, .inr (by rw [HRES.out]; exact HO.out)⟩
  ·obtain rfl : i = K := by omega
   have HNO : Aside0 (¬ (i < l.length ∧ pe l i = (x1, x2))) := ⟨fun h => hlt h.1⟩
   have hil : ¬ i < l.length := hlt
   have hd : decide ((i : Int) < (l.length : Int)) = false := decide_eq_false (by omega)
   have y3 : wr.cell? ⟨b, 0, none⟩ = some (.int .i64 x1) := heap_cell HX.out rfl
   have y4 : wr.cell? ⟨b, 1, none⟩ = some (.int .i64 x2) := heap_cell HX.out rfl
   go_wp2_with fail
   go_quiet (fail)
   have HB7 := Aside0.mk (ValB.below_drewN HB.out nq)
   have HO7 := Aside0.mk (Kd.R_drewN HO.out nq)
   have z5 : (wr.drewN nq).cell? ⟨b, 0, none⟩ = some (.int .i64 x1) := heap_cell (w := wr.drewN nq) HX.out rfl
   have z6 : (wr.drewN nq).cell? ⟨b, 1, none⟩ = some (.int .i64 x2) := heap_cell (w := wr.drewN nq) HX.out rfl
   generalize wr.drewN nq = w7 at HB7 HO7 z5 z6 ⊢
   clear HB HO HX
   clear y3 y4 hd hil hlt
   have HOX : Aside0 (((l.take i).length + 1) * 16 ≤ 140737488355328) := ⟨by rw [List.length_take]; omega⟩
   have HSZ5 : Aside0 (w.heap.size ≤ w7.heap.size) := ⟨HB7.out.size⟩
   have HCO := Aside0.mk HO7.out
   go_wp2_with ((with_reducible refine gate_builtin (b := .append) (xs := #[.tmp 42, .tmp 44]) rfl ?_); at_builtin; refine Kd.R_append kp (w0 := w) (W := w7) w.heap.size rfl (.tmp 42) (.tmp 44) 22 89 (.agg #[.int .i64 0, .int .i64 0]) 16 rfl Try.underlying22 info_edge rfl (by decide) (by decide) (.slice Ao i co) (l.take i) (x1, x2) [.int .i64 x1, .int .i64 x2] (fun _ => True) (fun _ => False) rfl rfl rfl (fun _ hk => hk.elim) (fun _ _ => trivial) HCO.out HB7.out HSZ5.out HOX.out ?_)
   intro v6 w6 hR hb6 hg6 hat6
   obtain ⟨A6, c6, rfl⟩ := Kd.R_slice hR
   have e1 : l.take i ++ [(x1, x2)] = joined l i (x1, x2) i := by unfold joined; simp
   rw [e1, joined_length _ (by omega) (Nat.le_refl _)] at hR
   rw [e1, joined_length _ (by omega) (Nat.le_refl _)]
   have HO2 := Aside0.mk hR
   have HB2 := Aside0.mk hb6
   have HRES : Aside0 (putL l (x1, x2) = joined l i (x1, x2) l.length) := ⟨by unfold putL joined; rw [← HK.out, if_neg HNO.out, List.take_length, List.append_assoc]; rfl⟩
   clear hR hb6 hg6 hat6 e1 HOX HSZ5 HCO HO7 HB7 HNO z5 z6
   go_wp2_with fail
   go_loopw [5, 6] (fun u y ws => ∃ (q M : Nat) (Ao : Option Addr) (co : Nat), u = .slice Ao M co ∧ y = .int .i64 (q : Int) ∧ i ≤ q ∧ q ≤ l.length ∧ Aside0 (M = q + 1) ∧ Aside0 (Kd.R kp 89 ws w.heap.size (fun _ => True) (.slice Ao M co) (joined l i (x1, x2) q)) ∧ Aside0 (Below w.heap.size w ws)) (fun _ y _ => l.length - (intOf y).toNat)
   case atStart => exact ⟨i, i + 1, A6, c6, rfl, rfl, Nat.le_refl _, by omega, ⟨rfl⟩, HO2, HB2⟩
   case round =>
    clear HO2 HB2
    obtain ⟨q, M, Ao, co, rfl, rfl, hKi, hq2, HMQ, HO, HB⟩ := hrel
    by_cases hlt2 : q < l.length
    ·obtain ⟨g3, eg3, y1, y2⟩ := (HP0.out.below HB.out) q hlt2
     first | subst eg3 | (obtain rfl : g = g3 := by injection eg3 with eg3; injection eg3)
     obtain ⟨p1, hp1⟩ : ∃ p1, p1 = (pe l q).1 := ⟨_, rfl⟩
     obtain ⟨p2, hp2⟩ : ∃ p2, p2 = (pe l q).2 := ⟨_, rfl⟩
     rw [← hp1] at y1
     rw [← hp2] at y2
     have HPP : Aside0 (pe l q = (p1, p2)) := ⟨by rw [hp1, hp2]⟩
     have HSZ : Aside0 (w.heap.size ≤ wr.heap.size) := ⟨HB.out.size⟩
     have HLB : Aside0 (((joined l i (x1, x2) q).length + 1) * 16 ≤ 140737488355328) := ⟨by rw [joined_length _ hq2 hKi]; omega⟩
     clear hp1 hp2
     go_wp2_with ((with_reducible refine gate_builtin (b := .append) (xs := #[.tmp 50, .tmp 55]) rfl ?_); at_builtin; refine Kd.R_append kp (w0 := w) (W := wr) w.heap.size rfl (.tmp 50) (.tmp 55) 22 89 (.agg #[.int .i64 0, .int .i64 0]) 16 rfl Try.underlying22 info_edge rfl (by decide) (by decide) (.slice Ao M co) (joined l i (x1, x2) q) (p1, p2) [.int .i64 p1, .int .i64 p2] (fun _ => True) (fun _ => False) rfl rfl rfl (fun _ hk => hk.elim) (fun _ _ => trivial) HO.out HB.out HSZ.out HLB.out ?_)
     intro v6 w6 hR hb6 _ _
     obtain ⟨A6, c6, rfl⟩ := Kd.R_slice hR
     have e1 : joined l i (x1, x2) q ++ [(p1, p2)] = joined l i (x1, x2) (q + 1) := by rw [← HPP.out]; exact joined_snoc hKi hlt2
     rw [e1, joined_length _ (by omega) (by omega)] at hR
     rw [e1, joined_length _ (by omega) (by omega)]
     have HO2 := Aside0.mk hR
     have HB2 := Aside0.mk hb6
     clear hR hb6 e1 HO HB HSZ HLB y1 y2
     go_wp2_with fail
     go_roundw
     case rel => exact ⟨q + 1, q + 1 + 1, A6, c6, rfl, by go_num, by omega, by omega, ⟨rfl⟩, HO2, HB2⟩
     case measure => simp [intOf]; omega
    ·obtain rfl : q = l.length := by omega
     go_wp2_with fail
     go_ret
     exact ⟨HB.out, _, rfl, .inr (by rw [HRES.out]; exact HO.out)⟩
def putPair (l : List (Int × Int)) (p : Int × Int) : List (Int × Int) := if p.1 < p.2 then putL l p else if p.2 < p.1 then putL l (p.2, p.1) else l
def makeL (ps : List (Int × Int)) : List (Int × Int) := ps.foldl putPair []
theorem putL_length (l : List (Int × Int)) (x : Int × Int) : (putL l x).length ≤ l.length + 1 := by
 unfold putL
 split
 ·omega
 ·have := ahead_le l x
  simp
  omega
theorem putPair_length (l : List (Int × Int)) (x : Int × Int) : (putPair l x).length ≤ l.length + 1 := by
 unfold putPair
 split
 ·exact putL_length _ _
 ·split
  ·exact putL_length _ _
  ·omega
theorem makeL_take (ps : List (Int × Int)) {i : Nat} (h : i < ps.length) : makeL (ps.take (i + 1)) = putPair (makeL (ps.take i)) (pe ps i) := by
 unfold makeL
 rw [List.take_add_one, pe_of h]
 simp [List.foldl_append]
theorem makeL_length (ps : List (Int × Int)) : ∀ i, i ≤ ps.length → (makeL (ps.take i)).length ≤ i := by
 intro i
 induction i with
 | zero => intro _; simp [makeL]
 | succ i ih =>
  intro h
  rw [makeL_take ps (by omega)]
  have := putPair_length (makeL (ps.take i)) (pe ps i)
  have := ih (by omega)
  omega
set_option maxHeartbeats 8000000 in
set_option maxRecDepth 100000 in
theorem make_calls (n : Nat) (A : Option Addr) (c : Nat) (ps : List (Int × Int)) (w : World) (hp : PR w A ps) (hc : ps.length ≤ c) (hn : n ≤ 1048576) (hr : ∀ i, i < ps.length → 0 ≤ (pe ps i).1 ∧ (pe ps i).1 < n ∧ 0 ≤ (pe ps i).2 ∧ (pe ps i).2 < n) (hl : ps.length ≤ 8000000000) (hm : (makeL ps).length ≤ 4194304) :
  Calls Try.prog 44 #[.int .i64 (n : Int), .slice A ps.length c] w fun e w' => ∃ v, e = .returned (.tuple #[.agg #[.int .i64 (n : Int), v], .int .i64 0]) ∧ Kd.R kp 89 w' w.heap.size (fun _ => True) v (makeL ps) ∧ Below w.heap.size w w' := by
 have HP := Aside0.mk hp
 have HR := Aside0.mk hr
 have HM := Aside0.mk hm
 have s1 : decide ((n : Int) < 0) = false := decide_eq_false (by omega)
 have s2 : decide ((n : Int) > 1048576) = false := decide_eq_false (by omega)
 clear hp hr hm
 have HB0 : Aside0 (Below w.heap.size w (w.alloc (.cells #[.int .i64 0, .slice none 0 0] 24 (0, 0)))) := ⟨(Below.refl w.heap.size w).alloc (Nat.le_refl _) _⟩
 have HX0 := Aside0.mk (heap_last w (.cells #[.int .i64 0, .slice none 0 0] 24 (0, 0)))
 obtain ⟨b, hb⟩ : ∃ b, b = w.heap.size := ⟨_, rfl⟩
 rw [← hb] at HX0
 go_enter Try.func44, Try.ntmps44
 go_wp2_with fail
 rw [← hb]
 have HBB := Aside0.mk hb
 clear hb s1 s2
 generalize w.alloc (.cells #[.int .i64 0, .slice none 0 0] 24 (0, 0)) = w0 at HB0 HX0 ⊢
 go_loopw [6] (fun y ws => ∃ (i : Nat), y = .int .i64 (i : Int) ∧ i ≤ ps.length ∧ ws = w0) (fun y _ => ps.length - (intOf y).toNat)
 case atStart => exact ⟨0, rfl, by omega, by first | rfl | trivial⟩
 case round =>
  obtain ⟨i, rfl, hi, rfl⟩ := hrel
  by_cases hlt : i < ps.length
  ·obtain ⟨g, rfl, y1, y2⟩ := (HP.out.below HB0.out) i hlt
   have hri := HR.out i hlt
   obtain ⟨p1, hp1⟩ : ∃ p1, p1 = (pe ps i).1 := ⟨_, rfl⟩
   obtain ⟨p2, hp2⟩ : ∃ p2, p2 = (pe ps i).2 := ⟨_, rfl⟩
   rw [← hp1] at y1 hri
   rw [← hp2] at y2 hri
   have s1 : decide (p1 < 0) = false := decide_eq_false (by omega)
   have s2 : decide (p1 ≥ (n : Int)) = false := decide_eq_false (by omega)
   have s2' : decide ((n : Int) ≤ p1) = false := decide_eq_false (by omega)
   have s3 : decide (p2 < 0) = false := decide_eq_false (by omega)
   have s4 : decide (p2 ≥ (n : Int)) = false := decide_eq_false (by omega)
   have s4' : decide ((n : Int) ≤ p2) = false := decide_eq_false (by omega)
   clear hp1 hp2 hri
   go_wp2_with fail
   clear y1 y2 s1 s2 s2' s3 s4 s4'
   go_roundw
   case rel => exact ⟨i + 1, by go_num, by omega, by first | rfl | trivial⟩
   case measure => simp [intOf]; omega
  ·obtain rfl : i = ps.length := by omega
   clear hi hlt
   have HO : Aside0 (Kd.R kp 89 wr w.heap.size (fun _ => True) (.slice none 0 0) ([] : List (Int × Int))) := ⟨Kd.R_nil _ _ _ _ _⟩
   have HQ : Aside0 (([] : List (Int × Int)) = makeL (ps.take 0)) := ⟨by simp [makeL]⟩
   go_wp2_with fail
   go_loopw [9, 10] (fun u y ws => ∃ (i : Nat) (lc : List (Int × Int)) (Al : Option Addr) (cl : Nat), u = .slice Al lc.length cl ∧ y = .int .i64 (i : Int) ∧ i ≤ ps.length ∧ Aside0 (lc = makeL (ps.take i)) ∧ Aside0 (Kd.R kp 89 ws w.heap.size (fun _ => True) (.slice Al lc.length cl) lc) ∧ Aside0 (Below w.heap.size w ws) ∧ Aside0 (ws.heap[b]? = some (.cells #[.int .i64 0, .slice none 0 0] 24 (0, 0)))) (fun _ y _ => ps.length - (intOf y).toNat)
   case atStart => exact ⟨0, [], none, 0, rfl, rfl, by omega, HQ, HO, HB0, HX0⟩
   case round =>
    clear HO HQ HB0 HX0
    obtain ⟨i, lc, Al, cl, rfl, rfl, hi, HQ, HO, HB, HX⟩ := hrel
    by_cases hlt : i < ps.length
    ·obtain ⟨g, eg, y1, y2⟩ := (HP.out.below HB.out) i hlt
     first | subst eg | skip
     obtain ⟨p1, hp1⟩ : ∃ p1, p1 = (pe ps i).1 := ⟨_, rfl⟩
     obtain ⟨p2, hp2⟩ : ∃ p2, p2 = (pe ps i).2 := ⟨_, rfl⟩
     rw [← hp1] at y1
     rw [← hp2] at y2
     have HPP : Aside0 (pe ps i = (p1, p2)) := ⟨by rw [hp1, hp2]⟩
     have HLB : Aside0 (lc.length ≤ 8000000000) := ⟨by rw [HQ.out]; have := makeL_length ps i hi; omega⟩
     have HLC : Aside0 (lc.length ≤ cl) := ⟨(Kd.R_reads' HO.out).2.1⟩
     clear hp1 hp2
     by_cases h1 : p1 < p2
     ·have s1 : decide (p1 < p2) = true := decide_eq_true h1
      have s2 : decide (p2 < p1) = false := decide_eq_false (by omega)
      have HN : Aside0 (putL lc (p1, p2) = makeL (ps.take (i + 1))) := ⟨by rw [makeL_take ps hlt, ← HQ.out, HPP.out]; unfold putPair; rw [if_pos h1]⟩
      have HPR : Aside0 (PR wr Al lc) := ⟨PR.of_R HO.out⟩
      clear h1
      (try clear h2)
      go_wp2_with fail
      refine (put_calls Al cl lc p1 p2 wr HPR.out HLB.out HLC.out).mono ?_
      rintro e w5 ⟨hb, v, rfl, hv⟩
      have HX2 := Aside0.mk ((hb.block _ (lt_of HX.out)).trans HX.out)
      have HB2 := Aside0.mk (HB.out.trans (hb.mono HB.out.size))
      have HO2 : Aside0 (Kd.R kp 89 w5 w.heap.size (fun _ => True) v (putL lc (p1, p2))) := ⟨by
       rcases hv with ⟨h3, h4⟩ | h3
       ·rw [h3, h4]; exact Kd.R_below HO.out hb
       ·exact Kd.R_lower h3 HB.out.size⟩
      obtain ⟨Al2, cl2, rfl⟩ := Kd.R_slice HO2.out
      clear hb hv HO HB HX HPR HQ HLB HLC
      go_wp2_with fail
      clear y1 y2 s1 s2
      go_roundw
      case rel => exact ⟨i + 1, putL lc (p1, p2), Al2, cl2, rfl, by go_num, by omega, HN, HO2, HB2, HX2⟩
      case measure => simp [intOf]; omega
     ·by_cases h2 : p2 < p1
      ·have s1 : decide (p1 < p2) = false := decide_eq_false h1
       have s2 : decide (p2 < p1) = true := decide_eq_true h2
       have HN : Aside0 (putL lc (p2, p1) = makeL (ps.take (i + 1))) := ⟨by rw [makeL_take ps hlt, ← HQ.out, HPP.out]; unfold putPair; rw [if_neg h1, if_pos h2]⟩
       have HPR : Aside0 (PR wr Al lc) := ⟨PR.of_R HO.out⟩
       clear h1
       (try clear h2)
       go_wp2_with fail
       refine (put_calls Al cl lc p2 p1 wr HPR.out HLB.out HLC.out).mono ?_
       rintro e w5 ⟨hb, v, rfl, hv⟩
       have HX2 := Aside0.mk ((hb.block _ (lt_of HX.out)).trans HX.out)
       have HB2 := Aside0.mk (HB.out.trans (hb.mono HB.out.size))
       have HO2 : Aside0 (Kd.R kp 89 w5 w.heap.size (fun _ => True) v (putL lc (p2, p1))) := ⟨by
        rcases hv with ⟨h3, h4⟩ | h3
        ·rw [h3, h4]; exact Kd.R_below HO.out hb
        ·exact Kd.R_lower h3 HB.out.size⟩
       obtain ⟨Al2, cl2, rfl⟩ := Kd.R_slice HO2.out
       clear hb hv HO HB HX HPR HQ HLB HLC
       go_wp2_with fail
       clear y1 y2 s1 s2
       go_roundw
       case rel => exact ⟨i + 1, putL lc (p2, p1), Al2, cl2, rfl, by go_num, by omega, HN, HO2, HB2, HX2⟩
       case measure => simp [intOf]; omega
      ·have s1 : decide (p1 < p2) = false := decide_eq_false h1
       have s2 : decide (p2 < p1) = false := decide_eq_false h2
       have HN : Aside0 (lc = makeL (ps.take (i + 1))) := ⟨by rw [makeL_take ps hlt, ← HQ.out, HPP.out]; unfold putPair; rw [if_neg h1, if_neg h2]⟩
       clear h1 h2
       go_wp2_with fail
       clear y1 y2 s1 s2
       go_roundw
       case rel => exact ⟨i + 1, lc, Al, cl, rfl, by go_num, by omega, HN, HO, HB, HX⟩
       case measure => simp [intOf]; omega
    ·obtain rfl : i = ps.length := by omega
     have hml : lc.length ≤ 4194304 := by rw [HQ.out, List.take_length]; exact HM.out
     have s1 : decide ((lc.length : Int) > 4194304) = false := decide_eq_false (by omega)
     have s1' : decide (4194304 < (lc.length : Int)) = false := decide_eq_false (by omega)
     have f0 : wr.frozen? ⟨b, 0, none⟩ = false := heap_free HX.out 0
     have f1 : wr.frozen? ⟨b, 1, none⟩ = false := heap_free HX.out 1
     have x0 : wr.cell? ⟨b, 0, none⟩ = some (.int .i64 0) := heap_cell HX.out rfl
     have x1 : wr.cell? ⟨b, 1, none⟩ = some (.slice none 0 0) := heap_cell HX.out rfl
     go_wp2_with fail
     have HXF : ((wr.setCell ⟨b, 0, none⟩ (.int .i64 (n : Int))).setCell ⟨b, 1, none⟩ (.slice Al lc.length cl)).heap[b]? = some (.cells #[.int .i64 (n : Int), .slice Al lc.length cl] 24 (0, 0)) := by
      have := heap_set (i := 1) (heap_set (i := 0) HX.out (.int .i64 (n : Int))) (.slice Al lc.length cl)
      simpa using this
     refine bodyPost_ret (results_ct rfl _ _ b 24 #[.int .i64 (n : Int), .slice Al lc.length cl] (0, 0) _ rfl HXF Try.underlying24 rfl (by kernel_rfl)) rfl ?_
     have hbl := HBB.out
     refine ⟨.slice Al lc.length cl, rfl, ?_, ?_⟩
     ·have := HO.out
      rw [show makeL ps = lc by rw [HQ.out, List.take_length]]
      have hne := Kd.R_ne this HX.out (by decide)
      refine Kd.R_mono (Kd.R_step (Kd.R_tight (by rfl) this) (fun k hk _ => ?_)) (fun _ _ => trivial)
      have hkb : k ≠ b := fun e => hne (by rw [← e]; exact hk)
      rw [Below.heap_setCell _ _ _ _ (by simpa using hkb), Below.heap_setCell _ _ _ _ (by simpa using hkb)]
     ·exact (HB.out.setCell (p := ⟨b, 0, none⟩) (by simp; omega) _).setCell (p := ⟨b, 1, none⟩) (by simp; omega) _
end Go.Proofs.Yteeihjpnhjnknaa.Mk
namespace Go.Proofs.Yteeihjpnhjnknaa.Mk
open Go.RowKit Go.Proofs.Yteeihjpnhjnknaa.Mem
set_option linter.unusedVariables false
set_option linter.unusedSimpArgs false
theorem less_iff {x y : Int × Int} : lessB x y = true ↔ x.1 < y.1 ∨ (x.1 = y.1 ∧ x.2 < y.2) := by unfold lessB; simp
theorem less_trans {x y z : Int × Int} (h : lessB x y = true) (k : lessB y z = true) : lessB x z = true := by rw [less_iff] at *; omega
theorem less_irrefl (x : Int × Int) : ¬ lessB x x = true := by rw [less_iff]; omega
theorem less_total {x y : Int × Int} (h : ¬ lessB x y = true) : x = y ∨ lessB y x = true := by
 rw [less_iff] at *
 by_cases e : x = y
 ·exact .inl e
 ·right
  rcases Int.lt_trichotomy x.1 y.1 with a | a | a
  ·omega
  ·right
   refine ⟨a.symm, ?_⟩
   rcases Int.lt_trichotomy x.2 y.2 with b | b | b
   ·omega
   ·exact absurd (Prod.ext a b) e
   ·exact b
  ·omega
def Up (l : List (Int × Int)) : Prop := l.Pairwise fun x y => lessB x y = true
theorem tw_mem (x : Int × Int) : ∀ (l : List (Int × Int)), ∀ y ∈ l.takeWhile (fun y => lessB y x), lessB y x = true := by
 intro l
 induction l with
 | nil => intro y hy; simp at hy
 | cons a t ih =>
  intro y hy
  by_cases h : lessB a x = true
  ·rw [tw_pos h] at hy
   rcases List.mem_cons.1 hy with rfl | hy
   ·exact h
   ·exact ih y hy
  ·rw [tw_neg h] at hy
   cases hy
theorem dw_head (x : Int × Int) : ∀ (l : List (Int × Int)) q Q', l.dropWhile (fun y => lessB y x) = q :: Q' → ¬ lessB q x = true := by
 intro l
 induction l with
 | nil => intro q Q' h; simp at h
 | cons a t ih =>
  intro q Q' h
  by_cases c : lessB a x = true
  ·rw [List.dropWhile_cons_of_pos (p := fun y => lessB y x) c] at h
   exact ih q Q' h
  ·rw [List.dropWhile_cons_of_neg (p := fun y => lessB y x) c] at h
   injection h with h _
   rw [← h]; exact c
open Classical in
theorem put_eq (l : List (Int × Int)) (x : Int × Int) : ∃ P Q, l = P ++ Q ∧ (∀ y ∈ P, lessB y x = true) ∧ (∀ q Q', Q = q :: Q' → ¬ lessB q x = true) ∧ putL l x = if ∃ Q', Q = x :: Q' then l else P ++ x :: Q := by
 refine ⟨l.takeWhile (fun y => lessB y x), l.dropWhile (fun y => lessB y x), (List.takeWhile_append_dropWhile).symm, fun y hy => tw_mem x l y hy, fun q Q' e => dw_head x l q Q' e, ?_⟩
 ·have hl : l = l.takeWhile (fun y => lessB y x) ++ l.dropWhile (fun y => lessB y x) := (List.takeWhile_append_dropWhile).symm
  have ht : l.take (ahead l x) = l.takeWhile (fun y => lessB y x) := by
   have := List.take_left (l₁ := l.takeWhile (fun y => lessB y x)) (l₂ := l.dropWhile (fun y => lessB y x))
   rw [← hl] at this
   exact this
  have hd : l.drop (ahead l x) = l.dropWhile (fun y => lessB y x) := by
   have := List.drop_left (l₁ := l.takeWhile (fun y => lessB y x)) (l₂ := l.dropWhile (fun y => lessB y x))
   rw [← hl] at this
   exact this
  have hc : (ahead l x < l.length ∧ pe l (ahead l x) = x) ↔ ∃ Q', l.dropWhile (fun y => lessB y x) = x :: Q' := by
   rw [← hd]
   constructor
   ·rintro ⟨h1, h2⟩
    refine ⟨l.drop (ahead l x + 1), ?_⟩
    rw [List.drop_eq_getElem_cons h1]
    have := pe_of h1
    rw [List.getElem?_eq_getElem h1, h2] at this
    rw [Option.some.inj this]
   ·rintro ⟨Q', e⟩
    have h1 : ahead l x < l.length := by
     rcases Nat.lt_or_ge (ahead l x) l.length with h | h
     ·exact h
     ·rw [List.drop_of_length_le h] at e; cases e
    refine ⟨h1, ?_⟩
    rw [List.drop_eq_getElem_cons h1] at e
    injection e with e _
    have := pe_of h1
    rw [List.getElem?_eq_getElem h1, e] at this
    exact (Option.some.inj this).symm
  unfold putL
  rw [ht, hd]
  by_cases h : ahead l x < l.length ∧ pe l (ahead l x) = x
  ·rw [if_pos h, if_pos (hc.1 h)]
  ·rw [if_neg h, if_neg (fun e => h (hc.2 e))]
theorem put_up {l : List (Int × Int)} (h : Up l) (x : Int × Int) : Up (putL l x) ∧ ∀ y, y ∈ putL l x ↔ y ∈ l ∨ y = x := by
 obtain ⟨P, Q, e, h1, h2, h3⟩ := put_eq l x
 rw [h3]
 by_cases c : ∃ Q', Q = x :: Q'
 ·rw [if_pos c]
  obtain ⟨Q', rfl⟩ := c
  refine ⟨h, fun y => ⟨.inl, fun k => ?_⟩⟩
  rcases k with k | rfl
  ·exact k
  ·rw [e]; simp
 ·rw [if_neg c]
  subst e
  unfold Up at h ⊢
  rw [List.pairwise_append] at h ⊢
  obtain ⟨a1, a2, a3⟩ := h
  have hx : ∀ q ∈ Q, lessB x q = true := by
   cases Q with
   | nil => intro q hq; cases hq
   | cons q Q' =>
    rcases less_total (h2 q Q' rfl) with k | k
    ·exact absurd ⟨Q', by rw [k]⟩ c
    ·intro z hz
     rcases List.mem_cons.1 hz with rfl | hz
     ·exact k
     ·exact less_trans k ((List.pairwise_cons.1 a2).1 z hz)
  refine ⟨⟨a1, List.pairwise_cons.2 ⟨hx, a2⟩, fun p hp z hz => ?_⟩, fun y => by simp only [List.mem_append, List.mem_cons]; exact ⟨fun k => k.elim (fun a => .inl (.inl a)) (fun k => k.elim .inr (fun a => .inl (.inr a))), fun k => k.elim (fun k => k.elim .inl (fun a => .inr (.inr a))) (fun a => .inr (.inl a))⟩⟩
  rcases List.mem_cons.1 hz with rfl | hz
  ·exact h1 p hp
  ·exact a3 p hp z hz
def norm (p : Int × Int) : Int × Int := if p.1 < p.2 then p else (p.2, p.1)
theorem makeL_up (ps : List (Int × Int)) : Up (makeL ps) ∧ ∀ y, y ∈ makeL ps ↔ ∃ p ∈ ps, p.1 ≠ p.2 ∧ norm p = y := by
 have gen : ∀ (ps l : List (Int × Int)), Up l → Up (ps.foldl putPair l) ∧ ∀ y, y ∈ ps.foldl putPair l ↔ y ∈ l ∨ ∃ p ∈ ps, p.1 ≠ p.2 ∧ norm p = y := by
  intro ps
  induction ps with
  | nil => intro l h; exact ⟨h, fun y => by simp⟩
  | cons p t ih =>
   intro l h
   have hp : Up (putPair l p) ∧ ∀ y, y ∈ putPair l p ↔ y ∈ l ∨ (p.1 ≠ p.2 ∧ norm p = y) := by
    unfold putPair norm
    by_cases c : p.1 < p.2
    ·rw [if_pos c]
     obtain ⟨a, b⟩ := put_up h p
     refine ⟨a, fun y => (b y).trans ⟨fun k => k.imp id (fun e => ⟨by omega, by rw [if_pos c]; exact e.symm⟩), fun k => k.imp id (fun e => by have := e.2; rw [if_pos c] at this; exact this.symm)⟩⟩
    ·by_cases d : p.2 < p.1
     ·rw [if_neg c, if_pos d]
      obtain ⟨a, b⟩ := put_up h (p.2, p.1)
      refine ⟨a, fun y => (b y).trans ⟨fun k => k.imp id (fun e => ⟨by omega, by rw [if_neg c]; exact e.symm⟩), fun k => k.imp id (fun e => by have := e.2; rw [if_neg c] at this; exact this.symm)⟩⟩
     ·rw [if_neg c, if_neg d]
      exact ⟨h, fun y => ⟨.inl, fun k => k.elim id (fun e => absurd (show p.1 = p.2 by omega) e.1)⟩⟩
   obtain ⟨a, b⟩ := ih _ hp.1
   refine ⟨a, fun y => ?_⟩
   show y ∈ t.foldl putPair (putPair l p) ↔ _
   rw [b y, hp.2 y]
   constructor
   ·rintro ((k | k) | ⟨q, hq, k⟩)
    ·exact .inl k
    ·exact .inr ⟨p, List.mem_cons_self, k⟩
    ·exact .inr ⟨q, List.mem_cons_of_mem _ hq, k⟩
   ·rintro (k | ⟨q, hq, k⟩)
    ·exact .inl (.inl k)
    ·rcases List.mem_cons.1 hq with rfl | hq
     ·exact .inl (.inr k)
     ·exact .inr ⟨q, hq, k⟩
 obtain ⟨a, b⟩ := gen ps [] List.Pairwise.nil
 exact ⟨a, fun y => by rw [show makeL ps = ps.foldl putPair [] from rfl, b y]; simp⟩
theorem Up.nodup {l : List (Int × Int)} (h : Up l) : l.Nodup := by
 unfold Up at h
 exact List.Pairwise.imp (fun {a b} hab => (fun e : a = b => less_irrefl b (by rw [e] at hab; exact hab))) h
theorem Up.ext {l m : List (Int × Int)} (h : Up l) (k : Up m) (e : ∀ y, y ∈ l ↔ y ∈ m) : l = m := by
 induction l generalizing m with
 | nil =>
  cases m with
  | nil => rfl
  | cons a t => exact absurd ((e a).2 (by simp)) (by simp)
 | cons a t ih =>
  cases m with
  | nil => exact absurd ((e a).1 (by simp)) (by simp)
  | cons b s =>
   obtain ⟨h1, h2⟩ := List.pairwise_cons.1 h
   obtain ⟨k1, k2⟩ := List.pairwise_cons.1 k
   have hab : a = b := by
    rcases List.mem_cons.1 ((e a).1 (by simp)) with c | c
    ·exact c
    ·rcases List.mem_cons.1 ((e b).2 (by simp)) with d | d
     ·exact d.symm
     ·exact absurd (less_trans (h1 b d) (k1 a c)) (less_irrefl a)
   subst hab
   congr 1
   refine ih h2 k2 (fun y => ⟨fun hy => ?_, fun hy => ?_⟩)
   ·rcases List.mem_cons.1 ((e y).1 (List.mem_cons_of_mem _ hy)) with c | c
    ·subst c; exact absurd (h1 y hy) (less_irrefl y)
    ·exact c
   ·rcases List.mem_cons.1 ((e y).2 (List.mem_cons_of_mem _ hy)) with c | c
    ·subst c; exact absurd (k1 y hy) (less_irrefl y)
    ·exact c
end Go.Proofs.Yteeihjpnhjnknaa.Mk
namespace Go.Proofs.Yteeihjpnhjnknaa.Rot
open Go.RowKit Go.Proofs.YteeihjpnhjnknaaW.PrintWords Go.Proofs.YteeihjpnhjnknaaW.PrintLast Go.Proofs.YteeihjpnhjnknaaW.PrintMore Go.Proofs.Yteeihjpnhjnknaa.Mem
set_option linter.unusedVariables false
set_option linter.unusedSimpArgs false
def froms (es : List (Int × Int)) : List Int := es.flatMap fun e => [e.1, e.2]
theorem froms_length (es : List (Int × Int)) : (froms es).length = 2 * es.length := by
 induction es with
 | nil => rfl
 | cons e es ih => unfold froms at ih ⊢; rw [List.flatMap_cons, List.length_append, ih]; simp; omega
theorem froms_take {es : List (Int × Int)} {i : Nat} (h : i < es.length) : froms (es.take (i + 1)) = froms (es.take i) ++ [(pe es i).1, (pe es i).2] := by
 unfold froms
 rw [List.take_succ_eq_append_getElem h, List.flatMap_append]
 simp [pe, List.getD_eq_getElem?_getD, h]
theorem cell_two_new (w : World) (x y : Value) (t : TypeId) : ∀ j u, [x, y][j]? = some u → (w.alloc (.cells #[x, y] t)).cell? ((⟨w.heap.size, 0, none⟩ : Addr).add j) = some u := by
 intro j u hj
 rw [add_plain]
 exact heap_cell (heap_last w _) (by simpa using hj)
set_option maxHeartbeats 1000000 in
set_option maxRecDepth 100000 in
theorem begins_calls (n : Int) (A : Option Addr) (c : Nat) (es : List (Int × Int)) (w : World) (he : Pairs w A es) (hl : es.length ≤ 4194304) :
  Calls Try.prog 86 #[.agg #[.int .i64 n, .slice A es.length c]] w fun e w' => ∃ v, e = .returned v ∧ Kd.R (Kd.int .i64) 3 w' w.heap.size (fun _ => True) v (froms es) ∧ Below w.heap.size w w' := by
 have HE := Aside0.mk he
 have HB := Aside0.mk ((Below.refl w.heap.size w).alloc (Nat.le_refl _) (.cells #[.int .i64 n, .slice A es.length c] 24 (0, 0)))
 have HX := Aside0.mk (heap_last w (.cells #[.int .i64 n, .slice A es.length c] 24 (0, 0)))
 clear he
 have mk : ∀ W : World, (Instr.makeSlice 32 (.int .i64 0) (.int .i64 (2 * (es.length : Int)))).run Try.prog W = .ok (.slice (some ⟨W.heap.size, 0, none⟩) 0 (2 * es.length)) (W.alloc (.cells (madeCells #[.int .i64 0] (2 * es.length)) 3)) := by
  intro W
  obtain ⟨i0, hi, hz0, hz1, hz2⟩ := info_parts info_int
  have h := run_make (P := Try.prog) W 32 3 i0 (.int .i64 0) Try.underlying32 hi hz0 .i64 .i64 0 (2 * (es.length : Int)) (by omega) (by omega) (by rw [hz2]; omega) (by omega)
  rw [hz1, Nat.mul_one, show (2 * (es.length : Int)).toNat = 2 * es.length by omega] at h
  exact h
 have x1 : (w.alloc (.cells #[.int .i64 n, .slice A es.length c] 24 (0, 0))).cell? ⟨w.heap.size, 1, none⟩ = some (.slice A es.length c) := heap_cell HX.out rfl
 go_enter Try.func86, Try.ntmps86
 go_wp2_with fail
 clear mk
 have HB2 : Aside0 (Below w.heap.size w ((w.alloc (.cells #[.int .i64 n, .slice A es.length c] 24 (0, 0))).alloc (.cells (madeCells #[.int .i64 0] (2 * es.length)) 3))) := ⟨HB.out.alloc HB.out.size _⟩
 have HO : Aside0 (((w.alloc (.cells #[.int .i64 n, .slice A es.length c] 24 (0, 0))).alloc (.cells (madeCells #[.int .i64 0] (2 * es.length)) 3)).ownsRow w.heap.size 3 1 (.slice (some ⟨w.heap.size + 1, 0, none⟩) 0 (2 * es.length)) 0 []) := ⟨by
  have h := World.ownsRow_made (base := w.heap.size) (size := 1) (e := 3) (w.alloc (.cells #[.int .i64 n, .slice A es.length c] 24 (0, 0))) (madeCells #[.int .i64 0] (2 * es.length)) (2 * es.length) (by simp) (by unfold maxLen; omega) (by simp [size_madeCells])
  simpa using h⟩
 generalize (w.alloc (.cells #[.int .i64 n, .slice A es.length c] 24 (0, 0))).alloc (.cells (madeCells #[.int .i64 0] (2 * es.length)) 3) = w2 at HB2 HO ⊢
 clear HB HX x1
 obtain ⟨i0, hi0, hz0, hz1, hz2⟩ := info_parts info_int
 go_loopw [3, 14] (fun s y wr => ∃ (i : Nat) (B : Option Addr) (cc : Nat), s = .slice B (2 * i) cc ∧ y = .int .i64 (i : Int) ∧ i ≤ es.length ∧ Aside0 (wr.ownsRow w.heap.size 3 1 (.slice B (2 * i) cc) (froms (es.take i)).length (encs (Value.int .i64) (froms (es.take i)))) ∧ Aside0 (Below w.heap.size w wr)) (fun _ y _ => es.length - (intOf y).toNat)
 case atStart => exact ⟨0, _, _, rfl, rfl, by omega, HO, HB2⟩
 case round =>
  clear HO HB2
  obtain ⟨i, B, cc, rfl, rfl, hi, HO, HB⟩ := hrel
  by_cases hlt : i < es.length
  ·obtain ⟨ad, eA, h1, h2⟩ := (HE.out.below HB.out) i hlt
   subst eA
   obtain ⟨x, hx⟩ : ∃ x, x = (pe es i).1 := ⟨_, rfl⟩
   obtain ⟨y, hy⟩ : ∃ y, y = (pe es i).2 := ⟨_, rfl⟩
   have HF := Aside0.mk (froms_take hlt)
   rw [← hx] at h1 HF
   rw [← hy] at h2 HF
   clear hx hy
   have hfl := froms_length (es.take i)
   rw [List.length_take, Nat.min_eq_left hi] at hfl
   have HFL := Aside0.mk hfl
   clear hfl
   rw [HFL.out] at HO
   have HO2 := Aside0.mk ((HO.out.alloc (.cells #[.int .i64 x, .int .i64 y] 89)).alloc (.cells #[.int .i64 x, .int .i64 y] 3))
   have HB2 := Aside0.mk ((HB.out.alloc HB.out.size (.cells #[.int .i64 x, .int .i64 y] 89)).alloc (by have := HB.out.size; simp; omega) (.cells #[.int .i64 x, .int .i64 y] 3))
   have hsz := HB.out.size
   go_wp2_with (at_builtin; go_loud (refine wpList_append_own_at _ rfl _ _ 32 rfl w.heap.size 3 i0 (.int .i64 0) 1 8 Try.underlying32 hi0 hz0 hz1 hz2 rfl (by decide) (.slice B (2 * i) cc) (2 * i) _ rfl HO2.out ⟨wr.heap.size + 1, 0, none⟩ 2 2 [.int .i64 x, .int .i64 y] rfl rfl ?c1 ?c2 ?c3 ?c4 ?c5 ?_))
   case c1 =>
    have := cell_two_new (wr.alloc (.cells #[.int .i64 x, .int .i64 y] 89)) (.int .i64 x) (.int .i64 y) 3
    simpa using this
   case c2 => intro u hu; simp at hu; rcases hu with rfl | rfl <;> rfl
   case c3 => unfold maxLen; omega
   case c4 => omega
   case c5 => simp; omega
   intro v' w3 hown hgrow _ hat
   obtain ⟨B', cc', rfl⟩ := own_slice hown
   rw [show 2 * i + 2 = 2 * (i + 1) by omega] at hown ⊢
   have HB3 := Aside0.mk (HB2.out.grown hgrow (by simp; omega) (fun k hk => (HO2.out.lt k hk).1))
   have HO3 : Aside0 (w3.ownsRow w.heap.size 3 1 (.slice B' (2 * (i + 1)) cc') (froms (es.take (i + 1))).length (encs (Value.int .i64) (froms (es.take (i + 1))))) := ⟨by
    have e : 2 * (i + 1) = (froms (es.take i) ++ [x, y]).length := by rw [List.length_append, HFL.out]; rfl
    rw [HF.out, ← e]
    simpa [encs] using hown⟩
   clear hown hgrow hat HO HO2 HB HB2 h1 h2
   go_wp2_with fail
   go_roundw
   case rel => exact ⟨i + 1, B', cc', rfl, by go_num, by omega, HO3, HB3⟩
   case measure => simp [intOf]; omega
  ·obtain rfl : i = es.length := by omega
   go_wp2_with fail
   go_ret
   rw [List.take_length] at HO
   exact ⟨_, rfl, Kd.R_of_own HO.out (fun _ _ => trivial), HB.out⟩
end Go.Proofs.Yteeihjpnhjnknaa.Rot
namespace Go.Proofs.Yteeihjpnhjnknaa.Rot
open Go.RowKit Go.Proofs.YteeihjpnhjnknaaW.PrintWords Go.Proofs.Yteeihjpnhjnknaa.Mem
set_option linter.unusedVariables false
set_option linter.unusedSimpArgs false
def leaves (fr : List Int) (v : Int) (h : Int) : Bool := decide (h ≥ 0) && (decide (h < (fr.length : Int)) && (gi fr h.toNat == v))
def elems (fr : List Int) (v : Int) : List Int → List Bool → Except Int (List Bool)
 | [], S => .ok S
 | h :: t, S => if leaves fr v h = true then (if gb S h.toNat = true then .error 112 else elems fr v t (S.set h.toNat true)) else .error 111
def rows (fr ds : List Int) : Nat → List (List Int) → List Bool → Int × Int
 | _, [], _ => (0, 0)
 | v, row :: t, S => match elems fr v row S with
  | .error e => (v, e)
  | .ok S' => if (row.length : Int) = gi ds v then rows fr ds (v + 1) t S' else (v, 113)
def after (fr ds : List Int) (v : Nat) (row : List Int) (t : List (List Int)) : Except Int (List Bool) → Int × Int
 | .error e => (v, e)
 | .ok S' => if (row.length : Int) = gi ds v then rows fr ds (v + 1) t S' else (v, 113)
theorem after_ok (fr ds : List Int) (v : Nat) (row : List Int) (t : List (List Int)) (S' : List Bool) : after fr ds v row t (.ok S') = if (row.length : Int) = gi ds v then rows fr ds (v + 1) t S' else ((v : Int), 113) := rfl
theorem rows_cons (fr ds : List Int) (v : Nat) (row : List Int) (t : List (List Int)) (S : List Bool) : rows fr ds v (row :: t) S = after fr ds v row t (elems fr v row S) := by
 rw [rows]
 cases elems fr v row S <;> rfl
theorem elems_cons_no {fr : List Int} {v h : Int} {t : List Int} {S : List Bool} (hl : leaves fr v h = false) : elems fr v (h :: t) S = .error 111 := by simp [elems, hl]
theorem elems_cons_twice {fr : List Int} {v h : Int} {t : List Int} {S : List Bool} (hl : leaves fr v h = true) (hs : gb S h.toNat = true) : elems fr v (h :: t) S = .error 112 := by simp [elems, hl, hs]
theorem elems_cons {fr : List Int} {v h : Int} {t : List Int} {S : List Bool} (hl : leaves fr v h = true) (hs : gb S h.toNat = false) : elems fr v (h :: t) S = elems fr v t (S.set h.toNat true) := by simp [elems, hl, hs]
theorem elems_err (fr : List Int) (v : Int) : ∀ (l : List Int) (S : List Bool) (e : Int), elems fr v l S = .error e → e = 111 ∨ e = 112
 | [], S, e, h => by cases h
 | x :: l, S, e, h => by
  unfold elems at h
  split at h
  ·split at h
   ·injection h with h; exact .inr h.symm
   ·exact elems_err fr v l _ e h
  ·injection h with h; exact .inl h.symm
theorem rows_zero (fr ds : List Int) : ∀ (r : List (List Int)) (v : Nat) (S : List Bool), rows fr ds v r S = (0, 0) ∨ (rows fr ds v r S).2 ≠ 0
 | [], v, S => .inl rfl
 | row :: r, v, S => by
  rw [rows_cons]
  cases h : elems fr v row S with
  | error e =>
   right
   have := elems_err fr v row S e h
   show e ≠ 0
   omega
  | ok S' =>
   rw [after_ok]
   split
   ·exact rows_zero fr ds r (v + 1) S'
   ·right; show (113 : Int) ≠ 0; decide
def faultOf (n : Nat) (es : List (Int × Int)) (ds : List Int) (r : List (List Int)) : Int × Int :=
 if r.length = n then rows (froms es) ds 0 r (List.replicate (2 * es.length) false) else (0, 110)
theorem drop_row {r : List (List Int)} {v : Nat} (h : v < r.length) : r.drop v = gl r v :: r.drop (v + 1) := by
 rw [List.drop_eq_getElem_cons h]
 congr 1
 simp [gl, List.getD_eq_getElem?_getD, h]
theorem drop_int {r : List Int} {v : Nat} (h : v < r.length) : r.drop v = gi r v :: r.drop (v + 1) := by
 rw [List.drop_eq_getElem_cons h]
 congr 1
 simp [gi, List.getD_eq_getElem?_getD, h]
end Go.Proofs.Yteeihjpnhjnknaa.Rot
namespace Go.Proofs.Yteeihjpnhjnknaa.Rot
open Go.RowKit Go.Proofs.YteeihjpnhjnknaaW.PrintWords Go.Proofs.Yteeihjpnhjnknaa.Mem
set_option linter.unusedVariables false
set_option linter.unusedSimpArgs false
theorem nodup_subset {α : Type} [DecidableEq α] : ∀ (l m : List α), l.Nodup → (∀ x ∈ l, x ∈ m) → l.length ≤ m.length
 | [], m, _, _ => Nat.zero_le _
 | a :: l, m, hn, hs => by
  rw [List.nodup_cons] at hn
  have ha : a ∈ m := hs a (List.mem_cons_self ..)
  have h := nodup_subset l (m.erase a) hn.2 (fun x hx => by
   have hx2 := hs x (List.mem_cons_of_mem _ hx)
   exact (List.mem_erase_of_ne (fun e => hn.1 (by rw [← e]; exact hx))).2 hx2)
  rw [List.length_erase_of_mem ha] at h
  have := List.length_pos_of_mem ha
  simp; omega
theorem nodup_full {α : Type} [DecidableEq α] {l m : List α} (hn : l.Nodup) (hs : ∀ x ∈ l, x ∈ m) (hl : m.length ≤ l.length) {x : α} (hx : x ∈ m) : x ∈ l := by
 refine Decidable.byContradiction fun h => ?_
 have := nodup_subset (x :: l) m (List.nodup_cons.2 ⟨h, hn⟩) (fun y hy => by
  rcases List.mem_cons.1 hy with rfl | hy
  ·exact hx
  ·exact hs y hy)
 simp at this; omega
theorem leaves_iff {fr : List Int} {v h : Int} : leaves fr v h = true ↔ 0 ≤ h ∧ h < (fr.length : Int) ∧ gi fr h.toNat = v := by
 unfold leaves
 rw [Bool.and_eq_true, Bool.and_eq_true, decide_eq_true_eq, decide_eq_true_eq, beq_iff_eq]
theorem elems_ok {fr : List Int} {v : Int} : ∀ (row : List Int) (S S' : List Bool), S.length = fr.length → elems fr v row S = .ok S' →
  (∀ h ∈ row, leaves fr v h = true) ∧ row.Nodup ∧ (∀ h ∈ row, gb S h.toNat = false) ∧ S'.length = fr.length ∧ ∀ j : Nat, gb S' j = (gb S j || decide ((j : Int) ∈ row))
 | [], S, S', hl, h => by
  injection h with h
  subst h
  exact ⟨by simp, List.nodup_nil, by simp, hl, fun j => by simp⟩
 | h :: t, S, S', hl, he => by
  cases hlv : leaves fr v h with
  | false => rw [elems_cons_no hlv] at he; cases he
  | true =>
   cases hs : gb S h.toNat with
   | true => rw [elems_cons_twice hlv hs] at he; cases he
   | false =>
    rw [elems_cons hlv hs] at he
    obtain ⟨h1, h2, h3, h4, h5⟩ := elems_ok t _ S' (by rw [List.length_set]; exact hl) he
    obtain ⟨l1, l2, l3⟩ := leaves_iff.1 hlv
    have hne : ∀ x ∈ t, x ≠ h ∧ gb S x.toNat = false := by
     intro x hx
     have := h3 x hx
     rw [gb_set] at this
     by_cases e : h.toNat = x.toNat ∧ x.toNat < S.length
     ·rw [if_pos e] at this; cases this
     ·rw [if_neg e] at this
      refine ⟨fun e2 => e ⟨by rw [e2], by rw [e2, hl]; omega⟩, this⟩
    refine ⟨?_, ?_, ?_, h4, fun j => ?_⟩
    ·intro x hx
     rcases List.mem_cons.1 hx with rfl | hx
     ·exact hlv
     ·exact h1 x hx
    ·rw [List.nodup_cons]
     exact ⟨fun hx => (hne h hx).1 rfl, h2⟩
    ·intro x hx
     rcases List.mem_cons.1 hx with rfl | hx
     ·exact hs
     ·exact (hne x hx).2
    ·rw [h5, gb_set]
     by_cases e : h.toNat = j
     ·have e2 : h = (j : Int) := by omega
      rw [if_pos ⟨e, by rw [hl]; omega⟩]
      simp [e2]
     ·have e2 : ¬ (j : Int) = h := fun x => e (by omega)
      rw [if_neg (fun x => e x.1)]
      simp [e2]
theorem elems_mk {fr : List Int} {v : Int} : ∀ (row : List Int) (S : List Bool), S.length = fr.length → (∀ h ∈ row, leaves fr v h = true) → row.Nodup → (∀ h ∈ row, gb S h.toNat = false) → ∃ S', elems fr v row S = .ok S'
 | [], S, _, _, _, _ => ⟨S, rfl⟩
 | h :: t, S, hl, h1, h2, h3 => by
  rw [elems_cons (h1 h (List.mem_cons_self ..)) (h3 h (List.mem_cons_self ..))]
  rw [List.nodup_cons] at h2
  refine elems_mk t _ (by rw [List.length_set]; exact hl) (fun x hx => h1 x (List.mem_cons_of_mem _ hx)) h2.2 (fun x hx => ?_)
  rw [gb_set]
  obtain ⟨l1, _, _⟩ := leaves_iff.1 (h1 h (List.mem_cons_self ..))
  obtain ⟨m1, _, _⟩ := leaves_iff.1 (h1 x (List.mem_cons_of_mem _ hx))
  rw [if_neg]
  ·exact h3 x (List.mem_cons_of_mem _ hx)
  ·rintro ⟨e, _⟩
   exact h2.1 (by rw [show h = x by omega]; exact hx)
def RowOk (fr ds : List Int) (v : Nat) (row : List Int) : Prop := (∀ h ∈ row, leaves fr v h = true) ∧ row.Nodup ∧ (row.length : Int) = gi ds v
theorem rows_ok {fr ds : List Int} {r : List (List Int)} (d : Nat) : ∀ (v : Nat) (S : List Bool), v + d = r.length → S.length = fr.length → (∀ j : Nat, gb S j = true → ∃ u, u < v ∧ leaves fr u (j : Int) = true) →
  (rows fr ds v (r.drop v) S = (0, 0) ↔ ∀ u, v ≤ u → u < r.length → RowOk fr ds u (gl r u)) := by
 induction d with
 | zero =>
  intro v S hv hl hm
  rw [List.drop_of_length_le (by omega)]
  exact ⟨fun _ u h1 h2 => by omega, fun _ => rfl⟩
 | succ d ih =>
  intro v S hv hl hm
  have hlt : v < r.length := by omega
  rw [drop_row hlt, rows_cons]
  constructor
  ·intro h
   cases he : elems fr v (gl r v) S with
   | error e =>
    rw [he] at h
    have h2 : ((v : Int), e) = (0, 0) := h
    have := elems_err fr v _ S e he
    simp only [Prod.mk.injEq] at h2
    omega
   | ok S' =>
    rw [he, after_ok] at h
    obtain ⟨e1, e2, e3, e4, e5⟩ := elems_ok _ S S' hl he
    by_cases hd : ((gl r v).length : Int) = gi ds v
    ·rw [if_pos hd] at h
     have h3 := (ih (v + 1) S' (by omega) e4 (fun j hj => ?_)).1 h
     ·intro u hu1 hu2
      rcases Nat.eq_or_lt_of_le hu1 with rfl | hu
      ·exact ⟨e1, e2, hd⟩
      ·exact h3 u hu hu2
     ·rw [e5, Bool.or_eq_true, decide_eq_true_eq] at hj
      rcases hj with hj | hj
      ·obtain ⟨u, h1, h2⟩ := hm j hj
       exact ⟨u, by omega, h2⟩
      ·exact ⟨v, by omega, e1 _ hj⟩
    ·rw [if_neg hd] at h
     simp only [Prod.mk.injEq] at h
     omega
  ·intro h
   obtain ⟨h1, h2, h3⟩ := h v (Nat.le_refl _) hlt
   obtain ⟨S', he⟩ := elems_mk (gl r v) S hl h1 h2 (fun x hx => by
    cases hb : gb S x.toNat with
    | false => rfl
    | true =>
     obtain ⟨u, hu, hlu⟩ := hm _ hb
     obtain ⟨a1, a2, a3⟩ := leaves_iff.1 (h1 x hx)
     obtain ⟨b1, b2, b3⟩ := leaves_iff.1 hlu
     rw [Int.toNat_natCast] at b3
     omega)
   obtain ⟨e1, e2, e3, e4, e5⟩ := elems_ok _ S S' hl he
   rw [he, after_ok, if_pos h3]
   refine (ih (v + 1) S' (by omega) e4 (fun j hj => ?_)).2 (fun u hu1 hu2 => h u (by omega) hu2)
   rw [e5, Bool.or_eq_true, decide_eq_true_eq] at hj
   rcases hj with hj | hj
   ·obtain ⟨u, h1, h2⟩ := hm j hj
    exact ⟨u, by omega, h2⟩
   ·exact ⟨v, by omega, e1 _ hj⟩
theorem gb_none (n j : Nat) : gb (List.replicate n false) j = false := by
 unfold gb
 by_cases h : j < n <;> simp [List.getD_eq_getElem?_getD, List.getElem?_replicate, h]
theorem rows_none {fr ds : List Int} {r : List (List Int)} : rows fr ds 0 r (List.replicate fr.length false) = (0, 0) ↔ ∀ u, u < r.length → RowOk fr ds u (gl r u) := by
 have h := rows_ok (fr := fr) (ds := ds) (r := r) r.length 0 (List.replicate fr.length false) (by omega) (by simp) (fun j hj => by rw [gb_none] at hj; cases hj)
 rw [List.drop_zero] at h
 exact h.trans ⟨fun h u hu => h u (Nat.zero_le _) hu, fun h u _ hu => h u hu⟩
def leaving (fr : List Int) (v : Nat) : List Int := ((List.range fr.length).filter fun j => gi fr j == (v : Int)).map fun (j : Nat) => (j : Int)
theorem mem_leaving {fr : List Int} {v : Nat} {h : Int} : h ∈ leaving fr v ↔ leaves fr v h = true := by
 unfold leaving
 rw [leaves_iff, List.mem_map]
 constructor
 ·rintro ⟨j, hj, rfl⟩
  rw [List.mem_filter, List.mem_range, beq_iff_eq] at hj
  exact ⟨by omega, by omega, by rw [Int.toNat_natCast]; exact hj.2⟩
 ·rintro ⟨h1, h2, h3⟩
  exact ⟨h.toNat, by rw [List.mem_filter, List.mem_range, beq_iff_eq]; exact ⟨by omega, h3⟩, by omega⟩
theorem leaving_nodup (fr : List Int) (v : Nat) : (leaving fr v).Nodup := by
 unfold leaving
 refine List.pairwise_map.2 ((List.Pairwise.filter _ List.nodup_range).imp fun {a b} h e => h (by omega))
structure IsRot (fr : List Int) (n : Nat) (r : List (List Int)) : Prop where
 len : r.length = n
 nodup : ∀ v, v < n → (gl r v).Nodup
 mem : ∀ v, v < n → ∀ h, h ∈ gl r v ↔ leaves fr v h = true
theorem isRot_of {fr ds : List Int} {n : Nat} {r : List (List Int)} (hl : r.length = n) (hd : ∀ v, v < n → gi ds v = ((leaving fr v).length : Int)) : rows fr ds 0 r (List.replicate fr.length false) = (0, 0) ↔ IsRot fr n r := by
 rw [rows_none]
 constructor
 ·intro h
  refine ⟨hl, fun v hv => (h v (by omega)).2.1, fun v hv x => ⟨(h v (by omega)).1 x, fun hx => ?_⟩⟩
  obtain ⟨h1, h2, h3⟩ := h v (by omega)
  rw [hd v hv] at h3
  exact nodup_full h2 (fun y hy => mem_leaving.2 (h1 y hy)) (by omega) (mem_leaving.2 hx)
 ·intro h v hv
  have hv2 : v < n := by omega
  refine ⟨fun x hx => (h.mem v hv2 x).1 hx, h.nodup v hv2, ?_⟩
  rw [hd v hv2]
  have h1 := nodup_subset (gl r v) (leaving fr v) (h.nodup v hv2) (fun x hx => mem_leaving.2 ((h.mem v hv2 x).1 hx))
  have h2 := nodup_subset (leaving fr v) (gl r v) (leaving_nodup fr v) (fun x hx => (h.mem v hv2 x).2 (mem_leaving.1 hx))
  omega
end Go.Proofs.Yteeihjpnhjnknaa.Rot
namespace Go.Proofs.Yteeihjpnhjnknaa.Seen
open Go.RowKit Go.Proofs.YteeihjpnhjnknaaW.PrintWords Go.Proofs.YteeihjpnhjnknaaW.PrintLast Go.Proofs.YteeihjpnhjnknaaW.PrintMore Go.Proofs.Yteeihjpnhjnknaa.Mem
set_option linter.unusedVariables false
set_option linter.unusedSimpArgs false
def tw (h : Int) : Int := Go.bits .xor .i64 h 1
def it (nx : List Int) (h : Int) : Nat → Int
 | 0 => h
 | j + 1 => gi nx (it nx h j).toNat
def per (nx : List Int) (h : Int) : Nat := (((List.range nx.length).find? fun j => it nx h (j + 1) == h).map (· + 1)).getD 0
structure St where
 num : List Int
 ent : List Int
 ord : List Int
 cd : List Int
def stepH (tos : List Int) (s : St) (h : Int) : St :=
 if gi s.num (gi tos h.toNat).toNat < 0 then ⟨s.num.set (gi tos h.toNat).toNat s.ord.length, s.ent ++ [tw h], s.ord ++ [gi tos h.toNat], s.cd ++ [(s.ord.length : Int)]⟩
 else ⟨s.num, s.ent, s.ord, s.cd ++ [gi s.num (gi tos h.toNat).toNat]⟩
def turn (nx tos : List Int) (s : St) (h : Int) : Nat → St
 | 0 => s
 | j + 1 => stepH tos (turn nx tos s h j) (it nx h j)
def vert (nx tos : List Int) (s : St) (h : Int) : St :=
 { turn nx tos { s with cd := [] } h (per nx h) with cd := s.cd ++ ((per nx h : Nat) : Int) :: (turn nx tos { s with cd := [] } h (per nx h)).cd }
def upto (nx tos : List Int) (s : St) : Nat → St
 | 0 => s
 | k + 1 => if k < (upto nx tos s k).ent.length then vert nx tos (upto nx tos s k) (gi (upto nx tos s k).ent k) else upto nx tos s k
def start (n : Nat) (tos : List Int) (root : Int) (v : Int) : St := ⟨(List.replicate n (-1)).set v.toNat 0, [root], [v], []⟩
def all (n : Nat) (nx tos : List Int) (root : Int) : St := upto nx tos (start n tos root (gi tos (tw root).toNat)) n
def inR (x : Int) (m : Nat) : Bool := decide (0 ≤ x ∧ x < (m : Int))
def fit (n : Nat) (nx tos : List Int) : Bool := decide (n ≤ 1048576 ∧ nx.length ≤ 8388608 ∧ tos.length = nx.length) &&
 (List.range nx.length).all fun h => inR (gi nx h) nx.length && inR (gi tos h) n && inR (tw (h : Nat)) nx.length && decide (0 < per nx (h : Nat))
structure Fit (n : Nat) (nx tos : List Int) : Prop where
 hn : n ≤ 1048576
 hm : nx.length ≤ 8388608
 ht : tos.length = nx.length
 hnx : ∀ h, h < nx.length → 0 ≤ gi nx h ∧ gi nx h < (nx.length : Int)
 htos : ∀ h, h < nx.length → 0 ≤ gi tos h ∧ gi tos h < (n : Int)
 htw : ∀ h : Nat, h < nx.length → 0 ≤ tw (h : Int) ∧ tw (h : Int) < (nx.length : Int)
 hper : ∀ h : Nat, h < nx.length → 0 < per nx (h : Int)
theorem fit_iff {n : Nat} {nx tos : List Int} : fit n nx tos = true ↔ Fit n nx tos := by
 unfold fit inR
 rw [Bool.and_eq_true, decide_eq_true_eq, List.all_eq_true]
 constructor
 ·rintro ⟨⟨a, b, c⟩, h⟩
  refine ⟨a, b, c, fun x hx => ?_, fun x hx => ?_, fun x hx => ?_, fun x hx => ?_⟩ <;>
   (have := h x (List.mem_range.2 hx); simp only [Bool.and_eq_true, decide_eq_true_eq] at this)
  ·exact this.1.1.1
  ·exact this.1.1.2
  ·exact this.1.2
  ·exact this.2
 ·rintro ⟨a, b, c, d, e, f, g⟩
  refine ⟨⟨a, b, c⟩, fun x hx => ?_⟩
  have hx := List.mem_range.1 hx
  simp only [Bool.and_eq_true, decide_eq_true_eq]
  exact ⟨⟨⟨d x hx, e x hx⟩, f x hx⟩, g x hx⟩
def neg (l : List Int) : Nat := (l.filter fun x => decide (x < 0)).length
theorem neg_set : ∀ (l : List Int) (i : Nat) (x : Int), i < l.length → gi l i < 0 → 0 ≤ x → neg (l.set i x) + 1 = neg l
 | [], i, x, h, _, _ => by simp at h
 | a :: l, 0, x, h, h1, h2 => by
  have h1 : a < 0 := h1
  unfold neg
  simp only [List.set_cons_zero]
  rw [List.filter_cons_of_neg (by simpa using h2), List.filter_cons_of_pos (by simpa using h1)]
  rfl
 | a :: l, i + 1, x, h, h1, h2 => by
  have ih := neg_set l i x (by simpa using h) h1 h2
  unfold neg at ih ⊢
  simp only [List.set_cons_succ, List.filter_cons]
  split
  ·simp only [List.length_cons]; omega
  ·exact ih
theorem neg_all (n : Nat) : neg (List.replicate n (-1)) = n := by
 unfold neg
 rw [List.filter_eq_self.2 (fun x hx => by rw [List.eq_of_mem_replicate hx]; rfl), List.length_replicate]
structure Ok (n m : Nat) (s : St) : Prop where
 num : s.num.length = n
 ent : s.ent.length = s.ord.length
 cnt : s.ord.length + neg s.num = n
 inE : ∀ i, i < s.ent.length → 0 ≤ gi s.ent i ∧ gi s.ent i < (m : Int)
 inO : ∀ i, i < s.ord.length → 0 ≤ gi s.ord i ∧ gi s.ord i < (n : Int)
theorem gi_app {x : List Int} {h : Int} {i : Nat} : gi (x ++ [h]) i = if i < x.length then gi x i else if i = x.length then h else 0 := by
 unfold gi
 rw [List.getD_eq_getElem?_getD, List.getD_eq_getElem?_getD]
 by_cases c : i < x.length
 ·rw [if_pos c, List.getElem?_append_left c]
 ·rw [if_neg c, List.getElem?_append_right (by omega)]
  by_cases d : i = x.length
  ·subst d; simp
  ·rw [if_neg d, List.getElem?_eq_none (by simp; omega)]; rfl
theorem Ok.step {n : Nat} {nx tos : List Int} (hf : Fit n nx tos) {s : St} (h : Ok n nx.length s) {q : Int} (h0 : 0 ≤ q) (h1 : q < (nx.length : Int)) : Ok n nx.length (stepH tos s q) := by
 obtain ⟨p, rfl⟩ := Int.eq_ofNat_of_zero_le h0
 have hp : p < nx.length := by omega
 have ht := hf.htos p hp
 have hw := hf.htw p hp
 unfold stepH
 rw [Int.toNat_natCast]
 by_cases c : gi s.num (gi tos p).toNat < 0
 ·rw [if_pos c]
  have hl : (gi tos p).toNat < s.num.length := by rw [h.num]; omega
  have hn := neg_set s.num (gi tos p).toNat (s.ord.length : Int) hl c (by omega)
  have hc := h.cnt
  have hE := h.ent
  refine ⟨by simp [h.num], by simp [hE], by simp only [List.length_append, List.length_singleton]; omega, fun i hi => ?_, fun i hi => ?_⟩
  ·simp only [List.length_append, List.length_singleton] at hi
   simp only [gi_app]
   by_cases d : i < s.ent.length
   ·rw [if_pos d]; exact h.inE i d
   ·rw [if_neg d, if_pos (by omega)]; exact hw
  ·simp only [List.length_append, List.length_singleton] at hi
   simp only [gi_app]
   by_cases d : i < s.ord.length
   ·rw [if_pos d]; exact h.inO i d
   ·rw [if_neg d, if_pos (by omega)]; exact ht
 ·rw [if_neg c]
  exact ⟨h.num, h.ent, h.cnt, h.inE, h.inO⟩
theorem it_in {n : Nat} {nx tos : List Int} (hf : Fit n nx tos) {q : Int} (h0 : 0 ≤ q) (h1 : q < (nx.length : Int)) : ∀ j, 0 ≤ it nx q j ∧ it nx q j < (nx.length : Int)
 | 0 => ⟨h0, h1⟩
 | j + 1 => by
  obtain ⟨a, b⟩ := it_in hf h0 h1 j
  exact hf.hnx _ (by omega)
theorem Ok.cd {n m : Nat} {s : St} (h : Ok n m s) (c : List Int) : Ok n m { s with cd := c } := ⟨h.num, h.ent, h.cnt, h.inE, h.inO⟩
theorem Ok.turn {n : Nat} {nx tos : List Int} (hf : Fit n nx tos) {s : St} (h : Ok n nx.length s) {q : Int} (h0 : 0 ≤ q) (h1 : q < (nx.length : Int)) : ∀ j, Ok n nx.length (turn nx tos s q j)
 | 0 => h
 | j + 1 => (Ok.turn hf h h0 h1 j).step hf (it_in hf h0 h1 j).1 (it_in hf h0 h1 j).2
theorem Ok.vert {n : Nat} {nx tos : List Int} (hf : Fit n nx tos) {s : St} (h : Ok n nx.length s) {q : Int} (h0 : 0 ≤ q) (h1 : q < (nx.length : Int)) : Ok n nx.length (vert nx tos s q) := (Ok.turn hf (h.cd []) h0 h1 _).cd _
theorem Ok.upto {n : Nat} {nx tos : List Int} (hf : Fit n nx tos) {s : St} (h : Ok n nx.length s) : ∀ k, Ok n nx.length (upto nx tos s k)
 | 0 => h
 | k + 1 => by
  have ih := Ok.upto hf h k
  unfold Seen.upto
  split
  ·rename_i hk; exact ih.vert hf (ih.inE k hk).1 (ih.inE k hk).2
  ·exact ih
theorem Ok.le {n m : Nat} {s : St} (h : Ok n m s) : s.ent.length ≤ n := by have := h.cnt; have := h.ent; omega
theorem Ok.start {n m : Nat} {tos : List Int} {root v : Int} (hr : 0 ≤ root ∧ root < (m : Int)) (hv : 0 ≤ v ∧ v < (n : Int)) : Ok n m (start n tos root v) := by
 obtain ⟨i, rfl⟩ := Int.eq_ofNat_of_zero_le hv.1
 have h1 : i < n := by omega
 have h2 : gi (List.replicate n (-1)) i < 0 := by
  unfold gi
  rw [List.getD_eq_getElem?_getD, List.getElem?_replicate, if_pos h1]; decide
 have h3 := neg_set (List.replicate n (-1)) i 0 (by simpa using h1) h2 (by omega)
 rw [neg_all] at h3
 refine ⟨by simp [Seen.start], rfl, ?_, fun j hj => ?_, fun j hj => ?_⟩
 ·show 1 + neg ((List.replicate n (-1)).set i 0) = n
  omega
 ·have : j = 0 := by simpa [Seen.start] using hj
  subst this; exact hr
 ·have : j = 0 := by simpa [Seen.start] using hj
  subst this; exact hv
theorem upto_stop {nx tos : List Int} {s : St} {k : Nat} (h : (upto nx tos s k).ent.length ≤ k) : ∀ d, upto nx tos s (k + d) = upto nx tos s k
 | 0 => rfl
 | d + 1 => by
  have ih := upto_stop h d
  show upto nx tos s (k + d + 1) = _
  rw [upto, ih, if_neg (by omega)]
theorem upto_go {nx tos : List Int} {s : St} {k : Nat} (h : k < (upto nx tos s k).ent.length) : upto nx tos s (k + 1) = vert nx tos (upto nx tos s k) (gi (upto nx tos s k).ent k) := by
 rw [upto, if_pos h]
theorem per_spec {nx : List Int} {h : Int} (hp : 0 < per nx h) : it nx h (per nx h) = h ∧ ∀ j, 0 < j → j < per nx h → it nx h j ≠ h := by
 unfold per at hp ⊢
 cases e : (List.range nx.length).find? fun j => it nx h (j + 1) == h with
 | none => rw [e] at hp; exact absurd hp (by decide)
 | some j =>
  have h1 := List.find?_some e
  rw [beq_iff_eq] at h1
  refine ⟨h1, fun i h2 h3 h4 => ?_⟩
  have h3 : i < j + 1 := h3
  obtain ⟨i, rfl⟩ : ∃ k, i = k + 1 := ⟨i - 1, by omega⟩
  have h5 := (List.find?_eq_some_iff_getElem.1 e).2
  obtain ⟨a, b, c, d⟩ := h5
  rw [List.getElem_range] at c
  have := d i (by omega)
  rw [List.getElem_range] at this
  simp at this
  exact this h4
end Go.Proofs.Yteeihjpnhjnknaa.Seen
namespace Go.Proofs.Yteeihjpnhjnknaa.Graph
open Go.RowKit Go.Proofs.YteeihjpnhjnknaaW.PrintWords Go.Proofs.YteeihjpnhjnknaaW.PrintLast Go.Proofs.YteeihjpnhjnknaaW.PrintMore Go.Proofs.Yteeihjpnhjnknaa.Mem Go.Proofs.Yteeihjpnhjnknaa.Rot
set_option linter.unusedVariables false
set_option linter.unusedSimpArgs false
theorem froms_two : ∀ (es : List (Int × Int)) (i : Nat), i < es.length → gi (froms es) (2 * i) = (pe es i).1 ∧ gi (froms es) (2 * i + 1) = (pe es i).2
 | [], i, h => by simp at h
 | e :: es, 0, _ => ⟨rfl, rfl⟩
 | e :: es, i + 1, h => by
  have ih := froms_two es i (by simpa using h)
  have e1 : froms (e :: es) = e.1 :: e.2 :: froms es := rfl
  have e2 : pe (e :: es) (i + 1) = pe es i := by unfold pe; simp
  rw [e1, e2, show 2 * (i + 1) = 2 * i + 1 + 1 by omega]
  exact ih
def tosL (es : List (Int × Int)) : List Int := es.flatMap fun e => [e.2, e.1]
theorem tos_two : ∀ (es : List (Int × Int)) (i : Nat), i < es.length → gi (tosL es) (2 * i) = (pe es i).2 ∧ gi (tosL es) (2 * i + 1) = (pe es i).1
 | [], i, h => by simp at h
 | e :: es, 0, _ => ⟨rfl, rfl⟩
 | e :: es, i + 1, h => by
  have ih := tos_two es i (by simpa using h)
  have e1 : tosL (e :: es) = e.2 :: e.1 :: tosL es := rfl
  have e2 : pe (e :: es) (i + 1) = pe es i := by unfold pe; simp
  rw [e1, e2, show 2 * (i + 1) = 2 * i + 1 + 1 by omega]
  exact ih
end Go.Proofs.Yteeihjpnhjnknaa.Graph
namespace Go.Proofs.Yteeihjpnhjnknaa.Seen
open Go.RowKit Go.Proofs.YteeihjpnhjnknaaW.PrintWords Go.Proofs.YteeihjpnhjnknaaW.PrintLast Go.Proofs.YteeihjpnhjnknaaW.PrintMore Go.Proofs.Yteeihjpnhjnknaa.Mem
set_option linter.unusedVariables false
set_option linter.unusedSimpArgs false
theorem xor_one2 (q : Nat) : q ^^^ 1 = if q % 2 = 0 then q + 1 else q - 1 := by
 have h1 : (q ^^^ 1) / 2 = q / 2 := by rw [Nat.xor_div_two]; simp
 have h2 : (q ^^^ 1) % 2 = (q + 1) % 2 := by
  have h := Nat.xor_mod_two_pow (a := q) (b := 1) (n := 1)
  rw [show 2 ^ 1 = 2 from rfl] at h
  rw [h]
  rcases Nat.mod_two_eq_zero_or_one q with e | e <;> rw [e] <;> simp <;> omega
 split <;> omega
theorem tw_nat {q : Nat} (h : q ≤ 9000000) : tw (q : Int) = ((if q % 2 = 0 then q + 1 else q - 1 : Nat) : Int) := by
 unfold tw Go.bits
 have e : (BitVec.ofInt IntKind.i64.bits (q : Int) ^^^ BitVec.ofInt IntKind.i64.bits 1).toNat = q ^^^ 1 := by
  rw [BitVec.toNat_xor, BitVec.toNat_ofInt, BitVec.toNat_ofInt]
  have hb : IntKind.i64.bits = 64 := rfl
  rw [hb]
  have e1 : ((q : Int) % (2 ^ 64 : Nat)).toNat = q := by omega
  have e2 : ((1 : Int) % (2 ^ 64 : Nat)).toNat = 1 := by omega
  rw [e1, e2]
 simp only [e]
 rw [xor_one2, IntWalk.i64_in _ (by split <;> omega)]
theorem tw_in {m q : Nat} (hm : m ≤ 4194304) (h : q < 2 * m) : 0 ≤ tw (q : Int) ∧ tw (q : Int) < ((2 * m : Nat) : Int) := by
 rw [tw_nat (by omega)]
 split <;> omega
theorem froms_tw {es : List (Int × Int)} (hm : es.length ≤ 4194304) {h : Nat} (hh : h < 2 * es.length) : gi (Rot.froms es) h = gi (Graph.tosL es) (tw (h : Int)).toNat ∧ gi (Graph.tosL es) h = gi (Rot.froms es) (tw (h : Int)).toNat := by
 rw [tw_nat (by omega), Int.toNat_natCast]
 by_cases c : h % 2 = 0
 ·rw [if_pos c]
  obtain ⟨i, rfl⟩ : ∃ i, h = 2 * i := ⟨h / 2, by omega⟩
  have h1 := Graph.froms_two es i (by omega)
  have h2 := Graph.tos_two es i (by omega)
  exact ⟨by rw [h1.1, h2.2], by rw [h1.2, h2.1]⟩
 ·rw [if_neg c]
  obtain ⟨i, rfl⟩ : ∃ i, h = 2 * i + 1 := ⟨h / 2, by omega⟩
  have h1 := Graph.froms_two es i (by omega)
  have h2 := Graph.tos_two es i (by omega)
  rw [Nat.add_sub_cancel]
  exact ⟨by rw [h1.2, h2.1], by rw [h1.1, h2.2]⟩
theorem tosL_length (es : List (Int × Int)) : (Graph.tosL es).length = 2 * es.length := by
 induction es with
 | nil => rfl
 | cons e es ih => unfold Graph.tosL at ih ⊢; rw [List.flatMap_cons, List.length_append, ih]; simp; omega
end Go.Proofs.Yteeihjpnhjnknaa.Seen
namespace Go.Proofs.Yteeihjpnhjnknaa.Graph
open Go.RowKit Go.Proofs.YteeihjpnhjnknaaW.PrintWords Go.Proofs.YteeihjpnhjnknaaW.PrintLast Go.Proofs.YteeihjpnhjnknaaW.PrintMore Go.Proofs.Yteeihjpnhjnknaa.Mem Go.Proofs.Yteeihjpnhjnknaa.Rot
set_option linter.unusedVariables false
set_option linter.unusedSimpArgs false
set_option maxHeartbeats 1000000 in
set_option maxRecDepth 100000 in
theorem from11_calls (n : Int) (A : Option Addr) (c : Nat) (es : List (Int × Int)) (h : Nat) (w : World) (he : Pairs w A es) (hl : es.length ≤ 4194304) (hh : h < 2 * es.length) :
  Calls Try.prog 45 #[.agg #[.int .i64 n, .slice A es.length c], .int .i64 (h : Int)] w fun e w' => e = .returned (.int .i64 (gi (froms es) h)) ∧ Below w.heap.size w w' := by
 have HE := Aside0.mk he
 have HB := Aside0.mk ((Below.refl w.heap.size w).alloc (Nat.le_refl _) (.cells #[.int .i64 n, .slice A es.length c] 24 (0, 0)))
 have HX := Aside0.mk (heap_last w (.cells #[.int .i64 n, .slice A es.length c] 24 (0, 0)))
 clear he
 have x0 : (w.alloc (.cells #[.int .i64 n, .slice A es.length c] 24 (0, 0))).cell? ⟨w.heap.size, 0, none⟩ = some (.int .i64 n) := heap_cell HX.out rfl
 have x1 : (w.alloc (.cells #[.int .i64 n, .slice A es.length c] 24 (0, 0))).cell? ⟨w.heap.size, 1, none⟩ = some (.slice A es.length c) := heap_cell HX.out rfl
 by_cases hpar : h % 2 = 0
 ·obtain ⟨i, hi⟩ : ∃ i, h = 2 * i := ⟨h / 2, by omega⟩
  have hie : i < es.length := by omega
  have HV := Aside0.mk (froms_two es i hie)
  obtain ⟨ad, eA, y1, y2⟩ := (HE.out.below HB.out) i hie
  subst eA
  obtain ⟨a, ha⟩ : ∃ a : Int, a = (h : Int) := ⟨_, rfl⟩
  have h0 : 0 ≤ a := by omega
  have h1 : a ≤ 8388608 := by omega
  have q1 : a % 2 = 0 := by omega
  have q2 : a / 2 = (i : Int) := by omega
  have HI := Aside0.mk hi
  rw [← ha]
  clear ha hi hpar
  go_enter Try.func45, Try.ntmps45
  go_wp2_with fail
  go_ret
  exact ⟨by rw [HI.out, HV.out.1]; rfl, HB.out⟩
 ·obtain ⟨i, hi⟩ : ∃ i, h = 2 * i + 1 := ⟨h / 2, by omega⟩
  have hie : i < es.length := by omega
  have HV := Aside0.mk (froms_two es i hie)
  obtain ⟨ad, eA, y1, y2⟩ := (HE.out.below HB.out) i hie
  subst eA
  obtain ⟨a, ha⟩ : ∃ a : Int, a = (h : Int) := ⟨_, rfl⟩
  have h0 : 0 ≤ a := by omega
  have h1 : a ≤ 8388608 := by omega
  have q1 : a % 2 = 1 := by omega
  have q2 : a / 2 = (i : Int) := by omega
  have HI := Aside0.mk hi
  rw [← ha]
  clear ha hi hpar
  go_enter Try.func45, Try.ntmps45
  go_wp2_with fail
  go_ret
  exact ⟨by rw [HI.out, HV.out.2]; rfl, HB.out⟩
set_option maxHeartbeats 1000000 in
set_option maxRecDepth 100000 in
theorem leaves_calls (n : Int) (A : Option Addr) (c : Nat) (es : List (Int × Int)) (h v : Int) (w : World) (he : Pairs w A es) (hl : es.length ≤ 4194304) :
  Calls Try.prog 63 #[.agg #[.int .i64 n, .slice A es.length c], .int .i64 h, .int .i64 v] w fun e w' => e = .returned (.bool (leaves (froms es) v h)) ∧ Below w.heap.size w w' := by
 have he2 := he
 have HE := Aside0.mk he
 have HB := Aside0.mk ((Below.refl w.heap.size w).alloc (Nat.le_refl _) (.cells #[.int .i64 n, .slice A es.length c] 24 (0, 0)))
 have HX := Aside0.mk (heap_last w (.cells #[.int .i64 n, .slice A es.length c] 24 (0, 0)))
 clear he
 have x0 : (w.alloc (.cells #[.int .i64 n, .slice A es.length c] 24 (0, 0))).cell? ⟨w.heap.size, 0, none⟩ = some (.int .i64 n) := heap_cell HX.out rfl
 have x1 : (w.alloc (.cells #[.int .i64 n, .slice A es.length c] 24 (0, 0))).cell? ⟨w.heap.size, 1, none⟩ = some (.slice A es.length c) := heap_cell HX.out rfl
 have HE2 := Aside0.mk he2
 clear he2
 have hfl := froms_length es
 obtain ⟨M, hM⟩ : ∃ M : Int, M = 2 * (es.length : Int) := ⟨_, rfl⟩
 have q : IntKind.i64.wrap (2 * (es.length : Int)) = M := by rw [IntWalk.i64_in _ (by omega)]; omega
 by_cases h0 : 0 ≤ h
 ·have t0 : decide (0 ≤ h) = true := decide_eq_true h0
  by_cases h1 : h < M
  ·have t1 : decide (h < M) = true := decide_eq_true h1
   obtain ⟨i, rfl⟩ := Int.eq_ofNat_of_zero_le h0
   have HI : Aside0 (leaves (froms es) v (i : Int) = (gi (froms es) i == v)) := ⟨by
    unfold leaves
    rw [decide_eq_true (show (i : Int) ≥ 0 by omega), decide_eq_true (show (i : Int) < ((froms es).length : Int) by omega), Int.toNat_natCast]; rfl⟩
   have HH : Aside0 (i < 2 * es.length) := ⟨by omega⟩
   clear hM hfl
   go_enter Try.func63, Try.ntmps63
   go_wp2_with fail
   refine (from11_calls n A c es i _ (HE.out.below HB.out) hl HH.out).mono ?_
   rintro e w2 ⟨rfl, hb⟩
   have HB2 := Aside0.mk (HB.out.trans (hb.mono HB.out.size))
   clear hb
   go_wp2_with fail
   go_ret
   exact ⟨by rw [HI.out]; rfl, HB2.out⟩
  ·have t1 : decide (h < M) = false := decide_eq_false h1
   have HI : Aside0 (leaves (froms es) v h = false) := ⟨by
    unfold leaves
    rw [decide_eq_false (show ¬ h < ((froms es).length : Int) by omega), Bool.false_and, Bool.and_false]⟩
   clear hM hfl
   go_enter Try.func63, Try.ntmps63
   go_wp2_with fail
   go_ret
   exact ⟨by rw [HI.out]; rfl, HB.out⟩
 ·have t0 : decide (0 ≤ h) = false := decide_eq_false h0
  have HI : Aside0 (leaves (froms es) v h = false) := ⟨by
   unfold leaves
   rw [decide_eq_false (show ¬ h ≥ 0 by omega), Bool.false_and]⟩
  clear hM hfl
  go_enter Try.func63, Try.ntmps63
  go_wp2_with fail
  go_ret
  exact ⟨by rw [HI.out]; rfl, HB.out⟩
set_option maxHeartbeats 1000000 in
set_option maxRecDepth 100000 in
theorem stands_calls (A : Option Addr) (c : Nat) (row : List Int) (j : Nat) (x : Int) (w : World) (hr : Kd.C (Kd.int .i64) w A row.length row) (hj : j ≤ row.length) (hl : row.length ≤ 18000000000000) :
  Calls Try.prog 50 #[.slice A row.length c, .int .i64 (j : Int), .int .i64 x] w fun e w' => e = .returned (.bool (decide (x ∈ row.take j))) ∧ w = w' := by
 have HR := Aside0.mk hr
 clear hr
 go_enter Try.func50, Try.ntmps50
 go_wp2_with fail
 have HP0 : Aside0 (x ∉ row.take 0) := ⟨by simp⟩
 go_loop [7] (fun y => ∃ (i : Nat), y = .int .i64 (i : Int) ∧ i ≤ j ∧ Aside0 (x ∉ row.take i)) (fun y => j - (intOf y).toNat)
 case atStart => exact ⟨0, rfl, by omega, HP0⟩
 case round =>
  clear HP0
  obtain ⟨i, rfl, hi, HP⟩ := hrel
  by_cases hlt : i < j
  ·have hir : i < row.length := by omega
   obtain ⟨ad, eA, y1⟩ := Kd.at_int HR.out (i : Int) (by omega) (by omega)
   rw [gi_rd, Int.toNat_natCast] at y1
   subst eA
   by_cases hx : gi row i = x
   ·have HG : Aside0 (decide (x ∈ row.take j) = true) := ⟨decide_eq_true (by
     rw [← hx, List.mem_iff_getElem]
     refine ⟨i, by rw [List.length_take]; omega, ?_⟩
     rw [List.getElem_take]
     unfold gi
     simp [List.getD_eq_getElem?_getD, hir])⟩
    have t : (gi row i == x) = true := beq_iff_eq.2 hx
    obtain ⟨z, hz⟩ : ∃ z, z = gi row i := ⟨_, rfl⟩
    rw [← hz] at y1 t
    clear hx hz
    go_wp2_with fail
    go_ret
    exact ⟨by rw [HG.out]; rfl, rfl⟩
   ·have t : (gi row i == x) = false := beq_eq_false_iff_ne.2 hx
    have HP2 : Aside0 (x ∉ row.take (i + 1)) := ⟨fun h => by
     rw [List.take_succ_eq_append_getElem hir, List.mem_append, List.mem_singleton] at h
     rcases h with h | h
     ·exact HP.out h
     ·apply hx
      rw [h]
      unfold gi
      simp [List.getD_eq_getElem?_getD, hir]⟩
    obtain ⟨z, hz⟩ : ∃ z, z = gi row i := ⟨_, rfl⟩
    rw [← hz] at y1 t
    clear hx hz
    go_wp2_with fail
    go_round
    case rel => exact ⟨i + 1, by go_num, by omega, HP2⟩
    case measure => simp [intOf]; omega
  ·obtain rfl : j = i := by omega
   have HG : Aside0 (decide (x ∈ row.take j) = false) := ⟨decide_eq_false HP.out⟩
   go_wp2_with fail
   go_ret
   exact ⟨by rw [HG.out]; rfl, rfl⟩
def cntF (fr : List Int) (m : Nat) (v : Int) : Nat := ((List.range m).filter fun j => gi fr j == v).length
theorem cntF_succ (fr : List Int) (m : Nat) (v : Int) : cntF fr (m + 1) v = cntF fr m v + if gi fr m = v then 1 else 0 := by
 unfold cntF
 rw [List.range_succ, List.filter_append, List.length_append]
 by_cases h : gi fr m = v
 ·simp [h]
 ·simp [h]
theorem cntF_le (fr : List Int) (m : Nat) (v : Int) : cntF fr m v ≤ m := by
 unfold cntF
 exact Nat.le_trans (List.length_filter_le _ _) (by simp)
set_option maxHeartbeats 1000000 in
set_option maxRecDepth 100000 in
theorem degree11_calls (n : Int) (A : Option Addr) (c : Nat) (es : List (Int × Int)) (v : Int) (w : World) (he : Pairs w A es) (hl : es.length ≤ 4194304) :
  Calls Try.prog 51 #[.agg #[.int .i64 n, .slice A es.length c], .int .i64 v] w fun e w' => e = .returned (.int .i64 ((cntF (froms es) (2 * es.length) v : Nat) : Int)) ∧ Below w.heap.size w w' := by
 have HE := Aside0.mk he
 have HB := Aside0.mk ((Below.refl w.heap.size w).alloc (Nat.le_refl _) (.cells #[.int .i64 n, .slice A es.length c] 24 (0, 0)))
 have HX := Aside0.mk (heap_last w (.cells #[.int .i64 n, .slice A es.length c] 24 (0, 0)))
 clear he
 have x0 : (w.alloc (.cells #[.int .i64 n, .slice A es.length c] 24 (0, 0))).cell? ⟨w.heap.size, 0, none⟩ = some (.int .i64 n) := heap_cell HX.out rfl
 have x1 : (w.alloc (.cells #[.int .i64 n, .slice A es.length c] 24 (0, 0))).cell? ⟨w.heap.size, 1, none⟩ = some (.slice A es.length c) := heap_cell HX.out rfl
 obtain ⟨M, hM⟩ : ∃ M : Nat, M = 2 * es.length := ⟨_, rfl⟩
 have hMb : M ≤ 8388608 := by omega
 have q : IntKind.i64.wrap (2 * (es.length : Int)) = (M : Int) := by rw [IntWalk.i64_in _ (by omega)]; omega
 have HM := Aside0.mk hM
 have HQ := Aside0.mk q
 rw [← hM]
 clear hM q x0 x1
 go_enter Try.func51, Try.ntmps51
 go_wp2_with fail
 generalize w.alloc (.cells #[.int .i64 n, .slice A es.length c] 24 (0, 0)) = w1 at HX HB ⊢
 obtain ⟨bg, hbg⟩ : ∃ bg, bg = w.heap.size := ⟨_, rfl⟩
 rw [← hbg] at HX ⊢
 clear hbg
 go_loopw [5, 6] (fun z y wr => ∃ (i : Nat), z = .int .i64 ((cntF (froms es) i v : Nat) : Int) ∧ y = .int .i64 (i : Int) ∧ i ≤ M ∧ Aside0 (wr.heap[bg]? = some (.cells #[.int .i64 n, .slice A es.length c] 24 (0, 0))) ∧ Aside0 (Below w.heap.size w wr)) (fun _ y _ => M - (intOf y).toNat)
 case atStart => exact ⟨0, rfl, rfl, by omega, HX, HB⟩
 case round =>
  clear HX HB
  obtain ⟨i, rfl, rfl, hi, HX, HB⟩ := hrel
  have x0 : wr.cell? ⟨bg, 0, none⟩ = some (.int .i64 n) := heap_cell HX.out rfl
  have x1 : wr.cell? ⟨bg, 1, none⟩ = some (.slice A es.length c) := heap_cell HX.out rfl
  have q := HQ.out
  by_cases hlt : i < M
  ·have hs := cntF_succ (froms es) i v
   have hle := cntF_le (froms es) i v
   obtain ⟨z, hz⟩ : ∃ z, z = cntF (froms es) i v := ⟨_, rfl⟩
   rw [← hz] at hs hle ⊢
   have HS := Aside0.mk hs
   clear hs hz
   go_wp2_with fail
   refine (from11_calls n A c es i wr (HE.out.below HB.out) hl (by rw [← HM.out]; exact hlt)).mono ?_
   rintro e w2 ⟨rfl, hb⟩
   have HX2 := Aside0.mk ((hb.block _ (lt_of HX.out)).trans HX.out)
   have HB2 := Aside0.mk (HB.out.trans (hb.mono HB.out.size))
   clear hb x0 x1 HX HB q
   by_cases hv : gi (froms es) i = v
   ·have t : (gi (froms es) i == v) = true := beq_iff_eq.2 hv
    have HS2 : Aside0 (((cntF (froms es) (i + 1) v : Nat) : Int) = (z : Int) + 1) := ⟨by rw [HS.out, if_pos hv]; omega⟩
    clear hv
    go_wp2_with fail
    go_roundw
    case rel => exact ⟨i + 1, by rw [HS2.out], by go_num, by omega, HX2, HB2⟩
    case measure => simp [intOf]; omega
   ·have t : (gi (froms es) i == v) = false := beq_eq_false_iff_ne.2 hv
    have HS2 : Aside0 (cntF (froms es) (i + 1) v = z) := ⟨by rw [HS.out, if_neg hv]; rfl⟩
    clear hv
    go_wp2_with fail
    go_roundw
    case rel => exact ⟨i + 1, by rw [HS2.out], by go_num, by omega, HX2, HB2⟩
    case measure => simp [intOf]; omega
  ·obtain rfl : M = i := by omega
   go_wp2_with fail
   go_ret
   exact ⟨rfl, HB.out⟩
end Go.Proofs.Yteeihjpnhjnknaa.Graph
namespace Go.Proofs.Yteeihjpnhjnknaa.ValH
open Go.RowKit Go.Proofs.YteeihjpnhjnknaaW.PrintWords Go.Proofs.YteeihjpnhjnknaaW.PrintLast Go.Proofs.YteeihjpnhjnknaaW.PrintMore Go.Proofs.Yteeihjpnhjnknaa.Mem
set_option linter.unusedVariables false
set_option linter.unusedSimpArgs false
abbrev P2 := Int × Int
def okP (n : Int) (p : P2) : Bool := decide (0 ≤ p.1 ∧ p.1 < p.2 ∧ p.2 < n)
def ltP (p q : P2) : Bool := decide (p.1 < q.1 ∨ (p.1 = q.1 ∧ p.2 < q.2))
def goodRest (n : Int) : List P2 → Bool
 | [] => true
 | [p] => okP n p
 | p :: q :: t => okP n p && (ltP p q && goodRest n (q :: t))
def goodB (n : Int) (es : List P2) : Bool := decide (0 ≤ n ∧ n ≤ 1048576 ∧ es.length ≤ 4194304) && goodRest n es
def OkAt (n : Int) (es : List P2) (i : Nat) : Prop := okP n (pe es i) = true ∧ (0 < i → ltP (pe es (i - 1)) (pe es i) = true)
theorem pe_succ (p : P2) (es : List P2) (i : Nat) : pe (p :: es) (i + 1) = pe es i := by unfold pe; simp
theorem pe_zero (p : P2) (es : List P2) : pe (p :: es) 0 = p := by unfold pe; simp
theorem goodRest_iff (n : Int) : ∀ es : List P2, goodRest n es = true ↔ ∀ i, i < es.length → OkAt n es i
 | [] => ⟨fun _ i h => absurd h (by simp), fun _ => rfl⟩
 | [p] => by
  constructor
  ·intro h i hi
   have : i = 0 := by simpa using hi
   subst this
   exact ⟨by rw [pe_zero]; exact h, fun h => absurd h (by omega)⟩
  ·intro h
   have := (h 0 (by simp)).1
   rw [pe_zero] at this
   exact this
 | p :: q :: t => by
  have ih := goodRest_iff n (q :: t)
  show (okP n p && (ltP p q && goodRest n (q :: t))) = true ↔ _
  rw [Bool.and_eq_true, Bool.and_eq_true, ih]
  constructor
  ·rintro ⟨h1, h2, h3⟩ i hi
   cases i with
   | zero => exact ⟨by rw [pe_zero]; exact h1, fun h => absurd h (by omega)⟩
   | succ i =>
    have := h3 i (by simpa using hi)
    refine ⟨by rw [pe_succ]; exact this.1, fun _ => ?_⟩
    cases i with
    | zero => rw [pe_succ, pe_zero]; exact h2
    | succ i =>
     have h4 := this.2 (by omega)
     rw [Nat.add_sub_cancel] at h4 ⊢
     rw [pe_succ, pe_succ]; exact h4
  ·intro h
   have h0 := h 0 (by simp)
   have h1 := h 1 (by simp)
   have h01 := h0.1
   rw [pe_zero] at h01
   refine ⟨h01, ?_, fun i hi => ?_⟩
   ·have := h1.2 (by omega)
    rw [Nat.sub_self, pe_zero, pe_succ p (q :: t) 0, pe_zero] at this
    exact this
   ·have h2 := h (i + 1) (by simpa using hi)
    rw [OkAt, pe_succ] at h2
    refine ⟨h2.1, fun h3 => ?_⟩
    have := h2.2 (by omega)
    rw [show i + 1 - 1 = (i - 1) + 1 by omega, pe_succ] at this
    exact this
theorem goodB_iff (n : Int) (es : List P2) : goodB n es = true ↔ 0 ≤ n ∧ n ≤ 1048576 ∧ es.length ≤ 4194304 ∧ ∀ i, i < es.length → OkAt n es i := by
 unfold goodB
 rw [Bool.and_eq_true, decide_eq_true_eq, goodRest_iff]
 constructor
 ·rintro ⟨⟨a, b, c⟩, d⟩; exact ⟨a, b, c, d⟩
 ·rintro ⟨a, b, c, d⟩; exact ⟨⟨a, b, c⟩, d⟩
theorem goodB_no {n : Int} {es : List P2} (h : ¬ (0 ≤ n ∧ n ≤ 1048576 ∧ es.length ≤ 4194304 ∧ ∀ i, i < es.length → OkAt n es i)) : goodB n es = false := by
 cases e : goodB n es with
 | false => rfl
 | true => exact absurd ((goodB_iff n es).1 e) h
theorem below_drewN {B : Nat} {w w' : World} (h : Below B w w') (n : Nat) : Below B w (w'.drewN n) := ⟨h.os, h.tape, h.output, h.size, h.block⟩
def cmpI (a b c d : Int) : Int := if a = c then b - d else a - c
theorem cmpI_lt {a b c d : Int} : cmpI a b c d < 0 ↔ ltP (a, b) (c, d) = true := by
 unfold cmpI ltP
 rw [decide_eq_true_eq]
 split <;> simp only <;> omega
set_option maxHeartbeats 1000000 in
set_option maxRecDepth 100000 in
theorem compare_calls (a b c d : Int) (w : World) (ha : 0 ≤ a ∧ a ≤ 1048576) (hb : 0 ≤ b ∧ b ≤ 1048576) (hc : 0 ≤ c ∧ c ≤ 1048576) (hd : 0 ≤ d ∧ d ≤ 1048576) :
  Calls Try.prog 79 #[.agg #[.int .i64 a, .int .i64 b], .agg #[.int .i64 c, .int .i64 d]] w fun e w' => e = .returned (.int .i64 (cmpI a b c d)) ∧ Below w.heap.size w w' := by
 by_cases h : a = c
 ·have t : (a != c) = false := bne_eq_false_iff_eq.2 h
  have HE : Aside0 (cmpI a b c d = b - d) := ⟨by unfold cmpI; rw [if_pos h]⟩
  have q : IntKind.i64.wrap (b - d) = b - d := IntWalk.i64_in _ (by omega)
  clear h
  go_enter Try.func79, Try.ntmps79
  go_wp2_with fail
  go_ret
  exact ⟨by rw [HE.out]; first | rfl | (congr 2), ((Below.refl _ _).alloc (Nat.le_refl _) _).alloc (by simp) _⟩
 ·have t : (a != c) = true := bne_iff_ne.2 h
  have HE : Aside0 (cmpI a b c d = a - c) := ⟨by unfold cmpI; rw [if_neg h]⟩
  have q : IntKind.i64.wrap (a - c) = a - c := IntWalk.i64_in _ (by omega)
  clear h
  go_enter Try.func79, Try.ntmps79
  go_wp2_with fail
  go_ret
  exact ⟨by rw [HE.out]; first | rfl | (congr 2), ((Below.refl _ _).alloc (Nat.le_refl _) _).alloc (by simp) _⟩
set_option maxHeartbeats 4000000 in
set_option maxRecDepth 100000 in
theorem simple_calls (n : Int) (A : Option Addr) (c : Nat) (es : List P2) (w : World) (he : Pairs w A es) (hc : es.length ≤ c) :
  Calls Try.prog 71 #[.agg #[.int .i64 n, .slice A es.length c]] w fun e w' => e = .returned (.bool (goodB n es)) ∧ Below w.heap.size w w' := by
 have HE := Aside0.mk he
 have HB := Aside0.mk ((Below.refl w.heap.size w).alloc (Nat.le_refl _) (.cells #[.int .i64 n, .slice A es.length c] 24 (0, 0)))
 have HX := Aside0.mk (heap_last w (.cells #[.int .i64 n, .slice A es.length c] 24 (0, 0)))
 clear he
 have x0 : (w.alloc (.cells #[.int .i64 n, .slice A es.length c] 24 (0, 0))).cell? ⟨w.heap.size, 0, none⟩ = some (.int .i64 n) := heap_cell HX.out rfl
 have x1 : (w.alloc (.cells #[.int .i64 n, .slice A es.length c] 24 (0, 0))).cell? ⟨w.heap.size, 1, none⟩ = some (.slice A es.length c) := heap_cell HX.out rfl
 by_cases h0 : 0 ≤ n ∧ n ≤ 1048576 ∧ es.length ≤ 4194304
 ·obtain ⟨h0, h1, h2⟩ := h0
  have t0 : decide (n < 0) = false := decide_eq_false (by omega)
  have t1 : decide (1048576 < n) = false := decide_eq_false (by omega)
  have t2 : decide (4194304 < (es.length : Int)) = false := decide_eq_false (by omega)
  go_enter Try.func71, Try.ntmps71
  go_wp2_with fail
  obtain ⟨W0, hW0⟩ : ∃ W0, W0 = w.alloc (.cells #[.int .i64 n, .slice A es.length c] 24 (0, 0)) := ⟨_, rfl⟩
  rw [← hW0] at HB HX ⊢
  obtain ⟨bg, hbg⟩ : ∃ bg, bg = w.heap.size := ⟨_, rfl⟩
  rw [← hbg] at HX ⊢
  have HBG := Aside0.mk hbg
  clear hbg hW0 x0 x1
  have HP0 : Aside0 (∀ j, j < 0 → OkAt n es j) := ⟨fun j h => absurd h (by omega)⟩
  go_loopw [22] (fun y wr => ∃ (i : Nat), y = .int .i64 (i : Int) ∧ i ≤ es.length ∧ Aside0 (∀ j, j < i → OkAt n es j) ∧ Aside0 (Below w.heap.size w wr) ∧ Aside0 (wr.heap[bg]? = some (.cells #[.int .i64 n, .slice A es.length c] 24 (0, 0)))) (fun y _ => es.length - (intOf y).toNat)
  case atStart => exact ⟨0, rfl, by omega, HP0, HB, HX⟩
  case round =>
   clear HP0 HB HX
   obtain ⟨i, rfl, hi, HP, HB, HX⟩ := hrel
   by_cases hlt : i < es.length
   ·obtain ⟨ad, eA, y1, y2⟩ := (HE.out.below HB.out) i hlt
    subst eA
    have HPR : Aside0 (0 < i → ∃ p, i = p + 1 ∧ OkAt n es p ∧ wr.cell? (ad.add (p * 2)) = some (.int .i64 (pe es p).1) ∧ wr.cell? ⟨(ad.add (p * 2)).block, (ad.add (p * 2)).off + 1, none⟩ = some (.int .i64 (pe es p).2)) := ⟨fun h => by
     obtain ⟨ad', e', z1, z2⟩ := (HE.out.below HB.out) (i - 1) (by omega)
     obtain rfl : ad = ad' := by simpa using e'
     exact ⟨i - 1, by omega, HP.out _ (by omega), z1, z2⟩⟩
    obtain ⟨u, hu⟩ : ∃ u, u = (pe es i).1 := ⟨_, rfl⟩
    obtain ⟨v, hv⟩ : ∃ v, v = (pe es i).2 := ⟨_, rfl⟩
    rw [← hu] at y1
    rw [← hv] at y2
    have HUV : Aside0 (pe es i = (u, v)) := ⟨by rw [hu, hv]⟩
    clear hu hv
    have HBAD : Aside0 (¬ OkAt n es i → goodB n es = false) := ⟨fun h => goodB_no (fun g => h (g.2.2.2 i hlt))⟩
    have HX2 := Aside0.mk (heap_old HX.out (.cells #[.int .i64 u, .int .i64 v] 89 (0, 0)))
    have HB2 := Aside0.mk (HB.out.alloc HB.out.size (.cells #[.int .i64 u, .int .i64 v] 89 (0, 0)))
    have HY2 := Aside0.mk (heap_last wr (.cells #[.int .i64 u, .int .i64 v] 89 (0, 0)))
    go_wp2_with fail
    clear y1 y2
    have x0 : (wr.alloc (.cells #[.int .i64 u, .int .i64 v] 89 (0, 0))).cell? ⟨bg, 0, none⟩ = some (.int .i64 n) := heap_cell HX2.out rfl
    have x1 : (wr.alloc (.cells #[.int .i64 u, .int .i64 v] 89 (0, 0))).cell? ⟨bg, 1, none⟩ = some (.slice (some ad) es.length c) := heap_cell HX2.out rfl
    have x2 : (wr.alloc (.cells #[.int .i64 u, .int .i64 v] 89 (0, 0))).cell? ⟨wr.heap.size, 0, none⟩ = some (.int .i64 u) := heap_cell HY2.out rfl
    have x3 : (wr.alloc (.cells #[.int .i64 u, .int .i64 v] 89 (0, 0))).cell? ⟨wr.heap.size, 1, none⟩ = some (.int .i64 v) := heap_cell HY2.out rfl
    have HBX : Aside0 (∀ b, b < wr.heap.size → (wr.alloc (.cells #[.int .i64 u, .int .i64 v] 89 (0, 0))).heap[b]? = wr.heap[b]?) := ⟨fun b hb => Below.heap_alloc _ _ _ hb⟩
    generalize wr.alloc (.cells #[.int .i64 u, .int .i64 v] 89 (0, 0)) = w2 at HX2 HB2 HY2 HBX x0 x1 x2 x3 ⊢
    obtain ⟨be, hbe⟩ : ∃ be, be = wr.heap.size := ⟨_, rfl⟩
    rw [← hbe] at x2 x3 HY2 HBX ⊢
    have HBE := Aside0.mk hbe
    clear hbe
    by_cases a0 : u < 0
    ·have HG := Aside0.mk (HBAD.out (fun h => by have := h.1; rw [HUV.out] at this; unfold okP at this; rw [decide_eq_true_eq] at this; simp only at this; omega))
     have t3 : decide (u < 0) = true := decide_eq_true a0
     go_quiet (fail)
     go_wp2_with fail
     go_ret
     exact ⟨by rw [HG.out]; rfl, below_drewN HB2.out _⟩
    have t3 : decide (u < 0) = false := decide_eq_false a0
    by_cases a1 : v ≤ u
    ·have HG := Aside0.mk (HBAD.out (fun h => by have := h.1; rw [HUV.out] at this; unfold okP at this; rw [decide_eq_true_eq] at this; simp only at this; omega))
     have t4 : decide (v ≤ u) = true := decide_eq_true a1
     go_quiet (fail)
     go_wp2_with fail
     go_ret
     exact ⟨by rw [HG.out]; rfl, below_drewN HB2.out _⟩
    have t4 : decide (v ≤ u) = false := decide_eq_false a1
    by_cases a2 : n ≤ v
    ·have HG := Aside0.mk (HBAD.out (fun h => by have := h.1; rw [HUV.out] at this; unfold okP at this; rw [decide_eq_true_eq] at this; simp only at this; omega))
     have t5 : decide (n ≤ v) = true := decide_eq_true a2
     go_quiet (fail)
     go_wp2_with fail
     go_ret
     exact ⟨by rw [HG.out]; rfl, below_drewN HB2.out _⟩
    have t5 : decide (n ≤ v) = false := decide_eq_false a2
    have HOK : Aside0 (okP n (pe es i) = true) := ⟨by rw [HUV.out]; unfold okP; rw [decide_eq_true_eq]; simp only; omega⟩
    by_cases a3 : 0 < i
    ·obtain ⟨p, hp, hop, z1, z2⟩ := HPR.out a3
     have t6 : decide (0 < (i : Int)) = true := decide_eq_true (by omega)
     obtain ⟨u', hu⟩ : ∃ u', u' = (pe es p).1 := ⟨_, rfl⟩
     obtain ⟨v', hv⟩ : ∃ v', v' = (pe es p).2 := ⟨_, rfl⟩
     rw [← hu] at z1
     rw [← hv] at z2
     have HUV' : Aside0 (pe es p = (u', v')) := ⟨by rw [hu, hv]⟩
     have hr : 0 ≤ u' ∧ u' < v' ∧ v' < n := by
      have := hop.1
      rw [HUV'.out] at this
      unfold okP at this
      simpa using this
     obtain ⟨hr0, hr1, hr2⟩ := hr
     have z1' : w2.cell? (ad.add (p * 2)) = some (.int .i64 u') := by
      rw [World.cell?, HBX.out _ (by rw [HBE.out]; exact cell_lt z1)]; exact z1
     have z2' : w2.cell? ⟨(ad.add (p * 2)).block, (ad.add (p * 2)).off + 1, none⟩ = some (.int .i64 v') := by
      rw [World.cell?, HBX.out _ (by rw [HBE.out]; exact cell_lt z2)]; exact z2
     have q1 : IntKind.i64.wrap ((i : Int) - 1) = (p : Int) := by rw [IntWalk.i64_in _ (by omega)]; omega
     have hpl : p < es.length := by omega
     have HP2 := Aside0.mk hp
     clear hu hv hop hp z1 z2
     go_still_tail 28, (by kernel_rfl)
     have HB3 : Aside0 (Below w.heap.size w w2.drew) := ⟨HB2.out.drew⟩
     have HX3 : Aside0 (w2.drew.heap[bg]? = some (.cells #[.int .i64 n, .slice (some ad) es.length c] 24 (0, 0))) := ⟨HX2.out⟩
     change wpList _ _ _ _ _ w2.drew
     generalize w2.drew = w3 at HB3 HX3 ⊢
     clear x0 x1 x2 x3 z1' z2' HB2 HX2 HY2 HBX
     by_cases hlt2 : ltP (u', v') (u, v) = true
     ·have hz := cmpI_lt.2 hlt2
      have t7 : decide (0 ≤ cmpI u' v' u v) = false := decide_eq_false (by omega)
      have HP3 : Aside0 (∀ j, j < i + 1 → OkAt n es j) := ⟨fun j hj => by
       rcases Nat.lt_succ_iff_lt_or_eq.1 hj with g | rfl
       ·exact HP.out j g
       ·exact ⟨HOK.out, fun h => by rw [show j - 1 = p by have := HP2.out; omega, HUV.out, HUV'.out]; exact hlt2⟩⟩
      clear hz hlt2
      go_wp2_with (go_at_call 79; refine (compare_calls u' v' u v _ (by omega) (by omega) (by omega) (by omega)).mono ?_; rintro e w4 ⟨rfl, hb⟩)
      have HX4 := Aside0.mk ((hb.block _ (lt_of HX3.out)).trans HX3.out)
      have HB4 := Aside0.mk (HB3.out.trans (hb.mono HB3.out.size))
      clear hb HX3 HB3
      go_wp2_with fail
      go_roundw
      case rel => exact ⟨i + 1, by go_num, by omega, HP3, HB4, HX4⟩
      case measure => simp [intOf]; omega
     ·have HG := Aside0.mk (HBAD.out (fun h => hlt2 (by
       have := h.2 a3
       rw [show i - 1 = p by have := HP2.out; omega, HUV.out, HUV'.out] at this
       exact this)))
      have hz : ¬ cmpI u' v' u v < 0 := fun h => hlt2 (cmpI_lt.1 h)
      have t7 : decide (0 ≤ cmpI u' v' u v) = true := decide_eq_true (by omega)
      clear hz hlt2
      go_wp2_with (go_at_call 79; refine (compare_calls u' v' u v _ (by omega) (by omega) (by omega) (by omega)).mono ?_; rintro e w4 ⟨rfl, hb⟩)
      have HB4 := Aside0.mk (HB3.out.trans (hb.mono HB3.out.size))
      clear hb HB3
      go_wp2_with fail
      go_ret
      exact ⟨by rw [HG.out]; rfl, HB4.out⟩
    ·have t6 : decide (0 < (i : Int)) = false := decide_eq_false (by omega)
     have HP2 : Aside0 (∀ j, j < i + 1 → OkAt n es j) := ⟨fun j hj => by
      rcases Nat.lt_succ_iff_lt_or_eq.1 hj with g | rfl
      ·exact HP.out j g
      ·exact ⟨HOK.out, fun h => absurd h a3⟩⟩
     go_quiet (fail)
     go_wp2_with fail
     go_roundw
     case rel => exact ⟨i + 1, by go_num, by omega, HP2, ⟨below_drewN HB2.out _⟩, ⟨HX2.out⟩⟩
     case measure => simp [intOf]; omega
   ·obtain rfl : i = es.length := by omega
    have HG := Aside0.mk ((goodB_iff n es).2 ⟨h0, h1, h2, HP.out⟩)
    go_wp2_with fail
    go_ret
    exact ⟨by rw [HG.out]; rfl, HB.out⟩
 ·have HG := Aside0.mk (goodB_no (n := n) (es := es) (fun h => h0 ⟨h.1, h.2.1, h.2.2.1⟩))
  by_cases a0 : n < 0
  ·have t0 : decide (n < 0) = true := decide_eq_true a0
   clear h0
   go_enter Try.func71, Try.ntmps71
   go_wp2_with fail
   go_ret
   exact ⟨by rw [HG.out]; rfl, HB.out⟩
  ·have t0 : decide (n < 0) = false := decide_eq_false a0
   by_cases a1 : 1048576 < n
   ·have t1 : decide (1048576 < n) = true := decide_eq_true a1
    clear h0
    go_enter Try.func71, Try.ntmps71
    go_wp2_with fail
    go_ret
    exact ⟨by rw [HG.out]; rfl, HB.out⟩
   ·have t1 : decide (1048576 < n) = false := decide_eq_false a1
    have t2 : decide (4194304 < (es.length : Int)) = true := decide_eq_true (by omega)
    clear h0
    go_enter Try.func71, Try.ntmps71
    go_wp2_with fail
    go_ret
    exact ⟨by rw [HG.out]; rfl, HB.out⟩
set_option maxHeartbeats 1000000 in
set_option maxRecDepth 100000 in
theorem less_calls (a b c d : Int) (w : World) :
  Calls Try.prog 65 #[.agg #[.int .i64 a, .int .i64 b], .agg #[.int .i64 c, .int .i64 d]] w fun e w' => e = .returned (.bool (ltP (a, b) (c, d))) ∧ Below w.heap.size w w' := by
 by_cases h : a < c
 ·have t : decide (a < c) = true := decide_eq_true h
  have HE : Aside0 (ltP (a, b) (c, d) = true) := ⟨decide_eq_true (Or.inl h)⟩
  clear h
  go_enter Try.func65, Try.ntmps65
  go_wp2_with fail
  go_ret
  exact ⟨by rw [HE.out]; rfl, ((Below.refl _ _).alloc (Nat.le_refl _) _).alloc (by simp) _⟩
 ·have t : decide (a < c) = false := decide_eq_false h
  by_cases h2 : a = c
  ·have t2 : (a == c) = true := beq_iff_eq.2 h2
   have HE : Aside0 (ltP (a, b) (c, d) = decide (b < d)) := ⟨by unfold ltP; rw [decide_eq_decide]; simp only; omega⟩
   clear h h2
   go_enter Try.func65, Try.ntmps65
   go_wp2_with fail
   go_ret
   exact ⟨by rw [HE.out]; rfl, ((Below.refl _ _).alloc (Nat.le_refl _) _).alloc (by simp) _⟩
  ·have t2 : (a == c) = false := beq_eq_false_iff_ne.2 h2
   have HE : Aside0 (ltP (a, b) (c, d) = false) := ⟨by unfold ltP; rw [decide_eq_false_iff_not]; simp only; omega⟩
   clear h h2
   go_enter Try.func65, Try.ntmps65
   go_wp2_with fail
   go_ret
   exact ⟨by rw [HE.out]; rfl, ((Below.refl _ _).alloc (Nat.le_refl _) _).alloc (by simp) _⟩
set_option maxHeartbeats 4000000 in
set_option maxRecDepth 100000 in
theorem ref_calls (n : Int) (A : Option Addr) (c : Nat) (es : List P2) (w : World) (he : Pairs w A es) (hc : es.length ≤ c) :
  Calls Try.prog 49 #[.agg #[.int .i64 n, .slice A es.length c]] w fun e w' => e = .returned (.bool (goodB n es)) ∧ Below w.heap.size w w' := by
 have HE := Aside0.mk he
 have HB := Aside0.mk ((Below.refl w.heap.size w).alloc (Nat.le_refl _) (.cells #[.int .i64 n, .slice A es.length c] 24 (0, 0)))
 have HX := Aside0.mk (heap_last w (.cells #[.int .i64 n, .slice A es.length c] 24 (0, 0)))
 clear he
 have x0 : (w.alloc (.cells #[.int .i64 n, .slice A es.length c] 24 (0, 0))).cell? ⟨w.heap.size, 0, none⟩ = some (.int .i64 n) := heap_cell HX.out rfl
 have x1 : (w.alloc (.cells #[.int .i64 n, .slice A es.length c] 24 (0, 0))).cell? ⟨w.heap.size, 1, none⟩ = some (.slice A es.length c) := heap_cell HX.out rfl
 by_cases h0 : 0 ≤ n ∧ n ≤ 1048576 ∧ es.length ≤ 4194304
 ·obtain ⟨h0, h1, h2⟩ := h0
  have t0 : decide (n < 0) = false := decide_eq_false (by omega)
  have t1 : decide (1048576 < n) = false := decide_eq_false (by omega)
  have t2 : decide (4194304 < (es.length : Int)) = false := decide_eq_false (by omega)
  go_enter Try.func49, Try.ntmps49
  go_wp2_with fail
  obtain ⟨W0, hW0⟩ : ∃ W0, W0 = w.alloc (.cells #[.int .i64 n, .slice A es.length c] 24 (0, 0)) := ⟨_, rfl⟩
  rw [← hW0] at HB HX ⊢
  obtain ⟨bg, hbg⟩ : ∃ bg, bg = w.heap.size := ⟨_, rfl⟩
  rw [← hbg] at HX ⊢
  have HBG := Aside0.mk hbg
  clear hbg hW0 x0 x1
  have HP0 : Aside0 (∀ j, j < 0 → OkAt n es j) := ⟨fun j h => absurd h (by omega)⟩
  go_loopw [3] (fun y wr => ∃ (i : Nat), y = .int .i64 (i : Int) ∧ i ≤ es.length ∧ Aside0 (∀ j, j < i → OkAt n es j) ∧ Aside0 (Below w.heap.size w wr) ∧ Aside0 (wr.heap[bg]? = some (.cells #[.int .i64 n, .slice A es.length c] 24 (0, 0)))) (fun y _ => es.length - (intOf y).toNat)
  case atStart => exact ⟨0, rfl, by omega, HP0, HB, HX⟩
  case round =>
   clear HP0 HB HX
   obtain ⟨i, rfl, hi, HP, HB, HX⟩ := hrel
   have w1 : wr.cell? ⟨bg, 1, none⟩ = some (.slice A es.length c) := heap_cell HX.out rfl
   by_cases hlt : i < es.length
   ·obtain ⟨ad, eA, y1, y2⟩ := (HE.out.below HB.out) i hlt
    subst eA
    have HPR : Aside0 (0 < i → ∃ p, i = p + 1 ∧ OkAt n es p ∧ wr.cell? (ad.add (p * 2)) = some (.int .i64 (pe es p).1) ∧ wr.cell? ⟨(ad.add (p * 2)).block, (ad.add (p * 2)).off + 1, none⟩ = some (.int .i64 (pe es p).2)) := ⟨fun h => by
     obtain ⟨ad', e', z1, z2⟩ := (HE.out.below HB.out) (i - 1) (by omega)
     obtain rfl : ad = ad' := by simpa using e'
     exact ⟨i - 1, by omega, HP.out _ (by omega), z1, z2⟩⟩
    obtain ⟨u, hu⟩ : ∃ u, u = (pe es i).1 := ⟨_, rfl⟩
    obtain ⟨v, hv⟩ : ∃ v, v = (pe es i).2 := ⟨_, rfl⟩
    rw [← hu] at y1
    rw [← hv] at y2
    have HUV : Aside0 (pe es i = (u, v)) := ⟨by rw [hu, hv]⟩
    clear hu hv
    have HBAD : Aside0 (¬ OkAt n es i → goodB n es = false) := ⟨fun h => goodB_no (fun g => h (g.2.2.2 i hlt))⟩
    have HX2 := Aside0.mk (heap_old HX.out (.cells #[.int .i64 u, .int .i64 v] 89 (0, 0)))
    have HB2 := Aside0.mk (HB.out.alloc HB.out.size (.cells #[.int .i64 u, .int .i64 v] 89 (0, 0)))
    have HY2 := Aside0.mk (heap_last wr (.cells #[.int .i64 u, .int .i64 v] 89 (0, 0)))
    have x0 : (wr.alloc (.cells #[.int .i64 u, .int .i64 v] 89 (0, 0))).cell? ⟨bg, 0, none⟩ = some (.int .i64 n) := heap_cell HX2.out rfl
    have x1 : (wr.alloc (.cells #[.int .i64 u, .int .i64 v] 89 (0, 0))).cell? ⟨bg, 1, none⟩ = some (.slice (some ad) es.length c) := heap_cell HX2.out rfl
    have x2 : (wr.alloc (.cells #[.int .i64 u, .int .i64 v] 89 (0, 0))).cell? ⟨wr.heap.size, 0, none⟩ = some (.int .i64 u) := heap_cell HY2.out rfl
    have x3 : (wr.alloc (.cells #[.int .i64 u, .int .i64 v] 89 (0, 0))).cell? ⟨wr.heap.size, 1, none⟩ = some (.int .i64 v) := heap_cell HY2.out rfl
    have HBX : Aside0 (∀ b, b < wr.heap.size → (wr.alloc (.cells #[.int .i64 u, .int .i64 v] 89 (0, 0))).heap[b]? = wr.heap[b]?) := ⟨fun b hb => Below.heap_alloc _ _ _ hb⟩
    by_cases a0 : u < 0
    ·have HG := Aside0.mk (HBAD.out (fun h => by have := h.1; rw [HUV.out] at this; unfold okP at this; rw [decide_eq_true_eq] at this; simp only at this; omega))
     have t3 : decide (u < 0) = true := decide_eq_true a0
     go_wp2_with fail
     go_ret
     exact ⟨by rw [HG.out]; rfl, HB2.out⟩
    have t3 : decide (u < 0) = false := decide_eq_false a0
    by_cases a1 : v ≤ u
    ·have HG := Aside0.mk (HBAD.out (fun h => by have := h.1; rw [HUV.out] at this; unfold okP at this; rw [decide_eq_true_eq] at this; simp only at this; omega))
     have t4 : decide (v ≤ u) = true := decide_eq_true a1
     go_wp2_with fail
     go_ret
     exact ⟨by rw [HG.out]; rfl, HB2.out⟩
    have t4 : decide (v ≤ u) = false := decide_eq_false a1
    by_cases a2 : n ≤ v
    ·have HG := Aside0.mk (HBAD.out (fun h => by have := h.1; rw [HUV.out] at this; unfold okP at this; rw [decide_eq_true_eq] at this; simp only at this; omega))
     have t5 : decide (n ≤ v) = true := decide_eq_true a2
     go_wp2_with fail
     go_ret
     exact ⟨by rw [HG.out]; rfl, HB2.out⟩
    have t5 : decide (n ≤ v) = false := decide_eq_false a2
    have HOK : Aside0 (okP n (pe es i) = true) := ⟨by rw [HUV.out]; unfold okP; rw [decide_eq_true_eq]; simp only; omega⟩
    by_cases a3 : 0 < i
    ·have t6 : decide (0 < (i : Int)) = true := decide_eq_true (by omega)
     go_wp2_with fail
     clear y1 y2 w1
     generalize wr.alloc (.cells #[.int .i64 u, .int .i64 v] 89 (0, 0)) = w2 at HX2 HB2 HY2 HBX x0 x1 x2 x3 ⊢
     obtain ⟨be, hbe⟩ : ∃ be, be = wr.heap.size := ⟨_, rfl⟩
     rw [← hbe] at x2 x3 HY2 HBX ⊢
     have HBE := Aside0.mk hbe
     clear hbe
     obtain ⟨p, hp, hop, z1, z2⟩ := HPR.out a3
     obtain ⟨u', hu⟩ : ∃ u', u' = (pe es p).1 := ⟨_, rfl⟩
     obtain ⟨v', hv⟩ : ∃ v', v' = (pe es p).2 := ⟨_, rfl⟩
     rw [← hu] at z1
     rw [← hv] at z2
     have HUV' : Aside0 (pe es p = (u', v')) := ⟨by rw [hu, hv]⟩
     have hr : 0 ≤ u' ∧ u' < v' ∧ v' < n := by
      have := hop.1
      rw [HUV'.out] at this
      unfold okP at this
      simpa using this
     obtain ⟨hr0, hr1, hr2⟩ := hr
     have z1' : w2.cell? (ad.add (p * 2)) = some (.int .i64 u') := by
      rw [World.cell?, HBX.out _ (by rw [HBE.out]; exact cell_lt z1)]; exact z1
     have z2' : w2.cell? ⟨(ad.add (p * 2)).block, (ad.add (p * 2)).off + 1, none⟩ = some (.int .i64 v') := by
      rw [World.cell?, HBX.out _ (by rw [HBE.out]; exact cell_lt z2)]; exact z2
     have q1 : IntKind.i64.wrap ((i : Int) - 1) = (p : Int) := by rw [IntWalk.i64_in _ (by omega)]; omega
     have hpl : p < es.length := by omega
     have HP2 := Aside0.mk hp
     clear hu hv hop hp z1 z2
     go_still_tail 7, (by kernel_rfl)
     have HB3 : Aside0 (Below w.heap.size w w2.drew) := ⟨HB2.out.drew⟩
     have HX3 : Aside0 (w2.drew.heap[bg]? = some (.cells #[.int .i64 n, .slice (some ad) es.length c] 24 (0, 0))) := ⟨HX2.out⟩
     change wpList _ _ _ _ _ w2.drew
     generalize w2.drew = w3 at HB3 HX3 ⊢
     clear x0 x1 x2 x3 z1' z2' HB2 HX2 HY2 HBX
     by_cases hlt2 : ltP (u', v') (u, v) = true
     ·have t7 := hlt2
      have HP3 : Aside0 (∀ j, j < i + 1 → OkAt n es j) := ⟨fun j hj => by
       rcases Nat.lt_succ_iff_lt_or_eq.1 hj with g | rfl
       ·exact HP.out j g
       ·exact ⟨HOK.out, fun h => by rw [show j - 1 = p by have := HP2.out; omega, HUV.out, HUV'.out]; exact hlt2⟩⟩
      clear hlt2
      go_wp2_with (go_at_call 65; refine (less_calls u' v' u v _).mono ?_; rintro e w4 ⟨rfl, hb⟩)
      have HX4 := Aside0.mk ((hb.block _ (lt_of HX3.out)).trans HX3.out)
      have HB4 := Aside0.mk (HB3.out.trans (hb.mono HB3.out.size))
      clear hb HX3 HB3
      go_wp2_with fail
      go_roundw
      case rel => exact ⟨i + 1, by go_num, by omega, HP3, HB4, HX4⟩
      case measure => simp [intOf]; omega
     ·have HG := Aside0.mk (HBAD.out (fun h => hlt2 (by
       have := h.2 a3
       rw [show i - 1 = p by have := HP2.out; omega, HUV.out, HUV'.out] at this
       exact this)))
      have t7 : ltP (u', v') (u, v) = false := by simpa using hlt2
      clear hlt2
      go_wp2_with (go_at_call 65; refine (less_calls u' v' u v _).mono ?_; rintro e w4 ⟨rfl, hb⟩)
      have HB4 := Aside0.mk (HB3.out.trans (hb.mono HB3.out.size))
      clear hb HB3
      go_wp2_with fail
      go_ret
      exact ⟨by rw [HG.out]; rfl, HB4.out⟩
    ·have t6 : decide (0 < (i : Int)) = false := decide_eq_false (by omega)
     have HP2 : Aside0 (∀ j, j < i + 1 → OkAt n es j) := ⟨fun j hj => by
      rcases Nat.lt_succ_iff_lt_or_eq.1 hj with g | rfl
      ·exact HP.out j g
      ·exact ⟨HOK.out, fun h => absurd h a3⟩⟩
     go_wp2_with fail
     go_roundw
     case rel => exact ⟨i + 1, by go_num, by omega, HP2, HB2, HX2⟩
     case measure => simp [intOf]; omega
   ·obtain rfl : i = es.length := by omega
    have HG := Aside0.mk ((goodB_iff n es).2 ⟨h0, h1, h2, HP.out⟩)
    go_wp2_with fail
    go_ret
    exact ⟨by rw [HG.out]; rfl, HB.out⟩
 ·have HG := Aside0.mk (goodB_no (n := n) (es := es) (fun h => h0 ⟨h.1, h.2.1, h.2.2.1⟩))
  by_cases a0 : n < 0
  ·have t0 : decide (n < 0) = true := decide_eq_true a0
   clear h0
   go_enter Try.func49, Try.ntmps49
   go_wp2_with fail
   go_ret
   exact ⟨by rw [HG.out]; rfl, HB.out⟩
  ·have t0 : decide (n < 0) = false := decide_eq_false a0
   by_cases a1 : 1048576 < n
   ·have t1 : decide (1048576 < n) = true := decide_eq_true a1
    clear h0
    go_enter Try.func49, Try.ntmps49
    go_wp2_with fail
    go_ret
    exact ⟨by rw [HG.out]; rfl, HB.out⟩
   ·have t1 : decide (1048576 < n) = false := decide_eq_false a1
    have t2 : decide (4194304 < (es.length : Int)) = true := decide_eq_true (by omega)
    clear h0
    go_enter Try.func49, Try.ntmps49
    go_wp2_with fail
    go_ret
    exact ⟨by rw [HG.out]; rfl, HB.out⟩
end Go.Proofs.Yteeihjpnhjnknaa.ValH
namespace Go.Proofs.Yteeihjpnhjnknaa.Graph
open Go.RowKit Go.Proofs.YteeihjpnhjnknaaW.PrintWords Go.Proofs.YteeihjpnhjnknaaW.PrintLast Go.Proofs.YteeihjpnhjnknaaW.PrintMore Go.Proofs.Yteeihjpnhjnknaa.Mem Go.Proofs.Yteeihjpnhjnknaa.Rot
set_option linter.unusedVariables false
set_option linter.unusedSimpArgs false
theorem leaving_cntF (fr : List Int) (v : Nat) : (leaving fr v).length = cntF fr fr.length v := by unfold leaving cntF; rw [List.length_map]
theorem mem_gi2 {l : List Int} {x : Int} (h : x ∈ l) : ∃ j, j < l.length ∧ gi l j = x := by
 obtain ⟨j, hj, e⟩ := List.getElem_of_mem h
 exact ⟨j, hj, by unfold gi; rw [List.getD_eq_getElem?_getD, List.getElem?_eq_getElem hj]; exact e⟩
theorem take_gi {l : List Int} {j : Nat} (h : j < l.length) : l.take (j + 1) = l.take j ++ [gi l j] := by
 rw [List.take_succ_eq_append_getElem h]
 unfold gi
 rw [List.getD_eq_getElem?_getD, List.getElem?_eq_getElem h]; rfl
structure EInv (fr ds : List Int) (v : Nat) (row : List Int) (rest : List (List Int)) (T : List Bool) (i : Nat) (res : Int × Int) : Prop where
 len : T.length = fr.length
 lv : ∀ j, j < i → leaves fr v (gi row j) = true
 nd : (row.take i).Nodup
 m1 : ∀ q : Nat, gb T q = true → (∃ u, u < v ∧ leaves fr u (q : Int) = true) ∨ (q : Int) ∈ row.take i
 m2 : ∀ q : Nat, (q : Int) ∈ row.take i → gb T q = true
 res : after fr ds v row rest (elems fr v (row.drop i) T) = res
section
variable {fr ds : List Int} {v : Nat} {row : List Int} {rest : List (List Int)} {T : List Bool} {i : Nat} {res : Int × Int}
theorem EInv.bad (h : EInv fr ds v row rest T i res) (hi : i < row.length) (hl : leaves fr v (gi row i) = false) : res = ((v : Int), 111) := by
 rw [← h.res, drop_int hi, elems_cons_no hl]; rfl
theorem EInv.seen (h : EInv fr ds v row rest T i res) (hi : i < row.length) (hl : leaves fr v (gi row i) = true) : gb T (gi row i).toNat = true ↔ gi row i ∈ row.take i := by
 obtain ⟨l1, l2, l3⟩ := leaves_iff.1 hl
 obtain ⟨q, hq⟩ := Int.eq_ofNat_of_zero_le l1
 constructor
 ·intro g
  rcases h.m1 _ g with ⟨u, h1, h2⟩ | g2
  ·obtain ⟨_, _, h3⟩ := leaves_iff.1 h2
   rw [Int.toNat_natCast] at h3
   omega
  ·rw [hq, Int.toNat_natCast] at g2
   rw [hq]; exact g2
 ·intro g
  exact h.m2 _ (by rw [hq, Int.toNat_natCast]; rw [hq] at g; exact g)
theorem EInv.twice (h : EInv fr ds v row rest T i res) (hi : i < row.length) (hl : leaves fr v (gi row i) = true) (hm : gi row i ∈ row.take i) : res = ((v : Int), 112) := by
 rw [← h.res, drop_int hi, elems_cons_twice hl ((h.seen hi hl).2 hm)]; rfl
theorem EInv.step (h : EInv fr ds v row rest T i res) (hi : i < row.length) (hl : leaves fr v (gi row i) = true) (hm : gi row i ∉ row.take i) : EInv fr ds v row rest (T.set (gi row i).toNat true) (i + 1) res := by
 obtain ⟨l1, l2, l3⟩ := leaves_iff.1 hl
 have hs : gb T (gi row i).toNat = false := by
  cases e : gb T (gi row i).toNat with
  | false => rfl
  | true => exact absurd ((h.seen hi hl).1 e) hm
 have hlen := h.len
 refine ⟨by rw [List.length_set]; exact h.len, fun j hj => ?_, ?_, fun p hp => ?_, fun p hp => ?_, ?_⟩
 ·rcases Nat.lt_succ_iff_lt_or_eq.1 hj with g | rfl
  ·exact h.lv j g
  ·exact hl
 ·rw [take_gi hi, List.nodup_append]
  refine ⟨h.nd, by simp, fun a ha b hb2 => ?_⟩
  rw [List.mem_singleton] at hb2
  rintro rfl
  exact hm (by rw [← hb2]; exact ha)
 ·rw [gb_set] at hp
  rw [take_gi hi]
  by_cases c : (gi row i).toNat = p ∧ p < T.length
  ·right
   rw [show (p : Int) = gi row i by omega]
   simp
  ·rw [if_neg c] at hp
   rcases h.m1 p hp with g | g
   ·exact .inl g
   ·exact .inr (List.mem_append_left _ g)
 ·rw [take_gi hi, List.mem_append, List.mem_singleton] at hp
  rw [gb_set]
  by_cases c : (gi row i).toNat = p ∧ p < T.length
  ·rw [if_pos c]
  ·rw [if_neg c]
   rcases hp with g | g
   ·exact h.m2 p g
   ·exact absurd ⟨by omega, by omega⟩ c
 ·rw [← h.res, drop_int hi, elems_cons hl hs]
theorem EInv.lvs (h : EInv fr ds v row rest T row.length res) : ∀ x ∈ row, leaves fr v x = true := by
 intro x hx
 obtain ⟨j, hj, rfl⟩ := mem_gi2 hx
 exact h.lv j hj
theorem EInv.le (h : EInv fr ds v row rest T row.length res) : row.length ≤ cntF fr fr.length v := by
 have h1 := h.nd
 rw [List.take_length] at h1
 have := nodup_subset row (leaving fr v) h1 (fun x hx => mem_leaving.2 (h.lvs x hx))
 rw [leaving_cntF] at this
 exact this
theorem EInv.few (h : EInv fr ds v row rest T row.length res) (hd : gi ds v = ((cntF fr fr.length v : Nat) : Int)) (hlt : row.length < cntF fr fr.length v) : res = ((v : Int), 113) := by
 have h1 := h.res
 rw [List.drop_length, show elems fr v [] T = .ok T from rfl, after_ok, if_neg (by omega)] at h1
 exact h1.symm
theorem EInv.done (h : EInv fr ds v row rest T row.length res) (hd : gi ds v = ((cntF fr fr.length v : Nat) : Int)) (hlt : ¬ row.length < cntF fr fr.length v) : T.length = fr.length ∧ (∀ q : Nat, gb T q = true → ∃ u, u < v + 1 ∧ leaves fr u (q : Int) = true) ∧ rows fr ds (v + 1) rest T = res := by
 have h1 := h.res
 have h2 := h.le
 rw [List.drop_length, show elems fr v [] T = .ok T from rfl, after_ok, if_pos (by omega)] at h1
 refine ⟨h.len, fun q hq => ?_, h1⟩
 rcases h.m1 q hq with ⟨u, a, b⟩ | g
 ·exact ⟨u, by omega, b⟩
 ·rw [List.take_length] at g
  exact ⟨v, by omega, h.lvs _ g⟩
theorem EInv.start {S : List Bool} (h1 : S.length = fr.length) (h2 : ∀ q : Nat, gb S q = true → ∃ u, u < v ∧ leaves fr u (q : Int) = true) (h3 : rows fr ds v (row :: rest) S = res) : EInv fr ds v row rest S 0 res :=
 ⟨h1, fun j hj => absurd hj (by omega), by simp, fun q hq => .inl (h2 q hq), fun q hq => by simp at hq, by rw [List.drop_zero, ← rows_cons]; exact h3⟩
end
def degs (es : List (Int × Int)) (n : Nat) : List Int := (List.range n).map fun (v : Nat) => ((cntF (froms es) (2 * es.length) (v : Int) : Nat) : Int)
theorem gi_degs {es : List (Int × Int)} {n v : Nat} (h : v < n) : gi (degs es n) v = ((cntF (froms es) (froms es).length (v : Int) : Nat) : Int) := by
 unfold gi degs
 rw [froms_length]
 simp [List.getD_eq_getElem?_getD, h]
def checkR (n : Int) (es : List (Int × Int)) (r : List (List Int)) : Int × Int :=
 if ValH.goodB n es = true then (if (r.length : Int) = n then rows (froms es) (degs es n.toNat) 0 r (List.replicate (2 * es.length) false) else (0, 110)) else (0, 1)
set_option maxHeartbeats 4000000 in
set_option maxRecDepth 100000 in
theorem checkR_calls (n : Int) (A : Option Addr) (c : Nat) (es : List (Int × Int)) (A1 : Option Addr) (c1 : Nat) (r : List (List Int)) (w : World) (he : Pairs w A es) (hc : es.length ≤ c) (hr : Kd.C KR w A1 r.length r) (hsm : ∀ v, v < r.length → (gl r v).length ≤ 18000000000000) :
  Calls Try.prog 47 #[.agg #[.int .i64 n, .slice A es.length c], .slice A1 r.length c1] w fun e w' => e = .returned (.tuple #[.int .i64 (checkR n es r).1, .int .i64 (checkR n es r).2]) ∧ Below w.heap.size w w' := by
 have HE := Aside0.mk he
 have HR := Aside0.mk hr
 have HSM := Aside0.mk hsm
 have HCC := Aside0.mk hc
 have HB := Aside0.mk ((Below.refl w.heap.size w).alloc (Nat.le_refl _) (.cells #[.int .i64 n, .slice A es.length c] 24 (0, 0)))
 have HX := Aside0.mk (heap_last w (.cells #[.int .i64 n, .slice A es.length c] 24 (0, 0)))
 have x0 : (w.alloc (.cells #[.int .i64 n, .slice A es.length c] 24 (0, 0))).cell? ⟨w.heap.size, 0, none⟩ = some (.int .i64 n) := heap_cell HX.out rfl
 have x1 : (w.alloc (.cells #[.int .i64 n, .slice A es.length c] 24 (0, 0))).cell? ⟨w.heap.size, 1, none⟩ = some (.slice A es.length c) := heap_cell HX.out rfl
 clear he hr hsm hc
 obtain ⟨RES, hRES⟩ : ∃ RES, RES = checkR n es r := ⟨_, rfl⟩
 rw [← hRES]
 have HRES := Aside0.mk hRES
 clear hRES
 go_enter Try.func47, Try.ntmps47
 go_wp2_with fail
 clear x0 x1
 generalize w.alloc (.cells #[.int .i64 n, .slice A es.length c] 24 (0, 0)) = w1 at HX HB ⊢
 obtain ⟨bg, hbg⟩ : ∃ bg, bg = w.heap.size := ⟨_, rfl⟩
 rw [← hbg] at HX ⊢
 clear hbg
 refine (ValH.ref_calls n A c es w1 (HE.out.below HB.out) HCC.out).mono ?_
 rintro e w2 ⟨rfl, hb⟩
 have HX2 := Aside0.mk ((hb.block _ (lt_of HX.out)).trans HX.out)
 have HB2 := Aside0.mk (HB.out.trans (hb.mono HB.out.size))
 clear hb HX HB
 first | clear x0 x1 | skip
 have x0 : w2.cell? ⟨bg, 0, none⟩ = some (.int .i64 n) := heap_cell HX2.out rfl
 have x1 : w2.cell? ⟨bg, 1, none⟩ = some (.slice A es.length c) := heap_cell HX2.out rfl
 cases hgd : ValH.goodB n es with
 | false =>
  have HG : Aside0 (RES = (0, 1)) := ⟨by rw [HRES.out]; unfold checkR; rw [if_neg (by rw [hgd]; decide)]⟩
  clear hgd
  go_wp2_with fail
  go_ret2
  exact ⟨by rw [HG.out]; rfl, HB2.out⟩
 | true =>
  obtain ⟨g0, g1, g2, g3⟩ := (ValH.goodB_iff n es).1 hgd
  clear g3
  by_cases hlen : (r.length : Int) = n
  ·have t0 : ((r.length : Int) != n) = false := bne_eq_false_iff_eq.2 hlen
   have hR0 : rows (froms es) (degs es n.toNat) 0 r (List.replicate (2 * es.length) false) = RES := by rw [HRES.out]; unfold checkR; rw [if_pos hgd, if_pos hlen]
   obtain ⟨fr, hfr⟩ : ∃ fr, fr = froms es := ⟨_, rfl⟩
   obtain ⟨ds, hds⟩ : ∃ ds, ds = degs es n.toNat := ⟨_, rfl⟩
   have HDS : Aside0 (∀ v, v < r.length → gi ds v = ((cntF fr fr.length (v : Int) : Nat) : Int)) := ⟨fun v hv => by rw [hds, hfr]; exact gi_degs (by omega)⟩
   have HFL : Aside0 (fr.length = 2 * es.length) := ⟨by rw [hfr]; exact froms_length es⟩
   have HST : Aside0 (∃ S : List Bool, S.length = fr.length ∧ (∀ q : Nat, gb S q = true → ∃ u : Nat, u < 0 ∧ leaves fr u (q : Int) = true) ∧ rows fr ds 0 (r.drop 0) S = RES) := ⟨⟨List.replicate (2 * es.length) false, by rw [List.length_replicate, HFL.out], (fun q hq => by rw [gb_none] at hq; cases hq), by rw [List.drop_zero, hfr, hds]; exact hR0⟩⟩
   have HFR := Aside0.mk hfr
   have HLN := Aside0.mk hlen
   clear hR0 hfr hds hgd hlen
   go_wp2_with fail
   go_loopw [6] (fun y wr => ∃ (v : Nat), y = .int .i64 (v : Int) ∧ v ≤ r.length ∧ Aside0 (∃ S : List Bool, S.length = fr.length ∧ (∀ q : Nat, gb S q = true → ∃ u, u < v ∧ leaves fr u (q : Int) = true) ∧ rows fr ds v (r.drop v) S = RES) ∧ Aside0 (wr.heap[bg]? = some (.cells #[.int .i64 n, .slice A es.length c] 24 (0, 0))) ∧ Aside0 (Below w.heap.size w wr)) (fun y _ => r.length - (intOf y).toNat)
   case atStart => exact ⟨0, rfl, by omega, HST, HX2, HB2⟩
   case round =>
    clear HST HX2 HB2
    obtain ⟨v, rfl, hv, HST, HX, HB⟩ := hrel
    have hln := HLN.out
    have hv2 : (v : Int) ≤ n := by omega
    by_cases hlt : v < r.length
    ·have hvn : (v : Int) < n := by omega
     obtain ⟨ad, D, cD, eA, hx0, hcD, hrow⟩ := row_at HR.out hlt
     subst eA
     obtain ⟨S, h1, h2, h3⟩ := HST.out
     rw [drop_row hlt] at h3
     have HI0 := Aside0.mk (EInv.start h1 h2 h3)
     have hrl := HSM.out v hlt
     have HDV := Aside0.mk (HDS.out v hlt)
     obtain ⟨row, hrw⟩ : ∃ row, row = gl r v := ⟨_, rfl⟩
     rw [← hrw] at hx0 hcD hrow hrl HI0
     have HROW := Aside0.mk hrow
     have HXC := Aside0.mk hx0
     obtain ⟨rest, hrest⟩ : ∃ rest, rest = r.drop (v + 1) := ⟨_, rfl⟩
     rw [← hrest] at HI0
     have HREST := Aside0.mk hrest
     have x0 : wr.cell? ⟨bg, 0, none⟩ = some (.int .i64 n) := heap_cell HX.out rfl
     clear h1 h2 h3 hrow hx0 hrw hrest hln
     go_wp2_with fail
     clear x0
     go_loopw [7] (fun y wr => ∃ (i : Nat), y = .int .i64 (i : Int) ∧ i ≤ row.length ∧ Aside0 (∃ T, EInv fr ds v row rest T i RES) ∧ Aside0 (wr.heap[bg]? = some (.cells #[.int .i64 n, .slice A es.length c] 24 (0, 0))) ∧ Aside0 (Below w.heap.size w wr)) (fun y _ => row.length - (intOf y).toNat)
     case atStart => exact ⟨0, rfl, by omega, ⟨⟨S, HI0.out⟩⟩, HX, HB⟩
     case round =>
      clear HI0 HX HB
      obtain ⟨i, rfl, hi, HI, HX, HB⟩ := hrel
      have x0 : wr.cell? ⟨bg, 0, none⟩ = some (.int .i64 n) := heap_cell HX.out rfl
      have x1 : wr.cell? ⟨bg, 1, none⟩ = some (.slice A es.length c) := heap_cell HX.out rfl
      have hx := (HB.out.cell (cell_lt HXC.out)).trans HXC.out
      by_cases hil : i < row.length
      ·obtain ⟨ad2, eD, hxu⟩ := Kd.at_int (Kd.C_below HROW.out HB.out) (i : Int) (by omega) (by omega)
       subst eD
       rw [gi_rd, Int.toNat_natCast] at hxu
       obtain ⟨u, hu⟩ : ∃ u, u = gi row i := ⟨_, rfl⟩
       rw [← hu] at hxu
       have HU := Aside0.mk hu
       clear hu
       go_wp2_with fail
       go_still_tail 9, (by kernel_rfl)
       have HX3 : Aside0 (wr.drew.heap[bg]? = some (.cells #[.int .i64 n, .slice A es.length c] 24 (0, 0))) := ⟨HX.out⟩
       have HB3 : Aside0 (Below w.heap.size w wr.drew) := ⟨HB.out.drew⟩
       change wpList _ _ _ _ _ wr.drew
       generalize wr.drew = w3 at HX3 HB3 ⊢
       clear x0 x1 hx hxu HX HB
       go_wp2_with fail
       refine (leaves_calls n A c es u v w3 (HE.out.below HB3.out) g2).mono ?_
       rintro e w4 ⟨rfl, hb⟩
       have HX4 := Aside0.mk ((hb.block _ (lt_of HX3.out)).trans HX3.out)
       have HB4 := Aside0.mk (HB3.out.trans (hb.mono HB3.out.size))
       clear hb HX3 HB3
       first | clear x0 x1 | skip
       have x0 : w4.cell? ⟨bg, 0, none⟩ = some (.int .i64 n) := heap_cell HX4.out rfl
       have x1 : w4.cell? ⟨bg, 1, none⟩ = some (.slice A es.length c) := heap_cell HX4.out rfl
       rw [← HFR.out]
       cases hlv : leaves fr v u with
       | false =>
        have HG : Aside0 (RES = ((v : Int), 111)) := ⟨by obtain ⟨T, hT⟩ := HI.out; exact hT.bad hil (by rw [← HU.out]; exact hlv)⟩
        clear hlv
        go_wp2_with fail
        go_ret2
        exact ⟨by rw [HG.out]; rfl, HB4.out⟩
       | true =>
        have HLV := Aside0.mk hlv
        clear hlv
        have hx := (HB4.out.cell (cell_lt HXC.out)).trans HXC.out
        obtain ⟨ad2', eD, hxu⟩ := Kd.at_int (Kd.C_below HROW.out HB4.out) (i : Int) (by omega) (by omega)
        injection eD with eD
        subst eD
        rw [gi_rd, Int.toNat_natCast, ← HU.out] at hxu
        go_wp2_with fail
        go_still_tail 12, (by kernel_rfl)
        have HX5 : Aside0 (w4.drew.heap[bg]? = some (.cells #[.int .i64 n, .slice A es.length c] 24 (0, 0))) := ⟨HX4.out⟩
        have HB5 : Aside0 (Below w.heap.size w w4.drew) := ⟨HB4.out.drew⟩
        change wpList _ _ _ _ _ w4.drew
        generalize w4.drew = w5 at HX5 HB5 ⊢
        clear x0 x1 hx hxu HX4 HB4
        go_wp2_with fail
        refine (stands_calls (some ad2) cD row i u w5 (Kd.C_below HROW.out HB5.out) (by omega) hrl).mono ?_
        rintro e w6 ⟨rfl, rfl⟩
        by_cases hst : u ∈ row.take i
        ·have HG : Aside0 (RES = ((v : Int), 112)) := ⟨by obtain ⟨T, hT⟩ := HI.out; exact hT.twice hil (by rw [← HU.out]; exact HLV.out) (by rw [← HU.out]; exact hst)⟩
         rw [decide_eq_true hst]
         clear hst
         go_wp2_with fail
         go_ret2
         exact ⟨by rw [HG.out]; rfl, HB5.out⟩
        ·have HI2 : Aside0 (∃ T, EInv fr ds v row rest T (i + 1) RES) := ⟨by obtain ⟨T, hT⟩ := HI.out; exact ⟨_, hT.step hil (by rw [← HU.out]; exact HLV.out) (by rw [← HU.out]; exact hst)⟩⟩
         rw [decide_eq_false hst]
         clear hst
         go_wp2_with fail
         go_roundw
         case rel => exact ⟨i + 1, by go_num, by omega, HI2, HX5, HB5⟩
         case measure => simp [intOf]; omega
      ·obtain rfl : i = row.length := by omega
       obtain ⟨cn, hcn⟩ : ∃ cn, cn = cntF fr fr.length (v : Int) := ⟨_, rfl⟩
       rw [← hcn] at HDV
       have HDG : Aside0 (∀ W, Below w.heap.size w W → Calls Try.prog 51 #[.agg #[.int .i64 n, .slice A es.length c], .int .i64 (v : Int)] W fun e w' => e = .returned (.int .i64 (cn : Int)) ∧ Below W.heap.size W w') := ⟨fun W hW => by
        have h1 := degree11_calls n A c es (v : Int) W (HE.out.below hW) g2
        rw [← HFR.out, ← HFL.out, ← hcn] at h1
        exact h1⟩
       have HCN := Aside0.mk hcn
       clear hcn
       by_cases hfew : row.length < cn
       ·have HG : Aside0 (RES = ((v : Int), 113)) := ⟨by obtain ⟨T, hT⟩ := HI.out; exact hT.few (by rw [← HCN.out]; exact HDV.out) (by rw [← HCN.out]; exact hfew)⟩
        have t1 : decide ((row.length : Int) < (cn : Int)) = true := decide_eq_true (by omega)
        go_wp2_with fail
        refine start_ (n := 9) (S := fun w' => w'.cell? ⟨bg, 0, none⟩ = some (.int .i64 n) ∧ w'.cell? ⟨bg, 1, none⟩ = some (.slice A es.length c) ∧ w'.cell? (ad.add v) = some (.slice D row.length cD) ∧ Aside0 (w'.heap[bg]? = some (.cells #[.int .i64 n, .slice A es.length c] 24 (0, 0))) ∧ Aside0 (Below w.heap.size w w')) (ds := []) #[false, false, false, false, false, false, false, false, false] (by kernel_rfl) rfl rfl ⟨x0, x1, hx, ⟨HX.out⟩, ⟨HB.out.drew⟩⟩ (fun hHeld => ?_)
        refine pure_ (i := 0) (N := some 57) (v := ?_) (a' := ?_) #[true, false, false, false, false, false, false, false, false] rfl rfl (by kernel_rfl) (fun _ _ _ h => h) (Or.inl ⟨by rfl, ?_⟩) ?_ ?_
        rotate_left
        ·intro w'
         go_simp
         with_reducible rfl
        rotate_left
        ·simp only [Act.put, List.setIfInBounds_toArray, List.set_cons_zero, List.set_cons_succ, i64_w, i32_w]
         rfl
        refine pure_ (i := 1) (N := some 58) (v := ?_) (a' := ?_) #[true, true, false, false, false, false, false, false, false] rfl rfl (by kernel_rfl) (fun _ _ _ h => h) (Or.inl ⟨by rfl, ?_⟩) ?_ ?_
        rotate_left
        ·intro w'
         go_simp
         with_reducible rfl
        rotate_left
        ·simp only [Act.put, List.setIfInBounds_toArray, List.set_cons_zero, List.set_cons_succ, i64_w, i32_w]
         rfl
        refine pure_ (i := 2) (N := some 59) (v := ?_) (a' := ?_) #[true, true, true, false, false, false, false, false, false] rfl rfl (by kernel_rfl) (fun _ _ _ h => h) (Or.inl ⟨by rfl, ?_⟩) ?_ ?_
        rotate_left
        ·intro w'
         go_simp
         with_reducible rfl
        rotate_left
        ·simp only [Act.put, List.setIfInBounds_toArray, List.set_cons_zero, List.set_cons_succ, i64_w, i32_w]
         rfl
        refine pure_ (i := 6) (N := some 63) (v := ?_) (a' := ?_) #[true, true, true, false, false, false, true, false, false] rfl rfl (by kernel_rfl) (fun _ _ _ h => h) (Or.inl ⟨by rfl, ?_⟩) ?_ ?_
        rotate_left
        ·intro w'
         go_simp
         with_reducible rfl
        rotate_left
        ·simp only [Act.put, List.setIfInBounds_toArray, List.set_cons_zero, List.set_cons_succ, i64_w, i32_w]
         rfl
        refine take_ (i := 3) (N := some 60) (v := ?_) (a' := ?_) #[true, true, true, true, false, false, true, false, false] rfl rfl (by kernel_rfl) (fun _ _ _ h => h) (Or.inl ⟨by rfl, ?_⟩) hHeld ?_ ?_
        rotate_left
        ·rintro w' ⟨s0, s1, s2, s3, s4⟩
         go_simp
         with_reducible rfl
        rotate_left
        ·simp only [Act.put, List.setIfInBounds_toArray, List.set_cons_zero, List.set_cons_succ, i64_w, i32_w]
         rfl
        refine pure_ (i := 4) (N := some 61) (v := ?_) (a' := ?_) #[true, true, true, true, true, false, true, false, false] rfl rfl (by kernel_rfl) (fun _ _ _ h => h) (Or.inl ⟨by rfl, ?_⟩) ?_ ?_
        rotate_left
        ·intro w'
         go_simp
         with_reducible rfl
        rotate_left
        ·simp only [Act.put, List.setIfInBounds_toArray, List.set_cons_zero, List.set_cons_succ, i64_w, i32_w]
         rfl
        refine take_ (i := 5) (N := some 62) (v := ?_) (a' := ?_) #[true, true, true, true, true, true, true, false, false] rfl rfl (by kernel_rfl) (fun _ _ _ h => h) (Or.inl ⟨by rfl, ?_⟩) hHeld ?_ ?_
        rotate_left
        ·rintro w' ⟨s0, s1, s2, s3, s4⟩
         go_simp
         with_reducible rfl
        rotate_left
        ·simp only [Act.put, List.setIfInBounds_toArray, List.set_cons_zero, List.set_cons_succ, i64_w, i32_w]
         rfl
        refine one_ (i := 7) (N := some 64) #[true, true, true, true, true, true, true, true, false] rfl rfl (by kernel_rfl) (by decide) (fun K hK => ?_)
        obtain ⟨h1, h2, h3, h4, h5⟩ := hHeld
        refine goes_ Try.func51 (by kernel_rfl) rfl #[.agg #[.int .i64 n, .slice A es.length c], .int .i64 (v : Int)] (by rfl) rfl rfl (by simp only [List.map_toArray, List.map_cons, List.map_nil]; rfl) ?_
        with_reducible refine (HDG.out _ h5.out).mono ?_
        rintro e w4 ⟨rfl, hb⟩
        refine ⟨_, rfl, ?_⟩
        have HX4 := Aside0.mk ((hb.block _ (lt_of h4.out)).trans h4.out)
        have HB4 := Aside0.mk (h5.out.trans (hb.mono h5.out.size))
        have h3' := (hb.cell (cell_lt h3)).trans h3
        clear hb h1 h2 h3 h4 h5
        refine hK.out _ _ ⟨heap_cell HX4.out rfl, heap_cell HX4.out rfl, h3', HX4, HB4⟩ (fun hHeld => ?_)
        clear hK K
        refine norm_ (a' := ?_) ?_ ?_
        rotate_left
        ·show Act.put _ (some 64) _ = _
         simp only [Act.put, List.setIfInBounds_toArray, List.set_cons_zero, List.set_cons_succ, i64_w, i32_w]
         rfl
        refine pure_ (i := 8) (N := some 65) (v := ?_) (a' := ?_) #[true, true, true, true, true, true, true, true, true] rfl rfl (by kernel_rfl) (fun _ _ _ h => h) (Or.inl ⟨by rfl, ?_⟩) ?_ ?_
        rotate_left
        ·intro w'
         go_simp
         with_reducible rfl
        rotate_left
        ·simp only [Act.put, List.setIfInBounds_toArray, List.set_cons_zero, List.set_cons_succ, i64_w, i32_w]
         rfl
        refine done_ (by kernel_rfl) ?_
        obtain ⟨h1, h2, h3, HX4, HB4⟩ := hHeld
        clear h1 h2 h3
        go_wp2_with fail
        go_ret2
        exact ⟨by rw [HG.out]; rfl, HB4.out⟩
       ·have HST2 : Aside0 (∃ S : List Bool, S.length = fr.length ∧ (∀ q : Nat, gb S q = true → ∃ u, u < v + 1 ∧ leaves fr u (q : Int) = true) ∧ rows fr ds (v + 1) (r.drop (v + 1)) S = RES) := ⟨by
         obtain ⟨T, hT⟩ := HI.out
         rw [← HREST.out]
         exact ⟨T, hT.done (by rw [← HCN.out]; exact HDV.out) (by rw [← HCN.out]; exact hfew)⟩⟩
        have t1 : decide ((row.length : Int) < (cn : Int)) = false := decide_eq_false (by omega)
        go_wp2_with fail
        refine start_ (n := 9) (S := fun w' => w'.cell? ⟨bg, 0, none⟩ = some (.int .i64 n) ∧ w'.cell? ⟨bg, 1, none⟩ = some (.slice A es.length c) ∧ w'.cell? (ad.add v) = some (.slice D row.length cD) ∧ Aside0 (w'.heap[bg]? = some (.cells #[.int .i64 n, .slice A es.length c] 24 (0, 0))) ∧ Aside0 (Below w.heap.size w w')) (ds := []) #[false, false, false, false, false, false, false, false, false] (by kernel_rfl) rfl rfl ⟨x0, x1, hx, ⟨HX.out⟩, ⟨HB.out.drew⟩⟩ (fun hHeld => ?_)
        refine pure_ (i := 0) (N := some 57) (v := ?_) (a' := ?_) #[true, false, false, false, false, false, false, false, false] rfl rfl (by kernel_rfl) (fun _ _ _ h => h) (Or.inl ⟨by rfl, ?_⟩) ?_ ?_
        rotate_left
        ·intro w'
         go_simp
         with_reducible rfl
        rotate_left
        ·simp only [Act.put, List.setIfInBounds_toArray, List.set_cons_zero, List.set_cons_succ, i64_w, i32_w]
         rfl
        refine pure_ (i := 1) (N := some 58) (v := ?_) (a' := ?_) #[true, true, false, false, false, false, false, false, false] rfl rfl (by kernel_rfl) (fun _ _ _ h => h) (Or.inl ⟨by rfl, ?_⟩) ?_ ?_
        rotate_left
        ·intro w'
         go_simp
         with_reducible rfl
        rotate_left
        ·simp only [Act.put, List.setIfInBounds_toArray, List.set_cons_zero, List.set_cons_succ, i64_w, i32_w]
         rfl
        refine pure_ (i := 2) (N := some 59) (v := ?_) (a' := ?_) #[true, true, true, false, false, false, false, false, false] rfl rfl (by kernel_rfl) (fun _ _ _ h => h) (Or.inl ⟨by rfl, ?_⟩) ?_ ?_
        rotate_left
        ·intro w'
         go_simp
         with_reducible rfl
        rotate_left
        ·simp only [Act.put, List.setIfInBounds_toArray, List.set_cons_zero, List.set_cons_succ, i64_w, i32_w]
         rfl
        refine pure_ (i := 6) (N := some 63) (v := ?_) (a' := ?_) #[true, true, true, false, false, false, true, false, false] rfl rfl (by kernel_rfl) (fun _ _ _ h => h) (Or.inl ⟨by rfl, ?_⟩) ?_ ?_
        rotate_left
        ·intro w'
         go_simp
         with_reducible rfl
        rotate_left
        ·simp only [Act.put, List.setIfInBounds_toArray, List.set_cons_zero, List.set_cons_succ, i64_w, i32_w]
         rfl
        refine take_ (i := 3) (N := some 60) (v := ?_) (a' := ?_) #[true, true, true, true, false, false, true, false, false] rfl rfl (by kernel_rfl) (fun _ _ _ h => h) (Or.inl ⟨by rfl, ?_⟩) hHeld ?_ ?_
        rotate_left
        ·rintro w' ⟨s0, s1, s2, s3, s4⟩
         go_simp
         with_reducible rfl
        rotate_left
        ·simp only [Act.put, List.setIfInBounds_toArray, List.set_cons_zero, List.set_cons_succ, i64_w, i32_w]
         rfl
        refine pure_ (i := 4) (N := some 61) (v := ?_) (a' := ?_) #[true, true, true, true, true, false, true, false, false] rfl rfl (by kernel_rfl) (fun _ _ _ h => h) (Or.inl ⟨by rfl, ?_⟩) ?_ ?_
        rotate_left
        ·intro w'
         go_simp
         with_reducible rfl
        rotate_left
        ·simp only [Act.put, List.setIfInBounds_toArray, List.set_cons_zero, List.set_cons_succ, i64_w, i32_w]
         rfl
        refine take_ (i := 5) (N := some 62) (v := ?_) (a' := ?_) #[true, true, true, true, true, true, true, false, false] rfl rfl (by kernel_rfl) (fun _ _ _ h => h) (Or.inl ⟨by rfl, ?_⟩) hHeld ?_ ?_
        rotate_left
        ·rintro w' ⟨s0, s1, s2, s3, s4⟩
         go_simp
         with_reducible rfl
        rotate_left
        ·simp only [Act.put, List.setIfInBounds_toArray, List.set_cons_zero, List.set_cons_succ, i64_w, i32_w]
         rfl
        refine one_ (i := 7) (N := some 64) #[true, true, true, true, true, true, true, true, false] rfl rfl (by kernel_rfl) (by decide) (fun K hK => ?_)
        obtain ⟨h1, h2, h3, h4, h5⟩ := hHeld
        refine goes_ Try.func51 (by kernel_rfl) rfl #[.agg #[.int .i64 n, .slice A es.length c], .int .i64 (v : Int)] (by rfl) rfl rfl (by simp only [List.map_toArray, List.map_cons, List.map_nil]; rfl) ?_
        with_reducible refine (HDG.out _ h5.out).mono ?_
        rintro e w4 ⟨rfl, hb⟩
        refine ⟨_, rfl, ?_⟩
        have HX4 := Aside0.mk ((hb.block _ (lt_of h4.out)).trans h4.out)
        have HB4 := Aside0.mk (h5.out.trans (hb.mono h5.out.size))
        have h3' := (hb.cell (cell_lt h3)).trans h3
        clear hb h1 h2 h3 h4 h5
        refine hK.out _ _ ⟨heap_cell HX4.out rfl, heap_cell HX4.out rfl, h3', HX4, HB4⟩ (fun hHeld => ?_)
        clear hK K
        refine norm_ (a' := ?_) ?_ ?_
        rotate_left
        ·show Act.put _ (some 64) _ = _
         simp only [Act.put, List.setIfInBounds_toArray, List.set_cons_zero, List.set_cons_succ, i64_w, i32_w]
         rfl
        refine pure_ (i := 8) (N := some 65) (v := ?_) (a' := ?_) #[true, true, true, true, true, true, true, true, true] rfl rfl (by kernel_rfl) (fun _ _ _ h => h) (Or.inl ⟨by rfl, ?_⟩) ?_ ?_
        rotate_left
        ·intro w'
         go_simp
         with_reducible rfl
        rotate_left
        ·simp only [Act.put, List.setIfInBounds_toArray, List.set_cons_zero, List.set_cons_succ, i64_w, i32_w]
         rfl
        refine done_ (by kernel_rfl) ?_
        obtain ⟨h1, h2, h3, HX4, HB4⟩ := hHeld
        clear h1 h2 h3
        go_wp2_with fail
        go_roundw
        case rel => exact ⟨v + 1, by go_num, by omega, HST2, HX4, HB4⟩
        case measure => simp [intOf]; omega
    ·obtain rfl : v = r.length := by omega
     have HG : Aside0 (RES = (0, 0)) := ⟨by
      obtain ⟨S, _, _, h3⟩ := HST.out
      rw [List.drop_length] at h3
      exact h3.symm⟩
     have x0 : wr.cell? ⟨bg, 0, none⟩ = some (.int .i64 n) := heap_cell HX.out rfl
     have t1 : decide ((r.length : Int) < n) = false := decide_eq_false (by omega)
     clear hln
     go_wp2_with fail
     go_ret2
     exact ⟨by rw [HG.out]; rfl, HB.out⟩
  ·have t0 : ((r.length : Int) != n) = true := bne_iff_ne.2 hlen
   have HG : Aside0 (RES = (0, 110)) := ⟨by rw [HRES.out]; unfold checkR; rw [if_pos hgd, if_neg hlen]⟩
   clear hgd hlen
   go_wp2_with fail
   go_ret2
   exact ⟨by rw [HG.out]; rfl, HB2.out⟩
end Go.Proofs.Yteeihjpnhjnknaa.Graph
namespace Go.Proofs.Yteeihjpnhjnknaa.Mem
open Go.RowKit Go.Proofs.YteeihjpnhjnknaaW.PrintWords Go.Proofs.YteeihjpnhjnknaaW.PrintLast Go.Proofs.YteeihjpnhjnknaaW.PrintMore
set_option linter.unusedVariables false
set_option linter.unusedSimpArgs false
abbrev IR (w : World) (base : Nat) (ok : Nat → Prop) (v : Value) (x : List Int) : Prop := Kd.R (Kd.int .i64) 3 w base ok v x
abbrev okr (bn : Nat) (u v : Value) : Nat → Prop := fun k => k ≠ bn ∧ some k ≠ u.ownBlock ∧ some k ≠ v.ownBlock
structure Rows3 (w : World) (base bn : Nat) (num : List Int) (v1 : Value) (x1 : List Int) (v2 : Value) (x2 : List Int) (v3 : Value) (x3 : List Int) : Prop where
 num : IRow w bn num
 low : base ≤ bn
 r1 : IR w base (okr bn v2 v3) v1 x1
 r2 : IR w base (okr bn v1 v3) v2 x2
 r3 : IR w base (okr bn v1 v2) v3 x3
section
variable {w w1 : World} {base bn : Nat} {num x1 x2 x3 : List Int} {v1 v2 v3 : Value}
theorem Rows3.rot (h : Rows3 w base bn num v1 x1 v2 x2 v3 x3) : Rows3 w base bn num v2 x2 v3 x3 v1 x1 :=
 ⟨h.num, h.low, Kd.R_mono h.r2 (fun _ k => ⟨k.1, k.2.2, k.2.1⟩), Kd.R_mono h.r3 (fun _ k => ⟨k.1, k.2.2, k.2.1⟩), h.r1⟩
theorem Rows3.below (h : Rows3 w base bn num v1 x1 v2 x2 v3 x3) (hb : Below w.heap.size w w1) : Rows3 w1 base bn num v1 x1 v2 x2 v3 x3 :=
 ⟨(hb.block _ (lt_of h.num)).trans h.num, h.low, Kd.R_below h.r1 hb, Kd.R_below h.r2 hb, Kd.R_below h.r3 hb⟩
theorem Rows3.alloc (h : Rows3 w base bn num v1 x1 v2 x2 v3 x3) (o : Obj) : Rows3 (w.alloc o) base bn num v1 x1 v2 x2 v3 x3 := h.below ((Below.refl _ _).alloc (Nat.le_refl _) _)
theorem Rows3.drewN (h : Rows3 w base bn num v1 x1 v2 x2 v3 x3) (n : Nat) : Rows3 (w.drewN n) base bn num v1 x1 v2 x2 v3 x3 := ⟨h.num, h.low, Kd.R_drewN h.r1 n, Kd.R_drewN h.r2 n, Kd.R_drewN h.r3 n⟩
theorem Rows3.drew (h : Rows3 w base bn num v1 x1 v2 x2 v3 x3) : Rows3 w.drew base bn num v1 x1 v2 x2 v3 x3 := ⟨h.num, h.low, Kd.R_drew h.r1, Kd.R_drew h.r2, Kd.R_drew h.r3⟩
theorem Rows3.put (h : Rows3 w base bn num v1 x1 v2 x2 v3 x3) (i : Nat) (x : Int) : Rows3 (w.setCell ⟨bn, i, none⟩ (.int .i64 x)) base bn (num.set i x) v1 x1 v2 x2 v3 x3 :=
 ⟨h.num.put i x, h.low, Kd.R_far h.r1 (p := ⟨bn, i, none⟩) (fun _ k => k.1) _, Kd.R_far h.r2 (p := ⟨bn, i, none⟩) (fun _ k => k.1) _, Kd.R_far h.r3 (p := ⟨bn, i, none⟩) (fun _ k => k.1) _⟩
theorem Rows3.grown (h : Rows3 w base bn num v1 x1 v2 x2 v3 x3) {v : Value} {x : List Int} (h1 : IR w1 base (okr bn v1 v2) v x) (hg : w.grownBy w1 v3.ownBlock) (hat : v.ownBlock = v3.ownBlock ∨ ∃ b, v.ownBlock = some b ∧ w.heap.size ≤ b) : Rows3 w1 base bn num v1 x1 v2 x2 v x :=
 ⟨(hg.block _ (lt_of h.num) (fun e => (h.r3.1 bn e.symm).1 rfl)).trans h.num, h.low,
  Kd.R_mono (Kd.R_after (ok := fun k => k ≠ bn ∧ some k ≠ v2.ownBlock) (v := v3) (v1 := v) (Kd.R_mono h.r1 (fun _ k => ⟨⟨k.1, k.2.1⟩, k.2.2⟩)) hg hat) (fun _ k => ⟨k.1.1, k.1.2, k.2⟩),
  Kd.R_mono (Kd.R_after (ok := fun k => k ≠ bn ∧ some k ≠ v1.ownBlock) (v := v3) (v1 := v) (Kd.R_mono h.r2 (fun _ k => ⟨⟨k.1, k.2.1⟩, k.2.2⟩)) hg hat) (fun _ k => ⟨k.1.1, k.1.2, k.2⟩), h1⟩
theorem Rows3.fresh (h : Rows3 w base bn num v1 x1 v2 x2 v3 x3) : ∀ k, w.heap.size ≤ k → okr bn v1 v2 k := fun k hk =>
 ⟨fun e => by have := lt_of h.num; omega, fun e => by have := Kd.R_lt h.r1 k e.symm; omega, fun e => by have := Kd.R_lt h.r2 k e.symm; omega⟩
theorem R_cell {ok : Nat → Prop} {A : Option Addr} {n c : Nat} {x : List Int} (h : IR w base ok (.slice A n c) x) {i : Nat} (hi : i < x.length) : ∃ ad, A = some ad ∧ w.cell? (ad.add i) = some (.int .i64 (gi x i)) := by
 obtain ⟨rfl, _, hC⟩ := Kd.R_reads' h
 obtain ⟨ad, e, h1⟩ := Kd.at_int hC (i : Int) (by omega) (by omega)
 rw [gi_rd, Int.toNat_natCast] at h1
 exact ⟨ad, e, h1⟩
theorem R_len {ok : Nat → Prop} {v : Value} {x : List Int} (h : IR w base ok v x) : ∃ A c, v = .slice A x.length c ∧ x.length ≤ c := by
 obtain ⟨A, c, e, hc, _⟩ := Kd.R_reads h
 exact ⟨A, c, e, hc⟩
theorem Rows3.put3 {g n c : Nat} (h : Rows3 w base bn num v1 x1 v2 x2 (.slice (some ⟨g, 0, none⟩) n c) x3) (i : Nat) (x : Int) : Rows3 (w.setCell ⟨g, i, none⟩ (.int .i64 x)) base bn num v1 x1 v2 x2 (.slice (some ⟨g, 0, none⟩) n c) (x3.set i x) := by
 have h1 := Kd.R_putg h.r3 (i : Int) x
 rw [Int.toNat_natCast] at h1
 refine h.grown h1.1 ?_ (.inl rfl)
 simpa [Value.ownBlock] using h1.2
theorem R_head {ok : Nat → Prop} {A : Option Addr} {n c : Nat} {x : List Int} (h : IR w base ok (.slice A n c) x) (hp : 0 < x.length) : ∃ g, A = some ⟨g, 0, none⟩ ∧ n = x.length ∧ base ≤ g ∧ g < w.heap.size ∧ ∃ cells, w.heap[g]? = some (.cells cells 3 (0, 0)) := by
 obtain ⟨g, cap, e, h1, h2, h3⟩ := Kd.R_form h hp
 simp only [Value.slice.injEq] at e
 exact ⟨g, e.1, e.2.1, h1, h2, h3⟩
theorem R_one (w : World) (base : Nat) (hb : base ≤ w.heap.size) (x : Int) (ok : Nat → Prop) (hok : ok w.heap.size) : IR (w.alloc (.cells #[.int .i64 x] 3 (0, 0))) base ok (.slice (some ⟨w.heap.size, 0, none⟩) 1 1) [x] := by
 have h : IRow (w.alloc (.cells #[.int .i64 x] 3 (0, 0))) w.heap.size [x] := heap_last w _
 exact h.own hb (by simp) hok
end
end Go.Proofs.Yteeihjpnhjnknaa.Mem
namespace Go.Proofs.Yteeihjpnhjnknaa.Seen
open Go.RowKit Go.Proofs.YteeihjpnhjnknaaW.PrintWords Go.Proofs.YteeihjpnhjnknaaW.PrintLast Go.Proofs.YteeihjpnhjnknaaW.PrintMore Go.Proofs.Yteeihjpnhjnknaa.Mem
set_option linter.unusedVariables false
set_option linter.unusedSimpArgs false
def CodePost (cd ord : List Int) (w : World) (e : Ending) (w' : World) : Prop := ∃ v0_ v1_ : Value, e = .returned (.tuple #[v0_, v1_]) ∧ Kd.R (Kd.int .i64) 3 w' w.heap.size (fun k_ => some k_ ≠ (v1_ : Value).ownBlock) v0_ cd ∧ Kd.R (Kd.int .i64) 3 w' w.heap.size (fun k_ => some k_ ≠ (v0_ : Value).ownBlock) v1_ ord ∧ Below w.heap.size w w'
def negs (n i : Nat) : List Int := List.replicate i (-1) ++ List.replicate (n - i) 0
theorem negs_length {n i : Nat} (h : i ≤ n) : (negs n i).length = n := by unfold negs; simp; omega
theorem negs_zero (n : Nat) : negs n 0 = List.replicate n 0 := by unfold negs; simp
theorem negs_all (n : Nat) : negs n n = List.replicate n (-1) := by unfold negs; simp
theorem negs_set {n i : Nat} (h : i < n) : (negs n i).set i (-1) = negs n (i + 1) := by
 unfold negs
 rw [List.set_append_right _ _ (by simp), List.length_replicate, Nat.sub_self, show n - i = n - (i + 1) + 1 by omega, List.replicate_succ, List.set_cons_zero, List.replicate_succ']
 simp
theorem C_cell {W : World} {ad : Addr} {x : List Int} (h : Kd.C (Kd.int .i64) W (some ad) x.length x) {i : Nat} (hi : i < x.length) : W.cell? (ad.add i) = some (.int .i64 (gi x i)) := by
 obtain ⟨ad', e, h1⟩ := Kd.at_int h (i : Int) (by omega) (by omega)
 rw [gi_rd, Int.toNat_natCast] at h1
 injection e with e
 rw [e]; exact h1
theorem C_some {W : World} {A : Option Addr} {x : List Int} (h : Kd.C (Kd.int .i64) W A x.length x) (hi : 0 < x.length) : ∃ ad, A = some ad := by
 obtain ⟨ad', e, h1⟩ := Kd.at_int h 0 (by omega) (by omega)
 exact ⟨ad', e⟩
theorem rows_start {w : World} {base bn : Nat} {num : List Int} (hn : IRow w bn num) (hb : base ≤ bn) (root x : Int) : Rows3 ((w.alloc (.cells #[.int .i64 root] 3 (0, 0))).alloc (.cells #[.int .i64 x] 3 (0, 0))) base bn num (.slice (some ⟨w.heap.size, 0, none⟩) 1 1) [root] (.slice (some ⟨w.heap.size + 1, 0, none⟩) 1 1) [x] (.slice none 0 0) [] := by
 have hlt := lt_of hn
 have s : (w.alloc (.cells #[.int .i64 root] 3 (0, 0))).heap.size = w.heap.size + 1 := by simp
 refine ⟨heap_old (heap_old hn _) _, hb, ?_, ?_, Kd.R_nil _ _ _ _ _⟩
 ·exact Kd.R_alloc (R_one w base (by omega) root _ ⟨by omega, by simp [Value.ownBlock], by simp [Value.ownBlock]⟩) _
 ·have := R_one (w.alloc (.cells #[.int .i64 root] 3 (0, 0))) base (by omega) x (okr bn (.slice (some ⟨w.heap.size, 0, none⟩) 1 1) (.slice none 0 0)) ⟨by omega, by simp [Value.ownBlock], by simp [Value.ownBlock]⟩
  rw [s] at this
  exact this
theorem turn_ent (nx tos : List Int) (s : St) (h : Int) : ∀ j, ∃ t, (turn nx tos s h j).ent = s.ent ++ t
 | 0 => ⟨[], by simp [turn]⟩
 | j + 1 => by
  obtain ⟨t, ht⟩ := turn_ent nx tos s h j
  show ∃ t, (stepH tos (turn nx tos s h j) (it nx h j)).ent = s.ent ++ t
  unfold stepH
  split
  ·exact ⟨t ++ [tw (it nx h j)], by simp [ht]⟩
  ·exact ⟨t, ht⟩
theorem turn_at (nx tos : List Int) (s : St) (h : Int) (j : Nat) {i : Nat} (hi : i < s.ent.length) : gi (turn nx tos s h j).ent i = gi s.ent i := by
 obtain ⟨t, e⟩ := turn_ent nx tos s h j
 rw [e]
 unfold gi
 rw [List.getD_eq_getElem?_getD, List.getD_eq_getElem?_getD, List.getElem?_append_left hi]
theorem stepH_neg {tos : List Int} {s : St} {q : Int} (h : gi s.num (gi tos q.toNat).toNat < 0) : stepH tos s q = ⟨s.num.set (gi tos q.toNat).toNat s.ord.length, s.ent ++ [tw q], s.ord ++ [gi tos q.toNat], s.cd ++ [(s.ord.length : Int)]⟩ := by unfold stepH; rw [if_pos h]
theorem stepH_pos {tos : List Int} {s : St} {q : Int} (h : ¬ gi s.num (gi tos q.toNat).toNat < 0) : stepH tos s q = ⟨s.num, s.ent, s.ord, s.cd ++ [gi s.num (gi tos q.toNat).toNat]⟩ := by unfold stepH; rw [if_neg h]
theorem gi_mid (a : List Int) (x : Int) (b : List Int) : gi (a ++ x :: b) a.length = x := by unfold gi; simp [List.getD_eq_getElem?_getD]
theorem set_mid (a : List Int) (x y : Int) (b : List Int) : (a ++ x :: b).set a.length y = a ++ y :: b := by simp
def lenOf : Value → Nat
 | .slice _ n _ => n
 | _ => 0
theorem per_le (nx : List Int) (h : Int) : per nx h ≤ nx.length := by
 unfold per
 cases e : (List.range nx.length).find? fun j => it nx h (j + 1) == h with
 | none => exact Nat.zero_le _
 | some j => have := List.mem_range.1 (List.mem_of_find?_eq_some e); show j + 1 ≤ _; omega
set_option maxHeartbeats 4000000 in
set_option maxRecDepth 100000 in
theorem code_calls (n : Nat) (nx tos : List Int) (An : Option Addr) (cn : Nat) (At : Option Addr) (ct : Nat) (root : Nat) (w : World) (hn : Kd.C (Kd.int .i64) w An nx.length nx) (ht : Kd.C (Kd.int .i64) w At tos.length tos) (hf : Fit n nx tos) (hr : root < nx.length) :
  Calls Try.prog 37 #[.agg #[.int .i64 (n : Int), .slice An nx.length cn, .slice At tos.length ct], .int .i64 (root : Int)] w (CodePost (all n nx tos (root : Int)).cd (all n nx tos (root : Int)).ord w) := by
 have hfm := hf.hm
 have hfn := hf.hn
 have hft := hf.ht
 obtain ⟨an, rfl⟩ := C_some hn (by omega)
 obtain ⟨at', rfl⟩ := C_some ht (by omega)
 have HN := Aside0.mk hn
 have HT := Aside0.mk ht
 have HF := Aside0.mk hf
 have HFT := Aside0.mk hft
 obtain ⟨M, hM⟩ : ∃ M, M = nx.length := ⟨_, rfl⟩
 have HM := Aside0.mk hM
 have hMb : M ≤ 8388608 := by omega
 have hrM : root < M := by omega
 have HB := Aside0.mk ((Below.refl w.heap.size w).alloc (Nat.le_refl _) (.cells #[.int .i64 (n : Int), .slice (some an) M cn, .slice (some at') M ct] 69 (0, 0)))
 have HX := Aside0.mk (heap_last w (.cells #[.int .i64 (n : Int), .slice (some an) M cn, .slice (some at') M ct] 69 (0, 0)))
 have mk := print_make (P := Try.prog) 32 3 .i64 8 Try.underlying32 info_int (by decide) n (by omega)
 rw [hft, ← hM]
 clear hn ht hf hft hfm hr hM
 go_enter Try.func37, Try.ntmps37
 go_wp2_with fail
 clear mk
 have HT0 : Aside0 (IRow ((w.alloc (.cells #[.int .i64 (n : Int), .slice (some an) M cn, .slice (some at') M ct] 69 (0, 0))).alloc (.cells (madeCells #[.int .i64 0] n) 3 (0, 0))) (w.heap.size + 1) (negs n 0)) := ⟨by
  rw [made_int, negs_zero]
  have := IRow.start (w.alloc (.cells #[.int .i64 (n : Int), .slice (some an) M cn, .slice (some at') M ct] 69 (0, 0))) n
  simpa using this⟩
 have HX0 := Aside0.mk (heap_old HX.out (.cells (madeCells #[.int .i64 0] n) 3 (0, 0)))
 have HB0 := Aside0.mk (HB.out.alloc HB.out.size (.cells (madeCells #[.int .i64 0] n) 3 (0, 0)))
 clear HB HX
 generalize (w.alloc (.cells #[.int .i64 (n : Int), .slice (some an) M cn, .slice (some at') M ct] 69 (0, 0))).alloc (.cells (madeCells #[.int .i64 0] n) 3 (0, 0)) = w1 at HT0 HX0 HB0 ⊢
 obtain ⟨gb, hgb⟩ : ∃ gb, gb = w.heap.size := ⟨_, rfl⟩
 obtain ⟨bn, hbn⟩ : ∃ bn, bn = w.heap.size + 1 := ⟨_, rfl⟩
 have HNE : Aside0 (gb ≠ bn) := ⟨by omega⟩
 have HGB : Aside0 (w.heap.size ≤ gb) := ⟨by omega⟩
 have HLO : Aside0 (w.heap.size ≤ bn) := ⟨by omega⟩
 rw [← hbn] at HT0 ⊢
 rw [← hgb] at HX0 ⊢
 clear hbn hgb
 go_loopw [20] (fun y wr => ∃ (i : Nat), y = .int .i64 (i : Int) ∧ i ≤ n ∧ Aside0 (IRow wr bn (negs n i)) ∧ Aside0 (wr.heap[gb]? = some (.cells #[.int .i64 (n : Int), .slice (some an) M cn, .slice (some at') M ct] 69 (0, 0))) ∧ Aside0 (Below w.heap.size w wr)) (fun y _ => n - (intOf y).toNat)
 case atStart => exact ⟨0, rfl, by omega, HT0, HX0, HB0⟩
 case round =>
  clear HT0 HX0 HB0
  obtain ⟨i, rfl, hi, HT0, HX0, HB0⟩ := hrel
  by_cases hlt : i < n
  ·have c1 := HT0.out.cell (i := i) (by rw [negs_length hi]; exact hlt)
   have f1 := HT0.out.free i
   have HT1 : Aside0 (IRow (wr.setCell ⟨bn, i, none⟩ (.int .i64 (-1))) bn (negs n (i + 1))) := ⟨by rw [← negs_set hlt]; exact HT0.out.put i (-1)⟩
   have HX1 := Aside0.mk (heap_ne (i := i) (v := .int .i64 (-1)) HX0.out HNE.out)
   have HB1 := Aside0.mk (HB0.out.setCell (p := ⟨bn, i, none⟩) HLO.out (.int .i64 (-1)))
   go_wp2_with fail
   go_roundw
   case rel => exact ⟨i + 1, by go_num, by omega, HT1, HX1, HB1⟩
   case measure => simp [intOf]; omega
  ·obtain rfl : n = i := by omega
   rw [negs_all] at HT0
   obtain ⟨tr, htr⟩ : ∃ tr : Nat, tw (root : Int) = (tr : Int) := ⟨(tw (root : Int)).toNat, by have := (HF.out.htw root (by rw [← HM.out]; exact hrM)).1; omega⟩
   have q0 : Go.bits .xor .i64 (root : Int) 1 = (tr : Int) := htr
   have htr2 : tr < M := by
    have := (HF.out.htw root (by rw [← HM.out]; exact hrM)).2
    rw [htr, ← HM.out] at this; omega
   have hlo := HF.out.htos tr (by rw [← HM.out]; exact htr2)
   obtain ⟨x, hx⟩ : ∃ x : Nat, gi tos tr = (x : Int) := ⟨(gi tos tr).toNat, by omega⟩
   have hxn : x < n := by omega
   have HTR := Aside0.mk htr
   have HXX := Aside0.mk hx
   clear htr hlo
   have hAT := (Kd.C_below HT.out HB0.out)
   have y1 := C_cell hAT (i := tr) (by rw [HFT.out, ← HM.out]; exact htr2)
   rw [hx] at y1
   clear hAT hx
   have HR := Aside0.mk (rows_start HT0.out HLO.out (root : Int) (x : Int))
   have HX1 := Aside0.mk (heap_old (heap_old HX0.out (.cells #[.int .i64 (root : Int)] 3 (0, 0))) (.cells #[.int .i64 (x : Int)] 3 (0, 0)))
   have HB1 := Aside0.mk ((HB0.out.alloc HB0.out.size (.cells #[.int .i64 (root : Int)] 3 (0, 0))).alloc (by simp; have := HB0.out.size; omega) (.cells #[.int .i64 (x : Int)] 3 (0, 0)))
   have x2 : (wr.alloc (.cells #[.int .i64 (root : Int)] 3 (0, 0))).cell? ⟨gb, 2, none⟩ = some (.slice (some at') M ct) := heap_cell (heap_old HX0.out _) rfl
   have y2 : (wr.alloc (.cells #[.int .i64 (root : Int)] 3 (0, 0))).cell? (at'.add tr) = some (.int .i64 (x : Int)) := by
    have := (Below.refl wr.heap.size wr).alloc (Nat.le_refl _) (.cells #[.int .i64 (root : Int)] 3 (0, 0))
    rw [this.cell (cell_lt y1)]; exact y1
   have c1 := HR.out.num.cell (i := x) (by simpa using hxn)
   have f1 := HR.out.num.free x
   go_wp2_with fail
   clear x2 y1 y2 c1 f1 q0
   have HR2 := Aside0.mk (HR.out.put x 0)
   have HX2 := Aside0.mk (heap_ne (i := x) (v := .int .i64 0) HX1.out HNE.out)
   have HB2 := Aside0.mk (HB1.out.setCell (p := ⟨bn, x, none⟩) HLO.out (.int .i64 0))
   obtain ⟨a8, ha8⟩ : ∃ a8, a8 = wr.heap.size := ⟨_, rfl⟩
   rw [← ha8] at HR2 ⊢
   clear HT0 HX0 HB0 HR HX1 HB1
   generalize ((wr.alloc (.cells #[.int .i64 (root : Int)] 3 (0, 0))).alloc (.cells #[.int .i64 (x : Int)] 3 (0, 0))).setCell ⟨bn, x, none⟩ (.int .i64 0) = w2 at HR2 HX2 HB2 ⊢
   clear ha8
   obtain ⟨s0, hs0⟩ : ∃ s0, s0 = start n tos (root : Int) (gi tos (tw (root : Int)).toNat) := ⟨_, rfl⟩
   have HS0 : Aside0 (s0 = ⟨(List.replicate n (-1)).set x 0, [(root : Int)], [(x : Int)], []⟩) := ⟨by rw [hs0, HTR.out, Int.toNat_natCast, HXX.out]; rfl⟩
   have HOK0 : Aside0 (Ok n M s0) := ⟨by
    rw [hs0, HTR.out, Int.toNat_natCast, HXX.out]; exact Ok.start ⟨by omega, by omega⟩ ⟨by omega, by omega⟩⟩
   have HALL : Aside0 (all n nx tos (root : Int) = upto nx tos s0 n) := ⟨by rw [hs0]; rfl⟩
   clear hs0
   go_loopw [8, 9, 10, 11] (fun a b d y wr => ∃ (k : Nat) (num ent ord cd : List Int) (A8 : Option Addr) (c8 : Nat) (A9 : Option Addr) (c9 : Nat) (A10 : Option Addr) (c10 : Nat), y = .int .i64 (k : Int) ∧ a = .slice A8 ent.length c8 ∧ b = .slice A9 ord.length c9 ∧ d = .slice A10 cd.length c10 ∧ k ≤ ord.length ∧ Aside0 (upto nx tos s0 k = ⟨num, ent, ord, cd⟩) ∧ Aside0 (Rows3 wr w.heap.size bn num (.slice A8 ent.length c8) ent (.slice A9 ord.length c9) ord (.slice A10 cd.length c10) cd) ∧ Aside0 (wr.heap[gb]? = some (.cells #[.int .i64 (n : Int), .slice (some an) M cn, .slice (some at') M ct] 69 (0, 0))) ∧ Aside0 (Below w.heap.size w wr) ∧ Aside0 (cd.length ≤ k * 8388609)) (fun _ _ _ y _ => n - (intOf y).toNat)
   case atStart => exact ⟨0, _, _, _, _, _, _, _, _, _, _, rfl, rfl, rfl, rfl, by simp, HS0, HR2, HX2, HB2, ⟨by simp⟩⟩
   case round =>
    clear HR2 HX2 HB2
    obtain ⟨k, num, ent, ord, cd, A8, c8, A9, c9, A10, c10, rfl, rfl, rfl, rfl, hk, HU, HR, HX, HB, HCD⟩ := hrel
    have HOK : Aside0 (Ok n M ⟨num, ent, ord, cd⟩) := ⟨by rw [← HU.out, HM.out]; exact Ok.upto HF.out (by rw [← HM.out]; exact HOK0.out) k⟩
    by_cases hlt : k < ord.length
    ·have hordn : ord.length ≤ n := by have := HOK.out.cnt; simp only at this; omega
     have hel : ent.length = ord.length := HOK.out.ent
     have HEL := Aside0.mk hel
     have hke : k < ent.length := by omega
     have hcd := HCD.out
     have hcd2 : cd.length ≤ 9000000000000 := by
      have : k * 8388609 ≤ 1048576 * 8388609 := Nat.mul_le_mul_right _ (by omega)
      omega
     clear hel hcd
     go_wp2_with ((with_reducible refine gate_builtin (b := .append) (xs := #[.tmp 49, .tmp 50]) rfl ?_); at_builtin; refine Kd.R_append (Kd.int .i64) (w0 := w) w.heap.size rfl (.tmp 49) (.tmp 50) 32 3 (.int .i64 0) 8 rfl Try.underlying32 info_int rfl (by decide) (by omega) (.slice A10 cd.length c10) cd 0 [.int .i64 0] (okr bn (.slice A8 ent.length c8) (.slice A9 ord.length c9)) (fun _ => False) rfl rfl rfl (fun _ hk => hk.elim) (HR.out.fresh) (HR.out.r3) (HB.out) (HB.out.size) (by omega) ?_)
     intro v' w3 hr hb hg hat
     have HR3 := Aside0.mk (HR.out.grown hr hg hat)
     have HX3 := Aside0.mk ((hg.block gb (lt_of HX.out) (Kd.R_ne HR.out.r3 HX.out (by decide))).trans HX.out)
     have HB3 := Aside0.mk hb
     obtain ⟨o0, ho0⟩ : ∃ o0, o0 = cd ++ [(0 : Int)] := ⟨_, rfl⟩
     rw [← ho0] at hr HR3
     obtain ⟨A10', c10', rfl, hc10'⟩ := R_len hr
     have HO0 : Aside0 (o0 = cd ++ ((0 : Nat) : Int) :: []) := ⟨ho0⟩
     have HL0 : Aside0 (o0.length = cd.length + 1 + 0) := ⟨by rw [ho0]; simp⟩
     clear hr hg hat hb hc10' ho0 HR HX HB
     have hin := HOK.out.inE k hke
     simp only at hin
     obtain ⟨h, hh⟩ : ∃ h : Nat, gi ent k = (h : Int) := ⟨(gi ent k).toNat, by omega⟩
     have hhM : h < M := by rw [hh] at hin; omega
     have HH := Aside0.mk hh
     have y3 : ∃ g8, A8 = some ⟨g8, 0, none⟩ ∧ w3.cell? ⟨g8, k, none⟩ = some (.int .i64 (h : Int)) := by
      obtain ⟨g8, e1, _⟩ := R_head HR3.out.r1 (by omega)
      obtain ⟨ad, e2, e3⟩ := R_cell HR3.out.r1 hke
      rw [e1] at e2
      injection e2 with e2
      subst e2
      rw [hh] at e3
      exact ⟨g8, e1, by rw [← add_plain]; exact e3⟩
     obtain ⟨g8, e8, y3⟩ := y3
     subst e8
     clear hh hin
     have hper := HF.out.hper h (by rw [← HM.out]; exact hhM)
     go_wp2_with fail
     clear y3
     go_loopw [8, 9, 10, 13] (fun a b d y wr => ∃ (j : Nat) (num1 ent1 ord1 c out : List Int) (q : Nat) (A8 : Option Addr) (c8 : Nat) (A9 : Option Addr) (c9 : Nat) (A10 : Option Addr) (c10 : Nat), y = .int .i64 (q : Int) ∧ a = .slice A8 ent1.length c8 ∧ b = .slice A9 ord1.length c9 ∧ d = .slice A10 out.length c10 ∧ j < per nx (h : Int) ∧ q < M ∧ Aside0 (it nx (h : Int) j = (q : Int)) ∧ Aside0 (turn nx tos ⟨num, ent, ord, []⟩ (h : Int) j = ⟨num1, ent1, ord1, c⟩) ∧ Aside0 (out = cd ++ (j : Int) :: c) ∧ Aside0 (out.length = cd.length + 1 + j) ∧ Aside0 (Rows3 wr w.heap.size bn num1 (.slice A8 ent1.length c8) ent1 (.slice A9 ord1.length c9) ord1 (.slice A10 out.length c10) out) ∧ Aside0 (wr.heap[gb]? = some (.cells #[.int .i64 (n : Int), .slice (some an) M cn, .slice (some at') M ct] 69 (0, 0))) ∧ Aside0 (Below w.heap.size w wr) ∧ Aside0 (c.length = j)) (fun _ _ d _ _ => cd.length + 1 + per nx (h : Int) - lenOf d)
     case atStart => exact ⟨0, num, ent, ord, [], o0, h, _, _, _, _, _, _, rfl, rfl, rfl, rfl, hper, hhM, ⟨rfl⟩, ⟨rfl⟩, HO0, HL0, HR3, HX3, HB3, ⟨rfl⟩⟩
     case round =>
      clear HR3 HX3 HB3 HO0 HL0 hper
      obtain ⟨j, num1, ent1, ord1, c, out, q, A8, c8, A9, c9, A10, c10, rfl, rfl, rfl, rfl, hj, hqM, HQ, HTU, HOUT, HOL, HR, HX, HB, HCL⟩ := hrel
      have HOK1 : Aside0 (Ok n M ⟨num1, ent1, ord1, c⟩) := ⟨by rw [← HTU.out, HM.out]; exact Ok.turn HF.out (by rw [← HM.out]; exact HOK.out.cd []) (by omega) (by rw [← HM.out]; omega) j⟩
      have hperM := per_le nx (h : Int)
      have hhm2 := HM.out
      have holb : out.length ≤ 10000000000000 := by have := HOL.out; omega
      have hordn1 : ord1.length ≤ n := by have := HOK1.out.cnt; simp only at this; omega
      have HEL1 : Aside0 (ent1.length = ord1.length) := ⟨HOK1.out.ent⟩
      have hentn1 : ent1.length ≤ n := by have := HEL1.out; omega
      have hjb : j ≤ 8388608 := by omega
      clear hperM hhm2
      have hx := HF.out.htos q (by rw [← HM.out]; exact hqM)
      obtain ⟨x, hxx⟩ : ∃ x : Nat, gi tos q = (x : Int) := ⟨(gi tos q).toNat, by omega⟩
      have hxn : x < n := by rw [hxx] at hx; omega
      have y1 := C_cell (Kd.C_below HT.out HB.out) (i := q) (by rw [HFT.out, ← HM.out]; exact hqM)
      rw [hxx] at y1
      have HXX := Aside0.mk hxx
      clear hx hxx
      have x2 : wr.cell? ⟨gb, 2, none⟩ = some (.slice (some at') M ct) := heap_cell HX.out rfl
      have hnl : num1.length = n := HOK1.out.num
      have c1 := HR.out.num.cell (i := x) (by rw [hnl]; exact hxn)
      have HNL := Aside0.mk hnl
      clear hnl
      have HEKE : Aside0 (∀ d, gi (turn nx tos ⟨num, ent, ord, []⟩ (h : Int) d).ent k = (h : Int)) := ⟨fun d => by
       rw [turn_at nx tos ⟨num, ent, ord, []⟩ (h : Int) d hke]; exact HH.out⟩
      have HELE : Aside0 (∀ d, k < (turn nx tos ⟨num, ent, ord, []⟩ (h : Int) d).ent.length) := ⟨fun d => by
       obtain ⟨t, e⟩ := turn_ent nx tos ⟨num, ent, ord, []⟩ (h : Int) d
       rw [e, List.length_append]; simp only; omega⟩
      by_cases hneg : gi num1 x < 0
      ·have hstep := stepH_neg (tos := tos) (s := ⟨num1, ent1, ord1, c⟩) (q := (q : Int)) (by rw [Int.toNat_natCast, HXX.out, Int.toNat_natCast]; exact hneg)
       rw [Int.toNat_natCast, HXX.out, Int.toNat_natCast] at hstep
       simp only at hstep
       obtain ⟨val, hval⟩ : ∃ val : Int, val = (ord1.length : Int) := ⟨_, rfl⟩
       obtain ⟨tq, htq⟩ : ∃ tq : Nat, tw (q : Int) = (tq : Int) := ⟨(tw (q : Int)).toNat, by have := (HF.out.htw q (by rw [← HM.out]; exact hqM)).1; omega⟩
       obtain ⟨num2, hnum2⟩ : ∃ num2, num2 = num1.set x (ord1.length : Int) := ⟨_, rfl⟩
       obtain ⟨ent2, hent2⟩ : ∃ ent2, ent2 = ent1 ++ [(tq : Int)] := ⟨_, rfl⟩
       obtain ⟨ord2, hord2⟩ : ∃ ord2, ord2 = ord1 ++ [(x : Int)] := ⟨_, rfl⟩
       rw [htq, ← hnum2, ← hent2, ← hord2, ← hval] at hstep
       have HST : Aside0 (turn nx tos ⟨num, ent, ord, []⟩ (h : Int) (j + 1) = ⟨num2, ent2, ord2, c ++ [val]⟩) := ⟨by
        show stepH tos (turn nx tos ⟨num, ent, ord, []⟩ (h : Int) j) (it nx (h : Int) j) = _
        rw [HTU.out, HQ.out]; exact hstep⟩
       have HEK : Aside0 (gi ent2 k = (h : Int)) := ⟨by have := HEKE.out (j + 1); rw [HST.out] at this; exact this⟩
       have HKE : Aside0 (k < ent2.length) := ⟨by have := HELE.out (j + 1); rw [HST.out] at this; exact this⟩
       have HEL2 : Aside0 (k + 1 ≤ ord2.length) := ⟨by have h1 := HKE.out; have h2 := HEL1.out; rw [hent2] at h1; rw [hord2]; simp at h1 ⊢; omega⟩
       have q0 : Go.bits .xor .i64 (q : Int) 1 = (tq : Int) := htq
       obtain ⟨z, hz⟩ : ∃ z, z = gi num1 x := ⟨_, rfl⟩
       rw [← hz] at c1 hneg
       have t1 : decide (z < 0) = true := decide_eq_true hneg
       have f1 := HR.out.num.free x
       have HRP := Aside0.mk (HR.out.put x (ord1.length : Int)).rot.rot
       rw [← hnum2] at HRP
       have HXP := Aside0.mk (heap_ne (i := x) (v := .int .i64 (ord1.length : Int)) HX.out HNE.out)
       have HBP := Aside0.mk (HB.out.setCell (p := ⟨bn, x, none⟩) HLO.out (.int .i64 (ord1.length : Int)))
       have HNUM2 := Aside0.mk hnum2
       have HVAL := Aside0.mk hval
       have HORD2 := Aside0.mk hord2
       have HENT2 := Aside0.mk hent2
       clear hnum2 hval hord2 hent2 hz hneg hstep htq
       go_upto_region 20 with (fail)
       generalize wr.setCell ⟨bn, x, none⟩ (.int .i64 (ord1.length : Int)) = w4 at HRP HXP HBP ⊢
       go_wp2_with ((with_reducible refine gate_builtin (b := .append) (xs := #[.tmp 71, .tmp 73]) rfl ?_); at_builtin; refine Kd.R_append (Kd.int .i64) (w0 := w) w.heap.size rfl (.tmp 71) (.tmp 73) 32 3 (.int .i64 0) 8 rfl Try.underlying32 info_int rfl (by decide) (by omega) (.slice A9 ord1.length c9) ord1 (x : Int) [.int .i64 (x : Int)] (okr bn (.slice A10 out.length c10) (.slice A8 ent1.length c8)) (fun _ => False) rfl rfl rfl (fun _ hk => hk.elim) (HRP.out.fresh) (HRP.out.r3) (HBP.out) (HBP.out.size) (by omega) ?_)
       intro v' w5 hr hb hg hat
       have HR5 := Aside0.mk (HRP.out.grown hr hg hat)
       have HX5 := Aside0.mk ((hg.block gb (lt_of HXP.out) (Kd.R_ne HRP.out.r3 HXP.out (by decide))).trans HXP.out)
       have HB5 := Aside0.mk hb
       rw [← HORD2.out] at hr HR5
       obtain ⟨A9', c9', rfl, hcx⟩ := R_len hr
       have HR5' := Aside0.mk HR5.out.rot.rot
       clear hr hb hg hat hcx c1 f1 y1 x2 t1 HR HX HB HRP HXP HBP HR5
       go_wp2_with ((with_reducible refine gate_builtin (b := .append) (xs := #[.tmp 75, .tmp 78]) rfl ?_); at_builtin; refine Kd.R_append (Kd.int .i64) (w0 := w) w.heap.size rfl (.tmp 75) (.tmp 78) 32 3 (.int .i64 0) 8 rfl Try.underlying32 info_int rfl (by decide) (by omega) (.slice A8 ent1.length c8) ent1 (tq : Int) [.int .i64 (tq : Int)] (okr bn (.slice A9' ord2.length c9') (.slice A10 out.length c10)) (fun _ => False) rfl rfl rfl (fun _ hk => hk.elim) (HR5'.out.fresh) (HR5'.out.r3) (HB5.out) (HB5.out.size) (by omega) ?_)
       intro v' w6 hr hb hg hat
       have HR6' := Aside0.mk (HR5'.out.grown hr hg hat)
       have HX6 := Aside0.mk ((hg.block gb (lt_of HX5.out) (Kd.R_ne HR5'.out.r3 HX5.out (by decide))).trans HX5.out)
       have HB6 := Aside0.mk hb
       rw [← HENT2.out] at hr HR6'
       obtain ⟨A8', c8', rfl, hcx⟩ := R_len hr
       have HR6 := Aside0.mk HR6'.out.rot.rot
       clear hr hb hg hat hcx q0 HR5' HX5 HB5 HR6'
       have y5 : w6.cell? ⟨bn, x, none⟩ = some (.int .i64 val) := by
        have h1 := HR6.out.num.cell (i := x) (by rw [HNUM2.out, List.length_set, HNL.out]; exact hxn)
        have h2 : gi num2 x = val := by rw [HNUM2.out, gi_set, if_pos ⟨rfl, by rw [HNL.out]; exact hxn⟩, HVAL.out]
        rw [h2] at h1
        exact h1
       go_wp2_with ((with_reducible refine gate_builtin (b := .append) (xs := #[.tmp 80, .tmp 85]) rfl ?_); at_builtin; refine Kd.R_append (Kd.int .i64) (w0 := w) w.heap.size rfl (.tmp 80) (.tmp 85) 32 3 (.int .i64 0) 8 rfl Try.underlying32 info_int rfl (by decide) (by omega) (.slice A10 out.length c10) out val [.int .i64 val] (okr bn (.slice A8' ent2.length c8') (.slice A9' ord2.length c9')) (fun _ => False) rfl rfl rfl (fun _ hk => hk.elim) (HR6.out.fresh) (HR6.out.r3) (HB6.out) (HB6.out.size) (by omega) ?_)
       intro v' w7 hr hb hg hat
       have HR7 := Aside0.mk (HR6.out.grown hr hg hat)
       have HX7 := Aside0.mk ((hg.block gb (lt_of HX6.out) (Kd.R_ne HR6.out.r3 HX6.out (by decide))).trans HX6.out)
       have HB7 := Aside0.mk hb
       obtain ⟨out2, hout2⟩ : ∃ out2, out2 = out ++ [val] := ⟨_, rfl⟩
       rw [← hout2] at hr HR7
       obtain ⟨A10', c10', rfl, hc10'⟩ := R_len hr
       clear hc10' hg hat hb y5 HR6 HX6 HB6
       have HO2 : Aside0 (out2 = cd ++ (j : Int) :: (c ++ [val])) := ⟨by rw [hout2, HOUT.out]; simp⟩
       have hol := HOL.out
       have hol2 : out2.length = out.length + 1 := by rw [hout2]; simp
       have hat2 : cd.length < out2.length := by omega
       have HOL2 : Aside0 (out2.length = cd.length + 1 + (j + 1)) := ⟨by omega⟩
       obtain ⟨g10, rfl, _, hg10a, hg10b, cs10, hcs10⟩ := R_head hr (by omega)
       clear hout2 hol hol2 hr
       obtain ⟨j2, hj2⟩ : ∃ j2, j2 = j + 1 := ⟨_, rfl⟩
       have q3 : IntKind.i64.wrap ((j : Int) + 1) = (j2 : Int) := by rw [IntWalk.i64_in _ (by omega)]; omega
       have HJ2 := Aside0.mk hj2
       have HG10 : Aside0 (w.heap.size ≤ g10) := ⟨hg10a⟩
       have HN10 : Aside0 (gb ≠ g10) := ⟨fun e => by
        have h1 := HX7.out
        rw [e, hcs10] at h1
        injection h1 with h1
        injection h1 with h1 h2
        exact absurd h2 (by decide)⟩
       have z1 : w7.cell? ⟨g10, cd.length, none⟩ = some (.int .i64 (j : Int)) := by
        obtain ⟨ad, e1, e2⟩ := R_cell HR7.out.r3 hat2
        injection e1 with e1
        subst e1
        rw [HO2.out, gi_mid] at e2
        rw [← add_plain]; exact e2
       have z2 : w7.frozen? ⟨g10, cd.length, none⟩ = false := heap_free hcs10 _
       have HR8 : Aside0 (Rows3 (w7.setCell ⟨g10, cd.length, none⟩ (.int .i64 (j2 : Int))) w.heap.size bn num2 (.slice A8' ent2.length c8') ent2 (.slice A9' ord2.length c9') ord2 (.slice (some ⟨g10, 0, none⟩) out2.length c10') (cd ++ (j2 : Int) :: (c ++ [val]))) := ⟨by
        have h1 := HR7.out.put3 cd.length (j2 : Int)
        rw [show out2.set cd.length (j2 : Int) = cd ++ (j2 : Int) :: (c ++ [val]) by rw [HO2.out, set_mid]] at h1
        exact h1⟩
       have HX8 := Aside0.mk (heap_ne (i := cd.length) (v := .int .i64 (j2 : Int)) HX7.out HN10.out)
       have HB8 := Aside0.mk (HB7.out.setCell (p := ⟨g10, cd.length, none⟩) HG10.out (.int .i64 (j2 : Int)))
       clear hcs10 hg10a hg10b hj2
       obtain ⟨out3, hout3⟩ : ∃ out3, out3 = cd ++ (j2 : Int) :: (c ++ [val]) := ⟨_, rfl⟩
       rw [← hout3] at HR8
       have HO3 := Aside0.mk hout3
       have hlen3 : out2.length = out3.length := by rw [hout3, HO2.out]; simp
       have HL3 : Aside0 (out3.length = cd.length + 1 + j2) := ⟨by rw [← hlen3, HOL2.out, HJ2.out]⟩
       rw [hlen3] at HR8 hat2 ⊢
       clear hout3 hlen3 HR7 HX7 HB7 HO2 HOL2
       have z3 : (w7.setCell ⟨g10, cd.length, none⟩ (.int .i64 (j2 : Int))).cell? ⟨gb, 1, none⟩ = some (.slice (some an) M cn) := heap_cell HX8.out rfl
       have hnx := HF.out.hnx q (by rw [← HM.out]; exact hqM)
       obtain ⟨q2, hq2⟩ : ∃ q2 : Nat, gi nx q = (q2 : Int) := ⟨(gi nx q).toNat, by omega⟩
       have hqM2 : q2 < M := by rw [hq2, ← HM.out] at hnx; omega
       have HQ2 : Aside0 (it nx (h : Int) j2 = (q2 : Int)) := ⟨by rw [HJ2.out]; show gi nx (it nx (h : Int) j).toNat = _; rw [HQ.out, Int.toNat_natCast]; exact hq2⟩
       have z4 := C_cell (Kd.C_below HN.out HB8.out) (i := q) (by rw [← HM.out]; exact hqM)
       rw [hq2] at z4
       have hke2 : k < ent2.length := HKE.out
       have z5 : ∃ g8, A8' = some ⟨g8, 0, none⟩ ∧ (w7.setCell ⟨g10, cd.length, none⟩ (.int .i64 (j2 : Int))).cell? ⟨g8, k, none⟩ = some (.int .i64 (h : Int)) := by
        obtain ⟨g8, e1, _⟩ := R_head HR8.out.r1 (by omega)
        obtain ⟨ad, e2, e3⟩ := R_cell HR8.out.r1 hke2
        rw [e1] at e2
        injection e2 with e2
        subst e2
        rw [HEK.out] at e3
        rw [add_plain] at e3
        exact ⟨g8, e1, e3⟩
       obtain ⟨g8, e8, z5⟩ := z5
       subst e8
       clear hnx hq2
       by_cases hend : j2 = per nx (h : Int)
       ·have t9 : ((q2 : Int) == (h : Int)) = true := beq_iff_eq.2 (by
         rw [← HQ2.out, hend]
         exact (per_spec (nx := nx) (h := (h : Int)) (by omega)).1)
        have HEND := Aside0.mk hend
        clear hend hj
        go_wp2_with fail
        clear z1 z2 z3 z4 z5 q3 t9
        go_roundw
        case rel =>
         refine ⟨k + 1, num2, ent2, ord2, out3, _, _, _, _, _, _, by go_num, rfl, rfl, rfl, by have := HEL2.out; omega, ⟨?_⟩, HR8, HX8, HB8, ⟨?_⟩⟩
         ·rw [upto_go (by rw [HU.out]; exact hke), HU.out]
          simp only
          rw [HH.out]
          unfold vert
          simp only
          rw [← HEND.out, HJ2.out, HST.out]
          simp only
          rw [HO3.out, HJ2.out]
         ·have h1 := HL3.out
          have h2 := per_le nx (h : Int)
          have h3 := HCD.out
          have h4 := HEND.out
          have h5 := HM.out
          omega
        case measure => simp [intOf]; omega
       ·have t9 : ((q2 : Int) == (h : Int)) = false := beq_eq_false_iff_ne.2 (fun e => (per_spec (nx := nx) (h := (h : Int)) (by omega)).2 j2 (by have := HJ2.out; omega) (by have := HJ2.out; omega) (by rw [HQ2.out]; exact e))
        have hj2p : j2 < per nx (h : Int) := by have := HJ2.out; omega
        clear hend hj
        go_wp2_with fail
        clear z1 z2 z3 z4 z5 q3 t9
        go_roundw
        case rel => exact ⟨j2, num2, ent2, ord2, c ++ [val], out3, q2, _, _, _, _, _, _, rfl, rfl, rfl, rfl, hj2p, hqM2, HQ2, ⟨by rw [HJ2.out]; exact HST.out⟩, ⟨HO3.out⟩, HL3, HR8, HX8, HB8, ⟨by rw [List.length_append, HCL.out, HJ2.out]; rfl⟩⟩
        case measure => have := HL3.out; have := HOL.out; have := HJ2.out; simp [lenOf]; omega
      ·obtain ⟨val, hval⟩ : ∃ val, val = gi num1 x := ⟨_, rfl⟩
       have hstep := stepH_pos (tos := tos) (s := ⟨num1, ent1, ord1, c⟩) (q := (q : Int)) (by rw [Int.toNat_natCast, HXX.out, Int.toNat_natCast]; exact hneg)
       rw [Int.toNat_natCast, HXX.out, Int.toNat_natCast, ← hval] at hstep
       simp only at hstep
       have HST : Aside0 (turn nx tos ⟨num, ent, ord, []⟩ (h : Int) (j + 1) = ⟨num1, ent1, ord1, c ++ [val]⟩) := ⟨by
        show stepH tos (turn nx tos ⟨num, ent, ord, []⟩ (h : Int) j) (it nx (h : Int) j) = _
        rw [HTU.out, HQ.out]; exact hstep⟩
       have HEK : Aside0 (gi ent1 k = (h : Int)) := ⟨by have := HEKE.out (j + 1); rw [HST.out] at this; exact this⟩
       have HKE : Aside0 (k < ent1.length) := ⟨by have := HELE.out (j + 1); rw [HST.out] at this; exact this⟩
       have HEL2 : Aside0 (k + 1 ≤ ord1.length) := ⟨by have := HKE.out; have := HEL1.out; omega⟩
       rw [← hval] at c1 hneg
       have t1 : decide (val < 0) = false := decide_eq_false hneg
       have y5 := c1
       clear hval hneg hstep
       go_wp2_with ((with_reducible refine gate_builtin (b := .append) (xs := #[.tmp 80, .tmp 85]) rfl ?_); at_builtin; refine Kd.R_append (Kd.int .i64) (w0 := w) w.heap.size rfl (.tmp 80) (.tmp 85) 32 3 (.int .i64 0) 8 rfl Try.underlying32 info_int rfl (by decide) (by omega) (.slice A10 out.length c10) out val [.int .i64 val] (okr bn (.slice A8 ent1.length c8) (.slice A9 ord1.length c9)) (fun _ => False) rfl rfl rfl (fun _ hk => hk.elim) (HR.out.fresh) (HR.out.r3) (HB.out) (HB.out.size) (by omega) ?_)
       intro v' w7 hr hb hg hat
       have HR7 := Aside0.mk (HR.out.grown hr hg hat)
       have HX7 := Aside0.mk ((hg.block gb (lt_of HX.out) (Kd.R_ne HR.out.r3 HX.out (by decide))).trans HX.out)
       have HB7 := Aside0.mk hb
       obtain ⟨out2, hout2⟩ : ∃ out2, out2 = out ++ [val] := ⟨_, rfl⟩
       rw [← hout2] at hr HR7
       obtain ⟨A10', c10', rfl, hc10'⟩ := R_len hr
       clear hc10' hg hat hb y5 HR HX HB
       have HO2 : Aside0 (out2 = cd ++ (j : Int) :: (c ++ [val])) := ⟨by rw [hout2, HOUT.out]; simp⟩
       have hol := HOL.out
       have hol2 : out2.length = out.length + 1 := by rw [hout2]; simp
       have hat2 : cd.length < out2.length := by omega
       have HOL2 : Aside0 (out2.length = cd.length + 1 + (j + 1)) := ⟨by omega⟩
       obtain ⟨g10, rfl, _, hg10a, hg10b, cs10, hcs10⟩ := R_head hr (by omega)
       clear hout2 hol hol2 hr
       obtain ⟨j2, hj2⟩ : ∃ j2, j2 = j + 1 := ⟨_, rfl⟩
       have q3 : IntKind.i64.wrap ((j : Int) + 1) = (j2 : Int) := by rw [IntWalk.i64_in _ (by omega)]; omega
       have HJ2 := Aside0.mk hj2
       have HG10 : Aside0 (w.heap.size ≤ g10) := ⟨hg10a⟩
       have HN10 : Aside0 (gb ≠ g10) := ⟨fun e => by
        have h1 := HX7.out
        rw [e, hcs10] at h1
        injection h1 with h1
        injection h1 with h1 h2
        exact absurd h2 (by decide)⟩
       have z1 : w7.cell? ⟨g10, cd.length, none⟩ = some (.int .i64 (j : Int)) := by
        obtain ⟨ad, e1, e2⟩ := R_cell HR7.out.r3 hat2
        injection e1 with e1
        subst e1
        rw [HO2.out, gi_mid] at e2
        rw [← add_plain]; exact e2
       have z2 : w7.frozen? ⟨g10, cd.length, none⟩ = false := heap_free hcs10 _
       have HR8 : Aside0 (Rows3 (w7.setCell ⟨g10, cd.length, none⟩ (.int .i64 (j2 : Int))) w.heap.size bn num1 (.slice A8 ent1.length c8) ent1 (.slice A9 ord1.length c9) ord1 (.slice (some ⟨g10, 0, none⟩) out2.length c10') (cd ++ (j2 : Int) :: (c ++ [val]))) := ⟨by
        have h1 := HR7.out.put3 cd.length (j2 : Int)
        rw [show out2.set cd.length (j2 : Int) = cd ++ (j2 : Int) :: (c ++ [val]) by rw [HO2.out, set_mid]] at h1
        exact h1⟩
       have HX8 := Aside0.mk (heap_ne (i := cd.length) (v := .int .i64 (j2 : Int)) HX7.out HN10.out)
       have HB8 := Aside0.mk (HB7.out.setCell (p := ⟨g10, cd.length, none⟩) HG10.out (.int .i64 (j2 : Int)))
       clear hcs10 hg10a hg10b hj2
       obtain ⟨out3, hout3⟩ : ∃ out3, out3 = cd ++ (j2 : Int) :: (c ++ [val]) := ⟨_, rfl⟩
       rw [← hout3] at HR8
       have HO3 := Aside0.mk hout3
       have hlen3 : out2.length = out3.length := by rw [hout3, HO2.out]; simp
       have HL3 : Aside0 (out3.length = cd.length + 1 + j2) := ⟨by rw [← hlen3, HOL2.out, HJ2.out]⟩
       rw [hlen3] at HR8 hat2 ⊢
       clear hout3 hlen3 HR7 HX7 HB7 HO2 HOL2
       have z3 : (w7.setCell ⟨g10, cd.length, none⟩ (.int .i64 (j2 : Int))).cell? ⟨gb, 1, none⟩ = some (.slice (some an) M cn) := heap_cell HX8.out rfl
       have hnx := HF.out.hnx q (by rw [← HM.out]; exact hqM)
       obtain ⟨q2, hq2⟩ : ∃ q2 : Nat, gi nx q = (q2 : Int) := ⟨(gi nx q).toNat, by omega⟩
       have hqM2 : q2 < M := by rw [hq2, ← HM.out] at hnx; omega
       have HQ2 : Aside0 (it nx (h : Int) j2 = (q2 : Int)) := ⟨by rw [HJ2.out]; show gi nx (it nx (h : Int) j).toNat = _; rw [HQ.out, Int.toNat_natCast]; exact hq2⟩
       have z4 := C_cell (Kd.C_below HN.out HB8.out) (i := q) (by rw [← HM.out]; exact hqM)
       rw [hq2] at z4
       have hke2 : k < ent1.length := HKE.out
       have z5 : ∃ g8, A8 = some ⟨g8, 0, none⟩ ∧ (w7.setCell ⟨g10, cd.length, none⟩ (.int .i64 (j2 : Int))).cell? ⟨g8, k, none⟩ = some (.int .i64 (h : Int)) := by
        obtain ⟨g8, e1, _⟩ := R_head HR8.out.r1 (by omega)
        obtain ⟨ad, e2, e3⟩ := R_cell HR8.out.r1 hke2
        rw [e1] at e2
        injection e2 with e2
        subst e2
        rw [HEK.out] at e3
        rw [add_plain] at e3
        exact ⟨g8, e1, e3⟩
       obtain ⟨g8, e8, z5⟩ := z5
       subst e8
       clear hnx hq2
       by_cases hend : j2 = per nx (h : Int)
       ·have t9 : ((q2 : Int) == (h : Int)) = true := beq_iff_eq.2 (by
         rw [← HQ2.out, hend]
         exact (per_spec (nx := nx) (h := (h : Int)) (by omega)).1)
        have HEND := Aside0.mk hend
        clear hend hj
        go_wp2_with fail
        clear z1 z2 z3 z4 z5 q3 t9
        go_roundw
        case rel =>
         refine ⟨k + 1, num1, ent1, ord1, out3, _, _, _, _, _, _, by go_num, rfl, rfl, rfl, by have := HEL2.out; omega, ⟨?_⟩, HR8, HX8, HB8, ⟨?_⟩⟩
         ·rw [upto_go (by rw [HU.out]; exact hke), HU.out]
          simp only
          rw [HH.out]
          unfold vert
          simp only
          rw [← HEND.out, HJ2.out, HST.out]
          simp only
          rw [HO3.out, HJ2.out]
         ·have h1 := HL3.out
          have h2 := per_le nx (h : Int)
          have h3 := HCD.out
          have h4 := HEND.out
          have h5 := HM.out
          omega
        case measure => simp [intOf]; omega
       ·have t9 : ((q2 : Int) == (h : Int)) = false := beq_eq_false_iff_ne.2 (fun e => (per_spec (nx := nx) (h := (h : Int)) (by omega)).2 j2 (by have := HJ2.out; omega) (by have := HJ2.out; omega) (by rw [HQ2.out]; exact e))
        have hj2p : j2 < per nx (h : Int) := by have := HJ2.out; omega
        clear hend hj
        go_wp2_with fail
        clear z1 z2 z3 z4 z5 q3 t9
        go_roundw
        case rel => exact ⟨j2, num1, ent1, ord1, c ++ [val], out3, q2, _, _, _, _, _, _, rfl, rfl, rfl, rfl, hj2p, hqM2, HQ2, ⟨by rw [HJ2.out]; exact HST.out⟩, ⟨HO3.out⟩, HL3, HR8, HX8, HB8, ⟨by rw [List.length_append, HCL.out, HJ2.out]; rfl⟩⟩
        case measure => have := HL3.out; have := HOL.out; have := HJ2.out; simp [lenOf]; omega
    ·have hel : ent.length = ord.length := HOK.out.ent
     have hkn : k ≤ n := by have := HOK.out.cnt; simp only at this; omega
     have HEND : Aside0 (all n nx tos (root : Int) = ⟨num, ent, ord, cd⟩) := ⟨by
      have h1 := upto_stop (nx := nx) (tos := tos) (s := s0) (k := k) (by rw [HU.out]; simp only; omega) (n - k)
      rw [show k + (n - k) = n by omega, HU.out] at h1
      rw [HALL.out, h1]⟩
     clear hel hkn
     go_wp2_with fail
     go_ret2
     unfold CodePost
     rw [HEND.out]
     exact ⟨_, _, rfl, Kd.R_mono HR.out.r3 (fun _ h => h.2.2), Kd.R_mono HR.out.r2 (fun _ h => h.2.2), HB.out⟩
end Go.Proofs.Yteeihjpnhjnknaa.Seen
namespace Go.Proofs.Yteeihjpnhjnknaa.Look
open Go.RowKit Go.Proofs.YteeihjpnhjnknaaW.PrintWords Go.Proofs.YteeihjpnhjnknaaW.PrintLast Go.Proofs.YteeihjpnhjnknaaW.PrintMore Go.Proofs.Yteeihjpnhjnknaa.Mem
set_option linter.unusedVariables false
set_option linter.unusedSimpArgs false
def tosAll (es : List (Int × Int)) : List Int := es.flatMap fun e => [e.2, e.1]
def tos (es : List (Int × Int)) (i : Nat) : List Int := tosAll (es.take i) ++ List.replicate (2 * (es.length - i)) 0
theorem tosAll_length (es : List (Int × Int)) : (tosAll es).length = 2 * es.length := by
 induction es with
 | nil => rfl
 | cons e es ih => unfold tosAll at ih ⊢; rw [List.flatMap_cons, List.length_append, ih]; simp; omega
theorem tos_length {es : List (Int × Int)} {i : Nat} (h : i ≤ es.length) : (tos es i).length = 2 * es.length := by
 unfold tos
 rw [List.length_append, tosAll_length, List.length_take, List.length_replicate]
 omega
theorem tos_zero (es : List (Int × Int)) : tos es 0 = List.replicate (2 * es.length) 0 := by unfold tos tosAll; simp
theorem tos_all (es : List (Int × Int)) : tos es es.length = tosAll es := by unfold tos; simp
theorem tos_step {es : List (Int × Int)} {i : Nat} (h : i < es.length) : ((tos es i).set (2 * i) (pe es i).2).set (2 * i + 1) (pe es i).1 = tos es (i + 1) := by
 unfold tos
 have hl : (tosAll (es.take i)).length = 2 * i := by rw [tosAll_length, List.length_take]; omega
 have e1 : tosAll (es.take (i + 1)) = tosAll (es.take i) ++ [(pe es i).2, (pe es i).1] := by
  unfold tosAll
  rw [List.take_succ_eq_append_getElem h, List.flatMap_append]
  simp [pe, List.getD_eq_getElem?_getD, h]
 have e2 : List.replicate (2 * (es.length - i)) (0 : Int) = 0 :: 0 :: List.replicate (2 * (es.length - (i + 1))) 0 := by
  rw [show 2 * (es.length - i) = 2 * (es.length - (i + 1)) + 1 + 1 by omega]; rfl
 rw [e1, e2, List.set_append_right _ _ (by omega), List.set_append_right _ _ (by omega), hl, List.append_assoc]
 simp
def NextSays (nx : List Int) (e : Int) (n : Int) (A : Option Addr) (m c : Nat) (Ar : Option Addr) (lr cr : Nat) (w : World) : Prop := ∀ W, Below w.heap.size w W →
 Calls Try.prog 60 #[.agg #[.int .i64 n, .slice A m c], .slice Ar lr cr] W fun e' w' => ∃ v, e' = .returned (.tuple #[v, .int .i64 e]) ∧ Kd.R (Kd.int .i64) 3 w' W.heap.size (fun _ => True) v nx ∧ Below W.heap.size W w'
def OfSays (k : Int) (n : Int) (A : Option Addr) (m c : Nat) (w : World) : Prop := ∀ W, Below w.heap.size w W →
 Calls Try.prog 61 #[.agg #[.int .i64 n, .slice A m c]] W fun e' w' => ∃ v, e' = .returned (.tuple #[v, .int .i64 k, .int .i64 0]) ∧ Below W.heap.size W w'
def LookPost (n : Int) (nx tl : List Int) (e1 e2 : Int) (w : World) (e : Ending) (w' : World) : Prop := ∃ v1_ v2_ : Value, e = .returned (.tuple #[.agg #[.int .i64 n, v1_, v2_], .int .i64 e1, .int .i64 e2]) ∧ Kd.R (Kd.int .i64) 3 w' w.heap.size (fun k_ => some k_ ≠ (v2_ : Value).ownBlock) v1_ nx ∧ Kd.R (Kd.int .i64) 3 w' w.heap.size (fun k_ => some k_ ≠ (v1_ : Value).ownBlock) v2_ tl ∧ Below w.heap.size w w'
def LookEnd (b : Bool) (n : Int) (nx tl : List Int) (w : World) (e : Ending) (w' : World) : Prop := (b = true → LookPost n nx tl 0 0 w e w') ∧ (b = false → LookPost 0 [] [] 0 210 w e w')
theorem LookPost.no (e1 e2 : Int) {w w' : World} (h : Below w.heap.size w w') : LookPost 0 [] [] e1 e2 w (.returned (.tuple #[.agg #[.int .i64 0, .slice none 0 0, .slice none 0 0], .int .i64 e1, .int .i64 e2])) w' :=
 ⟨_, _, rfl, Kd.R_nil _ _ _ _ _, Kd.R_nil _ _ _ _ _, h⟩
theorem start (n : Int) (A : Option Addr) (m c : Nat) (w : World) : ∃ bg rb w1, (w.alloc (.cells #[.int .i64 n, .slice A m c] 24 (0, 0))).alloc (.cells #[.int .i64 0, .slice none 0 0, .slice none 0 0] 69 (0, 0)) = w1 ∧ bg = w.heap.size ∧ rb = w.heap.size + 1 ∧ Below w.heap.size w w1 ∧ w1.heap[bg]? = some (.cells #[.int .i64 n, .slice A m c] 24 (0, 0)) ∧ w1.heap[rb]? = some (.cells #[.int .i64 0, .slice none 0 0, .slice none 0 0] 69 (0, 0)) := by
 refine ⟨_, _, _, rfl, rfl, rfl, ((Below.refl _ _).alloc (Nat.le_refl _) _).alloc (by simp) _, heap_old (heap_last _ _) _, ?_⟩
 have := heap_last (w.alloc (.cells #[.int .i64 n, .slice A m c] 24 (0, 0))) (.cells #[.int .i64 0, .slice none 0 0, .slice none 0 0] 69 (0, 0))
 simpa using this
set_option maxHeartbeats 2000000 in
set_option maxRecDepth 100000 in
theorem look_bad (nx : List Int) (e : Int) (he : e ≠ 0) (n : Int) (A : Option Addr) (m c : Nat) (Ar : Option Addr) (lr cr : Nat) (w : World) (hn : NextSays nx e n A m c Ar lr cr w) :
  Calls Try.prog 41 #[.agg #[.int .i64 n, .slice A m c], .slice Ar lr cr] w (LookPost 0 [] [] e 0 w) := by
 have HN := Aside0.mk hn
 obtain ⟨bg, rb, w1, hw1, hbg, hrb, hb1, hg1, hr1⟩ := start n A m c w
 have HB := Aside0.mk hb1
 have HR := Aside0.mk hr1
 have HG := Aside0.mk hg1
 have t : (e != 0) = true := bne_iff_ne.2 he
 have HRB := Aside0.mk hrb
 have HBG := Aside0.mk hbg
 have HW := Aside0.mk hw1
 clear hn he hw1 hbg hrb hb1 hg1 hr1
 go_enter Try.func41, Try.ntmps41
 have x0 : ((w.alloc (.cells #[.int .i64 n, .slice A m c] 24 (0, 0))).alloc (.cells #[.int .i64 0, .slice none 0 0, .slice none 0 0] 69 (0, 0))).cell? ⟨w.heap.size, 0, none⟩ = some (.int .i64 n) := by rw [HW.out, ← HBG.out]; exact heap_cell HG.out rfl
 have x1 : ((w.alloc (.cells #[.int .i64 n, .slice A m c] 24 (0, 0))).alloc (.cells #[.int .i64 0, .slice none 0 0, .slice none 0 0] 69 (0, 0))).cell? ⟨w.heap.size, 1, none⟩ = some (.slice A m c) := by rw [HW.out, ← HBG.out]; exact heap_cell HG.out rfl
 go_wp2_with fail
 clear x0 x1
 rw [HW.out, ← HRB.out, ← HBG.out]
 refine (HN.out w1 HB.out).mono ?_
 rintro e' w2 ⟨v, rfl, _, hb⟩
 have HB2 := Aside0.mk (HB.out.trans (hb.mono HB.out.size))
 have HR2 := Aside0.mk ((hb.block _ (lt_of HR.out)).trans HR.out)
 clear hb HB HR HG
 have r0 : w2.cell? ⟨rb, 0, none⟩ = some (.int .i64 0) := heap_cell HR2.out rfl
 have r1 : w2.cell? ⟨rb, 1, none⟩ = some (.slice none 0 0) := heap_cell HR2.out rfl
 have r2 : w2.cell? ⟨rb, 2, none⟩ = some (.slice none 0 0) := heap_cell HR2.out rfl
 have f0 : w2.frozen? ⟨rb, 0, none⟩ = false := heap_free HR2.out 0
 have f1 : w2.frozen? ⟨rb, 1, none⟩ = false := heap_free HR2.out 1
 have f2 : w2.frozen? ⟨rb, 2, none⟩ = false := heap_free HR2.out 2
 go_wp2_with fail
 refine bodyPost_ret (v := .tuple #[.agg #[.int .i64 0, .slice none 0 0, .slice none 0 0], .int .i64 e, .int .i64 0]) (by simp [results, Try.results41, go_sem, r0, r1, r2]) rfl ?_
 refine LookPost.no e 0 ?_
 have hrb := HRB.out
 repeat (first | exact HB2.out | refine Below.setCell ?_ (by simp; omega) _)
structure Made (n : Int) (nx : List Int) (X : Option Addr) (cx : Nat) (w2 w3 : World) (bt pl : Nat) : Prop where
 row : IRow w3 bt (List.replicate nx.length 0)
 plane : w3.heap[pl]? = some (.cells #[.int .i64 n, .slice X nx.length cx, .slice (some ⟨bt, 0, none⟩) nx.length nx.length] 69 (0, 0))
 ne : pl ≠ bt
 tlow : w2.heap.size ≤ bt
 below : Below w2.heap.size w2 w3
theorem made_first (n : Int) (nx : List Int) (X : Option Addr) (cx : Nat) (w2 : World) : Made n nx X cx w2 ((w2.alloc (.cells (madeCells #[.int .i64 0] nx.length) 3 (0, 0))).alloc (.cells #[.int .i64 n, .slice X nx.length cx, .slice (some ⟨w2.heap.size, 0, none⟩) nx.length nx.length] 69 (0, 0))).drew w2.heap.size (w2.heap.size + 1) := by
 rw [made_int]
 have e := heap_last (w2.alloc (.cells (Array.replicate nx.length (Value.int .i64 0)) 3 (0, 0))) (.cells #[.int .i64 n, .slice X nx.length cx, .slice (some ⟨w2.heap.size, 0, none⟩) nx.length nx.length] 69 (0, 0))
 have s : (w2.alloc (.cells (Array.replicate nx.length (Value.int .i64 0)) 3 (0, 0))).heap.size = w2.heap.size + 1 := by simp
 rw [s] at e
 exact ⟨heap_old (IRow.start w2 nx.length) _, e, by omega, by omega, (((Below.refl _ _).alloc (Nat.le_refl _) _).alloc (by omega) _).drew⟩
theorem made_last (n : Int) (nx : List Int) (X : Option Addr) (cx : Nat) (w2 : World) : Made n nx X cx w2 ((w2.alloc (.cells #[.int .i64 n, .slice X nx.length cx, .slice (some ⟨w2.heap.size + 1, 0, none⟩) nx.length nx.length] 69 (0, 0))).alloc (.cells (madeCells #[.int .i64 0] nx.length) 3 (0, 0))).drew (w2.heap.size + 1) w2.heap.size := by
 rw [made_int]
 have e := IRow.start (w2.alloc (.cells #[.int .i64 n, .slice X nx.length cx, .slice (some ⟨w2.heap.size + 1, 0, none⟩) nx.length nx.length] 69 (0, 0))) nx.length
 have s : (w2.alloc (.cells #[.int .i64 n, .slice X nx.length cx, .slice (some ⟨w2.heap.size + 1, 0, none⟩) nx.length nx.length] 69 (0, 0))).heap.size = w2.heap.size + 1 := by simp
 rw [s] at e
 exact ⟨e, heap_old (heap_last _ _) _, by omega, by omega, (((Below.refl _ _).alloc (Nat.le_refl _) _).alloc (by omega) _).drew⟩
set_option maxHeartbeats 4000000 in
set_option maxRecDepth 100000 in
theorem look_ok (nx : List Int) (k : Int) (n : Int) (A : Option Addr) (c : Nat) (es : List (Int × Int)) (Ar : Option Addr) (lr cr : Nat) (w : World) (hn : NextSays nx 0 n A es.length c Ar lr cr w) (ho : OfSays k n A es.length c w) (hp : Pairs w A es) (hm : es.length ≤ 4194304) (hnl : nx.length = 2 * es.length) :
  Calls Try.prog 41 #[.agg #[.int .i64 n, .slice A es.length c], .slice Ar lr cr] w (LookEnd (decide (k = 1 ∧ es.length ≠ 0)) n nx (tosAll es) w) := by
 have HN := Aside0.mk hn
 have HO := Aside0.mk ho
 have HP := Aside0.mk hp
 have HNL := Aside0.mk hnl
 obtain ⟨bg, rb, w1, hw1, hbg, hrb, hb1, hg1, hr1⟩ := start n A es.length c w
 have HB := Aside0.mk hb1
 have HR := Aside0.mk hr1
 have HG := Aside0.mk hg1
 have HRB := Aside0.mk hrb
 have HBG := Aside0.mk hbg
 have HW := Aside0.mk hw1
 clear hn ho hp hnl hw1 hbg hrb hb1 hg1 hr1
 go_enter Try.func41, Try.ntmps41
 have x0 : ((w.alloc (.cells #[.int .i64 n, .slice A es.length c] 24 (0, 0))).alloc (.cells #[.int .i64 0, .slice none 0 0, .slice none 0 0] 69 (0, 0))).cell? ⟨w.heap.size, 0, none⟩ = some (.int .i64 n) := by rw [HW.out, ← HBG.out]; exact heap_cell HG.out rfl
 have x1 : ((w.alloc (.cells #[.int .i64 n, .slice A es.length c] 24 (0, 0))).alloc (.cells #[.int .i64 0, .slice none 0 0, .slice none 0 0] 69 (0, 0))).cell? ⟨w.heap.size, 1, none⟩ = some (.slice A es.length c) := by rw [HW.out, ← HBG.out]; exact heap_cell HG.out rfl
 go_wp2_with fail
 clear x0 x1
 rw [HW.out, ← HRB.out, ← HBG.out]
 refine (HN.out w1 HB.out).mono ?_
 rintro e' w2 ⟨v, rfl, hR, hb⟩
 have HB2 := Aside0.mk (HB.out.trans (hb.mono HB.out.size))
 have HR2 := Aside0.mk ((hb.block _ (lt_of HR.out)).trans HR.out)
 have HG2 := Aside0.mk ((hb.block _ (lt_of HG.out)).trans HG.out)
 have HRL := Aside0.mk (lt_of HR.out)
 have HBL := Aside0.mk HB.out.size
 obtain ⟨X, cx, rfl, hcx, hC⟩ := Kd.R_reads hR
 have HRN := Aside0.mk hR
 clear hb HB HR HG hC hcx hR
 have x0 : w2.cell? ⟨bg, 0, none⟩ = some (.int .i64 n) := heap_cell HG2.out rfl
 have x1 : w2.cell? ⟨bg, 1, none⟩ = some (.slice A es.length c) := heap_cell HG2.out rfl
 have mk := print_make (P := Try.prog) 32 3 .i64 8 Try.underlying32 info_int (by decide) nx.length (by have := HNL.out; omega)
 go_wp2_with fail
 have HGa := fun o => heap_cell (i := 0) (heap_old HG2.out o) rfl
 have y1 := HGa (.cells (madeCells #[.int .i64 0] nx.length) 3 (0, 0))
 have y2 := HGa (.cells #[.int .i64 0, .slice none 0 0, .slice none 0 0] 69 (0, 0))
 have HGb := fun o o' => heap_cell (i := 0) (heap_old (heap_old HG2.out o) o') rfl
 have y3 := HGb (.cells (madeCells #[.int .i64 0] nx.length) 3 (0, 0)) (.cells #[.int .i64 0, .slice none 0 0, .slice none 0 0] 69 (0, 0))
 have y4 := HGb (.cells #[.int .i64 0, .slice none 0 0, .slice none 0 0] 69 (0, 0)) (.cells (madeCells #[.int .i64 0] nx.length) 3 (0, 0))
 clear HGa HGb
 go_region
 ·have hmd := made_first n nx X cx w2
  generalize ((w2.alloc (.cells (madeCells #[.int .i64 0] nx.length) 3 (0, 0))).alloc (.cells #[.int .i64 n, .slice X nx.length cx, .slice (some ⟨w2.heap.size, 0, none⟩) nx.length nx.length] 69 (0, 0))).drew = w3 at hmd ⊢
  obtain ⟨pl, hpl⟩ : ∃ pl, pl = w2.heap.size + 1 := ⟨_, rfl⟩
  rw [← hpl] at hmd ⊢
  obtain ⟨bt, hbt⟩ : ∃ bt, bt = w2.heap.size := ⟨_, rfl⟩
  have hmd : Made n nx X cx w2 w3 bt pl := by rw [hbt]; exact hmd
  rw [← hbt]
  clear hpl hbt
  have HT := Aside0.mk hmd.row
  have HPL := Aside0.mk hmd.plane
  have hne := hmd.ne
  have HTL := Aside0.mk hmd.tlow
  have HBE := Aside0.mk hmd.below
  clear hmd mk y1 y2 y3 y4 x0 x1
  rw [HNL.out, ← tos_zero] at HT
  rw [HNL.out] at HPL
  obtain ⟨L, hL⟩ : ∃ L, L = 2 * es.length := ⟨_, rfl⟩
  rw [← hL] at HPL
  have HLL := Aside0.mk hL
  clear hL
  have x1 : w3.cell? ⟨bg, 1, none⟩ = some (.slice A es.length c) := heap_cell ((HBE.out.block _ (lt_of HG2.out)).trans HG2.out) rfl
  go_wp2_with fail
  clear x1
  go_loopw [35] (fun y wr => ∃ (i : Nat), y = .int .i64 (i : Int) ∧ i ≤ es.length ∧ Aside0 (IRow wr bt (tos es i)) ∧ Aside0 (wr.heap[pl]? = some (.cells #[.int .i64 n, .slice X L cx, .slice (some ⟨bt, 0, none⟩) L L] 69 (0, 0))) ∧ Aside0 (Below w2.heap.size w2 wr)) (fun y _ => es.length - (intOf y).toNat)
  case atStart => exact ⟨0, rfl, by omega, HT, HPL, HBE⟩
  case round =>
   clear HT HPL HBE
   obtain ⟨i, rfl, hi, HT, HPL, HBE⟩ := hrel
   have HB3 : Aside0 (Below w.heap.size w wr) := ⟨HB2.out.trans (HBE.out.mono (by have := HB2.out.size; omega))⟩
   by_cases hlt : i < es.length
   ·obtain ⟨ad, eA, y1, y2⟩ := (HP.out.below HB3.out) i hlt
    subst eA
    obtain ⟨u, hu⟩ : ∃ u, u = (pe es i).1 := ⟨_, rfl⟩
    obtain ⟨v, hv⟩ : ∃ v, v = (pe es i).2 := ⟨_, rfl⟩
    rw [← hu] at y1
    rw [← hv] at y2
    have HST := Aside0.mk (tos_step hlt)
    rw [← hu, ← hv] at HST
    have HLN := Aside0.mk (tos_length hi)
    clear hu hv
    have HT4 : Aside0 (IRow (wr.alloc (.cells #[.int .i64 u, .int .i64 v] 89 (0, 0))) bt (tos es i)) := ⟨heap_old HT.out _⟩
    have HPL4 := Aside0.mk (heap_old HPL.out (.cells #[.int .i64 u, .int .i64 v] 89 (0, 0)))
    have HBE4 := Aside0.mk (HBE.out.alloc HBE.out.size (.cells #[.int .i64 u, .int .i64 v] 89 (0, 0)))
    have HE4 := Aside0.mk (heap_last wr (.cells #[.int .i64 u, .int .i64 v] 89 (0, 0)))
    have hbe : wr.heap.size ≠ bt := by have := lt_of HT.out; omega
    go_wp2_with fail
    clear y1 y2
    generalize wr.alloc (.cells #[.int .i64 u, .int .i64 v] 89 (0, 0)) = w4 at HT4 HPL4 HBE4 HE4 ⊢
    obtain ⟨be, hbe2⟩ : ∃ be, be = wr.heap.size := ⟨_, rfl⟩
    rw [← hbe2] at HE4 hbe ⊢
    clear hbe2 HT HPL HBE HB3
    have hLn := HLN.out
    obtain ⟨j, hj⟩ : ∃ j, j = 2 * i := ⟨_, rfl⟩
    obtain ⟨j1, hj1⟩ : ∃ j1, j1 = 2 * i + 1 := ⟨_, rfl⟩
    rw [← hj1, ← hj] at HST
    have hLL := HLL.out
    have q1 : IntKind.i64.wrap (2 * (i : Int)) = (j : Int) := by rw [IntWalk.i64_in _ (by omega)]; omega
    have q2 : IntKind.i64.wrap ((j : Int) + 1) = (j1 : Int) := by rw [IntWalk.i64_in _ (by omega)]; omega
    have b1 : j < L := by omega
    have b2 : j1 < L := by omega
    have HT5 := Aside0.mk (HT4.out.put j v)
    have c1 : w4.cell? ⟨bt, j, none⟩ = some (.int .i64 (gi (tos es i) j)) := HT4.out.cell (by omega)
    have g1 : w4.frozen? ⟨bt, j, none⟩ = false := HT4.out.free j
    have c2 : (w4.setCell ⟨bt, j, none⟩ (.int .i64 v)).cell? ⟨bt, j1, none⟩ = some (.int .i64 (gi ((tos es i).set j v) j1)) := HT5.out.cell (by rw [List.length_set]; omega)
    have g2 : (w4.setCell ⟨bt, j, none⟩ (.int .i64 v)).frozen? ⟨bt, j1, none⟩ = false := HT5.out.free j1
    have HJ := Aside0.mk hj
    have HJ1 := Aside0.mk hj1
    clear hj hj1 hLn hLL
    refine start_ (n := 17) (S := fun w' => w'.cell? ⟨pl, 2, none⟩ = some (.slice (some ⟨bt, 0, none⟩) L L) ∧ w'.cell? ⟨be, 0, none⟩ = some (.int .i64 u) ∧ w'.cell? ⟨be, 1, none⟩ = some (.int .i64 v)) (ds := [16]) #[false, false, false, false, false, false, false, false, false, false, false, false, false, false, false, false, false] (by kernel_rfl) rfl rfl ⟨heap_cell HPL4.out rfl, heap_cell HE4.out rfl, heap_cell HE4.out rfl⟩ (fun hHeld => ?_)
    refine pure_ (i := 0) (N := some 40) (v := ?_) (a' := ?_) #[true, false, false, false, false, false, false, false, false, false, false, false, false, false, false, false, false] rfl rfl (by kernel_rfl) (fun _ _ _ h => h) (Or.inl ⟨by rfl, ?_⟩) ?_ ?_
    rotate_left
    ·intro w'
     go_simp
     with_reducible rfl
    rotate_left
    ·simp only [Act.put, List.setIfInBounds_toArray, List.set_cons_zero, List.set_cons_succ, i64_w, i32_w]
     rfl
    refine pure_ (i := 2) (N := some 42) (v := ?_) (a' := ?_) #[true, false, true, false, false, false, false, false, false, false, false, false, false, false, false, false, false] rfl rfl (by kernel_rfl) (fun _ _ _ h => h) (Or.inl ⟨by rfl, ?_⟩) ?_ ?_
    rotate_left
    ·intro w'
     go_simp
     with_reducible rfl
    rotate_left
    ·simp only [Act.put, List.setIfInBounds_toArray, List.set_cons_zero, List.set_cons_succ, i64_w, i32_w]
     rfl
    refine pure_ (i := 3) (N := some 43) (v := ?_) (a' := ?_) #[true, false, true, true, false, false, false, false, false, false, false, false, false, false, false, false, false] rfl rfl (by kernel_rfl) (fun _ _ _ h => h) (Or.inl ⟨by rfl, ?_⟩) ?_ ?_
    rotate_left
    ·intro w'
     go_simp
     with_reducible rfl
    rotate_left
    ·simp only [Act.put, List.setIfInBounds_toArray, List.set_cons_zero, List.set_cons_succ, i64_w, i32_w]
     rfl
    refine pure_ (i := 4) (N := some 44) (v := ?_) (a' := ?_) #[true, false, true, true, true, false, false, false, false, false, false, false, false, false, false, false, false] rfl rfl (by kernel_rfl) (fun _ _ _ h => h) (Or.inl ⟨by rfl, ?_⟩) ?_ ?_
    rotate_left
    ·intro w'
     go_simp
     with_reducible rfl
    rotate_left
    ·simp only [Act.put, List.setIfInBounds_toArray, List.set_cons_zero, List.set_cons_succ, i64_w, i32_w]
     rfl
    refine pure_ (i := 6) (N := some 46) (v := ?_) (a' := ?_) #[true, false, true, true, true, false, true, false, false, false, false, false, false, false, false, false, false] rfl rfl (by kernel_rfl) (fun _ _ _ h => h) (Or.inl ⟨by rfl, ?_⟩) ?_ ?_
    rotate_left
    ·intro w'
     go_simp
     with_reducible rfl
    rotate_left
    ·simp only [Act.put, List.setIfInBounds_toArray, List.set_cons_zero, List.set_cons_succ, i64_w, i32_w]
     rfl
    refine pure_ (i := 7) (N := some 47) (v := ?_) (a' := ?_) #[true, false, true, true, true, false, true, true, false, false, false, false, false, false, false, false, false] rfl rfl (by kernel_rfl) (fun _ _ _ h => h) (Or.inl ⟨by rfl, ?_⟩) ?_ ?_
    rotate_left
    ·intro w'
     go_simp
     with_reducible rfl
    rotate_left
    ·simp only [Act.put, List.setIfInBounds_toArray, List.set_cons_zero, List.set_cons_succ, i64_w, i32_w]
     rfl
    refine pure_ (i := 8) (N := some 48) (v := ?_) (a' := ?_) #[true, false, true, true, true, false, true, true, true, false, false, false, false, false, false, false, false] rfl rfl (by kernel_rfl) (fun _ _ _ h => h) (Or.inl ⟨by rfl, ?_⟩) ?_ ?_
    rotate_left
    ·intro w'
     go_simp
     with_reducible rfl
    rotate_left
    ·simp only [Act.put, List.setIfInBounds_toArray, List.set_cons_zero, List.set_cons_succ, i64_w, i32_w]
     rfl
    refine pure_ (i := 9) (N := some 49) (v := ?_) (a' := ?_) #[true, false, true, true, true, false, true, true, true, true, false, false, false, false, false, false, false] rfl rfl (by kernel_rfl) (fun _ _ _ h => h) (Or.inl ⟨by rfl, ?_⟩) ?_ ?_
    rotate_left
    ·intro w'
     go_simp
     with_reducible rfl
    rotate_left
    ·simp only [Act.put, List.setIfInBounds_toArray, List.set_cons_zero, List.set_cons_succ, i64_w, i32_w]
     rfl
    refine pure_ (i := 11) (N := some 51) (v := ?_) (a' := ?_) #[true, false, true, true, true, false, true, true, true, true, false, true, false, false, false, false, false] rfl rfl (by kernel_rfl) (fun _ _ _ h => h) (Or.inl ⟨by rfl, ?_⟩) ?_ ?_
    rotate_left
    ·intro w'
     go_simp
     with_reducible rfl
    rotate_left
    ·simp only [Act.put, List.setIfInBounds_toArray, List.set_cons_zero, List.set_cons_succ, i64_w, i32_w]
     rfl
    refine take_ (i := 1) (N := some 41) (v := ?_) (a' := ?_) #[true, true, true, true, true, false, true, true, true, true, false, true, false, false, false, false, false] rfl rfl (by kernel_rfl) (fun _ _ _ h => h) (Or.inl ⟨by rfl, ?_⟩) hHeld ?_ ?_
    rotate_left
    ·rintro w' ⟨s0, s1, s2⟩
     go_simp
     with_reducible rfl
    rotate_left
    ·simp only [Act.put, List.setIfInBounds_toArray, List.set_cons_zero, List.set_cons_succ, i64_w, i32_w]
     rfl
    refine take_ (i := 5) (N := some 45) (v := ?_) (a' := ?_) #[true, true, true, true, true, true, true, true, true, true, false, true, false, false, false, false, false] rfl rfl (by kernel_rfl) (fun _ _ _ h => h) (Or.inl ⟨by rfl, ?_⟩) hHeld ?_ ?_
    rotate_left
    ·rintro w' ⟨s0, s1, s2⟩
     go_simp
     with_reducible rfl
    rotate_left
    ·simp only [Act.put, List.setIfInBounds_toArray, List.set_cons_zero, List.set_cons_succ, i64_w, i32_w]
     rfl
    refine take_ (i := 10) (N := some 50) (v := ?_) (a' := ?_) #[true, true, true, true, true, true, true, true, true, true, true, true, false, false, false, false, false] rfl rfl (by kernel_rfl) (fun _ _ _ h => h) (Or.inl ⟨by rfl, ?_⟩) hHeld ?_ ?_
    rotate_left
    ·rintro w' ⟨s0, s1, s2⟩
     go_simp
     with_reducible rfl
    rotate_left
    ·simp only [Act.put, List.setIfInBounds_toArray, List.set_cons_zero, List.set_cons_succ, i64_w, i32_w]
     rfl
    refine pure_ (i := 13) (N := some 53) (v := ?_) (a' := ?_) #[true, true, true, true, true, true, true, true, true, true, true, true, false, true, false, false, false] rfl rfl (by kernel_rfl) (fun _ _ _ h => h) (Or.inl ⟨by rfl, ?_⟩) ?_ ?_
    rotate_left
    ·intro w'
     go_simp
     with_reducible rfl
    rotate_left
    ·simp only [Act.put, List.setIfInBounds_toArray, List.set_cons_zero, List.set_cons_succ, i64_w, i32_w]
     rfl
    refine take_ (i := 12) (N := some 52) (v := ?_) (a' := ?_) #[true, true, true, true, true, true, true, true, true, true, true, true, true, true, false, false, false] rfl rfl (by kernel_rfl) (fun _ _ _ h => h) (Or.inl ⟨by rfl, ?_⟩) hHeld ?_ ?_
    rotate_left
    ·rintro w' ⟨s0, s1, s2⟩
     go_simp
     with_reducible rfl
    rotate_left
    ·simp only [Act.put, List.setIfInBounds_toArray, List.set_cons_zero, List.set_cons_succ, i64_w, i32_w]
     rfl
    refine one_ (i := 14) (N := none) #[true, true, true, true, true, true, true, true, true, true, true, true, true, true, true, false, false] rfl rfl (by kernel_rfl) (by decide) (fun K hK => ?_)
    obtain ⟨h1, h2, h3⟩ := hHeld
    refine skip_ (w1 := ?_) (by rfl) rfl ?_ ?_
    rotate_left
    ·go_simp
     rfl
    refine hK.out _ _ ⟨cell_ne h1 _ hne, cell_ne h2 _ hbe, cell_ne h3 _ hbe⟩ (fun hHeld => ?_)
    clear hK K
    refine pure_ (i := 15) (N := some 54) (v := ?_) (a' := ?_) #[true, true, true, true, true, true, true, true, true, true, true, true, true, true, true, true, false] rfl rfl (by kernel_rfl) (fun _ _ _ h => h) (Or.inl ⟨by rfl, ?_⟩) ?_ ?_
    rotate_left
    ·intro w'
     go_simp
     with_reducible rfl
    rotate_left
    ·simp only [Act.put, List.setIfInBounds_toArray, List.set_cons_zero, List.set_cons_succ, i64_w, i32_w]
     rfl
    refine last_ (i := 16) (N := none) #[true, true, true, true, true, true, true, true, true, true, true, true, true, true, true, true, true] rfl rfl (by kernel_rfl) (by decide) (fun K hK => ?_)
    refine skip_ (w1 := ?_) (by rfl) rfl ?_ ?_
    rotate_left
    ·go_simp
     rfl
    refine hK.out _ _ ?_
    clear hK K
    refine done_ (by kernel_rfl) ?_
    go_wp2_with fail
    go_roundw
    case rel => exact ⟨i + 1, by go_num, by omega, ⟨by rw [← HST.out]; exact HT5.out.put j1 u⟩, ⟨heap_ne (heap_ne HPL4.out hne) hne⟩, ⟨by have := HTL.out; exact ((HBE4.out.setCell (by simp; omega) _).setCell (by simp; omega) _).drew⟩⟩
    case measure => simp [intOf]; omega
   ·obtain rfl : i = es.length := by omega
    have x0 : wr.cell? ⟨bg, 0, none⟩ = some (.int .i64 n) := heap_cell ((HBE.out.block _ (lt_of HG2.out)).trans HG2.out) rfl
    have x1 : wr.cell? ⟨bg, 1, none⟩ = some (.slice A es.length c) := heap_cell ((HBE.out.block _ (lt_of HG2.out)).trans HG2.out) rfl
    go_wp2_with fail
    clear x0 x1
    refine (HO.out wr HB3.out).mono ?_
    rintro e' w5 ⟨z, rfl, hb⟩
    have HB5 := Aside0.mk (HB3.out.trans (hb.mono HB3.out.size))
    have HT5 : Aside0 (IRow w5 bt (tos es es.length)) := ⟨(hb.block _ (lt_of HT.out)).trans HT.out⟩
    have HPL5 := Aside0.mk ((hb.block _ (lt_of HPL.out)).trans HPL.out)
    have HBE5 := Aside0.mk (HBE.out.trans (hb.mono HBE.out.size))
    clear hb HT HPL HBE HB3
    have HR5 := Aside0.mk ((HBE5.out.block _ (lt_of HR2.out)).trans HR2.out)
    have x1 : w5.cell? ⟨bg, 1, none⟩ = some (.slice A es.length c) := heap_cell ((HBE5.out.block _ (lt_of HG2.out)).trans HG2.out) rfl
    have r0 : w5.cell? ⟨rb, 0, none⟩ = some (.int .i64 0) := heap_cell HR5.out rfl
    have r1 : w5.cell? ⟨rb, 1, none⟩ = some (.slice none 0 0) := heap_cell HR5.out rfl
    have r2 : w5.cell? ⟨rb, 2, none⟩ = some (.slice none 0 0) := heap_cell HR5.out rfl
    have f0 : w5.frozen? ⟨rb, 0, none⟩ = false := heap_free HR5.out 0
    have f1 : w5.frozen? ⟨rb, 1, none⟩ = false := heap_free HR5.out 1
    have f2 : w5.frozen? ⟨rb, 2, none⟩ = false := heap_free HR5.out 2
    by_cases hk : k = 1
    ·have t1 : (k != 1) = false := bne_eq_false_iff_eq.2 hk
     by_cases hz : es.length = 0
     ·have t2 : ((es.length : Int) == 0) = true := beq_iff_eq.2 (by omega)
      have HIF : Aside0 (¬ (k = 1 ∧ es.length ≠ 0)) := ⟨fun h => h.2 hz⟩
      clear hk hz
      go_wp2_with fail
      refine bodyPost_ret (v := .tuple #[.agg #[.int .i64 0, .slice none 0 0, .slice none 0 0], .int .i64 0, .int .i64 210]) (by simp [results, Try.results41, go_sem, r0, r1, r2]) rfl ?_
      refine ⟨fun h => absurd (of_decide_eq_true h) HIF.out, fun _ => ?_⟩
      refine LookPost.no 0 210 ?_
      have hrb := HRB.out
      repeat (first | exact HB5.out | refine Below.setCell ?_ (by simp; omega) _)
     ·have t2 : ((es.length : Int) == 0) = false := beq_eq_false_iff_ne.2 (by omega)
      have HIF : Aside0 (k = 1 ∧ es.length ≠ 0) := ⟨⟨hk, hz⟩⟩
      have p0 : w5.cell? ⟨pl, 0, none⟩ = some (.int .i64 n) := heap_cell HPL5.out rfl
      have p1 : w5.cell? ⟨pl, 1, none⟩ = some (.slice X L cx) := heap_cell HPL5.out rfl
      have p2 : w5.cell? ⟨pl, 2, none⟩ = some (.slice (some ⟨bt, 0, none⟩) L L) := heap_cell HPL5.out rfl
      clear hk hz
      go_wp2_with fail
      have hrb := HRB.out
      have hrt : rb ≠ bt := by have := lt_of HR2.out; have := HTL.out; omega
      refine bodyPost_ret (v := .tuple #[.agg #[.int .i64 n, .slice X L cx, .slice (some ⟨bt, 0, none⟩) L L], .int .i64 0, .int .i64 0]) (by simp [results, Try.results41, go_sem, r0, r1, r2]) rfl ?_
      refine ⟨fun _ => ?_, fun h => absurd HIF.out (of_decide_eq_false h)⟩
      have hLn : L = nx.length := by rw [HLL.out, HNL.out]
      have htl := HTL.out
      have hrl := HRL.out
      have hbl := HBL.out
      rw [hLn]
      have k1 := Kd.R_below (Kd.R_mono (ok' := fun k => w1.heap.size ≤ k ∧ k < w2.heap.size) (Kd.R_bound HRN.out) (fun k hk => ⟨hk.2.1, hk.2.2.1⟩)) HBE5.out
      have k2 := Kd.R_lower (Kd.R_far (Kd.R_far (Kd.R_far k1 (p := ⟨rb, 0, none⟩) (fun k hk => by simp only; omega) (.int .i64 n)) (p := ⟨rb, 1, none⟩) (fun k hk => by simp only; omega) (.slice X nx.length cx)) (p := ⟨rb, 2, none⟩) (fun k hk => by simp only; omega) (.slice (some ⟨bt, 0, none⟩) nx.length nx.length)) hbl
      have k3 : IRow (((w5.setCell ⟨rb, 0, none⟩ (.int .i64 n)).setCell ⟨rb, 1, none⟩ (.slice X nx.length cx)).setCell ⟨rb, 2, none⟩ (.slice (some ⟨bt, 0, none⟩) nx.length nx.length)) bt (tosAll es) := by
       have h := HT5.out
       rw [tos_all] at h
       exact heap_ne (heap_ne (heap_ne h (Ne.symm hrt)) (Ne.symm hrt)) (Ne.symm hrt)
      have htal : nx.length = (tosAll es).length := by rw [tosAll_length, HNL.out]
      have k4 := IRow.own (base := w.heap.size) (ok := fun k => some k ≠ (Value.slice X nx.length cx).ownBlock) k3 (by have := HB2.out.size; omega) (by rw [tosAll_length]; omega) (fun e => by
       have := Kd.R_lt HRN.out _ e.symm
       omega)
      rw [← htal] at k4
      refine ⟨_, _, rfl, Kd.R_mono k2 (fun k hk e => ?_), k4, ?_⟩
      ·have : k = bt := by simpa [Value.ownBlock] using e
       omega
      ·repeat (first | exact HB5.out | refine Below.setCell ?_ (by simp; omega) _)
    ·have t1 : (k != 1) = true := bne_iff_ne.2 hk
     have HIF : Aside0 (¬ (k = 1 ∧ es.length ≠ 0)) := ⟨fun h => hk h.1⟩
     clear hk
     go_wp2_with fail
     refine bodyPost_ret (v := .tuple #[.agg #[.int .i64 0, .slice none 0 0, .slice none 0 0], .int .i64 0, .int .i64 210]) (by simp [results, Try.results41, go_sem, r0, r1, r2]) rfl ?_
     refine ⟨fun h => absurd (of_decide_eq_true h) HIF.out, fun _ => ?_⟩
     refine LookPost.no 0 210 ?_
     have hrb := HRB.out
     repeat (first | exact HB5.out | refine Below.setCell ?_ (by simp; omega) _)
 ·have hmd := made_last n nx X cx w2
  generalize ((w2.alloc (.cells #[.int .i64 n, .slice X nx.length cx, .slice (some ⟨w2.heap.size + 1, 0, none⟩) nx.length nx.length] 69 (0, 0))).alloc (.cells (madeCells #[.int .i64 0] nx.length) 3 (0, 0))).drew = w3 at hmd ⊢
  obtain ⟨bt, hbt⟩ : ∃ bt, bt = w2.heap.size + 1 := ⟨_, rfl⟩
  rw [← hbt] at hmd ⊢
  obtain ⟨pl, hpl⟩ : ∃ pl, pl = w2.heap.size := ⟨_, rfl⟩
  have hmd : Made n nx X cx w2 w3 bt pl := by rw [hpl]; exact hmd
  rw [← hpl]
  clear hpl hbt
  have HT := Aside0.mk hmd.row
  have HPL := Aside0.mk hmd.plane
  have hne := hmd.ne
  have HTL := Aside0.mk hmd.tlow
  have HBE := Aside0.mk hmd.below
  clear hmd mk y1 y2 y3 y4 x0 x1
  rw [HNL.out, ← tos_zero] at HT
  rw [HNL.out] at HPL
  obtain ⟨L, hL⟩ : ∃ L, L = 2 * es.length := ⟨_, rfl⟩
  rw [← hL] at HPL
  have HLL := Aside0.mk hL
  clear hL
  have x1 : w3.cell? ⟨bg, 1, none⟩ = some (.slice A es.length c) := heap_cell ((HBE.out.block _ (lt_of HG2.out)).trans HG2.out) rfl
  go_wp2_with fail
  clear x1
  go_loopw [35] (fun y wr => ∃ (i : Nat), y = .int .i64 (i : Int) ∧ i ≤ es.length ∧ Aside0 (IRow wr bt (tos es i)) ∧ Aside0 (wr.heap[pl]? = some (.cells #[.int .i64 n, .slice X L cx, .slice (some ⟨bt, 0, none⟩) L L] 69 (0, 0))) ∧ Aside0 (Below w2.heap.size w2 wr)) (fun y _ => es.length - (intOf y).toNat)
  case atStart => exact ⟨0, rfl, by omega, HT, HPL, HBE⟩
  case round =>
   clear HT HPL HBE
   obtain ⟨i, rfl, hi, HT, HPL, HBE⟩ := hrel
   have HB3 : Aside0 (Below w.heap.size w wr) := ⟨HB2.out.trans (HBE.out.mono (by have := HB2.out.size; omega))⟩
   by_cases hlt : i < es.length
   ·obtain ⟨ad, eA, y1, y2⟩ := (HP.out.below HB3.out) i hlt
    subst eA
    obtain ⟨u, hu⟩ : ∃ u, u = (pe es i).1 := ⟨_, rfl⟩
    obtain ⟨v, hv⟩ : ∃ v, v = (pe es i).2 := ⟨_, rfl⟩
    rw [← hu] at y1
    rw [← hv] at y2
    have HST := Aside0.mk (tos_step hlt)
    rw [← hu, ← hv] at HST
    have HLN := Aside0.mk (tos_length hi)
    clear hu hv
    have HT4 : Aside0 (IRow (wr.alloc (.cells #[.int .i64 u, .int .i64 v] 89 (0, 0))) bt (tos es i)) := ⟨heap_old HT.out _⟩
    have HPL4 := Aside0.mk (heap_old HPL.out (.cells #[.int .i64 u, .int .i64 v] 89 (0, 0)))
    have HBE4 := Aside0.mk (HBE.out.alloc HBE.out.size (.cells #[.int .i64 u, .int .i64 v] 89 (0, 0)))
    have HE4 := Aside0.mk (heap_last wr (.cells #[.int .i64 u, .int .i64 v] 89 (0, 0)))
    have hbe : wr.heap.size ≠ bt := by have := lt_of HT.out; omega
    go_wp2_with fail
    clear y1 y2
    generalize wr.alloc (.cells #[.int .i64 u, .int .i64 v] 89 (0, 0)) = w4 at HT4 HPL4 HBE4 HE4 ⊢
    obtain ⟨be, hbe2⟩ : ∃ be, be = wr.heap.size := ⟨_, rfl⟩
    rw [← hbe2] at HE4 hbe ⊢
    clear hbe2 HT HPL HBE HB3
    have hLn := HLN.out
    obtain ⟨j, hj⟩ : ∃ j, j = 2 * i := ⟨_, rfl⟩
    obtain ⟨j1, hj1⟩ : ∃ j1, j1 = 2 * i + 1 := ⟨_, rfl⟩
    rw [← hj1, ← hj] at HST
    have hLL := HLL.out
    have q1 : IntKind.i64.wrap (2 * (i : Int)) = (j : Int) := by rw [IntWalk.i64_in _ (by omega)]; omega
    have q2 : IntKind.i64.wrap ((j : Int) + 1) = (j1 : Int) := by rw [IntWalk.i64_in _ (by omega)]; omega
    have b1 : j < L := by omega
    have b2 : j1 < L := by omega
    have HT5 := Aside0.mk (HT4.out.put j v)
    have c1 : w4.cell? ⟨bt, j, none⟩ = some (.int .i64 (gi (tos es i) j)) := HT4.out.cell (by omega)
    have g1 : w4.frozen? ⟨bt, j, none⟩ = false := HT4.out.free j
    have c2 : (w4.setCell ⟨bt, j, none⟩ (.int .i64 v)).cell? ⟨bt, j1, none⟩ = some (.int .i64 (gi ((tos es i).set j v) j1)) := HT5.out.cell (by rw [List.length_set]; omega)
    have g2 : (w4.setCell ⟨bt, j, none⟩ (.int .i64 v)).frozen? ⟨bt, j1, none⟩ = false := HT5.out.free j1
    have HJ := Aside0.mk hj
    have HJ1 := Aside0.mk hj1
    clear hj hj1 hLn hLL
    refine start_ (n := 17) (S := fun w' => w'.cell? ⟨pl, 2, none⟩ = some (.slice (some ⟨bt, 0, none⟩) L L) ∧ w'.cell? ⟨be, 0, none⟩ = some (.int .i64 u) ∧ w'.cell? ⟨be, 1, none⟩ = some (.int .i64 v)) (ds := [16]) #[false, false, false, false, false, false, false, false, false, false, false, false, false, false, false, false, false] (by kernel_rfl) rfl rfl ⟨heap_cell HPL4.out rfl, heap_cell HE4.out rfl, heap_cell HE4.out rfl⟩ (fun hHeld => ?_)
    refine pure_ (i := 0) (N := some 40) (v := ?_) (a' := ?_) #[true, false, false, false, false, false, false, false, false, false, false, false, false, false, false, false, false] rfl rfl (by kernel_rfl) (fun _ _ _ h => h) (Or.inl ⟨by rfl, ?_⟩) ?_ ?_
    rotate_left
    ·intro w'
     go_simp
     with_reducible rfl
    rotate_left
    ·simp only [Act.put, List.setIfInBounds_toArray, List.set_cons_zero, List.set_cons_succ, i64_w, i32_w]
     rfl
    refine pure_ (i := 2) (N := some 42) (v := ?_) (a' := ?_) #[true, false, true, false, false, false, false, false, false, false, false, false, false, false, false, false, false] rfl rfl (by kernel_rfl) (fun _ _ _ h => h) (Or.inl ⟨by rfl, ?_⟩) ?_ ?_
    rotate_left
    ·intro w'
     go_simp
     with_reducible rfl
    rotate_left
    ·simp only [Act.put, List.setIfInBounds_toArray, List.set_cons_zero, List.set_cons_succ, i64_w, i32_w]
     rfl
    refine pure_ (i := 3) (N := some 43) (v := ?_) (a' := ?_) #[true, false, true, true, false, false, false, false, false, false, false, false, false, false, false, false, false] rfl rfl (by kernel_rfl) (fun _ _ _ h => h) (Or.inl ⟨by rfl, ?_⟩) ?_ ?_
    rotate_left
    ·intro w'
     go_simp
     with_reducible rfl
    rotate_left
    ·simp only [Act.put, List.setIfInBounds_toArray, List.set_cons_zero, List.set_cons_succ, i64_w, i32_w]
     rfl
    refine pure_ (i := 4) (N := some 44) (v := ?_) (a' := ?_) #[true, false, true, true, true, false, false, false, false, false, false, false, false, false, false, false, false] rfl rfl (by kernel_rfl) (fun _ _ _ h => h) (Or.inl ⟨by rfl, ?_⟩) ?_ ?_
    rotate_left
    ·intro w'
     go_simp
     with_reducible rfl
    rotate_left
    ·simp only [Act.put, List.setIfInBounds_toArray, List.set_cons_zero, List.set_cons_succ, i64_w, i32_w]
     rfl
    refine pure_ (i := 6) (N := some 46) (v := ?_) (a' := ?_) #[true, false, true, true, true, false, true, false, false, false, false, false, false, false, false, false, false] rfl rfl (by kernel_rfl) (fun _ _ _ h => h) (Or.inl ⟨by rfl, ?_⟩) ?_ ?_
    rotate_left
    ·intro w'
     go_simp
     with_reducible rfl
    rotate_left
    ·simp only [Act.put, List.setIfInBounds_toArray, List.set_cons_zero, List.set_cons_succ, i64_w, i32_w]
     rfl
    refine pure_ (i := 7) (N := some 47) (v := ?_) (a' := ?_) #[true, false, true, true, true, false, true, true, false, false, false, false, false, false, false, false, false] rfl rfl (by kernel_rfl) (fun _ _ _ h => h) (Or.inl ⟨by rfl, ?_⟩) ?_ ?_
    rotate_left
    ·intro w'
     go_simp
     with_reducible rfl
    rotate_left
    ·simp only [Act.put, List.setIfInBounds_toArray, List.set_cons_zero, List.set_cons_succ, i64_w, i32_w]
     rfl
    refine pure_ (i := 8) (N := some 48) (v := ?_) (a' := ?_) #[true, false, true, true, true, false, true, true, true, false, false, false, false, false, false, false, false] rfl rfl (by kernel_rfl) (fun _ _ _ h => h) (Or.inl ⟨by rfl, ?_⟩) ?_ ?_
    rotate_left
    ·intro w'
     go_simp
     with_reducible rfl
    rotate_left
    ·simp only [Act.put, List.setIfInBounds_toArray, List.set_cons_zero, List.set_cons_succ, i64_w, i32_w]
     rfl
    refine pure_ (i := 9) (N := some 49) (v := ?_) (a' := ?_) #[true, false, true, true, true, false, true, true, true, true, false, false, false, false, false, false, false] rfl rfl (by kernel_rfl) (fun _ _ _ h => h) (Or.inl ⟨by rfl, ?_⟩) ?_ ?_
    rotate_left
    ·intro w'
     go_simp
     with_reducible rfl
    rotate_left
    ·simp only [Act.put, List.setIfInBounds_toArray, List.set_cons_zero, List.set_cons_succ, i64_w, i32_w]
     rfl
    refine pure_ (i := 11) (N := some 51) (v := ?_) (a' := ?_) #[true, false, true, true, true, false, true, true, true, true, false, true, false, false, false, false, false] rfl rfl (by kernel_rfl) (fun _ _ _ h => h) (Or.inl ⟨by rfl, ?_⟩) ?_ ?_
    rotate_left
    ·intro w'
     go_simp
     with_reducible rfl
    rotate_left
    ·simp only [Act.put, List.setIfInBounds_toArray, List.set_cons_zero, List.set_cons_succ, i64_w, i32_w]
     rfl
    refine take_ (i := 1) (N := some 41) (v := ?_) (a' := ?_) #[true, true, true, true, true, false, true, true, true, true, false, true, false, false, false, false, false] rfl rfl (by kernel_rfl) (fun _ _ _ h => h) (Or.inl ⟨by rfl, ?_⟩) hHeld ?_ ?_
    rotate_left
    ·rintro w' ⟨s0, s1, s2⟩
     go_simp
     with_reducible rfl
    rotate_left
    ·simp only [Act.put, List.setIfInBounds_toArray, List.set_cons_zero, List.set_cons_succ, i64_w, i32_w]
     rfl
    refine take_ (i := 5) (N := some 45) (v := ?_) (a' := ?_) #[true, true, true, true, true, true, true, true, true, true, false, true, false, false, false, false, false] rfl rfl (by kernel_rfl) (fun _ _ _ h => h) (Or.inl ⟨by rfl, ?_⟩) hHeld ?_ ?_
    rotate_left
    ·rintro w' ⟨s0, s1, s2⟩
     go_simp
     with_reducible rfl
    rotate_left
    ·simp only [Act.put, List.setIfInBounds_toArray, List.set_cons_zero, List.set_cons_succ, i64_w, i32_w]
     rfl
    refine take_ (i := 10) (N := some 50) (v := ?_) (a' := ?_) #[true, true, true, true, true, true, true, true, true, true, true, true, false, false, false, false, false] rfl rfl (by kernel_rfl) (fun _ _ _ h => h) (Or.inl ⟨by rfl, ?_⟩) hHeld ?_ ?_
    rotate_left
    ·rintro w' ⟨s0, s1, s2⟩
     go_simp
     with_reducible rfl
    rotate_left
    ·simp only [Act.put, List.setIfInBounds_toArray, List.set_cons_zero, List.set_cons_succ, i64_w, i32_w]
     rfl
    refine pure_ (i := 13) (N := some 53) (v := ?_) (a' := ?_) #[true, true, true, true, true, true, true, true, true, true, true, true, false, true, false, false, false] rfl rfl (by kernel_rfl) (fun _ _ _ h => h) (Or.inl ⟨by rfl, ?_⟩) ?_ ?_
    rotate_left
    ·intro w'
     go_simp
     with_reducible rfl
    rotate_left
    ·simp only [Act.put, List.setIfInBounds_toArray, List.set_cons_zero, List.set_cons_succ, i64_w, i32_w]
     rfl
    refine take_ (i := 12) (N := some 52) (v := ?_) (a' := ?_) #[true, true, true, true, true, true, true, true, true, true, true, true, true, true, false, false, false] rfl rfl (by kernel_rfl) (fun _ _ _ h => h) (Or.inl ⟨by rfl, ?_⟩) hHeld ?_ ?_
    rotate_left
    ·rintro w' ⟨s0, s1, s2⟩
     go_simp
     with_reducible rfl
    rotate_left
    ·simp only [Act.put, List.setIfInBounds_toArray, List.set_cons_zero, List.set_cons_succ, i64_w, i32_w]
     rfl
    refine one_ (i := 14) (N := none) #[true, true, true, true, true, true, true, true, true, true, true, true, true, true, true, false, false] rfl rfl (by kernel_rfl) (by decide) (fun K hK => ?_)
    obtain ⟨h1, h2, h3⟩ := hHeld
    refine skip_ (w1 := ?_) (by rfl) rfl ?_ ?_
    rotate_left
    ·go_simp
     rfl
    refine hK.out _ _ ⟨cell_ne h1 _ hne, cell_ne h2 _ hbe, cell_ne h3 _ hbe⟩ (fun hHeld => ?_)
    clear hK K
    refine pure_ (i := 15) (N := some 54) (v := ?_) (a' := ?_) #[true, true, true, true, true, true, true, true, true, true, true, true, true, true, true, true, false] rfl rfl (by kernel_rfl) (fun _ _ _ h => h) (Or.inl ⟨by rfl, ?_⟩) ?_ ?_
    rotate_left
    ·intro w'
     go_simp
     with_reducible rfl
    rotate_left
    ·simp only [Act.put, List.setIfInBounds_toArray, List.set_cons_zero, List.set_cons_succ, i64_w, i32_w]
     rfl
    refine last_ (i := 16) (N := none) #[true, true, true, true, true, true, true, true, true, true, true, true, true, true, true, true, true] rfl rfl (by kernel_rfl) (by decide) (fun K hK => ?_)
    refine skip_ (w1 := ?_) (by rfl) rfl ?_ ?_
    rotate_left
    ·go_simp
     rfl
    refine hK.out _ _ ?_
    clear hK K
    refine done_ (by kernel_rfl) ?_
    go_wp2_with fail
    go_roundw
    case rel => exact ⟨i + 1, by go_num, by omega, ⟨by rw [← HST.out]; exact HT5.out.put j1 u⟩, ⟨heap_ne (heap_ne HPL4.out hne) hne⟩, ⟨by have := HTL.out; exact ((HBE4.out.setCell (by simp; omega) _).setCell (by simp; omega) _).drew⟩⟩
    case measure => simp [intOf]; omega
   ·obtain rfl : i = es.length := by omega
    have x0 : wr.cell? ⟨bg, 0, none⟩ = some (.int .i64 n) := heap_cell ((HBE.out.block _ (lt_of HG2.out)).trans HG2.out) rfl
    have x1 : wr.cell? ⟨bg, 1, none⟩ = some (.slice A es.length c) := heap_cell ((HBE.out.block _ (lt_of HG2.out)).trans HG2.out) rfl
    go_wp2_with fail
    clear x0 x1
    refine (HO.out wr HB3.out).mono ?_
    rintro e' w5 ⟨z, rfl, hb⟩
    have HB5 := Aside0.mk (HB3.out.trans (hb.mono HB3.out.size))
    have HT5 : Aside0 (IRow w5 bt (tos es es.length)) := ⟨(hb.block _ (lt_of HT.out)).trans HT.out⟩
    have HPL5 := Aside0.mk ((hb.block _ (lt_of HPL.out)).trans HPL.out)
    have HBE5 := Aside0.mk (HBE.out.trans (hb.mono HBE.out.size))
    clear hb HT HPL HBE HB3
    have HR5 := Aside0.mk ((HBE5.out.block _ (lt_of HR2.out)).trans HR2.out)
    have x1 : w5.cell? ⟨bg, 1, none⟩ = some (.slice A es.length c) := heap_cell ((HBE5.out.block _ (lt_of HG2.out)).trans HG2.out) rfl
    have r0 : w5.cell? ⟨rb, 0, none⟩ = some (.int .i64 0) := heap_cell HR5.out rfl
    have r1 : w5.cell? ⟨rb, 1, none⟩ = some (.slice none 0 0) := heap_cell HR5.out rfl
    have r2 : w5.cell? ⟨rb, 2, none⟩ = some (.slice none 0 0) := heap_cell HR5.out rfl
    have f0 : w5.frozen? ⟨rb, 0, none⟩ = false := heap_free HR5.out 0
    have f1 : w5.frozen? ⟨rb, 1, none⟩ = false := heap_free HR5.out 1
    have f2 : w5.frozen? ⟨rb, 2, none⟩ = false := heap_free HR5.out 2
    by_cases hk : k = 1
    ·have t1 : (k != 1) = false := bne_eq_false_iff_eq.2 hk
     by_cases hz : es.length = 0
     ·have t2 : ((es.length : Int) == 0) = true := beq_iff_eq.2 (by omega)
      have HIF : Aside0 (¬ (k = 1 ∧ es.length ≠ 0)) := ⟨fun h => h.2 hz⟩
      clear hk hz
      go_wp2_with fail
      refine bodyPost_ret (v := .tuple #[.agg #[.int .i64 0, .slice none 0 0, .slice none 0 0], .int .i64 0, .int .i64 210]) (by simp [results, Try.results41, go_sem, r0, r1, r2]) rfl ?_
      refine ⟨fun h => absurd (of_decide_eq_true h) HIF.out, fun _ => ?_⟩
      refine LookPost.no 0 210 ?_
      have hrb := HRB.out
      repeat (first | exact HB5.out | refine Below.setCell ?_ (by simp; omega) _)
     ·have t2 : ((es.length : Int) == 0) = false := beq_eq_false_iff_ne.2 (by omega)
      have HIF : Aside0 (k = 1 ∧ es.length ≠ 0) := ⟨⟨hk, hz⟩⟩
      have p0 : w5.cell? ⟨pl, 0, none⟩ = some (.int .i64 n) := heap_cell HPL5.out rfl
      have p1 : w5.cell? ⟨pl, 1, none⟩ = some (.slice X L cx) := heap_cell HPL5.out rfl
      have p2 : w5.cell? ⟨pl, 2, none⟩ = some (.slice (some ⟨bt, 0, none⟩) L L) := heap_cell HPL5.out rfl
      clear hk hz
      go_wp2_with fail
      have hrb := HRB.out
      have hrt : rb ≠ bt := by have := lt_of HR2.out; have := HTL.out; omega
      refine bodyPost_ret (v := .tuple #[.agg #[.int .i64 n, .slice X L cx, .slice (some ⟨bt, 0, none⟩) L L], .int .i64 0, .int .i64 0]) (by simp [results, Try.results41, go_sem, r0, r1, r2]) rfl ?_
      refine ⟨fun _ => ?_, fun h => absurd HIF.out (of_decide_eq_false h)⟩
      have hLn : L = nx.length := by rw [HLL.out, HNL.out]
      have htl := HTL.out
      have hrl := HRL.out
      have hbl := HBL.out
      rw [hLn]
      have k1 := Kd.R_below (Kd.R_mono (ok' := fun k => w1.heap.size ≤ k ∧ k < w2.heap.size) (Kd.R_bound HRN.out) (fun k hk => ⟨hk.2.1, hk.2.2.1⟩)) HBE5.out
      have k2 := Kd.R_lower (Kd.R_far (Kd.R_far (Kd.R_far k1 (p := ⟨rb, 0, none⟩) (fun k hk => by simp only; omega) (.int .i64 n)) (p := ⟨rb, 1, none⟩) (fun k hk => by simp only; omega) (.slice X nx.length cx)) (p := ⟨rb, 2, none⟩) (fun k hk => by simp only; omega) (.slice (some ⟨bt, 0, none⟩) nx.length nx.length)) hbl
      have k3 : IRow (((w5.setCell ⟨rb, 0, none⟩ (.int .i64 n)).setCell ⟨rb, 1, none⟩ (.slice X nx.length cx)).setCell ⟨rb, 2, none⟩ (.slice (some ⟨bt, 0, none⟩) nx.length nx.length)) bt (tosAll es) := by
       have h := HT5.out
       rw [tos_all] at h
       exact heap_ne (heap_ne (heap_ne h (Ne.symm hrt)) (Ne.symm hrt)) (Ne.symm hrt)
      have htal : nx.length = (tosAll es).length := by rw [tosAll_length, HNL.out]
      have k4 := IRow.own (base := w.heap.size) (ok := fun k => some k ≠ (Value.slice X nx.length cx).ownBlock) k3 (by have := HB2.out.size; omega) (by rw [tosAll_length]; omega) (fun e => by
       have := Kd.R_lt HRN.out _ e.symm
       omega)
      rw [← htal] at k4
      refine ⟨_, _, rfl, Kd.R_mono k2 (fun k hk e => ?_), k4, ?_⟩
      ·have : k = bt := by simpa [Value.ownBlock] using e
       omega
      ·repeat (first | exact HB5.out | refine Below.setCell ?_ (by simp; omega) _)
    ·have t1 : (k != 1) = true := bne_iff_ne.2 hk
     have HIF : Aside0 (¬ (k = 1 ∧ es.length ≠ 0)) := ⟨fun h => hk h.1⟩
     clear hk
     go_wp2_with fail
     refine bodyPost_ret (v := .tuple #[.agg #[.int .i64 0, .slice none 0 0, .slice none 0 0], .int .i64 0, .int .i64 210]) (by simp [results, Try.results41, go_sem, r0, r1, r2]) rfl ?_
     refine ⟨fun h => absurd (of_decide_eq_true h) HIF.out, fun _ => ?_⟩
     refine LookPost.no 0 210 ?_
     have hrb := HRB.out
     repeat (first | exact HB5.out | refine Below.setCell ?_ (by simp; omega) _)
end Go.Proofs.Yteeihjpnhjnknaa.Look
