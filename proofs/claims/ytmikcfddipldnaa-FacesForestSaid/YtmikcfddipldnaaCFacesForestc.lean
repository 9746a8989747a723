/- DERIVED. Texts of this seat, one behind the other: lemmas and walks that the statement FacesForest needs. No condition. -/
import Derived.Test.YtmikcfddipldnaaCFacesForestb
import Derived.Deep.Onto
import Derived.Deep.QuietTactic
import Derived.BigQuiet
import Derived.StillTailTactics
import Derived.Maps.Keyed
import Derived.WideKeyArr
import Derived.WideKeyElems
import Derived.WideKeyPair
import Derived.Maps.RangeRun
namespace Go.Proofs.Ytmikcfddipldnaa.Mk
open Go.RowKit Go.Proofs.YtmikcfddipldnaaW.PrintWords Go.Proofs.YtmikcfddipldnaaW.PrintLast Go.Proofs.YtmikcfddipldnaaW.PrintMore Go.Proofs.Ytmikcfddipldnaa.Mem
set_option linter.unusedVariables false
set_option linter.unusedSimpArgs false
def lessB (x y : Int × Int) : Bool := decide (x.1 < y.1) || (x.1 == y.1 && decide (x.2 < y.2))
def kp : Kd (Int × Int) where
 sz := 2
 E := []
 K := fun _ x cs => cs = [.int .i64 x.1, .int .i64 x.2]
 M := fun _ _ _ x cs => cs = [.int .i64 x.1, .int .i64 x.2]
 K_len := fun h => by rw [h]; rfl
 K_one := fun h => by rw [h]; intro u hu; simp only [List.mem_cons, List.not_mem_nil, or_false] at hu; rcases hu with rfl | rfl <;> rfl
 K_below := fun _ h => h
 K_of_M := fun h => h
 M_mono := fun _ h => h
 M_bound := fun h => h
 M_move := fun _ h => h
 M_lower := fun _ h => h
def PR (w : World) (A : Option Addr) (l : List (Int × Int)) : Prop := ∀ i, i < l.length → ∃ g, A = some ⟨g, 0, none⟩ ∧ w.cell? ⟨g, i * 2, none⟩ = some (.int .i64 (pe l i).1) ∧ w.cell? ⟨g, i * 2 + 1, none⟩ = some (.int .i64 (pe l i).2)
theorem PR.below {w w' : World} {A : Option Addr} {l : List (Int × Int)} (h : PR w A l) (hb : Below w.heap.size w w') : PR w' A l := fun i hi => by
 obtain ⟨g, e, h1, h2⟩ := h i hi
 exact ⟨g, e, (hb.cell (cell_lt h1)).trans h1, (hb.cell (cell_lt h2)).trans h2⟩
theorem PR.of_R {w : World} {e base : Nat} {ok : Nat → Prop} {A : Option Addr} {n c : Nat} {l : List (Int × Int)} (h : Kd.R kp e w base ok (.slice A n c) l) : PR w A l := by
 intro i hi
 obtain ⟨e1, e2, hC⟩ := Kd.R_reads' h
 obtain ⟨ad, e3, h3⟩ := hC.2.2 (by omega)
 subst e3
 obtain ⟨g, rfl⟩ := Kd.R_head h
 obtain ⟨cs, hcs, hK, hcell⟩ := h3 i _ (pe_of hi)
 have hK' : cs = [.int .i64 (pe l i).1, .int .i64 (pe l i).2] := hK
 subst hK'
 have h0 := hcell 0 _ rfl
 have h1 := hcell 1 _ rfl
 rw [show kp.sz = 2 from rfl, add_plain] at h0 h1
 exact ⟨g, rfl, h0, h1⟩
def ahead (l : List (Int × Int)) (x : Int × Int) : Nat := (l.takeWhile fun y => lessB y x).length
theorem ahead_le (l : List (Int × Int)) (x : Int × Int) : ahead l x ≤ l.length := by
 unfold ahead
 exact (List.takeWhile_prefix _).length_le
theorem tw_pos {y x : Int × Int} {t : List (Int × Int)} (h : lessB y x = true) : (y :: t).takeWhile (fun y => lessB y x) = y :: t.takeWhile (fun y => lessB y x) := List.takeWhile_cons_of_pos h
theorem tw_neg {y x : Int × Int} {t : List (Int × Int)} (h : ¬ lessB y x = true) : (y :: t).takeWhile (fun y => lessB y x) = [] := List.takeWhile_cons_of_neg h
theorem ahead_lt (l : List (Int × Int)) (x : Int × Int) : ∀ i, i < ahead l x → lessB (pe l i) x = true := by
 induction l with
 | nil => intro i hi; simp [ahead] at hi
 | cons y t ih =>
   intro i hi
   unfold ahead at hi
   by_cases h : lessB y x = true
   · rw [tw_pos h] at hi
     cases i with
     | zero => exact h
     | succ i => exact ih i (by simpa [ahead] using hi)
   · rw [tw_neg h] at hi
     simp at hi
theorem ahead_at (l : List (Int × Int)) (x : Int × Int) : ahead l x < l.length → lessB (pe l (ahead l x)) x = false := by
 induction l with
 | nil => intro h; simp [ahead] at h
 | cons y t ih =>
   intro hi
   unfold ahead at hi ⊢
   by_cases h : lessB y x = true
   · rw [tw_pos h] at hi ⊢
     exact ih (by simpa [ahead] using hi)
   · rw [tw_neg h]
     simpa [pe] using h
def putL (l : List (Int × Int)) (x : Int × Int) : List (Int × Int) := if ahead l x < l.length ∧ pe l (ahead l x) = x then l else l.take (ahead l x) ++ x :: l.drop (ahead l x)
set_option maxHeartbeats 1000000 in
set_option maxRecDepth 100000 in
theorem less_calls (a b c d : Int) (w : World) :
   Calls Try.prog 55 #[.agg #[.int .i64 a, .int .i64 b], .agg #[.int .i64 c, .int .i64 d]] w fun e w' => e = .returned (.bool (lessB (a, b) (c, d))) ∧ Below w.heap.size w w' := by
 have HB : Aside0 (Below w.heap.size w ((w.alloc (.cells #[.int .i64 a, .int .i64 b] 56 (0, 0))).alloc (.cells #[.int .i64 c, .int .i64 d] 56 (0, 0)))) := ⟨((Below.refl w.heap.size w).alloc (Nat.le_refl _) _).alloc (by simp) _⟩
 by_cases h1 : a < c
 · have s1 : decide (a < c) = true := decide_eq_true h1
   have e0 : lessB (a, b) (c, d) = true := by unfold lessB; simp [h1]
   have HE := Aside0.mk e0
   clear h1 e0
   go_enter Try.func55, Try.ntmps55
   go_wp2_with fail
   go_ret
   exact ⟨by rw [HE.out]; rfl, HB.out⟩
 · have s1 : decide (a < c) = false := decide_eq_false h1
   by_cases h2 : a = c
   · subst h2
     have s2 : (a == a) = true := beq_self_eq_true a
     obtain ⟨q, hq⟩ : ∃ q, q = decide (b < d) := ⟨_, rfl⟩
     have HE : Aside0 (lessB (a, b) (a, d) = q) := ⟨by unfold lessB; simp [hq]⟩
     have s3 : decide (b < d) = q := hq.symm
     clear h1 hq
     go_enter Try.func55, Try.ntmps55
     go_wp2_with fail
     go_ret
     exact ⟨by rw [HE.out]; rfl, HB.out⟩
   · have s2 : (a == c) = false := beq_eq_false_iff_ne.2 h2
     have HE : Aside0 (lessB (a, b) (c, d) = false) := ⟨by unfold lessB; simp [h1, h2]⟩
     clear h1 h2
     go_enter Try.func55, Try.ntmps55
     go_wp2_with fail
     go_ret
     exact ⟨by rw [HE.out]; rfl, HB.out⟩
theorem ValB.below_drewN {k : Nat} {a b : World} (h : Below k a b) (m : Nat) : Below k a (b.drewN m) := ⟨h.os, h.tape, h.output, h.size, h.block⟩
theorem info_edge : (Try.prog.info? 56).map (fun i => (i.zero, i.size, i.bytes)) = some (some (.agg #[.int .i64 0, .int .i64 0]), 2, 16) := by kernel_rfl
def joined (l : List (Int × Int)) (K : Nat) (x : Int × Int) (i : Nat) : List (Int × Int) := l.take K ++ [x] ++ (l.take i).drop K
theorem joined_length {l : List (Int × Int)} {K : Nat} (x : Int × Int) {i : Nat} (hi : i ≤ l.length) (hK : K ≤ i) : (joined l K x i).length = i + 1 := by unfold joined; simp; omega
theorem joined_snoc {l : List (Int × Int)} {K : Nat} {x : Int × Int} {i : Nat} (hK : K ≤ i) (hi : i < l.length) : joined l K x i ++ [pe l i] = joined l K x (i + 1) := by
 unfold joined
 rw [List.append_assoc]
 congr 1
 rw [List.take_add_one, pe_of hi, List.drop_append_of_le_length (by simp; omega)]
 rfl
set_option maxHeartbeats 4000000 in
set_option maxRecDepth 100000 in
theorem put_calls (A : Option Addr) (c : Nat) (l : List (Int × Int)) (x1 x2 : Int) (w : World) (hp : PR w A l) (hl : l.length ≤ 8000000000) (hc : l.length ≤ c) :
   Calls Try.prog 40 #[.slice A l.length c, .agg #[.int .i64 x1, .int .i64 x2]] w fun e w' => Below w.heap.size w w' ∧ ∃ v, e = .returned v ∧ ((putL l (x1, x2) = l ∧ v = .slice A l.length c) ∨ Kd.R kp 56 w' w.heap.size (fun _ => True) v (putL l (x1, x2))) := by
 have HB : Aside0 (Below w.heap.size w (w.alloc (.cells #[.int .i64 x1, .int .i64 x2] 56 (0, 0)))) := ⟨(Below.refl w.heap.size w).alloc (Nat.le_refl _) _⟩
 have HX := Aside0.mk (heap_last w (.cells #[.int .i64 x1, .int .i64 x2] 56 (0, 0)))
 have HP0 := Aside0.mk hp
 obtain ⟨b, hb⟩ : ∃ b, b = w.heap.size := ⟨_, rfl⟩
 obtain ⟨K, hK⟩ : ∃ K, K = ahead l (x1, x2) := ⟨_, rfl⟩
 have HK := Aside0.mk hK
 have hKl : K ≤ l.length := by rw [hK]; exact ahead_le _ _
 rw [← hb] at HX
 clear hp hK
 go_enter Try.func40, Try.ntmps40
 go_wp2_with fail
 rw [← hb]
 have HBB := Aside0.mk hb
 clear hb
 have HO : Aside0 (Kd.R kp 56 (w.alloc (.cells #[.int .i64 x1, .int .i64 x2] 56 (0, 0))) w.heap.size (fun _ => True) (.slice none 0 0) (l.take 0)) := ⟨Kd.R_nil _ _ _ _ _⟩
 go_loopw [5, 6] (fun u y ws => ∃ (i : Nat) (Ao : Option Addr) (co : Nat), u = .slice Ao i co ∧ y = .int .i64 (i : Int) ∧ i ≤ K ∧ Aside0 (Kd.R kp 56 ws w.heap.size (fun _ => True) (.slice Ao i co) (l.take i)) ∧ Aside0 (Below w.heap.size w ws) ∧ Aside0 (ws.heap[b]? = some (.cells #[.int .i64 x1, .int .i64 x2] 56 (0, 0))) ∧ Aside0 (∀ k, (Value.slice Ao i co).ownBlock = some k → b ≠ k)) (fun _ y _ => l.length - (intOf y).toNat)
 case atStart => exact ⟨0, none, 0, rfl, rfl, by omega, HO, HB, HX, ⟨fun k hk => by simp [Value.ownBlock] at hk⟩⟩
 case round =>
   clear HO HB HX
   obtain ⟨i, Ao, co, rfl, rfl, hi, HO, HB, HX, HOB⟩ := hrel
   by_cases hlt : i < l.length
   · have HP := Aside0.mk (HP0.out.below HB.out)
     obtain ⟨g, rfl, y1, y2⟩ := HP.out i hlt
     obtain ⟨p1, hp1⟩ : ∃ p1, p1 = (pe l i).1 := ⟨_, rfl⟩
     obtain ⟨p2, hp2⟩ : ∃ p2, p2 = (pe l i).2 := ⟨_, rfl⟩
     rw [← hp1] at y1
     rw [← hp2] at y2
     have HPP : Aside0 (pe l i = (p1, p2)) := ⟨by rw [hp1, hp2]⟩
     have y3 : wr.cell? ⟨b, 0, none⟩ = some (.int .i64 x1) := heap_cell HX.out rfl
     have y4 : wr.cell? ⟨b, 1, none⟩ = some (.int .i64 x2) := heap_cell HX.out rfl
     clear hp1 hp2
     by_cases hik : i < K
     · have HLS : Aside0 (∀ W : World, Calls Try.prog 55 #[.agg #[.int .i64 p1, .int .i64 p2], .agg #[.int .i64 x1, .int .i64 x2]] W fun e w' => e = .returned (.bool true) ∧ Below W.heap.size W w') := ⟨fun W => by
         have h := less_calls p1 p2 x1 x2 W
         rw [← HPP.out, ahead_lt l (x1, x2) i (by rw [← HK.out]; exact hik)] at h
         exact h⟩
       go_upto_region 4 with (fail)
       refine start_ (n := 7) (S := fun w' => w'.cell? ⟨g, i * 2, none⟩ = some (.int .i64 p1) ∧ w'.cell? ⟨g, i * 2 + 1, none⟩ = some (.int .i64 p2) ∧ w'.cell? ⟨b, 0, none⟩ = some (.int .i64 x1) ∧ w'.cell? ⟨b, 1, none⟩ = some (.int .i64 x2)) (ds := [5]) #[false, false, false, false, false, false, false] (by kernel_rfl) rfl rfl ⟨y1, y2, y3, y4⟩ (fun hHeld => ?_)
       refine pure_ (i := 0) (N := some 12) (v := ?_) (a' := ?_) #[true, false, false, false, false, false, false] rfl rfl (by kernel_rfl) (fun _ _ _ h => h) (Or.inl ⟨by rfl, ?_⟩) ?_ ?_
       rotate_left
       · intro w'
         go_simp
         with_reducible rfl
       rotate_left
       · simp only [Act.put, List.setIfInBounds_toArray, List.set_cons_zero, List.set_cons_succ, i64_w, i32_w]
         rfl
       refine pure_ (i := 1) (N := some 13) (v := ?_) (a' := ?_) #[true, true, false, false, false, false, false] rfl rfl (by kernel_rfl) (fun _ _ _ h => h) (Or.inl ⟨by rfl, ?_⟩) ?_ ?_
       rotate_left
       · intro w'
         go_simp
         with_reducible rfl
       rotate_left
       · simp only [Act.put, List.setIfInBounds_toArray, List.set_cons_zero, List.set_cons_succ, i64_w, i32_w]
         rfl
       refine pure_ (i := 2) (N := some 14) (v := ?_) (a' := ?_) #[true, true, true, false, false, false, false] rfl rfl (by kernel_rfl) (fun _ _ _ h => h) (Or.inl ⟨by rfl, ?_⟩) ?_ ?_
       rotate_left
       · intro w'
         go_simp
         with_reducible rfl
       rotate_left
       · simp only [Act.put, List.setIfInBounds_toArray, List.set_cons_zero, List.set_cons_succ, i64_w, i32_w]
         rfl
       refine take_ (i := 3) (N := some 15) (v := ?_) (a' := ?_) #[true, true, true, true, false, false, false] rfl rfl (by kernel_rfl) (fun _ _ _ h => h) (Or.inl ⟨by rfl, ?_⟩) hHeld ?_ ?_
       rotate_left
       · rintro w' ⟨s0, s1, s2, s3⟩
         go_simp
         with_reducible rfl
       rotate_left
       · simp only [Act.put, List.setIfInBounds_toArray, List.set_cons_zero, List.set_cons_succ, i64_w, i32_w]
         rfl
       refine take_ (i := 4) (N := some 16) (v := ?_) (a' := ?_) #[true, true, true, true, true, false, false] rfl rfl (by kernel_rfl) (fun _ _ _ h => h) (Or.inl ⟨by rfl, ?_⟩) hHeld ?_ ?_
       rotate_left
       · rintro w' ⟨s0, s1, s2, s3⟩
         go_simp
         with_reducible rfl
       rotate_left
       · simp only [Act.put, List.setIfInBounds_toArray, List.set_cons_zero, List.set_cons_succ, i64_w, i32_w]
         rfl
       refine last_ (i := 5) (N := some 17) #[true, true, true, true, true, true, false] rfl rfl (by kernel_rfl) (by decide) (fun K hK => ?_)
       refine goes_ Try.func55 (by kernel_rfl) rfl #[.agg #[.int .i64 p1, .int .i64 p2], .agg #[.int .i64 x1, .int .i64 x2]] (by rfl) rfl rfl (by simp only [List.map_toArray, List.map_cons, List.map_nil]; rfl) ?_
       with_reducible refine (HLS.out _).mono ?_
       rintro e' w5 ⟨rfl, hb⟩
       refine ⟨_, rfl, ?_⟩
       have HB5 := Aside0.mk (HB.out.drew.trans (hb.mono HB.out.size))
       have HX5 := Aside0.mk ((hb.block _ (lt_of HX.out)).trans HX.out)
       have HO5 := Aside0.mk (Kd.R_below (Kd.R_drew HO.out) hb)
       have HP5 := Aside0.mk ((HP.out.below ((Below.refl _ _).drew)).below hb)
       refine hK.out _ _ ?_
       clear hK K
       refine norm_ (a' := ?_) ?_ ?_
       rotate_left
       · show Act.put _ (some 17) _ = _
         simp only [Act.put, List.setIfInBounds_toArray, List.set_cons_zero, List.set_cons_succ, i64_w, i32_w]
         rfl
       refine pure_ (i := 6) (N := some 7) (v := ?_) (a' := ?_) #[true, true, true, true, true, true, true] rfl rfl (by kernel_rfl) (fun _ _ _ h => h) (Or.inl ⟨by rfl, ?_⟩) ?_ ?_
       rotate_left
       · intro w'
         go_simp
         with_reducible rfl
       rotate_left
       · simp only [Act.put, List.setIfInBounds_toArray, List.set_cons_zero, List.set_cons_succ, i64_w, i32_w]
         rfl
       refine done_ (by kernel_rfl) ?_
       obtain ⟨g2, eg, z1, z2⟩ := HP5.out i hlt
       obtain rfl : g = g2 := by injection eg with eg; injection eg
       rw [HPP.out] at z1 z2
       clear y1 y2 y3 y4 hHeld hb eg
       have HSZ5 : Aside0 (w.heap.size ≤ w5.heap.size) := ⟨HB5.out.size⟩
       have HLB : Aside0 (((l.take i).length + 1) * 16 ≤ 140737488355328) := ⟨by rw [List.length_take]; omega⟩
       go_wp2_with ((with_reducible refine gate_builtin (b := .append) (xs := #[.tmp 20, .tmp 25]) rfl ?_); at_builtin; refine Kd.R_append kp (w0 := w) (W := w5) w.heap.size rfl (.tmp 20) (.tmp 25) 22 56 (.agg #[.int .i64 0, .int .i64 0]) 16 rfl Try.underlying22 info_edge rfl (by decide) (by decide) (.slice Ao i co) (l.take i) (p1, p2) [.int .i64 p1, .int .i64 p2] (fun _ => True) (fun _ => False) rfl rfl rfl (fun _ hk => hk.elim) (fun _ _ => trivial) HO5.out HB5.out HSZ5.out HLB.out ?_)
       intro v6 w6 hR hb6 hg6 hat6
       obtain ⟨A6, c6, rfl⟩ := Kd.R_slice hR
       have e1 : l.take i ++ [(p1, p2)] = l.take (i + 1) := by rw [List.take_add_one, pe_of hlt, HPP.out]; rfl
       rw [e1, List.length_take, Nat.min_eq_left (by omega)] at hR hat6
       rw [e1, List.length_take, Nat.min_eq_left (by omega)]
       have HO6 := Aside0.mk hR
       have HX6 : Aside0 (w6.heap[b]? = some (.cells #[.int .i64 x1, .int .i64 x2] 56 (0, 0))) := ⟨by
         have hb7 := hg6.block b (lt_of HX5.out) (fun e => by
           have h1 := Kd.R_base HO5.out b e.symm
           have h2 := HOB.out b e.symm
           omega)
         rw [hb7]; exact HX5.out⟩
       have HB6 := Aside0.mk hb6
       have HOB6 : Aside0 (∀ k, (Value.slice A6 (i + 1) c6).ownBlock = some k → b ≠ k) := ⟨fun k hk e => by
         subst e
         rcases hat6 with h | ⟨q, h, hq⟩
         · exact HOB.out b (h ▸ hk) rfl
         · rw [h] at hk
           injection hk with hk
           have := lt_of HX5.out
           omega⟩
       clear hR hb6 hg6 hat6 e1 HO HB HX HOB HP HB5 HX5 HO5 HP5 HSZ5 HLB z1 z2 HLS
       go_wp2_with fail
       go_roundw
       case rel => exact ⟨i + 1, A6, c6, rfl, by go_num, by omega, HO6, HB6, HX6, HOB6⟩
       case measure => simp [intOf]; omega
     · obtain rfl : i = K := by omega
       have HLS : Aside0 (∀ W : World, Calls Try.prog 55 #[.agg #[.int .i64 p1, .int .i64 p2], .agg #[.int .i64 x1, .int .i64 x2]] W fun e w' => e = .returned (.bool false) ∧ Below W.heap.size W w') := ⟨fun W => by
         have h := less_calls p1 p2 x1 x2 W
         rw [← HPP.out, HK.out, ahead_at l (x1, x2) (by rw [← HK.out]; exact hlt)] at h
         exact h⟩
       go_upto_region 4 with (fail)
       refine start_ (n := 7) (S := fun w' => w'.cell? ⟨g, i * 2, none⟩ = some (.int .i64 p1) ∧ w'.cell? ⟨g, i * 2 + 1, none⟩ = some (.int .i64 p2) ∧ w'.cell? ⟨b, 0, none⟩ = some (.int .i64 x1) ∧ w'.cell? ⟨b, 1, none⟩ = some (.int .i64 x2)) (ds := [5]) #[false, false, false, false, false, false, false] (by kernel_rfl) rfl rfl ⟨y1, y2, y3, y4⟩ (fun hHeld => ?_)
       refine pure_ (i := 0) (N := some 12) (v := ?_) (a' := ?_) #[true, false, false, false, false, false, false] rfl rfl (by kernel_rfl) (fun _ _ _ h => h) (Or.inl ⟨by rfl, ?_⟩) ?_ ?_
       rotate_left
       · intro w'
         go_simp
         with_reducible rfl
       rotate_left
       · simp only [Act.put, List.setIfInBounds_toArray, List.set_cons_zero, List.set_cons_succ, i64_w, i32_w]
         rfl
       refine pure_ (i := 1) (N := some 13) (v := ?_) (a' := ?_) #[true, true, false, false, false, false, false] rfl rfl (by kernel_rfl) (fun _ _ _ h => h) (Or.inl ⟨by rfl, ?_⟩) ?_ ?_
       rotate_left
       · intro w'
         go_simp
         with_reducible rfl
       rotate_left
       · simp only [Act.put, List.setIfInBounds_toArray, List.set_cons_zero, List.set_cons_succ, i64_w, i32_w]
         rfl
       refine pure_ (i := 2) (N := some 14) (v := ?_) (a' := ?_) #[true, true, true, false, false, false, false] rfl rfl (by kernel_rfl) (fun _ _ _ h => h) (Or.inl ⟨by rfl, ?_⟩) ?_ ?_
       rotate_left
       · intro w'
         go_simp
         with_reducible rfl
       rotate_left
       · simp only [Act.put, List.setIfInBounds_toArray, List.set_cons_zero, List.set_cons_succ, i64_w, i32_w]
         rfl
       refine take_ (i := 3) (N := some 15) (v := ?_) (a' := ?_) #[true, true, true, true, false, false, false] rfl rfl (by kernel_rfl) (fun _ _ _ h => h) (Or.inl ⟨by rfl, ?_⟩) hHeld ?_ ?_
       rotate_left
       · rintro w' ⟨s0, s1, s2, s3⟩
         go_simp
         with_reducible rfl
       rotate_left
       · simp only [Act.put, List.setIfInBounds_toArray, List.set_cons_zero, List.set_cons_succ, i64_w, i32_w]
         rfl
       refine take_ (i := 4) (N := some 16) (v := ?_) (a' := ?_) #[true, true, true, true, true, false, false] rfl rfl (by kernel_rfl) (fun _ _ _ h => h) (Or.inl ⟨by rfl, ?_⟩) hHeld ?_ ?_
       rotate_left
       · rintro w' ⟨s0, s1, s2, s3⟩
         go_simp
         with_reducible rfl
       rotate_left
       · simp only [Act.put, List.setIfInBounds_toArray, List.set_cons_zero, List.set_cons_succ, i64_w, i32_w]
         rfl
       refine last_ (i := 5) (N := some 17) #[true, true, true, true, true, true, false] rfl rfl (by kernel_rfl) (by decide) (fun K hK => ?_)
       refine goes_ Try.func55 (by kernel_rfl) rfl #[.agg #[.int .i64 p1, .int .i64 p2], .agg #[.int .i64 x1, .int .i64 x2]] (by rfl) rfl rfl (by simp only [List.map_toArray, List.map_cons, List.map_nil]; rfl) ?_
       with_reducible refine (HLS.out _).mono ?_
       rintro e' w5 ⟨rfl, hb⟩
       refine ⟨_, rfl, ?_⟩
       have HB5 := Aside0.mk (HB.out.drew.trans (hb.mono HB.out.size))
       have HX5 := Aside0.mk ((hb.block _ (lt_of HX.out)).trans HX.out)
       have HO5 := Aside0.mk (Kd.R_below (Kd.R_drew HO.out) hb)
       have HP5 := Aside0.mk ((HP.out.below ((Below.refl _ _).drew)).below hb)
       refine hK.out _ _ ?_
       clear hK K
       refine norm_ (a' := ?_) ?_ ?_
       rotate_left
       · show Act.put _ (some 17) _ = _
         simp only [Act.put, List.setIfInBounds_toArray, List.set_cons_zero, List.set_cons_succ, i64_w, i32_w]
         rfl
       refine pure_ (i := 6) (N := some 7) (v := ?_) (a' := ?_) #[true, true, true, true, true, true, true] rfl rfl (by kernel_rfl) (fun _ _ _ h => h) (Or.inl ⟨by rfl, ?_⟩) ?_ ?_
       rotate_left
       · intro w'
         go_simp
         with_reducible rfl
       rotate_left
       · simp only [Act.put, List.setIfInBounds_toArray, List.set_cons_zero, List.set_cons_succ, i64_w, i32_w]
         rfl
       refine done_ (by kernel_rfl) ?_
       obtain ⟨g2, eg, z1, z2⟩ := HP5.out i hlt
       obtain rfl : g = g2 := by injection eg with eg; injection eg
       rw [HPP.out] at z1 z2
       have z3 : w5.cell? ⟨b, 0, none⟩ = some (.int .i64 x1) := heap_cell HX5.out rfl
       have z4 : w5.cell? ⟨b, 1, none⟩ = some (.int .i64 x2) := heap_cell HX5.out rfl
       clear y1 y2 y3 y4 hHeld hb eg HLS HO HB HX HP
       by_cases hq : p1 = x1 ∧ p2 = x2
       · obtain ⟨rfl, rfl⟩ := hq
         have HRES : Aside0 (putL l (p1, p2) = l) := ⟨by unfold putL; rw [if_pos ⟨by rw [← HK.out]; exact hlt, by rw [← HK.out]; exact HPP.out⟩]⟩
         go_wp2_with fail
         go_quiet (fail)
         go_wp2_with fail
         go_ret
         exact ⟨(by first | exact HB5.out | exact ValB.below_drewN HB5.out _), _, rfl, .inl ⟨HRES.out, rfl⟩⟩
       · by_cases hq1 : p1 = x1
         · obtain rfl : x1 = p1 := hq1.symm
           have s1 : (p2 == x2) = false := beq_eq_false_iff_ne.2 (fun h => hq ⟨rfl, h⟩)
           have HNO : Aside0 (¬ (i < l.length ∧ pe l i = (x1, x2))) := ⟨fun h => hq (by rw [HPP.out] at h; simpa using h.2)⟩
           clear hq
           go_wp2_with fail
           go_quiet (fail)
           have HB7 := Aside0.mk (ValB.below_drewN HB5.out nq)
           have HO7 := Aside0.mk (Kd.R_drewN HO5.out nq)
           have z5 : (w5.drewN nq).cell? ⟨b, 0, none⟩ = some (.int .i64 x1) := heap_cell (w := w5.drewN nq) HX5.out rfl
           have z6 : (w5.drewN nq).cell? ⟨b, 1, none⟩ = some (.int .i64 x2) := heap_cell (w := w5.drewN nq) HX5.out rfl
           generalize w5.drewN nq = w7 at HB7 HO7 z5 z6 ⊢
           clear HB5 HO5 HX5
           have HOX : Aside0 (((l.take i).length + 1) * 16 ≤ 140737488355328) := ⟨by rw [List.length_take]; omega⟩
           have HSZ5 : Aside0 (w.heap.size ≤ w7.heap.size) := ⟨HB7.out.size⟩
           have HCO := Aside0.mk HO7.out
           go_wp2_with ((with_reducible refine gate_builtin (b := .append) (xs := #[.tmp 42, .tmp 44]) rfl ?_); at_builtin; refine Kd.R_append kp (w0 := w) (W := w7) w.heap.size rfl (.tmp 42) (.tmp 44) 22 56 (.agg #[.int .i64 0, .int .i64 0]) 16 rfl Try.underlying22 info_edge rfl (by decide) (by decide) (.slice Ao i co) (l.take i) (x1, x2) [.int .i64 x1, .int .i64 x2] (fun _ => True) (fun _ => False) rfl rfl rfl (fun _ hk => hk.elim) (fun _ _ => trivial) HCO.out HB7.out HSZ5.out HOX.out ?_)
           intro v6 w6 hR hb6 hg6 hat6
           obtain ⟨A6, c6, rfl⟩ := Kd.R_slice hR
           have e1 : l.take i ++ [(x1, x2)] = joined l i (x1, x2) i := by unfold joined; simp
           rw [e1, joined_length _ (by omega) (Nat.le_refl _)] at hR
           rw [e1, joined_length _ (by omega) (Nat.le_refl _)]
           have HO2 := Aside0.mk hR
           have HB2 := Aside0.mk hb6
           have HRES : Aside0 (putL l (x1, x2) = joined l i (x1, x2) l.length) := ⟨by unfold putL joined; rw [← HK.out, if_neg HNO.out, List.take_length, List.append_assoc]; rfl⟩
           clear hR hb6 hg6 hat6 e1 HOX HSZ5 HCO HO7 HB7 HNO z5 z6
           go_wp2_with fail
           go_loopw [5, 6] (fun u y ws => ∃ (q M : Nat) (Ao : Option Addr) (co : Nat), u = .slice Ao M co ∧ y = .int .i64 (q : Int) ∧ i ≤ q ∧ q ≤ l.length ∧ Aside0 (M = q + 1) ∧ Aside0 (Kd.R kp 56 ws w.heap.size (fun _ => True) (.slice Ao M co) (joined l i (x1, x2) q)) ∧ Aside0 (Below w.heap.size w ws)) (fun _ y _ => l.length - (intOf y).toNat)
           case atStart => exact ⟨i, i + 1, A6, c6, rfl, rfl, Nat.le_refl _, by omega, ⟨rfl⟩, HO2, HB2⟩
           case round =>
             clear HO2 HB2
             obtain ⟨q, M, Ao, co, rfl, rfl, hKi, hq2, HMQ, HO, HB⟩ := hrel
             by_cases hlt2 : q < l.length
             · obtain ⟨g3, eg3, y1, y2⟩ := (HP0.out.below HB.out) q hlt2
               first | subst eg3 | (obtain rfl : g = g3 := by injection eg3 with eg3; injection eg3)
               obtain ⟨p1, hp1⟩ : ∃ p1, p1 = (pe l q).1 := ⟨_, rfl⟩
               obtain ⟨p2, hp2⟩ : ∃ p2, p2 = (pe l q).2 := ⟨_, rfl⟩
               rw [← hp1] at y1
               rw [← hp2] at y2
               have HPP : Aside0 (pe l q = (p1, p2)) := ⟨by rw [hp1, hp2]⟩
               have HSZ : Aside0 (w.heap.size ≤ wr.heap.size) := ⟨HB.out.size⟩
               have HLB : Aside0 (((joined l i (x1, x2) q).length + 1) * 16 ≤ 140737488355328) := ⟨by rw [joined_length _ hq2 hKi]; omega⟩
               clear hp1 hp2
               go_wp2_with ((with_reducible refine gate_builtin (b := .append) (xs := #[.tmp 50, .tmp 55]) rfl ?_); at_builtin; refine Kd.R_append kp (w0 := w) (W := wr) w.heap.size rfl (.tmp 50) (.tmp 55) 22 56 (.agg #[.int .i64 0, .int .i64 0]) 16 rfl Try.underlying22 info_edge rfl (by decide) (by decide) (.slice Ao M co) (joined l i (x1, x2) q) (p1, p2) [.int .i64 p1, .int .i64 p2] (fun _ => True) (fun _ => False) rfl rfl rfl (fun _ hk => hk.elim) (fun _ _ => trivial) HO.out HB.out HSZ.out HLB.out ?_)
               intro v6 w6 hR hb6 _ _
               obtain ⟨A6, c6, rfl⟩ := Kd.R_slice hR
               have e1 : joined l i (x1, x2) q ++ [(p1, p2)] = joined l i (x1, x2) (q + 1) := by rw [← HPP.out]; exact joined_snoc hKi hlt2
               rw [e1, joined_length _ (by omega) (by omega)] at hR
               rw [e1, joined_length _ (by omega) (by omega)]
               have HO2 := Aside0.mk hR
               have HB2 := Aside0.mk hb6
               clear hR hb6 e1 HO HB HSZ HLB y1 y2
               go_wp2_with fail
               go_roundw
               case rel => exact ⟨q + 1, q + 1 + 1, A6, c6, rfl, by go_num, by omega, by omega, ⟨rfl⟩, HO2, HB2⟩
               case measure => simp [intOf]; omega
             · obtain rfl : q = l.length := by omega
               go_wp2_with fail
               go_ret
               exact ⟨HB.out, _, rfl, .inr (by rw [HRES.out]; exact HO.out)⟩
         · have s1 : (p1 == x1) = false := beq_eq_false_iff_ne.2 hq1
           have HNO : Aside0 (¬ (i < l.length ∧ pe l i = (x1, x2))) := ⟨fun h => hq (by rw [HPP.out] at h; simpa using h.2)⟩
           clear hq hq1
           go_wp2_with fail
           go_quiet (fail)
           have HB7 := Aside0.mk (ValB.below_drewN HB5.out nq)
           have HO7 := Aside0.mk (Kd.R_drewN HO5.out nq)
           have z5 : (w5.drewN nq).cell? ⟨b, 0, none⟩ = some (.int .i64 x1) := heap_cell (w := w5.drewN nq) HX5.out rfl
           have z6 : (w5.drewN nq).cell? ⟨b, 1, none⟩ = some (.int .i64 x2) := heap_cell (w := w5.drewN nq) HX5.out rfl
           generalize w5.drewN nq = w7 at HB7 HO7 z5 z6 ⊢
           clear HB5 HO5 HX5
           have HOX : Aside0 (((l.take i).length + 1) * 16 ≤ 140737488355328) := ⟨by rw [List.length_take]; omega⟩
           have HSZ5 : Aside0 (w.heap.size ≤ w7.heap.size) := ⟨HB7.out.size⟩
           have HCO := Aside0.mk HO7.out
           go_wp2_with ((with_reducible refine gate_builtin (b := .append) (xs := #[.tmp 42, .tmp 44]) rfl ?_); at_builtin; refine Kd.R_append kp (w0 := w) (W := w7) w.heap.size rfl (.tmp 42) (.tmp 44) 22 56 (.agg #[.int .i64 0, .int .i64 0]) 16 rfl Try.underlying22 info_edge rfl (by decide) (by decide) (.slice Ao i co) (l.take i) (x1, x2) [.int .i64 x1, .int .i64 x2] (fun _ => True) (fun _ => False) rfl rfl rfl (fun _ hk => hk.elim) (fun _ _ => trivial) HCO.out HB7.out HSZ5.out HOX.out ?_)
           intro v6 w6 hR hb6 hg6 hat6
           obtain ⟨A6, c6, rfl⟩ := Kd.R_slice hR
           have e1 : l.take i ++ [(x1, x2)] = joined l i (x1, x2) i := by unfold joined; simp
           rw [e1, joined_length _ (by omega) (Nat.le_refl _)] at hR
           rw [e1, joined_length _ (by omega) (Nat.le_refl _)]
           have HO2 := Aside0.mk hR
           have HB2 := Aside0.mk hb6
           have HRES : Aside0 (putL l (x1, x2) = joined l i (x1, x2) l.length) := ⟨by unfold putL joined; rw [← HK.out, if_neg HNO.out, List.take_length, List.append_assoc]; rfl⟩
           clear hR hb6 hg6 hat6 e1 HOX HSZ5 HCO HO7 HB7 HNO z5 z6
           go_wp2_with fail
           go_loopw [5, 6] (fun u y ws => ∃ (q M : Nat) (Ao : Option Addr) (co : Nat), u = .slice Ao M co ∧ y = .int .i64 (q : Int) ∧ i ≤ q ∧ q ≤ l.length ∧ Aside0 (M = q + 1) ∧ Aside0 (Kd.R kp 56 ws w.heap.size (fun _ => True) (.slice Ao M co) (joined l i (x1, x2) q)) ∧ Aside0 (Below w.heap.size w ws)) (fun _ y _ => l.length - (intOf y).toNat)
           case atStart => exact ⟨i, i + 1, A6, c6, rfl, rfl, Nat.le_refl _, by omega, ⟨rfl⟩, HO2, HB2⟩
           case round =>
             clear HO2 HB2
             obtain ⟨q, M, Ao, co, rfl, rfl, hKi, hq2, HMQ, HO, HB⟩ := hrel
             by_cases hlt2 : q < l.length
             · obtain ⟨g3, eg3, y1, y2⟩ := (HP0.out.below HB.out) q hlt2
               first | subst eg3 | (obtain rfl : g = g3 := by injection eg3 with eg3; injection eg3)
               obtain ⟨p1, hp1⟩ : ∃ p1, p1 = (pe l q).1 := ⟨_, rfl⟩
               obtain ⟨p2, hp2⟩ : ∃ p2, p2 = (pe l q).2 := ⟨_, rfl⟩
               rw [← hp1] at y1
               rw [← hp2] at y2
               have HPP : Aside0 (pe l q = (p1, p2)) := ⟨by rw [hp1, hp2]⟩
               have HSZ : Aside0 (w.heap.size ≤ wr.heap.size) := ⟨HB.out.size⟩
               have HLB : Aside0 (((joined l i (x1, x2) q).length + 1) * 16 ≤ 140737488355328) := ⟨by rw [joined_length _ hq2 hKi]; omega⟩
               clear hp1 hp2
               go_wp2_with ((with_reducible refine gate_builtin (b := .append) (xs := #[.tmp 50, .tmp 55]) rfl ?_); at_builtin; refine Kd.R_append kp (w0 := w) (W := wr) w.heap.size rfl (.tmp 50) (.tmp 55) 22 56 (.agg #[.int .i64 0, .int .i64 0]) 16 rfl Try.underlying22 info_edge rfl (by decide) (by decide) (.slice Ao M co) (joined l i (x1, x2) q) (p1, p2) [.int .i64 p1, .int .i64 p2] (fun _ => True) (fun _ => False) rfl rfl rfl (fun _ hk => hk.elim) (fun _ _ => trivial) HO.out HB.out HSZ.out HLB.out ?_)
               intro v6 w6 hR hb6 _ _
               obtain ⟨A6, c6, rfl⟩ := Kd.R_slice hR
               have e1 : joined l i (x1, x2) q ++ [(p1, p2)] = joined l i (x1, x2) (q + 1) := by rw [← HPP.out]; exact joined_snoc hKi hlt2
               rw [e1, joined_length _ (by omega) (by omega)] at hR
               rw [e1, joined_length _ (by omega) (by omega)]
               have HO2 := Aside0.mk hR
               have HB2 := Aside0.mk hb6
               clear hR hb6 e1 HO HB HSZ HLB y1 y2
               go_wp2_with fail
               go_roundw
               case rel => exact ⟨q + 1, q + 1 + 1, A6, c6, rfl, by go_num, by omega, by omega, ⟨rfl⟩, HO2, HB2⟩
               case measure => simp [intOf]; omega
             · obtain rfl : q = l.length := by omega
               go_wp2_with fail
               go_ret
               exact ⟨HB.out, _, rfl, .inr (by rw [HRES.out]; exact HO.out)⟩
   · obtain rfl : i = K := by omega
     have HNO : Aside0 (¬ (i < l.length ∧ pe l i = (x1, x2))) := ⟨fun h => hlt h.1⟩
     have hil : ¬ i < l.length := hlt
     have hd : decide ((i : Int) < (l.length : Int)) = false := decide_eq_false (by omega)
     have y3 : wr.cell? ⟨b, 0, none⟩ = some (.int .i64 x1) := heap_cell HX.out rfl
     have y4 : wr.cell? ⟨b, 1, none⟩ = some (.int .i64 x2) := heap_cell HX.out rfl
     go_wp2_with fail
     go_quiet (fail)
     have HB7 := Aside0.mk (ValB.below_drewN HB.out nq)
     have HO7 := Aside0.mk (Kd.R_drewN HO.out nq)
     have z5 : (wr.drewN nq).cell? ⟨b, 0, none⟩ = some (.int .i64 x1) := heap_cell (w := wr.drewN nq) HX.out rfl
     have z6 : (wr.drewN nq).cell? ⟨b, 1, none⟩ = some (.int .i64 x2) := heap_cell (w := wr.drewN nq) HX.out rfl
     generalize wr.drewN nq = w7 at HB7 HO7 z5 z6 ⊢
     clear HB HO HX
     clear y3 y4 hd hil hlt
     have HOX : Aside0 (((l.take i).length + 1) * 16 ≤ 140737488355328) := ⟨by rw [List.length_take]; omega⟩
     have HSZ5 : Aside0 (w.heap.size ≤ w7.heap.size) := ⟨HB7.out.size⟩
     have HCO := Aside0.mk HO7.out
     go_wp2_with ((with_reducible refine gate_builtin (b := .append) (xs := #[.tmp 42, .tmp 44]) rfl ?_); at_builtin; refine Kd.R_append kp (w0 := w) (W := w7) w.heap.size rfl (.tmp 42) (.tmp 44) 22 56 (.agg #[.int .i64 0, .int .i64 0]) 16 rfl Try.underlying22 info_edge rfl (by decide) (by decide) (.slice Ao i co) (l.take i) (x1, x2) [.int .i64 x1, .int .i64 x2] (fun _ => True) (fun _ => False) rfl rfl rfl (fun _ hk => hk.elim) (fun _ _ => trivial) HCO.out HB7.out HSZ5.out HOX.out ?_)
     intro v6 w6 hR hb6 hg6 hat6
     obtain ⟨A6, c6, rfl⟩ := Kd.R_slice hR
     have e1 : l.take i ++ [(x1, x2)] = joined l i (x1, x2) i := by unfold joined; simp
     rw [e1, joined_length _ (by omega) (Nat.le_refl _)] at hR
     rw [e1, joined_length _ (by omega) (Nat.le_refl _)]
     have HO2 := Aside0.mk hR
     have HB2 := Aside0.mk hb6
     have HRES : Aside0 (putL l (x1, x2) = joined l i (x1, x2) l.length) := ⟨by unfold putL joined; rw [← HK.out, if_neg HNO.out, List.take_length, List.append_assoc]; rfl⟩
     clear hR hb6 hg6 hat6 e1 HOX HSZ5 HCO HO7 HB7 HNO z5 z6
     go_wp2_with fail
     go_loopw [5, 6] (fun u y ws => ∃ (q M : Nat) (Ao : Option Addr) (co : Nat), u = .slice Ao M co ∧ y = .int .i64 (q : Int) ∧ i ≤ q ∧ q ≤ l.length ∧ Aside0 (M = q + 1) ∧ Aside0 (Kd.R kp 56 ws w.heap.size (fun _ => True) (.slice Ao M co) (joined l i (x1, x2) q)) ∧ Aside0 (Below w.heap.size w ws)) (fun _ y _ => l.length - (intOf y).toNat)
     case atStart => exact ⟨i, i + 1, A6, c6, rfl, rfl, Nat.le_refl _, by omega, ⟨rfl⟩, HO2, HB2⟩
     case round =>
       clear HO2 HB2
       obtain ⟨q, M, Ao, co, rfl, rfl, hKi, hq2, HMQ, HO, HB⟩ := hrel
       by_cases hlt2 : q < l.length
       · obtain ⟨g3, eg3, y1, y2⟩ := (HP0.out.below HB.out) q hlt2
         first | subst eg3 | (obtain rfl : g = g3 := by injection eg3 with eg3; injection eg3)
         obtain ⟨p1, hp1⟩ : ∃ p1, p1 = (pe l q).1 := ⟨_, rfl⟩
         obtain ⟨p2, hp2⟩ : ∃ p2, p2 = (pe l q).2 := ⟨_, rfl⟩
         rw [← hp1] at y1
         rw [← hp2] at y2
         have HPP : Aside0 (pe l q = (p1, p2)) := ⟨by rw [hp1, hp2]⟩
         have HSZ : Aside0 (w.heap.size ≤ wr.heap.size) := ⟨HB.out.size⟩
         have HLB : Aside0 (((joined l i (x1, x2) q).length + 1) * 16 ≤ 140737488355328) := ⟨by rw [joined_length _ hq2 hKi]; omega⟩
         clear hp1 hp2
         go_wp2_with ((with_reducible refine gate_builtin (b := .append) (xs := #[.tmp 50, .tmp 55]) rfl ?_); at_builtin; refine Kd.R_append kp (w0 := w) (W := wr) w.heap.size rfl (.tmp 50) (.tmp 55) 22 56 (.agg #[.int .i64 0, .int .i64 0]) 16 rfl Try.underlying22 info_edge rfl (by decide) (by decide) (.slice Ao M co) (joined l i (x1, x2) q) (p1, p2) [.int .i64 p1, .int .i64 p2] (fun _ => True) (fun _ => False) rfl rfl rfl (fun _ hk => hk.elim) (fun _ _ => trivial) HO.out HB.out HSZ.out HLB.out ?_)
         intro v6 w6 hR hb6 _ _
         obtain ⟨A6, c6, rfl⟩ := Kd.R_slice hR
         have e1 : joined l i (x1, x2) q ++ [(p1, p2)] = joined l i (x1, x2) (q + 1) := by rw [← HPP.out]; exact joined_snoc hKi hlt2
         rw [e1, joined_length _ (by omega) (by omega)] at hR
         rw [e1, joined_length _ (by omega) (by omega)]
         have HO2 := Aside0.mk hR
         have HB2 := Aside0.mk hb6
         clear hR hb6 e1 HO HB HSZ HLB y1 y2
         go_wp2_with fail
         go_roundw
         case rel => exact ⟨q + 1, q + 1 + 1, A6, c6, rfl, by go_num, by omega, by omega, ⟨rfl⟩, HO2, HB2⟩
         case measure => simp [intOf]; omega
       · obtain rfl : q = l.length := by omega
         go_wp2_with fail
         go_ret
         exact ⟨HB.out, _, rfl, .inr (by rw [HRES.out]; exact HO.out)⟩
def putPair (l : List (Int × Int)) (p : Int × Int) : List (Int × Int) := if p.1 < p.2 then putL l p else if p.2 < p.1 then putL l (p.2, p.1) else l
def makeL (ps : List (Int × Int)) : List (Int × Int) := ps.foldl putPair []
theorem putL_length (l : List (Int × Int)) (x : Int × Int) : (putL l x).length ≤ l.length + 1 := by
 unfold putL
 split
 · omega
 · have := ahead_le l x
   simp
   omega
theorem putPair_length (l : List (Int × Int)) (x : Int × Int) : (putPair l x).length ≤ l.length + 1 := by
 unfold putPair
 split
 · exact putL_length _ _
 · split
   · exact putL_length _ _
   · omega
theorem makeL_take (ps : List (Int × Int)) {i : Nat} (h : i < ps.length) : makeL (ps.take (i + 1)) = putPair (makeL (ps.take i)) (pe ps i) := by
 unfold makeL
 rw [List.take_add_one, pe_of h]
 simp [List.foldl_append]
theorem makeL_length (ps : List (Int × Int)) : ∀ i, i ≤ ps.length → (makeL (ps.take i)).length ≤ i := by
 intro i
 induction i with
 | zero => intro _; simp [makeL]
 | succ i ih =>
   intro h
   rw [makeL_take ps (by omega)]
   have := putPair_length (makeL (ps.take i)) (pe ps i)
   have := ih (by omega)
   omega
set_option maxHeartbeats 8000000 in
set_option maxRecDepth 100000 in
theorem make_calls (n : Nat) (A : Option Addr) (c : Nat) (ps : List (Int × Int)) (w : World) (hp : PR w A ps) (hc : ps.length ≤ c) (hn : n ≤ 1048576) (hr : ∀ i, i < ps.length → 0 ≤ (pe ps i).1 ∧ (pe ps i).1 < n ∧ 0 ≤ (pe ps i).2 ∧ (pe ps i).2 < n) (hl : ps.length ≤ 8000000000) (hm : (makeL ps).length ≤ 4194304) :
   Calls Try.prog 26 #[.int .i64 (n : Int), .slice A ps.length c] w fun e w' => ∃ v, e = .returned (.tuple #[.agg #[.int .i64 (n : Int), v], .int .i64 0]) ∧ Kd.R kp 56 w' w.heap.size (fun _ => True) v (makeL ps) ∧ Below w.heap.size w w' := by
 have HP := Aside0.mk hp
 have HR := Aside0.mk hr
 have HM := Aside0.mk hm
 have s1 : decide ((n : Int) < 0) = false := decide_eq_false (by omega)
 have s2 : decide ((n : Int) > 1048576) = false := decide_eq_false (by omega)
 clear hp hr hm
 have HB0 : Aside0 (Below w.heap.size w (w.alloc (.cells #[.int .i64 0, .slice none 0 0] 24 (0, 0)))) := ⟨(Below.refl w.heap.size w).alloc (Nat.le_refl _) _⟩
 have HX0 := Aside0.mk (heap_last w (.cells #[.int .i64 0, .slice none 0 0] 24 (0, 0)))
 obtain ⟨b, hb⟩ : ∃ b, b = w.heap.size := ⟨_, rfl⟩
 rw [← hb] at HX0
 go_enter Try.func26, Try.ntmps26
 go_wp2_with fail
 rw [← hb]
 have HBB := Aside0.mk hb
 clear hb s1 s2
 generalize w.alloc (.cells #[.int .i64 0, .slice none 0 0] 24 (0, 0)) = w0 at HB0 HX0 ⊢
 go_loopw [6] (fun y ws => ∃ (i : Nat), y = .int .i64 (i : Int) ∧ i ≤ ps.length ∧ ws = w0) (fun y _ => ps.length - (intOf y).toNat)
 case atStart => exact ⟨0, rfl, by omega, by first | rfl | trivial⟩
 case round =>
   obtain ⟨i, rfl, hi, rfl⟩ := hrel
   by_cases hlt : i < ps.length
   · obtain ⟨g, rfl, y1, y2⟩ := (HP.out.below HB0.out) i hlt
     have hri := HR.out i hlt
     obtain ⟨p1, hp1⟩ : ∃ p1, p1 = (pe ps i).1 := ⟨_, rfl⟩
     obtain ⟨p2, hp2⟩ : ∃ p2, p2 = (pe ps i).2 := ⟨_, rfl⟩
     rw [← hp1] at y1 hri
     rw [← hp2] at y2 hri
     have s1 : decide (p1 < 0) = false := decide_eq_false (by omega)
     have s2 : decide (p1 ≥ (n : Int)) = false := decide_eq_false (by omega)
     have s2' : decide ((n : Int) ≤ p1) = false := decide_eq_false (by omega)
     have s3 : decide (p2 < 0) = false := decide_eq_false (by omega)
     have s4 : decide (p2 ≥ (n : Int)) = false := decide_eq_false (by omega)
     have s4' : decide ((n : Int) ≤ p2) = false := decide_eq_false (by omega)
     clear hp1 hp2 hri
     go_wp2_with fail
     clear y1 y2 s1 s2 s2' s3 s4 s4'
     go_roundw
     case rel => exact ⟨i + 1, by go_num, by omega, by first | rfl | trivial⟩
     case measure => simp [intOf]; omega
   · obtain rfl : i = ps.length := by omega
     clear hi hlt
     have HO : Aside0 (Kd.R kp 56 wr w.heap.size (fun _ => True) (.slice none 0 0) ([] : List (Int × Int))) := ⟨Kd.R_nil _ _ _ _ _⟩
     have HQ : Aside0 (([] : List (Int × Int)) = makeL (ps.take 0)) := ⟨by simp [makeL]⟩
     go_wp2_with fail
     go_loopw [9, 10] (fun u y ws => ∃ (i : Nat) (lc : List (Int × Int)) (Al : Option Addr) (cl : Nat), u = .slice Al lc.length cl ∧ y = .int .i64 (i : Int) ∧ i ≤ ps.length ∧ Aside0 (lc = makeL (ps.take i)) ∧ Aside0 (Kd.R kp 56 ws w.heap.size (fun _ => True) (.slice Al lc.length cl) lc) ∧ Aside0 (Below w.heap.size w ws) ∧ Aside0 (ws.heap[b]? = some (.cells #[.int .i64 0, .slice none 0 0] 24 (0, 0)))) (fun _ y _ => ps.length - (intOf y).toNat)
     case atStart => exact ⟨0, [], none, 0, rfl, rfl, by omega, HQ, HO, HB0, HX0⟩
     case round =>
       clear HO HQ HB0 HX0
       obtain ⟨i, lc, Al, cl, rfl, rfl, hi, HQ, HO, HB, HX⟩ := hrel
       by_cases hlt : i < ps.length
       · obtain ⟨g, eg, y1, y2⟩ := (HP.out.below HB.out) i hlt
         first | subst eg | skip
         obtain ⟨p1, hp1⟩ : ∃ p1, p1 = (pe ps i).1 := ⟨_, rfl⟩
         obtain ⟨p2, hp2⟩ : ∃ p2, p2 = (pe ps i).2 := ⟨_, rfl⟩
         rw [← hp1] at y1
         rw [← hp2] at y2
         have HPP : Aside0 (pe ps i = (p1, p2)) := ⟨by rw [hp1, hp2]⟩
         have HLB : Aside0 (lc.length ≤ 8000000000) := ⟨by rw [HQ.out]; have := makeL_length ps i hi; omega⟩
         have HLC : Aside0 (lc.length ≤ cl) := ⟨(Kd.R_reads' HO.out).2.1⟩
         clear hp1 hp2
         by_cases h1 : p1 < p2
         · have s1 : decide (p1 < p2) = true := decide_eq_true h1
           have s2 : decide (p2 < p1) = false := decide_eq_false (by omega)
           have HN : Aside0 (putL lc (p1, p2) = makeL (ps.take (i + 1))) := ⟨by rw [makeL_take ps hlt, ← HQ.out, HPP.out]; unfold putPair; rw [if_pos h1]⟩
           have HPR : Aside0 (PR wr Al lc) := ⟨PR.of_R HO.out⟩
           clear h1
           (try clear h2)
           go_wp2_with fail
           refine (put_calls Al cl lc p1 p2 wr HPR.out HLB.out HLC.out).mono ?_
           rintro e w5 ⟨hb, v, rfl, hv⟩
           have HX2 := Aside0.mk ((hb.block _ (lt_of HX.out)).trans HX.out)
           have HB2 := Aside0.mk (HB.out.trans (hb.mono HB.out.size))
           have HO2 : Aside0 (Kd.R kp 56 w5 w.heap.size (fun _ => True) v (putL lc (p1, p2))) := ⟨by
             rcases hv with ⟨h3, h4⟩ | h3
             · rw [h3, h4]; exact Kd.R_below HO.out hb
             · exact Kd.R_lower h3 HB.out.size⟩
           obtain ⟨Al2, cl2, rfl⟩ := Kd.R_slice HO2.out
           clear hb hv HO HB HX HPR HQ HLB HLC
           go_wp2_with fail
           clear y1 y2 s1 s2
           go_roundw
           case rel => exact ⟨i + 1, putL lc (p1, p2), Al2, cl2, rfl, by go_num, by omega, HN, HO2, HB2, HX2⟩
           case measure => simp [intOf]; omega
         · by_cases h2 : p2 < p1
           · have s1 : decide (p1 < p2) = false := decide_eq_false h1
             have s2 : decide (p2 < p1) = true := decide_eq_true h2
             have HN : Aside0 (putL lc (p2, p1) = makeL (ps.take (i + 1))) := ⟨by rw [makeL_take ps hlt, ← HQ.out, HPP.out]; unfold putPair; rw [if_neg h1, if_pos h2]⟩
             have HPR : Aside0 (PR wr Al lc) := ⟨PR.of_R HO.out⟩
             clear h1
             (try clear h2)
             go_wp2_with fail
             refine (put_calls Al cl lc p2 p1 wr HPR.out HLB.out HLC.out).mono ?_
             rintro e w5 ⟨hb, v, rfl, hv⟩
             have HX2 := Aside0.mk ((hb.block _ (lt_of HX.out)).trans HX.out)
             have HB2 := Aside0.mk (HB.out.trans (hb.mono HB.out.size))
             have HO2 : Aside0 (Kd.R kp 56 w5 w.heap.size (fun _ => True) v (putL lc (p2, p1))) := ⟨by
               rcases hv with ⟨h3, h4⟩ | h3
               · rw [h3, h4]; exact Kd.R_below HO.out hb
               · exact Kd.R_lower h3 HB.out.size⟩
             obtain ⟨Al2, cl2, rfl⟩ := Kd.R_slice HO2.out
             clear hb hv HO HB HX HPR HQ HLB HLC
             go_wp2_with fail
             clear y1 y2 s1 s2
             go_roundw
             case rel => exact ⟨i + 1, putL lc (p2, p1), Al2, cl2, rfl, by go_num, by omega, HN, HO2, HB2, HX2⟩
             case measure => simp [intOf]; omega
           · have s1 : decide (p1 < p2) = false := decide_eq_false h1
             have s2 : decide (p2 < p1) = false := decide_eq_false h2
             have HN : Aside0 (lc = makeL (ps.take (i + 1))) := ⟨by rw [makeL_take ps hlt, ← HQ.out, HPP.out]; unfold putPair; rw [if_neg h1, if_neg h2]⟩
             clear h1 h2
             go_wp2_with fail
             clear y1 y2 s1 s2
             go_roundw
             case rel => exact ⟨i + 1, lc, Al, cl, rfl, by go_num, by omega, HN, HO, HB, HX⟩
             case measure => simp [intOf]; omega
       · obtain rfl : i = ps.length := by omega
         have hml : lc.length ≤ 4194304 := by rw [HQ.out, List.take_length]; exact HM.out
         have s1 : decide ((lc.length : Int) > 4194304) = false := decide_eq_false (by omega)
         have s1' : decide (4194304 < (lc.length : Int)) = false := decide_eq_false (by omega)
         have f0 : wr.frozen? ⟨b, 0, none⟩ = false := heap_free HX.out 0
         have f1 : wr.frozen? ⟨b, 1, none⟩ = false := heap_free HX.out 1
         have x0 : wr.cell? ⟨b, 0, none⟩ = some (.int .i64 0) := heap_cell HX.out rfl
         have x1 : wr.cell? ⟨b, 1, none⟩ = some (.slice none 0 0) := heap_cell HX.out rfl
         go_wp2_with fail
         have HXF : ((wr.setCell ⟨b, 0, none⟩ (.int .i64 (n : Int))).setCell ⟨b, 1, none⟩ (.slice Al lc.length cl)).heap[b]? = some (.cells #[.int .i64 (n : Int), .slice Al lc.length cl] 24 (0, 0)) := by
           have := heap_set (i := 1) (heap_set (i := 0) HX.out (.int .i64 (n : Int))) (.slice Al lc.length cl)
           simpa using this
         refine bodyPost_ret (results_ct rfl _ _ b 24 #[.int .i64 (n : Int), .slice Al lc.length cl] (0, 0) _ rfl HXF Try.underlying24 rfl (by kernel_rfl)) rfl ?_
         have hbl := HBB.out
         refine ⟨.slice Al lc.length cl, rfl, ?_, ?_⟩
         · have := HO.out
           rw [show makeL ps = lc by rw [HQ.out, List.take_length]]
           have hne := Kd.R_ne this HX.out (by decide)
           refine Kd.R_mono (Kd.R_step (Kd.R_tight (by rfl) this) (fun k hk _ => ?_)) (fun _ _ => trivial)
           have hkb : k ≠ b := fun e => hne (by rw [← e]; exact hk)
           rw [Below.heap_setCell _ _ _ _ (by simpa using hkb), Below.heap_setCell _ _ _ _ (by simpa using hkb)]
         · exact (HB.out.setCell (p := ⟨b, 0, none⟩) (by simp; omega) _).setCell (p := ⟨b, 1, none⟩) (by simp; omega) _
end Go.Proofs.Ytmikcfddipldnaa.Mk
namespace Go.Proofs.Ytmikcfddipldnaa.Mk
open Go.RowKit Go.Proofs.Ytmikcfddipldnaa.Mem
set_option linter.unusedVariables false
set_option linter.unusedSimpArgs false
theorem less_iff {x y : Int × Int} : lessB x y = true ↔ x.1 < y.1 ∨ (x.1 = y.1 ∧ x.2 < y.2) := by unfold lessB; simp
theorem less_trans {x y z : Int × Int} (h : lessB x y = true) (k : lessB y z = true) : lessB x z = true := by rw [less_iff] at *; omega
theorem less_irrefl (x : Int × Int) : ¬ lessB x x = true := by rw [less_iff]; omega
theorem less_total {x y : Int × Int} (h : ¬ lessB x y = true) : x = y ∨ lessB y x = true := by
 rw [less_iff] at *
 by_cases e : x = y
 · exact .inl e
 · right
   rcases Int.lt_trichotomy x.1 y.1 with a | a | a
   · omega
   · right
     refine ⟨a.symm, ?_⟩
     rcases Int.lt_trichotomy x.2 y.2 with b | b | b
     · omega
     · exact absurd (Prod.ext a b) e
     · exact b
   · omega
def Up (l : List (Int × Int)) : Prop := l.Pairwise fun x y => lessB x y = true
theorem tw_mem (x : Int × Int) : ∀ (l : List (Int × Int)), ∀ y ∈ l.takeWhile (fun y => lessB y x), lessB y x = true := by
 intro l
 induction l with
 | nil => intro y hy; simp at hy
 | cons a t ih =>
   intro y hy
   by_cases h : lessB a x = true
   · rw [tw_pos h] at hy
     rcases List.mem_cons.1 hy with rfl | hy
     · exact h
     · exact ih y hy
   · rw [tw_neg h] at hy
     cases hy
theorem dw_head (x : Int × Int) : ∀ (l : List (Int × Int)) q Q', l.dropWhile (fun y => lessB y x) = q :: Q' → ¬ lessB q x = true := by
 intro l
 induction l with
 | nil => intro q Q' h; simp at h
 | cons a t ih =>
   intro q Q' h
   by_cases c : lessB a x = true
   · rw [List.dropWhile_cons_of_pos (p := fun y => lessB y x) c] at h
     exact ih q Q' h
   · rw [List.dropWhile_cons_of_neg (p := fun y => lessB y x) c] at h
     injection h with h _
     rw [← h]; exact c
open Classical in
theorem put_eq (l : List (Int × Int)) (x : Int × Int) : ∃ P Q, l = P ++ Q ∧ (∀ y ∈ P, lessB y x = true) ∧ (∀ q Q', Q = q :: Q' → ¬ lessB q x = true) ∧ putL l x = if ∃ Q', Q = x :: Q' then l else P ++ x :: Q := by
 refine ⟨l.takeWhile (fun y => lessB y x), l.dropWhile (fun y => lessB y x), (List.takeWhile_append_dropWhile).symm, fun y hy => tw_mem x l y hy, fun q Q' e => dw_head x l q Q' e, ?_⟩
 · have hl : l = l.takeWhile (fun y => lessB y x) ++ l.dropWhile (fun y => lessB y x) := (List.takeWhile_append_dropWhile).symm
   have ht : l.take (ahead l x) = l.takeWhile (fun y => lessB y x) := by
     have := List.take_left (l₁ := l.takeWhile (fun y => lessB y x)) (l₂ := l.dropWhile (fun y => lessB y x))
     rw [← hl] at this
     exact this
   have hd : l.drop (ahead l x) = l.dropWhile (fun y => lessB y x) := by
     have := List.drop_left (l₁ := l.takeWhile (fun y => lessB y x)) (l₂ := l.dropWhile (fun y => lessB y x))
     rw [← hl] at this
     exact this
   have hc : (ahead l x < l.length ∧ pe l (ahead l x) = x) ↔ ∃ Q', l.dropWhile (fun y => lessB y x) = x :: Q' := by
     rw [← hd]
     constructor
     · rintro ⟨h1, h2⟩
       refine ⟨l.drop (ahead l x + 1), ?_⟩
       rw [List.drop_eq_getElem_cons h1]
       have := pe_of h1
       rw [List.getElem?_eq_getElem h1, h2] at this
       rw [Option.some.inj this]
     · rintro ⟨Q', e⟩
       have h1 : ahead l x < l.length := by
         rcases Nat.lt_or_ge (ahead l x) l.length with h | h
         · exact h
         · rw [List.drop_of_length_le h] at e; cases e
       refine ⟨h1, ?_⟩
       rw [List.drop_eq_getElem_cons h1] at e
       injection e with e _
       have := pe_of h1
       rw [List.getElem?_eq_getElem h1, e] at this
       exact (Option.some.inj this).symm
   unfold putL
   rw [ht, hd]
   by_cases h : ahead l x < l.length ∧ pe l (ahead l x) = x
   · rw [if_pos h, if_pos (hc.1 h)]
   · rw [if_neg h, if_neg (fun e => h (hc.2 e))]
theorem put_up {l : List (Int × Int)} (h : Up l) (x : Int × Int) : Up (putL l x) ∧ ∀ y, y ∈ putL l x ↔ y ∈ l ∨ y = x := by
 obtain ⟨P, Q, e, h1, h2, h3⟩ := put_eq l x
 rw [h3]
 by_cases c : ∃ Q', Q = x :: Q'
 · rw [if_pos c]
   obtain ⟨Q', rfl⟩ := c
   refine ⟨h, fun y => ⟨.inl, fun k => ?_⟩⟩
   rcases k with k | rfl
   · exact k
   · rw [e]; simp
 · rw [if_neg c]
   subst e
   unfold Up at h ⊢
   rw [List.pairwise_append] at h ⊢
   obtain ⟨a1, a2, a3⟩ := h
   have hx : ∀ q ∈ Q, lessB x q = true := by
     cases Q with
     | nil => intro q hq; cases hq
     | cons q Q' =>
       rcases less_total (h2 q Q' rfl) with k | k
       · exact absurd ⟨Q', by rw [k]⟩ c
       · intro z hz
         rcases List.mem_cons.1 hz with rfl | hz
         · exact k
         · exact less_trans k ((List.pairwise_cons.1 a2).1 z hz)
   refine ⟨⟨a1, List.pairwise_cons.2 ⟨hx, a2⟩, fun p hp z hz => ?_⟩, fun y => by simp only [List.mem_append, List.mem_cons]; exact ⟨fun k => k.elim (fun a => .inl (.inl a)) (fun k => k.elim .inr (fun a => .inl (.inr a))), fun k => k.elim (fun k => k.elim .inl (fun a => .inr (.inr a))) (fun a => .inr (.inl a))⟩⟩
   rcases List.mem_cons.1 hz with rfl | hz
   · exact h1 p hp
   · exact a3 p hp z hz
def norm (p : Int × Int) : Int × Int := if p.1 < p.2 then p else (p.2, p.1)
theorem makeL_up (ps : List (Int × Int)) : Up (makeL ps) ∧ ∀ y, y ∈ makeL ps ↔ ∃ p ∈ ps, p.1 ≠ p.2 ∧ norm p = y := by
 have gen : ∀ (ps l : List (Int × Int)), Up l → Up (ps.foldl putPair l) ∧ ∀ y, y ∈ ps.foldl putPair l ↔ y ∈ l ∨ ∃ p ∈ ps, p.1 ≠ p.2 ∧ norm p = y := by
   intro ps
   induction ps with
   | nil => intro l h; exact ⟨h, fun y => by simp⟩
   | cons p t ih =>
     intro l h
     have hp : Up (putPair l p) ∧ ∀ y, y ∈ putPair l p ↔ y ∈ l ∨ (p.1 ≠ p.2 ∧ norm p = y) := by
       unfold putPair norm
       by_cases c : p.1 < p.2
       · rw [if_pos c]
         obtain ⟨a, b⟩ := put_up h p
         refine ⟨a, fun y => (b y).trans ⟨fun k => k.imp id (fun e => ⟨by omega, by rw [if_pos c]; exact e.symm⟩), fun k => k.imp id (fun e => by have := e.2; rw [if_pos c] at this; exact this.symm)⟩⟩
       · by_cases d : p.2 < p.1
         · rw [if_neg c, if_pos d]
           obtain ⟨a, b⟩ := put_up h (p.2, p.1)
           refine ⟨a, fun y => (b y).trans ⟨fun k => k.imp id (fun e => ⟨by omega, by rw [if_neg c]; exact e.symm⟩), fun k => k.imp id (fun e => by have := e.2; rw [if_neg c] at this; exact this.symm)⟩⟩
         · rw [if_neg c, if_neg d]
           exact ⟨h, fun y => ⟨.inl, fun k => k.elim id (fun e => absurd (show p.1 = p.2 by omega) e.1)⟩⟩
     obtain ⟨a, b⟩ := ih _ hp.1
     refine ⟨a, fun y => ?_⟩
     show y ∈ t.foldl putPair (putPair l p) ↔ _
     rw [b y, hp.2 y]
     constructor
     · rintro ((k | k) | ⟨q, hq, k⟩)
       · exact .inl k
       · exact .inr ⟨p, List.mem_cons_self, k⟩
       · exact .inr ⟨q, List.mem_cons_of_mem _ hq, k⟩
     · rintro (k | ⟨q, hq, k⟩)
       · exact .inl (.inl k)
       · rcases List.mem_cons.1 hq with rfl | hq
         · exact .inl (.inr k)
         · exact .inr ⟨q, hq, k⟩
 obtain ⟨a, b⟩ := gen ps [] List.Pairwise.nil
 exact ⟨a, fun y => by rw [show makeL ps = ps.foldl putPair [] from rfl, b y]; simp⟩
theorem Up.nodup {l : List (Int × Int)} (h : Up l) : l.Nodup := by
 unfold Up at h
 exact List.Pairwise.imp (fun {a b} hab => (fun e : a = b => less_irrefl b (by rw [e] at hab; exact hab))) h
theorem Up.ext {l m : List (Int × Int)} (h : Up l) (k : Up m) (e : ∀ y, y ∈ l ↔ y ∈ m) : l = m := by
 induction l generalizing m with
 | nil =>
   cases m with
   | nil => rfl
   | cons a t => exact absurd ((e a).2 (by simp)) (by simp)
 | cons a t ih =>
   cases m with
   | nil => exact absurd ((e a).1 (by simp)) (by simp)
   | cons b s =>
     obtain ⟨h1, h2⟩ := List.pairwise_cons.1 h
     obtain ⟨k1, k2⟩ := List.pairwise_cons.1 k
     have hab : a = b := by
       rcases List.mem_cons.1 ((e a).1 (by simp)) with c | c
       · exact c
       · rcases List.mem_cons.1 ((e b).2 (by simp)) with d | d
         · exact d.symm
         · exact absurd (less_trans (h1 b d) (k1 a c)) (less_irrefl a)
     subst hab
     congr 1
     refine ih h2 k2 (fun y => ⟨fun hy => ?_, fun hy => ?_⟩)
     · rcases List.mem_cons.1 ((e y).1 (List.mem_cons_of_mem _ hy)) with c | c
       · subst c; exact absurd (h1 y hy) (less_irrefl y)
       · exact c
     · rcases List.mem_cons.1 ((e y).2 (List.mem_cons_of_mem _ hy)) with c | c
       · subst c; exact absurd (k1 y hy) (less_irrefl y)
       · exact c
end Go.Proofs.Ytmikcfddipldnaa.Mk
namespace Go.Proofs.Ytmikcfddipldnaa.Mem
open Go.RowKit Go.Proofs.YtmikcfddipldnaaW.PrintWords Go.Proofs.YtmikcfddipldnaaW.PrintLast Go.Proofs.YtmikcfddipldnaaW.PrintMore
set_option linter.unusedVariables false
set_option linter.unusedSimpArgs false
theorem Rows2.app {w w1 : World} {B bo : Nat} {vs : List Value} {gs : List (List Int)} (h : Rows2 w B bo vs gs) {k : Nat} (hk : k < gs.length) {v' : Value} {x : Int}
   (hown : w1.ownsRow B 3 1 v' ((gl gs k).length + 1) (encs (Value.int .i64) (gl gs k) ++ [.int .i64 x])) (hg : w.grownBy w1 (va vs k).ownBlock) (hat : v'.ownBlock = (va vs k).ownBlock ∨ ∃ b, v'.ownBlock = some b ∧ w.heap.size ≤ b) :
   Rows2 (w1.setCell ⟨bo, k, none⟩ v') B bo (vs.set k v') (gs.set k (gl gs k ++ [x])) := by
 have hl := h.len
 have hbo := lt_of h.out
 obtain ⟨f, hf⟩ := h.col
 have ho1 : w1.heap[bo]? = some (.cells vs.toArray 36 (0, 0)) := (hg.block bo hbo (fun e => (hf k hk bo e.symm).2 rfl)).trans h.out
 have hnew : ∀ q, v'.ownBlock = some q → q ≠ bo := by
   intro q hq
   rcases hat with e | ⟨b, e, hb⟩
   · exact (hf k hk q (e ▸ hq)).2
   · rw [hq] at e; injection e with e; omega
 refine ⟨by simp [h.len], ?_, ?_, ⟨fun b => if v'.ownBlock = some b then k else f b, ?_⟩, by have := h.base; have := hg.size; simp [World.setCell]; omega⟩
 · rw [heap_set ho1]; simp
 · intro j hj
   rw [List.length_set] at hj
   rw [gl_set, va_set]
   by_cases hkj : k = j
   · subst hkj
     rw [if_pos ⟨rfl, by omega⟩, if_pos ⟨rfl, hj⟩]
     have e1 : encs (Value.int .i64) (gl gs k ++ [x]) = encs (Value.int .i64) (gl gs k) ++ [.int .i64 x] := by simp [encs]
     rw [List.length_append, List.length_singleton, e1]
     exact own_move hown (fun q hq => Below.heap_setCell _ _ _ _ (fun e => hnew q hq (by simpa using e)))
   · rw [if_neg (by simp [hkj]), if_neg (by simp [hkj])]
     refine own_move (h.own j hj) (fun q hq => ?_)
     have hq2 := (h.own j hj).lt q hq
     rw [Below.heap_setCell _ _ _ _ (fun e => (hf j hj q hq).2 (by simpa using e))]
     exact hg.block q hq2.2 (fun e => hkj (by rw [← (hf k hk q e.symm).1, ← (hf j hj q hq).1]))
 · intro j hj q hq
   rw [List.length_set] at hj
   rw [va_set] at hq
   by_cases hkj : k = j
   · subst hkj
     rw [if_pos ⟨rfl, by omega⟩] at hq
     exact ⟨by simp [hq], hnew q hq⟩
   · rw [if_neg (by simp [hkj])] at hq
     refine ⟨?_, (hf j hj q hq).2⟩
     show (if v'.ownBlock = some q then k else f q) = j
     rw [if_neg (fun e => ?_)]
     · exact (hf j hj q hq).1
     · rcases hat with e2 | ⟨b, e2, hb⟩
       · exact hkj (by rw [← (hf k hk q (e2 ▸ e)).1, ← (hf j hj q hq).1])
       · rw [e] at e2; injection e2 with e2
         have := ((h.own j hj).lt q hq).2
         omega
theorem Rows2.swap {w : World} {B bo : Nat} {vs : List Value} {gs : List (List Int)} (h : Rows2 w B bo vs gs) {k j : Nat} (hk : k < gs.length) (h0 : 0 < j) (hj : j < (gl gs k).length) :
   ∃ g c, va vs k = .slice (some ⟨g, 0, none⟩) (gl gs k).length c ∧ w.cell? ⟨g, 0, none⟩ = some (.int .i64 (gi (gl gs k) 0)) ∧ w.cell? ⟨g, j, none⟩ = some (.int .i64 (gi (gl gs k) j)) ∧ w.frozen? ⟨g, 0, none⟩ = false ∧ (w.setCell ⟨g, 0, none⟩ (.int .i64 (gi (gl gs k) j))).frozen? ⟨g, j, none⟩ = false ∧ w.frozen? ⟨g, j, none⟩ = false ∧ (w.setCell ⟨g, 0, none⟩ (.int .i64 (gi (gl gs k) j))).cell? ⟨g, j, none⟩ = some (.int .i64 (gi (gl gs k) j)) ∧ B ≤ g ∧ g ≠ bo ∧
     Rows2 ((w.setCell ⟨g, 0, none⟩ (.int .i64 (gi (gl gs k) j))).setCell ⟨g, j, none⟩ (.int .i64 (gi (gl gs k) 0))) B bo vs (gs.set k (((gl gs k).set 0 (gi (gl gs k) j)).set j (gi (gl gs k) 0))) := by
 obtain ⟨f, hf⟩ := h.col
 have ho := h.own k hk
 obtain ⟨row, hrow⟩ : ∃ row, row = gl gs k := ⟨_, rfl⟩
 rw [← hrow] at ho hj ⊢
 have hcell := fun (g : Nat) (hg : (va vs k).ownBlock = some g) (i : Nat) (hi : i < row.length) => ho.cells hg i (.int .i64 (gi row i)) (by unfold encs; rw [List.getElem?_map, gi_of hi]; rfl)
 rcases ho.2 with ⟨_, e2⟩ | ⟨g, cap, cur, e, hB, hh, hn, hm, hs, ht⟩
 · omega
 · have hg : (va vs k).ownBlock = some g := by rw [e]; rfl
   have c0 := hcell g hg 0 (by omega)
   have cj := hcell g hg j hj
   rw [add_plain] at c0 cj
   have ho1 := ho
   rw [e] at ho1
   have h1 := own_put_of (enc := Value.int .i64) ho1 ((0 : Nat) : Int) (gi row j)
   rw [Int.toNat_natCast, List.length_set] at h1
   have cj2 := h1.cells (g := g) rfl j (.int .i64 (gi row j)) (by unfold encs; rw [List.getElem?_map, List.getElem?_set, if_neg (by omega), gi_of hj]; rfl)
   rw [add_plain] at cj2
   refine ⟨g, cap, e, c0, cj, heap_free hh 0, heap_free (heap_set hh _) j, heap_free hh j, cj2, hB, (hf k hk g hg).2, ?_⟩
   have h2 := own_put_of (enc := Value.int .i64) (xs := row.set 0 (gi row j)) (cap := cap) (by rw [List.length_set]; exact h1) ((j : Nat) : Int) (gi row 0)
   rw [Int.toNat_natCast] at h2
   refine h.edit (by simp [World.setCell]) hk (fun b hb hne => ?_) (by rw [e]; simp only [List.length_set] at h2 ⊢; exact h2)
   have hbg : b ≠ g := fun e3 => hne (by rw [e3]; exact hg)
   rw [Below.heap_setCell _ _ _ _ (by simpa using hbg), Below.heap_setCell _ _ _ _ (by simpa using hbg)]
theorem take_out : ∀ (t : List Int) (j : Nat) (h : j < t.length), (t[j] :: t.eraseIdx j).Perm t
 | [], j, h => absurd h (by simp)
 | a :: t, 0, _ => List.Perm.refl _
 | a :: t, j + 1, h => by
   have h2 : j < t.length := by simpa using h
   have ih := take_out t j h2
   show (t[j] :: a :: t.eraseIdx j).Perm (a :: t)
   exact (List.Perm.swap _ _ _).trans (List.Perm.cons _ ih)
theorem swap_perm : ∀ (l : List Int) (j : Nat), 0 < j → j < l.length → ((l.set 0 (gi l j)).set j (gi l 0)).Perm l
 | [], j, _, h => absurd h (by simp)
 | a :: t, 0, h, _ => absurd h (by omega)
 | a :: t, j + 1, _, hj => by
   have hjt : j < t.length := by simpa using hj
   have e1 : gi (a :: t) (j + 1) = t[j] := by unfold gi; simp [List.getD_eq_getElem?_getD, hjt]
   have e2 : gi (a :: t) 0 = a := rfl
   rw [e1, e2]
   show (t[j] :: t.set j a).Perm (a :: t)
   have p1 := take_out t j hjt
   have p2 := take_out (t.set j a) j (by simpa using hjt)
   rw [List.getElem_set_self, List.eraseIdx_set_eq] at p2
   exact ((List.Perm.cons _ p2.symm).trans (List.Perm.swap _ _ _)).trans (List.Perm.cons _ p1)
end Go.Proofs.Ytmikcfddipldnaa.Mem
namespace Go.Proofs.Ytmikcfddipldnaa.Rot
open Go.RowKit Go.Proofs.YtmikcfddipldnaaW.PrintWords Go.Proofs.YtmikcfddipldnaaW.PrintLast Go.Proofs.YtmikcfddipldnaaW.PrintMore Go.Proofs.Ytmikcfddipldnaa.Mem
set_option linter.unusedVariables false
set_option linter.unusedSimpArgs false
def froms (es : List (Int × Int)) : List Int := es.flatMap fun e => [e.1, e.2]
theorem froms_length (es : List (Int × Int)) : (froms es).length = 2 * es.length := by
 induction es with
 | nil => rfl
 | cons e es ih => unfold froms at ih ⊢; rw [List.flatMap_cons, List.length_append, ih]; simp; omega
theorem froms_take {es : List (Int × Int)} {i : Nat} (h : i < es.length) : froms (es.take (i + 1)) = froms (es.take i) ++ [(pe es i).1, (pe es i).2] := by
 unfold froms
 rw [List.take_succ_eq_append_getElem h, List.flatMap_append]
 simp [pe, List.getD_eq_getElem?_getD, h]
theorem cell_two_new (w : World) (x y : Value) (t : TypeId) : ∀ j u, [x, y][j]? = some u → (w.alloc (.cells #[x, y] t)).cell? ((⟨w.heap.size, 0, none⟩ : Addr).add j) = some u := by
 intro j u hj
 rw [add_plain]
 exact heap_cell (heap_last w _) (by simpa using hj)
set_option maxHeartbeats 1000000 in
set_option maxRecDepth 100000 in
theorem begins_calls (n : Int) (A : Option Addr) (c : Nat) (es : List (Int × Int)) (w : World) (he : Pairs w A es) (hl : es.length ≤ 4194304) :
   Calls Try.prog 60 #[.agg #[.int .i64 n, .slice A es.length c]] w fun e w' => ∃ v, e = .returned v ∧ Kd.R (Kd.int .i64) 3 w' w.heap.size (fun _ => True) v (froms es) ∧ Below w.heap.size w w' := by
 have HE := Aside0.mk he
 have HB := Aside0.mk ((Below.refl w.heap.size w).alloc (Nat.le_refl _) (.cells #[.int .i64 n, .slice A es.length c] 24 (0, 0)))
 have HX := Aside0.mk (heap_last w (.cells #[.int .i64 n, .slice A es.length c] 24 (0, 0)))
 clear he
 have mk : ∀ W : World, (Instr.makeSlice 36 (.int .i64 0) (.int .i64 (2 * (es.length : Int)))).run Try.prog W = .ok (.slice (some ⟨W.heap.size, 0, none⟩) 0 (2 * es.length)) (W.alloc (.cells (madeCells #[.int .i64 0] (2 * es.length)) 3)) := by
   intro W
   obtain ⟨i0, hi, hz0, hz1, hz2⟩ := info_parts info_int
   have h := run_make (P := Try.prog) W 36 3 i0 (.int .i64 0) Try.underlying36 hi hz0 .i64 .i64 0 (2 * (es.length : Int)) (by omega) (by omega) (by rw [hz2]; omega) (by omega)
   rw [hz1, Nat.mul_one, show (2 * (es.length : Int)).toNat = 2 * es.length by omega] at h
   exact h
 have x1 : (w.alloc (.cells #[.int .i64 n, .slice A es.length c] 24 (0, 0))).cell? ⟨w.heap.size, 1, none⟩ = some (.slice A es.length c) := heap_cell HX.out rfl
 go_enter Try.func60, Try.ntmps60
 go_wp2_with fail
 clear mk
 have HB2 : Aside0 (Below w.heap.size w ((w.alloc (.cells #[.int .i64 n, .slice A es.length c] 24 (0, 0))).alloc (.cells (madeCells #[.int .i64 0] (2 * es.length)) 3))) := ⟨HB.out.alloc HB.out.size _⟩
 have HO : Aside0 (((w.alloc (.cells #[.int .i64 n, .slice A es.length c] 24 (0, 0))).alloc (.cells (madeCells #[.int .i64 0] (2 * es.length)) 3)).ownsRow w.heap.size 3 1 (.slice (some ⟨w.heap.size + 1, 0, none⟩) 0 (2 * es.length)) 0 []) := ⟨by
   have h := World.ownsRow_made (base := w.heap.size) (size := 1) (e := 3) (w.alloc (.cells #[.int .i64 n, .slice A es.length c] 24 (0, 0))) (madeCells #[.int .i64 0] (2 * es.length)) (2 * es.length) (by simp) (by unfold maxLen; omega) (by simp [size_madeCells])
   simpa using h⟩
 generalize (w.alloc (.cells #[.int .i64 n, .slice A es.length c] 24 (0, 0))).alloc (.cells (madeCells #[.int .i64 0] (2 * es.length)) 3) = w2 at HB2 HO ⊢
 clear HB HX x1
 obtain ⟨i0, hi0, hz0, hz1, hz2⟩ := info_parts info_int
 go_loopw [3, 14] (fun s y wr => ∃ (i : Nat) (B : Option Addr) (cc : Nat), s = .slice B (2 * i) cc ∧ y = .int .i64 (i : Int) ∧ i ≤ es.length ∧ Aside0 (wr.ownsRow w.heap.size 3 1 (.slice B (2 * i) cc) (froms (es.take i)).length (encs (Value.int .i64) (froms (es.take i)))) ∧ Aside0 (Below w.heap.size w wr)) (fun _ y _ => es.length - (intOf y).toNat)
 case atStart => exact ⟨0, _, _, rfl, rfl, by omega, HO, HB2⟩
 case round =>
   clear HO HB2
   obtain ⟨i, B, cc, rfl, rfl, hi, HO, HB⟩ := hrel
   by_cases hlt : i < es.length
   · obtain ⟨ad, eA, h1, h2⟩ := (HE.out.below HB.out) i hlt
     subst eA
     obtain ⟨x, hx⟩ : ∃ x, x = (pe es i).1 := ⟨_, rfl⟩
     obtain ⟨y, hy⟩ : ∃ y, y = (pe es i).2 := ⟨_, rfl⟩
     have HF := Aside0.mk (froms_take hlt)
     rw [← hx] at h1 HF
     rw [← hy] at h2 HF
     clear hx hy
     have hfl := froms_length (es.take i)
     rw [List.length_take, Nat.min_eq_left hi] at hfl
     have HFL := Aside0.mk hfl
     clear hfl
     rw [HFL.out] at HO
     have HO2 := Aside0.mk ((HO.out.alloc (.cells #[.int .i64 x, .int .i64 y] 56)).alloc (.cells #[.int .i64 x, .int .i64 y] 3))
     have HB2 := Aside0.mk ((HB.out.alloc HB.out.size (.cells #[.int .i64 x, .int .i64 y] 56)).alloc (by have := HB.out.size; simp; omega) (.cells #[.int .i64 x, .int .i64 y] 3))
     have hsz := HB.out.size
     go_wp2_with (at_builtin; go_loud (refine wpList_append_own_at _ rfl _ _ 36 rfl w.heap.size 3 i0 (.int .i64 0) 1 8 Try.underlying36 hi0 hz0 hz1 hz2 rfl (by decide) (.slice B (2 * i) cc) (2 * i) _ rfl HO2.out ⟨wr.heap.size + 1, 0, none⟩ 2 2 [.int .i64 x, .int .i64 y] rfl rfl ?c1 ?c2 ?c3 ?c4 ?c5 ?_))
     case c1 =>
       have := cell_two_new (wr.alloc (.cells #[.int .i64 x, .int .i64 y] 56)) (.int .i64 x) (.int .i64 y) 3
       simpa using this
     case c2 => intro u hu; simp at hu; rcases hu with rfl | rfl <;> rfl
     case c3 => unfold maxLen; omega
     case c4 => omega
     case c5 => simp; omega
     intro v' w3 hown hgrow _ hat
     obtain ⟨B', cc', rfl⟩ := own_slice hown
     rw [show 2 * i + 2 = 2 * (i + 1) by omega] at hown ⊢
     have HB3 := Aside0.mk (HB2.out.grown hgrow (by simp; omega) (fun k hk => (HO2.out.lt k hk).1))
     have HO3 : Aside0 (w3.ownsRow w.heap.size 3 1 (.slice B' (2 * (i + 1)) cc') (froms (es.take (i + 1))).length (encs (Value.int .i64) (froms (es.take (i + 1))))) := ⟨by
       have e : 2 * (i + 1) = (froms (es.take i) ++ [x, y]).length := by rw [List.length_append, HFL.out]; rfl
       rw [HF.out, ← e]
       simpa [encs] using hown⟩
     clear hown hgrow hat HO HO2 HB HB2 h1 h2
     go_wp2_with fail
     go_roundw
     case rel => exact ⟨i + 1, B', cc', rfl, by go_num, by omega, HO3, HB3⟩
     case measure => simp [intOf]; omega
   · obtain rfl : i = es.length := by omega
     go_wp2_with fail
     go_ret
     rw [List.take_length] at HO
     exact ⟨_, rfl, Kd.R_of_own HO.out (fun _ _ => trivial), HB.out⟩
end Go.Proofs.Ytmikcfddipldnaa.Rot
namespace Go.Proofs.Ytmikcfddipldnaa.Rot
open Go.RowKit Go.Proofs.YtmikcfddipldnaaW.PrintWords Go.Proofs.Ytmikcfddipldnaa.Mem
set_option linter.unusedVariables false
set_option linter.unusedSimpArgs false
def leaves (fr : List Int) (v : Int) (h : Int) : Bool := decide (h ≥ 0) && (decide (h < (fr.length : Int)) && (gi fr h.toNat == v))
def elems (fr : List Int) (v : Int) : List Int → List Bool → Except Int (List Bool)
 | [], S => .ok S
 | h :: t, S => if leaves fr v h = true then (if gb S h.toNat = true then .error 112 else elems fr v t (S.set h.toNat true)) else .error 111
def rows (fr ds : List Int) : Nat → List (List Int) → List Bool → Int × Int
 | _, [], _ => (0, 0)
 | v, row :: t, S => match elems fr v row S with
   | .error e => (v, e)
   | .ok S' => if (row.length : Int) = gi ds v then rows fr ds (v + 1) t S' else (v, 113)
def after (fr ds : List Int) (v : Nat) (row : List Int) (t : List (List Int)) : Except Int (List Bool) → Int × Int
 | .error e => (v, e)
 | .ok S' => if (row.length : Int) = gi ds v then rows fr ds (v + 1) t S' else (v, 113)
theorem after_ok (fr ds : List Int) (v : Nat) (row : List Int) (t : List (List Int)) (S' : List Bool) : after fr ds v row t (.ok S') = if (row.length : Int) = gi ds v then rows fr ds (v + 1) t S' else ((v : Int), 113) := rfl
theorem rows_cons (fr ds : List Int) (v : Nat) (row : List Int) (t : List (List Int)) (S : List Bool) : rows fr ds v (row :: t) S = after fr ds v row t (elems fr v row S) := by
 rw [rows]
 cases elems fr v row S <;> rfl
theorem elems_cons_no {fr : List Int} {v h : Int} {t : List Int} {S : List Bool} (hl : leaves fr v h = false) : elems fr v (h :: t) S = .error 111 := by simp [elems, hl]
theorem elems_cons_twice {fr : List Int} {v h : Int} {t : List Int} {S : List Bool} (hl : leaves fr v h = true) (hs : gb S h.toNat = true) : elems fr v (h :: t) S = .error 112 := by simp [elems, hl, hs]
theorem elems_cons {fr : List Int} {v h : Int} {t : List Int} {S : List Bool} (hl : leaves fr v h = true) (hs : gb S h.toNat = false) : elems fr v (h :: t) S = elems fr v t (S.set h.toNat true) := by simp [elems, hl, hs]
theorem elems_err (fr : List Int) (v : Int) : ∀ (l : List Int) (S : List Bool) (e : Int), elems fr v l S = .error e → e = 111 ∨ e = 112
 | [], S, e, h => by cases h
 | x :: l, S, e, h => by
   unfold elems at h
   split at h
   · split at h
     · injection h with h; exact .inr h.symm
     · exact elems_err fr v l _ e h
   · injection h with h; exact .inl h.symm
theorem rows_zero (fr ds : List Int) : ∀ (r : List (List Int)) (v : Nat) (S : List Bool), rows fr ds v r S = (0, 0) ∨ (rows fr ds v r S).2 ≠ 0
 | [], v, S => .inl rfl
 | row :: r, v, S => by
   rw [rows_cons]
   cases h : elems fr v row S with
   | error e =>
     right
     have := elems_err fr v row S e h
     show e ≠ 0
     omega
   | ok S' =>
     rw [after_ok]
     split
     · exact rows_zero fr ds r (v + 1) S'
     · right; show (113 : Int) ≠ 0; decide
def faultOf (n : Nat) (es : List (Int × Int)) (ds : List Int) (r : List (List Int)) : Int × Int :=
 if r.length = n then rows (froms es) ds 0 r (List.replicate (2 * es.length) false) else (0, 110)
theorem drop_row {r : List (List Int)} {v : Nat} (h : v < r.length) : r.drop v = gl r v :: r.drop (v + 1) := by
 rw [List.drop_eq_getElem_cons h]
 congr 1
 simp [gl, List.getD_eq_getElem?_getD, h]
theorem drop_int {r : List Int} {v : Nat} (h : v < r.length) : r.drop v = gi r v :: r.drop (v + 1) := by
 rw [List.drop_eq_getElem_cons h]
 congr 1
 simp [gi, List.getD_eq_getElem?_getD, h]
end Go.Proofs.Ytmikcfddipldnaa.Rot
namespace Go.Proofs.Ytmikcfddipldnaa.Rot
open Go.RowKit Go.Proofs.YtmikcfddipldnaaW.PrintWords Go.Proofs.Ytmikcfddipldnaa.Mem
set_option linter.unusedVariables false
set_option linter.unusedSimpArgs false
theorem nodup_subset {α : Type} [DecidableEq α] : ∀ (l m : List α), l.Nodup → (∀ x ∈ l, x ∈ m) → l.length ≤ m.length
 | [], m, _, _ => Nat.zero_le _
 | a :: l, m, hn, hs => by
   rw [List.nodup_cons] at hn
   have ha : a ∈ m := hs a (List.mem_cons_self ..)
   have h := nodup_subset l (m.erase a) hn.2 (fun x hx => by
     have hx2 := hs x (List.mem_cons_of_mem _ hx)
     exact (List.mem_erase_of_ne (fun e => hn.1 (by rw [← e]; exact hx))).2 hx2)
   rw [List.length_erase_of_mem ha] at h
   have := List.length_pos_of_mem ha
   simp; omega
theorem nodup_full {α : Type} [DecidableEq α] {l m : List α} (hn : l.Nodup) (hs : ∀ x ∈ l, x ∈ m) (hl : m.length ≤ l.length) {x : α} (hx : x ∈ m) : x ∈ l := by
 refine Decidable.byContradiction fun h => ?_
 have := nodup_subset (x :: l) m (List.nodup_cons.2 ⟨h, hn⟩) (fun y hy => by
   rcases List.mem_cons.1 hy with rfl | hy
   · exact hx
   · exact hs y hy)
 simp at this; omega
theorem leaves_iff {fr : List Int} {v h : Int} : leaves fr v h = true ↔ 0 ≤ h ∧ h < (fr.length : Int) ∧ gi fr h.toNat = v := by
 unfold leaves
 rw [Bool.and_eq_true, Bool.and_eq_true, decide_eq_true_eq, decide_eq_true_eq, beq_iff_eq]
theorem elems_ok {fr : List Int} {v : Int} : ∀ (row : List Int) (S S' : List Bool), S.length = fr.length → elems fr v row S = .ok S' →
   (∀ h ∈ row, leaves fr v h = true) ∧ row.Nodup ∧ (∀ h ∈ row, gb S h.toNat = false) ∧ S'.length = fr.length ∧ ∀ j : Nat, gb S' j = (gb S j || decide ((j : Int) ∈ row))
 | [], S, S', hl, h => by
   injection h with h
   subst h
   exact ⟨by simp, List.nodup_nil, by simp, hl, fun j => by simp⟩
 | h :: t, S, S', hl, he => by
   cases hlv : leaves fr v h with
   | false => rw [elems_cons_no hlv] at he; cases he
   | true =>
     cases hs : gb S h.toNat with
     | true => rw [elems_cons_twice hlv hs] at he; cases he
     | false =>
       rw [elems_cons hlv hs] at he
       obtain ⟨h1, h2, h3, h4, h5⟩ := elems_ok t _ S' (by rw [List.length_set]; exact hl) he
       obtain ⟨l1, l2, l3⟩ := leaves_iff.1 hlv
       have hne : ∀ x ∈ t, x ≠ h ∧ gb S x.toNat = false := by
         intro x hx
         have := h3 x hx
         rw [gb_set] at this
         by_cases e : h.toNat = x.toNat ∧ x.toNat < S.length
         · rw [if_pos e] at this; cases this
         · rw [if_neg e] at this
           refine ⟨fun e2 => e ⟨by rw [e2], by rw [e2, hl]; omega⟩, this⟩
       refine ⟨?_, ?_, ?_, h4, fun j => ?_⟩
       · intro x hx
         rcases List.mem_cons.1 hx with rfl | hx
         · exact hlv
         · exact h1 x hx
       · rw [List.nodup_cons]
         exact ⟨fun hx => (hne h hx).1 rfl, h2⟩
       · intro x hx
         rcases List.mem_cons.1 hx with rfl | hx
         · exact hs
         · exact (hne x hx).2
       · rw [h5, gb_set]
         by_cases e : h.toNat = j
         · have e2 : h = (j : Int) := by omega
           rw [if_pos ⟨e, by rw [hl]; omega⟩]
           simp [e2]
         · have e2 : ¬ (j : Int) = h := fun x => e (by omega)
           rw [if_neg (fun x => e x.1)]
           simp [e2]
theorem elems_mk {fr : List Int} {v : Int} : ∀ (row : List Int) (S : List Bool), S.length = fr.length → (∀ h ∈ row, leaves fr v h = true) → row.Nodup → (∀ h ∈ row, gb S h.toNat = false) → ∃ S', elems fr v row S = .ok S'
 | [], S, _, _, _, _ => ⟨S, rfl⟩
 | h :: t, S, hl, h1, h2, h3 => by
   rw [elems_cons (h1 h (List.mem_cons_self ..)) (h3 h (List.mem_cons_self ..))]
   rw [List.nodup_cons] at h2
   refine elems_mk t _ (by rw [List.length_set]; exact hl) (fun x hx => h1 x (List.mem_cons_of_mem _ hx)) h2.2 (fun x hx => ?_)
   rw [gb_set]
   obtain ⟨l1, _, _⟩ := leaves_iff.1 (h1 h (List.mem_cons_self ..))
   obtain ⟨m1, _, _⟩ := leaves_iff.1 (h1 x (List.mem_cons_of_mem _ hx))
   rw [if_neg]
   · exact h3 x (List.mem_cons_of_mem _ hx)
   · rintro ⟨e, _⟩
     exact h2.1 (by rw [show h = x by omega]; exact hx)
def RowOk (fr ds : List Int) (v : Nat) (row : List Int) : Prop := (∀ h ∈ row, leaves fr v h = true) ∧ row.Nodup ∧ (row.length : Int) = gi ds v
theorem rows_ok {fr ds : List Int} {r : List (List Int)} (d : Nat) : ∀ (v : Nat) (S : List Bool), v + d = r.length → S.length = fr.length → (∀ j : Nat, gb S j = true → ∃ u, u < v ∧ leaves fr u (j : Int) = true) →
   (rows fr ds v (r.drop v) S = (0, 0) ↔ ∀ u, v ≤ u → u < r.length → RowOk fr ds u (gl r u)) := by
 induction d with
 | zero =>
   intro v S hv hl hm
   rw [List.drop_of_length_le (by omega)]
   exact ⟨fun _ u h1 h2 => by omega, fun _ => rfl⟩
 | succ d ih =>
   intro v S hv hl hm
   have hlt : v < r.length := by omega
   rw [drop_row hlt, rows_cons]
   constructor
   · intro h
     cases he : elems fr v (gl r v) S with
     | error e =>
       rw [he] at h
       have h2 : ((v : Int), e) = (0, 0) := h
       have := elems_err fr v _ S e he
       simp only [Prod.mk.injEq] at h2
       omega
     | ok S' =>
       rw [he, after_ok] at h
       obtain ⟨e1, e2, e3, e4, e5⟩ := elems_ok _ S S' hl he
       by_cases hd : ((gl r v).length : Int) = gi ds v
       · rw [if_pos hd] at h
         have h3 := (ih (v + 1) S' (by omega) e4 (fun j hj => ?_)).1 h
         · intro u hu1 hu2
           rcases Nat.eq_or_lt_of_le hu1 with rfl | hu
           · exact ⟨e1, e2, hd⟩
           · exact h3 u hu hu2
         · rw [e5, Bool.or_eq_true, decide_eq_true_eq] at hj
           rcases hj with hj | hj
           · obtain ⟨u, h1, h2⟩ := hm j hj
             exact ⟨u, by omega, h2⟩
           · exact ⟨v, by omega, e1 _ hj⟩
       · rw [if_neg hd] at h
         simp only [Prod.mk.injEq] at h
         omega
   · intro h
     obtain ⟨h1, h2, h3⟩ := h v (Nat.le_refl _) hlt
     obtain ⟨S', he⟩ := elems_mk (gl r v) S hl h1 h2 (fun x hx => by
       cases hb : gb S x.toNat with
       | false => rfl
       | true =>
         obtain ⟨u, hu, hlu⟩ := hm _ hb
         obtain ⟨a1, a2, a3⟩ := leaves_iff.1 (h1 x hx)
         obtain ⟨b1, b2, b3⟩ := leaves_iff.1 hlu
         rw [Int.toNat_natCast] at b3
         omega)
     obtain ⟨e1, e2, e3, e4, e5⟩ := elems_ok _ S S' hl he
     rw [he, after_ok, if_pos h3]
     refine (ih (v + 1) S' (by omega) e4 (fun j hj => ?_)).2 (fun u hu1 hu2 => h u (by omega) hu2)
     rw [e5, Bool.or_eq_true, decide_eq_true_eq] at hj
     rcases hj with hj | hj
     · obtain ⟨u, h1, h2⟩ := hm j hj
       exact ⟨u, by omega, h2⟩
     · exact ⟨v, by omega, e1 _ hj⟩
theorem gb_none (n j : Nat) : gb (List.replicate n false) j = false := by
 unfold gb
 by_cases h : j < n <;> simp [List.getD_eq_getElem?_getD, List.getElem?_replicate, h]
theorem rows_none {fr ds : List Int} {r : List (List Int)} : rows fr ds 0 r (List.replicate fr.length false) = (0, 0) ↔ ∀ u, u < r.length → RowOk fr ds u (gl r u) := by
 have h := rows_ok (fr := fr) (ds := ds) (r := r) r.length 0 (List.replicate fr.length false) (by omega) (by simp) (fun j hj => by rw [gb_none] at hj; cases hj)
 rw [List.drop_zero] at h
 exact h.trans ⟨fun h u hu => h u (Nat.zero_le _) hu, fun h u _ hu => h u hu⟩
def leaving (fr : List Int) (v : Nat) : List Int := ((List.range fr.length).filter fun j => gi fr j == (v : Int)).map fun (j : Nat) => (j : Int)
theorem mem_leaving {fr : List Int} {v : Nat} {h : Int} : h ∈ leaving fr v ↔ leaves fr v h = true := by
 unfold leaving
 rw [leaves_iff, List.mem_map]
 constructor
 · rintro ⟨j, hj, rfl⟩
   rw [List.mem_filter, List.mem_range, beq_iff_eq] at hj
   exact ⟨by omega, by omega, by rw [Int.toNat_natCast]; exact hj.2⟩
 · rintro ⟨h1, h2, h3⟩
   exact ⟨h.toNat, by rw [List.mem_filter, List.mem_range, beq_iff_eq]; exact ⟨by omega, h3⟩, by omega⟩
theorem leaving_nodup (fr : List Int) (v : Nat) : (leaving fr v).Nodup := by
 unfold leaving
 refine List.pairwise_map.2 ((List.Pairwise.filter _ List.nodup_range).imp fun {a b} h e => h (by omega))
structure IsRot (fr : List Int) (n : Nat) (r : List (List Int)) : Prop where
 len : r.length = n
 nodup : ∀ v, v < n → (gl r v).Nodup
 mem : ∀ v, v < n → ∀ h, h ∈ gl r v ↔ leaves fr v h = true
theorem isRot_of {fr ds : List Int} {n : Nat} {r : List (List Int)} (hl : r.length = n) (hd : ∀ v, v < n → gi ds v = ((leaving fr v).length : Int)) : rows fr ds 0 r (List.replicate fr.length false) = (0, 0) ↔ IsRot fr n r := by
 rw [rows_none]
 constructor
 · intro h
   refine ⟨hl, fun v hv => (h v (by omega)).2.1, fun v hv x => ⟨(h v (by omega)).1 x, fun hx => ?_⟩⟩
   obtain ⟨h1, h2, h3⟩ := h v (by omega)
   rw [hd v hv] at h3
   exact nodup_full h2 (fun y hy => mem_leaving.2 (h1 y hy)) (by omega) (mem_leaving.2 hx)
 · intro h v hv
   have hv2 : v < n := by omega
   refine ⟨fun x hx => (h.mem v hv2 x).1 hx, h.nodup v hv2, ?_⟩
   rw [hd v hv2]
   have h1 := nodup_subset (gl r v) (leaving fr v) (h.nodup v hv2) (fun x hx => mem_leaving.2 ((h.mem v hv2 x).1 hx))
   have h2 := nodup_subset (leaving fr v) (gl r v) (leaving_nodup fr v) (fun x hx => (h.mem v hv2 x).2 (mem_leaving.1 hx))
   omega
end Go.Proofs.Ytmikcfddipldnaa.Rot
namespace Go.Proofs.Ytmikcfddipldnaa.Seen
open Go.RowKit Go.Proofs.YtmikcfddipldnaaW.PrintWords Go.Proofs.YtmikcfddipldnaaW.PrintLast Go.Proofs.YtmikcfddipldnaaW.PrintMore Go.Proofs.Ytmikcfddipldnaa.Mem
set_option linter.unusedVariables false
set_option linter.unusedSimpArgs false
def tw (h : Int) : Int := Go.bits .xor .i64 h 1
def it (nx : List Int) (h : Int) : Nat → Int
 | 0 => h
 | j + 1 => gi nx (it nx h j).toNat
def per (nx : List Int) (h : Int) : Nat := (((List.range nx.length).find? fun j => it nx h (j + 1) == h).map (· + 1)).getD 0
structure St where
 num : List Int
 ent : List Int
 ord : List Int
 cd : List Int
def stepH (tos : List Int) (s : St) (h : Int) : St :=
 if gi s.num (gi tos h.toNat).toNat < 0 then ⟨s.num.set (gi tos h.toNat).toNat s.ord.length, s.ent ++ [tw h], s.ord ++ [gi tos h.toNat], s.cd ++ [(s.ord.length : Int)]⟩
 else ⟨s.num, s.ent, s.ord, s.cd ++ [gi s.num (gi tos h.toNat).toNat]⟩
def turn (nx tos : List Int) (s : St) (h : Int) : Nat → St
 | 0 => s
 | j + 1 => stepH tos (turn nx tos s h j) (it nx h j)
def vert (nx tos : List Int) (s : St) (h : Int) : St :=
 { turn nx tos { s with cd := [] } h (per nx h) with cd := s.cd ++ ((per nx h : Nat) : Int) :: (turn nx tos { s with cd := [] } h (per nx h)).cd }
def upto (nx tos : List Int) (s : St) : Nat → St
 | 0 => s
 | k + 1 => if k < (upto nx tos s k).ent.length then vert nx tos (upto nx tos s k) (gi (upto nx tos s k).ent k) else upto nx tos s k
def start (n : Nat) (tos : List Int) (root : Int) (v : Int) : St := ⟨(List.replicate n (-1)).set v.toNat 0, [root], [v], []⟩
def all (n : Nat) (nx tos : List Int) (root : Int) : St := upto nx tos (start n tos root (gi tos (tw root).toNat)) n
def inR (x : Int) (m : Nat) : Bool := decide (0 ≤ x ∧ x < (m : Int))
def fit (n : Nat) (nx tos : List Int) : Bool := decide (n ≤ 1048576 ∧ nx.length ≤ 8388608 ∧ tos.length = nx.length) &&
 (List.range nx.length).all fun h => inR (gi nx h) nx.length && inR (gi tos h) n && inR (tw (h : Nat)) nx.length && decide (0 < per nx (h : Nat))
structure Fit (n : Nat) (nx tos : List Int) : Prop where
 hn : n ≤ 1048576
 hm : nx.length ≤ 8388608
 ht : tos.length = nx.length
 hnx : ∀ h, h < nx.length → 0 ≤ gi nx h ∧ gi nx h < (nx.length : Int)
 htos : ∀ h, h < nx.length → 0 ≤ gi tos h ∧ gi tos h < (n : Int)
 htw : ∀ h : Nat, h < nx.length → 0 ≤ tw (h : Int) ∧ tw (h : Int) < (nx.length : Int)
 hper : ∀ h : Nat, h < nx.length → 0 < per nx (h : Int)
def neg (l : List Int) : Nat := (l.filter fun x => decide (x < 0)).length
theorem neg_set : ∀ (l : List Int) (i : Nat) (x : Int), i < l.length → gi l i < 0 → 0 ≤ x → neg (l.set i x) + 1 = neg l
 | [], i, x, h, _, _ => by simp at h
 | a :: l, 0, x, h, h1, h2 => by
   have h1 : a < 0 := h1
   unfold neg
   simp only [List.set_cons_zero]
   rw [List.filter_cons_of_neg (by simpa using h2), List.filter_cons_of_pos (by simpa using h1)]
   rfl
 | a :: l, i + 1, x, h, h1, h2 => by
   have ih := neg_set l i x (by simpa using h) h1 h2
   unfold neg at ih ⊢
   simp only [List.set_cons_succ, List.filter_cons]
   split
   · simp only [List.length_cons]; omega
   · exact ih
theorem neg_all (n : Nat) : neg (List.replicate n (-1)) = n := by
 unfold neg
 rw [List.filter_eq_self.2 (fun x hx => by rw [List.eq_of_mem_replicate hx]; rfl), List.length_replicate]
structure Ok (n m : Nat) (s : St) : Prop where
 num : s.num.length = n
 ent : s.ent.length = s.ord.length
 cnt : s.ord.length + neg s.num = n
 inE : ∀ i, i < s.ent.length → 0 ≤ gi s.ent i ∧ gi s.ent i < (m : Int)
 inO : ∀ i, i < s.ord.length → 0 ≤ gi s.ord i ∧ gi s.ord i < (n : Int)
theorem gi_app {x : List Int} {h : Int} {i : Nat} : gi (x ++ [h]) i = if i < x.length then gi x i else if i = x.length then h else 0 := by
 unfold gi
 rw [List.getD_eq_getElem?_getD, List.getD_eq_getElem?_getD]
 by_cases c : i < x.length
 · rw [if_pos c, List.getElem?_append_left c]
 · rw [if_neg c, List.getElem?_append_right (by omega)]
   by_cases d : i = x.length
   · subst d; simp
   · rw [if_neg d, List.getElem?_eq_none (by simp; omega)]; rfl
theorem Ok.step {n : Nat} {nx tos : List Int} (hf : Fit n nx tos) {s : St} (h : Ok n nx.length s) {q : Int} (h0 : 0 ≤ q) (h1 : q < (nx.length : Int)) : Ok n nx.length (stepH tos s q) := by
 obtain ⟨p, rfl⟩ := Int.eq_ofNat_of_zero_le h0
 have hp : p < nx.length := by omega
 have ht := hf.htos p hp
 have hw := hf.htw p hp
 unfold stepH
 rw [Int.toNat_natCast]
 by_cases c : gi s.num (gi tos p).toNat < 0
 · rw [if_pos c]
   have hl : (gi tos p).toNat < s.num.length := by rw [h.num]; omega
   have hn := neg_set s.num (gi tos p).toNat (s.ord.length : Int) hl c (by omega)
   have hc := h.cnt
   have hE := h.ent
   refine ⟨by simp [h.num], by simp [hE], by simp only [List.length_append, List.length_singleton]; omega, fun i hi => ?_, fun i hi => ?_⟩
   · simp only [List.length_append, List.length_singleton] at hi
     simp only [gi_app]
     by_cases d : i < s.ent.length
     · rw [if_pos d]; exact h.inE i d
     · rw [if_neg d, if_pos (by omega)]; exact hw
   · simp only [List.length_append, List.length_singleton] at hi
     simp only [gi_app]
     by_cases d : i < s.ord.length
     · rw [if_pos d]; exact h.inO i d
     · rw [if_neg d, if_pos (by omega)]; exact ht
 · rw [if_neg c]
   exact ⟨h.num, h.ent, h.cnt, h.inE, h.inO⟩
theorem it_in {n : Nat} {nx tos : List Int} (hf : Fit n nx tos) {q : Int} (h0 : 0 ≤ q) (h1 : q < (nx.length : Int)) : ∀ j, 0 ≤ it nx q j ∧ it nx q j < (nx.length : Int)
 | 0 => ⟨h0, h1⟩
 | j + 1 => by
   obtain ⟨a, b⟩ := it_in hf h0 h1 j
   exact hf.hnx _ (by omega)
theorem Ok.cd {n m : Nat} {s : St} (h : Ok n m s) (c : List Int) : Ok n m { s with cd := c } := ⟨h.num, h.ent, h.cnt, h.inE, h.inO⟩
theorem Ok.turn {n : Nat} {nx tos : List Int} (hf : Fit n nx tos) {s : St} (h : Ok n nx.length s) {q : Int} (h0 : 0 ≤ q) (h1 : q < (nx.length : Int)) : ∀ j, Ok n nx.length (turn nx tos s q j)
 | 0 => h
 | j + 1 => (Ok.turn hf h h0 h1 j).step hf (it_in hf h0 h1 j).1 (it_in hf h0 h1 j).2
theorem Ok.vert {n : Nat} {nx tos : List Int} (hf : Fit n nx tos) {s : St} (h : Ok n nx.length s) {q : Int} (h0 : 0 ≤ q) (h1 : q < (nx.length : Int)) : Ok n nx.length (vert nx tos s q) := (Ok.turn hf (h.cd []) h0 h1 _).cd _
theorem Ok.upto {n : Nat} {nx tos : List Int} (hf : Fit n nx tos) {s : St} (h : Ok n nx.length s) : ∀ k, Ok n nx.length (upto nx tos s k)
 | 0 => h
 | k + 1 => by
   have ih := Ok.upto hf h k
   unfold Seen.upto
   split
   · rename_i hk; exact ih.vert hf (ih.inE k hk).1 (ih.inE k hk).2
   · exact ih
theorem Ok.le {n m : Nat} {s : St} (h : Ok n m s) : s.ent.length ≤ n := by have := h.cnt; have := h.ent; omega
theorem Ok.start {n m : Nat} {tos : List Int} {root v : Int} (hr : 0 ≤ root ∧ root < (m : Int)) (hv : 0 ≤ v ∧ v < (n : Int)) : Ok n m (start n tos root v) := by
 obtain ⟨i, rfl⟩ := Int.eq_ofNat_of_zero_le hv.1
 have h1 : i < n := by omega
 have h2 : gi (List.replicate n (-1)) i < 0 := by
   unfold gi
   rw [List.getD_eq_getElem?_getD, List.getElem?_replicate, if_pos h1]; decide
 have h3 := neg_set (List.replicate n (-1)) i 0 (by simpa using h1) h2 (by omega)
 rw [neg_all] at h3
 refine ⟨by simp [Seen.start], rfl, ?_, fun j hj => ?_, fun j hj => ?_⟩
 · show 1 + neg ((List.replicate n (-1)).set i 0) = n
   omega
 · have : j = 0 := by simpa [Seen.start] using hj
   subst this; exact hr
 · have : j = 0 := by simpa [Seen.start] using hj
   subst this; exact hv
end Go.Proofs.Ytmikcfddipldnaa.Seen
namespace Go.Proofs.Ytmikcfddipldnaa.Graph
open Go.RowKit Go.Proofs.YtmikcfddipldnaaW.PrintWords Go.Proofs.YtmikcfddipldnaaW.PrintLast Go.Proofs.YtmikcfddipldnaaW.PrintMore Go.Proofs.Ytmikcfddipldnaa.Mem Go.Proofs.Ytmikcfddipldnaa.Rot
set_option linter.unusedVariables false
set_option linter.unusedSimpArgs false
theorem froms_two : ∀ (es : List (Int × Int)) (i : Nat), i < es.length → gi (froms es) (2 * i) = (pe es i).1 ∧ gi (froms es) (2 * i + 1) = (pe es i).2
 | [], i, h => by simp at h
 | e :: es, 0, _ => ⟨rfl, rfl⟩
 | e :: es, i + 1, h => by
   have ih := froms_two es i (by simpa using h)
   have e1 : froms (e :: es) = e.1 :: e.2 :: froms es := rfl
   have e2 : pe (e :: es) (i + 1) = pe es i := by unfold pe; simp
   rw [e1, e2, show 2 * (i + 1) = 2 * i + 1 + 1 by omega]
   exact ih
def tosL (es : List (Int × Int)) : List Int := es.flatMap fun e => [e.2, e.1]
end Go.Proofs.Ytmikcfddipldnaa.Graph
namespace Go.Proofs.Ytmikcfddipldnaa.Seen
open Go.RowKit Go.Proofs.YtmikcfddipldnaaW.PrintWords Go.Proofs.YtmikcfddipldnaaW.PrintLast Go.Proofs.YtmikcfddipldnaaW.PrintMore Go.Proofs.Ytmikcfddipldnaa.Mem
set_option linter.unusedVariables false
set_option linter.unusedSimpArgs false
theorem xor_one2 (q : Nat) : q ^^^ 1 = if q % 2 = 0 then q + 1 else q - 1 := by
 have h1 : (q ^^^ 1) / 2 = q / 2 := by rw [Nat.xor_div_two]; simp
 have h2 : (q ^^^ 1) % 2 = (q + 1) % 2 := by
   have h := Nat.xor_mod_two_pow (a := q) (b := 1) (n := 1)
   rw [show 2 ^ 1 = 2 from rfl] at h
   rw [h]
   rcases Nat.mod_two_eq_zero_or_one q with e | e <;> rw [e] <;> simp <;> omega
 split <;> omega
theorem tw_nat {q : Nat} (h : q ≤ 9000000) : tw (q : Int) = ((if q % 2 = 0 then q + 1 else q - 1 : Nat) : Int) := by
 unfold tw Go.bits
 have e : (BitVec.ofInt IntKind.i64.bits (q : Int) ^^^ BitVec.ofInt IntKind.i64.bits 1).toNat = q ^^^ 1 := by
   rw [BitVec.toNat_xor, BitVec.toNat_ofInt, BitVec.toNat_ofInt]
   have hb : IntKind.i64.bits = 64 := rfl
   rw [hb]
   have e1 : ((q : Int) % (2 ^ 64 : Nat)).toNat = q := by omega
   have e2 : ((1 : Int) % (2 ^ 64 : Nat)).toNat = 1 := by omega
   rw [e1, e2]
 simp only [e]
 rw [xor_one2, IntWalk.i64_in _ (by split <;> omega)]
end Go.Proofs.Ytmikcfddipldnaa.Seen
namespace Go.Proofs.Ytmikcfddipldnaa.Graph
open Go.RowKit Go.Proofs.YtmikcfddipldnaaW.PrintWords Go.Proofs.YtmikcfddipldnaaW.PrintLast Go.Proofs.YtmikcfddipldnaaW.PrintMore Go.Proofs.Ytmikcfddipldnaa.Mem Go.Proofs.Ytmikcfddipldnaa.Rot
set_option linter.unusedVariables false
set_option linter.unusedSimpArgs false
def cntF (fr : List Int) (m : Nat) (v : Int) : Nat := ((List.range m).filter fun j => gi fr j == v).length
end Go.Proofs.Ytmikcfddipldnaa.Graph
namespace Go.Proofs.Ytmikcfddipldnaa.ValH
open Go.RowKit Go.Proofs.YtmikcfddipldnaaW.PrintWords Go.Proofs.YtmikcfddipldnaaW.PrintLast Go.Proofs.YtmikcfddipldnaaW.PrintMore Go.Proofs.Ytmikcfddipldnaa.Mem
set_option linter.unusedVariables false
set_option linter.unusedSimpArgs false
abbrev P2 := Int × Int
def okP (n : Int) (p : P2) : Bool := decide (0 ≤ p.1 ∧ p.1 < p.2 ∧ p.2 < n)
def ltP (p q : P2) : Bool := decide (p.1 < q.1 ∨ (p.1 = q.1 ∧ p.2 < q.2))
def goodRest (n : Int) : List P2 → Bool
 | [] => true
 | [p] => okP n p
 | p :: q :: t => okP n p && (ltP p q && goodRest n (q :: t))
def goodB (n : Int) (es : List P2) : Bool := decide (0 ≤ n ∧ n ≤ 1048576 ∧ es.length ≤ 4194304) && goodRest n es
def OkAt (n : Int) (es : List P2) (i : Nat) : Prop := okP n (pe es i) = true ∧ (0 < i → ltP (pe es (i - 1)) (pe es i) = true)
theorem pe_succ (p : P2) (es : List P2) (i : Nat) : pe (p :: es) (i + 1) = pe es i := by unfold pe; simp
theorem pe_zero (p : P2) (es : List P2) : pe (p :: es) 0 = p := by unfold pe; simp
theorem goodRest_iff (n : Int) : ∀ es : List P2, goodRest n es = true ↔ ∀ i, i < es.length → OkAt n es i
 | [] => ⟨fun _ i h => absurd h (by simp), fun _ => rfl⟩
 | [p] => by
   constructor
   · intro h i hi
     have : i = 0 := by simpa using hi
     subst this
     exact ⟨by rw [pe_zero]; exact h, fun h => absurd h (by omega)⟩
   · intro h
     have := (h 0 (by simp)).1
     rw [pe_zero] at this
     exact this
 | p :: q :: t => by
   have ih := goodRest_iff n (q :: t)
   show (okP n p && (ltP p q && goodRest n (q :: t))) = true ↔ _
   rw [Bool.and_eq_true, Bool.and_eq_true, ih]
   constructor
   · rintro ⟨h1, h2, h3⟩ i hi
     cases i with
     | zero => exact ⟨by rw [pe_zero]; exact h1, fun h => absurd h (by omega)⟩
     | succ i =>
       have := h3 i (by simpa using hi)
       refine ⟨by rw [pe_succ]; exact this.1, fun _ => ?_⟩
       cases i with
       | zero => rw [pe_succ, pe_zero]; exact h2
       | succ i =>
         have h4 := this.2 (by omega)
         rw [Nat.add_sub_cancel] at h4 ⊢
         rw [pe_succ, pe_succ]; exact h4
   · intro h
     have h0 := h 0 (by simp)
     have h1 := h 1 (by simp)
     have h01 := h0.1
     rw [pe_zero] at h01
     refine ⟨h01, ?_, fun i hi => ?_⟩
     · have := h1.2 (by omega)
       rw [Nat.sub_self, pe_zero, pe_succ p (q :: t) 0, pe_zero] at this
       exact this
     · have h2 := h (i + 1) (by simpa using hi)
       rw [OkAt, pe_succ] at h2
       refine ⟨h2.1, fun h3 => ?_⟩
       have := h2.2 (by omega)
       rw [show i + 1 - 1 = (i - 1) + 1 by omega, pe_succ] at this
       exact this
theorem goodB_iff (n : Int) (es : List P2) : goodB n es = true ↔ 0 ≤ n ∧ n ≤ 1048576 ∧ es.length ≤ 4194304 ∧ ∀ i, i < es.length → OkAt n es i := by
 unfold goodB
 rw [Bool.and_eq_true, decide_eq_true_eq, goodRest_iff]
 constructor
 · rintro ⟨⟨a, b, c⟩, d⟩; exact ⟨a, b, c, d⟩
 · rintro ⟨a, b, c, d⟩; exact ⟨⟨a, b, c⟩, d⟩
theorem goodB_no {n : Int} {es : List P2} (h : ¬ (0 ≤ n ∧ n ≤ 1048576 ∧ es.length ≤ 4194304 ∧ ∀ i, i < es.length → OkAt n es i)) : goodB n es = false := by
 cases e : goodB n es with
 | false => rfl
 | true => exact absurd ((goodB_iff n es).1 e) h
theorem below_drewN {B : Nat} {w w' : World} (h : Below B w w') (n : Nat) : Below B w (w'.drewN n) := ⟨h.os, h.tape, h.output, h.size, h.block⟩
def cmpI (a b c d : Int) : Int := if a = c then b - d else a - c
theorem cmpI_lt {a b c d : Int} : cmpI a b c d < 0 ↔ ltP (a, b) (c, d) = true := by
 unfold cmpI ltP
 rw [decide_eq_true_eq]
 split <;> simp only <;> omega
set_option maxHeartbeats 1000000 in
set_option maxRecDepth 100000 in
theorem compare_calls (a b c d : Int) (w : World) (ha : 0 ≤ a ∧ a ≤ 1048576) (hb : 0 ≤ b ∧ b ≤ 1048576) (hc : 0 ≤ c ∧ c ≤ 1048576) (hd : 0 ≤ d ∧ d ≤ 1048576) :
   Calls Try.prog 52 #[.agg #[.int .i64 a, .int .i64 b], .agg #[.int .i64 c, .int .i64 d]] w fun e w' => e = .returned (.int .i64 (cmpI a b c d)) ∧ Below w.heap.size w w' := by
 by_cases h : a = c
 · have t : (a != c) = false := bne_eq_false_iff_eq.2 h
   have HE : Aside0 (cmpI a b c d = b - d) := ⟨by unfold cmpI; rw [if_pos h]⟩
   have q : IntKind.i64.wrap (b - d) = b - d := IntWalk.i64_in _ (by omega)
   clear h
   go_enter Try.func52, Try.ntmps52
   go_wp2_with fail
   go_ret
   exact ⟨by rw [HE.out]; first | rfl | (congr 2), ((Below.refl _ _).alloc (Nat.le_refl _) _).alloc (by simp) _⟩
 · have t : (a != c) = true := bne_iff_ne.2 h
   have HE : Aside0 (cmpI a b c d = a - c) := ⟨by unfold cmpI; rw [if_neg h]⟩
   have q : IntKind.i64.wrap (a - c) = a - c := IntWalk.i64_in _ (by omega)
   clear h
   go_enter Try.func52, Try.ntmps52
   go_wp2_with fail
   go_ret
   exact ⟨by rw [HE.out]; first | rfl | (congr 2), ((Below.refl _ _).alloc (Nat.le_refl _) _).alloc (by simp) _⟩
set_option maxHeartbeats 4000000 in
set_option maxRecDepth 100000 in
theorem simple_calls (n : Int) (A : Option Addr) (c : Nat) (es : List P2) (w : World) (he : Pairs w A es) (hc : es.length ≤ c) :
   Calls Try.prog 35 #[.agg #[.int .i64 n, .slice A es.length c]] w fun e w' => e = .returned (.bool (goodB n es)) ∧ Below w.heap.size w w' := by
 have HE := Aside0.mk he
 have HB := Aside0.mk ((Below.refl w.heap.size w).alloc (Nat.le_refl _) (.cells #[.int .i64 n, .slice A es.length c] 24 (0, 0)))
 have HX := Aside0.mk (heap_last w (.cells #[.int .i64 n, .slice A es.length c] 24 (0, 0)))
 clear he
 have x0 : (w.alloc (.cells #[.int .i64 n, .slice A es.length c] 24 (0, 0))).cell? ⟨w.heap.size, 0, none⟩ = some (.int .i64 n) := heap_cell HX.out rfl
 have x1 : (w.alloc (.cells #[.int .i64 n, .slice A es.length c] 24 (0, 0))).cell? ⟨w.heap.size, 1, none⟩ = some (.slice A es.length c) := heap_cell HX.out rfl
 by_cases h0 : 0 ≤ n ∧ n ≤ 1048576 ∧ es.length ≤ 4194304
 · obtain ⟨h0, h1, h2⟩ := h0
   have t0 : decide (n < 0) = false := decide_eq_false (by omega)
   have t1 : decide (1048576 < n) = false := decide_eq_false (by omega)
   have t2 : decide (4194304 < (es.length : Int)) = false := decide_eq_false (by omega)
   go_enter Try.func35, Try.ntmps35
   go_wp2_with fail
   obtain ⟨W0, hW0⟩ : ∃ W0, W0 = w.alloc (.cells #[.int .i64 n, .slice A es.length c] 24 (0, 0)) := ⟨_, rfl⟩
   rw [← hW0] at HB HX ⊢
   obtain ⟨bg, hbg⟩ : ∃ bg, bg = w.heap.size := ⟨_, rfl⟩
   rw [← hbg] at HX ⊢
   have HBG := Aside0.mk hbg
   clear hbg hW0 x0 x1
   have HP0 : Aside0 (∀ j, j < 0 → OkAt n es j) := ⟨fun j h => absurd h (by omega)⟩
   go_loopw [22] (fun y wr => ∃ (i : Nat), y = .int .i64 (i : Int) ∧ i ≤ es.length ∧ Aside0 (∀ j, j < i → OkAt n es j) ∧ Aside0 (Below w.heap.size w wr) ∧ Aside0 (wr.heap[bg]? = some (.cells #[.int .i64 n, .slice A es.length c] 24 (0, 0)))) (fun y _ => es.length - (intOf y).toNat)
   case atStart => exact ⟨0, rfl, by omega, HP0, HB, HX⟩
   case round =>
     clear HP0 HB HX
     obtain ⟨i, rfl, hi, HP, HB, HX⟩ := hrel
     by_cases hlt : i < es.length
     · obtain ⟨ad, eA, y1, y2⟩ := (HE.out.below HB.out) i hlt
       subst eA
       have HPR : Aside0 (0 < i → ∃ p, i = p + 1 ∧ OkAt n es p ∧ wr.cell? (ad.add (p * 2)) = some (.int .i64 (pe es p).1) ∧ wr.cell? ⟨(ad.add (p * 2)).block, (ad.add (p * 2)).off + 1, none⟩ = some (.int .i64 (pe es p).2)) := ⟨fun h => by
         obtain ⟨ad', e', z1, z2⟩ := (HE.out.below HB.out) (i - 1) (by omega)
         obtain rfl : ad = ad' := by simpa using e'
         exact ⟨i - 1, by omega, HP.out _ (by omega), z1, z2⟩⟩
       obtain ⟨u, hu⟩ : ∃ u, u = (pe es i).1 := ⟨_, rfl⟩
       obtain ⟨v, hv⟩ : ∃ v, v = (pe es i).2 := ⟨_, rfl⟩
       rw [← hu] at y1
       rw [← hv] at y2
       have HUV : Aside0 (pe es i = (u, v)) := ⟨by rw [hu, hv]⟩
       clear hu hv
       have HBAD : Aside0 (¬ OkAt n es i → goodB n es = false) := ⟨fun h => goodB_no (fun g => h (g.2.2.2 i hlt))⟩
       have HX2 := Aside0.mk (heap_old HX.out (.cells #[.int .i64 u, .int .i64 v] 56 (0, 0)))
       have HB2 := Aside0.mk (HB.out.alloc HB.out.size (.cells #[.int .i64 u, .int .i64 v] 56 (0, 0)))
       have HY2 := Aside0.mk (heap_last wr (.cells #[.int .i64 u, .int .i64 v] 56 (0, 0)))
       go_wp2_with fail
       clear y1 y2
       have x0 : (wr.alloc (.cells #[.int .i64 u, .int .i64 v] 56 (0, 0))).cell? ⟨bg, 0, none⟩ = some (.int .i64 n) := heap_cell HX2.out rfl
       have x1 : (wr.alloc (.cells #[.int .i64 u, .int .i64 v] 56 (0, 0))).cell? ⟨bg, 1, none⟩ = some (.slice (some ad) es.length c) := heap_cell HX2.out rfl
       have x2 : (wr.alloc (.cells #[.int .i64 u, .int .i64 v] 56 (0, 0))).cell? ⟨wr.heap.size, 0, none⟩ = some (.int .i64 u) := heap_cell HY2.out rfl
       have x3 : (wr.alloc (.cells #[.int .i64 u, .int .i64 v] 56 (0, 0))).cell? ⟨wr.heap.size, 1, none⟩ = some (.int .i64 v) := heap_cell HY2.out rfl
       have HBX : Aside0 (∀ b, b < wr.heap.size → (wr.alloc (.cells #[.int .i64 u, .int .i64 v] 56 (0, 0))).heap[b]? = wr.heap[b]?) := ⟨fun b hb => Below.heap_alloc _ _ _ hb⟩
       generalize wr.alloc (.cells #[.int .i64 u, .int .i64 v] 56 (0, 0)) = w2 at HX2 HB2 HY2 HBX x0 x1 x2 x3 ⊢
       obtain ⟨be, hbe⟩ : ∃ be, be = wr.heap.size := ⟨_, rfl⟩
       rw [← hbe] at x2 x3 HY2 HBX ⊢
       have HBE := Aside0.mk hbe
       clear hbe
       by_cases a0 : u < 0
       · have HG := Aside0.mk (HBAD.out (fun h => by have := h.1; rw [HUV.out] at this; unfold okP at this; rw [decide_eq_true_eq] at this; simp only at this; omega))
         have t3 : decide (u < 0) = true := decide_eq_true a0
         go_quiet (fail)
         go_wp2_with fail
         go_ret
         exact ⟨by rw [HG.out]; rfl, below_drewN HB2.out _⟩
       have t3 : decide (u < 0) = false := decide_eq_false a0
       by_cases a1 : v ≤ u
       · have HG := Aside0.mk (HBAD.out (fun h => by have := h.1; rw [HUV.out] at this; unfold okP at this; rw [decide_eq_true_eq] at this; simp only at this; omega))
         have t4 : decide (v ≤ u) = true := decide_eq_true a1
         go_quiet (fail)
         go_wp2_with fail
         go_ret
         exact ⟨by rw [HG.out]; rfl, below_drewN HB2.out _⟩
       have t4 : decide (v ≤ u) = false := decide_eq_false a1
       by_cases a2 : n ≤ v
       · have HG := Aside0.mk (HBAD.out (fun h => by have := h.1; rw [HUV.out] at this; unfold okP at this; rw [decide_eq_true_eq] at this; simp only at this; omega))
         have t5 : decide (n ≤ v) = true := decide_eq_true a2
         go_quiet (fail)
         go_wp2_with fail
         go_ret
         exact ⟨by rw [HG.out]; rfl, below_drewN HB2.out _⟩
       have t5 : decide (n ≤ v) = false := decide_eq_false a2
       have HOK : Aside0 (okP n (pe es i) = true) := ⟨by rw [HUV.out]; unfold okP; rw [decide_eq_true_eq]; simp only; omega⟩
       by_cases a3 : 0 < i
       · obtain ⟨p, hp, hop, z1, z2⟩ := HPR.out a3
         have t6 : decide (0 < (i : Int)) = true := decide_eq_true (by omega)
         obtain ⟨u', hu⟩ : ∃ u', u' = (pe es p).1 := ⟨_, rfl⟩
         obtain ⟨v', hv⟩ : ∃ v', v' = (pe es p).2 := ⟨_, rfl⟩
         rw [← hu] at z1
         rw [← hv] at z2
         have HUV' : Aside0 (pe es p = (u', v')) := ⟨by rw [hu, hv]⟩
         have hr : 0 ≤ u' ∧ u' < v' ∧ v' < n := by
           have := hop.1
           rw [HUV'.out] at this
           unfold okP at this
           simpa using this
         obtain ⟨hr0, hr1, hr2⟩ := hr
         have z1' : w2.cell? (ad.add (p * 2)) = some (.int .i64 u') := by
           rw [World.cell?, HBX.out _ (by rw [HBE.out]; exact cell_lt z1)]; exact z1
         have z2' : w2.cell? ⟨(ad.add (p * 2)).block, (ad.add (p * 2)).off + 1, none⟩ = some (.int .i64 v') := by
           rw [World.cell?, HBX.out _ (by rw [HBE.out]; exact cell_lt z2)]; exact z2
         have q1 : IntKind.i64.wrap ((i : Int) - 1) = (p : Int) := by rw [IntWalk.i64_in _ (by omega)]; omega
         have hpl : p < es.length := by omega
         have HP2 := Aside0.mk hp
         clear hu hv hop hp z1 z2
         go_still_tail 28, (by kernel_rfl)
         have HB3 : Aside0 (Below w.heap.size w w2.drew) := ⟨HB2.out.drew⟩
         have HX3 : Aside0 (w2.drew.heap[bg]? = some (.cells #[.int .i64 n, .slice (some ad) es.length c] 24 (0, 0))) := ⟨HX2.out⟩
         change wpList _ _ _ _ _ w2.drew
         generalize w2.drew = w3 at HB3 HX3 ⊢
         clear x0 x1 x2 x3 z1' z2' HB2 HX2 HY2 HBX
         by_cases hlt2 : ltP (u', v') (u, v) = true
         · have hz := cmpI_lt.2 hlt2
           have t7 : decide (0 ≤ cmpI u' v' u v) = false := decide_eq_false (by omega)
           have HP3 : Aside0 (∀ j, j < i + 1 → OkAt n es j) := ⟨fun j hj => by
             rcases Nat.lt_succ_iff_lt_or_eq.1 hj with g | rfl
             · exact HP.out j g
             · exact ⟨HOK.out, fun h => by rw [show j - 1 = p by have := HP2.out; omega, HUV.out, HUV'.out]; exact hlt2⟩⟩
           clear hz hlt2
           go_wp2_with (go_at_call 52; refine (compare_calls u' v' u v _ (by omega) (by omega) (by omega) (by omega)).mono ?_; rintro e w4 ⟨rfl, hb⟩)
           have HX4 := Aside0.mk ((hb.block _ (lt_of HX3.out)).trans HX3.out)
           have HB4 := Aside0.mk (HB3.out.trans (hb.mono HB3.out.size))
           clear hb HX3 HB3
           go_wp2_with fail
           go_roundw
           case rel => exact ⟨i + 1, by go_num, by omega, HP3, HB4, HX4⟩
           case measure => simp [intOf]; omega
         · have HG := Aside0.mk (HBAD.out (fun h => hlt2 (by
             have := h.2 a3
             rw [show i - 1 = p by have := HP2.out; omega, HUV.out, HUV'.out] at this
             exact this)))
           have hz : ¬ cmpI u' v' u v < 0 := fun h => hlt2 (cmpI_lt.1 h)
           have t7 : decide (0 ≤ cmpI u' v' u v) = true := decide_eq_true (by omega)
           clear hz hlt2
           go_wp2_with (go_at_call 52; refine (compare_calls u' v' u v _ (by omega) (by omega) (by omega) (by omega)).mono ?_; rintro e w4 ⟨rfl, hb⟩)
           have HB4 := Aside0.mk (HB3.out.trans (hb.mono HB3.out.size))
           clear hb HB3
           go_wp2_with fail
           go_ret
           exact ⟨by rw [HG.out]; rfl, HB4.out⟩
       · have t6 : decide (0 < (i : Int)) = false := decide_eq_false (by omega)
         have HP2 : Aside0 (∀ j, j < i + 1 → OkAt n es j) := ⟨fun j hj => by
           rcases Nat.lt_succ_iff_lt_or_eq.1 hj with g | rfl
           · exact HP.out j g
           · exact ⟨HOK.out, fun h => absurd h a3⟩⟩
         go_quiet (fail)
         go_wp2_with fail
         go_roundw
         case rel => exact ⟨i + 1, by go_num, by omega, HP2, ⟨below_drewN HB2.out _⟩, ⟨HX2.out⟩⟩
         case measure => simp [intOf]; omega
     · obtain rfl : i = es.length := by omega
       have HG := Aside0.mk ((goodB_iff n es).2 ⟨h0, h1, h2, HP.out⟩)
       go_wp2_with fail
       go_ret
       exact ⟨by rw [HG.out]; rfl, HB.out⟩
 · have HG := Aside0.mk (goodB_no (n := n) (es := es) (fun h => h0 ⟨h.1, h.2.1, h.2.2.1⟩))
   by_cases a0 : n < 0
   · have t0 : decide (n < 0) = true := decide_eq_true a0
     clear h0
     go_enter Try.func35, Try.ntmps35
     go_wp2_with fail
     go_ret
     exact ⟨by rw [HG.out]; rfl, HB.out⟩
   · have t0 : decide (n < 0) = false := decide_eq_false a0
     by_cases a1 : 1048576 < n
     · have t1 : decide (1048576 < n) = true := decide_eq_true a1
       clear h0
       go_enter Try.func35, Try.ntmps35
       go_wp2_with fail
       go_ret
       exact ⟨by rw [HG.out]; rfl, HB.out⟩
     · have t1 : decide (1048576 < n) = false := decide_eq_false a1
       have t2 : decide (4194304 < (es.length : Int)) = true := decide_eq_true (by omega)
       clear h0
       go_enter Try.func35, Try.ntmps35
       go_wp2_with fail
       go_ret
       exact ⟨by rw [HG.out]; rfl, HB.out⟩
set_option maxHeartbeats 1000000 in
set_option maxRecDepth 100000 in
theorem less_calls (a b c d : Int) (w : World) :
   Calls Try.prog 55 #[.agg #[.int .i64 a, .int .i64 b], .agg #[.int .i64 c, .int .i64 d]] w fun e w' => e = .returned (.bool (ltP (a, b) (c, d))) ∧ Below w.heap.size w w' := by
 by_cases h : a < c
 · have t : decide (a < c) = true := decide_eq_true h
   have HE : Aside0 (ltP (a, b) (c, d) = true) := ⟨decide_eq_true (Or.inl h)⟩
   clear h
   go_enter Try.func55, Try.ntmps55
   go_wp2_with fail
   go_ret
   exact ⟨by rw [HE.out]; rfl, ((Below.refl _ _).alloc (Nat.le_refl _) _).alloc (by simp) _⟩
 · have t : decide (a < c) = false := decide_eq_false h
   by_cases h2 : a = c
   · have t2 : (a == c) = true := beq_iff_eq.2 h2
     have HE : Aside0 (ltP (a, b) (c, d) = decide (b < d)) := ⟨by unfold ltP; rw [decide_eq_decide]; simp only; omega⟩
     clear h h2
     go_enter Try.func55, Try.ntmps55
     go_wp2_with fail
     go_ret
     exact ⟨by rw [HE.out]; rfl, ((Below.refl _ _).alloc (Nat.le_refl _) _).alloc (by simp) _⟩
   · have t2 : (a == c) = false := beq_eq_false_iff_ne.2 h2
     have HE : Aside0 (ltP (a, b) (c, d) = false) := ⟨by unfold ltP; rw [decide_eq_false_iff_not]; simp only; omega⟩
     clear h h2
     go_enter Try.func55, Try.ntmps55
     go_wp2_with fail
     go_ret
     exact ⟨by rw [HE.out]; rfl, ((Below.refl _ _).alloc (Nat.le_refl _) _).alloc (by simp) _⟩
end Go.Proofs.Ytmikcfddipldnaa.ValH
namespace Go.Proofs.Ytmikcfddipldnaa.Graph
open Go.RowKit Go.Proofs.YtmikcfddipldnaaW.PrintWords Go.Proofs.YtmikcfddipldnaaW.PrintLast Go.Proofs.YtmikcfddipldnaaW.PrintMore Go.Proofs.Ytmikcfddipldnaa.Mem Go.Proofs.Ytmikcfddipldnaa.Rot
set_option linter.unusedVariables false
set_option linter.unusedSimpArgs false
theorem leaving_cntF (fr : List Int) (v : Nat) : (leaving fr v).length = cntF fr fr.length v := by unfold leaving cntF; rw [List.length_map]
theorem mem_gi2 {l : List Int} {x : Int} (h : x ∈ l) : ∃ j, j < l.length ∧ gi l j = x := by
 obtain ⟨j, hj, e⟩ := List.getElem_of_mem h
 exact ⟨j, hj, by unfold gi; rw [List.getD_eq_getElem?_getD, List.getElem?_eq_getElem hj]; exact e⟩
theorem take_gi {l : List Int} {j : Nat} (h : j < l.length) : l.take (j + 1) = l.take j ++ [gi l j] := by
 rw [List.take_succ_eq_append_getElem h]
 unfold gi
 rw [List.getD_eq_getElem?_getD, List.getElem?_eq_getElem h]; rfl
structure EInv (fr ds : List Int) (v : Nat) (row : List Int) (rest : List (List Int)) (T : List Bool) (i : Nat) (res : Int × Int) : Prop where
 len : T.length = fr.length
 lv : ∀ j, j < i → leaves fr v (gi row j) = true
 nd : (row.take i).Nodup
 m1 : ∀ q : Nat, gb T q = true → (∃ u, u < v ∧ leaves fr u (q : Int) = true) ∨ (q : Int) ∈ row.take i
 m2 : ∀ q : Nat, (q : Int) ∈ row.take i → gb T q = true
 res : after fr ds v row rest (elems fr v (row.drop i) T) = res
section
variable {fr ds : List Int} {v : Nat} {row : List Int} {rest : List (List Int)} {T : List Bool} {i : Nat} {res : Int × Int}
theorem EInv.seen (h : EInv fr ds v row rest T i res) (hi : i < row.length) (hl : leaves fr v (gi row i) = true) : gb T (gi row i).toNat = true ↔ gi row i ∈ row.take i := by
 obtain ⟨l1, l2, l3⟩ := leaves_iff.1 hl
 obtain ⟨q, hq⟩ := Int.eq_ofNat_of_zero_le l1
 constructor
 · intro g
   rcases h.m1 _ g with ⟨u, h1, h2⟩ | g2
   · obtain ⟨_, _, h3⟩ := leaves_iff.1 h2
     rw [Int.toNat_natCast] at h3
     omega
   · rw [hq, Int.toNat_natCast] at g2
     rw [hq]; exact g2
 · intro g
   exact h.m2 _ (by rw [hq, Int.toNat_natCast]; rw [hq] at g; exact g)
theorem EInv.twice (h : EInv fr ds v row rest T i res) (hi : i < row.length) (hl : leaves fr v (gi row i) = true) (hm : gi row i ∈ row.take i) : res = ((v : Int), 112) := by
 rw [← h.res, drop_int hi, elems_cons_twice hl ((h.seen hi hl).2 hm)]; rfl
theorem EInv.step (h : EInv fr ds v row rest T i res) (hi : i < row.length) (hl : leaves fr v (gi row i) = true) (hm : gi row i ∉ row.take i) : EInv fr ds v row rest (T.set (gi row i).toNat true) (i + 1) res := by
 obtain ⟨l1, l2, l3⟩ := leaves_iff.1 hl
 have hs : gb T (gi row i).toNat = false := by
   cases e : gb T (gi row i).toNat with
   | false => rfl
   | true => exact absurd ((h.seen hi hl).1 e) hm
 have hlen := h.len
 refine ⟨by rw [List.length_set]; exact h.len, fun j hj => ?_, ?_, fun p hp => ?_, fun p hp => ?_, ?_⟩
 · rcases Nat.lt_succ_iff_lt_or_eq.1 hj with g | rfl
   · exact h.lv j g
   · exact hl
 · rw [take_gi hi, List.nodup_append]
   refine ⟨h.nd, by simp, fun a ha b hb2 => ?_⟩
   rw [List.mem_singleton] at hb2
   rintro rfl
   exact hm (by rw [← hb2]; exact ha)
 · rw [gb_set] at hp
   rw [take_gi hi]
   by_cases c : (gi row i).toNat = p ∧ p < T.length
   · right
     rw [show (p : Int) = gi row i by omega]
     simp
   · rw [if_neg c] at hp
     rcases h.m1 p hp with g | g
     · exact .inl g
     · exact .inr (List.mem_append_left _ g)
 · rw [take_gi hi, List.mem_append, List.mem_singleton] at hp
   rw [gb_set]
   by_cases c : (gi row i).toNat = p ∧ p < T.length
   · rw [if_pos c]
   · rw [if_neg c]
     rcases hp with g | g
     · exact h.m2 p g
     · exact absurd ⟨by omega, by omega⟩ c
 · rw [← h.res, drop_int hi, elems_cons hl hs]
theorem EInv.lvs (h : EInv fr ds v row rest T row.length res) : ∀ x ∈ row, leaves fr v x = true := by
 intro x hx
 obtain ⟨j, hj, rfl⟩ := mem_gi2 hx
 exact h.lv j hj
theorem EInv.le (h : EInv fr ds v row rest T row.length res) : row.length ≤ cntF fr fr.length v := by
 have h1 := h.nd
 rw [List.take_length] at h1
 have := nodup_subset row (leaving fr v) h1 (fun x hx => mem_leaving.2 (h.lvs x hx))
 rw [leaving_cntF] at this
 exact this
theorem EInv.done (h : EInv fr ds v row rest T row.length res) (hd : gi ds v = ((cntF fr fr.length v : Nat) : Int)) (hlt : ¬ row.length < cntF fr fr.length v) : T.length = fr.length ∧ (∀ q : Nat, gb T q = true → ∃ u, u < v + 1 ∧ leaves fr u (q : Int) = true) ∧ rows fr ds (v + 1) rest T = res := by
 have h1 := h.res
 have h2 := h.le
 rw [List.drop_length, show elems fr v [] T = .ok T from rfl, after_ok, if_pos (by omega)] at h1
 refine ⟨h.len, fun q hq => ?_, h1⟩
 rcases h.m1 q hq with ⟨u, a, b⟩ | g
 · exact ⟨u, by omega, b⟩
 · rw [List.take_length] at g
   exact ⟨v, by omega, h.lvs _ g⟩
theorem EInv.start {S : List Bool} (h1 : S.length = fr.length) (h2 : ∀ q : Nat, gb S q = true → ∃ u, u < v ∧ leaves fr u (q : Int) = true) (h3 : rows fr ds v (row :: rest) S = res) : EInv fr ds v row rest S 0 res :=
 ⟨h1, fun j hj => absurd hj (by omega), by simp, fun q hq => .inl (h2 q hq), fun q hq => by simp at hq, by rw [List.drop_zero, ← rows_cons]; exact h3⟩
end
def degs (es : List (Int × Int)) (n : Nat) : List Int := (List.range n).map fun (v : Nat) => ((cntF (froms es) (2 * es.length) (v : Int) : Nat) : Int)
theorem gi_degs {es : List (Int × Int)} {n v : Nat} (h : v < n) : gi (degs es n) v = ((cntF (froms es) (froms es).length (v : Int) : Nat) : Int) := by
 unfold gi degs
 rw [froms_length]
 simp [List.getD_eq_getElem?_getD, h]
def checkR (n : Int) (es : List (Int × Int)) (r : List (List Int)) : Int × Int :=
 if ValH.goodB n es = true then (if (r.length : Int) = n then rows (froms es) (degs es n.toNat) 0 r (List.replicate (2 * es.length) false) else (0, 110)) else (0, 1)
end Go.Proofs.Ytmikcfddipldnaa.Graph
namespace Go.Proofs.Ytmikcfddipldnaa.Face
open Go.RowKit Go.Proofs.YtmikcfddipldnaaW.PrintWords Go.Proofs.YtmikcfddipldnaaW.PrintLast Go.Proofs.YtmikcfddipldnaaW.PrintMore Go.Proofs.Ytmikcfddipldnaa.Mem
set_option linter.unusedVariables false
set_option linter.unusedSimpArgs false
def goFace (st : List Int) : Nat → List Bool → List Int → Int → List Bool × List Int
 | 0, S, f, k => (S, f)
 | n + 1, S, f, k => if gb S k.toNat = true then (S, f) else goFace st n (S.set k.toNat true) (f ++ [k]) (gi st k.toNat)
def facesTo (st : List Int) (M : Nat) : Nat → List Bool × List (List Int)
 | 0 => (List.replicate M false, [])
 | h + 1 => if gb (facesTo st M h).1 h = true then facesTo st M h else ((goFace st M (facesTo st M h).1 [] (h : Int)).1, (facesTo st M h).2 ++ [(goFace st M (facesTo st M h).1 [] (h : Int)).2])
def facesL (st : List Int) : List (List Int) := (facesTo st st.length st.length).2
def left (S : List Bool) : Nat := S.countP fun b => !b
theorem left_le (S : List Bool) : left S ≤ S.length := List.countP_le_length
theorem left_set : ∀ (S : List Bool) (i : Nat), i < S.length → gb S i = false → left (S.set i true) + 1 = left S
 | [], i, h, _ => absurd h (by simp)
 | b :: S, 0, _, h => by
   have : b = false := h
   subst this
   simp [left]
 | b :: S, i + 1, h, e => by
   have ih := left_set S i (by simpa using h) e
   unfold left at ih ⊢
   rw [List.set_cons_succ, List.countP_cons, List.countP_cons]
   omega
theorem left_zero {S : List Bool} (h : left S = 0) {i : Nat} (hi : i < S.length) : gb S i = true := by
 cases e : gb S i with
 | true => rfl
 | false => have := left_set S i hi e; omega
structure Fits (st : List Int) : Prop where
 len : st.length ≤ 8388608
 inn : ∀ i, i < st.length → 0 ≤ gi st i ∧ gi st i < (st.length : Int)
def fitsB (st : List Int) : Bool := decide (st.length ≤ 8388608) && st.all fun x => decide (0 ≤ x ∧ x < (st.length : Int))
theorem goFace_len {st : List Int} : ∀ (n : Nat) (S : List Bool) (f : List Int) (k : Int), (goFace st n S f k).1.length = S.length
 | 0, _, _, _ => rfl
 | n + 1, S, f, k => by
   unfold goFace
   split
   · rfl
   · rw [goFace_len n]; simp
theorem facesTo_len (st : List Int) (M : Nat) : ∀ h, (facesTo st M h).1.length = M ∧ (facesTo st M h).2.length ≤ h
 | 0 => by simp [facesTo]
 | h + 1 => by
   obtain ⟨h1, h2⟩ := facesTo_len st M h
   unfold facesTo
   split
   · exact ⟨h1, by omega⟩
   · refine ⟨by simp only; rw [goFace_len]; exact h1, by simp; omega⟩
end Go.Proofs.Ytmikcfddipldnaa.Face
namespace Go.Proofs.Ytmikcfddipldnaa.Face
open Go.RowKit Go.Proofs.YtmikcfddipldnaaW.PrintWords Go.Proofs.YtmikcfddipldnaaW.PrintLast Go.Proofs.YtmikcfddipldnaaW.PrintMore Go.Proofs.Ytmikcfddipldnaa.Mem
set_option linter.unusedVariables false
set_option linter.unusedSimpArgs false
def ListsPost (fs : List (List Int)) (e0 : Int) (w : World) (e : Ending) (w' : World) : Prop := ∃ v0_ : Value, e = .returned (.tuple #[v0_, .int .i64 e0]) ∧ Kd.S (Kd.slice 3 (Kd.int .i64)) 36 w' w.heap.size (fun _ => True) v0_ fs ∧ Below w.heap.size w w'
def StepSays (st : List Int) (e0 n : Int) (A : Option Addr) (m c : Nat) (Ar : Option Addr) (mr cr : Nat) (w : World) : Prop := ∀ W : World, Below w.heap.size w W →
 Calls Try.prog 31 #[.agg #[.int .i64 n, .slice A m c], .slice Ar mr cr] W fun e w' => ∃ v, e = .returned (.tuple #[v, .int .i64 e0]) ∧ Kd.R (Kd.int .i64) 3 w' W.heap.size (fun _ => True) v st ∧ Below W.heap.size W w'
def lenOf : Value → Nat
 | .slice _ n _ => n
 | _ => 0
abbrev KL : Kd (List Int) := Kd.slice 3 (Kd.int .i64)
set_option maxHeartbeats 1000000 in
set_option maxRecDepth 100000 in
theorem of_bad (n : Int) (A : Option Addr) (m c0 : Nat) (Ar : Option Addr) (mr cr : Nat) (e0 : Int) (he : e0 ≠ 0) (st : List Int) (w : World) (hst : StepSays st e0 n A m c0 Ar mr cr w) :
   Calls Try.prog 13 #[.agg #[.int .i64 n, .slice A m c0], .slice Ar mr cr] w fun e w' => ListsPost [] e0 w e w' := by
 have HST := Aside0.mk hst
 clear hst
 have HB := Aside0.mk ((Below.refl w.heap.size w).alloc (Nat.le_refl _) (.cells #[.int .i64 n, .slice A m c0] 24 (0, 0)))
 have HX := Aside0.mk (heap_last w (.cells #[.int .i64 n, .slice A m c0] 24 (0, 0)))
 have x0 : (w.alloc (.cells #[.int .i64 n, .slice A m c0] 24 (0, 0))).cell? ⟨w.heap.size, 0, none⟩ = some (.int .i64 n) := heap_cell HX.out rfl
 have x1 : (w.alloc (.cells #[.int .i64 n, .slice A m c0] 24 (0, 0))).cell? ⟨w.heap.size, 1, none⟩ = some (.slice A m c0) := heap_cell HX.out rfl
 have t1 : (e0 != 0) = true := bne_iff_ne.2 he
 go_enter Try.func13, Try.ntmps13
 go_wp2_with fail
 clear x0 x1
 generalize w.alloc (.cells #[.int .i64 n, .slice A m c0] 24 (0, 0)) = w1 at HX HB ⊢
 obtain ⟨bg, hbg⟩ : ∃ bg, bg = w.heap.size := ⟨_, rfl⟩
 rw [← hbg] at HX ⊢
 clear hbg
 refine (HST.out w1 HB.out).mono ?_
 rintro e' w2 ⟨v, rfl, hR, hb⟩
 obtain ⟨AS, cS, rfl, hcS, hS⟩ := Kd.R_reads hR
 have HB2 := Aside0.mk (HB.out.trans (hb.mono HB.out.size))
 have HS2 := Aside0.mk hS
 clear hb HX HB hR hS HST
 go_wp2_with fail
 go_ret2
 exact ⟨_, rfl, Kd.S_nil _ _ _ _ _, HB2.out⟩
set_option maxHeartbeats 4000000 in
set_option maxRecDepth 100000 in
theorem of_ok (n : Int) (A : Option Addr) (m c0 : Nat) (Ar : Option Addr) (mr cr : Nat) (st : List Int) (w : World) (hf : Fits st) (hst : StepSays st 0 n A m c0 Ar mr cr w) :
   Calls Try.prog 13 #[.agg #[.int .i64 n, .slice A m c0], .slice Ar mr cr] w fun e w' => ListsPost (facesL st) 0 w e w' := by
 have HST := Aside0.mk hst
 have HF := Aside0.mk hf
 have hMb := hf.len
 obtain ⟨M, hM⟩ : ∃ M, M = st.length := ⟨_, rfl⟩
 rw [← hM] at hMb
 have HM := Aside0.mk hM
 clear hst hf hM
 have HB := Aside0.mk ((Below.refl w.heap.size w).alloc (Nat.le_refl _) (.cells #[.int .i64 n, .slice A m c0] 24 (0, 0)))
 have HX := Aside0.mk (heap_last w (.cells #[.int .i64 n, .slice A m c0] 24 (0, 0)))
 have x0 : (w.alloc (.cells #[.int .i64 n, .slice A m c0] 24 (0, 0))).cell? ⟨w.heap.size, 0, none⟩ = some (.int .i64 n) := heap_cell HX.out rfl
 have x1 : (w.alloc (.cells #[.int .i64 n, .slice A m c0] 24 (0, 0))).cell? ⟨w.heap.size, 1, none⟩ = some (.slice A m c0) := heap_cell HX.out rfl
 go_enter Try.func13, Try.ntmps13
 go_wp2_with fail
 clear x0 x1
 generalize w.alloc (.cells #[.int .i64 n, .slice A m c0] 24 (0, 0)) = w1 at HX HB ⊢
 obtain ⟨bg, hbg⟩ : ∃ bg, bg = w.heap.size := ⟨_, rfl⟩
 rw [← hbg] at HX ⊢
 clear hbg
 refine (HST.out w1 HB.out).mono ?_
 rintro e' w2 ⟨v, rfl, hR, hb⟩
 obtain ⟨AS, cS, rfl, hcS, hS⟩ := Kd.R_reads hR
 have HB2 := Aside0.mk (HB.out.trans (hb.mono HB.out.size))
 have HS2 := Aside0.mk hS
 clear hb HX HB hR hS HST
 have mk := print_make_of (P := Try.prog) 60 4 (.bool false) 1 Try.underlying60 info_bool rfl (by decide) M (by omega)
 rw [made_bool] at mk
 rw [← HM.out]
 go_upto_region 5 with (fail)
 have HT : Aside0 (BRow (w2.alloc (.cells (Array.replicate M (Value.bool false)) 4 (0, 0))) w2.heap.size (facesTo st M 0).1) := ⟨BRow.start w2 M⟩
 have HBB := Aside0.mk ((Below.refl w2.heap.size w2).alloc (Nat.le_refl _) (.cells (Array.replicate M (Value.bool false)) 4 (0, 0)))
 obtain ⟨bn, hbn⟩ : ∃ bn, bn = w2.heap.size := ⟨_, rfl⟩
 rw [← hbn] at HT ⊢
 have HLO : Aside0 (w2.heap.size ≤ bn) := ⟨by omega⟩
 clear mk hbn
 generalize w2.alloc (.cells (Array.replicate M (Value.bool false)) 4 (0, 0)) = w3 at HT HBB ⊢
 have HO : Aside0 (Kd.S KL 36 w3 w2.heap.size (fun _ => True) (.slice none 0 0) (facesTo st M 0).2) := ⟨Kd.S_nil _ _ _ _ _⟩
 go_wp2_with fail
 go_loopw [9, 10] (fun v y wr => ∃ (h : Nat), y = .int .i64 (h : Int) ∧ h ≤ M ∧ Aside0 (BRow wr bn (facesTo st M h).1) ∧ Aside0 (Kd.S KL 36 wr w2.heap.size (fun _ => True) v (facesTo st M h).2) ∧ Aside0 (Below w2.heap.size w2 wr)) (fun _ y _ => M - (intOf y).toNat)
 case atStart => exact ⟨0, rfl, by omega, HT, HO, HBB⟩
 case round =>
   clear HT HO HBB
   obtain ⟨h, rfl, hh, HT, HO, HBB⟩ := hrel
   obtain ⟨S, hS⟩ : ∃ S, S = (facesTo st M h).1 := ⟨_, rfl⟩
   obtain ⟨out, hout⟩ : ∃ out, out = (facesTo st M h).2 := ⟨_, rfl⟩
   rw [← hS] at HT
   rw [← hout] at HO
   have HFT : Aside0 (S = (facesTo st M h).1 ∧ out = (facesTo st M h).2) := ⟨hS, hout⟩
   have hlen := facesTo_len st M h
   rw [← hS, ← hout] at hlen
   obtain ⟨hSl, hol⟩ := hlen
   clear hS hout
   by_cases hlt : h < M
   · have c1 := HT.out.cell (i := h) (by omega)
     obtain ⟨b, hb⟩ : ∃ b, b = gb S h := ⟨_, rfl⟩
     rw [← hb] at c1
     have HBH := Aside0.mk hb
     clear hb
     cases b with
     | true =>
       have HN : Aside0 (facesTo st M (h + 1) = facesTo st M h) := ⟨by
         conv => lhs; unfold facesTo
         rw [← HFT.out.1, if_pos HBH.out.symm]⟩
       go_wp2_with fail
       go_roundw
       case rel => exact ⟨h + 1, by go_num, by omega, ⟨by rw [HN.out, ← HFT.out.1]; exact HT.out⟩, ⟨by rw [HN.out, ← HFT.out.2]; exact HO.out⟩, HBB⟩
       case measure => simp [intOf]; omega
     | false =>
       have HN : Aside0 (facesTo st M (h + 1) = ((goFace st M S [] (h : Int)).1, out ++ [(goFace st M S [] (h : Int)).2])) := ⟨by
         conv => lhs; unfold facesTo
         rw [← HFT.out.1, ← HFT.out.2, if_neg (by rw [← HBH.out]; simp)]⟩
       have HF0 : Aside0 (Kd.R (Kd.int .i64) 3 wr w2.heap.size (fun _ => True) (.slice none 0 0) []) := ⟨Kd.R_nil _ _ _ _ _⟩
       have HO0 := Aside0.mk (Kd.S_mono HO.out (ok' := fun k => some k ≠ (Value.slice none 0 0).ownBlock) (fun k _ => by simp [Value.ownBlock]))
       have HL0 : Aside0 (left S ≤ M) := ⟨by have := left_le S; omega⟩
       obtain ⟨RES, hres⟩ : ∃ RES, RES = goFace st M S [] (h : Int) := ⟨_, rfl⟩
       rw [← hres] at HN
       have HRES := Aside0.mk hres.symm
       have HS0 : Aside0 (S.length = M) := ⟨hSl⟩
       clear hres HO
       go_wp2_with fail
       clear c1
       have hhM : h < M := hlt
       go_loopw [11, 12] (fun V y wr => ∃ (k : Nat) (T : List Bool) (fc : List Int) (n : Nat) (Af : Option Addr) (cf : Nat), V = .slice Af fc.length cf ∧ y = .int .i64 (k : Int) ∧ k < M ∧ Aside0 (goFace st n T fc (k : Int) = RES) ∧ left T ≤ n ∧ Aside0 (T.length = M) ∧ fc.length + n ≤ M ∧ Aside0 (BRow wr bn T) ∧ Aside0 (Kd.R (Kd.int .i64) 3 wr w2.heap.size (fun _ => True) (.slice Af fc.length cf) fc) ∧ Aside0 (Kd.S KL 36 wr w2.heap.size (fun k => some k ≠ (Value.slice Af fc.length cf).ownBlock) u9 out) ∧ Aside0 (Below w2.heap.size w2 wr)) (fun V _ _ => M - lenOf V)
       case atStart => exact ⟨h, S, [], M, none, 0, rfl, rfl, hlt, HRES, HL0.out, HS0, by simp, HT, HF0, HO0, HBB⟩
       case round =>
         clear HT HF0 HO0 HBB HL0 HS0 HRES hSl
         obtain ⟨k, T, fc, nn, Af, cf, rfl, rfl, hk, HRES, hn, HTL, hfn, HT, HFC, HO, HBB⟩ := hrel
         have d1 := HT.out.cell (i := k) (by rw [HTL.out]; exact hk)
         obtain ⟨b, hb⟩ : ∃ b, b = gb T k := ⟨_, rfl⟩
         rw [← hb] at d1
         have HBK := Aside0.mk hb
         clear hb
         cases b with
         | false =>
           obtain ⟨nn, rfl⟩ : ∃ q, nn = q + 1 := by
             rcases nn with _ | q
             · have h1 := left_zero (S := T) (by omega) (i := k) (by rw [HTL.out]; exact hk)
               rw [← HBK.out] at h1
               cases h1
             · exact ⟨q, rfl⟩
           have f1 := HT.out.free k
           have hls := left_set T k (by rw [HTL.out]; exact hk) HBK.out.symm
           have hre := HRES.out
           unfold goFace at hre
           rw [if_neg (by rw [Int.toNat_natCast, ← HBK.out]; simp), Int.toNat_natCast] at hre
           obtain ⟨adS, eS, z0⟩ := Kd.at_int HS2.out (k : Int) (by omega) (by have := HM.out; omega)
           subst eS
           rw [gi_rd, Int.toNat_natCast] at z0
           have hin := HF.out.inn k (by rw [← HM.out]; exact hk)
           obtain ⟨k2, hk2⟩ : ∃ k2 : Nat, gi st k = (k2 : Int) := ⟨(gi st k).toNat, by omega⟩
           rw [hk2] at z0 hre hin
           have hk2M : k2 < M := by have := HM.out; omega
           have HRE := Aside0.mk hre
           have HT2 := Aside0.mk (HT.out.put k true)
           have HB2' := Aside0.mk (HBB.out.setCell (p := ⟨bn, k, none⟩) HLO.out (.bool true))
           have HF2 := Aside0.mk (Kd.R_set HFC.out HT.out (by decide) k (.bool true))
           have HO2 := Aside0.mk (Kd.S_set HO.out HT.out (by decide) k (.bool true))
           have HLS : Aside0 (left (T.set k true) ≤ nn) := ⟨by omega⟩
           have hkS : k < st.length := by rw [← HM.out]; exact hk
           clear hre hls hin hk2 HT HBB HFC HO HRES hn
           go_upto_region 14 with (fail)
           clear d1 f1
           have z2 : (wr.setCell ⟨bn, k, none⟩ (.bool true)).heap.size = wr.heap.size := by simp [World.setCell]
           generalize wr.setCell ⟨bn, k, none⟩ (.bool true) = w3 at HT2 HB2' HF2 HO2 ⊢
           clear z2
           go_wp2_with ((with_reducible refine gate_builtin (b := .append) (xs := #[.tmp 44, .tmp 46]) rfl ?_); at_builtin; refine Kd.R_append (Kd.int .i64) (w0 := w2) w2.heap.size rfl (.tmp 44) (.tmp 46) 36 3 (.int .i64 0) 8 rfl Try.underlying36 info_int rfl (by decide) (by omega) (.slice Af fc.length cf) fc (k : Int) [.int .i64 (k : Int)] (fun _ => True) (fun _ => False) rfl rfl rfl (fun _ hk => hk.elim) (fun _ _ => trivial) HF2.out HB2'.out HB2'.out.size (by omega) ?_)
           intro v1 w4 hr hb hg hat
           have HO4 := Aside0.mk (Kd.S_mono (Kd.S_after (ok := fun _ => True) (Kd.S_mono HO2.out (fun k hk => ⟨trivial, hk⟩)) hg hat) (fun k hk => hk.2))
           have HT4 : Aside0 (BRow w4 bn (T.set k true)) := ⟨(hg.block bn (lt_of HT2.out) (Kd.R_ne HF2.out HT2.out (by decide))).trans HT2.out⟩
           have HB4 := Aside0.mk hb
           have z1 := (hb.cell (cell_lt z0)).trans z0
           obtain ⟨A', c', rfl⟩ := Kd.R_slice hr
           have HF4 := Aside0.mk hr
           clear hr hb hg hat HO2 HT2 HB2' HF2 z0
           go_wp2_with fail
           clear z1
           go_roundw
           case rel => exact ⟨k2, T.set k true, fc ++ [(k : Int)], nn, A', c', rfl, rfl, hk2M, HRE, HLS.out, ⟨by rw [List.length_set]; exact HTL.out⟩, by simp; omega, HT4, HF4, HO4, HB4⟩
           case measure => simp [lenOf]; omega
         | true =>
           have HRE : Aside0 (RES = (T, fc)) := ⟨by
             rw [← HRES.out]
             cases nn with
             | zero => rfl
             | succ nn => unfold goFace; rw [if_pos (by rw [Int.toNat_natCast]; exact HBK.out.symm)]⟩
           have HFP := Aside0.mk (Kd.M_row (Kd.R_tight rfl HFC.out))
           have HOK : Aside0 (∀ q, some q = (Value.slice Af fc.length cf).ownBlock → True ∧ some q ≠ u9.ownBlock) := ⟨fun q hq => ⟨trivial, fun e => (Kd.S_R HO.out).1 q e.symm hq⟩⟩
           clear HRES HTL hn
           go_wp2_with ((with_reducible refine gate_builtin (b := .append) (xs := #[.tmp 52, .tmp 54]) rfl ?_); at_builtin; refine Kd.S_append KL (w0 := w2) w2.heap.size rfl (.tmp 52) (.tmp 54) 25 36 (.slice none 0 0) 24 rfl Try.underlying25 info_ints rfl (by decide) (by omega) u9 out fc [.slice Af fc.length cf] (fun _ => True) (fun k => some k = (Value.slice Af fc.length cf).ownBlock) rfl rfl HFP.out HOK.out (fun _ _ => trivial) (Kd.S_mono HO.out (fun k hk => ⟨trivial, hk⟩)) HBB.out HBB.out.size (by omega) ?_)
           intro v1 w4 hr hb hg hat
           have HT4 : Aside0 (BRow w4 bn T) := ⟨(hg.block bn (lt_of HT.out) (Kd.S_ne HO.out HT.out (by decide))).trans HT.out⟩
           have HB4 := Aside0.mk hb
           have HO4 := Aside0.mk hr
           clear hr hb hg hat HT HO HFC HFP HOK HBB d1
           go_wp2_with fail
           go_roundw
           case rel => exact ⟨h + 1, by go_num, by omega, ⟨by rw [HN.out, HRE.out]; exact HT4.out⟩, ⟨by rw [HN.out, HRE.out]; exact HO4.out⟩, HB4⟩
           case measure => simp [intOf]; omega
   · obtain rfl : h = M := by omega
     have HFL : Aside0 (facesL st = out) := ⟨by unfold facesL; rw [← HM.out, ← HFT.out.2]⟩
     have HBF := Aside0.mk (HB2.out.trans (HBB.out.mono HB2.out.size))
     go_wp2_with fail
     go_ret2
     exact ⟨_, rfl, by rw [HFL.out]; exact Kd.S_lower HO.out HB2.out.size, HBF.out⟩
end Go.Proofs.Ytmikcfddipldnaa.Face
namespace Go.Proofs.Ytmikcfddipldnaa.Mem
open Go.Maps
open Go.ChangeMaps (setBlock heap_setBlock_same heap_setBlock_other)
open Go.RowKit Go.Proofs.YtmikcfddipldnaaW.PrintWords Go.Proofs.YtmikcfddipldnaaW.PrintLast Go.Proofs.YtmikcfddipldnaaW.PrintMore Go.WideMaps Go.MapKept
set_option linter.unusedVariables false
set_option linter.unusedSimpArgs false
def MapAt (P : Program) (k : TypeId) (w : World) (b s : Nat) (f : Value → Option Value) : Prop :=
 ∃ es clock, w.heap[b]? = some (.map es clock) ∧ Stamped es clock ∧ es.size ≤ s ∧ (∀ x ∈ es.toList, ∃ l, keyOf P k x.key = some l) ∧ (∀ x ∈ es.toList, f x.key = some x.val) ∧ ∀ kv v, f kv = some v → ∃ x ∈ es.toList, x.key = kv
section
variable {P : Program} {k : TypeId} {w : World} {b s : Nat} {f : Value → Option Value}
theorem MapAt.new (P : Program) (k : TypeId) (w : World) (c : Nat) : MapAt P k (w.alloc (.map #[] c)) w.heap.size 0 (fun _ => none) :=
 ⟨#[], c, heap_last w _, ⟨by simp, by simp, by simp⟩, Nat.le_refl _, by simp, by simp, by simp⟩
theorem MapAt.lt (h : MapAt P k w b s f) : b < w.heap.size := by
 obtain ⟨es, c, h1, _⟩ := h
 exact lt_of h1
theorem MapAt.move {w' : World} (h : MapAt P k w b s f) (hb : w'.heap[b]? = w.heap[b]?) : MapAt P k w' b s f := by
 obtain ⟨es, c, h1, h2⟩ := h
 exact ⟨es, c, hb.trans h1, h2⟩
theorem MapAt.below {w' : World} (h : MapAt P k w b s f) (hb : Below w.heap.size w w') : MapAt P k w' b s f := h.move (hb.block b h.lt)
theorem MapAt.frame {S : Nat → Prop} {w' : World} (h : MapAt P k w b s f) (hb : Frame S w w') (hs : ¬ S b) : MapAt P k w' b s f := h.move (hb.block b h.lt hs)
theorem MapAt.mono {s' : Nat} (h : MapAt P k w b s f) (hs : s ≤ s') : MapAt P k w b s' f := by
 obtain ⟨es, c, h1, h2, h3, h4⟩ := h
 exact ⟨es, c, h1, h2, Nat.le_trans h3 hs, h4⟩
theorem setBlock_frame {o : Obj} (hb : b < w.heap.size) : Frame (fun i => i = b) w (setBlock w b o) := by
 refine ⟨rfl, rfl, rfl, by simp [setBlock], fun i hi hne => ?_⟩
 unfold setBlock
 simp only
 rw [Array.getElem?_setIfInBounds, if_neg (fun e => hne e.symm)]
theorem MapAt.put {t e : TypeId} (K : Keyed P k) (ht : P.underlying t = some (.map k e)) (h : MapAt P k w b s f) (hs : s < maxLen) {key val : Value} {kl : Lit} (hkey : keyOf P k key = some kl) {f' : Value → Option Value} (hf1 : f' key = some val) (hf2 : ∀ q, q ≠ key → f' q = f q) :
   ∃ w', (Instr.mapUpdate t (.map (some b)) key val).run P w = .ok () w' ∧ MapAt P k w' b (s + 1) f' ∧ Frame (fun i => i = b) w w' := by
 obtain ⟨es, clock, hb, hst, hsz, hks, hin, hof⟩ := h
 rcases K.find w hkey es.toList hks with ⟨h1, h2⟩ | ⟨j, e0, h1, h2, h3⟩
 · refine ⟨setBlock w b (.map (es.push ⟨key, val, clock⟩) (clock + 1)), ?_, ⟨es.push ⟨key, val, clock⟩, clock + 1, heap_setBlock_same hb _, stamped_push hst h2, by simp; omega, ?_, ?_, ?_⟩, setBlock_frame (lt_of hb)⟩
   · simp [Instr.mapUpdate, run_underlying ht, MapKept.run_getObj_map hb, K.check w false hkey, h1, MapKept.run_setObj_map _ hb, Result.andThen, setBlock]
   · intro x hx
     simp only [Array.toList_push, List.mem_append, List.mem_singleton] at hx
     rcases hx with hx | rfl
     · exact hks x hx
     · exact ⟨kl, hkey⟩
   · intro x hx
     simp only [Array.toList_push, List.mem_append, List.mem_singleton] at hx
     rcases hx with hx | rfl
     · rw [hf2 _ (h2 x hx)]; exact hin x hx
     · exact hf1
   · intro q v hq
     simp only [Array.toList_push, List.mem_append, List.mem_singleton]
     rcases Classical.em (q = key) with c | c
     · exact ⟨_, .inr rfl, c.symm⟩
     · rw [hf2 _ c] at hq
       obtain ⟨x, hx, e⟩ := hof q v hq
       exact ⟨x, .inl hx, e⟩
 · have hj : es[j]? = some e0 := by simpa using h2
   have hjl : j < es.toList.length := (List.getElem?_eq_some_iff.1 h2).1
   have hkeyf : ∀ e', es[j]? = some e' → ({ e' with key := key, val := val } : MapEntry).key = e'.key := fun e' he' => by rw [hj] at he'; cases he'; exact h3.symm
   have hl : (es.modify j (fun e' => { e' with key := key, val := val })).toList = es.toList.set j { e0 with key := key, val := val } := by
     rw [Array.toList_modify, Go.ChangeMaps.modify_eq_set _ _ _ _ h2]
   have hnd : es.toList.Pairwise (fun x y => x.key ≠ y.key) := by
     have := hst.2.2
     rw [List.Nodup, List.pairwise_map] at this
     exact this
   refine ⟨setBlock w b (.map (es.modify j (fun e' => { e' with key := key, val := val })) clock), ?_, ⟨_, clock, heap_setBlock_same hb _, stamped_modify hst _ _ (fun _ _ => rfl) (fun e' _ he' => hkeyf e' he'), by simp; omega, ?_, ?_, ?_⟩, setBlock_frame (lt_of hb)⟩
   · simp [Instr.mapUpdate, run_underlying ht, MapKept.run_getObj_map hb, K.check w false hkey, h1, hj, h3, K.stays w hkey, MapKept.run_setObj_map _ hb, Result.andThen, setBlock]
   · intro x hx
     rw [hl] at hx
     rcases List.mem_or_eq_of_mem_set hx with hx | rfl
     · exact hks x hx
     · exact ⟨kl, hkey⟩
   · intro x hx
     rw [hl] at hx
     obtain ⟨i, hi, e⟩ := List.getElem_of_mem hx
     rw [List.length_set] at hi
     rw [List.getElem_set] at e
     by_cases c : j = i
     · rw [if_pos c] at e
       rw [← e]
       exact hf1
     · rw [if_neg c] at e
       rw [hf2]
       · exact hin x (by rw [← e]; exact List.getElem_mem hi)
       · intro q
         have e0j : es.toList[j] = e0 := (List.getElem?_eq_some_iff.1 h2).2
         rcases Nat.lt_or_gt_of_ne c with g | g
         · exact List.pairwise_iff_getElem.1 hnd j i hjl hi g (by rw [e0j, e, h3, q])
         · exact List.pairwise_iff_getElem.1 hnd i j hi hjl g (by rw [e0j, e, h3, q])
   · intro q v hq
     rw [hl]
     rcases Classical.em (q = key) with c | c
     · exact ⟨{ e0 with key := key, val := val }, List.mem_iff_getElem.2 ⟨j, by rw [List.length_set]; exact hjl, by simp⟩, c.symm⟩
     · rw [hf2 _ c] at hq
       obtain ⟨x, hx, e⟩ := hof q v hq
       obtain ⟨i, hi, ex⟩ := List.getElem_of_mem hx
       have hij : j ≠ i := by
         rintro rfl
         have e0j : es.toList[j] = e0 := (List.getElem?_eq_some_iff.1 h2).2
         rw [e0j] at ex
         exact c (by rw [← e, ← ex, h3])
       exact ⟨x, List.mem_iff_getElem.2 ⟨i, by rw [List.length_set]; exact hi, by rw [List.getElem_set, if_neg hij]; exact ex⟩, e⟩
theorem MapAt.get {t e : TypeId} (K : Keyed P k) (ht : P.underlying t = some (.map k e)) (h : MapAt P k w b s f) {z : Value} (hz : (zeroValue e).run P w = .ok z w) {key : Value} {kl : Lit} (hkey : keyOf P k key = some kl) :
   (Instr.lookup t (.map (some b)) key false).run P w = .ok ((f key).getD z) w := by
 obtain ⟨es, clock, hb, hst, hsz, hks, hin, hof⟩ := h
 rcases K.find w hkey es.toList hks with ⟨h1, h2⟩ | ⟨j, e0, h1, h2, h3⟩
 · have hn : f key = none := by
     cases e : f key with
     | none => rfl
     | some v =>
       obtain ⟨x, hx, q⟩ := hof key v e
       exact absurd q (h2 x hx)
   rw [hn]
   simp [Instr.lookup, run_underlying ht, MapKept.run_getObj_map hb, K.check w _ hkey, h1, hz, Result.andThen]
 · have hv := hin e0 (List.mem_of_getElem? h2)
   rw [h3] at hv
   rw [hv]
   simp [Instr.lookup, run_underlying ht, MapKept.run_getObj_map hb, K.check w _ hkey, h1, Result.andThen]
end
end Go.Proofs.Ytmikcfddipldnaa.Mem
namespace Go.Proofs.Ytmikcfddipldnaa.Cnt
open Go.Maps Go.MapKept
open Go.RowKit Go.Proofs.YtmikcfddipldnaaW.PrintWords Go.Proofs.YtmikcfddipldnaaW.PrintLast Go.Proofs.Ytmikcfddipldnaa.Mem
set_option linter.unusedVariables false
set_option linter.unusedSimpArgs false
def InI (x : Int) : Prop := -9223372036854775808 ≤ x ∧ x ≤ 9223372036854775807
theorem lawInt : Keyed Try.prog 3 := int_keyed Try.underlying3
theorem key_int {x : Int} (h : InI x) : ∃ l, keyOf Try.prog 3 (.int .i64 x) = some l := ⟨_, keyOf_int_mk Try.underlying3 (by
 obtain ⟨a, b⟩ := h
 have e1 : IntKind.i64.min = -9223372036854775808 := by decide
 have e2 : IntKind.i64.max = 9223372036854775807 := by decide
 simp [Lit.wf, e1, e2, a, b])⟩
def tv (a b c : Int) : Value := .agg #[.int .i64 a, .int .i64 b, .int .i64 c]
def MapT (w : World) (b s : Nat) (S : List Int) (A B C : Int → Int) : Prop :=
 ∃ f, MapAt Try.prog 3 w b s f ∧ (∀ k, f (.int .i64 k) = if k ∈ S then some (tv (A k) (B k) (C k)) else none) ∧ (∀ v x, f v = some x → ∃ k, v = .int .i64 k) ∧ ∀ k, k ∉ S → A k = 0 ∧ B k = 0 ∧ C k = 0
theorem MapT.new (w : World) (c : Nat) : MapT (w.alloc (.map #[] c)) w.heap.size 0 [] (fun _ => 0) (fun _ => 0) (fun _ => 0) :=
 ⟨_, MapAt.new _ _ _ _, fun k => by simp, fun v x h => by simp at h, fun _ _ => ⟨rfl, rfl, rfl⟩⟩
section
variable {w w' : World} {b s : Nat} {S : List Int} {A B C : Int → Int}
theorem MapT.move (h : MapT w b s S A B C) (hb : w'.heap[b]? = w.heap[b]?) : MapT w' b s S A B C := by
 obtain ⟨f, h1, h2⟩ := h
 exact ⟨f, h1.move hb, h2⟩
theorem MapT.lt (h : MapT w b s S A B C) : b < w.heap.size := by
 obtain ⟨f, h1, _⟩ := h
 exact h1.lt
theorem MapT.same {S' : List Int} (h : MapT w b s S A B C) (hs : ∀ k, k ∈ S ↔ k ∈ S') : MapT w b s S' A B C := by
 obtain ⟨f, h1, h2, h3, h4⟩ := h
 refine ⟨f, h1, fun k => ?_, h3, fun k hk => h4 k (fun e => hk ((hs k).1 e))⟩
 rw [h2]
 by_cases c : k ∈ S
 · rw [if_pos c, if_pos ((hs k).1 c)]
 · rw [if_neg c, if_neg (fun e => c ((hs k).2 e))]
def up (f : Int → Int) (k x : Int) : Int → Int := fun q => if q = k then x else f q
theorem MapT.put (h : MapT w b s S A B C) (hs : s ≤ 900000000000000000) {k : Int} (hk : InI k) (x y z : Int) :
   ∃ w', (Instr.mapUpdate 61 (.map (some b)) (.int .i64 k) (tv x y z)).run Try.prog w = .ok () w' ∧ MapT w' b (s + 1) (S ++ [k]) (up A k x) (up B k y) (up C k z) ∧ Mem.Frame (fun i => i = b) w w' := by
 obtain ⟨f, h1, h2, h3, h4⟩ := h
 obtain ⟨l, hl⟩ := key_int hk
 classical
 obtain ⟨w', e1, e2, e3⟩ := h1.put (t := 61) (e := 63) lawInt (by kernel_rfl) (by unfold maxLen; omega) (val := tv x y z) hl (f' := fun q => if q = .int .i64 k then some (tv x y z) else f q) (if_pos rfl) (fun q hq => if_neg hq)
 refine ⟨w', e1, ⟨_, e2, fun p => ?_, fun v u hv => ?_, fun p hp => ?_⟩, e3⟩
 · by_cases c : p = k
   · subst c
     rw [if_pos rfl, if_pos (by simp)]
     simp only [up, if_true]
   · rw [if_neg (fun e => c (by simpa using e)), h2]
     simp only [up, if_neg c]
     by_cases d : p ∈ S
     · rw [if_pos d, if_pos (by simp [d])]
     · rw [if_neg d, if_neg (by simp [d, c])]
 · by_cases c : v = .int .i64 k
   · exact ⟨k, c⟩
   · simp only [if_neg c] at hv
     exact h3 v u hv
 · simp only [List.mem_append, List.mem_singleton, not_or] at hp
   simp only [up, if_neg hp.2]
   exact h4 p hp.1
theorem MapT.get (h : MapT w b s S A B C) {k : Int} (hk : InI k) :
   (Instr.lookup 61 (.map (some b)) (.int .i64 k) false).run Try.prog w = .ok (tv (A k) (B k) (C k)) w := by
 obtain ⟨f, h1, h2, h3, h4⟩ := h
 obtain ⟨l, hl⟩ := key_int hk
 have := h1.get (t := 61) (e := 63) lawInt (by kernel_rfl) (z := tv 0 0 0) (by kernel_rfl) hl
 rw [this, h2]
 by_cases c : k ∈ S
 · rw [if_pos c]; rfl
 · obtain ⟨a1, a2, a3⟩ := h4 k c
   rw [if_neg c, a1, a2, a3]; rfl
def seenG (g : MapEntry → Int) : List MapEntry → Array Nat → Int
 | [], _ => 0
 | x :: l, seen => (if seen.contains x.born then g x else 0) + seenG g l seen
theorem seenG_other (g : MapEntry → Int) (seen : Array Nat) (b : Nat) : ∀ (es : List MapEntry), b ∉ es.map (·.born) → seenG g es (seen.push b) = seenG g es seen
 | [], _ => rfl
 | x :: l, h => by
   have hx : (x.born == b) = false := by
     cases hc : x.born == b with
     | false => rfl
     | true => exact absurd (List.mem_cons.2 (Or.inl (beq_iff_eq.1 hc).symm)) h
   have ih := seenG_other g seen b l (fun e => h (List.mem_cons.2 (Or.inr e)))
   simp only [seenG, contains_push, hx, Bool.or_false, ih]
theorem seenG_push (g : MapEntry → Int) (seen : Array Nat) (e : MapEntry) (hs : seen.contains e.born = false) : ∀ (es : List MapEntry), (es.map (·.born)).Nodup → e ∈ es → seenG g es (seen.push e.born) = seenG g es seen + g e
 | x :: l, hn, he => by
   have hn' : x.born ∉ l.map (·.born) ∧ (l.map (·.born)).Nodup := List.nodup_cons.1 hn
   rcases List.mem_cons.1 he with rfl | h
   · simp only [seenG, contains_push, hs, beq_self_eq_true, Bool.or_true, if_true, Bool.false_eq_true, if_false, seenG_other g seen e.born l hn'.1]
     omega
   · have hx : (x.born == e.born) = false := by
       cases hc : x.born == e.born with
       | false => rfl
       | true => exact absurd (by rw [beq_iff_eq.1 hc]; exact List.mem_map.2 ⟨e, h, rfl⟩) hn'.1
     simp only [seenG, contains_push, hx, Bool.or_false, seenG_push g seen e hs l hn'.2 h]
     omega
theorem seenG_full (g : MapEntry → Int) (seen : Array Nat) : ∀ (es : List MapEntry), (∀ x ∈ es, seen.contains x.born = true) → seenG g es seen = (es.map g).sum
 | [], _ => rfl
 | x :: l, h => by
   simp only [seenG, h x (List.mem_cons.2 (Or.inl rfl)), if_true, List.map_cons, List.sum_cons, seenG_full g seen l (fun y hy => h y (List.mem_cons.2 (Or.inr hy)))]
theorem seenG_none (g : MapEntry → Int) : ∀ (es : List MapEntry), seenG g es #[] = 0
 | [] => rfl
 | x :: l => by
   have : (#[] : Array Nat).contains x.born = false := by simp
   simp only [seenG, this, Bool.false_eq_true, if_false, seenG_none g l]
   rfl
theorem seenG_all (g : MapEntry → Int) (es : Array MapEntry) (seen : Array Nat) (h : (leftOf es seen).size = 0) : seenG g es.toList seen = (es.toList.map g).sum := seenG_full g seen es.toList (all_seen es seen h)
theorem seenG_bound (g : MapEntry → Int) (seen : Array Nat) (D : Nat) : ∀ (es : List MapEntry), (∀ x ∈ es, -(D : Int) ≤ g x ∧ g x ≤ D) → -((es.length * D : Nat) : Int) ≤ seenG g es seen ∧ seenG g es seen ≤ ((es.length * D : Nat) : Int)
 | [], _ => by simp [seenG]
 | x :: l, h => by
   have ih := seenG_bound g seen D l (fun y hy => h y (List.mem_cons_of_mem _ hy))
   have hx := h x (List.mem_cons_self ..)
   have e : (x :: l).length * D = l.length * D + D := by rw [List.length_cons, Nat.succ_mul]
   rw [e]
   unfold seenG
   split <;> omega
theorem sum_perm {l m : List Int} (h : l.Perm m) : l.sum = m.sum := by
 induction h with
 | nil => rfl
 | cons x _ ih => rw [List.sum_cons, List.sum_cons, ih]
 | swap x y l => simp only [List.sum_cons]; omega
 | trans _ _ h1 h2 => exact h1.trans h2
theorem MapT.entries (h : MapT w b s S A B C) : ∃ es clock, w.heap[b]? = some (.map es clock) ∧ Stamped es clock ∧ es.size ≤ s ∧ (∀ x ∈ es.toList, ∃ k, k ∈ S ∧ x.key = .int .i64 k ∧ x.val = tv (A k) (B k) (C k)) ∧
   ∀ (G : Int → Int) (c : Nat), (∀ k, k ∈ S ↔ 0 ≤ k ∧ k < c) → (es.toList.map fun x => G (valOf x.key)).sum = ((List.range c).map fun (k : Nat) => G k).sum := by
 obtain ⟨f, ⟨es, clock, hb, hst, hsz, hks, hin, hof⟩, h2, h3, h4⟩ := h
 have hent : ∀ x ∈ es.toList, ∃ k, k ∈ S ∧ x.key = .int .i64 k ∧ x.val = tv (A k) (B k) (C k) := by
   intro x hx
   have h5 := hin x hx
   obtain ⟨k, hk⟩ := h3 _ _ h5
   rw [hk, h2] at h5
   by_cases c : k ∈ S
   · rw [if_pos c] at h5
     exact ⟨k, c, hk, (Option.some.inj h5).symm⟩
   · rw [if_neg c] at h5; cases h5
 refine ⟨es, clock, hb, hst, hsz, hent, fun G c hc => ?_⟩
 have hnd : (es.toList.map fun x => valOf x.key).Nodup := by
   have h5 := hst.2.2
   rw [List.Nodup, List.pairwise_map] at h5 ⊢
   refine List.Pairwise.imp_of_mem (fun {x y} hx hy hne => ?_) h5
   obtain ⟨k1, _, e1, _⟩ := hent x hx
   obtain ⟨k2, _, e2, _⟩ := hent y hy
   rw [e1, e2] at hne ⊢
   exact fun e => hne (by rw [show k1 = k2 from e])
 have hp : (es.toList.map fun x => valOf x.key).Perm ((List.range c).map fun (k : Nat) => (k : Int)) := by
   refine (List.perm_ext_iff_of_nodup hnd ?_).2 fun k => ?_
   · rw [List.Nodup, List.pairwise_map]
     exact List.nodup_range.imp fun {a b} h e => h (by omega)
   · rw [List.mem_map, List.mem_map]
     constructor
     · rintro ⟨x, hx, rfl⟩
       obtain ⟨k1, m1, e1, _⟩ := hent x hx
       have := (hc k1).1 m1
       refine ⟨k1.toNat, by rw [List.mem_range]; omega, ?_⟩
       rw [e1]; show _ = k1; omega
     · rintro ⟨n, hn, rfl⟩
       have hm : (n : Int) ∈ S := (hc n).2 (by rw [List.mem_range] at hn; omega)
       have h5 := h2 n
       rw [if_pos hm] at h5
       obtain ⟨x, hx, e⟩ := hof _ _ h5
       exact ⟨x, hx, by rw [e]; rfl⟩
 have h6 := sum_perm (hp.map G)
 rw [List.map_map, List.map_map] at h6
 exact h6
end
end Go.Proofs.Ytmikcfddipldnaa.Cnt
namespace Go.Proofs.Ytmikcfddipldnaa.Cnt
open Go.Maps Go.MapKept
open Go.ChangeMaps (setBlock heap_setBlock_same heap_setBlock_other)
open Go.RowKit Go.Proofs.YtmikcfddipldnaaW.PrintWords Go.Proofs.YtmikcfddipldnaaW.PrintLast Go.Proofs.YtmikcfddipldnaaW.PrintMore Go.Proofs.Ytmikcfddipldnaa.Mem
set_option linter.unusedVariables false
set_option linter.unusedSimpArgs false
def cntTo (ks : List Int) (i : Nat) (k : Int) : Int := ((ks.take i).countP (· == k) : Nat)
theorem cntTo_zero (ks : List Int) : cntTo ks 0 = fun _ => 0 := by funext k; simp [cntTo]
theorem cntTo_succ (ks : List Int) {i : Nat} (h : i < ks.length) : up (cntTo ks i) (gi ks i) (cntTo ks i (gi ks i) + 1) = cntTo ks (i + 1) := by
 funext k
 have e : ks.take (i + 1) = ks.take i ++ [gi ks i] := by
   rw [List.take_succ_eq_append_getElem h]
   simp [gi, List.getD_eq_getElem?_getD, h]
 unfold up cntTo
 rw [e, List.countP_append]
 by_cases c : k = gi ks i
 · rw [if_pos c, c]; simp
 · rw [if_neg c]; simp [Ne.symm c]
theorem cntTo_le (ks : List Int) (i : Nat) (k : Int) : 0 ≤ cntTo ks i k ∧ cntTo ks i k ≤ ks.length := by
 unfold cntTo
 have h1 := List.countP_le_length (p := (· == k)) (l := ks.take i)
 have h2 : (ks.take i).length ≤ ks.length := by rw [List.length_take]; omega
 omega
theorem up_self (f : Int → Int) (k : Int) : up f k (f k) = f := by funext q; unfold up; split <;> simp_all
def ksE (og : List Int) (es : List (Int × Int)) : List Int := es.map fun e => gi og e.1.toNat
def ksF (og : List Int) (es : List (Int × Int)) (fs : List (List Int)) : List Int := fs.map fun f => gi og (pe es ((gi f 0).toNat / 2)).1.toNat
theorem gi_ksE (og : List Int) (es : List (Int × Int)) {j : Nat} (h : j < es.length) : gi (ksE og es) j = gi og (pe es j).1.toNat := by simp [gi, ksE, pe, List.getD_eq_getElem?_getD, h]
theorem gi_ksF (og : List Int) (es : List (Int × Int)) (fs : List (List Int)) {q : Nat} (h : q < fs.length) : gi (ksF og es fs) q = gi og (pe es ((gi (gl fs q) 0).toNat / 2)).1.toNat := by simp [gi, gl, ksF, List.getD_eq_getElem?_getD, h]
def term (a m f : Int) : Int := if m > 0 then Int.tdiv (2 - a + m - f) 2 else 0
def genusSum (og : List Int) (es : List (Int × Int)) (fs : List (List Int)) (c : Nat) : Int :=
 ((List.range c).map fun (k : Nat) => term (cntTo og og.length k) (cntTo (ksE og es) es.length k) (cntTo (ksF og es fs) fs.length k)).sum
structure Fit (og : List Int) (es : List (Int × Int)) (fs : List (List Int)) (c : Nat) : Prop where
 hc : c ≤ 1048576
 ho : og.length ≤ 1048576
 he : es.length ≤ 4194304
 hf : fs.length ≤ 8388608
 key : ∀ k, k ∈ og ↔ 0 ≤ k ∧ k < (c : Int)
 edge : ∀ j, j < es.length → 0 ≤ (pe es j).1 ∧ (pe es j).1 < (og.length : Int)
 face : ∀ q, q < fs.length → 0 < (gl fs q).length ∧ 0 ≤ gi (gl fs q) 0 ∧ gi (gl fs q) 0 < ((2 * es.length : Nat) : Int)
theorem tdiv2 (x : Int) : Int.tdiv x 2 = if 0 ≤ x then x / 2 else -((-x) / 2) := by
 split
 · exact Int.tdiv_eq_ediv_of_nonneg (by omega)
 · have h := Int.neg_tdiv x 2
   have h1 : Int.tdiv (-x) 2 = (-x) / 2 := Int.tdiv_eq_ediv_of_nonneg (by omega)
   omega
theorem term_bound {a m f : Int} (ha : 0 ≤ a ∧ a ≤ 9000000) (hm : 0 ≤ m ∧ m ≤ 9000000) (hf : 0 ≤ f ∧ f ≤ 9000000) : -((20000000 : Nat) : Int) ≤ term a m f ∧ term a m f ≤ ((20000000 : Nat) : Int) := by
 unfold term
 split
 · rw [tdiv2]
   split <;> omega
 · omega
def GenusPost (g e0 : Int) (w : World) (e : Ending) (w' : World) : Prop := e = .returned (.tuple #[.int .i64 g, .int .i64 e0]) ∧ Below w.heap.size w w'
def OfSays (fs : List (List Int)) (e0 n : Int) (A : Option Addr) (m c : Nat) (Ar : Option Addr) (mr cr : Nat) (w : World) : Prop := ∀ W : World, Below w.heap.size w W →
 Calls Try.prog 10 #[.agg #[.int .i64 n, .slice A m c], .slice Ar mr cr] W fun e w' => ∃ v, e = .returned (.tuple #[v, .int .i64 e0]) ∧ Kd.R (Kd.slice 3 (Kd.int .i64)) 36 w' W.heap.size (fun _ => True) v fs ∧ Below W.heap.size W w'
def CompsSays (og : List Int) (k : Int) (n : Int) (A : Option Addr) (m c : Nat) (w : World) : Prop := ∀ W : World, Below w.heap.size w W →
 Calls Try.prog 24 #[.agg #[.int .i64 n, .slice A m c]] W fun e w' => ∃ v, e = .returned (.tuple #[v, .int .i64 k, .int .i64 0]) ∧ Kd.R (Kd.int .i64) 3 w' W.heap.size (fun _ => True) v og ∧ Below W.heap.size W w'
theorem setBlock_below {w : World} {b B : Nat} {o : Obj} (hb : B ≤ b) : Below B w (setBlock w b o) := by
 refine ⟨rfl, rfl, rfl, by simp [setBlock], fun i hi => ?_⟩
 unfold setBlock
 simp only
 rw [Array.getElem?_setIfInBounds, if_neg (by omega)]
set_option maxHeartbeats 1000000 in
set_option maxRecDepth 100000 in
theorem genus_bad (n : Int) (A : Option Addr) (m c0 : Nat) (Ar : Option Addr) (mr cr : Nat) (e0 : Int) (he : e0 ≠ 0) (fs : List (List Int)) (w : World) (hof : OfSays fs e0 n A m c0 Ar mr cr w) :
   Calls Try.prog 18 #[.agg #[.int .i64 n, .slice A m c0], .slice Ar mr cr] w fun e w' => GenusPost 0 e0 w e w' := by
 have HOF := Aside0.mk hof
 clear hof
 have HB := Aside0.mk ((Below.refl w.heap.size w).alloc (Nat.le_refl _) (.cells #[.int .i64 n, .slice A m c0] 24 (0, 0)))
 have HX := Aside0.mk (heap_last w (.cells #[.int .i64 n, .slice A m c0] 24 (0, 0)))
 have x0 : (w.alloc (.cells #[.int .i64 n, .slice A m c0] 24 (0, 0))).cell? ⟨w.heap.size, 0, none⟩ = some (.int .i64 n) := heap_cell HX.out rfl
 have x1 : (w.alloc (.cells #[.int .i64 n, .slice A m c0] 24 (0, 0))).cell? ⟨w.heap.size, 1, none⟩ = some (.slice A m c0) := heap_cell HX.out rfl
 have t1 : (e0 != 0) = true := bne_iff_ne.2 he
 go_enter Try.func18, Try.ntmps18
 go_wp2_with fail
 clear x0 x1
 generalize w.alloc (.cells #[.int .i64 n, .slice A m c0] 24 (0, 0)) = w1 at HX HB ⊢
 obtain ⟨bg, hbg⟩ : ∃ bg, bg = w.heap.size := ⟨_, rfl⟩
 rw [← hbg] at HX ⊢
 clear hbg
 refine (HOF.out w1 HB.out).mono ?_
 rintro e' w2 ⟨v, rfl, hR, hb⟩
 obtain ⟨AF, cF, rfl, hcF, hF⟩ := Kd.R_reads hR
 have HX2 := Aside0.mk ((hb.block _ (lt_of HX.out)).trans HX.out)
 have HB2 := Aside0.mk (HB.out.trans (hb.mono HB.out.size))
 have HF2 := Aside0.mk hF
 clear hb HX HB hR hF HOF
 go_wp2_with fail
 go_ret2
 exact ⟨rfl, HB2.out⟩
theorem take_snoc (ks : List Int) {i : Nat} (h : i < ks.length) : ks.take (i + 1) = ks.take i ++ [gi ks i] := by
 rw [List.take_succ_eq_append_getElem h]
 simp [gi, List.getD_eq_getElem?_getD, h]
theorem gi_mem {l : List Int} {i : Nat} (h : i < l.length) : gi l i ∈ l := by
 unfold gi
 rw [List.getD_eq_getElem?_getD, List.getElem?_eq_getElem h]
 exact List.getElem_mem h
theorem mem_snoc {S : List Int} {k : Int} (h : k ∈ S) (q : Int) : q ∈ S ++ [k] ↔ q ∈ S := by
 rw [List.mem_append, List.mem_singleton]
 exact ⟨fun e => e.elim id (fun e => e ▸ h), .inl⟩
set_option maxHeartbeats 4000000 in
set_option maxRecDepth 100000 in
theorem genus_ok (n : Int) (A : Option Addr) (es : List (Int × Int)) (m c0 : Nat) (Ar : Option Addr) (mr cr : Nat) (fs : List (List Int)) (og : List Int) (c : Nat) (w : World) (hm : m = es.length) (he : Pairs w A es) (hfit : Fit og es fs c) (hof : OfSays fs 0 n A m c0 Ar mr cr w) (hco : CompsSays og c n A m c0 w) :
   Calls Try.prog 18 #[.agg #[.int .i64 n, .slice A m c0], .slice Ar mr cr] w fun e w' => GenusPost (genusSum og es fs c) 0 w e w' := by
 have HOF := Aside0.mk hof
 have HCO := Aside0.mk hco
 have HE := Aside0.mk he
 have HME := Aside0.mk hm
 have HFIT := Aside0.mk hfit
 clear hof hco he hm hfit
 have HB := Aside0.mk ((Below.refl w.heap.size w).alloc (Nat.le_refl _) (.cells #[.int .i64 n, .slice A m c0] 24 (0, 0)))
 have HX := Aside0.mk (heap_last w (.cells #[.int .i64 n, .slice A m c0] 24 (0, 0)))
 have x0 : (w.alloc (.cells #[.int .i64 n, .slice A m c0] 24 (0, 0))).cell? ⟨w.heap.size, 0, none⟩ = some (.int .i64 n) := heap_cell HX.out rfl
 have x1 : (w.alloc (.cells #[.int .i64 n, .slice A m c0] 24 (0, 0))).cell? ⟨w.heap.size, 1, none⟩ = some (.slice A m c0) := heap_cell HX.out rfl
 go_enter Try.func18, Try.ntmps18
 go_wp2_with fail
 clear x0 x1
 generalize w.alloc (.cells #[.int .i64 n, .slice A m c0] 24 (0, 0)) = w1 at HX HB ⊢
 obtain ⟨bg, hbg⟩ : ∃ bg, bg = w.heap.size := ⟨_, rfl⟩
 rw [← hbg] at HX ⊢
 clear hbg
 refine (HOF.out w1 HB.out).mono ?_
 rintro e' w2 ⟨v, rfl, hR, hb⟩
 obtain ⟨AF, cF, rfl, hcF, hF⟩ := Kd.R_reads hR
 have HX2 := Aside0.mk ((hb.block _ (lt_of HX.out)).trans HX.out)
 have HB2 := Aside0.mk (HB.out.trans (hb.mono HB.out.size))
 have HF2 := Aside0.mk hF
 clear hb HX HB hR hF HOF
 have x0 : w2.cell? ⟨bg, 0, none⟩ = some (.int .i64 n) := heap_cell HX2.out rfl
 have x1 : w2.cell? ⟨bg, 1, none⟩ = some (.slice A m c0) := heap_cell HX2.out rfl
 go_wp2_with fail
 clear x0 x1
 refine (HCO.out w2 HB2.out).mono ?_
 rintro e' w3 ⟨v, rfl, hR, hb⟩
 obtain ⟨AO, cO, rfl, hcO, hO⟩ := Kd.R_reads hR
 have HX3 := Aside0.mk ((hb.block _ (lt_of HX2.out)).trans HX2.out)
 have HB3 := Aside0.mk (HB2.out.trans (hb.mono HB2.out.size))
 have HF3 := Aside0.mk (Kd.C_below HF2.out hb)
 have HO3 := Aside0.mk hO
 have HE3 := Aside0.mk (HE.out.below HB3.out)
 clear hb HX2 HB2 hR hO HF2 HCO HE
 have hmm := @run_makeMap Try.prog
 go_upto_region 6 with (fail)
 have HM0 := Aside0.mk (MapT.new w3 0)
 have HB4 := Aside0.mk ((Below.refl w3.heap.size w3).alloc (Nat.le_refl _) (.map #[] 0))
 obtain ⟨bm, hbm⟩ : ∃ bm, bm = w3.heap.size := ⟨_, rfl⟩
 rw [← hbm] at HM0 ⊢
 have HBM : Aside0 (bm = w3.heap.size) := ⟨hbm⟩
 generalize w3.alloc (.map #[] 0) = w4 at HM0 HB4 ⊢
 clear hmm hbm
 obtain ⟨ke, hke⟩ : ∃ ke, ke = ksE og es := ⟨_, rfl⟩
 obtain ⟨kf, hkf⟩ : ∃ kf, kf = ksF og es fs := ⟨_, rfl⟩
 have HKE := Aside0.mk hke
 have HKF := Aside0.mk hkf
 clear hke hkf
 obtain ⟨N, hN⟩ : ∃ N, N = og.length := ⟨_, rfl⟩
 have HN := Aside0.mk hN
 have hNb : N ≤ 1048576 := by rw [hN]; exact HFIT.out.ho
 have hM0 : MapT w4 bm 0 (og.take 0) (cntTo og 0) (cntTo ke 0) (cntTo kf 0) := by rw [cntTo_zero, cntTo_zero, cntTo_zero, List.take_zero]; exact HM0.out
 have HM1 := Aside0.mk hM0
 rw [← hN]
 clear hN HM0 hM0
 go_wp2_with fail
 go_loopw [43] (fun y wr => ∃ (i : Nat), y = .int .i64 (i : Int) ∧ i ≤ N ∧ Aside0 (MapT wr bm i (og.take i) (cntTo og i) (cntTo ke 0) (cntTo kf 0)) ∧ Aside0 (Below w3.heap.size w3 wr)) (fun y _ => N - (intOf y).toNat)
 case atStart => exact ⟨0, rfl, by omega, HM1, HB4⟩
 case round =>
   clear HM1 HB4
   obtain ⟨i, rfl, hi, HM, HB⟩ := hrel
   by_cases hlt : i < N
   · have hlt2 : i < og.length := by rw [← HN.out]; exact hlt
     obtain ⟨ad, eA, hx⟩ := Kd.at_int (Kd.C_below HO3.out HB.out) (i : Int) (by omega) (by omega)
     subst eA
     rw [gi_rd, Int.toNat_natCast] at hx
     have hmem : gi og i ∈ og := by
       unfold gi
       rw [List.getD_eq_getElem?_getD, List.getElem?_eq_getElem hlt2]
       exact List.getElem_mem hlt2
     have hkk := (HFIT.out.key _).1 hmem
     have hcc := HFIT.out.hc
     have hk : InI (gi og i) := ⟨by omega, by omega⟩
     have hup := cntTo_succ og hlt2
     obtain ⟨k, hkd⟩ : ∃ k, k = gi og i := ⟨_, rfl⟩
     rw [← hkd] at hx hk hup
     have HUP := Aside0.mk hup
     have HKD := Aside0.mk hkd
     have hol := HN.out
     clear hkd hmem hkk hup hcc
     have la := HM.out.get hk
     obtain ⟨a0, ha0⟩ : ∃ a0, a0 = (cntTo og i) k := ⟨_, rfl⟩
     obtain ⟨b0, hb0⟩ : ∃ b0, b0 = (cntTo ke 0) k := ⟨_, rfl⟩
     obtain ⟨d0, hd0⟩ : ∃ d0, d0 = (cntTo kf 0) k := ⟨_, rfl⟩
     rw [← ha0, ← hb0, ← hd0] at la
     replace la : (Instr.lookup 61 (.map (some bm)) (.int .i64 k) false).run Try.prog wr = .ok (.agg #[.int .i64 a0, .int .i64 b0, .int .i64 d0]) wr := la
     have HAB : Aside0 (a0 = (cntTo og i) k ∧ b0 = (cntTo ke 0) k ∧ d0 = (cntTo kf 0) k) := ⟨ha0, hb0, hd0⟩
     have u0 : (wr.alloc (.cells #[.int .i64 a0, .int .i64 b0, .int .i64 d0] 63 (0, 0))).cell? ⟨wr.heap.size, 0, none⟩ = some (.int .i64 a0) := heap_cell (heap_last _ _) rfl
     have u3 : (wr.alloc (.cells #[.int .i64 a0, .int .i64 b0, .int .i64 d0] 63 (0, 0))).frozen? ⟨wr.heap.size, 0, none⟩ = false := heap_free (heap_last _ _) _
     obtain ⟨o1, ho1⟩ : ∃ o1, o1 = a0 + 1 := ⟨_, rfl⟩
     have q1 : IntKind.i64.wrap (a0 + 1) = o1 := by rw [ho1]; exact IntWalk.i64_in _ (by rw [ha0]; have := cntTo_le og i k; omega)
     have HO1 := Aside0.mk ho1
     clear ha0 hb0 hd0 ho1
     go_upto_region 11 with (fail)
     clear u0 u3 q1
     have HT6 := Aside0.mk (heap_last wr (.cells #[.int .i64 o1, .int .i64 b0, .int .i64 d0] 63 (0, 0)))
     have hb6 : Below wr.heap.size wr (wr.alloc (.cells #[.int .i64 o1, .int .i64 b0, .int .i64 d0] 63 (0, 0))) := (Below.refl _ _).alloc (Nat.le_refl _) _
     have HB6 := Aside0.mk (HB.out.trans (hb6.mono HB.out.size))
     have HM6 := Aside0.mk (HM.out.move (hb6.block _ HM.out.lt))
     clear hb6 la
     generalize wr.alloc (.cells #[.int .i64 o1, .int .i64 b0, .int .i64 d0] 63 (0, 0)) = w6 at HT6 HT6 HB6 HM6 ⊢
     obtain ⟨bt, hbt⟩ : ∃ bt, bt = wr.heap.size := ⟨_, rfl⟩
     rw [← hbt] at HT6 ⊢
     obtain ⟨w7, r7, m7, f7⟩ := MapT.put (w := w6) (HM6.out.move rfl) (by omega) hk o1 b0 d0
     replace r7 : (Instr.mapUpdate 61 (.map (some bm)) (.int .i64 k) (.agg #[.int .i64 o1, .int .i64 b0, .int .i64 d0])).run Try.prog w6 = .ok () w7 := r7
     have HB7 : Aside0 (Below w3.heap.size w3 w7) := ⟨HB6.out.trans (f7.below HB6.out.size (fun k hk => by have := HBM.out; omega))⟩
     have HM7 := Aside0.mk m7
     clear hbt m7 f7 HM6
     have z0 : w6.cell? ⟨bt, 0, none⟩ = some (.int .i64 o1) := heap_cell HT6.out rfl
     have z1 : w6.cell? ⟨bt, 1, none⟩ = some (.int .i64 b0) := heap_cell HT6.out rfl
     have z2 : w6.cell? ⟨bt, 2, none⟩ = some (.int .i64 d0) := heap_cell HT6.out rfl
     go_wp2_with fail
     go_roundw
     case rel =>
       have e := HM7.out
       rw [HAB.out.2.1, HAB.out.2.2, up_self, up_self, HO1.out, HAB.out.1, HUP.out, HKD.out, ← take_snoc og hlt2] at e
       exact ⟨i + 1, by go_num, by omega, ⟨e⟩, HB7⟩
     case measure => simp [intOf]; omega
   · obtain rfl : i = N := by omega
     clear hlt hi
     have hM1 : MapT wr bm (i + 0) og (cntTo og i) (cntTo ke 0) (cntTo kf 0) := by
       have e := HM.out
       rw [HN.out, List.take_length] at e
       rw [HN.out]
       exact e
     have HM1 := Aside0.mk hM1
     have x1 : wr.cell? ⟨bg, 1, none⟩ = some (.slice A m c0) := heap_cell ((HB.out.block _ (lt_of HX3.out)).trans HX3.out) rfl
     have HB4 := HB
     clear hM1 HM HB
     go_wp2_with fail
     clear x1
     go_loopw [61] (fun y wr => ∃ (j : Nat), y = .int .i64 (j : Int) ∧ j ≤ m ∧ Aside0 (MapT wr bm (i + j) og (cntTo og i) (cntTo ke j) (cntTo kf 0)) ∧ Aside0 (Below w3.heap.size w3 wr)) (fun y _ => m - (intOf y).toNat)
     case atStart => exact ⟨0, rfl, by omega, HM1, HB4⟩
     case round =>
       clear HM1 HB4
       obtain ⟨j, rfl, hj, HM, HB⟩ := hrel
       have hmb : m ≤ 4194304 := by rw [HME.out]; exact HFIT.out.he
       by_cases hlt : j < m
       · have hlt2 : j < es.length := by rw [← HME.out]; exact hlt
         obtain ⟨ad, eA, h1, h2⟩ := (HE3.out.below HB.out) j hlt2
         subst eA
         have hed := HFIT.out.edge j hlt2
         have hgk := gi_ksE og es hlt2
         have hup := cntTo_succ ke (i := j) (by rw [HKE.out, ksE, List.length_map]; exact hlt2)
         rw [HKE.out, hgk, ← HKE.out] at hup
         obtain ⟨x, hx⟩ : ∃ x : Nat, (pe es j).1 = (x : Int) := ⟨(pe es j).1.toNat, by omega⟩
         obtain ⟨y, hy⟩ : ∃ y, y = (pe es j).2 := ⟨_, rfl⟩
         rw [hx] at h1 hed hup
         rw [← hy] at h2
         rw [Int.toNat_natCast] at hup
         obtain ⟨ado, eO, hxo⟩ := Kd.at_int (Kd.C_below HO3.out HB.out) (x : Int) (by omega) (by omega)
         subst eO
         rw [gi_rd, Int.toNat_natCast] at hxo
         have hxl : x < og.length := by omega
         have hmem := gi_mem hxl
         have hkk := (HFIT.out.key _).1 hmem
         have hcc := HFIT.out.hc
         have hk : InI (gi og x) := ⟨by omega, by omega⟩
         obtain ⟨k, hkd⟩ : ∃ k, k = gi og x := ⟨_, rfl⟩
         rw [← hkd] at hxo hk hup hmem
         have HUP := Aside0.mk hup
         have HKS := Aside0.mk hmem
         have HXL : Aside0 (x < i) := ⟨by rw [HN.out]; exact hxl⟩
         obtain ⟨w5, hw5⟩ : ∃ w5, w5 = wr.alloc (.cells #[.int .i64 (x : Int), .int .i64 y] 56 (0, 0)) := ⟨_, rfl⟩
         have hb5 : Below wr.heap.size wr w5 := by rw [hw5]; exact (Below.refl _ _).alloc (Nat.le_refl _) _
         have HT5 : Aside0 (w5.heap[wr.heap.size]? = some (.cells #[.int .i64 (x : Int), .int .i64 y] 56 (0, 0))) := ⟨by rw [hw5]; exact heap_last _ _⟩
         have HB5 := Aside0.mk (HB.out.trans (hb5.mono HB.out.size))
         have HM5 := Aside0.mk (HM.out.move (hb5.block _ HM.out.lt))
         have HBE : Aside0 (wr.heap.size < w5.heap.size ∧ bm < wr.heap.size) := ⟨lt_of HT5.out, HM.out.lt⟩
         have hol := HN.out
         have hkl : ke.length ≤ 4194304 := by rw [HKE.out, ksE, List.length_map]; exact HFIT.out.he
         have hxo0 := hxo
         have HH5 := Aside0.mk hw5
         clear hw5 hkd hkk hup hcc HM HB hed hmem hgk hx hy
         go_upto_region 16 with (fail)
         have hw5 := HH5.out
         rw [← hw5]
         have hxo := (hb5.cell (cell_lt hxo0)).trans hxo0
         have HXO := Aside0.mk hxo
         obtain ⟨be, hbe⟩ : ∃ be, be = wr.heap.size := ⟨_, rfl⟩
         rw [← hbe] at HT5 HBE ⊢
         have v0 : w5.cell? ⟨be, 0, none⟩ = some (.int .i64 (x : Int)) := heap_cell HT5.out rfl
         clear hw5 HH5 hbe hb5 h1 h2 hxo0
         have la := HM5.out.get hk
         obtain ⟨a0, ha0⟩ : ∃ a0, a0 = (cntTo og i) k := ⟨_, rfl⟩
         obtain ⟨b0, hb0⟩ : ∃ b0, b0 = (cntTo ke j) k := ⟨_, rfl⟩
         obtain ⟨d0, hd0⟩ : ∃ d0, d0 = (cntTo kf 0) k := ⟨_, rfl⟩
         rw [← ha0, ← hb0, ← hd0] at la
         replace la : (Instr.lookup 61 (.map (some bm)) (.int .i64 k) false).run Try.prog w5 = .ok (.agg #[.int .i64 a0, .int .i64 b0, .int .i64 d0]) w5 := la
         have HAB : Aside0 (a0 = (cntTo og i) k ∧ b0 = (cntTo ke j) k ∧ d0 = (cntTo kf 0) k) := ⟨ha0, hb0, hd0⟩
         have u0 : (w5.alloc (.cells #[.int .i64 a0, .int .i64 b0, .int .i64 d0] 63 (0, 0))).cell? ⟨w5.heap.size, 1, none⟩ = some (.int .i64 b0) := heap_cell (heap_last _ _) rfl
         have u3 : (w5.alloc (.cells #[.int .i64 a0, .int .i64 b0, .int .i64 d0] 63 (0, 0))).frozen? ⟨w5.heap.size, 1, none⟩ = false := heap_free (heap_last _ _) _
         obtain ⟨o1, ho1⟩ : ∃ o1, o1 = b0 + 1 := ⟨_, rfl⟩
         have q1 : IntKind.i64.wrap (b0 + 1) = o1 := by rw [ho1]; exact IntWalk.i64_in _ (by rw [hb0]; have := cntTo_le ke j k; omega)
         have HO1 := Aside0.mk ho1
         clear ha0 hb0 hd0 ho1
         go_upto_region 18 with (fail)
         clear u0 u3 q1
         have HT6 := Aside0.mk (heap_last w5 (.cells #[.int .i64 a0, .int .i64 o1, .int .i64 d0] 63 (0, 0)))
         have hb6 : Below w5.heap.size w5 (w5.alloc (.cells #[.int .i64 a0, .int .i64 o1, .int .i64 d0] 63 (0, 0))) := (Below.refl _ _).alloc (Nat.le_refl _) _
         have HB6 := Aside0.mk (HB5.out.trans (hb6.mono HB5.out.size))
         have HM6 := Aside0.mk (HM5.out.move (hb6.block _ HM5.out.lt))
         have HBE6 : Aside0 ((w5.alloc (.cells #[.int .i64 a0, .int .i64 o1, .int .i64 d0] 63 (0, 0))).heap[be]? = some (.cells #[.int .i64 (x : Int), .int .i64 y] 56 (0, 0))) := ⟨heap_old HT5.out _⟩
         have HXO6 : Aside0 ((w5.alloc (.cells #[.int .i64 a0, .int .i64 o1, .int .i64 d0] 63 (0, 0))).cell? (ado.add x) = some (.int .i64 k)) := ⟨(hb6.cell (cell_lt HXO.out)).trans HXO.out⟩
         clear hb6 la
         generalize w5.alloc (.cells #[.int .i64 a0, .int .i64 o1, .int .i64 d0] 63 (0, 0)) = w6 at HBE6 HXO6 HT6 HB6 HM6 ⊢
         obtain ⟨bt, hbt⟩ : ∃ bt, bt = w5.heap.size := ⟨_, rfl⟩
         rw [← hbt] at HT6 ⊢
         obtain ⟨w7, r7, m7, f7⟩ := MapT.put (w := w6.drew) (HM6.out.move rfl) (by omega) hk a0 o1 d0
         replace r7 : (Instr.mapUpdate 61 (.map (some bm)) (.int .i64 k) (.agg #[.int .i64 a0, .int .i64 o1, .int .i64 d0])).run Try.prog w6.drew = .ok () w7 := r7
         have HB7 : Aside0 (Below w3.heap.size w3 w7) := ⟨HB6.out.drew.trans (f7.below HB6.out.size (fun k hk => by have := HBM.out; omega))⟩
         have HM7 := Aside0.mk m7
         clear hbt m7 f7 HM6
         have E0 : Aside0 (w6.drew.cell? ⟨be, 0, none⟩ = some (.int .i64 (x : Int))) := ⟨heap_cell (w := w6) HBE6.out rfl⟩
         have E1 : Aside0 (w6.drew.cell? (ado.add x) = some (.int .i64 k)) := ⟨HXO6.out⟩
         have E2 : Aside0 (w6.drew.cell? ⟨bt, 0, none⟩ = some (.int .i64 a0)) := ⟨heap_cell (w := w6) HT6.out rfl⟩
         have E3 : Aside0 (w6.drew.cell? ⟨bt, 1, none⟩ = some (.int .i64 o1)) := ⟨heap_cell (w := w6) HT6.out rfl⟩
         have E4 : Aside0 (w6.drew.cell? ⟨bt, 2, none⟩ = some (.int .i64 d0)) := ⟨heap_cell (w := w6) HT6.out rfl⟩
         clear HT6 HBE6 HXO6 HB6 v0 hxo
         have hxi := HXL.out
         refine start_ (n := 8) (S := fun w' => w'.cell? ⟨be, 0, none⟩ = some (.int .i64 (x : Int)) ∧ w'.cell? (ado.add x) = some (.int .i64 k) ∧ w'.cell? ⟨bt, 0, none⟩ = some (.int .i64 a0) ∧ w'.cell? ⟨bt, 1, none⟩ = some (.int .i64 o1) ∧ w'.cell? ⟨bt, 2, none⟩ = some (.int .i64 d0)) (ds := [7]) #[false, false, false, false, false, false, false, false] (by kernel_rfl) rfl rfl ⟨E0.out, E1.out, E2.out, E3.out, E4.out⟩ (fun hHeld => ?_)
         refine pure_ (i := 0) (N := some 76) (v := ?_) (a' := ?_) #[true, false, false, false, false, false, false, false] rfl rfl (by kernel_rfl) (fun _ _ _ h => h) (Or.inl ⟨by rfl, ?_⟩) ?_ ?_
         rotate_left
         · intro w'
           go_simp
           with_reducible rfl
         rotate_left
         · simp only [Act.put, List.setIfInBounds_toArray, List.set_cons_zero, List.set_cons_succ, i64_w, i32_w]
           rfl
         refine pure_ (i := 1) (N := some 77) (v := ?_) (a' := ?_) #[true, true, false, false, false, false, false, false] rfl rfl (by kernel_rfl) (fun _ _ _ h => h) (Or.inl ⟨by rfl, ?_⟩) ?_ ?_
         rotate_left
         · intro w'
           go_simp
           with_reducible rfl
         rotate_left
         · simp only [Act.put, List.setIfInBounds_toArray, List.set_cons_zero, List.set_cons_succ, i64_w, i32_w]
           rfl
         refine pure_ (i := 2) (N := some 78) (v := ?_) (a' := ?_) #[true, true, true, false, false, false, false, false] rfl rfl (by kernel_rfl) (fun _ _ _ h => h) (Or.inl ⟨by rfl, ?_⟩) ?_ ?_
         rotate_left
         · intro w'
           go_simp
           with_reducible rfl
         rotate_left
         · simp only [Act.put, List.setIfInBounds_toArray, List.set_cons_zero, List.set_cons_succ, i64_w, i32_w]
           rfl
         refine take_ (i := 3) (N := some 79) (v := ?_) (a' := ?_) #[true, true, true, true, false, false, false, false] rfl rfl (by kernel_rfl) (fun _ _ _ h => h) (Or.inl ⟨by rfl, ?_⟩) hHeld ?_ ?_
         rotate_left
         · rintro w' ⟨s0, s1, s2, s3, s4⟩
           go_simp
           with_reducible rfl
         rotate_left
         · simp only [Act.put, List.setIfInBounds_toArray, List.set_cons_zero, List.set_cons_succ, i64_w, i32_w]
           rfl
         refine pure_ (i := 4) (N := some 80) (v := ?_) (a' := ?_) #[true, true, true, true, true, false, false, false] rfl rfl (by kernel_rfl) (fun _ _ _ h => h) (Or.inl ⟨by rfl, ?_⟩) ?_ ?_
         rotate_left
         · intro w'
           go_simp
           with_reducible rfl
         rotate_left
         · simp only [Act.put, List.setIfInBounds_toArray, List.set_cons_zero, List.set_cons_succ, i64_w, i32_w]
           rfl
         refine take_ (i := 5) (N := some 81) (v := ?_) (a' := ?_) #[true, true, true, true, true, true, false, false] rfl rfl (by kernel_rfl) (fun _ _ _ h => h) (Or.inl ⟨by rfl, ?_⟩) hHeld ?_ ?_
         rotate_left
         · rintro w' ⟨s0, s1, s2, s3, s4⟩
           go_simp
           with_reducible rfl
         rotate_left
         · simp only [Act.put, List.setIfInBounds_toArray, List.set_cons_zero, List.set_cons_succ, i64_w, i32_w]
           rfl
         refine take_ (i := 6) (N := some 82) (v := ?_) (a' := ?_) #[true, true, true, true, true, true, true, false] rfl rfl (by kernel_rfl) (fun _ _ _ h => h) (Or.inl ⟨by rfl, ?_⟩) hHeld ?_ ?_
         rotate_left
         · rintro w' ⟨s0, s1, s2, s3, s4⟩
           go_simp
           with_reducible rfl
         rotate_left
         · simp only [Act.put, List.setIfInBounds_toArray, List.set_cons_zero, List.set_cons_succ, i64_w, i32_w]
           rfl
         refine last_ (i := 7) (N := none) #[true, true, true, true, true, true, true, true] rfl rfl (by kernel_rfl) (by decide) (fun K hK => ?_)
         refine skip_ (w1 := ?_) (by rfl) rfl ?_ ?_
         rotate_left
         · go_simp
           rfl
         refine hK.out _ _ ?_
         clear hK K
         refine done_ (by kernel_rfl) ?_
         clear r7
         go_wp2_with fail
         go_roundw
         case rel =>
           have e := HM7.out
           rw [HAB.out.1, HAB.out.2.2, up_self, up_self, HO1.out, HAB.out.2.1, HUP.out] at e
           exact ⟨j + 1, by go_num, by omega, ⟨e.same (mem_snoc HKS.out)⟩, HB7⟩
         case measure => simp [intOf]; omega
       · obtain rfl : j = m := by omega
         clear hlt hj
         have hM2 : MapT wr bm (i + j + 0) og (cntTo og i) (cntTo ke j) (cntTo kf 0) := HM.out
         have HM2 := Aside0.mk hM2
         have HB4 := HB
         obtain ⟨L, hL⟩ : ∃ L, L = fs.length := ⟨_, rfl⟩
         have HL := Aside0.mk hL
         have hLb : L ≤ 8388608 := by rw [hL]; exact HFIT.out.hf
         rw [← hL]
         clear hM2 HM HB hL
         go_wp2_with fail
         go_loopw [86] (fun y wr => ∃ (q : Nat), y = .int .i64 (q : Int) ∧ q ≤ L ∧ Aside0 (MapT wr bm (i + j + q) og (cntTo og i) (cntTo ke j) (cntTo kf q)) ∧ Aside0 (Below w3.heap.size w3 wr)) (fun y _ => L - (intOf y).toNat)
         case atStart => exact ⟨0, rfl, by omega, HM2, HB4⟩
         case round =>
           clear HM2 HB4
           obtain ⟨q, rfl, hq, HM, HB⟩ := hrel
           have hmb : j ≤ 4194304 := by rw [HME.out]; exact HFIT.out.he
           by_cases hlt : q < L
           · have hlt2 : q < fs.length := by rw [← HL.out]; exact hlt
             obtain ⟨ad, B, cB, eA, hx, hcB, hrow⟩ := row_at (Kd.C_below HF3.out HB.out) hlt2
             subst eA
             obtain ⟨f1, f2, f3⟩ := HFIT.out.face q hlt2
             have hgk := gi_ksF og es fs hlt2
             have hup := cntTo_succ kf (i := q) (by rw [HKF.out, ksF, List.length_map]; exact hlt2)
             rw [HKF.out, hgk, ← HKF.out] at hup
             obtain ⟨face, hface⟩ : ∃ face, face = gl fs q := ⟨_, rfl⟩
             rw [← hface] at hx hcB hrow f1 f2 f3 hup
             obtain ⟨h, hh⟩ : ∃ h : Nat, gi face 0 = (h : Int) := ⟨(gi face 0).toNat, by omega⟩
             obtain ⟨adB, eB, h0⟩ := Kd.at_int hrow 0 (by omega) (by omega)
             subst eB
             rw [show (0 : Int) = ((0 : Nat) : Int) from rfl, gi_rd, Int.toNat_natCast, hh, Addr.add_zero'] at h0
             rw [hh] at f3 hup
             rw [Int.toNat_natCast] at hup
             obtain ⟨ei, hei⟩ : ∃ ei, ei = h / 2 := ⟨_, rfl⟩
             rw [← hei] at hup
             have hel : ei < es.length := by omega
             have q5 : Int.tdiv (h : Int) 2 = (ei : Int) := by rw [hei]; rfl
             have q6 : IntKind.i64.wrap (ei : Int) = (ei : Int) := IntWalk.i64_in _ (by have := HFIT.out.he; omega)
             obtain ⟨ade, eE, h1, h2⟩ := (HE3.out.below HB.out) ei hel
             subst eE
             have hed := HFIT.out.edge ei hel
             obtain ⟨x, hx1⟩ : ∃ x : Nat, (pe es ei).1 = (x : Int) := ⟨(pe es ei).1.toNat, by omega⟩
             rw [hx1] at h1 hed hup
             rw [Int.toNat_natCast] at hup
             obtain ⟨ado, eO, hxo⟩ := Kd.at_int (Kd.C_below HO3.out HB.out) (x : Int) (by omega) (by omega)
             subst eO
             rw [gi_rd, Int.toNat_natCast] at hxo
             have hxl : x < og.length := by omega
             have hmem := gi_mem hxl
             have hkk := (HFIT.out.key _).1 hmem
             have hcc := HFIT.out.hc
             have hk : InI (gi og x) := ⟨by omega, by omega⟩
             obtain ⟨k, hkd⟩ : ∃ k, k = gi og x := ⟨_, rfl⟩
             rw [← hkd] at hxo hk hup hmem
             have HUP := Aside0.mk hup
             have HKS := Aside0.mk hmem
             have hxi : x < i := by rw [HN.out]; exact hxl
             have hej : ei < j := by rw [HME.out]; exact hel
             have hfl : 0 < face.length := f1
             have x1 : wr.cell? ⟨bg, 1, none⟩ = some (.slice (some ade) j c0) := heap_cell ((HB.out.block _ (lt_of HX3.out)).trans HX3.out) rfl
             have hol := HN.out
             have hkl : kf.length ≤ 8388608 := by rw [HKF.out, ksF, List.length_map]; exact HFIT.out.hf
             have HOL := Aside0.mk hol
             clear hkd hkk hup hcc hed hmem hgk hx1 h2 hface hh hei f1 f2 f3 hrow hol
             go_wp2_with fail
             go_quiet (fail)
             have HM5 : Aside0 (MapT (wr.drewN nq) bm (i + j + q) og (cntTo og i) (cntTo ke j) (cntTo kf q)) := ⟨HM.out.move rfl⟩
             have HB5 : Aside0 (Below w3.heap.size w3 (wr.drewN nq)) := ⟨⟨HB.out.os, HB.out.tape, HB.out.output, HB.out.size, HB.out.block⟩⟩
             clear hx h0 h1 hxo q5 q6 x1 HM HB
             generalize wr.drewN nq = w5 at HM5 HB5 ⊢
             have la := HM5.out.get hk
             obtain ⟨a0, ha0⟩ : ∃ a0, a0 = (cntTo og i) k := ⟨_, rfl⟩
             obtain ⟨b0, hb0⟩ : ∃ b0, b0 = (cntTo ke j) k := ⟨_, rfl⟩
             obtain ⟨d0, hd0⟩ : ∃ d0, d0 = (cntTo kf q) k := ⟨_, rfl⟩
             rw [← ha0, ← hb0, ← hd0] at la
             replace la : (Instr.lookup 61 (.map (some bm)) (.int .i64 k) false).run Try.prog w5 = .ok (.agg #[.int .i64 a0, .int .i64 b0, .int .i64 d0]) w5 := la
             have HAB : Aside0 (a0 = (cntTo og i) k ∧ b0 = (cntTo ke j) k ∧ d0 = (cntTo kf q) k) := ⟨ha0, hb0, hd0⟩
             have u0 : (w5.alloc (.cells #[.int .i64 a0, .int .i64 b0, .int .i64 d0] 63 (0, 0))).cell? ⟨w5.heap.size, 2, none⟩ = some (.int .i64 d0) := heap_cell (heap_last _ _) rfl
             have u3 : (w5.alloc (.cells #[.int .i64 a0, .int .i64 b0, .int .i64 d0] 63 (0, 0))).frozen? ⟨w5.heap.size, 2, none⟩ = false := heap_free (heap_last _ _) _
             obtain ⟨o1, ho1⟩ : ∃ o1, o1 = d0 + 1 := ⟨_, rfl⟩
             have q1 : IntKind.i64.wrap (d0 + 1) = o1 := by rw [ho1]; exact IntWalk.i64_in _ (by rw [hd0]; have := cntTo_le kf q k; omega)
             have HO1 := Aside0.mk ho1
             clear ha0 hb0 hd0 ho1
             go_upto_region 26 with (fail)
             clear u0 u3 q1
             have HT6 := Aside0.mk (heap_last w5 (.cells #[.int .i64 a0, .int .i64 b0, .int .i64 o1] 63 (0, 0)))
             have hb6 : Below w5.heap.size w5 (w5.alloc (.cells #[.int .i64 a0, .int .i64 b0, .int .i64 o1] 63 (0, 0))) := (Below.refl _ _).alloc (Nat.le_refl _) _
             have HB6 := Aside0.mk (HB5.out.trans (hb6.mono HB5.out.size))
             have HM6 := Aside0.mk (HM5.out.move (hb6.block _ HM5.out.lt))
             clear hb6 la
             generalize w5.alloc (.cells #[.int .i64 a0, .int .i64 b0, .int .i64 o1] 63 (0, 0)) = w6 at HT6 HT6 HB6 HM6 ⊢
             obtain ⟨bt, hbt⟩ : ∃ bt, bt = w5.heap.size := ⟨_, rfl⟩
             rw [← hbt] at HT6 ⊢
             obtain ⟨w7, r7, m7, f7⟩ := MapT.put (w := w6) (HM6.out.move rfl) (by omega) hk a0 b0 o1
             replace r7 : (Instr.mapUpdate 61 (.map (some bm)) (.int .i64 k) (.agg #[.int .i64 a0, .int .i64 b0, .int .i64 o1])).run Try.prog w6 = .ok () w7 := r7
             have HB7 : Aside0 (Below w3.heap.size w3 w7) := ⟨HB6.out.trans (f7.below HB6.out.size (fun k hk => by have := HBM.out; omega))⟩
             have HM7 := Aside0.mk m7
             clear hbt m7 f7 HM6
             have z0 : w6.cell? ⟨bt, 0, none⟩ = some (.int .i64 a0) := heap_cell HT6.out rfl
             have z1 : w6.cell? ⟨bt, 1, none⟩ = some (.int .i64 b0) := heap_cell HT6.out rfl
             have z2 : w6.cell? ⟨bt, 2, none⟩ = some (.int .i64 o1) := heap_cell HT6.out rfl
             go_wp2_with fail
             go_roundw
             case rel =>
               have e := HM7.out
               rw [HAB.out.1, HAB.out.2.1, up_self, up_self, HO1.out, HAB.out.2.2, HUP.out] at e
               exact ⟨q + 1, by go_num, by omega, ⟨e.same (mem_snoc HKS.out)⟩, HB7⟩
             case measure => simp [intOf]; omega
           · obtain rfl : q = L := by omega
             clear hlt hq hmb
             obtain ⟨ms, clock, hbk, hst, hsz, hent, hsum⟩ := HM.out.entries
             have hrg := run_range_map (P := Try.prog) wr 61 3 63 bm ms clock Try.underlying61 hbk
             have hrl : bm < wr.heap.size := HM.out.lt
             obtain ⟨G, hG⟩ : ∃ G : Int → Int, G = fun k => term (cntTo og i k) (cntTo ke j k) (cntTo kf q k) := ⟨_, rfl⟩
             have HTOT : Aside0 ((ms.toList.map fun x => G (valOf x.key)).sum = genusSum og es fs c) := ⟨by
               rw [hsum G c HFIT.out.key, hG]
               unfold genusSum
               rw [← HKE.out, ← HKF.out, ← HN.out, ← HME.out, ← HL.out]⟩
             have HGE : Aside0 (∀ k, G k = term (cntTo og i k) (cntTo ke j k) (cntTo kf q k)) := ⟨fun k => by rw [hG]⟩
             have HENT := Aside0.mk hent
             have HST := Aside0.mk hst
             have HSZ := Aside0.mk hsz
             have HLEN : Aside0 (og.length = i ∧ ke.length = j ∧ kf.length = q ∧ i ≤ 1048576 ∧ j ≤ 4194304 ∧ q ≤ 8388608) := ⟨HN.out.symm, by rw [HKE.out, ksE, List.length_map, HME.out], by rw [HKF.out, ksF, List.length_map, HL.out], hNb, by rw [HME.out]; exact HFIT.out.he, hLb⟩
             have HGB : Aside0 (∀ k, (0 ≤ cntTo og i k ∧ cntTo og i k ≤ 9000000) ∧ (0 ≤ cntTo ke j k ∧ cntTo ke j k ≤ 9000000) ∧ (0 ≤ cntTo kf q k ∧ cntTo kf q k ≤ 9000000)) := ⟨fun k => by
               have h1 := cntTo_le og i k
               have h2 := cntTo_le ke j k
               have h3 := cntTo_le kf q k
               have := HLEN.out
               omega⟩
             have HSB : Aside0 (∀ seen, -400000000000000 ≤ seenG (fun x => G (valOf x.key)) ms.toList seen ∧ seenG (fun x => G (valOf x.key)) ms.toList seen ≤ 400000000000000) := ⟨fun seen => by
               have h1 := seenG_bound (fun x => G (valOf x.key)) seen 20000000 ms.toList (fun x _ => by
                 have := HGB.out (valOf x.key)
                 show _ ≤ G (valOf x.key) ∧ G (valOf x.key) ≤ _
                 rw [HGE.out]
                 exact term_bound this.1 this.2.1 this.2.2)
               have h2 : ms.toList.length ≤ 13631488 := by
                 have := HSZ.out
                 have := HLEN.out
                 rw [Array.length_toList]; omega
               have h3 : ms.toList.length * 20000000 ≤ 13631488 * 20000000 := Nat.mul_le_mul_right _ h2
               omega⟩
             have HMP5 : Aside0 ((wr.alloc (.mapIter (some bm) clock #[] clock)).heap[bm]? = some (.map ms clock)) := ⟨heap_old hbk _⟩
             have HIT5 : Aside0 ((wr.alloc (.mapIter (some bm) clock #[] clock)).heap[wr.heap.size]? = some (.mapIter (some bm) clock #[] clock)) := ⟨heap_last _ _⟩
             have HB5 := Aside0.mk (HB.out.alloc HB.out.size (.mapIter (some bm) clock #[] clock))
             have HRL : Aside0 (w3.heap.size ≤ wr.heap.size ∧ bm ≠ wr.heap.size) := ⟨HB.out.size, by omega⟩
             have HIS5 : Aside0 (seenG (fun x => G (valOf x.key)) ms.toList #[] = 0) := ⟨seenG_none _ _⟩
             clear hG hent hst hsz hsum HM HB hbk hrl
             go_wp2_with fail
             generalize wr.alloc (.mapIter (some bm) clock #[] clock) = w5 at HMP5 HIT5 HB5 ⊢
             obtain ⟨r, hr⟩ : ∃ r, r = wr.heap.size := ⟨_, rfl⟩
             rw [← hr] at HIT5 HRL ⊢
             clear hr hrg
             go_loopw [22] (fun s wr => ∃ (seen : Array Nat) (c1 : Nat), s = .int .i64 (seenG (fun x => G (valOf x.key)) ms.toList seen) ∧ clock ≤ c1 ∧ Aside0 (wr.heap[r]? = some (.mapIter (some bm) clock seen c1)) ∧ Aside0 (wr.heap[bm]? = some (.map ms clock)) ∧ Aside0 (Below w3.heap.size w3 wr)) (fun _ wr => (leftOf ms (wr.iterSeen r)).size)
             case atStart => exact ⟨#[], clock, by rw [HIS5.out], Nat.le_refl _, HIT5, HMP5, HB5⟩
             case round =>
               clear HIS5 HIT5 HMP5 HB5
               obtain ⟨seen, c1, rfl, hc1, HIT, HMP, HB⟩ := hrel
               obtain ⟨sv, hsv⟩ : ∃ sv, sv = seenG (fun x => G (valOf x.key)) ms.toList seen := ⟨_, rfl⟩
               rw [← hsv]
               have HSV := Aside0.mk hsv
               have hsb := HSB.out seen
               rw [← hsv] at hsb
               clear hsv
               have law := run_next_at (P := Try.prog) wr 0 r bm clock c1 seen ms clock HIT.out HMP.out HST.out.1 hc1
               rcases law with ⟨h0, hrun⟩ | ⟨e, he, w1, hw1, hrun⟩
               · have hnx : ∀ ty, (Instr.next (.pointer (some ⟨r, 0, none⟩)) false ty).run Try.prog wr = _ := fun _ => hrun
                 have hfin : sv = genusSum og es fs c := by rw [HSV.out, seenG_all _ _ _ h0, HTOT.out]
                 have HFIN := Aside0.mk hfin
                 have HBF := Aside0.mk (HB3.out.trans (HB.out.mono HB3.out.size))
                 clear hfin h0 hrun
                 go_wp2_with fail
                 go_ret2
                 exact ⟨by rw [HFIN.out]; rfl, HBF.out⟩
               · obtain ⟨k, hkS, hkey, hval⟩ := HENT.out e (mem_left he).1
                 have hgk := HGE.out k
                 have hbb := HGB.out k
                 obtain ⟨a, ha⟩ : ∃ a, a = cntTo og i k := ⟨_, rfl⟩
                 obtain ⟨b, hb⟩ : ∃ b, b = cntTo ke j k := ⟨_, rfl⟩
                 obtain ⟨d, hd⟩ : ∃ d, d = cntTo kf q k := ⟨_, rfl⟩
                 rw [← ha, ← hb, ← hd] at hval hgk hbb
                 replace hval : e.val = .agg #[.int .i64 a, .int .i64 b, .int .i64 d] := hval
                 have hpush := seenG_push (fun x => G (valOf x.key)) seen e (mem_left he).2 ms.toList HST.out.2.1 (mem_left he).1
                 rw [← HSV.out] at hpush
                 have hsb2 := HSB.out (seen.push e.born)
                 rw [hpush] at hsb2
                 have hke : G (valOf e.key) = term a b d := by rw [hkey]; exact hgk
                 simp only [hke] at hpush hsb2
                 have hshr := left_shrinks ms seen e he
                 have hr1 : w1.heap = wr.heap := by rcases hw1 with rfl | rfl <;> rfl
                 have hrlt : r < w1.heap.size := by rw [hr1]; exact lt_of HIT.out
                 have hIT5 : (setBlock w1 r (.mapIter (some bm) clock (seen.push e.born) clock)).heap[r]? = some (.mapIter (some bm) clock (seen.push e.born) clock) := by unfold setBlock; simp only; rw [Array.getElem?_setIfInBounds, if_pos rfl, if_pos hrlt]
                 have hMP5 : (setBlock w1 r (.mapIter (some bm) clock (seen.push e.born) clock)).heap[bm]? = some (.map ms clock) := by
                   unfold setBlock
                   simp only
                   rw [Array.getElem?_setIfInBounds, if_neg (fun e => HRL.out.2 e.symm), hr1]
                   exact HMP.out
                 have hB5 : Below w3.heap.size w3 (setBlock w1 r (.mapIter (some bm) clock (seen.push e.born) clock)) := by
                   have hB1 : Below w3.heap.size w3 w1 := by
                     rcases hw1 with rfl | rfl
                     · exact HB.out
                     · exact HB.out.drew
                   exact hB1.trans (setBlock_below HRL.out.1)
                 rw [hkey, hval] at hrun
                 have hnx : ∀ ty, (Instr.next (.pointer (some ⟨r, 0, none⟩)) false ty).run Try.prog wr = _ := fun _ => hrun
                 have hen := run_entry_at (P := Try.prog) _ r bm clock seen ms clock e hIT5 hMP5 (mem_left he).1 HST.out.2.1
                 rw [hkey, hval] at hen
                 have HIT5 := Aside0.mk hIT5
                 have HMP5 := Aside0.mk hMP5
                 have HB5 := Aside0.mk hB5
                 have HPU := Aside0.mk hpush
                 have HSH : Aside0 ((leftOf ms (seen.push e.born)).size < (leftOf ms (wr.iterSeen r)).size) := ⟨by
                   have : wr.iterSeen r = seen := by unfold World.iterSeen; rw [HIT.out]
                   rw [this]; exact hshr⟩
                 obtain ⟨sn, hsn⟩ : ∃ sn, sn = seen.push e.born := ⟨_, rfl⟩
                 rw [← hsn] at hnx hen HIT5 HMP5 HB5 HPU HSH
                 clear hsn hIT5 hMP5 hB5 hpush hshr hrun hkey hval hke he hw1 hr1 hrlt HIT HMP HB hgk ha hb hd hkS HSV
                 generalize setBlock w1 r (.mapIter (some bm) clock sn clock) = w5 at hnx hen HIT5 HMP5 HB5
                 have HIT6 := Aside0.mk (heap_old HIT5.out (.cells #[.int .i64 a, .int .i64 b, .int .i64 d] 63 (0, 0)))
                 have HMP6 := Aside0.mk (heap_old HMP5.out (.cells #[.int .i64 a, .int .i64 b, .int .i64 d] 63 (0, 0)))
                 have HB6 := Aside0.mk (HB5.out.alloc HB5.out.size (.cells #[.int .i64 a, .int .i64 b, .int .i64 d] 63 (0, 0)))
                 have u0 : (w5.alloc (.cells #[.int .i64 a, .int .i64 b, .int .i64 d] 63 (0, 0))).cell? ⟨w5.heap.size, 0, none⟩ = some (.int .i64 a) := heap_cell (heap_last _ _) rfl
                 have u1 : (w5.alloc (.cells #[.int .i64 a, .int .i64 b, .int .i64 d] 63 (0, 0))).cell? ⟨w5.heap.size, 1, none⟩ = some (.int .i64 b) := heap_cell (heap_last _ _) rfl
                 have u2 : (w5.alloc (.cells #[.int .i64 a, .int .i64 b, .int .i64 d] 63 (0, 0))).cell? ⟨w5.heap.size, 2, none⟩ = some (.int .i64 d) := heap_cell (heap_last _ _) rfl
                 by_cases hb0 : b > 0
                 · have t1 : decide (b > 0) = true := decide_eq_true hb0
                   have hterm : term a b d = Int.tdiv (2 - a + b - d) 2 := by unfold term; rw [if_pos hb0]
                   rw [hterm] at HPU hsb2
                   obtain ⟨p1, hp1⟩ : ∃ p1, p1 = 2 - a := ⟨_, rfl⟩
                   obtain ⟨p2, hp2⟩ : ∃ p2, p2 = p1 + b := ⟨_, rfl⟩
                   obtain ⟨p3, hp3⟩ : ∃ p3, p3 = p2 - d := ⟨_, rfl⟩
                   obtain ⟨p4, hp4⟩ : ∃ p4, p4 = Int.tdiv p3 2 := ⟨_, rfl⟩
                   obtain ⟨p5, hp5⟩ : ∃ p5, p5 = sv + p4 := ⟨_, rfl⟩
                   rw [← hp1, ← hp2, ← hp3, ← hp4, ← hp5] at HPU hsb2
                   have hb4 : -20000000 ≤ p4 ∧ p4 ≤ 20000000 := by rw [hp4, tdiv2]; split <;> omega
                   have q1 : IntKind.i64.wrap (2 - a) = p1 := by rw [← hp1]; exact IntWalk.i64_in _ (by omega)
                   have q2 : IntKind.i64.wrap (p1 + b) = p2 := by rw [← hp2]; exact IntWalk.i64_in _ (by omega)
                   have q3 : IntKind.i64.wrap (p2 - d) = p3 := by rw [← hp3]; exact IntWalk.i64_in _ (by omega)
                   have q4 : Int.tdiv p3 2 = p4 := hp4.symm
                   have q4' : IntKind.i64.wrap p4 = p4 := IntWalk.i64_in _ (by omega)
                   have q5 : IntKind.i64.wrap (sv + p4) = p5 := by rw [← hp5]; exact IntWalk.i64_in _ (by omega)
                   clear hp1 hp2 hp3 hp4 hp5 hb4 hterm hb0 hsb hsb2 hbb
                   go_wp2_with fail
                   clear q1 q2 q3 q4 q4' q5 t1
                   go_roundw
                   case rel => exact ⟨sn, clock, by rw [HPU.out], Nat.le_refl _, HIT6, HMP6, HB6⟩
                   case measure =>
                     have : (w5.alloc (.cells #[.int .i64 a, .int .i64 b, .int .i64 d] 63 (0, 0))).iterSeen r = sn := by unfold World.iterSeen; rw [HIT6.out]
                     rw [this]; exact HSH.out
                 · have t1 : decide (b > 0) = false := decide_eq_false hb0
                   have hterm : term a b d = 0 := by unfold term; rw [if_neg hb0]
                   rw [hterm] at HPU
                   have HPU2 : Aside0 (seenG (fun x => G (valOf x.key)) ms.toList sn = sv) := ⟨by have := HPU.out; omega⟩
                   clear hterm hb0 hsb hsb2 hbb HPU
                   go_wp2_with fail
                   clear t1
                   go_roundw
                   case rel => exact ⟨sn, clock, by rw [HPU2.out], Nat.le_refl _, HIT6, HMP6, HB6⟩
                   case measure =>
                     have : (w5.alloc (.cells #[.int .i64 a, .int .i64 b, .int .i64 d] 63 (0, 0))).iterSeen r = sn := by unfold World.iterSeen; rw [HIT6.out]
                     rw [this]; exact HSH.out
def fitB (og : List Int) (es : List (Int × Int)) (fs : List (List Int)) (c : Nat) : Bool :=
 decide (c ≤ 1048576) && (decide (og.length ≤ 1048576) && (decide (es.length ≤ 4194304) && (decide (fs.length ≤ 8388608) && (og.all (fun x => decide (0 ≤ x ∧ x < (c : Int))) && ((List.range c).all (fun k => og.contains (k : Int)) &&
   (es.all (fun e => decide (0 ≤ e.1 ∧ e.1 < (og.length : Int))) && fs.all fun f => decide (0 < f.length ∧ 0 ≤ gi f 0 ∧ gi f 0 < ((2 * es.length : Nat) : Int))))))))
theorem fit_of {og : List Int} {es : List (Int × Int)} {fs : List (List Int)} {c : Nat} : fitB og es fs c = true ↔ Fit og es fs c := by
 unfold fitB
 simp only [Bool.and_eq_true, decide_eq_true_eq, List.all_eq_true, List.mem_range, List.contains_iff_mem]
 constructor
 · rintro ⟨h1, h2, h3, h4, h5, h6, h7, h8⟩
   refine ⟨h1, h2, h3, h4, fun k => ⟨h5 k, fun h => ?_⟩, fun j hj => ?_, fun q hq => ?_⟩
   · obtain ⟨n, rfl⟩ := Int.eq_ofNat_of_zero_le h.1
     exact h6 n (by omega)
   · have := h7 _ (List.mem_of_getElem? (pe_of hj))
     exact this
   · have := h8 _ (List.mem_of_getElem? (gl_of hq))
     exact this
 · intro h
   refine ⟨h.hc, h.ho, h.he, h.hf, fun x hx => (h.key x).1 hx, fun k hk => (h.key k).2 (by omega), fun e he => ?_, fun f hf => ?_⟩
   · obtain ⟨i, hi, rfl⟩ := List.getElem_of_mem he
     have := h.edge i hi
     have e : pe es i = es[i] := by unfold pe; rw [List.getD_eq_getElem?_getD, List.getElem?_eq_getElem hi]; rfl
     rw [e] at this
     exact this
   · obtain ⟨i, hi, rfl⟩ := List.getElem_of_mem hf
     have := h.face i hi
     have e : gl fs i = fs[i] := by unfold gl; rw [List.getD_eq_getElem?_getD, List.getElem?_eq_getElem hi]; rfl
     rw [e] at this
     exact this
end Go.Proofs.Ytmikcfddipldnaa.Cnt
namespace Go.Proofs.Ytmikcfddipldnaa.Face
open Go.RowKit Go.Proofs.YtmikcfddipldnaaW.PrintWords Go.Proofs.YtmikcfddipldnaaW.PrintLast Go.Proofs.YtmikcfddipldnaaW.PrintMore Go.Proofs.Ytmikcfddipldnaa.Mem
set_option linter.unusedVariables false
set_option linter.unusedSimpArgs false
def markRow (row : List Int) (q : Int) (o : List Int) : Nat → List Int
 | 0 => o
 | i + 1 => (markRow row q o i).set (gi row i).toNat q
def markRows (fs : List (List Int)) (M : Nat) : Nat → List Int
 | 0 => List.replicate M 0
 | q + 1 => markRow (gl fs q) (q : Int) (markRows fs M q) (gl fs q).length
def leftL (fs : List (List Int)) (M : Nat) : List Int := markRows fs M fs.length
theorem markRow_length (row : List Int) (q : Int) (o : List Int) : ∀ i, (markRow row q o i).length = o.length
 | 0 => rfl
 | i + 1 => by show ((markRow row q o i).set _ _).length = _; rw [List.length_set, markRow_length row q o i]
theorem markRows_length (fs : List (List Int)) (M : Nat) : ∀ q, (markRows fs M q).length = M
 | 0 => by simp [markRows]
 | q + 1 => by show (markRow _ _ _ _).length = _; rw [markRow_length, markRows_length fs M q]
structure FitL (fs : List (List Int)) (m : Nat) : Prop where
 hm : m ≤ 4194304
 hf : fs.length ≤ 8388608
 hr : ∀ q, q < fs.length → (gl fs q).length ≤ 8388608
 inn : ∀ q i, q < fs.length → i < (gl fs q).length → 0 ≤ gi (gl fs q) i ∧ gi (gl fs q) i < ((2 * m : Nat) : Int)
def fitL (fs : List (List Int)) (m : Nat) : Bool := decide (m ≤ 4194304) && (decide (fs.length ≤ 8388608) && fs.all fun row => decide (row.length ≤ 8388608) && row.all fun h => decide (0 ≤ h ∧ h < ((2 * m : Nat) : Int)))
theorem fitL_iff {fs : List (List Int)} {m : Nat} : fitL fs m = true ↔ FitL fs m := by
 unfold fitL
 simp only [Bool.and_eq_true, decide_eq_true_eq, List.all_eq_true]
 constructor
 · rintro ⟨h1, h2, h3⟩
   exact ⟨h1, h2, fun q hq => (h3 _ (List.mem_of_getElem? (gl_of hq))).1, fun q i hq hi => (h3 _ (List.mem_of_getElem? (gl_of hq))).2 _ (List.mem_of_getElem? (gi_of hi))⟩
 · intro h
   refine ⟨h.hm, h.hf, fun row hrow => ?_⟩
   obtain ⟨q, hq, rfl⟩ := List.getElem_of_mem hrow
   have e : gl fs q = fs[q] := by unfold gl; rw [List.getD_eq_getElem?_getD, List.getElem?_eq_getElem hq]; rfl
   rw [← e]
   refine ⟨h.hr q hq, fun x hx => ?_⟩
   obtain ⟨i, hi, rfl⟩ := List.getElem_of_mem hx
   have e2 : gi (gl fs q) i = (gl fs q)[i] := by unfold gi; rw [List.getD_eq_getElem?_getD, List.getElem?_eq_getElem hi]; rfl
   rw [← e2]
   exact h.inn q i hq hi
def IntsPost (xs : List Int) (e0 : Int) (w : World) (e : Ending) (w' : World) : Prop := ∃ v0_ : Value, e = .returned (.tuple #[v0_, .int .i64 e0]) ∧ Kd.R (Kd.int .i64) 3 w' w.heap.size (fun _ => True) v0_ xs ∧ Below w.heap.size w w'
def OfSaysL (fs : List (List Int)) (e0 n : Int) (A : Option Addr) (m c : Nat) (Ar : Option Addr) (mr cr : Nat) (w : World) : Prop := ∀ W : World, Below w.heap.size w W →
 Calls Try.prog 10 #[.agg #[.int .i64 n, .slice A m c], .slice Ar mr cr] W fun e w' => ∃ v, e = .returned (.tuple #[v, .int .i64 e0]) ∧ Kd.R (Kd.slice 3 (Kd.int .i64)) 36 w' W.heap.size (fun _ => True) v fs ∧ Below W.heap.size W w'
set_option maxHeartbeats 1000000 in
set_option maxRecDepth 100000 in
theorem left_bad (n : Int) (A : Option Addr) (m c0 : Nat) (Ar : Option Addr) (mr cr : Nat) (e0 : Int) (he : e0 ≠ 0) (fs : List (List Int)) (w : World) (hof : OfSaysL fs e0 n A m c0 Ar mr cr w) :
   Calls Try.prog 15 #[.agg #[.int .i64 n, .slice A m c0], .slice Ar mr cr] w fun e w' => IntsPost [] e0 w e w' := by
 have HOF := Aside0.mk hof
 clear hof
 have HB := Aside0.mk ((Below.refl w.heap.size w).alloc (Nat.le_refl _) (.cells #[.int .i64 n, .slice A m c0] 24 (0, 0)))
 have HX := Aside0.mk (heap_last w (.cells #[.int .i64 n, .slice A m c0] 24 (0, 0)))
 have x0 : (w.alloc (.cells #[.int .i64 n, .slice A m c0] 24 (0, 0))).cell? ⟨w.heap.size, 0, none⟩ = some (.int .i64 n) := heap_cell HX.out rfl
 have x1 : (w.alloc (.cells #[.int .i64 n, .slice A m c0] 24 (0, 0))).cell? ⟨w.heap.size, 1, none⟩ = some (.slice A m c0) := heap_cell HX.out rfl
 have t1 : (e0 != 0) = true := bne_iff_ne.2 he
 go_enter Try.func15, Try.ntmps15
 go_wp2_with fail
 clear x0 x1
 generalize w.alloc (.cells #[.int .i64 n, .slice A m c0] 24 (0, 0)) = w1 at HX HB ⊢
 obtain ⟨bg, hbg⟩ : ∃ bg, bg = w.heap.size := ⟨_, rfl⟩
 rw [← hbg] at HX ⊢
 clear hbg
 refine (HOF.out w1 HB.out).mono ?_
 rintro e' w2 ⟨v, rfl, hR, hb⟩
 obtain ⟨AF, cF, rfl, hcF, hF⟩ := Kd.R_reads hR
 have HX2 := Aside0.mk ((hb.block _ (lt_of HX.out)).trans HX.out)
 have HB2 := Aside0.mk (HB.out.trans (hb.mono HB.out.size))
 have HF2 := Aside0.mk hF
 clear hb HX HB hR hF HOF
 go_wp2_with fail
 go_ret2
 exact ⟨_, rfl, Kd.R_nil _ _ _ _ _, HB2.out⟩
def RefSaysL (fs : List (List Int)) (e0 n : Int) (A : Option Addr) (m c : Nat) (Ar : Option Addr) (mr cr : Nat) (w : World) : Prop := ∀ W : World, Below w.heap.size w W →
 Calls Try.prog 13 #[.agg #[.int .i64 n, .slice A m c], .slice Ar mr cr] W fun e w' => ∃ v, e = .returned (.tuple #[v, .int .i64 e0]) ∧ Kd.R (Kd.slice 3 (Kd.int .i64)) 36 w' W.heap.size (fun _ => True) v fs ∧ Below W.heap.size W w'
set_option maxHeartbeats 4000000 in
set_option maxRecDepth 100000 in
theorem left_ok (n : Int) (A : Option Addr) (m c0 : Nat) (Ar : Option Addr) (mr cr : Nat) (fs : List (List Int)) (w : World) (hfit : FitL fs m) (hof : OfSaysL fs 0 n A m c0 Ar mr cr w) :
   Calls Try.prog 15 #[.agg #[.int .i64 n, .slice A m c0], .slice Ar mr cr] w fun e w' => IntsPost (leftL fs (2 * m)) 0 w e w' := by
 have HOF := Aside0.mk hof
 have HFIT := Aside0.mk hfit
 have hm := hfit.hm
 have hfl := hfit.hf
 obtain ⟨M, hM⟩ : ∃ M, M = 2 * m := ⟨_, rfl⟩
 rw [← hM]
 have HM := Aside0.mk hM
 have hMb : M ≤ 8388608 := by omega
 have q : IntKind.i64.wrap (2 * (m : Int)) = (M : Int) := by rw [IntWalk.i64_in _ (by omega)]; omega
 have mk := print_make (P := Try.prog) 36 3 .i64 8 Try.underlying36 info_int (by decide) M (by omega)
 have hMm : 2 * (m : Int) = (M : Int) := by omega
 clear hof hfit hM
 have HB := Aside0.mk ((Below.refl w.heap.size w).alloc (Nat.le_refl _) (.cells #[.int .i64 n, .slice A m c0] 24 (0, 0)))
 have HX := Aside0.mk (heap_last w (.cells #[.int .i64 n, .slice A m c0] 24 (0, 0)))
 have x0 : (w.alloc (.cells #[.int .i64 n, .slice A m c0] 24 (0, 0))).cell? ⟨w.heap.size, 0, none⟩ = some (.int .i64 n) := heap_cell HX.out rfl
 have x1 : (w.alloc (.cells #[.int .i64 n, .slice A m c0] 24 (0, 0))).cell? ⟨w.heap.size, 1, none⟩ = some (.slice A m c0) := heap_cell HX.out rfl
 go_enter Try.func15, Try.ntmps15
 go_wp2_with fail
 clear x0 x1
 generalize w.alloc (.cells #[.int .i64 n, .slice A m c0] 24 (0, 0)) = w1 at HX HB ⊢
 obtain ⟨bg, hbg⟩ : ∃ bg, bg = w.heap.size := ⟨_, rfl⟩
 rw [← hbg] at HX ⊢
 clear hbg
 refine (HOF.out w1 HB.out).mono ?_
 rintro e' w2 ⟨v, rfl, hR, hb⟩
 obtain ⟨AF, cF, rfl, hcF, hF⟩ := Kd.R_reads hR
 have HX2 := Aside0.mk ((hb.block _ (lt_of HX.out)).trans HX.out)
 have HB2 := Aside0.mk (HB.out.trans (hb.mono HB.out.size))
 have HF2 := Aside0.mk hF
 clear hb HX HB hR hF HOF
 have x1 : w2.cell? ⟨bg, 1, none⟩ = some (.slice A m c0) := heap_cell HX2.out rfl
 go_upto_region 5 with (fail)
 clear x1 mk
 obtain ⟨bn, hbn⟩ : ∃ bn, bn = w2.heap.size := ⟨_, rfl⟩
 have HT : Aside0 (IRow (w2.alloc (.cells (madeCells #[.int .i64 0] M) 3 (0, 0))) bn (markRows fs M 0)) := ⟨by
   rw [made_int, hbn]
   exact IRow.start w2 M⟩
 have HBB := Aside0.mk ((Below.refl w2.heap.size w2).alloc (Nat.le_refl _) (.cells (madeCells #[.int .i64 0] M) 3 (0, 0)))
 have HLO : Aside0 (w2.heap.size ≤ bn) := ⟨by omega⟩
 rw [← hbn]
 clear hbn HX2
 generalize w2.alloc (.cells (madeCells #[.int .i64 0] M) 3 (0, 0)) = w3 at HT HBB ⊢
 clear hMm q
 go_wp2_with fail
 go_loopw [29] (fun y wr => ∃ (q : Nat), y = .int .i64 (q : Int) ∧ q ≤ fs.length ∧ Aside0 (IRow wr bn (markRows fs M q)) ∧ Aside0 (Below w2.heap.size w2 wr)) (fun y _ => fs.length - (intOf y).toNat)
 case atStart => exact ⟨0, rfl, by omega, HT, HBB⟩
 case round =>
   clear HT HBB
   obtain ⟨q, rfl, hq, HT, HBB⟩ := hrel
   by_cases hlt : q < fs.length
   · obtain ⟨ad, D, cD, eA, hx0, hcD, hrow⟩ := row_at HF2.out hlt
     subst eA
     have hrl2 := HFIT.out.hr q hlt
     have hin := HFIT.out.inn q
     obtain ⟨row, hrw⟩ : ∃ row, row = gl fs q := ⟨_, rfl⟩
     rw [← hrw] at hx0 hcD hrow hrl2 hin
     have HROW := Aside0.mk hrow
     have HXC := Aside0.mk hx0
     have HRW := Aside0.mk hrw
     have HIN := Aside0.mk hin
     have hx := (HBB.out.cell (cell_lt hx0)).trans hx0
     have HT0 : Aside0 (IRow wr bn (markRow row (q : Int) (markRows fs M q) 0)) := HT
     clear hrow hx0 hrw HT hin
     go_wp2_with fail
     clear hx
     go_loopw [36] (fun y wr => ∃ (i : Nat), y = .int .i64 (i : Int) ∧ i ≤ row.length ∧ Aside0 (IRow wr bn (markRow row (q : Int) (markRows fs M q) i)) ∧ Aside0 (Below w2.heap.size w2 wr)) (fun y _ => row.length - (intOf y).toNat)
     case atStart => exact ⟨0, rfl, by omega, HT0, HBB⟩
     case round =>
       clear HT0 HBB
       obtain ⟨i, rfl, hi, HT, HBB⟩ := hrel
       have hx := (HBB.out.cell (cell_lt HXC.out)).trans HXC.out
       by_cases hil : i < row.length
       · have hin := HIN.out i hlt hil
         obtain ⟨h, hh⟩ : ∃ h : Nat, gi row i = (h : Int) := ⟨(gi row i).toNat, by omega⟩
         have hhM : h < M := by rw [hh] at hin; have := HM.out; omega
         obtain ⟨ad2, eD, hxu⟩ := Kd.at_int (Kd.C_below HROW.out HBB.out) (i : Int) (by omega) (by omega)
         rw [gi_rd, Int.toNat_natCast, hh] at hxu
         have c1 := HT.out.cell (i := h) (by rw [markRow_length, markRows_length]; exact hhM)
         have f1 := HT.out.free h
         have HT2 : Aside0 (IRow (wr.setCell ⟨bn, h, none⟩ (.int .i64 (q : Int))) bn (markRow row (q : Int) (markRows fs M q) (i + 1))) := ⟨by
           have h1 := HT.out.put h (q : Int)
           show IRow _ bn ((markRow row (q : Int) (markRows fs M q) i).set (gi row i).toNat (q : Int))
           rw [hh, Int.toNat_natCast]
           exact h1⟩
         have HB2 := Aside0.mk (HBB.out.setCell (p := ⟨bn, h, none⟩) HLO.out (.int .i64 (q : Int)))
         subst eD
         clear hin hh
         go_wp2_with fail
         clear hx hxu c1 f1
         go_roundw
         case rel => exact ⟨i + 1, by go_num, by omega, HT2, HB2⟩
         case measure => simp [intOf]; omega
       · obtain rfl : i = row.length := by omega
         have HT3 : Aside0 (IRow wr bn (markRows fs M (q + 1))) := ⟨by show IRow wr bn (markRow (gl fs q) (q : Int) (markRows fs M q) (gl fs q).length); rw [← HRW.out]; exact HT.out⟩
         go_wp2_with fail
         go_roundw
         case rel => exact ⟨q + 1, by go_num, by omega, HT3, HBB⟩
         case measure => simp [intOf]; omega
   · obtain rfl : q = fs.length := by omega
     have HBF := Aside0.mk (HB2.out.trans (HBB.out.mono HB2.out.size))
     have HLW : Aside0 (w.heap.size ≤ bn) := ⟨Nat.le_trans HB2.out.size HLO.out⟩
     go_wp2_with fail
     go_ret2
     have h1 := HT.out.own (base := w.heap.size) (ok := fun _ => True) HLW.out (by rw [markRows_length]; omega) trivial
     rw [markRows_length] at h1
     exact ⟨_, rfl, h1, HBF.out⟩
end Go.Proofs.Ytmikcfddipldnaa.Face
