/- DERIVED. Texts of this seat, one behind the other: lemmas and walks that the statement FacesForest needs. No condition. -/
import Derived.Test.YtmikcfddipldnaaCFacesForestc
import Derived.StillTailTactics
import Derived.Test.YtmikcfddipldnaaCFacesForestb
import Derived.Defers
import Derived.Recover
import Derived.WalkLawsBesides
import Derived.Test.YtmikcfddipldnaaProg
import Derived.Below
import Derived.Deep.Draws
import Derived.Deep.AppendLies
import Derived.Maps.AppendAt
import Derived.OwnWalk
import Derived.Laws.BytesArg
import Derived.Laws.MakeOwn
import Derived.Laws.OwnMore
import Derived.Deep.OwnRows
import Derived.Tactics
import Derived.Lib.ConvBytes
import Derived.Laws.Slices
import Derived.WalkKit
import Derived.KernelRfl
import Derived.RowKit3
import Derived.Deep.LoopGhost
import Derived.Deep.QuietTactic
import Derived.BigQuiet
import Derived.WideLaws
import Derived.Deep.DeepCutAuto
import Derived.Deep.CutBlock
import Derived.Deep.RegionHeld3
import Derived.Laws.Rows
import Derived.Lib.AppendStr
import Derived.ArgAppend
import Derived.Laws.IdiomCopy
import Derived.OrdersHeld
import Derived.Laws.BitsLemmas
import Derived.RowKit
import Derived.Test.YtmikcfddipldnaaCFacesForesta
namespace Go.Proofs.Ytmikcfddipldnaa.Graph
open Go.RowKit Go.Proofs.YtmikcfddipldnaaW.PrintWords Go.Proofs.YtmikcfddipldnaaW.PrintLast Go.Proofs.YtmikcfddipldnaaW.PrintMore Go.Proofs.Ytmikcfddipldnaa.Mem Go.Proofs.Ytmikcfddipldnaa.Rot
set_option linter.unusedVariables false
set_option linter.unusedSimpArgs false
def setRow (row : List Int) (nx : List Int) : Nat → List Int
 | 0 => nx
 | i + 1 => (setRow row nx i).set (gi row i).toNat (gi row ((i + 1) % row.length))
def setRows (r : List (List Int)) (m : Nat) : Nat → List Int
 | 0 => List.replicate m 0
 | v + 1 => setRow (gl r v) (setRows r m v) (gl r v).length
def nxL (r : List (List Int)) (m : Nat) : List Int := setRows r m r.length
theorem setRow_length (row nx : List Int) : ∀ i, (setRow row nx i).length = nx.length
 | 0 => rfl
 | i + 1 => by show ((setRow row nx i).set _ _).length = _; rw [List.length_set, setRow_length row nx i]
theorem setRows_length (r : List (List Int)) (m : Nat) : ∀ v, (setRows r m v).length = m
 | 0 => by simp [setRows]
 | v + 1 => by show (setRow _ _ _).length = _; rw [setRow_length, setRows_length r m v]
def NextPost (nx : List Int) (e0 : Int) (w : World) (e : Ending) (w' : World) : Prop := ∃ v0_ : Value, e = .returned (.tuple #[v0_, .int .i64 e0]) ∧ Kd.R (Kd.int .i64) 3 w' w.heap.size (fun _ => True) v0_ nx ∧ Below w.heap.size w w'
set_option maxHeartbeats 4000000 in
set_option maxRecDepth 100000 in
theorem next_bad (n : Int) (A : Option Addr) (m c : Nat) (A1 : Option Addr) (lr c1 : Nat) (v0 e0 : Int) (he : e0 ≠ 0) (w : World)
   (hck : ∀ W, Below w.heap.size w W → Calls Try.prog 34 #[.agg #[.int .i64 n, .slice A m c], .slice A1 lr c1] W fun e w' => e = .returned (.tuple #[.int .i64 v0, .int .i64 e0]) ∧ Below W.heap.size W w') :
   Calls Try.prog 22 #[.agg #[.int .i64 n, .slice A m c], .slice A1 lr c1] w (NextPost [] e0 w) := by
 have HC := Aside0.mk hck
 have HB := Aside0.mk ((Below.refl w.heap.size w).alloc (Nat.le_refl _) (.cells #[.int .i64 n, .slice A m c] 24 (0, 0)))
 have HX := Aside0.mk (heap_last w (.cells #[.int .i64 n, .slice A m c] 24 (0, 0)))
 have x0 : (w.alloc (.cells #[.int .i64 n, .slice A m c] 24 (0, 0))).cell? ⟨w.heap.size, 0, none⟩ = some (.int .i64 n) := heap_cell HX.out rfl
 have x1 : (w.alloc (.cells #[.int .i64 n, .slice A m c] 24 (0, 0))).cell? ⟨w.heap.size, 1, none⟩ = some (.slice A m c) := heap_cell HX.out rfl
 clear hck
 have t0 : (e0 != 0) = true := bne_iff_ne.2 he
 clear he
 go_enter Try.func22, Try.ntmps22
 go_wp2_with fail
 clear x0 x1
 generalize w.alloc (.cells #[.int .i64 n, .slice A m c] 24 (0, 0)) = w1 at HX HB ⊢
 obtain ⟨bg, hbg⟩ : ∃ bg, bg = w.heap.size := ⟨_, rfl⟩
 rw [← hbg] at HX ⊢
 clear hbg
 refine (HC.out w1 HB.out).mono ?_
 rintro e' w2 ⟨rfl, hb⟩
 have HX2 := Aside0.mk ((hb.block _ (lt_of HX.out)).trans HX.out)
 have HB2 := Aside0.mk (HB.out.trans (hb.mono HB.out.size))
 clear hb HX HB
 have x1 : w2.cell? ⟨bg, 1, none⟩ = some (.slice A m c) := heap_cell HX2.out rfl
 go_wp2_with fail
 go_ret2
 exact ⟨_, rfl, Kd.R_nil _ _ _ _ _, HB2.out⟩
set_option maxHeartbeats 4000000 in
set_option maxRecDepth 100000 in
theorem next_ok (n : Int) (A : Option Addr) (m c : Nat) (A1 : Option Addr) (c1 : Nat) (r : List (List Int)) (v0 : Int) (w : World) (hr : Kd.C KR w A1 r.length r) (hm : m ≤ 4194304)
   (hin : ∀ v i, v < r.length → i < (gl r v).length → 0 ≤ gi (gl r v) i ∧ gi (gl r v) i < ((2 * m : Nat) : Int)) (hsm : ∀ v, v < r.length → (gl r v).length ≤ 9000000000000) (hrl : r.length ≤ 9000000000000)
   (hck : ∀ W, Below w.heap.size w W → Calls Try.prog 34 #[.agg #[.int .i64 n, .slice A m c], .slice A1 r.length c1] W fun e w' => e = .returned (.tuple #[.int .i64 v0, .int .i64 0]) ∧ Below W.heap.size W w') :
   Calls Try.prog 22 #[.agg #[.int .i64 n, .slice A m c], .slice A1 r.length c1] w (NextPost (nxL r (2 * m)) 0 w) := by
 have HC := Aside0.mk hck
 have HB := Aside0.mk ((Below.refl w.heap.size w).alloc (Nat.le_refl _) (.cells #[.int .i64 n, .slice A m c] 24 (0, 0)))
 have HX := Aside0.mk (heap_last w (.cells #[.int .i64 n, .slice A m c] 24 (0, 0)))
 have x0 : (w.alloc (.cells #[.int .i64 n, .slice A m c] 24 (0, 0))).cell? ⟨w.heap.size, 0, none⟩ = some (.int .i64 n) := heap_cell HX.out rfl
 have x1 : (w.alloc (.cells #[.int .i64 n, .slice A m c] 24 (0, 0))).cell? ⟨w.heap.size, 1, none⟩ = some (.slice A m c) := heap_cell HX.out rfl
 clear hck
 have HR := Aside0.mk hr
 have HSM := Aside0.mk hsm
 obtain ⟨M, hM⟩ : ∃ M, M = 2 * m := ⟨_, rfl⟩
 rw [← hM] at hin ⊢
 have HIN := Aside0.mk hin
 have hMb : M ≤ 8388608 := by omega
 have q : IntKind.i64.wrap (2 * (m : Int)) = (M : Int) := by rw [IntWalk.i64_in _ (by omega)]; omega
 have mk := print_make (P := Try.prog) 36 3 .i64 8 Try.underlying36 info_int (by decide) M (by omega)
 have hMm : 2 * (m : Int) = (M : Int) := by omega
 clear hr hsm hin hM
 go_enter Try.func22, Try.ntmps22
 go_wp2_with fail
 clear x0 x1
 generalize w.alloc (.cells #[.int .i64 n, .slice A m c] 24 (0, 0)) = w1 at HX HB ⊢
 obtain ⟨bg, hbg⟩ : ∃ bg, bg = w.heap.size := ⟨_, rfl⟩
 rw [← hbg] at HX ⊢
 clear hbg
 refine (HC.out w1 HB.out).mono ?_
 rintro e' w2 ⟨rfl, hb⟩
 have HX2 := Aside0.mk ((hb.block _ (lt_of HX.out)).trans HX.out)
 have HB2 := Aside0.mk (HB.out.trans (hb.mono HB.out.size))
 clear hb HX HB
 have x1 : w2.cell? ⟨bg, 1, none⟩ = some (.slice A m c) := heap_cell HX2.out rfl
 go_wp2_with fail
 clear x1 mk
 obtain ⟨bn, hbn⟩ : ∃ bn, bn = w2.heap.size := ⟨_, rfl⟩
 have HT : Aside0 (IRow (w2.alloc (.cells (madeCells #[.int .i64 0] M) 3 (0, 0))) bn (setRows r M 0)) := ⟨by
   rw [made_int, hbn]
   exact IRow.start w2 M⟩
 have HBB := Aside0.mk (HB2.out.alloc HB2.out.size (.cells (madeCells #[.int .i64 0] M) 3 (0, 0)))
 have HLO : Aside0 (w.heap.size ≤ bn) := ⟨by have := HB2.out.size; omega⟩
 rw [← hbn]
 clear hbn HX2 HB2
 generalize w2.alloc (.cells (madeCells #[.int .i64 0] M) 3 (0, 0)) = w3 at HT HBB ⊢
 clear hMm q
 go_loopw [29] (fun y wr => ∃ (v : Nat), y = .int .i64 (v : Int) ∧ v ≤ r.length ∧ Aside0 (IRow wr bn (setRows r M v)) ∧ Aside0 (Below w.heap.size w wr)) (fun y _ => r.length - (intOf y).toNat)
 case atStart => exact ⟨0, rfl, by omega, HT, HBB⟩
 case round =>
   clear HT HBB
   obtain ⟨v, rfl, hv, HT, HBB⟩ := hrel
   by_cases hlt : v < r.length
   · obtain ⟨ad, D, cD, eA, hx0, hcD, hrow⟩ := row_at HR.out hlt
     subst eA
     have hrl2 := HSM.out v hlt
     obtain ⟨row, hrw⟩ : ∃ row, row = gl r v := ⟨_, rfl⟩
     rw [← hrw] at hx0 hcD hrow hrl2
     have HROW := Aside0.mk hrow
     have HXC := Aside0.mk hx0
     have HRW := Aside0.mk hrw
     have hx := (HBB.out.cell (cell_lt hx0)).trans hx0
     have HT0 : Aside0 (IRow wr bn (setRow row (setRows r M v) 0)) := HT
     clear hrow hx0 hrw HT
     go_wp2_with fail
     clear hx
     go_loopw [35] (fun y wr => ∃ (i : Nat), y = .int .i64 (i : Int) ∧ i ≤ row.length ∧ Aside0 (IRow wr bn (setRow row (setRows r M v) i)) ∧ Aside0 (Below w.heap.size w wr)) (fun y _ => row.length - (intOf y).toNat)
     case atStart => exact ⟨0, rfl, by omega, HT0, HBB⟩
     case round =>
       clear HT0 HBB
       obtain ⟨i, rfl, hi, HT, HBB⟩ := hrel
       by_cases hil : i < row.length
       · skip
         have hin := HIN.out v i hlt (by rw [← HRW.out]; exact hil)
         obtain ⟨h, hh⟩ : ∃ h : Nat, gi row i = (h : Int) := ⟨(gi row i).toNat, by rw [← HRW.out] at hin; omega⟩
         have hhM : h < M := by rw [← HRW.out, hh] at hin; omega
         obtain ⟨i1, hi1⟩ : ∃ i1, i1 = i + 1 := ⟨_, rfl⟩
         obtain ⟨p, hp⟩ : ∃ p, p = i1 % row.length := ⟨_, rfl⟩
         have hpl : p < row.length := by rw [hp]; exact Nat.mod_lt _ (by omega)
         have t0 : ((row.length : Int) == 0) = false := beq_eq_false_iff_ne.2 (by omega)
         have hx := (HBB.out.cell (cell_lt HXC.out)).trans HXC.out
         obtain ⟨ad2, eD, hxu⟩ := Kd.at_int (Kd.C_below HROW.out HBB.out) (i : Int) (by omega) (by omega)
         obtain ⟨ad3, eD2, hxp⟩ := Kd.at_int (Kd.C_below HROW.out HBB.out) (p : Int) (by omega) (by omega)
         rw [eD] at eD2
         injection eD2 with eD2
         subst eD2
         rw [gi_rd, Int.toNat_natCast] at hxu hxp
         rw [hh] at hxu
         obtain ⟨z, hz⟩ : ∃ z, z = gi row p := ⟨_, rfl⟩
         rw [← hz] at hxp
         have c1 := HT.out.cell (i := h) (by rw [setRow_length, setRows_length]; exact hhM)
         have f1 := HT.out.free h
         have HT2 : Aside0 (IRow (wr.setCell ⟨bn, h, none⟩ (.int .i64 z)) bn (setRow row (setRows r M v) (i + 1))) := ⟨by
           have h1 := HT.out.put h z
           rw [hz, hp, hi1] at h1
           show IRow _ bn ((setRow row (setRows r M v) i).set (gi row i).toNat (gi row ((i + 1) % row.length)))
           rw [hh, Int.toNat_natCast, hz, hp, hi1]
           exact h1⟩
         have HB2 := Aside0.mk (HBB.out.setCell (p := ⟨bn, h, none⟩) HLO.out (.int .i64 z))
         have q1 : IntKind.i64.wrap ((i : Int) + 1) = (i1 : Int) := by rw [IntWalk.i64_in _ (by omega)]; omega
         have q2 : Int.tmod (i1 : Int) (row.length : Int) = (p : Int) := by rw [hp]; rfl
         have q3 : (i1 : Int) % (row.length : Int) = (p : Int) := by rw [hp]; rfl
         have HI1 := Aside0.mk hi1
         have HP1 := Aside0.mk hp
         subst eD
         clear hin hh hz hi1 hp
         go_wp2_with fail
         clear q1 q2 q3 t0 hx hxu hxp c1 f1
         go_roundw
         case rel => exact ⟨i1, rfl, by have := HI1.out; omega, ⟨by rw [HI1.out]; exact HT2.out⟩, HB2⟩
         case measure => have := HI1.out; simp [intOf]; omega
       · obtain rfl : i = row.length := by omega
         have HT3 : Aside0 (IRow wr bn (setRows r M (v + 1))) := ⟨by show IRow wr bn (setRow (gl r v) (setRows r M v) (gl r v).length); rw [← HRW.out]; exact HT.out⟩
         go_wp2_with fail
         go_roundw
         case rel => exact ⟨v + 1, by go_num, by omega, HT3, HBB⟩
         case measure => simp [intOf]; omega
   · obtain rfl : v = r.length := by omega
     go_wp2_with fail
     go_ret2
     have h1 := HT.out.own (base := w.heap.size) (ok := fun _ => True) HLO.out (by rw [setRows_length]; omega) trivial
     rw [setRows_length] at h1
     exact ⟨_, rfl, h1, HBB.out⟩
end Go.Proofs.Ytmikcfddipldnaa.Graph
namespace Go.Proofs.Ytmikcfddipldnaa.Sets
set_option linter.unusedVariables false
def gt (l : List Nat) (i : Nat) : Nat := l.getD i 0
structure Rep (P m : List Nat) : Prop where
 len : P.length = m.length
 le : ∀ i, i < m.length → (gt P i) ≤ i
 same : ∀ i, i < m.length → (gt m ((gt P i))) = (gt m i)
 fix : ∀ i, i < m.length → ((gt P i) = i ↔ (gt m i) = i)
theorem getD_set (l : List Nat) (i j x : Nat) : (gt (l.set i x) j) = if i = j ∧ j < l.length then x else (gt l j) := by
 unfold gt
 simp only [List.getD_eq_getElem?_getD, List.getElem?_set]
 by_cases h : i = j
 · subst h
   by_cases h2 : i < l.length
   · simp [h2]
   · simp [h2]
 · simp [h]
theorem Rep.least {P m : List Nat} (h : Rep P m) : ∀ (k i : Nat), i ≤ k → i < m.length → (gt m i) ≤ i ∧ (gt m ((gt m i))) = (gt m i) := by
 intro k
 induction k with
 | zero =>
   intro i hk hi
   obtain rfl : i = 0 := by omega
   have e : (gt P 0) = 0 := by have := h.le 0 hi; omega
   have e2 := (h.fix 0 hi).1 e
   rw [e2]; exact ⟨Nat.le_refl _, e2⟩
 | succ k ih =>
   intro i hk hi
   by_cases e : (gt P i) = i
   · have e2 := (h.fix i hi).1 e
     rw [e2]; exact ⟨Nat.le_refl _, e2⟩
   · have hl := h.le i hi
     have := ih ((gt P i)) (by omega) (by omega)
     rw [h.same i hi] at this
     exact ⟨by omega, this.2⟩
theorem Rep.ml {P m : List Nat} (h : Rep P m) {i : Nat} (hi : i < m.length) : (gt m i) ≤ i := (h.least i i (Nat.le_refl _) hi).1
theorem Rep.mm {P m : List Nat} (h : Rep P m) {i : Nat} (hi : i < m.length) : (gt m ((gt m i))) = (gt m i) := (h.least i i (Nat.le_refl _) hi).2
theorem Rep.halve {P m : List Nat} (h : Rep P m) {a : Nat} (ha : a < m.length) (hne : (gt P a) ≠ a) : Rep (P.set a ((gt P ((gt P a))))) m := by
 have hpa := h.le a ha
 have hp : (gt P a) < m.length := by omega
 have hpp := h.le _ hp
 refine ⟨by simp [h.len], ?_, ?_, ?_⟩
 · intro i hi
   rw [getD_set]; split
   · omega
   · exact h.le i hi
 · intro i hi
   rw [getD_set]; split
   · rename_i c; obtain ⟨rfl, _⟩ := c; rw [h.same _ hp, h.same _ ha]
   · exact h.same i hi
 · intro i hi
   rw [getD_set]; split
   · rename_i c; obtain ⟨rfl, _⟩ := c
     constructor
     · intro e; omega
     · intro e; exact absurd ((h.fix _ ha).2 e) hne
   · exact h.fix i hi
theorem getD_map (f : Nat → Nat) (l : List Nat) {i : Nat} (h : i < l.length) : (gt (l.map f) i) = f ((gt l i)) := by
 simp [gt, List.getD_eq_getElem?_getD, h]
def glue (lo hi : Nat) (m : List Nat) : List Nat := m.map fun v => if v = hi then lo else v
theorem glue_length (lo hi : Nat) (m : List Nat) : (glue lo hi m).length = m.length := by simp [glue]
theorem glue_get (lo hi : Nat) (m : List Nat) {i : Nat} (h : i < m.length) : (gt (glue lo hi m) i) = if (gt m i) = hi then lo else (gt m i) := getD_map _ m h
theorem Rep.glue {P m : List Nat} (h : Rep P m) {lo hi : Nat} (hh : hi < m.length) (hl : lo < hi) (hlo : (gt m lo) = lo) (hhi : (gt m hi) = hi) : Rep (P.set hi lo) (Sets.glue lo hi m) := by
 have hPl := h.len
 refine ⟨by simp [glue_length, h.len], ?_, ?_, ?_⟩
 · intro i hi'
   rw [glue_length] at hi'
   rw [getD_set]; split
   · omega
   · exact h.le i hi'
 · intro i hi'
   rw [glue_length] at hi'
   have hp := h.le i hi'
   have hsame := h.same i hi'
   rw [getD_set]; split
   · rename_i c; obtain ⟨rfl, _⟩ := c
     rw [glue_get _ _ _ (by omega), glue_get _ _ _ (by omega), hlo, hhi]; simp
   · rw [glue_get _ _ _ (by omega), glue_get _ _ _ hi', hsame]
 · intro i hi'
   rw [glue_length] at hi'
   have hfix := h.fix i hi'
   rw [getD_set, glue_get _ _ _ hi']; split
   · rename_i c; obtain ⟨rfl, _⟩ := c
     rw [hhi]; simp
   · rename_i c
     have hne : i ≠ hi := by intro e; exact c ⟨e.symm, by omega⟩
     rw [hfix]
     split
     · rename_i e
       constructor
       · intro e2; omega
       · intro e2; rw [← e2, hlo] at e; omega
     · exact Iff.rfl
theorem range_get {n i : Nat} (hi : i < n) : (gt (List.range n) i) = i := by simp [gt, List.getD_eq_getElem?_getD, hi]
theorem Rep.range (n : Nat) : Rep (List.range n) (List.range n) := by
 refine ⟨rfl, ?_, ?_, ?_⟩ <;> intro i hi <;> simp only [List.length_range] at hi
 · rw [range_get hi]; exact Nat.le_refl _
 · rw [range_get hi]; exact range_get hi
 · exact Iff.rfl
def many (m : List Nat) (r : Nat) : Nat := m.countP fun v => v == r
def sets (m : List Nat) : Nat := (List.range m.length).countP fun i => (gt m i) == i
theorem many_glue_lo (lo hi : Nat) (m : List Nat) (h : lo ≠ hi) : many (glue lo hi m) lo = many m lo + many m hi := by
 induction m with
 | nil => rfl
 | cons a m ih =>
   simp only [many, glue, List.map_cons, List.countP_cons] at ih ⊢
   rw [ih]
   by_cases e : a = hi
   · subst e; simp [Ne.symm h]; omega
   · simp only [e, if_false]
     by_cases e2 : a = lo
     · subst e2; simp [h]; omega
     · simp [e2, e]
theorem many_glue_other (lo hi r : Nat) (m : List Nat) (h1 : r ≠ lo) (h2 : r ≠ hi) : many (glue lo hi m) r = many m r := by
 induction m with
 | nil => rfl
 | cons a m ih =>
   simp only [many, glue, List.map_cons, List.countP_cons] at ih ⊢
   rw [ih]
   by_cases e : a = hi
   · subst e; simp [Ne.symm h1, Ne.symm h2]
   · simp [e]
theorem countP_one {f g : Nat → Bool} {b : Nat} : ∀ (l : List Nat), l.Nodup → b ∈ l → (∀ i ∈ l, i ≠ b → f i = g i) → f b = false → g b = true → l.countP f + 1 = l.countP g := by
 intro l
 induction l with
 | nil => intro _ h; simp at h
 | cons a l ih =>
   intro hnd hb hfg h1 h2
   rw [List.nodup_cons] at hnd
   simp only [List.countP_cons]
   by_cases e : a = b
   · subst e
     have : l.countP f = l.countP g := List.countP_congr fun i hi => by rw [hfg i (List.mem_cons_of_mem _ hi) (fun e => hnd.1 (e ▸ hi))]
     simp [this, h1, h2]
   · have hb' : b ∈ l := by simpa [Ne.symm e] using hb
     have := ih hnd.2 hb' (fun i hi => hfg i (List.mem_cons_of_mem _ hi)) h1 h2
     rw [hfg a (List.mem_cons_self ..) e]; omega
theorem sets_glue' {m : List Nat} {lo hi : Nat} (hh : hi < m.length) (hl : lo < hi) (hlo : (gt m lo) = lo) (hhi : (gt m hi) = hi) : sets (Sets.glue lo hi m) + 1 = sets m := by
 unfold sets
 rw [glue_length]
 refine countP_one (b := hi) _ List.nodup_range (by simpa using hh) ?_ ?_ ?_
 · intro i hi' hne
   have hi' : i < m.length := by simpa using hi'
   rw [glue_get _ _ _ hi', Bool.eq_iff_iff, beq_iff_eq, beq_iff_eq]
   split
   · rename_i e
     constructor
     · intro e2; rw [← e2, hlo] at e; omega
     · intro e2; omega
   · exact Iff.rfl
 · rw [glue_get _ _ _ hh, hhi]; simp; omega
 · simpa using hhi
theorem sets_glue {P m : List Nat} (h : Rep P m) {lo hi : Nat} (hh : hi < m.length) (hl : lo < hi) (hlo : gt m lo = lo) (hhi : gt m hi = hi) : sets (Sets.glue lo hi m) + 1 = sets m := sets_glue' hh hl hlo hhi
theorem many_le (m : List Nat) (r : Nat) : many m r ≤ m.length := List.countP_le_length
theorem sets_le (m : List Nat) : sets m ≤ m.length := by have := List.countP_le_length (l := List.range m.length) (p := fun i => (gt m i) == i); simpa [sets] using this
theorem many_pair (m : List Nat) {r s : Nat} (h : r ≠ s) : many m r + many m s ≤ m.length := by rw [← many_glue_lo r s m h]; have := many_le (glue r s m) r; rwa [glue_length] at this
structure Sized (S m : List Nat) : Prop where
 len : S.length = m.length
 size : ∀ r, r < m.length → (gt m r) = r → (gt S r) = many m r
theorem Sized.glue {S m : List Nat} (h : Sized S m) {lo hi : Nat} (hh : hi < m.length) (hl : lo < hi) (hlo : (gt m lo) = lo) (hhi : (gt m hi) = hi) : Sized (S.set lo ((gt S lo) + (gt S hi))) (Sets.glue lo hi m) := by
 have hSl := h.len
 refine ⟨by simp [glue_length, h.len], ?_⟩
 intro r hr hrr
 rw [glue_length] at hr
 rw [glue_get _ _ _ hr] at hrr
 rw [getD_set]; split
 · rename_i c; obtain ⟨rfl, _⟩ := c
   rw [h.size _ hr hlo, h.size _ hh hhi, many_glue_lo _ _ _ (by omega)]
 · rename_i c
   have hne : r ≠ lo := by intro e; exact c ⟨e.symm, by omega⟩
   have hne2 : r ≠ hi := by
     intro e; subst e; rw [hhi] at hrr; simp at hrr; omega
   rw [many_glue_other _ _ _ _ hne hne2]
   split at hrr
   · omega
   · exact h.size r hr hrr
theorem many_range {n r : Nat} (h : r < n) : many (List.range n) r = 1 := by
 unfold many
 rw [show (fun v => v == r) = (· == r) from rfl]
 have : List.count r (List.range n) = 1 := List.nodup_range.count (a := r) ▸ by simp [h]
 simpa [List.count] using this
theorem Sized.ones (n : Nat) : Sized (List.replicate n 1) (List.range n) := by
 refine ⟨by simp, ?_⟩
 intro r hr _
 have hr' : r < n := by simpa using hr
 rw [many_range hr']; simp [gt, List.getD_eq_getElem?_getD, hr']
theorem sets_range (n : Nat) : sets (List.range n) = n := by
 unfold sets
 have : (List.range (List.range n).length).countP (fun i => (gt (List.range n) i) == i) = (List.range (List.range n).length).length := by
   rw [List.countP_eq_length]; intro i hi; rw [List.length_range, List.mem_range] at hi; rw [range_get hi]; simp
 rw [this]; simp
end Go.Proofs.Ytmikcfddipldnaa.Sets
namespace Go.Proofs.Ytmikcfddipldnaa.Sets
open Go.RowKit Go.Proofs.YtmikcfddipldnaaW.PrintWords Go.Proofs.YtmikcfddipldnaaW.PrintLast Go.Proofs.YtmikcfddipldnaaW.PrintMore
set_option linter.unusedVariables false
set_option linter.unusedSimpArgs false
structure Frame (S : Nat → Prop) (w w' : World) : Prop where
 os : w'.os = w.os
 tape : w'.tape = w.tape
 output : w'.output = w.output
 size : w.heap.size ≤ w'.heap.size
 block : ∀ k, k < w.heap.size → ¬ S k → w'.heap[k]? = w.heap[k]?
theorem Frame.refl (S : Nat → Prop) (w : World) : Frame S w w := ⟨rfl, rfl, rfl, Nat.le_refl _, fun _ _ _ => rfl⟩
theorem Frame.trans {S : Nat → Prop} {a b c : World} (h : Frame S a b) (k : Frame S b c) : Frame S a c :=
 ⟨k.os.trans h.os, k.tape.trans h.tape, k.output.trans h.output, Nat.le_trans h.size k.size, fun i hi hs => (k.block i (Nat.lt_of_lt_of_le hi h.size) hs).trans (h.block i hi hs)⟩
theorem Frame.mono {S T : Nat → Prop} {a b : World} (h : Frame S a b) (hst : ∀ k, S k → T k) : Frame T a b := ⟨h.os, h.tape, h.output, h.size, fun i hi hs => h.block i hi (fun e => hs (hst i e))⟩
theorem Frame.drew {S : Nat → Prop} {a b : World} (h : Frame S a b) : Frame S a b.drew := ⟨h.os, h.tape, h.output, h.size, h.block⟩
theorem Frame.drewN {S : Nat → Prop} {a b : World} (h : Frame S a b) (n : Nat) : Frame S a (b.drewN n) := ⟨h.os, h.tape, h.output, h.size, h.block⟩
theorem Frame.setCell {S : Nat → Prop} {a b : World} (h : Frame S a b) {p : Addr} (hp : S p.block) (u : Value) : Frame S a (b.setCell p u) :=
 h.trans ⟨rfl, rfl, rfl, by simp [World.setCell], fun k _ hs => Below.heap_setCell _ _ _ _ (fun e => hs (e ▸ hp))⟩
theorem Frame.alloc {S : Nat → Prop} {a b : World} (h : Frame S a b) (o : Obj) : Frame S a (b.alloc o) :=
 h.trans ⟨rfl, rfl, rfl, by simp, fun k hk _ => Below.heap_alloc _ _ _ hk⟩
theorem Frame.below {S : Nat → Prop} {a b : World} (h : Frame S a b) {B : Nat} (hB : B ≤ a.heap.size) (hS : ∀ k, S k → B ≤ k) : Below B a b :=
 ⟨h.os, h.tape, h.output, h.size, fun k hk => h.block k (by omega) (fun e => by have := hS k e; omega)⟩
theorem Frame.blk {S : Nat → Prop} {a b : World} (h : Frame S a b) {k : Nat} {o : Obj} (hk : a.heap[k]? = some o) (hs : ¬ S k) : b.heap[k]? = some o := by
 rw [h.block k (by rw [Array.getElem?_eq_some_iff] at hk; exact hk.1) hs]; exact hk
def nv (l : List Nat) : Array Value := (l.map fun (x : Nat) => Value.int .i64 (x : Int)).toArray
theorem nv_get (l : List Nat) (i : Nat) (h : i < l.length) : (nv l)[i]? = some (.int .i64 (((gt l i) : Nat) : Int)) := by
 simp [nv, gt, List.getD_eq_getElem?_getD, h]
theorem nv_set (l : List Nat) (i x : Nat) : (nv l).setIfInBounds i (.int .i64 (x : Int)) = nv (l.set i x) := by
 simp [nv, List.map_set]
theorem blk_lt {w : World} {k : Nat} {o : Obj} (hk : w.heap[k]? = some o) : k < w.heap.size := by
 rw [Array.getElem?_eq_some_iff] at hk; exact hk.1
theorem blk_setCell {w : World} {b i : Nat} {c : Array Value} {T : TypeId} {f : Nat × Nat} (h : w.heap[b]? = some (.cells c T f)) (v : Value) : (w.setCell ⟨b, i, none⟩ v).heap[b]? = some (.cells (c.setIfInBounds i v) T f) := by
 simp [World.setCell, Array.getElem?_modify, h]
theorem nv_cell {w : World} {b : Nat} {l : List Nat} {T : TypeId} {f : Nat × Nat} (h : w.heap[b]? = some (.cells (nv l) T f)) {i : Nat} (hi : i < l.length) : w.cell? ⟨b, i, none⟩ = some (.int .i64 (((gt l i) : Nat) : Int)) := by
 simp [World.cell?, h, nv_get l i hi]
theorem blk_free {w : World} {b : Nat} {c : Array Value} {T : TypeId} (h : w.heap[b]? = some (.cells c T (0, 0))) (i : Nat) : w.frozen? ⟨b, i, none⟩ = false := by
 simp [World.frozen?, h]
theorem blk_set_nv {w : World} {b i x : Nat} {l : List Nat} {T : TypeId} {f : Nat × Nat} (h : w.heap[b]? = some (.cells (nv l) T f)) : (w.setCell ⟨b, i, none⟩ (.int .i64 (x : Int))).heap[b]? = some (.cells (nv (l.set i x)) T f) := by
 rw [blk_setCell h, nv_set]
set_option maxHeartbeats 400000 in
set_option maxRecDepth 100000 in
theorem known_calls (A : Option Addr) (n c : Nat) (a : Int) (w : World) :
   Calls Try.prog 61 #[.slice A n c, .int .i64 a] w fun e w' => e = .returned (.bool (decide (0 ≤ a) && decide (a < (n : Int)))) ∧ w = w' := by
 by_cases h : 0 ≤ a
 · have h1 : decide (0 ≤ a) = true := decide_eq_true h
   go_enter Try.func61, Try.ntmps61
   go_wp2
   go_ret
   exact ⟨by simp [h], rfl⟩
 · have h1 : decide (0 ≤ a) = false := decide_eq_false h
   go_enter Try.func61, Try.ntmps61
   go_wp2
   go_ret
   exact ⟨by simp, rfl⟩
def Climbed (b : Nat) (T : TypeId) (m : List Nat) (w w' : World) : Prop := ∃ P, Rep P m ∧ w'.heap[b]? = some (.cells (nv P) T (0, 0)) ∧ Frame (· = b) w w'
set_option maxHeartbeats 400000 in
set_option maxRecDepth 100000 in
theorem root_calls (b n c a : Nat) (T : TypeId) (P m : List Nat) (w : World) (hb : w.heap[b]? = some (.cells (nv P) T (0, 0))) (hr : Rep P m) (ha : a < m.length) (hn : n = m.length) (hm : m.length ≤ 1048576) :
   Calls Try.prog 54 #[.slice (some ⟨b, 0, none⟩) n c, .int .i64 (a : Int)] w fun e w' => e = .returned (.int .i64 (((gt m a) : Nat) : Int)) ∧ Climbed b T m w w' := by
 subst hn
 have HB := Aside0.mk hb
 have HR := Aside0.mk hr
 clear hb hr
 go_enter Try.func54, Try.ntmps54
 go_wp2
 go_loopw [1] (fun v wr => ∃ (i : Nat) (Q : List Nat), v = .int .i64 (i : Int) ∧ i < m.length ∧ Aside0 ((gt m i) = (gt m a)) ∧ Aside0 (Rep Q m) ∧ Aside0 (wr.heap[b]? = some (.cells (nv Q) T (0, 0))) ∧ Aside0 (Frame (· = b) w wr)) (fun v _ => (intOf v).toNat)
 case atStart => exact ⟨a, P, rfl, ha, ⟨rfl⟩, HR, HB, ⟨Frame.refl _ _⟩⟩
 case round =>
   obtain ⟨i, Q, rfl, hi, HE, HQ, HBQ, HF⟩ := hrel
   have hlen : Q.length = m.length := HQ.out.len
   have hc0 := nv_cell HBQ.out (i := i) (by omega)
   by_cases hq : (gt Q i) = i
   · have ht : ((((gt Q i) : Nat) : Int) != (i : Int)) = false := by simp [hq]
     have HQ2 := Aside0.mk hq
     clear hq hlen
     go_wp2
     go_ret
     have e : i = gt m a := by rw [← HE.out]; exact ((HQ.out.fix i hi).1 HQ2.out).symm
     exact ⟨by rw [← e]; rfl, Q, HQ.out, HBQ.out, HF.out⟩
   · have ht : ((((gt Q i) : Nat) : Int) != (i : Int)) = true := by simp; omega
     have hle := HQ.out.le i hi
     have hc1 := nv_cell HBQ.out (i := (gt Q i)) (by omega)
     have hf0 := blk_free HBQ.out i
     have HQ2 := Aside0.mk hq
     have HL := Aside0.mk hlen
     clear hq hlen
     have hi2 : gt Q i < m.length := by omega
     go_wp2
     have hi3 := HQ.out.le (gt Q i) hi2
     go_roundw
     case rel => exact ⟨gt Q (gt Q i), Q.set i (gt Q (gt Q i)), rfl, by omega, ⟨by rw [HQ.out.same _ hi2, HQ.out.same _ hi]; exact HE.out⟩, ⟨HQ.out.halve hi HQ2.out⟩, ⟨blk_set_nv HBQ.out⟩, ⟨HF.out.setCell rfl _⟩⟩
     case measure => have := HQ2.out; simp [intOf]; omega
end Go.Proofs.Ytmikcfddipldnaa.Sets
namespace Go.Proofs.Ytmikcfddipldnaa.Sets
open Go.RowKit Go.Proofs.YtmikcfddipldnaaW.PrintWords Go.Proofs.YtmikcfddipldnaaW.PrintLast Go.Proofs.YtmikcfddipldnaaW.PrintMore
attribute [local go_sem] max2_int min2_int max_two min_two
set_option linter.unusedVariables false
set_option linter.unusedSimpArgs false
structure AtPS (w : World) (p bP bS : Nat) (m P S : List Nat) : Prop where
 obj : w.heap[p]? = some (.cells #[.slice (some ⟨bP, 0, none⟩) m.length m.length, .slice (some ⟨bS, 0, none⟩) m.length m.length, .int .i64 ((sets m : Nat) : Int)] 86 (0, 0))
 par : w.heap[bP]? = some (.cells (nv P) 3 (0, 0))
 siz : w.heap[bS]? = some (.cells (nv S) 3 (0, 0))
 ne1 : p ≠ bP
 ne2 : p ≠ bS
 ne3 : bP ≠ bS
 small : m.length ≤ 1048576
 rep : Rep P m
 sized : Sized S m
def At (w : World) (p bP bS : Nat) (m : List Nat) : Prop := ∃ P S, AtPS w p bP bS m P S
def Own (p bP bS : Nat) (k : Nat) : Prop := k = p ∨ k = bP ∨ k = bS
def Now (p bP bS : Nat) (m : List Nat) (w w' : World) : Prop := At w' p bP bS m ∧ Frame (Own p bP bS) w w'
def ok (m : List Nat) (a : Int) : Bool := decide (0 ≤ a) && decide (a < (m.length : Int))
theorem ok_nat {m : List Nat} {a : Int} (h : ok m a = true) : ∃ i : Nat, a = (i : Int) ∧ i < m.length := by
 simp only [ok, Bool.and_eq_true, decide_eq_true_eq] at h
 exact ⟨a.toNat, by omega, by omega⟩
theorem ok_of {m : List Nat} {i : Nat} (h : i < m.length) : ok m (i : Int) = true := by
 simp only [ok, Bool.and_eq_true, decide_eq_true_eq]; omega
theorem AtPS.cell0 {w : World} {p bP bS : Nat} {m P S : List Nat} (h : AtPS w p bP bS m P S) : w.cell? ⟨p, 0, none⟩ = some (.slice (some ⟨bP, 0, none⟩) m.length m.length) := (blk_cell h.obj 0).trans rfl
theorem AtPS.cell1 {w : World} {p bP bS : Nat} {m P S : List Nat} (h : AtPS w p bP bS m P S) : w.cell? ⟨p, 1, none⟩ = some (.slice (some ⟨bS, 0, none⟩) m.length m.length) := (blk_cell h.obj 1).trans rfl
theorem AtPS.cell2 {w : World} {p bP bS : Nat} {m P S : List Nat} (h : AtPS w p bP bS m P S) : w.cell? ⟨p, 2, none⟩ = some (.int .i64 ((sets m : Nat) : Int)) := (blk_cell h.obj 2).trans rfl
theorem AtPS.climbed {w w' : World} {p bP bS : Nat} {m P S : List Nat} (h : AtPS w p bP bS m P S) (k : Climbed bP 3 m w w') : ∃ Q, AtPS w' p bP bS m Q S ∧ Frame (Own p bP bS) w w' := by
 obtain ⟨Q, hr, hb, hf⟩ := k
 exact ⟨Q, ⟨hf.blk h.obj h.ne1, hb, hf.blk h.siz (Ne.symm h.ne3), h.ne1, h.ne2, h.ne3, h.small, hr, h.sized⟩, hf.mono fun _ e => .inr (.inl e)⟩
theorem AtPS.drewN {w : World} {p bP bS : Nat} {m P S : List Nat} (h : AtPS w p bP bS m P S) (n : Nat) : AtPS (w.drewN n) p bP bS m P S := ⟨h.obj, h.par, h.siz, h.ne1, h.ne2, h.ne3, h.small, h.rep, h.sized⟩
theorem AtPS.drew {w : World} {p bP bS : Nat} {m P S : List Nat} (h : AtPS w p bP bS m P S) : AtPS w.drew p bP bS m P S := ⟨h.obj, h.par, h.siz, h.ne1, h.ne2, h.ne3, h.small, h.rep, h.sized⟩
set_option maxHeartbeats 400000 in
set_option maxRecDepth 100000 in
theorem has_calls (p bP bS : Nat) (m P S : List Nat) (a : Int) (w : World) (h : AtPS w p bP bS m P S) :
   Calls Try.prog 53 #[.pointer (some ⟨p, 0, none⟩), .int .i64 a] w fun e w' => e = .returned (.bool (ok m a)) ∧ w = w' := by
 have h0 := h.cell0
 clear h
 go_enter Try.func53, Try.ntmps53
 go_wp2_with (go_at_call 61; refine (known_calls _ _ _ _ _).mono ?_; rintro e w' ⟨rfl, rfl⟩)
 go_ret
 exact ⟨rfl, rfl⟩
theorem has_keep {p bP bS : Nat} {m P S : List Nat} {a : Int} {r : Bool} (hr : ok m a = r) (w : World) (h : AtPS w p bP bS m P S) :
   Calls Try.prog 53 #[.pointer (some ⟨p, 0, none⟩), .int .i64 a] w fun e w' => e = .returned (.bool r) ∧ w = w' :=
 (has_calls p bP bS m P S a w h).mono fun _ _ ⟨h1, h2⟩ => ⟨by rw [h1, hr], h2⟩
def leastOf (m : List Nat) (a : Int) : Int := if ok m a then ((gt m a.toNat : Nat) : Int) else -1
end Go.Proofs.Ytmikcfddipldnaa.Sets
namespace Go.Proofs.Ytmikcfddipldnaa.Sets
open Go.RowKit Go.Proofs.YtmikcfddipldnaaW.PrintWords Go.Proofs.YtmikcfddipldnaaW.PrintLast Go.Proofs.YtmikcfddipldnaaW.PrintMore
attribute [local go_sem] max2_int min2_int max_two min_two
set_option linter.unusedVariables false
set_option linter.unusedSimpArgs false
def sameOf (m : List Nat) (a b : Int) : Bool := ok m a && ok m b && (gt m a.toNat == gt m b.toNat)
def sizeOf (m : List Nat) (a : Int) : Int := if ok m a then ((many m (gt m a.toNat) : Nat) : Int) else 0
def joinOf (m : List Nat) (a b : Int) : List Nat × Bool :=
 if (ok m a && ok m b && (gt m a.toNat != gt m b.toNat)) = true then (glue (min (gt m a.toNat) (gt m b.toNat)) (max (gt m a.toNat) (gt m b.toNat)) m, true) else (m, false)
end Go.Proofs.Ytmikcfddipldnaa.Sets
namespace Go.Proofs.Ytmikcfddipldnaa.Sets
open Go.RowKit Go.Proofs.YtmikcfddipldnaaW.PrintWords Go.Proofs.YtmikcfddipldnaaW.PrintLast Go.Proofs.YtmikcfddipldnaaW.PrintMore
attribute [local go_sem] max2_int min2_int max_two min_two
set_option linter.unusedVariables false
set_option linter.unusedSimpArgs false
theorem joinOf_no {m : List Nat} {a b : Int} (h : (ok m a && ok m b && (gt m a.toNat != gt m b.toNat)) = false) : joinOf m a b = (m, false) := by
 unfold joinOf; rw [h]; rfl
set_option maxHeartbeats 1000000 in
set_option maxRecDepth 100000 in
theorem join_no (p bP bS : Nat) (m P S : List Nat) (a b : Int) (w : World) (h : AtPS w p bP bS m P S) (hno : (ok m a && ok m b) = false) :
   Calls Try.prog 37 #[.pointer (some ⟨p, 0, none⟩), .int .i64 a, .int .i64 b] w fun e w' => e = .returned (.bool (joinOf m a b).2) ∧ Now p bP bS (joinOf m a b).1 w w' := by
 have H := Aside0.mk h
 clear h
 rw [joinOf_no (by rw [hno]; rfl)]
 cases ha : ok m a
 · have Q1 := Aside0.mk (fun W => has_keep (p := p) (bP := bP) (bS := bS) (P := P) (S := S) ha W)
   clear ha hno
   go_enter Try.func37, Try.ntmps37
   go_wp2_with (go_at_call 53; refine (Q1.out _ H.out).mono ?_; rintro e w' ⟨rfl, rfl⟩)
   go_ret
   exact ⟨rfl, ⟨P, S, H.out⟩, Frame.refl _ _⟩
 · have hb : ok m b = false := by rw [ha] at hno; simpa using hno
   obtain ⟨i, rfl, hi⟩ := ok_nat ha
   have Q1 := Aside0.mk (fun W => has_keep (p := p) (bP := bP) (bS := bS) (P := P) (S := S) ha W)
   have Q2 := Aside0.mk (fun W => has_keep (p := p) (bP := bP) (bS := bS) (P := P) (S := S) hb W)
   clear ha hb hno
   go_enter Try.func37, Try.ntmps37
   go_wp2_with (go_at_call 53; (first | (with_reducible refine (Q1.out _ H.out).mono ?_) | (with_reducible refine (Q2.out _ H.out).mono ?_)); rintro e w' ⟨rfl, rfl⟩)
   go_ret
   exact ⟨rfl, ⟨P, S, H.out⟩, Frame.refl _ _⟩
set_option maxHeartbeats 1000000 in
set_option maxRecDepth 100000 in
theorem join_same (p bP bS : Nat) (m P S : List Nat) (i j : Nat) (w : World) (h : AtPS w p bP bS m P S) (hi : i < m.length) (hj : j < m.length) (hs : gt m i = gt m j) :
   Calls Try.prog 37 #[.pointer (some ⟨p, 0, none⟩), .int .i64 (i : Int), .int .i64 (j : Int)] w fun e w' => e = .returned (.bool (joinOf m i j).2) ∧ Now p bP bS (joinOf m i j).1 w w' := by
 have H := Aside0.mk h
 clear h
 rw [joinOf_no (by simp [hs])]
 have Q1 := Aside0.mk (fun W => has_keep (p := p) (bP := bP) (bS := bS) (P := P) (S := S) (ok_of hi) W)
 have Q2 := Aside0.mk (fun W => has_keep (p := p) (bP := bP) (bS := bS) (P := P) (S := S) (ok_of hj) W)
 have ht : ((gt m i : Int) == (gt m j : Int)) = true := by rw [hs]; simp
 clear hs
 go_enter Try.func37, Try.ntmps37
 go_wp2_with (go_at_call 53; (first | (with_reducible refine (Q1.out _ H.out).mono ?_) | (with_reducible refine (Q2.out _ H.out).mono ?_)); rintro e w' ⟨rfl, rfl⟩)
 refine start_ (n := 14) (S := fun w' => w'.cell? ⟨p, 0, none⟩ = some (.slice (some ⟨bP, 0, none⟩) m.length m.length) ∧ Aside0 (At w' p bP bS m) ∧ Aside0 (Frame (Own p bP bS) w w')) (ds := []) #[false, false, false, false, false, false, false, false, false, false, false, false, false, false] (by kernel_rfl) rfl rfl ⟨H.out.drew.cell0, ⟨⟨P, S, H.out.drew⟩⟩, ⟨(Frame.refl _ _).drew⟩⟩ (fun hHeld => ?_)
 refine pure_ (i := 0) (N := some 19) (v := ?_) (a' := ?_) #[true, false, false, false, false, false, false, false, false, false, false, false, false, false] rfl rfl (by kernel_rfl) (fun _ _ _ h => h) (Or.inl ⟨by rfl, ?_⟩) ?_ ?_
 rotate_left
 · intro w'
   go_simp
   with_reducible rfl
 rotate_left
 · simp only [Act.put, List.setIfInBounds_toArray, List.set_cons_zero, List.set_cons_succ, i64_w, i32_w]
   rfl
 refine pure_ (i := 1) (N := some 20) (v := ?_) (a' := ?_) #[true, true, false, false, false, false, false, false, false, false, false, false, false, false] rfl rfl (by kernel_rfl) (fun _ _ _ h => h) (Or.inl ⟨by rfl, ?_⟩) ?_ ?_
 rotate_left
 · intro w'
   go_simp
   with_reducible rfl
 rotate_left
 · simp only [Act.put, List.setIfInBounds_toArray, List.set_cons_zero, List.set_cons_succ, i64_w, i32_w]
   rfl
 refine pure_ (i := 2) (N := some 21) (v := ?_) (a' := ?_) #[true, true, true, false, false, false, false, false, false, false, false, false, false, false] rfl rfl (by kernel_rfl) (fun _ _ _ h => h) (Or.inl ⟨by rfl, ?_⟩) ?_ ?_
 rotate_left
 · intro w'
   go_simp
   with_reducible rfl
 rotate_left
 · simp only [Act.put, List.setIfInBounds_toArray, List.set_cons_zero, List.set_cons_succ, i64_w, i32_w]
   rfl
 refine pure_ (i := 4) (N := some 23) (v := ?_) (a' := ?_) #[true, true, true, false, true, false, false, false, false, false, false, false, false, false] rfl rfl (by kernel_rfl) (fun _ _ _ h => h) (Or.inl ⟨by rfl, ?_⟩) ?_ ?_
 rotate_left
 · intro w'
   go_simp
   with_reducible rfl
 rotate_left
 · simp only [Act.put, List.setIfInBounds_toArray, List.set_cons_zero, List.set_cons_succ, i64_w, i32_w]
   rfl
 refine pure_ (i := 6) (N := some 25) (v := ?_) (a' := ?_) #[true, true, true, false, true, false, true, false, false, false, false, false, false, false] rfl rfl (by kernel_rfl) (fun _ _ _ h => h) (Or.inl ⟨by rfl, ?_⟩) ?_ ?_
 rotate_left
 · intro w'
   go_simp
   with_reducible rfl
 rotate_left
 · simp only [Act.put, List.setIfInBounds_toArray, List.set_cons_zero, List.set_cons_succ, i64_w, i32_w]
   rfl
 refine pure_ (i := 7) (N := some 26) (v := ?_) (a' := ?_) #[true, true, true, false, true, false, true, true, false, false, false, false, false, false] rfl rfl (by kernel_rfl) (fun _ _ _ h => h) (Or.inl ⟨by rfl, ?_⟩) ?_ ?_
 rotate_left
 · intro w'
   go_simp
   with_reducible rfl
 rotate_left
 · simp only [Act.put, List.setIfInBounds_toArray, List.set_cons_zero, List.set_cons_succ, i64_w, i32_w]
   rfl
 refine pure_ (i := 8) (N := some 27) (v := ?_) (a' := ?_) #[true, true, true, false, true, false, true, true, true, false, false, false, false, false] rfl rfl (by kernel_rfl) (fun _ _ _ h => h) (Or.inl ⟨by rfl, ?_⟩) ?_ ?_
 rotate_left
 · intro w'
   go_simp
   with_reducible rfl
 rotate_left
 · simp only [Act.put, List.setIfInBounds_toArray, List.set_cons_zero, List.set_cons_succ, i64_w, i32_w]
   rfl
 refine pure_ (i := 10) (N := some 29) (v := ?_) (a' := ?_) #[true, true, true, false, true, false, true, true, true, false, true, false, false, false] rfl rfl (by kernel_rfl) (fun _ _ _ h => h) (Or.inl ⟨by rfl, ?_⟩) ?_ ?_
 rotate_left
 · intro w'
   go_simp
   with_reducible rfl
 rotate_left
 · simp only [Act.put, List.setIfInBounds_toArray, List.set_cons_zero, List.set_cons_succ, i64_w, i32_w]
   rfl
 refine take_ (i := 3) (N := some 22) (v := ?_) (a' := ?_) #[true, true, true, true, true, false, true, true, true, false, true, false, false, false] rfl rfl (by kernel_rfl) (fun _ _ _ h => h) (Or.inl ⟨by rfl, ?_⟩) hHeld ?_ ?_
 rotate_left
 · rintro w' ⟨s0, s1, s2⟩
   go_simp
   with_reducible rfl
 rotate_left
 · simp only [Act.put, List.setIfInBounds_toArray, List.set_cons_zero, List.set_cons_succ, i64_w, i32_w]
   rfl
 refine take_ (i := 9) (N := some 28) (v := ?_) (a' := ?_) #[true, true, true, true, true, false, true, true, true, true, true, false, false, false] rfl rfl (by kernel_rfl) (fun _ _ _ h => h) (Or.inl ⟨by rfl, ?_⟩) hHeld ?_ ?_
 rotate_left
 · rintro w' ⟨s0, s1, s2⟩
   go_simp
   with_reducible rfl
 rotate_left
 · simp only [Act.put, List.setIfInBounds_toArray, List.set_cons_zero, List.set_cons_succ, i64_w, i32_w]
   rfl
 refine one_ (i := 5) (N := some 24) #[true, true, true, true, true, true, true, true, true, true, true, false, false, false] rfl rfl (by kernel_rfl) (by decide) (fun K hK => ?_)
 obtain ⟨h0, HA, HF⟩ := hHeld
 obtain ⟨P1, S1, H1⟩ := HA.out
 refine goes_ Try.func54 (by kernel_rfl) rfl #[.slice (some ⟨bP, 0, none⟩) m.length m.length, .int .i64 (i : Int)] (by rfl) rfl rfl (by simp only [List.map_toArray, List.map_cons, List.map_nil]; rfl) ?_
 with_reducible refine (root_calls bP m.length m.length i _ P1 m _ H1.par H1.rep hi rfl H1.small).mono ?_
 rintro e w3 ⟨rfl, hc⟩
 refine ⟨_, rfl, ?_⟩
 obtain ⟨Q, h1, h2⟩ := H1.climbed hc
 clear hc
 refine hK.out _ _ ⟨h1.cell0, ⟨⟨Q, S1, h1⟩⟩, ⟨HF.out.trans h2⟩⟩ (fun hHeld => ?_)
 clear hK K
 refine norm_ (a' := ?_) ?_ ?_
 rotate_left
 · show Act.put _ (some 24) _ = _
   simp only [Act.put, List.setIfInBounds_toArray, List.set_cons_zero, List.set_cons_succ, i64_w, i32_w]
   rfl
 refine one_ (i := 11) (N := some 30) #[true, true, true, true, true, true, true, true, true, true, true, true, false, false] rfl rfl (by kernel_rfl) (by decide) (fun K hK => ?_)
 obtain ⟨h0, HA, HF⟩ := hHeld
 obtain ⟨P1, S1, H1⟩ := HA.out
 refine goes_ Try.func54 (by kernel_rfl) rfl #[.slice (some ⟨bP, 0, none⟩) m.length m.length, .int .i64 (j : Int)] (by rfl) rfl rfl (by simp only [List.map_toArray, List.map_cons, List.map_nil]; rfl) ?_
 with_reducible refine (root_calls bP m.length m.length j _ P1 m _ H1.par H1.rep hj rfl H1.small).mono ?_
 rintro e w3 ⟨rfl, hc⟩
 refine ⟨_, rfl, ?_⟩
 obtain ⟨Q, h1, h2⟩ := H1.climbed hc
 clear hc
 refine hK.out _ _ ⟨h1.cell0, ⟨⟨Q, S1, h1⟩⟩, ⟨HF.out.trans h2⟩⟩ (fun hHeld => ?_)
 clear hK K
 refine norm_ (a' := ?_) ?_ ?_
 rotate_left
 · show Act.put _ (some 30) _ = _
   simp only [Act.put, List.setIfInBounds_toArray, List.set_cons_zero, List.set_cons_succ, i64_w, i32_w]
   rfl
 refine pure_ (i := 12) (N := some 7) (v := ?_) (a' := ?_) #[true, true, true, true, true, true, true, true, true, true, true, true, true, false] rfl rfl (by kernel_rfl) (fun _ _ _ h => h) (Or.inl ⟨by rfl, ?_⟩) ?_ ?_
 rotate_left
 · intro w'
   go_simp
   with_reducible rfl
 rotate_left
 · simp only [Act.put, List.setIfInBounds_toArray, List.set_cons_zero, List.set_cons_succ, i64_w, i32_w]
   rfl
 refine pure_ (i := 13) (N := some 8) (v := ?_) (a' := ?_) #[true, true, true, true, true, true, true, true, true, true, true, true, true, true] rfl rfl (by kernel_rfl) (fun _ _ _ h => h) (Or.inl ⟨by rfl, ?_⟩) ?_ ?_
 rotate_left
 · intro w'
   go_simp
   with_reducible rfl
 rotate_left
 · simp only [Act.put, List.setIfInBounds_toArray, List.set_cons_zero, List.set_cons_succ, i64_w, i32_w]
   rfl
 refine done_ (by kernel_rfl) ?_
 obtain ⟨_, HA, HF⟩ := hHeld
 go_wp2
 go_ret
 exact ⟨rfl, HA.out, HF.out⟩
structure MidPS (w : World) (p bP bS n : Nat) (P S : List Nat) (c : Nat) : Prop where
 obj : w.heap[p]? = some (.cells #[.slice (some ⟨bP, 0, none⟩) n n, .slice (some ⟨bS, 0, none⟩) n n, .int .i64 (c : Int)] 86 (0, 0))
 par : w.heap[bP]? = some (.cells (nv P) 3 (0, 0))
 siz : w.heap[bS]? = some (.cells (nv S) 3 (0, 0))
 ne1 : p ≠ bP
 ne2 : p ≠ bS
 ne3 : bP ≠ bS
theorem heap_setCell_ne {w : World} {b i k : Nat} {v : Value} {o : Obj} (h : w.heap[k]? = some o) (hk : k ≠ b) : (w.setCell ⟨b, i, none⟩ v).heap[k]? = some o := by
 rw [Below.heap_setCell _ _ _ _ hk]; exact h
theorem AtPS.mid {w : World} {p bP bS : Nat} {m P S : List Nat} (h : AtPS w p bP bS m P S) : MidPS w p bP bS m.length P S (sets m) := ⟨h.obj, h.par, h.siz, h.ne1, h.ne2, h.ne3⟩
theorem MidPS.drew {w : World} {p bP bS n c : Nat} {P S : List Nat} (h : MidPS w p bP bS n P S c) : MidPS w.drew p bP bS n P S c := ⟨h.obj, h.par, h.siz, h.ne1, h.ne2, h.ne3⟩
theorem MidPS.setPar {w : World} {p bP bS n c : Nat} {P S : List Nat} (h : MidPS w p bP bS n P S c) (i x : Nat) : MidPS (w.setCell ⟨bP, i, none⟩ (.int .i64 (x : Int))) p bP bS n (P.set i x) S c :=
 ⟨heap_setCell_ne h.obj h.ne1, blk_set_nv h.par, heap_setCell_ne h.siz (Ne.symm h.ne3), h.ne1, h.ne2, h.ne3⟩
theorem MidPS.setSiz {w : World} {p bP bS n c : Nat} {P S : List Nat} (h : MidPS w p bP bS n P S c) (i x : Nat) : MidPS (w.setCell ⟨bS, i, none⟩ (.int .i64 (x : Int))) p bP bS n P (S.set i x) c :=
 ⟨heap_setCell_ne h.obj h.ne2, heap_setCell_ne h.par h.ne3, blk_set_nv h.siz, h.ne1, h.ne2, h.ne3⟩
theorem MidPS.setCount {w : World} {p bP bS n c : Nat} {P S : List Nat} (h : MidPS w p bP bS n P S c) (x : Nat) : MidPS (w.setCell ⟨p, 2, none⟩ (.int .i64 (x : Int))) p bP bS n P S x :=
 ⟨by rw [blk_setCell h.obj]; rfl, heap_setCell_ne h.par (Ne.symm h.ne1), heap_setCell_ne h.siz (Ne.symm h.ne2), h.ne1, h.ne2, h.ne3⟩
theorem MidPS.cell0 {w : World} {p bP bS n c : Nat} {P S : List Nat} (h : MidPS w p bP bS n P S c) : w.cell? ⟨p, 0, none⟩ = some (.slice (some ⟨bP, 0, none⟩) n n) := (blk_cell h.obj 0).trans rfl
theorem MidPS.cell1 {w : World} {p bP bS n c : Nat} {P S : List Nat} (h : MidPS w p bP bS n P S c) : w.cell? ⟨p, 1, none⟩ = some (.slice (some ⟨bS, 0, none⟩) n n) := (blk_cell h.obj 1).trans rfl
theorem MidPS.cell2 {w : World} {p bP bS n c : Nat} {P S : List Nat} (h : MidPS w p bP bS n P S c) : w.cell? ⟨p, 2, none⟩ = some (.int .i64 (c : Int)) := (blk_cell h.obj 2).trans rfl
set_option maxHeartbeats 1000000 in
set_option maxRecDepth 100000 in
theorem join_lt (p bP bS : Nat) (m P S : List Nat) (i j : Nat) (w : World) (h : AtPS w p bP bS m P S) (hi : i < m.length) (hj : j < m.length) (hlt : gt m i < gt m j) :
   Calls Try.prog 37 #[.pointer (some ⟨p, 0, none⟩), .int .i64 (i : Int), .int .i64 (j : Int)] w fun e w' => e = .returned (.bool true) ∧ Now p bP bS (glue (gt m i) (gt m j) m) w w' := by
 have H := Aside0.mk h
 have Q1 := Aside0.mk (fun W => has_keep (p := p) (bP := bP) (bS := bS) (P := P) (S := S) (ok_of hi) W)
 have Q2 := Aside0.mk (fun W => has_keep (p := p) (bP := bP) (bS := bS) (P := P) (S := S) (ok_of hj) W)
 have ht : ((gt m i : Int) == (gt m j : Int)) = false := by simp only [beq_eq_false_iff_ne]; omega
 have HL := Aside0.mk (h.rep.mm hi)
 have HH := Aside0.mk (h.rep.mm hj)
 have hlo : gt m i < m.length := by have := h.rep.ml hi; omega
 have hhi : gt m j < m.length := by have := h.rep.ml hj; omega
 have hsm := h.small
 clear h
 go_enter Try.func37, Try.ntmps37
 go_wp2_with (go_at_call 53; (first | (with_reducible refine (Q1.out _ H.out).mono ?_) | (with_reducible refine (Q2.out _ H.out).mono ?_)); rintro e w' ⟨rfl, rfl⟩)
 refine start_ (n := 14) (S := fun w' => w'.cell? ⟨p, 0, none⟩ = some (.slice (some ⟨bP, 0, none⟩) m.length m.length) ∧ Aside0 (At w' p bP bS m) ∧ Aside0 (Frame (Own p bP bS) w w')) (ds := []) #[false, false, false, false, false, false, false, false, false, false, false, false, false, false] (by kernel_rfl) rfl rfl ⟨H.out.drew.cell0, ⟨⟨P, S, H.out.drew⟩⟩, ⟨(Frame.refl _ _).drew⟩⟩ (fun hHeld => ?_)
 refine pure_ (i := 0) (N := some 19) (v := ?_) (a' := ?_) #[true, false, false, false, false, false, false, false, false, false, false, false, false, false] rfl rfl (by kernel_rfl) (fun _ _ _ h => h) (Or.inl ⟨by rfl, ?_⟩) ?_ ?_
 rotate_left
 · intro w'
   go_simp
   with_reducible rfl
 rotate_left
 · simp only [Act.put, List.setIfInBounds_toArray, List.set_cons_zero, List.set_cons_succ, i64_w, i32_w]
   rfl
 refine pure_ (i := 1) (N := some 20) (v := ?_) (a' := ?_) #[true, true, false, false, false, false, false, false, false, false, false, false, false, false] rfl rfl (by kernel_rfl) (fun _ _ _ h => h) (Or.inl ⟨by rfl, ?_⟩) ?_ ?_
 rotate_left
 · intro w'
   go_simp
   with_reducible rfl
 rotate_left
 · simp only [Act.put, List.setIfInBounds_toArray, List.set_cons_zero, List.set_cons_succ, i64_w, i32_w]
   rfl
 refine pure_ (i := 2) (N := some 21) (v := ?_) (a' := ?_) #[true, true, true, false, false, false, false, false, false, false, false, false, false, false] rfl rfl (by kernel_rfl) (fun _ _ _ h => h) (Or.inl ⟨by rfl, ?_⟩) ?_ ?_
 rotate_left
 · intro w'
   go_simp
   with_reducible rfl
 rotate_left
 · simp only [Act.put, List.setIfInBounds_toArray, List.set_cons_zero, List.set_cons_succ, i64_w, i32_w]
   rfl
 refine pure_ (i := 4) (N := some 23) (v := ?_) (a' := ?_) #[true, true, true, false, true, false, false, false, false, false, false, false, false, false] rfl rfl (by kernel_rfl) (fun _ _ _ h => h) (Or.inl ⟨by rfl, ?_⟩) ?_ ?_
 rotate_left
 · intro w'
   go_simp
   with_reducible rfl
 rotate_left
 · simp only [Act.put, List.setIfInBounds_toArray, List.set_cons_zero, List.set_cons_succ, i64_w, i32_w]
   rfl
 refine pure_ (i := 6) (N := some 25) (v := ?_) (a' := ?_) #[true, true, true, false, true, false, true, false, false, false, false, false, false, false] rfl rfl (by kernel_rfl) (fun _ _ _ h => h) (Or.inl ⟨by rfl, ?_⟩) ?_ ?_
 rotate_left
 · intro w'
   go_simp
   with_reducible rfl
 rotate_left
 · simp only [Act.put, List.setIfInBounds_toArray, List.set_cons_zero, List.set_cons_succ, i64_w, i32_w]
   rfl
 refine pure_ (i := 7) (N := some 26) (v := ?_) (a' := ?_) #[true, true, true, false, true, false, true, true, false, false, false, false, false, false] rfl rfl (by kernel_rfl) (fun _ _ _ h => h) (Or.inl ⟨by rfl, ?_⟩) ?_ ?_
 rotate_left
 · intro w'
   go_simp
   with_reducible rfl
 rotate_left
 · simp only [Act.put, List.setIfInBounds_toArray, List.set_cons_zero, List.set_cons_succ, i64_w, i32_w]
   rfl
 refine pure_ (i := 8) (N := some 27) (v := ?_) (a' := ?_) #[true, true, true, false, true, false, true, true, true, false, false, false, false, false] rfl rfl (by kernel_rfl) (fun _ _ _ h => h) (Or.inl ⟨by rfl, ?_⟩) ?_ ?_
 rotate_left
 · intro w'
   go_simp
   with_reducible rfl
 rotate_left
 · simp only [Act.put, List.setIfInBounds_toArray, List.set_cons_zero, List.set_cons_succ, i64_w, i32_w]
   rfl
 refine pure_ (i := 10) (N := some 29) (v := ?_) (a' := ?_) #[true, true, true, false, true, false, true, true, true, false, true, false, false, false] rfl rfl (by kernel_rfl) (fun _ _ _ h => h) (Or.inl ⟨by rfl, ?_⟩) ?_ ?_
 rotate_left
 · intro w'
   go_simp
   with_reducible rfl
 rotate_left
 · simp only [Act.put, List.setIfInBounds_toArray, List.set_cons_zero, List.set_cons_succ, i64_w, i32_w]
   rfl
 refine take_ (i := 3) (N := some 22) (v := ?_) (a' := ?_) #[true, true, true, true, true, false, true, true, true, false, true, false, false, false] rfl rfl (by kernel_rfl) (fun _ _ _ h => h) (Or.inl ⟨by rfl, ?_⟩) hHeld ?_ ?_
 rotate_left
 · rintro w' ⟨s0, s1, s2⟩
   go_simp
   with_reducible rfl
 rotate_left
 · simp only [Act.put, List.setIfInBounds_toArray, List.set_cons_zero, List.set_cons_succ, i64_w, i32_w]
   rfl
 refine take_ (i := 9) (N := some 28) (v := ?_) (a' := ?_) #[true, true, true, true, true, false, true, true, true, true, true, false, false, false] rfl rfl (by kernel_rfl) (fun _ _ _ h => h) (Or.inl ⟨by rfl, ?_⟩) hHeld ?_ ?_
 rotate_left
 · rintro w' ⟨s0, s1, s2⟩
   go_simp
   with_reducible rfl
 rotate_left
 · simp only [Act.put, List.setIfInBounds_toArray, List.set_cons_zero, List.set_cons_succ, i64_w, i32_w]
   rfl
 refine one_ (i := 5) (N := some 24) #[true, true, true, true, true, true, true, true, true, true, true, false, false, false] rfl rfl (by kernel_rfl) (by decide) (fun K hK => ?_)
 obtain ⟨h0, HA, HF⟩ := hHeld
 obtain ⟨P1, S1, H1⟩ := HA.out
 refine goes_ Try.func54 (by kernel_rfl) rfl #[.slice (some ⟨bP, 0, none⟩) m.length m.length, .int .i64 (i : Int)] (by rfl) rfl rfl (by simp only [List.map_toArray, List.map_cons, List.map_nil]; rfl) ?_
 with_reducible refine (root_calls bP m.length m.length i _ P1 m _ H1.par H1.rep hi rfl H1.small).mono ?_
 rintro e w3 ⟨rfl, hc⟩
 refine ⟨_, rfl, ?_⟩
 obtain ⟨Q, h1, h2⟩ := H1.climbed hc
 clear hc
 refine hK.out _ _ ⟨h1.cell0, ⟨⟨Q, S1, h1⟩⟩, ⟨HF.out.trans h2⟩⟩ (fun hHeld => ?_)
 clear hK K
 refine norm_ (a' := ?_) ?_ ?_
 rotate_left
 · show Act.put _ (some 24) _ = _
   simp only [Act.put, List.setIfInBounds_toArray, List.set_cons_zero, List.set_cons_succ, i64_w, i32_w]
   rfl
 refine one_ (i := 11) (N := some 30) #[true, true, true, true, true, true, true, true, true, true, true, true, false, false] rfl rfl (by kernel_rfl) (by decide) (fun K hK => ?_)
 obtain ⟨h0, HA, HF⟩ := hHeld
 obtain ⟨P1, S1, H1⟩ := HA.out
 refine goes_ Try.func54 (by kernel_rfl) rfl #[.slice (some ⟨bP, 0, none⟩) m.length m.length, .int .i64 (j : Int)] (by rfl) rfl rfl (by simp only [List.map_toArray, List.map_cons, List.map_nil]; rfl) ?_
 with_reducible refine (root_calls bP m.length m.length j _ P1 m _ H1.par H1.rep hj rfl H1.small).mono ?_
 rintro e w3 ⟨rfl, hc⟩
 refine ⟨_, rfl, ?_⟩
 obtain ⟨Q, h1, h2⟩ := H1.climbed hc
 clear hc
 refine hK.out _ _ ⟨h1.cell0, ⟨⟨Q, S1, h1⟩⟩, ⟨HF.out.trans h2⟩⟩ (fun hHeld => ?_)
 clear hK K
 refine norm_ (a' := ?_) ?_ ?_
 rotate_left
 · show Act.put _ (some 30) _ = _
   simp only [Act.put, List.setIfInBounds_toArray, List.set_cons_zero, List.set_cons_succ, i64_w, i32_w]
   rfl
 refine pure_ (i := 12) (N := some 7) (v := ?_) (a' := ?_) #[true, true, true, true, true, true, true, true, true, true, true, true, true, false] rfl rfl (by kernel_rfl) (fun _ _ _ h => h) (Or.inl ⟨by rfl, ?_⟩) ?_ ?_
 rotate_left
 · intro w'
   go_simp
   with_reducible rfl
 rotate_left
 · simp only [Act.put, List.setIfInBounds_toArray, List.set_cons_zero, List.set_cons_succ, i64_w, i32_w]
   rfl
 refine pure_ (i := 13) (N := some 8) (v := ?_) (a' := ?_) #[true, true, true, true, true, true, true, true, true, true, true, true, true, true] rfl rfl (by kernel_rfl) (fun _ _ _ h => h) (Or.inl ⟨by rfl, ?_⟩) ?_ ?_
 rotate_left
 · intro w'
   go_simp
   with_reducible rfl
 rotate_left
 · simp only [Act.put, List.setIfInBounds_toArray, List.set_cons_zero, List.set_cons_succ, i64_w, i32_w]
   rfl
 refine done_ (by kernel_rfl) ?_
 obtain ⟨h0, HA, HF⟩ := hHeld
 obtain ⟨P1, S1, H1⟩ := HA.out
 have H2 := Aside0.mk H1
 clear H1 HA H Q1 Q2
 have hf := blk_free H2.out.par (gt m j)
 have hol := nv_cell H2.out.par (i := gt m j) (by have := H2.out.rep.len; omega)
 have hpair := many_pair m (r := gt m i) (s := gt m j) (by omega)
 have HG := Aside0.mk (sets_glue H2.out.rep hhi hlt HL.out HH.out)
 have hsets := sets_le m
 go_wp2
 have M1 := Aside0.mk (H2.out.mid.setPar (gt m j) (gt m i))
 have hwr : IntKind.i64.wrap ((many m (gt m i) : Int) + (many m (gt m j) : Int)) = (many m (gt m i) : Int) + (many m (gt m j) : Int) := IntWalk.i64_in _ (by omega)
 refine start_ (n := 17) (S := fun w' => w'.cell? ⟨p, 1, none⟩ = some (.slice (some ⟨bS, 0, none⟩) m.length m.length) ∧ w'.cell? ⟨bS, gt m i, none⟩ = some (.int .i64 ((many m (gt m i) : Nat) : Int)) ∧ w'.cell? ⟨bS, gt m j, none⟩ = some (.int .i64 ((many m (gt m j) : Nat) : Int)) ∧ w'.frozen? ⟨bS, gt m i, none⟩ = false) (ds := [16]) #[false, false, false, false, false, false, false, false, false, false, false, false, false, false, false, false, false] (by kernel_rfl) rfl rfl ⟨M1.out.drew.cell1, by rw [nv_cell M1.out.drew.siz (by have := H2.out.sized.len; omega), H2.out.sized.size _ hlo HL.out], by rw [nv_cell M1.out.drew.siz (by have := H2.out.sized.len; omega), H2.out.sized.size _ hhi HH.out], blk_free M1.out.drew.siz _⟩ (fun hHeld => ?_)
 refine pure_ (i := 0) (N := some 47) (v := ?_) (a' := ?_) #[true, false, false, false, false, false, false, false, false, false, false, false, false, false, false, false, false] rfl rfl (by kernel_rfl) (fun _ _ _ h => h) (Or.inl ⟨by rfl, ?_⟩) ?_ ?_
 rotate_left
 · intro w'
   go_simp
   with_reducible rfl
 rotate_left
 · simp only [Act.put, List.setIfInBounds_toArray, List.set_cons_zero, List.set_cons_succ, i64_w, i32_w]
   rfl
 refine pure_ (i := 1) (N := some 48) (v := ?_) (a' := ?_) #[true, true, false, false, false, false, false, false, false, false, false, false, false, false, false, false, false] rfl rfl (by kernel_rfl) (fun _ _ _ h => h) (Or.inl ⟨by rfl, ?_⟩) ?_ ?_
 rotate_left
 · intro w'
   go_simp
   with_reducible rfl
 rotate_left
 · simp only [Act.put, List.setIfInBounds_toArray, List.set_cons_zero, List.set_cons_succ, i64_w, i32_w]
   rfl
 refine pure_ (i := 2) (N := some 49) (v := ?_) (a' := ?_) #[true, true, true, false, false, false, false, false, false, false, false, false, false, false, false, false, false] rfl rfl (by kernel_rfl) (fun _ _ _ h => h) (Or.inl ⟨by rfl, ?_⟩) ?_ ?_
 rotate_left
 · intro w'
   go_simp
   with_reducible rfl
 rotate_left
 · simp only [Act.put, List.setIfInBounds_toArray, List.set_cons_zero, List.set_cons_succ, i64_w, i32_w]
   rfl
 refine pure_ (i := 4) (N := some 51) (v := ?_) (a' := ?_) #[true, true, true, false, true, false, false, false, false, false, false, false, false, false, false, false, false] rfl rfl (by kernel_rfl) (fun _ _ _ h => h) (Or.inl ⟨by rfl, ?_⟩) ?_ ?_
 rotate_left
 · intro w'
   go_simp
   with_reducible rfl
 rotate_left
 · simp only [Act.put, List.setIfInBounds_toArray, List.set_cons_zero, List.set_cons_succ, i64_w, i32_w]
   rfl
 refine pure_ (i := 7) (N := some 54) (v := ?_) (a' := ?_) #[true, true, true, false, true, false, false, true, false, false, false, false, false, false, false, false, false] rfl rfl (by kernel_rfl) (fun _ _ _ h => h) (Or.inl ⟨by rfl, ?_⟩) ?_ ?_
 rotate_left
 · intro w'
   go_simp
   with_reducible rfl
 rotate_left
 · simp only [Act.put, List.setIfInBounds_toArray, List.set_cons_zero, List.set_cons_succ, i64_w, i32_w]
   rfl
 refine pure_ (i := 8) (N := some 55) (v := ?_) (a' := ?_) #[true, true, true, false, true, false, false, true, true, false, false, false, false, false, false, false, false] rfl rfl (by kernel_rfl) (fun _ _ _ h => h) (Or.inl ⟨by rfl, ?_⟩) ?_ ?_
 rotate_left
 · intro w'
   go_simp
   with_reducible rfl
 rotate_left
 · simp only [Act.put, List.setIfInBounds_toArray, List.set_cons_zero, List.set_cons_succ, i64_w, i32_w]
   rfl
 refine pure_ (i := 9) (N := some 56) (v := ?_) (a' := ?_) #[true, true, true, false, true, false, false, true, true, true, false, false, false, false, false, false, false] rfl rfl (by kernel_rfl) (fun _ _ _ h => h) (Or.inl ⟨by rfl, ?_⟩) ?_ ?_
 rotate_left
 · intro w'
   go_simp
   with_reducible rfl
 rotate_left
 · simp only [Act.put, List.setIfInBounds_toArray, List.set_cons_zero, List.set_cons_succ, i64_w, i32_w]
   rfl
 refine pure_ (i := 11) (N := some 58) (v := ?_) (a' := ?_) #[true, true, true, false, true, false, false, true, true, true, false, true, false, false, false, false, false] rfl rfl (by kernel_rfl) (fun _ _ _ h => h) (Or.inl ⟨by rfl, ?_⟩) ?_ ?_
 rotate_left
 · intro w'
   go_simp
   with_reducible rfl
 rotate_left
 · simp only [Act.put, List.setIfInBounds_toArray, List.set_cons_zero, List.set_cons_succ, i64_w, i32_w]
   rfl
 refine take_ (i := 3) (N := some 50) (v := ?_) (a' := ?_) #[true, true, true, true, true, false, false, true, true, true, false, true, false, false, false, false, false] rfl rfl (by kernel_rfl) (fun _ _ _ h => h) (Or.inl ⟨by rfl, ?_⟩) hHeld ?_ ?_
 rotate_left
 · rintro w' ⟨s0, s1, s2, s3⟩
   go_simp
   with_reducible rfl
 rotate_left
 · simp only [Act.put, List.setIfInBounds_toArray, List.set_cons_zero, List.set_cons_succ, i64_w, i32_w]
   rfl
 refine pure_ (i := 5) (N := some 52) (v := ?_) (a' := ?_) #[true, true, true, true, true, true, false, true, true, true, false, true, false, false, false, false, false] rfl rfl (by kernel_rfl) (fun _ _ _ h => h) (Or.inl ⟨by rfl, ?_⟩) ?_ ?_
 rotate_left
 · intro w'
   go_simp
   with_reducible rfl
 rotate_left
 · simp only [Act.put, List.setIfInBounds_toArray, List.set_cons_zero, List.set_cons_succ, i64_w, i32_w]
   rfl
 refine take_ (i := 6) (N := some 53) (v := ?_) (a' := ?_) #[true, true, true, true, true, true, true, true, true, true, false, true, false, false, false, false, false] rfl rfl (by kernel_rfl) (fun _ _ _ h => h) (Or.inl ⟨by rfl, ?_⟩) hHeld ?_ ?_
 rotate_left
 · rintro w' ⟨s0, s1, s2, s3⟩
   go_simp
   with_reducible rfl
 rotate_left
 · simp only [Act.put, List.setIfInBounds_toArray, List.set_cons_zero, List.set_cons_succ, i64_w, i32_w]
   rfl
 refine take_ (i := 10) (N := some 57) (v := ?_) (a' := ?_) #[true, true, true, true, true, true, true, true, true, true, true, true, false, false, false, false, false] rfl rfl (by kernel_rfl) (fun _ _ _ h => h) (Or.inl ⟨by rfl, ?_⟩) hHeld ?_ ?_
 rotate_left
 · rintro w' ⟨s0, s1, s2, s3⟩
   go_simp
   with_reducible rfl
 rotate_left
 · simp only [Act.put, List.setIfInBounds_toArray, List.set_cons_zero, List.set_cons_succ, i64_w, i32_w]
   rfl
 refine pure_ (i := 12) (N := some 59) (v := ?_) (a' := ?_) #[true, true, true, true, true, true, true, true, true, true, true, true, true, false, false, false, false] rfl rfl (by kernel_rfl) (fun _ _ _ h => h) (Or.inl ⟨by rfl, ?_⟩) ?_ ?_
 rotate_left
 · intro w'
   go_simp
   with_reducible rfl
 rotate_left
 · simp only [Act.put, List.setIfInBounds_toArray, List.set_cons_zero, List.set_cons_succ, i64_w, i32_w]
   rfl
 refine take_ (i := 13) (N := some 60) (v := ?_) (a' := ?_) #[true, true, true, true, true, true, true, true, true, true, true, true, true, true, false, false, false] rfl rfl (by kernel_rfl) (fun _ _ _ h => h) (Or.inl ⟨by rfl, ?_⟩) hHeld ?_ ?_
 rotate_left
 · rintro w' ⟨s0, s1, s2, s3⟩
   go_simp
   with_reducible rfl
 rotate_left
 · simp only [Act.put, List.setIfInBounds_toArray, List.set_cons_zero, List.set_cons_succ, i64_w, i32_w]
   rfl
 refine pure_ (i := 14) (N := some 61) (v := ?_) (a' := ?_) #[true, true, true, true, true, true, true, true, true, true, true, true, true, true, true, false, false] rfl rfl (by kernel_rfl) (fun _ _ _ h => h) (Or.inl ⟨by rfl, ?_⟩) ?_ ?_
 rotate_left
 · intro w'
   go_simp
   with_reducible rfl
 rotate_left
 · simp only [Act.put, List.setIfInBounds_toArray, List.set_cons_zero, List.set_cons_succ, i64_w, i32_w]
   rfl
 refine pure_ (i := 15) (N := some 62) (v := ?_) (a' := ?_) #[true, true, true, true, true, true, true, true, true, true, true, true, true, true, true, true, false] rfl rfl (by kernel_rfl) (fun _ _ _ h => h) (Or.inl ⟨by rfl, ?_⟩) ?_ ?_
 rotate_left
 · intro w'
   go_simp
   with_reducible rfl
 rotate_left
 · simp only [Act.put, List.setIfInBounds_toArray, List.set_cons_zero, List.set_cons_succ, i64_w, i32_w]
   rfl
 refine last_ (i := 16) (N := none) #[true, true, true, true, true, true, true, true, true, true, true, true, true, true, true, true, true] rfl rfl (by kernel_rfl) (by decide) (fun K hK => ?_)
 obtain ⟨h3, h4, h5, h6⟩ := hHeld
 refine skip_ (w1 := ?_) (by rfl) rfl ?_ ?_
 rotate_left
 · go_simp
   rfl
 refine hK.out _ _ ?_
 clear hK K
 refine done_ (by kernel_rfl) ?_
 have M2 := Aside0.mk (M1.out.setSiz (gt m i) (many m (gt m i) + many m (gt m j))).drew
 clear hwr
 have e3 : (many m (gt m i) : Int) + (many m (gt m j) : Int) = ((many m (gt m i) + many m (gt m j) : Nat) : Int) := by omega
 rw [e3]
 have F2 := Aside0.mk (((HF.out.setCell (p := ⟨bP, gt m j, none⟩) (.inr (.inl rfl)) (.int .i64 ((gt m i : Nat) : Int)))).setCell (p := ⟨bS, gt m i, none⟩) (.inr (.inr rfl)) (.int .i64 ((many m (gt m i) + many m (gt m j) : Nat) : Int))).drew
 generalize (((w3.setCell ⟨bP, gt m j, none⟩ (.int .i64 ((gt m i : Nat) : Int)))).setCell ⟨bS, gt m i, none⟩ (.int .i64 ((many m (gt m i) + many m (gt m j) : Nat) : Int))).drew = w5 at M2 F2 ⊢
 clear e3
 have h9 := M2.out.cell2
 have h10 := blk_free M2.out.obj 2
 go_wp2
 go_ret
 have hg := HG.out
 have e4 : (sets m : Int) - 1 = ((sets (glue (gt m i) (gt m j) m) : Nat) : Int) := by omega
 have M3 := M2.out.setCount (sets (glue (gt m i) (gt m j) m))
 rw [← e4] at M3
 refine ⟨rfl, ⟨_, _, ⟨?_, M3.par, M3.siz, M3.ne1, M3.ne2, M3.ne3, ?_, H2.out.rep.glue hhi hlt HL.out HH.out, ?_⟩⟩, ?_⟩
 · rw [glue_length]; exact M3.obj
 · rw [glue_length]; exact hsm
 · have := H2.out.sized.glue hhi hlt HL.out HH.out
   rwa [H2.out.sized.size _ hlo HL.out, H2.out.sized.size _ hhi HH.out] at this
 · exact F2.out.setCell (p := ⟨p, 2, none⟩) (.inl rfl) _
set_option maxHeartbeats 1000000 in
set_option maxRecDepth 100000 in
theorem join_gt (p bP bS : Nat) (m P S : List Nat) (i j : Nat) (w : World) (h : AtPS w p bP bS m P S) (hi : i < m.length) (hj : j < m.length) (hlt : gt m j < gt m i) :
   Calls Try.prog 37 #[.pointer (some ⟨p, 0, none⟩), .int .i64 (i : Int), .int .i64 (j : Int)] w fun e w' => e = .returned (.bool true) ∧ Now p bP bS (glue (gt m j) (gt m i) m) w w' := by
 have H := Aside0.mk h
 have Q1 := Aside0.mk (fun W => has_keep (p := p) (bP := bP) (bS := bS) (P := P) (S := S) (ok_of hi) W)
 have Q2 := Aside0.mk (fun W => has_keep (p := p) (bP := bP) (bS := bS) (P := P) (S := S) (ok_of hj) W)
 have ht : ((gt m i : Int) == (gt m j : Int)) = false := by simp only [beq_eq_false_iff_ne]; omega
 have HL := Aside0.mk (h.rep.mm hj)
 have HH := Aside0.mk (h.rep.mm hi)
 have hlo : gt m j < m.length := by have := h.rep.ml hj; omega
 have hhi : gt m i < m.length := by have := h.rep.ml hi; omega
 have hsm := h.small
 clear h
 go_enter Try.func37, Try.ntmps37
 go_wp2_with (go_at_call 53; (first | (with_reducible refine (Q1.out _ H.out).mono ?_) | (with_reducible refine (Q2.out _ H.out).mono ?_)); rintro e w' ⟨rfl, rfl⟩)
 refine start_ (n := 14) (S := fun w' => w'.cell? ⟨p, 0, none⟩ = some (.slice (some ⟨bP, 0, none⟩) m.length m.length) ∧ Aside0 (At w' p bP bS m) ∧ Aside0 (Frame (Own p bP bS) w w')) (ds := []) #[false, false, false, false, false, false, false, false, false, false, false, false, false, false] (by kernel_rfl) rfl rfl ⟨H.out.drew.cell0, ⟨⟨P, S, H.out.drew⟩⟩, ⟨(Frame.refl _ _).drew⟩⟩ (fun hHeld => ?_)
 refine pure_ (i := 0) (N := some 19) (v := ?_) (a' := ?_) #[true, false, false, false, false, false, false, false, false, false, false, false, false, false] rfl rfl (by kernel_rfl) (fun _ _ _ h => h) (Or.inl ⟨by rfl, ?_⟩) ?_ ?_
 rotate_left
 · intro w'
   go_simp
   with_reducible rfl
 rotate_left
 · simp only [Act.put, List.setIfInBounds_toArray, List.set_cons_zero, List.set_cons_succ, i64_w, i32_w]
   rfl
 refine pure_ (i := 1) (N := some 20) (v := ?_) (a' := ?_) #[true, true, false, false, false, false, false, false, false, false, false, false, false, false] rfl rfl (by kernel_rfl) (fun _ _ _ h => h) (Or.inl ⟨by rfl, ?_⟩) ?_ ?_
 rotate_left
 · intro w'
   go_simp
   with_reducible rfl
 rotate_left
 · simp only [Act.put, List.setIfInBounds_toArray, List.set_cons_zero, List.set_cons_succ, i64_w, i32_w]
   rfl
 refine pure_ (i := 2) (N := some 21) (v := ?_) (a' := ?_) #[true, true, true, false, false, false, false, false, false, false, false, false, false, false] rfl rfl (by kernel_rfl) (fun _ _ _ h => h) (Or.inl ⟨by rfl, ?_⟩) ?_ ?_
 rotate_left
 · intro w'
   go_simp
   with_reducible rfl
 rotate_left
 · simp only [Act.put, List.setIfInBounds_toArray, List.set_cons_zero, List.set_cons_succ, i64_w, i32_w]
   rfl
 refine pure_ (i := 4) (N := some 23) (v := ?_) (a' := ?_) #[true, true, true, false, true, false, false, false, false, false, false, false, false, false] rfl rfl (by kernel_rfl) (fun _ _ _ h => h) (Or.inl ⟨by rfl, ?_⟩) ?_ ?_
 rotate_left
 · intro w'
   go_simp
   with_reducible rfl
 rotate_left
 · simp only [Act.put, List.setIfInBounds_toArray, List.set_cons_zero, List.set_cons_succ, i64_w, i32_w]
   rfl
 refine pure_ (i := 6) (N := some 25) (v := ?_) (a' := ?_) #[true, true, true, false, true, false, true, false, false, false, false, false, false, false] rfl rfl (by kernel_rfl) (fun _ _ _ h => h) (Or.inl ⟨by rfl, ?_⟩) ?_ ?_
 rotate_left
 · intro w'
   go_simp
   with_reducible rfl
 rotate_left
 · simp only [Act.put, List.setIfInBounds_toArray, List.set_cons_zero, List.set_cons_succ, i64_w, i32_w]
   rfl
 refine pure_ (i := 7) (N := some 26) (v := ?_) (a' := ?_) #[true, true, true, false, true, false, true, true, false, false, false, false, false, false] rfl rfl (by kernel_rfl) (fun _ _ _ h => h) (Or.inl ⟨by rfl, ?_⟩) ?_ ?_
 rotate_left
 · intro w'
   go_simp
   with_reducible rfl
 rotate_left
 · simp only [Act.put, List.setIfInBounds_toArray, List.set_cons_zero, List.set_cons_succ, i64_w, i32_w]
   rfl
 refine pure_ (i := 8) (N := some 27) (v := ?_) (a' := ?_) #[true, true, true, false, true, false, true, true, true, false, false, false, false, false] rfl rfl (by kernel_rfl) (fun _ _ _ h => h) (Or.inl ⟨by rfl, ?_⟩) ?_ ?_
 rotate_left
 · intro w'
   go_simp
   with_reducible rfl
 rotate_left
 · simp only [Act.put, List.setIfInBounds_toArray, List.set_cons_zero, List.set_cons_succ, i64_w, i32_w]
   rfl
 refine pure_ (i := 10) (N := some 29) (v := ?_) (a' := ?_) #[true, true, true, false, true, false, true, true, true, false, true, false, false, false] rfl rfl (by kernel_rfl) (fun _ _ _ h => h) (Or.inl ⟨by rfl, ?_⟩) ?_ ?_
 rotate_left
 · intro w'
   go_simp
   with_reducible rfl
 rotate_left
 · simp only [Act.put, List.setIfInBounds_toArray, List.set_cons_zero, List.set_cons_succ, i64_w, i32_w]
   rfl
 refine take_ (i := 3) (N := some 22) (v := ?_) (a' := ?_) #[true, true, true, true, true, false, true, true, true, false, true, false, false, false] rfl rfl (by kernel_rfl) (fun _ _ _ h => h) (Or.inl ⟨by rfl, ?_⟩) hHeld ?_ ?_
 rotate_left
 · rintro w' ⟨s0, s1, s2⟩
   go_simp
   with_reducible rfl
 rotate_left
 · simp only [Act.put, List.setIfInBounds_toArray, List.set_cons_zero, List.set_cons_succ, i64_w, i32_w]
   rfl
 refine take_ (i := 9) (N := some 28) (v := ?_) (a' := ?_) #[true, true, true, true, true, false, true, true, true, true, true, false, false, false] rfl rfl (by kernel_rfl) (fun _ _ _ h => h) (Or.inl ⟨by rfl, ?_⟩) hHeld ?_ ?_
 rotate_left
 · rintro w' ⟨s0, s1, s2⟩
   go_simp
   with_reducible rfl
 rotate_left
 · simp only [Act.put, List.setIfInBounds_toArray, List.set_cons_zero, List.set_cons_succ, i64_w, i32_w]
   rfl
 refine one_ (i := 5) (N := some 24) #[true, true, true, true, true, true, true, true, true, true, true, false, false, false] rfl rfl (by kernel_rfl) (by decide) (fun K hK => ?_)
 obtain ⟨h0, HA, HF⟩ := hHeld
 obtain ⟨P1, S1, H1⟩ := HA.out
 refine goes_ Try.func54 (by kernel_rfl) rfl #[.slice (some ⟨bP, 0, none⟩) m.length m.length, .int .i64 (i : Int)] (by rfl) rfl rfl (by simp only [List.map_toArray, List.map_cons, List.map_nil]; rfl) ?_
 with_reducible refine (root_calls bP m.length m.length i _ P1 m _ H1.par H1.rep hi rfl H1.small).mono ?_
 rintro e w3 ⟨rfl, hc⟩
 refine ⟨_, rfl, ?_⟩
 obtain ⟨Q, h1, h2⟩ := H1.climbed hc
 clear hc
 refine hK.out _ _ ⟨h1.cell0, ⟨⟨Q, S1, h1⟩⟩, ⟨HF.out.trans h2⟩⟩ (fun hHeld => ?_)
 clear hK K
 refine norm_ (a' := ?_) ?_ ?_
 rotate_left
 · show Act.put _ (some 24) _ = _
   simp only [Act.put, List.setIfInBounds_toArray, List.set_cons_zero, List.set_cons_succ, i64_w, i32_w]
   rfl
 refine one_ (i := 11) (N := some 30) #[true, true, true, true, true, true, true, true, true, true, true, true, false, false] rfl rfl (by kernel_rfl) (by decide) (fun K hK => ?_)
 obtain ⟨h0, HA, HF⟩ := hHeld
 obtain ⟨P1, S1, H1⟩ := HA.out
 refine goes_ Try.func54 (by kernel_rfl) rfl #[.slice (some ⟨bP, 0, none⟩) m.length m.length, .int .i64 (j : Int)] (by rfl) rfl rfl (by simp only [List.map_toArray, List.map_cons, List.map_nil]; rfl) ?_
 with_reducible refine (root_calls bP m.length m.length j _ P1 m _ H1.par H1.rep hj rfl H1.small).mono ?_
 rintro e w3 ⟨rfl, hc⟩
 refine ⟨_, rfl, ?_⟩
 obtain ⟨Q, h1, h2⟩ := H1.climbed hc
 clear hc
 refine hK.out _ _ ⟨h1.cell0, ⟨⟨Q, S1, h1⟩⟩, ⟨HF.out.trans h2⟩⟩ (fun hHeld => ?_)
 clear hK K
 refine norm_ (a' := ?_) ?_ ?_
 rotate_left
 · show Act.put _ (some 30) _ = _
   simp only [Act.put, List.setIfInBounds_toArray, List.set_cons_zero, List.set_cons_succ, i64_w, i32_w]
   rfl
 refine pure_ (i := 12) (N := some 7) (v := ?_) (a' := ?_) #[true, true, true, true, true, true, true, true, true, true, true, true, true, false] rfl rfl (by kernel_rfl) (fun _ _ _ h => h) (Or.inl ⟨by rfl, ?_⟩) ?_ ?_
 rotate_left
 · intro w'
   go_simp
   with_reducible rfl
 rotate_left
 · simp only [Act.put, List.setIfInBounds_toArray, List.set_cons_zero, List.set_cons_succ, i64_w, i32_w]
   rfl
 refine pure_ (i := 13) (N := some 8) (v := ?_) (a' := ?_) #[true, true, true, true, true, true, true, true, true, true, true, true, true, true] rfl rfl (by kernel_rfl) (fun _ _ _ h => h) (Or.inl ⟨by rfl, ?_⟩) ?_ ?_
 rotate_left
 · intro w'
   go_simp
   with_reducible rfl
 rotate_left
 · simp only [Act.put, List.setIfInBounds_toArray, List.set_cons_zero, List.set_cons_succ, i64_w, i32_w]
   rfl
 refine done_ (by kernel_rfl) ?_
 obtain ⟨h0, HA, HF⟩ := hHeld
 obtain ⟨P1, S1, H1⟩ := HA.out
 have H2 := Aside0.mk H1
 clear H1 HA H Q1 Q2
 have hf := blk_free H2.out.par (gt m i)
 have hol := nv_cell H2.out.par (i := gt m i) (by have := H2.out.rep.len; omega)
 have hpair := many_pair m (r := gt m j) (s := gt m i) (by omega)
 have HG := Aside0.mk (sets_glue H2.out.rep hhi hlt HL.out HH.out)
 have hsets := sets_le m
 go_wp2
 have M1 := Aside0.mk (H2.out.mid.setPar (gt m i) (gt m j))
 have hwr : IntKind.i64.wrap ((many m (gt m j) : Int) + (many m (gt m i) : Int)) = (many m (gt m j) : Int) + (many m (gt m i) : Int) := IntWalk.i64_in _ (by omega)
 refine start_ (n := 17) (S := fun w' => w'.cell? ⟨p, 1, none⟩ = some (.slice (some ⟨bS, 0, none⟩) m.length m.length) ∧ w'.cell? ⟨bS, gt m j, none⟩ = some (.int .i64 ((many m (gt m j) : Nat) : Int)) ∧ w'.cell? ⟨bS, gt m i, none⟩ = some (.int .i64 ((many m (gt m i) : Nat) : Int)) ∧ w'.frozen? ⟨bS, gt m j, none⟩ = false) (ds := [16]) #[false, false, false, false, false, false, false, false, false, false, false, false, false, false, false, false, false] (by kernel_rfl) rfl rfl ⟨M1.out.drew.cell1, by rw [nv_cell M1.out.drew.siz (by have := H2.out.sized.len; omega), H2.out.sized.size _ hlo HL.out], by rw [nv_cell M1.out.drew.siz (by have := H2.out.sized.len; omega), H2.out.sized.size _ hhi HH.out], blk_free M1.out.drew.siz _⟩ (fun hHeld => ?_)
 refine pure_ (i := 0) (N := some 47) (v := ?_) (a' := ?_) #[true, false, false, false, false, false, false, false, false, false, false, false, false, false, false, false, false] rfl rfl (by kernel_rfl) (fun _ _ _ h => h) (Or.inl ⟨by rfl, ?_⟩) ?_ ?_
 rotate_left
 · intro w'
   go_simp
   with_reducible rfl
 rotate_left
 · simp only [Act.put, List.setIfInBounds_toArray, List.set_cons_zero, List.set_cons_succ, i64_w, i32_w]
   rfl
 refine pure_ (i := 1) (N := some 48) (v := ?_) (a' := ?_) #[true, true, false, false, false, false, false, false, false, false, false, false, false, false, false, false, false] rfl rfl (by kernel_rfl) (fun _ _ _ h => h) (Or.inl ⟨by rfl, ?_⟩) ?_ ?_
 rotate_left
 · intro w'
   go_simp
   with_reducible rfl
 rotate_left
 · simp only [Act.put, List.setIfInBounds_toArray, List.set_cons_zero, List.set_cons_succ, i64_w, i32_w]
   rfl
 refine pure_ (i := 2) (N := some 49) (v := ?_) (a' := ?_) #[true, true, true, false, false, false, false, false, false, false, false, false, false, false, false, false, false] rfl rfl (by kernel_rfl) (fun _ _ _ h => h) (Or.inl ⟨by rfl, ?_⟩) ?_ ?_
 rotate_left
 · intro w'
   go_simp
   with_reducible rfl
 rotate_left
 · simp only [Act.put, List.setIfInBounds_toArray, List.set_cons_zero, List.set_cons_succ, i64_w, i32_w]
   rfl
 refine pure_ (i := 4) (N := some 51) (v := ?_) (a' := ?_) #[true, true, true, false, true, false, false, false, false, false, false, false, false, false, false, false, false] rfl rfl (by kernel_rfl) (fun _ _ _ h => h) (Or.inl ⟨by rfl, ?_⟩) ?_ ?_
 rotate_left
 · intro w'
   go_simp
   with_reducible rfl
 rotate_left
 · simp only [Act.put, List.setIfInBounds_toArray, List.set_cons_zero, List.set_cons_succ, i64_w, i32_w]
   rfl
 refine pure_ (i := 7) (N := some 54) (v := ?_) (a' := ?_) #[true, true, true, false, true, false, false, true, false, false, false, false, false, false, false, false, false] rfl rfl (by kernel_rfl) (fun _ _ _ h => h) (Or.inl ⟨by rfl, ?_⟩) ?_ ?_
 rotate_left
 · intro w'
   go_simp
   with_reducible rfl
 rotate_left
 · simp only [Act.put, List.setIfInBounds_toArray, List.set_cons_zero, List.set_cons_succ, i64_w, i32_w]
   rfl
 refine pure_ (i := 8) (N := some 55) (v := ?_) (a' := ?_) #[true, true, true, false, true, false, false, true, true, false, false, false, false, false, false, false, false] rfl rfl (by kernel_rfl) (fun _ _ _ h => h) (Or.inl ⟨by rfl, ?_⟩) ?_ ?_
 rotate_left
 · intro w'
   go_simp
   with_reducible rfl
 rotate_left
 · simp only [Act.put, List.setIfInBounds_toArray, List.set_cons_zero, List.set_cons_succ, i64_w, i32_w]
   rfl
 refine pure_ (i := 9) (N := some 56) (v := ?_) (a' := ?_) #[true, true, true, false, true, false, false, true, true, true, false, false, false, false, false, false, false] rfl rfl (by kernel_rfl) (fun _ _ _ h => h) (Or.inl ⟨by rfl, ?_⟩) ?_ ?_
 rotate_left
 · intro w'
   go_simp
   with_reducible rfl
 rotate_left
 · simp only [Act.put, List.setIfInBounds_toArray, List.set_cons_zero, List.set_cons_succ, i64_w, i32_w]
   rfl
 refine pure_ (i := 11) (N := some 58) (v := ?_) (a' := ?_) #[true, true, true, false, true, false, false, true, true, true, false, true, false, false, false, false, false] rfl rfl (by kernel_rfl) (fun _ _ _ h => h) (Or.inl ⟨by rfl, ?_⟩) ?_ ?_
 rotate_left
 · intro w'
   go_simp
   with_reducible rfl
 rotate_left
 · simp only [Act.put, List.setIfInBounds_toArray, List.set_cons_zero, List.set_cons_succ, i64_w, i32_w]
   rfl
 refine take_ (i := 3) (N := some 50) (v := ?_) (a' := ?_) #[true, true, true, true, true, false, false, true, true, true, false, true, false, false, false, false, false] rfl rfl (by kernel_rfl) (fun _ _ _ h => h) (Or.inl ⟨by rfl, ?_⟩) hHeld ?_ ?_
 rotate_left
 · rintro w' ⟨s0, s1, s2, s3⟩
   go_simp
   with_reducible rfl
 rotate_left
 · simp only [Act.put, List.setIfInBounds_toArray, List.set_cons_zero, List.set_cons_succ, i64_w, i32_w]
   rfl
 refine pure_ (i := 5) (N := some 52) (v := ?_) (a' := ?_) #[true, true, true, true, true, true, false, true, true, true, false, true, false, false, false, false, false] rfl rfl (by kernel_rfl) (fun _ _ _ h => h) (Or.inl ⟨by rfl, ?_⟩) ?_ ?_
 rotate_left
 · intro w'
   go_simp
   with_reducible rfl
 rotate_left
 · simp only [Act.put, List.setIfInBounds_toArray, List.set_cons_zero, List.set_cons_succ, i64_w, i32_w]
   rfl
 refine take_ (i := 6) (N := some 53) (v := ?_) (a' := ?_) #[true, true, true, true, true, true, true, true, true, true, false, true, false, false, false, false, false] rfl rfl (by kernel_rfl) (fun _ _ _ h => h) (Or.inl ⟨by rfl, ?_⟩) hHeld ?_ ?_
 rotate_left
 · rintro w' ⟨s0, s1, s2, s3⟩
   go_simp
   with_reducible rfl
 rotate_left
 · simp only [Act.put, List.setIfInBounds_toArray, List.set_cons_zero, List.set_cons_succ, i64_w, i32_w]
   rfl
 refine take_ (i := 10) (N := some 57) (v := ?_) (a' := ?_) #[true, true, true, true, true, true, true, true, true, true, true, true, false, false, false, false, false] rfl rfl (by kernel_rfl) (fun _ _ _ h => h) (Or.inl ⟨by rfl, ?_⟩) hHeld ?_ ?_
 rotate_left
 · rintro w' ⟨s0, s1, s2, s3⟩
   go_simp
   with_reducible rfl
 rotate_left
 · simp only [Act.put, List.setIfInBounds_toArray, List.set_cons_zero, List.set_cons_succ, i64_w, i32_w]
   rfl
 refine pure_ (i := 12) (N := some 59) (v := ?_) (a' := ?_) #[true, true, true, true, true, true, true, true, true, true, true, true, true, false, false, false, false] rfl rfl (by kernel_rfl) (fun _ _ _ h => h) (Or.inl ⟨by rfl, ?_⟩) ?_ ?_
 rotate_left
 · intro w'
   go_simp
   with_reducible rfl
 rotate_left
 · simp only [Act.put, List.setIfInBounds_toArray, List.set_cons_zero, List.set_cons_succ, i64_w, i32_w]
   rfl
 refine take_ (i := 13) (N := some 60) (v := ?_) (a' := ?_) #[true, true, true, true, true, true, true, true, true, true, true, true, true, true, false, false, false] rfl rfl (by kernel_rfl) (fun _ _ _ h => h) (Or.inl ⟨by rfl, ?_⟩) hHeld ?_ ?_
 rotate_left
 · rintro w' ⟨s0, s1, s2, s3⟩
   go_simp
   with_reducible rfl
 rotate_left
 · simp only [Act.put, List.setIfInBounds_toArray, List.set_cons_zero, List.set_cons_succ, i64_w, i32_w]
   rfl
 refine pure_ (i := 14) (N := some 61) (v := ?_) (a' := ?_) #[true, true, true, true, true, true, true, true, true, true, true, true, true, true, true, false, false] rfl rfl (by kernel_rfl) (fun _ _ _ h => h) (Or.inl ⟨by rfl, ?_⟩) ?_ ?_
 rotate_left
 · intro w'
   go_simp
   with_reducible rfl
 rotate_left
 · simp only [Act.put, List.setIfInBounds_toArray, List.set_cons_zero, List.set_cons_succ, i64_w, i32_w]
   rfl
 refine pure_ (i := 15) (N := some 62) (v := ?_) (a' := ?_) #[true, true, true, true, true, true, true, true, true, true, true, true, true, true, true, true, false] rfl rfl (by kernel_rfl) (fun _ _ _ h => h) (Or.inl ⟨by rfl, ?_⟩) ?_ ?_
 rotate_left
 · intro w'
   go_simp
   with_reducible rfl
 rotate_left
 · simp only [Act.put, List.setIfInBounds_toArray, List.set_cons_zero, List.set_cons_succ, i64_w, i32_w]
   rfl
 refine last_ (i := 16) (N := none) #[true, true, true, true, true, true, true, true, true, true, true, true, true, true, true, true, true] rfl rfl (by kernel_rfl) (by decide) (fun K hK => ?_)
 obtain ⟨h3, h4, h5, h6⟩ := hHeld
 refine skip_ (w1 := ?_) (by rfl) rfl ?_ ?_
 rotate_left
 · go_simp
   rfl
 refine hK.out _ _ ?_
 clear hK K
 refine done_ (by kernel_rfl) ?_
 have M2 := Aside0.mk (M1.out.setSiz (gt m j) (many m (gt m j) + many m (gt m i))).drew
 clear hwr
 have e3 : (many m (gt m j) : Int) + (many m (gt m i) : Int) = ((many m (gt m j) + many m (gt m i) : Nat) : Int) := by omega
 rw [e3]
 have F2 := Aside0.mk (((HF.out.setCell (p := ⟨bP, gt m i, none⟩) (.inr (.inl rfl)) (.int .i64 ((gt m j : Nat) : Int)))).setCell (p := ⟨bS, gt m j, none⟩) (.inr (.inr rfl)) (.int .i64 ((many m (gt m j) + many m (gt m i) : Nat) : Int))).drew
 generalize (((w3.setCell ⟨bP, gt m i, none⟩ (.int .i64 ((gt m j : Nat) : Int)))).setCell ⟨bS, gt m j, none⟩ (.int .i64 ((many m (gt m j) + many m (gt m i) : Nat) : Int))).drew = w5 at M2 F2 ⊢
 clear e3
 have h9 := M2.out.cell2
 have h10 := blk_free M2.out.obj 2
 go_wp2
 go_ret
 have hg := HG.out
 have e4 : (sets m : Int) - 1 = ((sets (glue (gt m j) (gt m i) m) : Nat) : Int) := by omega
 have M3 := M2.out.setCount (sets (glue (gt m j) (gt m i) m))
 rw [← e4] at M3
 refine ⟨rfl, ⟨_, _, ⟨?_, M3.par, M3.siz, M3.ne1, M3.ne2, M3.ne3, ?_, H2.out.rep.glue hhi hlt HL.out HH.out, ?_⟩⟩, ?_⟩
 · rw [glue_length]; exact M3.obj
 · rw [glue_length]; exact hsm
 · have := H2.out.sized.glue hhi hlt HL.out HH.out
   rwa [H2.out.sized.size _ hlo HL.out, H2.out.sized.size _ hhi HH.out] at this
 · exact F2.out.setCell (p := ⟨p, 2, none⟩) (.inl rfl) _
theorem join_calls (p bP bS : Nat) (m P S : List Nat) (a b : Int) (w : World) (h : AtPS w p bP bS m P S) :
   Calls Try.prog 37 #[.pointer (some ⟨p, 0, none⟩), .int .i64 a, .int .i64 b] w fun e w' => e = .returned (.bool (joinOf m a b).2) ∧ Now p bP bS (joinOf m a b).1 w w' := by
 cases hk : ok m a && ok m b
 · exact join_no p bP bS m P S a b w h hk
 · rw [Bool.and_eq_true] at hk
   obtain ⟨i, rfl, hi⟩ := ok_nat hk.1
   obtain ⟨j, rfl, hj⟩ := ok_nat hk.2
   rcases Nat.lt_trichotomy (gt m i) (gt m j) with hlt | heq | hgt
   · have e : joinOf m i j = (glue (gt m i) (gt m j) m, true) := by
       unfold joinOf
       rw [if_pos (by simp [hk.1, hk.2]; omega)]
       simp only [Int.toNat_natCast]
       rw [Nat.min_eq_left (by omega), Nat.max_eq_right (by omega)]
     rw [e]; exact join_lt p bP bS m P S i j w h hi hj hlt
   · exact join_same p bP bS m P S i j w h hi hj heq
   · have e : joinOf m i j = (glue (gt m j) (gt m i) m, true) := by
       unfold joinOf
       rw [if_pos (by simp [hk.1, hk.2]; omega)]
       simp only [Int.toNat_natCast]
       rw [Nat.min_eq_right (by omega), Nat.max_eq_left (by omega)]
     rw [e]; exact join_gt p bP bS m P S i j w h hi hj hgt
end Go.Proofs.Ytmikcfddipldnaa.Sets
namespace Go.Proofs.Ytmikcfddipldnaa.Sets
open Go.RowKit Go.Proofs.YtmikcfddipldnaaW.PrintWords Go.Proofs.YtmikcfddipldnaaW.PrintLast Go.Proofs.YtmikcfddipldnaaW.PrintMore
set_option linter.unusedVariables false
set_option linter.unusedSimpArgs false
theorem info_int : (Try.prog.info? 3).map (fun i => (i.zero, i.size, i.bytes)) = some (some (.int .i64 0), 1, 8) := by kernel_rfl
theorem made_nv (n : Nat) : madeCells #[.int .i64 0] n = nv (List.replicate n 0) := by
 apply Array.ext
 · simp [madeCells, nv]
 · intro i h1 h2
   simp [madeCells, nv, Nat.mod_one]
theorem heap_last (w : World) (o : Obj) : (w.alloc o).heap[w.heap.size]? = some o := by
 show (w.heap.push o)[w.heap.size]? = _
 simp
theorem heap_old {w : World} {k : Nat} {o : Obj} (h : w.heap[k]? = some o) (o' : Obj) : (w.alloc o').heap[k]? = some o := by
 rw [Below.heap_alloc _ _ _ (blk_lt h)]; exact h
def upTo (k n : Nat) : List Nat := List.range k ++ List.replicate (n - k) 0
def onesTo (k n : Nat) : List Nat := List.replicate k 1 ++ List.replicate (n - k) 0
theorem upTo_zero (n : Nat) : upTo 0 n = List.replicate n 0 := by simp [upTo]
theorem onesTo_zero (n : Nat) : onesTo 0 n = List.replicate n 0 := by simp [onesTo]
theorem upTo_self (n : Nat) : upTo n n = List.range n := by simp [upTo]
theorem onesTo_self (n : Nat) : onesTo n n = List.replicate n 1 := by simp [onesTo]
theorem upTo_length {k n : Nat} (h : k ≤ n) : (upTo k n).length = n := by simp [upTo]; omega
theorem onesTo_length {k n : Nat} (h : k ≤ n) : (onesTo k n).length = n := by simp [onesTo]; omega
theorem set_end {α : Type} (l : List α) (z x : α) (k n : Nat) (hl : l.length = k) (h : k < n) : (l ++ List.replicate (n - k) z).set k x = l ++ [x] ++ List.replicate (n - (k + 1)) z := by
 obtain ⟨d, hd⟩ : ∃ d, n - k = d + 1 := ⟨n - k - 1, by omega⟩
 have hd2 : n - (k + 1) = d := by omega
 rw [hd, hd2, List.replicate_succ, List.set_append_right _ _ (by omega), hl, Nat.sub_self, List.set_cons_zero, List.append_assoc]; rfl
theorem upTo_set {k n : Nat} (h : k < n) : (upTo k n).set k k = upTo (k + 1) n := by
 unfold upTo; rw [set_end _ _ _ _ _ (by simp) h, List.range_succ]
theorem onesTo_set {k n : Nat} (h : k < n) : (onesTo k n).set k 1 = onesTo (k + 1) n := by
 unfold onesTo; rw [set_end _ _ _ _ _ (by simp) h, List.replicate_succ']
theorem new_start (w : World) (n x y : Nat) (hxy : (x = w.heap.size ∧ y = w.heap.size + 1) ∨ (x = w.heap.size + 1 ∧ y = w.heap.size)) :
   MidPS (((w.alloc (.cells (madeCells #[.int .i64 0] n) 3 (0, 0))).alloc (.cells (madeCells #[.int .i64 0] n) 3 (0, 0))).alloc (.cells #[.slice (some ⟨x, 0, none⟩) n n, .slice (some ⟨y, 0, none⟩) n n, .int .i64 (n : Int)] 86 (0, 0))).drew (w.heap.size + 1 + 1) x y n (upTo 0 n) (onesTo 0 n) n ∧
   Below w.heap.size w (((w.alloc (.cells (madeCells #[.int .i64 0] n) 3 (0, 0))).alloc (.cells (madeCells #[.int .i64 0] n) 3 (0, 0))).alloc (.cells #[.slice (some ⟨x, 0, none⟩) n n, .slice (some ⟨y, 0, none⟩) n n, .int .i64 (n : Int)] 86 (0, 0))).drew := by
 rw [upTo_zero, onesTo_zero]
 have e1 := heap_last w (.cells (nv (List.replicate n 0)) 3 (0, 0))
 have e2 := heap_last (w.alloc (.cells (nv (List.replicate n 0)) 3 (0, 0))) (.cells (nv (List.replicate n 0)) 3 (0, 0))
 rw [made_nv]
 have e3 := heap_last ((w.alloc (.cells (nv (List.replicate n 0)) 3 (0, 0))).alloc (.cells (nv (List.replicate n 0)) 3 (0, 0))) (.cells #[.slice (some ⟨x, 0, none⟩) n n, .slice (some ⟨y, 0, none⟩) n n, .int .i64 (n : Int)] 86 (0, 0))
 have s1 : (w.alloc (.cells (nv (List.replicate n 0)) 3 (0, 0))).heap.size = w.heap.size + 1 := by simp
 have s2 : ((w.alloc (.cells (nv (List.replicate n 0)) 3 (0, 0))).alloc (.cells (nv (List.replicate n 0)) 3 (0, 0))).heap.size = w.heap.size + 1 + 1 := by simp
 rw [s1] at e2
 rw [s2] at e3
 refine ⟨⟨e3, ?_, ?_, by omega, by omega, by omega⟩, ?_⟩
 · rcases hxy with ⟨rfl, rfl⟩ | ⟨rfl, rfl⟩
   · exact heap_old (heap_old e1 _) _
   · exact heap_old e2 _
 · rcases hxy with ⟨rfl, rfl⟩ | ⟨rfl, rfl⟩
   · exact heap_old e2 _
   · exact heap_old (heap_old e1 _) _
 · exact ((((Below.refl _ _).alloc (Nat.le_refl _) _).alloc (by omega) _).alloc (by omega) _).drew
set_option maxHeartbeats 1000000 in
set_option maxRecDepth 100000 in
theorem new_yes (n : Nat) (w : World) (h : n ≤ 1048576) :
   Calls Try.prog 36 #[.int .i64 (n : Int)] w fun e w' => ∃ p bP bS, e = .returned (.tuple #[.pointer (some ⟨p, 0, none⟩), .int .i64 0]) ∧ w.heap.size ≤ p ∧ w.heap.size ≤ bP ∧ w.heap.size ≤ bS ∧ At w' p bP bS (List.range n) ∧ Below w.heap.size w w' := by
 have h0 : ¬ (n : Int) < 0 := by omega
 have h1 : ¬ (n : Int) > 1048576 := by omega
 have hle : (n : Int) ≤ 1048576 := by omega
 have mk1 := print_make (P := Try.prog) 84 3 .i64 8 Try.underlying84 info_int (by decide) n (by omega)
 have mk2 := print_make (P := Try.prog) 36 3 .i64 8 Try.underlying36 info_int (by decide) n (by omega)
 go_enter Try.func36, Try.ntmps36
 go_wp2
 go_region
 · obtain ⟨M0, F0⟩ := new_start w n (w.heap.size) (w.heap.size + 1) (.inl ⟨rfl, rfl⟩)
   generalize (((w.alloc (.cells (madeCells #[.int .i64 0] n) 3 (0, 0))).alloc (.cells (madeCells #[.int .i64 0] n) 3 (0, 0))).alloc (.cells #[.slice (some ⟨w.heap.size, 0, none⟩) n n, .slice (some ⟨w.heap.size + 1, 0, none⟩) n n, .int .i64 (n : Int)] 86 (0, 0))).drew = w1 at M0 F0 ⊢
   have M := Aside0.mk M0
   have F := Aside0.mk F0
   clear M0 F0 mk1 mk2
   go_wp2
   go_loopw [20] (fun v wr => ∃ i : Nat, v = .int .i64 (i : Int) ∧ i ≤ n ∧ Aside0 (MidPS wr (w.heap.size + 1 + 1) (w.heap.size) (w.heap.size + 1) n (upTo i n) (onesTo i n) n) ∧ Aside0 (Below w.heap.size w wr)) (fun v _ => n - (intOf v).toNat)
   case atStart => exact ⟨0, rfl, by omega, M, F⟩
   case round =>
     clear M F
     obtain ⟨i, rfl, hi, M, F⟩ := hrel
     by_cases hlt : i < n
     · have hlen := upTo_length hi
       have hlen2 := onesTo_length hi
       have M1 := Aside0.mk (M.out.setPar i i)
       have c1 := nv_cell M.out.par (i := i) (by omega)
       have f1 := blk_free M.out.par i
       have c2 := nv_cell M1.out.siz (i := i) (by omega)
       have f2 := blk_free M1.out.siz i
       have HL := Aside0.mk hlen
       have HL2 := Aside0.mk hlen2
       clear hlen hlen2
       go_wp2
       refine start_ (n := 15) (S := fun w' => w'.cell? ⟨w.heap.size + 1 + 1, 0, none⟩ = some (.slice (some ⟨w.heap.size, 0, none⟩) n n) ∧ w'.cell? ⟨w.heap.size + 1 + 1, 1, none⟩ = some (.slice (some ⟨w.heap.size + 1, 0, none⟩) n n)) (ds := [12, 14]) #[false, false, false, false, false, false, false, false, false, false, false, false, false, false, false] (by kernel_rfl) rfl rfl ⟨M.out.drew.cell0, M.out.drew.cell1⟩ (fun hHeld => ?_)
       refine pure_ (i := 0) (N := some 23) (v := ?_) (a' := ?_) #[true, false, false, false, false, false, false, false, false, false, false, false, false, false, false] rfl rfl (by kernel_rfl) (fun _ _ _ h => h) (Or.inl ⟨by rfl, ?_⟩) ?_ ?_
       rotate_left
       · intro w'
         go_simp
         with_reducible rfl
       rotate_left
       · simp only [Act.put, List.setIfInBounds_toArray, List.set_cons_zero, List.set_cons_succ, i64_w, i32_w]
         rfl
       refine pure_ (i := 1) (N := some 24) (v := ?_) (a' := ?_) #[true, true, false, false, false, false, false, false, false, false, false, false, false, false, false] rfl rfl (by kernel_rfl) (fun _ _ _ h => h) (Or.inl ⟨by rfl, ?_⟩) ?_ ?_
       rotate_left
       · intro w'
         go_simp
         with_reducible rfl
       rotate_left
       · simp only [Act.put, List.setIfInBounds_toArray, List.set_cons_zero, List.set_cons_succ, i64_w, i32_w]
         rfl
       refine pure_ (i := 2) (N := some 25) (v := ?_) (a' := ?_) #[true, true, true, false, false, false, false, false, false, false, false, false, false, false, false] rfl rfl (by kernel_rfl) (fun _ _ _ h => h) (Or.inl ⟨by rfl, ?_⟩) ?_ ?_
       rotate_left
       · intro w'
         go_simp
         with_reducible rfl
       rotate_left
       · simp only [Act.put, List.setIfInBounds_toArray, List.set_cons_zero, List.set_cons_succ, i64_w, i32_w]
         rfl
       refine pure_ (i := 4) (N := some 27) (v := ?_) (a' := ?_) #[true, true, true, false, true, false, false, false, false, false, false, false, false, false, false] rfl rfl (by kernel_rfl) (fun _ _ _ h => h) (Or.inl ⟨by rfl, ?_⟩) ?_ ?_
       rotate_left
       · intro w'
         go_simp
         with_reducible rfl
       rotate_left
       · simp only [Act.put, List.setIfInBounds_toArray, List.set_cons_zero, List.set_cons_succ, i64_w, i32_w]
         rfl
       refine pure_ (i := 5) (N := some 28) (v := ?_) (a' := ?_) #[true, true, true, false, true, true, false, false, false, false, false, false, false, false, false] rfl rfl (by kernel_rfl) (fun _ _ _ h => h) (Or.inl ⟨by rfl, ?_⟩) ?_ ?_
       rotate_left
       · intro w'
         go_simp
         with_reducible rfl
       rotate_left
       · simp only [Act.put, List.setIfInBounds_toArray, List.set_cons_zero, List.set_cons_succ, i64_w, i32_w]
         rfl
       refine pure_ (i := 6) (N := some 29) (v := ?_) (a' := ?_) #[true, true, true, false, true, true, true, false, false, false, false, false, false, false, false] rfl rfl (by kernel_rfl) (fun _ _ _ h => h) (Or.inl ⟨by rfl, ?_⟩) ?_ ?_
       rotate_left
       · intro w'
         go_simp
         with_reducible rfl
       rotate_left
       · simp only [Act.put, List.setIfInBounds_toArray, List.set_cons_zero, List.set_cons_succ, i64_w, i32_w]
         rfl
       refine pure_ (i := 7) (N := some 30) (v := ?_) (a' := ?_) #[true, true, true, false, true, true, true, true, false, false, false, false, false, false, false] rfl rfl (by kernel_rfl) (fun _ _ _ h => h) (Or.inl ⟨by rfl, ?_⟩) ?_ ?_
       rotate_left
       · intro w'
         go_simp
         with_reducible rfl
       rotate_left
       · simp only [Act.put, List.setIfInBounds_toArray, List.set_cons_zero, List.set_cons_succ, i64_w, i32_w]
         rfl
       refine pure_ (i := 9) (N := some 32) (v := ?_) (a' := ?_) #[true, true, true, false, true, true, true, true, false, true, false, false, false, false, false] rfl rfl (by kernel_rfl) (fun _ _ _ h => h) (Or.inl ⟨by rfl, ?_⟩) ?_ ?_
       rotate_left
       · intro w'
         go_simp
         with_reducible rfl
       rotate_left
       · simp only [Act.put, List.setIfInBounds_toArray, List.set_cons_zero, List.set_cons_succ, i64_w, i32_w]
         rfl
       refine pure_ (i := 10) (N := some 33) (v := ?_) (a' := ?_) #[true, true, true, false, true, true, true, true, false, true, true, false, false, false, false] rfl rfl (by kernel_rfl) (fun _ _ _ h => h) (Or.inl ⟨by rfl, ?_⟩) ?_ ?_
       rotate_left
       · intro w'
         go_simp
         with_reducible rfl
       rotate_left
       · simp only [Act.put, List.setIfInBounds_toArray, List.set_cons_zero, List.set_cons_succ, i64_w, i32_w]
         rfl
       refine take_ (i := 3) (N := some 26) (v := ?_) (a' := ?_) #[true, true, true, true, true, true, true, true, false, true, true, false, false, false, false] rfl rfl (by kernel_rfl) (fun _ _ _ h => h) (Or.inl ⟨by rfl, ?_⟩) hHeld ?_ ?_
       rotate_left
       · rintro w' ⟨s0, s1⟩
         go_simp
         with_reducible rfl
       rotate_left
       · simp only [Act.put, List.setIfInBounds_toArray, List.set_cons_zero, List.set_cons_succ, i64_w, i32_w]
         rfl
       refine take_ (i := 8) (N := some 31) (v := ?_) (a' := ?_) #[true, true, true, true, true, true, true, true, true, true, true, false, false, false, false] rfl rfl (by kernel_rfl) (fun _ _ _ h => h) (Or.inl ⟨by rfl, ?_⟩) hHeld ?_ ?_
       rotate_left
       · rintro w' ⟨s0, s1⟩
         go_simp
         with_reducible rfl
       rotate_left
       · simp only [Act.put, List.setIfInBounds_toArray, List.set_cons_zero, List.set_cons_succ, i64_w, i32_w]
         rfl
       refine pure_ (i := 11) (N := some 34) (v := ?_) (a' := ?_) #[true, true, true, true, true, true, true, true, true, true, true, true, false, false, false] rfl rfl (by kernel_rfl) (fun _ _ _ h => h) (Or.inl ⟨by rfl, ?_⟩) ?_ ?_
       rotate_left
       · intro w'
         go_simp
         with_reducible rfl
       rotate_left
       · simp only [Act.put, List.setIfInBounds_toArray, List.set_cons_zero, List.set_cons_succ, i64_w, i32_w]
         rfl
       refine last_ (i := 12) (N := none) #[true, true, true, true, true, true, true, true, true, true, true, true, true, false, false] rfl rfl (by kernel_rfl) (by decide) (fun K hK => ?_)
       refine skip_ (w1 := ?_) (by rfl) rfl ?_ ?_
       rotate_left
       · go_simp
         rfl
       refine hK.out _ _ ?_
       clear hK K
       refine pure_ (i := 13) (N := some 35) (v := ?_) (a' := ?_) #[true, true, true, true, true, true, true, true, true, true, true, true, true, true, false] rfl rfl (by kernel_rfl) (fun _ _ _ h => h) (Or.inl ⟨by rfl, ?_⟩) ?_ ?_
       rotate_left
       · intro w'
         go_simp
         with_reducible rfl
       rotate_left
       · simp only [Act.put, List.setIfInBounds_toArray, List.set_cons_zero, List.set_cons_succ, i64_w, i32_w]
         rfl
       refine last_ (i := 14) (N := none) #[true, true, true, true, true, true, true, true, true, true, true, true, true, true, true] rfl rfl (by kernel_rfl) (by decide) (fun K hK => ?_)
       refine skip_ (w1 := ?_) (by rfl) rfl ?_ ?_
       rotate_left
       · go_simp
         rfl
       refine hK.out _ _ ?_
       clear hK K
       refine done_ (by kernel_rfl) ?_
       go_wp2
       go_roundw
       case rel =>
         refine ⟨i + 1, by go_num, by omega, ⟨?_⟩, ⟨((F.out.setCell (p := ⟨w.heap.size, i, none⟩) (by simp) _).setCell (p := ⟨w.heap.size + 1, i, none⟩) (by simp) _).drew⟩⟩
         have h2 := (M1.out.setSiz i 1).drew
         rw [upTo_set hlt, onesTo_set hlt] at h2
         exact h2
       case measure => simp [intOf]; omega
     · obtain rfl : i = n := by omega
       go_wp2
       go_ret2
       have h2 := M.out
       rw [upTo_self, onesTo_self] at h2
       refine ⟨_, _, _, rfl, by omega, ?_, ?_, ⟨List.range i, List.replicate i 1, ⟨?_, h2.par, h2.siz, h2.ne1, h2.ne2, h2.ne3, ?_, Rep.range i, Sized.ones i⟩⟩, F.out⟩
       · exact Nat.le_refl _
       · omega
       · rw [List.length_range, sets_range]; exact h2.obj
       · rw [List.length_range]; exact h
 · obtain ⟨M0, F0⟩ := new_start w n (w.heap.size + 1) (w.heap.size) (.inr ⟨rfl, rfl⟩)
   generalize (((w.alloc (.cells (madeCells #[.int .i64 0] n) 3 (0, 0))).alloc (.cells (madeCells #[.int .i64 0] n) 3 (0, 0))).alloc (.cells #[.slice (some ⟨w.heap.size + 1, 0, none⟩) n n, .slice (some ⟨w.heap.size, 0, none⟩) n n, .int .i64 (n : Int)] 86 (0, 0))).drew = w1 at M0 F0 ⊢
   have M := Aside0.mk M0
   have F := Aside0.mk F0
   clear M0 F0 mk1 mk2
   go_wp2
   go_loopw [20] (fun v wr => ∃ i : Nat, v = .int .i64 (i : Int) ∧ i ≤ n ∧ Aside0 (MidPS wr (w.heap.size + 1 + 1) (w.heap.size + 1) (w.heap.size) n (upTo i n) (onesTo i n) n) ∧ Aside0 (Below w.heap.size w wr)) (fun v _ => n - (intOf v).toNat)
   case atStart => exact ⟨0, rfl, by omega, M, F⟩
   case round =>
     clear M F
     obtain ⟨i, rfl, hi, M, F⟩ := hrel
     by_cases hlt : i < n
     · have hlen := upTo_length hi
       have hlen2 := onesTo_length hi
       have M1 := Aside0.mk (M.out.setPar i i)
       have c1 := nv_cell M.out.par (i := i) (by omega)
       have f1 := blk_free M.out.par i
       have c2 := nv_cell M1.out.siz (i := i) (by omega)
       have f2 := blk_free M1.out.siz i
       have HL := Aside0.mk hlen
       have HL2 := Aside0.mk hlen2
       clear hlen hlen2
       go_wp2
       refine start_ (n := 15) (S := fun w' => w'.cell? ⟨w.heap.size + 1 + 1, 0, none⟩ = some (.slice (some ⟨w.heap.size + 1, 0, none⟩) n n) ∧ w'.cell? ⟨w.heap.size + 1 + 1, 1, none⟩ = some (.slice (some ⟨w.heap.size, 0, none⟩) n n)) (ds := [12, 14]) #[false, false, false, false, false, false, false, false, false, false, false, false, false, false, false] (by kernel_rfl) rfl rfl ⟨M.out.drew.cell0, M.out.drew.cell1⟩ (fun hHeld => ?_)
       refine pure_ (i := 0) (N := some 23) (v := ?_) (a' := ?_) #[true, false, false, false, false, false, false, false, false, false, false, false, false, false, false] rfl rfl (by kernel_rfl) (fun _ _ _ h => h) (Or.inl ⟨by rfl, ?_⟩) ?_ ?_
       rotate_left
       · intro w'
         go_simp
         with_reducible rfl
       rotate_left
       · simp only [Act.put, List.setIfInBounds_toArray, List.set_cons_zero, List.set_cons_succ, i64_w, i32_w]
         rfl
       refine pure_ (i := 1) (N := some 24) (v := ?_) (a' := ?_) #[true, true, false, false, false, false, false, false, false, false, false, false, false, false, false] rfl rfl (by kernel_rfl) (fun _ _ _ h => h) (Or.inl ⟨by rfl, ?_⟩) ?_ ?_
       rotate_left
       · intro w'
         go_simp
         with_reducible rfl
       rotate_left
       · simp only [Act.put, List.setIfInBounds_toArray, List.set_cons_zero, List.set_cons_succ, i64_w, i32_w]
         rfl
       refine pure_ (i := 2) (N := some 25) (v := ?_) (a' := ?_) #[true, true, true, false, false, false, false, false, false, false, false, false, false, false, false] rfl rfl (by kernel_rfl) (fun _ _ _ h => h) (Or.inl ⟨by rfl, ?_⟩) ?_ ?_
       rotate_left
       · intro w'
         go_simp
         with_reducible rfl
       rotate_left
       · simp only [Act.put, List.setIfInBounds_toArray, List.set_cons_zero, List.set_cons_succ, i64_w, i32_w]
         rfl
       refine pure_ (i := 4) (N := some 27) (v := ?_) (a' := ?_) #[true, true, true, false, true, false, false, false, false, false, false, false, false, false, false] rfl rfl (by kernel_rfl) (fun _ _ _ h => h) (Or.inl ⟨by rfl, ?_⟩) ?_ ?_
       rotate_left
       · intro w'
         go_simp
         with_reducible rfl
       rotate_left
       · simp only [Act.put, List.setIfInBounds_toArray, List.set_cons_zero, List.set_cons_succ, i64_w, i32_w]
         rfl
       refine pure_ (i := 5) (N := some 28) (v := ?_) (a' := ?_) #[true, true, true, false, true, true, false, false, false, false, false, false, false, false, false] rfl rfl (by kernel_rfl) (fun _ _ _ h => h) (Or.inl ⟨by rfl, ?_⟩) ?_ ?_
       rotate_left
       · intro w'
         go_simp
         with_reducible rfl
       rotate_left
       · simp only [Act.put, List.setIfInBounds_toArray, List.set_cons_zero, List.set_cons_succ, i64_w, i32_w]
         rfl
       refine pure_ (i := 6) (N := some 29) (v := ?_) (a' := ?_) #[true, true, true, false, true, true, true, false, false, false, false, false, false, false, false] rfl rfl (by kernel_rfl) (fun _ _ _ h => h) (Or.inl ⟨by rfl, ?_⟩) ?_ ?_
       rotate_left
       · intro w'
         go_simp
         with_reducible rfl
       rotate_left
       · simp only [Act.put, List.setIfInBounds_toArray, List.set_cons_zero, List.set_cons_succ, i64_w, i32_w]
         rfl
       refine pure_ (i := 7) (N := some 30) (v := ?_) (a' := ?_) #[true, true, true, false, true, true, true, true, false, false, false, false, false, false, false] rfl rfl (by kernel_rfl) (fun _ _ _ h => h) (Or.inl ⟨by rfl, ?_⟩) ?_ ?_
       rotate_left
       · intro w'
         go_simp
         with_reducible rfl
       rotate_left
       · simp only [Act.put, List.setIfInBounds_toArray, List.set_cons_zero, List.set_cons_succ, i64_w, i32_w]
         rfl
       refine pure_ (i := 9) (N := some 32) (v := ?_) (a' := ?_) #[true, true, true, false, true, true, true, true, false, true, false, false, false, false, false] rfl rfl (by kernel_rfl) (fun _ _ _ h => h) (Or.inl ⟨by rfl, ?_⟩) ?_ ?_
       rotate_left
       · intro w'
         go_simp
         with_reducible rfl
       rotate_left
       · simp only [Act.put, List.setIfInBounds_toArray, List.set_cons_zero, List.set_cons_succ, i64_w, i32_w]
         rfl
       refine pure_ (i := 10) (N := some 33) (v := ?_) (a' := ?_) #[true, true, true, false, true, true, true, true, false, true, true, false, false, false, false] rfl rfl (by kernel_rfl) (fun _ _ _ h => h) (Or.inl ⟨by rfl, ?_⟩) ?_ ?_
       rotate_left
       · intro w'
         go_simp
         with_reducible rfl
       rotate_left
       · simp only [Act.put, List.setIfInBounds_toArray, List.set_cons_zero, List.set_cons_succ, i64_w, i32_w]
         rfl
       refine take_ (i := 3) (N := some 26) (v := ?_) (a' := ?_) #[true, true, true, true, true, true, true, true, false, true, true, false, false, false, false] rfl rfl (by kernel_rfl) (fun _ _ _ h => h) (Or.inl ⟨by rfl, ?_⟩) hHeld ?_ ?_
       rotate_left
       · rintro w' ⟨s0, s1⟩
         go_simp
         with_reducible rfl
       rotate_left
       · simp only [Act.put, List.setIfInBounds_toArray, List.set_cons_zero, List.set_cons_succ, i64_w, i32_w]
         rfl
       refine take_ (i := 8) (N := some 31) (v := ?_) (a' := ?_) #[true, true, true, true, true, true, true, true, true, true, true, false, false, false, false] rfl rfl (by kernel_rfl) (fun _ _ _ h => h) (Or.inl ⟨by rfl, ?_⟩) hHeld ?_ ?_
       rotate_left
       · rintro w' ⟨s0, s1⟩
         go_simp
         with_reducible rfl
       rotate_left
       · simp only [Act.put, List.setIfInBounds_toArray, List.set_cons_zero, List.set_cons_succ, i64_w, i32_w]
         rfl
       refine pure_ (i := 11) (N := some 34) (v := ?_) (a' := ?_) #[true, true, true, true, true, true, true, true, true, true, true, true, false, false, false] rfl rfl (by kernel_rfl) (fun _ _ _ h => h) (Or.inl ⟨by rfl, ?_⟩) ?_ ?_
       rotate_left
       · intro w'
         go_simp
         with_reducible rfl
       rotate_left
       · simp only [Act.put, List.setIfInBounds_toArray, List.set_cons_zero, List.set_cons_succ, i64_w, i32_w]
         rfl
       refine last_ (i := 12) (N := none) #[true, true, true, true, true, true, true, true, true, true, true, true, true, false, false] rfl rfl (by kernel_rfl) (by decide) (fun K hK => ?_)
       refine skip_ (w1 := ?_) (by rfl) rfl ?_ ?_
       rotate_left
       · go_simp
         rfl
       refine hK.out _ _ ?_
       clear hK K
       refine pure_ (i := 13) (N := some 35) (v := ?_) (a' := ?_) #[true, true, true, true, true, true, true, true, true, true, true, true, true, true, false] rfl rfl (by kernel_rfl) (fun _ _ _ h => h) (Or.inl ⟨by rfl, ?_⟩) ?_ ?_
       rotate_left
       · intro w'
         go_simp
         with_reducible rfl
       rotate_left
       · simp only [Act.put, List.setIfInBounds_toArray, List.set_cons_zero, List.set_cons_succ, i64_w, i32_w]
         rfl
       refine last_ (i := 14) (N := none) #[true, true, true, true, true, true, true, true, true, true, true, true, true, true, true] rfl rfl (by kernel_rfl) (by decide) (fun K hK => ?_)
       refine skip_ (w1 := ?_) (by rfl) rfl ?_ ?_
       rotate_left
       · go_simp
         rfl
       refine hK.out _ _ ?_
       clear hK K
       refine done_ (by kernel_rfl) ?_
       go_wp2
       go_roundw
       case rel =>
         refine ⟨i + 1, by go_num, by omega, ⟨?_⟩, ⟨((F.out.setCell (p := ⟨w.heap.size + 1, i, none⟩) (by simp) _).setCell (p := ⟨w.heap.size, i, none⟩) (by simp) _).drew⟩⟩
         have h2 := (M1.out.setSiz i 1).drew
         rw [upTo_set hlt, onesTo_set hlt] at h2
         exact h2
       case measure => simp [intOf]; omega
     · obtain rfl : i = n := by omega
       go_wp2
       go_ret2
       have h2 := M.out
       rw [upTo_self, onesTo_self] at h2
       refine ⟨_, _, _, rfl, by omega, ?_, ?_, ⟨List.range i, List.replicate i 1, ⟨?_, h2.par, h2.siz, h2.ne1, h2.ne2, h2.ne3, ?_, Rep.range i, Sized.ones i⟩⟩, F.out⟩
       · omega
       · exact Nat.le_refl _
       · rw [List.length_range, sets_range]; exact h2.obj
       · rw [List.length_range]; exact h
end Go.Proofs.Ytmikcfddipldnaa.Sets
namespace Go.Proofs.Ytmikcfddipldnaa.Sets
open Go.RowKit Go.Proofs.YtmikcfddipldnaaW.PrintWords Go.Proofs.YtmikcfddipldnaaW.PrintLast Go.Proofs.YtmikcfddipldnaaW.PrintMore
set_option linter.unusedVariables false
set_option linter.unusedSimpArgs false
def numTo (m : List Nat) : Nat → List Nat × Nat
 | 0 => ([], 0)
 | k + 1 => if gt m k < k then ((numTo m k).1 ++ [gt (numTo m k).1 (gt m k)], (numTo m k).2) else ((numTo m k).1 ++ [(numTo m k).2], (numTo m k).2 + 1)
theorem numTo_length (m : List Nat) (k : Nat) : (numTo m k).1.length = k := by
 induction k with
 | zero => rfl
 | succ k ih => unfold numTo; split <;> simp [ih]
theorem numTo_le (m : List Nat) (k : Nat) : (numTo m k).2 ≤ k := by
 induction k with
 | zero => simp [numTo]
 | succ k ih => unfold numTo; split <;> simp <;> omega
def numRow (m : List Nat) (n k : Nat) : List Nat := (numTo m k).1 ++ List.replicate (n - k) 0
theorem numRow_length (m : List Nat) {n k : Nat} (h : k ≤ n) : (numRow m n k).length = n := by simp [numRow, numTo_length]; omega
theorem numRow_zero (m : List Nat) (n : Nat) : numRow m n 0 = List.replicate n 0 := by simp [numRow, numTo]
theorem numRow_self (m : List Nat) (n : Nat) : numRow m n n = (numTo m n).1 := by simp [numRow]
theorem numRow_get (m : List Nat) {n k i : Nat} (hi : i < k) (h : k ≤ n) : gt (numRow m n k) i = gt (numTo m k).1 i := by
 unfold numRow gt
 simp only [List.getD_eq_getElem?_getD]
 rw [List.getElem?_append_left (by rw [numTo_length]; exact hi)]
theorem numRow_old (m : List Nat) {n k : Nat} (h : k < n) (hlt : gt m k < k) : (numRow m n k).set k (gt (numRow m n k) (gt m k)) = numRow m n (k + 1) := by
 rw [numRow_get m hlt (by omega)]
 unfold numRow
 rw [set_end _ _ _ _ _ (numTo_length m k) h]
 conv => rhs; unfold numTo
 rw [if_pos hlt]
theorem numRow_new (m : List Nat) {n k : Nat} (h : k < n) (hge : ¬ gt m k < k) : (numRow m n k).set k (numTo m k).2 = numRow m n (k + 1) := by
 unfold numRow
 rw [set_end _ _ _ _ _ (numTo_length m k) h]
 conv => rhs; unfold numTo
 rw [if_neg hge]
theorem numTo_old {m : List Nat} {k : Nat} (hlt : gt m k < k) : (numTo m (k + 1)).2 = (numTo m k).2 := by conv => lhs; unfold numTo; rw [if_pos hlt]
theorem numTo_new {m : List Nat} {k : Nat} (hge : ¬ gt m k < k) : (numTo m (k + 1)).2 = (numTo m k).2 + 1 := by conv => lhs; unfold numTo; rw [if_neg hge]
def RowAt (w : World) (b : Nat) (l : List Nat) : Prop := w.heap[b]? = some (.cells (nv l) 3 (0, 0))
theorem Frame.newCell {S : Nat → Prop} {a b : World} (h : Frame S a b) {i : Nat} (u : Value) : Frame S a (b.setCell ⟨a.heap.size, i, none⟩ u) :=
 ⟨h.os, h.tape, h.output, by simpa [World.setCell] using h.size, fun k hk hs => (Below.heap_setCell _ _ _ _ (by simp; omega)).trans (h.block k hk hs)⟩
set_option maxHeartbeats 1000000 in
set_option maxRecDepth 100000 in
theorem numbers_calls (p bP bS : Nat) (m P S : List Nat) (w : World) (h : AtPS w p bP bS m P S) :
   Calls Try.prog 38 #[.pointer (some ⟨p, 0, none⟩)] w fun e w' => ∃ bo, e = .returned (.tuple #[.slice (some ⟨bo, 0, none⟩) m.length m.length, .int .i64 (((numTo m m.length).2 : Nat) : Int)]) ∧ w.heap.size ≤ bo ∧ RowAt w' bo (numTo m m.length).1 ∧ Now p bP bS m w w' := by
 have H := Aside0.mk h
 have h0 := h.cell0
 have hs := h.small
 have mk1 := print_make (P := Try.prog) 36 3 .i64 8 Try.underlying36 info_int (by decide) m.length (by omega)
 rw [made_nv, ← numRow_zero m] at mk1
 have hp := blk_lt h.obj
 have hP := blk_lt h.par
 have hS := blk_lt h.siz
 clear h
 go_enter Try.func38, Try.ntmps38
 go_wp2
 clear mk1 h0
 have H1 : Aside0 (At (w.alloc (.cells (nv (numRow m m.length 0)) 3 (0, 0))) p bP bS m) := ⟨P, S, heap_old H.out.obj _, heap_old H.out.par _, heap_old H.out.siz _, H.out.ne1, H.out.ne2, H.out.ne3, H.out.small, H.out.rep, H.out.sized⟩
 have HO : Aside0 (RowAt (w.alloc (.cells (nv (numRow m m.length 0)) 3 (0, 0))) w.heap.size (numRow m m.length 0)) := ⟨heap_last _ _⟩
 have HF : Aside0 (Frame (Own p bP bS) w (w.alloc (.cells (nv (numRow m m.length 0)) 3 (0, 0)))) := ⟨(Frame.refl _ _).alloc _⟩
 generalize w.alloc (.cells (nv (numRow m m.length 0)) 3 (0, 0)) = w1 at H1 HO HF ⊢
 clear H
 go_loopw [5, 16] (fun c v wr => ∃ i : Nat, v = .int .i64 (i : Int) ∧ i ≤ m.length ∧ c = .int .i64 (((numTo m i).2 : Nat) : Int) ∧ Aside0 (At wr p bP bS m) ∧ Aside0 (RowAt wr w.heap.size (numRow m m.length i)) ∧ Aside0 (Frame (Own p bP bS) w wr)) (fun _ v _ => m.length - (intOf v).toNat)
 case atStart => exact ⟨0, rfl, by omega, rfl, H1, HO, HF⟩
 case round =>
   clear H1 HO HF
   obtain ⟨i, rfl, hi, rfl, HA, HO, HF⟩ := hrel
   obtain ⟨P1, S1, H1⟩ := HA.out
   have h0 := H1.cell0
   have H := Aside0.mk H1
   have hcl := numTo_le m i
   clear H1
   by_cases hlt : i < m.length
   · have hml := H.out.rep.ml hlt
     by_cases hold : gt m i < i
     · have HN := Aside0.mk (numRow_length m (n := m.length) (k := i) hi)
       go_wp2_with (go_at_call 54; refine (root_calls bP m.length m.length i _ P1 m _ H.out.par H.out.rep hlt rfl H.out.small).mono ?_; rintro e w' ⟨rfl, hc⟩; have HC := Aside0.mk (H.out.climbed hc); have HO2 := Aside0.mk (hc.choose_spec.2.2.blk HO.out (by omega)); clear hc; have c1 := nv_cell HO2.out (i := gt m i) (by rw [HN.out]; omega); have c2 := nv_cell HO2.out (i := i) (by rw [HN.out]; omega); have f1 := blk_free HO2.out i)
       obtain ⟨Q, h1, h2⟩ := HC.out
       have hb : ¬ Own p bP bS w.heap.size := by unfold Own; omega
       go_roundw
       case rel =>
         refine ⟨i + 1, by go_num, by omega, by rw [numTo_old hold], ⟨Q, S1, heap_setCell_ne h1.obj (by omega), heap_setCell_ne h1.par (by omega), heap_setCell_ne h1.siz (by omega), h1.ne1, h1.ne2, h1.ne3, h1.small, h1.rep, h1.sized⟩, ⟨?_⟩, ⟨?_⟩⟩
         · have h3 : RowAt _ _ _ := blk_set_nv (i := i) (x := gt (numRow m m.length i) (gt m i)) HO2.out
           rw [numRow_old m hlt hold] at h3
           exact h3
         · have h3 := HF.out.trans h2
           exact h3.newCell _
       case measure => simp [intOf]; omega
     · have hge : gt m i = i := by omega
       have HN := Aside0.mk (numRow_length m (n := m.length) (k := i) hi)
       go_wp2_with (go_at_call 54; refine (root_calls bP m.length m.length i _ P1 m _ H.out.par H.out.rep hlt rfl H.out.small).mono ?_; rintro e w' ⟨rfl, hc⟩; have HC := Aside0.mk (H.out.climbed hc); have HO2 := Aside0.mk (hc.choose_spec.2.2.blk HO.out (by omega)); clear hc; have c1 := nv_cell HO2.out (i := gt m i) (by rw [HN.out]; omega); have c2 := nv_cell HO2.out (i := i) (by rw [HN.out]; omega); have f1 := blk_free HO2.out i)
       obtain ⟨Q, h1, h2⟩ := HC.out
       have hb : ¬ Own p bP bS w.heap.size := by unfold Own; omega
       go_roundw
       case rel =>
         refine ⟨i + 1, by go_num, by omega, by rw [numTo_new hold]; go_num, ⟨Q, S1, heap_setCell_ne h1.obj (by omega), heap_setCell_ne h1.par (by omega), heap_setCell_ne h1.siz (by omega), h1.ne1, h1.ne2, h1.ne3, h1.small, h1.rep, h1.sized⟩, ⟨?_⟩, ⟨?_⟩⟩
         · have h3 : RowAt _ _ _ := blk_set_nv (i := i) (x := (numTo m i).2) HO2.out
           rw [numRow_new m hlt hold] at h3
           exact h3
         · have h3 := HF.out.trans h2
           exact h3.newCell _
       case measure => simp [intOf]; omega
   · obtain rfl : i = m.length := by omega
     go_wp2
     go_ret2
     have h3 := HO.out
     rw [numRow_self] at h3
     exact ⟨_, rfl, Nat.le_refl _, h3, HA.out, HF.out⟩
end Go.Proofs.Ytmikcfddipldnaa.Sets
namespace Go.Proofs.Ytmikcfddipldnaa.Sets
open Go.RowKit Go.Proofs.YtmikcfddipldnaaW.PrintWords Go.Proofs.YtmikcfddipldnaaW.PrintLast Go.Proofs.YtmikcfddipldnaaW.PrintMore
set_option linter.unusedVariables false
set_option linter.unusedSimpArgs false
def pe (es : List (Int × Int)) (i : Nat) : Int × Int := es.getD i (0, 0)
def Pairs (w : World) (A : Option Addr) (es : List (Int × Int)) : Prop := ∀ i : Nat, i < es.length → ∃ ad, A = some ad ∧ w.cell? (ad.add (i * 2)) = some (.int .i64 (pe es i).1) ∧ w.cell? ⟨(ad.add (i * 2)).block, (ad.add (i * 2)).off + 1, none⟩ = some (.int .i64 (pe es i).2)
theorem cell_block {w : World} {a : Addr} {v : Value} (h : w.cell? a = some v) : a.block < w.heap.size := by
 unfold World.cell? at h
 by_cases hk : a.block < w.heap.size
 · exact hk
 · rw [Array.getElem?_eq_none (by omega)] at h; simp at h
theorem Pairs.below {w w' : World} {A : Option Addr} {es : List (Int × Int)} (h : Pairs w A es) (hb : Below w.heap.size w w') : Pairs w' A es := by
 intro i hi
 obtain ⟨ad, e, h1, h2⟩ := h i hi
 exact ⟨ad, e, by rw [hb.cell (cell_block h1)]; exact h1, by rw [hb.cell (cell_block h2)]; exact h2⟩
def joinAll (m : List Nat) (es : List (Int × Int)) : List Nat := es.foldl (fun m e => (joinOf m e.1 e.2).1) m
theorem joinOf_length (m : List Nat) (a b : Int) : (joinOf m a b).1.length = m.length := by
 unfold joinOf; split
 · exact glue_length _ _ _
 · rfl
theorem joinAll_length (es : List (Int × Int)) : ∀ m : List Nat, (joinAll m es).length = m.length := by
 induction es with
 | nil => intro m; rfl
 | cons e es ih => intro m; unfold joinAll at ih ⊢; rw [List.foldl_cons, ih, joinOf_length]
theorem joinAll_take (m : List Nat) (es : List (Int × Int)) {k : Nat} (h : k < es.length) : joinAll m (es.take (k + 1)) = (joinOf (joinAll m (es.take k)) (pe es k).1 (pe es k).2).1 := by
 unfold joinAll
 rw [List.take_succ_eq_append_getElem h, List.foldl_append]
 simp [pe, List.getD_eq_getElem?_getD, h]
theorem Now.at_ {p bP bS : Nat} {m : List Nat} {w w' : World} (h : Now p bP bS m w w') : At w' p bP bS m := h.1
def SaysYes (n : Int) (A : Option Addr) (l c : Nat) (w : World) : Prop := ∀ w', Below w.heap.size w w' →
 Calls Try.prog 35 #[.agg #[.int .i64 n, .slice A l c]] w' fun e w'' => e = .returned (.bool true) ∧ Below w'.heap.size w' w''
def SaysNo (n : Int) (A : Option Addr) (l c : Nat) (w : World) : Prop := ∀ w', Below w.heap.size w w' →
 Calls Try.prog 35 #[.agg #[.int .i64 n, .slice A l c]] w' fun e w'' => e = .returned (.bool false) ∧ Below w'.heap.size w' w''
set_option maxHeartbeats 1000000 in
set_option maxRecDepth 100000 in
theorem of_no (n : Int) (A : Option Addr) (l c : Nat) (w : World) (hv : SaysNo n A l c w) :
   Calls Try.prog 24 #[.agg #[.int .i64 n, .slice A l c]] w fun e w' => e = .returned (.tuple #[.slice none 0 0, .int .i64 0, .int .i64 1]) ∧ Below w.heap.size w w' := by
 have B0 := (Below.refl w.heap.size w).alloc (Nat.le_refl _) (.cells #[.int .i64 n, .slice A l c] 24 (0, 0))
 have HV := Aside0.mk (hv _ B0)
 have HB := Aside0.mk B0
 clear hv B0
 go_enter Try.func24, Try.ntmps24
 go_wp2_with (go_at_call 35; refine (HV.out).mono ?_; rintro e w' ⟨rfl, hb⟩; have HB2 := Aside0.mk (HB.out.trans (hb.mono (by simp))); clear hb)
 go_ret3
 exact ⟨rfl, HB2.out⟩
set_option maxHeartbeats 1000000 in
set_option maxRecDepth 100000 in
theorem of_yes (n : Nat) (A : Option Addr) (c : Nat) (es : List (Int × Int)) (w : World) (hv : SaysYes n A es.length c w) (hn : n ≤ 1048576) (he : Pairs w A es) (hl : es.length ≤ 9223372036854775807) :
   Calls Try.prog 24 #[.agg #[.int .i64 (n : Int), .slice A es.length c]] w fun e w' => ∃ bo, e = .returned (.tuple #[.slice (some ⟨bo, 0, none⟩) n n, .int .i64 (((numTo (joinAll (List.range n) es) n).2 : Nat) : Int), .int .i64 0]) ∧ w.heap.size ≤ bo ∧ RowAt w' bo (numTo (joinAll (List.range n) es) n).1 ∧ Below w.heap.size w w' := by
 have B0 := (Below.refl w.heap.size w).alloc (Nat.le_refl _) (.cells #[.int .i64 (n : Int), .slice A es.length c] 24 (0, 0))
 have HV := Aside0.mk (hv _ B0)
 have HB := Aside0.mk B0
 have HX := Aside0.mk (heap_last w (.cells #[.int .i64 (n : Int), .slice A es.length c] 24 (0, 0)))
 have HE := Aside0.mk he
 clear hv B0 he
 go_enter Try.func24, Try.ntmps24
 go_wp2_with fail
 refine (HV.out).mono ?_
 rintro e w2 ⟨rfl, hb⟩
 have HB2 := Aside0.mk (HB.out.trans (hb.mono (by simp)))
 have HX2 := Aside0.mk ((hb.block w.heap.size (by simp)).trans HX.out)
 clear hb HB HX HV
 have x0 : w2.cell? ⟨w.heap.size, 0, none⟩ = some (.int .i64 (n : Int)) := (blk_cell HX2.out 0).trans rfl
 go_wp2_with fail
 refine (new_yes n _ hn).mono ?_
 rintro e w3 ⟨p, bP, bS, rfl, hp1, hp2, hp3, hat, hb⟩
 have hsz := HB2.out.size
 have HB3 := Aside0.mk (HB2.out.trans (hb.mono hsz))
 have HX3 := Aside0.mk ((hb.block w.heap.size (blk_lt HX2.out)).trans HX2.out)
 have HPb : Aside0 (w.heap.size ≤ p ∧ w.heap.size ≤ bP ∧ w.heap.size ≤ bS) := ⟨by omega⟩
 have HA := Aside0.mk hat
 clear hb hat hp1 hp2 hp3 x0 hsz HX2 HB2
 have x1 : w3.cell? ⟨w.heap.size, 1, none⟩ = some (.slice A es.length c) := (blk_cell HX3.out 1).trans rfl
 go_wp2
 clear x1 HX3
 go_loopw [23] (fun v wr => ∃ i : Nat, v = .int .i64 (i : Int) ∧ i ≤ es.length ∧ Aside0 (At wr p bP bS (joinAll (List.range n) (es.take i))) ∧ Aside0 (Below w.heap.size w wr)) (fun v _ => es.length - (intOf v).toNat)
 case atStart => exact ⟨0, rfl, by omega, HA, HB3⟩
 case round =>
   clear HA HB3
   obtain ⟨i, rfl, hi, HA, HB⟩ := hrel
   by_cases hlt : i < es.length
   · obtain ⟨ad, eA, hc1, hc2⟩ := (HE.out.below HB.out) i hlt
     subst eA
     go_wp2_with fail
     obtain ⟨P1, S1, H1⟩ := HA.out
     have hpb := HPb.out
     have hsz := HB.out.size
     have H2 : AtPS (wr.alloc (.cells #[.int .i64 (pe es i).1, .int .i64 (pe es i).2] 56 (0, 0))) p bP bS (joinAll (List.range n) (es.take i)) P1 S1 := ⟨heap_old H1.obj _, heap_old H1.par _, heap_old H1.siz _, H1.ne1, H1.ne2, H1.ne3, H1.small, H1.rep, H1.sized⟩
     have hF : Frame (Own p bP bS) wr (wr.alloc (.cells #[.int .i64 (pe es i).1, .int .i64 (pe es i).2] 56 (0, 0))) := (Frame.refl _ _).alloc _
     have H3 := Aside0.mk H2
     have HF := Aside0.mk hF
     clear H1 H2 hF
     refine (join_calls p bP bS _ P1 S1 _ _ _ H3.out).mono ?_
     rintro e w5 ⟨rfl, hA, hF⟩
     have HA2 := Aside0.mk hA
     have HB2 := Aside0.mk (HB.out.trans ((HF.out.trans hF).below hsz (fun k hk => by unfold Own at hk; omega)))
     have hlen := joinAll_take (List.range n) es hlt
     rw [← hlen] at HA2
     clear hA hF hlen
     go_wp2
     go_roundw
     case rel => exact ⟨i + 1, by go_num, by omega, HA2, HB2⟩
     case measure => simp [intOf]; omega
   · obtain rfl : i = es.length := by omega
     obtain ⟨P1, S1, H1⟩ := HA.out
     have H := Aside0.mk H1
     have hpb := HPb.out
     have hsz := HB.out.size
     clear H1
     go_wp2_with fail
     refine (numbers_calls p bP bS _ P1 S1 _ H.out).mono ?_
     rintro e w5 ⟨bo, rfl, hbo, hrow, hA, hF⟩
     rw [List.take_length, joinAll_length, List.length_range] at hrow ⊢
     have HR := Aside0.mk hrow
     have HB2 := Aside0.mk (HB.out.trans (hF.below hsz (fun k hk => by unfold Own at hk; omega)))
     clear hrow hA hF
     go_wp2
     go_ret3
     exact ⟨bo, rfl, by omega, HR.out, HB2.out⟩
end Go.Proofs.Ytmikcfddipldnaa.Sets
namespace Go.Proofs.Ytmikcfddipldnaa.Sets
set_option linter.unusedVariables false
inductive Conn (E : Nat → Nat → Prop) : Nat → Nat → Prop where
 | refl (a : Nat) : Conn E a a
 | fwd {a b c : Nat} : Conn E a b → E b c → Conn E a c
 | bwd {a b c : Nat} : Conn E a b → E c b → Conn E a c
theorem Conn.trans {E : Nat → Nat → Prop} {a b c : Nat} (h : Conn E a b) (k : Conn E b c) : Conn E a c := by
 induction k with
 | refl => exact h
 | fwd _ e ih => exact .fwd ih e
 | bwd _ e ih => exact .bwd ih e
theorem Conn.one {E : Nat → Nat → Prop} {a b : Nat} (e : E a b) : Conn E a b := .fwd (.refl a) e
theorem Conn.symm {E : Nat → Nat → Prop} {a b : Nat} (h : Conn E a b) : Conn E b a := by
 induction h with
 | refl => exact .refl _
 | fwd _ e ih => exact (Conn.bwd (.refl _) e).trans ih
 | bwd _ e ih => exact (Conn.fwd (.refl _) e).trans ih
theorem Conn.mono {E F : Nat → Nat → Prop} (hEF : ∀ a b, E a b → Conn F a b) {a b : Nat} (h : Conn E a b) : Conn F a b := by
 induction h with
 | refl => exact .refl _
 | fwd _ e ih => exact ih.trans (hEF _ _ e)
 | bwd _ e ih => exact ih.trans (hEF _ _ e).symm
structure Part (n : Nat) (E : Nat → Nat → Prop) (m : List Nat) : Prop where
 len : m.length = n
 inn : ∀ a b, E a b → a < n ∧ b < n
 le : ∀ i, i < n → gt m i ≤ i
 edge : ∀ a b, E a b → gt m a = gt m b
 conn : ∀ i, i < n → Conn E i (gt m i)
theorem Part.const {n : Nat} {E : Nat → Nat → Prop} {m : List Nat} (h : Part n E m) {a b : Nat} (c : Conn E a b) : gt m a = gt m b := by
 induction c with
 | refl => rfl
 | fwd _ e ih => exact ih.trans (h.edge _ _ e)
 | bwd _ e ih => exact ih.trans (h.edge _ _ e).symm
theorem Part.lt {n : Nat} {E : Nat → Nat → Prop} {m : List Nat} (h : Part n E m) {i : Nat} (hi : i < n) : gt m i < n := by have := h.le i hi; omega
theorem Part.idem {n : Nat} {E : Nat → Nat → Prop} {m : List Nat} (h : Part n E m) {i : Nat} (hi : i < n) : gt m (gt m i) = gt m i := (h.const (h.conn i hi)).symm
theorem Part.iff {n : Nat} {E : Nat → Nat → Prop} {m : List Nat} (h : Part n E m) {i j : Nat} (hi : i < n) (hj : j < n) : gt m i = gt m j ↔ Conn E i j :=
 ⟨fun e => (h.conn i hi).trans (by rw [e]; exact (h.conn j hj).symm), fun c => h.const c⟩
theorem list_ext_gt {l m : List Nat} (hl : l.length = m.length) (h : ∀ i, i < l.length → gt l i = gt m i) : l = m := by
 apply List.ext_getElem hl
 intro i h1 h2
 have := h i h1
 simpa [gt, List.getD_eq_getElem?_getD, h1, h2] using this
theorem Part.unique {n : Nat} {E F : Nat → Nat → Prop} {m m' : List Nat} (h : Part n E m) (k : Part n F m') (hEF : ∀ a b, E a b → Conn F a b) (hFE : ∀ a b, F a b → Conn E a b) : m = m' := by
 refine list_ext_gt (h.len.trans k.len.symm) (fun i hi => ?_)
 rw [h.len] at hi
 have h1 := k.const ((h.conn i hi).mono hEF)
 have h2 := h.const ((k.conn i hi).mono hFE)
 have h3 := k.le _ (h.lt hi)
 have h4 := h.le _ (k.lt hi)
 omega
theorem Part.congr {n : Nat} {E F : Nat → Nat → Prop} {m : List Nat} (h : Part n E m) (hin : ∀ a b, F a b → a < n ∧ b < n) (hEF : ∀ a b, E a b → Conn F a b) (hFE : ∀ a b, F a b → Conn E a b) : Part n F m :=
 ⟨h.len, hin, h.le, fun a b f => h.const (hFE a b f), fun i hi => (h.conn i hi).mono hEF⟩
theorem Part.range (n : Nat) : Part n (fun _ _ => False) (List.range n) :=
 ⟨by simp, fun _ _ h => h.elim, fun i hi => by rw [range_get hi]; exact Nat.le_refl _, fun _ _ h => h.elim, fun i hi => by rw [range_get hi]; exact .refl _⟩
theorem Part.glue {n : Nat} {E : Nat → Nat → Prop} {m : List Nat} (h : Part n E m) {a b lo hi : Nat} (ha : a < n) (hb : b < n) (hlt : lo < hi) (hor : (gt m a = lo ∧ gt m b = hi) ∨ (gt m a = hi ∧ gt m b = lo)) :
   Part n (fun x y => E x y ∨ (x = a ∧ y = b)) (Sets.glue lo hi m) := by
 have hl := h.len
 have g : ∀ i, i < n → gt (Sets.glue lo hi m) i = if gt m i = hi then lo else gt m i := fun i hi' => glue_get _ _ _ (by omega)
 have cab : Conn (fun x y => E x y ∨ (x = a ∧ y = b)) a b := .one (.inr ⟨rfl, rfl⟩)
 have up : ∀ x y, E x y → Conn (fun x y => E x y ∨ (x = a ∧ y = b)) x y := fun x y e => .one (.inl e)
 have clh : Conn (fun x y => E x y ∨ (x = a ∧ y = b)) hi lo := by
   have c1 := (h.conn a ha).mono up
   have c2 := (h.conn b hb).mono up
   rcases hor with ⟨e1, e2⟩ | ⟨e1, e2⟩
   · rw [e1] at c1; rw [e2] at c2; exact (c2.symm.trans cab.symm).trans c1
   · rw [e1] at c1; rw [e2] at c2; exact (c1.symm.trans cab).trans c2
 refine ⟨by rw [glue_length]; exact hl, ?_, ?_, ?_, ?_⟩
 · rintro x y (e | ⟨rfl, rfl⟩)
   · exact h.inn x y e
   · exact ⟨ha, hb⟩
 · intro i hi'
   rw [g i hi']
   have := h.le i hi'
   split <;> omega
 · rintro x y (e | ⟨rfl, rfl⟩)
   · have := h.inn x y e
     rw [g x this.1, g y this.2, h.edge x y e]
   · rw [g x ha, g y hb]
     rcases hor with ⟨e1, e2⟩ | ⟨e1, e2⟩
     · rw [e1, e2, if_neg (by omega), if_pos rfl]
     · rw [e1, e2, if_pos rfl, if_neg (by omega)]
 · intro i hi'
   have c := (h.conn i hi').mono up
   rw [g i hi']
   split
   · rename_i e; rw [e] at c; exact c.trans clh
   · exact c
end Go.Proofs.Ytmikcfddipldnaa.Sets
namespace Go.Proofs.Ytmikcfddipldnaa.Sets
set_option linter.unusedVariables false
def EP (n : Nat) (es : List (Int × Int)) (a b : Nat) : Prop := a < n ∧ b < n ∧ ((a : Int), (b : Int)) ∈ es
theorem ok_iff {m : List Nat} {a : Int} : ok m a = true ↔ 0 ≤ a ∧ a < (m.length : Int) := by
 simp only [ok, Bool.and_eq_true, decide_eq_true_eq]
theorem joinOf_same {m : List Nat} {a b : Nat} (h : gt m a = gt m b) : joinOf m a b = (m, false) := by
 unfold joinOf; rw [if_neg (by simp [h])]
theorem joinOf_out {m : List Nat} {a b : Int} (h : ¬ (ok m a = true ∧ ok m b = true)) : joinOf m a b = (m, false) := by
 unfold joinOf; rw [if_neg (by simp only [Bool.and_eq_true]; exact fun e => h e.1)]
theorem joinOf_two {m : List Nat} {a b : Nat} (ha : a < m.length) (hb : b < m.length) (h : gt m a ≠ gt m b) : joinOf m a b = (glue (min (gt m a) (gt m b)) (max (gt m a) (gt m b)) m, true) := by
 unfold joinOf; rw [if_pos (by simp [ok_of ha, ok_of hb, h])]; simp
theorem joinOf_part {n : Nat} {E : Nat → Nat → Prop} {m : List Nat} (h : Part n E m) (a b : Int) : Part n (fun x y => E x y ∨ (x < n ∧ y < n ∧ (x : Int) = a ∧ (y : Int) = b)) (joinOf m a b).1 := by
 have hl := h.len
 by_cases hk : ok m a = true ∧ ok m b = true
 · obtain ⟨i, rfl, hi⟩ := ok_nat hk.1
   obtain ⟨j, rfl, hj⟩ := ok_nat hk.2
   rw [hl] at hi hj
   by_cases he : gt m i = gt m j
   · rw [joinOf_same he]
     refine h.congr ?_ (fun a b e => .one (.inl e)) ?_
     · rintro x y (e | ⟨hx, hy, _⟩)
       · exact h.inn x y e
       · exact ⟨hx, hy⟩
     · rintro x y (e | ⟨hx, hy, ex, ey⟩)
       · exact .one e
       · obtain rfl : x = i := by omega
         obtain rfl : y = j := by omega
         exact (h.iff hi hj).1 he
   · rw [joinOf_two (by omega) (by omega) he]
     have hg := h.glue (a := i) (b := j) (lo := min (gt m i) (gt m j)) (hi := max (gt m i) (gt m j)) hi hj (by omega) (by omega)
     refine hg.congr ?_ ?_ ?_
     · rintro x y (e | ⟨hx, hy, _⟩)
       · exact h.inn x y e
       · exact ⟨hx, hy⟩
     · rintro x y (e | ⟨rfl, rfl⟩)
       · exact .one (.inl e)
       · exact .one (.inr ⟨hi, hj, rfl, rfl⟩)
     · rintro x y (e | ⟨hx, hy, ex, ey⟩)
       · exact .one (.inl e)
       · exact .one (.inr ⟨by omega, by omega⟩)
 · rw [joinOf_out hk]
   refine h.congr ?_ (fun a b e => .one (.inl e)) ?_
   · rintro x y (e | ⟨hx, hy, _⟩)
     · exact h.inn x y e
     · exact ⟨hx, hy⟩
   · rintro x y (e | ⟨hx, hy, ex, ey⟩)
     · exact .one e
     · exact absurd ⟨ok_iff.2 (by omega), ok_iff.2 (by omega)⟩ hk
theorem joinAll_part_from {n : Nat} (es : List (Int × Int)) : ∀ {E : Nat → Nat → Prop} {m : List Nat}, Part n E m → Part n (fun x y => E x y ∨ EP n es x y) (joinAll m es) := by
 induction es with
 | nil =>
   intro E m h
   exact h.congr (fun a b e => e.elim (h.inn a b) (fun e => by simp [EP] at e)) (fun a b e => .one (.inl e)) (fun a b e => e.elim .one (fun e => by simp [EP] at e))
 | cons e es ih =>
   intro E m h
   have h1 := ih (joinOf_part h e.1 e.2)
   refine h1.congr ?_ ?_ ?_
   · rintro x y (e | ⟨hx, hy, _⟩)
     · exact h.inn x y e
     · exact ⟨hx, hy⟩
   · rintro x y ((e' | ⟨hx, hy, ex, ey⟩) | ⟨hx, hy, hm⟩)
     · exact .one (.inl e')
     · exact .one (.inr ⟨hx, hy, by rw [ex, ey]; exact List.mem_cons_self ..⟩)
     · exact .one (.inr ⟨hx, hy, List.mem_cons_of_mem _ hm⟩)
   · rintro x y (e' | ⟨hx, hy, hm⟩)
     · exact .one (.inl (.inl e'))
     · rcases List.mem_cons.1 hm with he | hm
       · exact .one (.inl (.inr ⟨hx, hy, by rw [← he], by rw [← he]⟩))
       · exact .one (.inr ⟨hx, hy, hm⟩)
theorem joinAll_part (n : Nat) (es : List (Int × Int)) : Part n (EP n es) (joinAll (List.range n) es) := by
 have h := joinAll_part_from es (Part.range n)
 exact h.congr (fun a b e => ⟨e.1, e.2.1⟩) (fun a b e => e.elim (fun e => e.elim) .one) (fun a b e => .one (.inr e))
theorem sets_join {n : Nat} {E : Nat → Nat → Prop} {m : List Nat} (h : Part n E m) (a b : Int) : sets (joinOf m a b).1 + (if (joinOf m a b).2 = true then 1 else 0) = sets m := by
 have hl := h.len
 by_cases hk : ok m a = true ∧ ok m b = true
 · obtain ⟨i, rfl, hi⟩ := ok_nat hk.1
   obtain ⟨j, rfl, hj⟩ := ok_nat hk.2
   rw [hl] at hi hj
   by_cases he : gt m i = gt m j
   · rw [joinOf_same he]; simp
   · rw [joinOf_two (by omega) (by omega) he]
     have h1 := h.idem hi
     have h2 := h.idem hj
     have h3 := h.lt hi
     have h4 := h.lt hj
     have := sets_glue' (m := m) (lo := min (gt m i) (gt m j)) (hi := max (gt m i) (gt m j)) (by omega) (by omega)
       (by rcases Nat.le_total (gt m i) (gt m j) with e | e
           · rw [Nat.min_eq_left e]; exact h1
           · rw [Nat.min_eq_right e]; exact h2)
       (by rcases Nat.le_total (gt m i) (gt m j) with e | e
           · rw [Nat.max_eq_right e]; exact h2
           · rw [Nat.max_eq_left e]; exact h1)
     simpa using this
 · rw [joinOf_out hk]; simp
end Go.Proofs.Ytmikcfddipldnaa.Sets
namespace Go.Proofs.Ytmikcfddipldnaa.Sets
open Go.RowKit Go.Proofs.YtmikcfddipldnaaW.PrintWords Go.Proofs.YtmikcfddipldnaaW.PrintLast Go.Proofs.YtmikcfddipldnaaW.PrintMore
set_option linter.unusedVariables false
set_option linter.unusedSimpArgs false
def gl (gs : List (List Nat)) (j : Nat) : List Nat := gs.getD j []
def va (vs : List Value) (j : Nat) : Value := vs.getD j (.slice none 0 0)
theorem gl_set (gs : List (List Nat)) (i j : Nat) (x : List Nat) : gl (gs.set i x) j = if i = j ∧ j < gs.length then x else gl gs j := by
 unfold gl
 simp only [List.getD_eq_getElem?_getD, List.getElem?_set]
 by_cases h : i = j
 · subst h
   by_cases h2 : i < gs.length <;> simp [h2]
 · simp [h]
theorem va_set (gs : List Value) (i j : Nat) (x : Value) : va (gs.set i x) j = if i = j ∧ j < gs.length then x else va gs j := by
 unfold va
 simp only [List.getD_eq_getElem?_getD, List.getElem?_set]
 by_cases h : i = j
 · subst h
   by_cases h2 : i < gs.length <;> simp [h2]
 · simp [h]
def iv (l : List Nat) : List Value := l.map fun (x : Nat) => Value.int .i64 (x : Int)
structure GRows (w : World) (B bo : Nat) (vs : List Value) (gs : List (List Nat)) : Prop where
 len : vs.length = gs.length
 out : w.heap[bo]? = some (.cells vs.toArray 36 (0, 0))
 own : ∀ j, j < gs.length → w.ownsRow B 3 1 (va vs j) (gl gs j).length (iv (gl gs j))
 apart : ∀ i j, i < gs.length → j < gs.length → i ≠ j → ∀ k, (va vs i).ownBlock = some k → (va vs j).ownBlock ≠ some k
 lt : bo < B
 base : B ≤ w.heap.size
theorem own_lt {w : World} {B e s n : Nat} {v : Value} {xs : List Value} (h : w.ownsRow B e s v n xs) {k : Nat} (hk : v.ownBlock = some k) : B ≤ k ∧ k < w.heap.size := h.lt k hk
theorem own_move' {w w1 : World} {base : Nat} {e : TypeId} {size n : Nat} {v : Value} {xs : List Value} (h : w.ownsRow base e size v n xs) (hm : ∀ k, v.ownBlock = some k → w1.heap[k]? = w.heap[k]?) : w1.ownsRow base e size v n xs := own_move h hm
theorem GRows.frame {w w' : World} {B bo : Nat} {vs : List Value} {gs : List (List Nat)} (h : GRows w B bo vs gs) (hs : w.heap.size ≤ w'.heap.size) (hb : ∀ k, B ≤ k → k < w.heap.size → w'.heap[k]? = w.heap[k]?) (ho : w'.heap[bo]? = w.heap[bo]?) : GRows w' B bo vs gs :=
 ⟨h.len, ho.trans h.out, fun j hj => own_move' (h.own j hj) (fun k hk => hb k (own_lt (h.own j hj) hk).1 (own_lt (h.own j hj) hk).2), h.apart, h.lt, Nat.le_trans h.base hs⟩
theorem GRows.alloc {w : World} {B bo : Nat} {vs : List Value} {gs : List (List Nat)} (h : GRows w B bo vs gs) (o : Obj) : GRows (w.alloc o) B bo vs gs :=
 h.frame (by simp) (fun k _ hk => Below.heap_alloc _ _ _ hk) (Below.heap_alloc _ _ _ (blk_lt h.out))
theorem GRows.cell {w : World} {B bo : Nat} {vs : List Value} {gs : List (List Nat)} (h : GRows w B bo vs gs) {j : Nat} (hj : j < gs.length) : w.cell? ⟨bo, j, none⟩ = some (va vs j) := by
 have hl := h.len
 simp [World.cell?, h.out, va, List.getD_eq_getElem?_getD, show j < vs.length by omega]
theorem GRows.put {w w1 : World} {B bo : Nat} {vs : List Value} {gs : List (List Nat)} (h : GRows w B bo vs gs) {k : Nat} (hk : k < gs.length) {v' : Value} {a : Nat}
   (hown : w1.ownsRow B 3 1 v' ((gl gs k).length + 1) (iv (gl gs k) ++ [.int .i64 (a : Int)])) (hg : w.grownBy w1 (va vs k).ownBlock) (hat : v'.ownBlock = (va vs k).ownBlock ∨ v'.ownBlock = some w.heap.size) :
   GRows (w1.setCell ⟨bo, k, none⟩ v') B bo (vs.set k v') (gs.set k (gl gs k ++ [a])) := by
 have hl := h.len
 have hlt := h.lt
 have hne : ∀ q, (va vs k).ownBlock = some q → q ≠ bo := fun q hq e => by have := (own_lt (h.own k hk) hq).1; omega
 have ho1 : w1.heap[bo]? = some (.cells vs.toArray 36 (0, 0)) := (hg.block bo (blk_lt h.out) (fun e => hne bo e.symm rfl)).trans h.out
 refine ⟨by simp [h.len], ?_, ?_, ?_, h.lt, by have := h.base; have := hg.size; simp [World.setCell]; omega⟩
 · rw [blk_setCell ho1]; simp
 · intro j hj
   rw [List.length_set] at hj
   rw [gl_set, va_set]
   by_cases hkj : k = j
   · subst hkj
     rw [if_pos ⟨rfl, by omega⟩, if_pos ⟨rfl, hj⟩]
     have e1 : iv (gl gs k ++ [a]) = iv (gl gs k) ++ [.int .i64 (a : Int)] := by simp [iv]
     rw [List.length_append, List.length_singleton, e1]
     exact own_move' hown (fun q hq => Below.heap_setCell _ _ _ _ (fun e => by have := (own_lt hown hq).1; simp at e; omega))
   · rw [if_neg (by simp [hkj]), if_neg (by simp [hkj])]
     refine own_move' (h.own j hj) (fun q hq => ?_)
     have hq2 := own_lt (h.own j hj) hq
     rw [Below.heap_setCell _ _ _ _ (fun e => by simp at e; omega)]
     exact hg.block q hq2.2 (fun e => h.apart k j hk hj hkj q e.symm hq)
 · intro i j hi hj hij q hq
   rw [List.length_set] at hi hj
   rw [va_set] at hq
   rw [va_set]
   by_cases hki : k = i
   · subst hki
     rw [if_pos ⟨rfl, by omega⟩] at hq
     rw [if_neg (by simp [hij])]
     intro hq2
     rcases hat with e | e
     · exact h.apart k j hi hj hij q (e ▸ hq) hq2
     · have := (own_lt (h.own j hj) hq2).2
       rw [hq] at e
       simp at e; omega
   · rw [if_neg (by simp [hki])] at hq
     by_cases hkj : k = j
     · subst hkj
       rw [if_pos ⟨rfl, by omega⟩]
       intro hq2
       rcases hat with e | e
       · exact h.apart i k hi hj hij q hq (e ▸ hq2)
       · have := (own_lt (h.own i hi) hq).2
         rw [hq2] at e
         simp at e; omega
     · rw [if_neg (by simp [hkj])]
       exact h.apart i j hi hj hij q hq
def grpTo (nums : List Nat) (c : Nat) : Nat → List (List Nat)
 | 0 => List.replicate c []
 | k + 1 => (grpTo nums c k).set (gt nums k) (gl (grpTo nums c k) (gt nums k) ++ [k])
theorem gt_snoc_lt {l : List Nat} {x i : Nat} (h : i < l.length) : gt (l ++ [x]) i = gt l i := by
 unfold gt; simp only [List.getD_eq_getElem?_getD]; rw [List.getElem?_append_left h]
theorem gt_snoc_eq {l : List Nat} {x i : Nat} (h : i = l.length) : gt (l ++ [x]) i = x := by
 subst h
 unfold gt; simp
theorem info_ints : (Try.prog.info? 36).map (fun i => (i.zero, i.size, i.bytes)) = some (some (.slice none 0 0), 1, 24) := by kernel_rfl
theorem made_nil (n : Nat) : madeCells #[.slice none 0 0] n = Array.replicate n (Value.slice none 0 0) := by
 apply Array.ext
 · simp [madeCells]
 · intro i h1 h2
   simp [madeCells, Nat.mod_one]
theorem GRows.start {w : World} (n : Nat) : GRows (w.alloc (.cells (Array.replicate n (Value.slice none 0 0)) 36 (0, 0))) (w.heap.size + 1) w.heap.size (List.replicate n (.slice none 0 0)) (List.replicate n []) := by
 have g : ∀ j, va (List.replicate n (.slice none 0 0)) j = .slice none 0 0 := fun j => by unfold va; rw [List.getD_eq_getElem?_getD, List.getElem?_replicate]; split <;> rfl
 have g2 : ∀ j, gl (List.replicate n []) j = [] := fun j => by unfold gl; rw [List.getD_eq_getElem?_getD, List.getElem?_replicate]; split <;> rfl
 refine ⟨by simp, by simpa using heap_last w (.cells (Array.replicate n (Value.slice none 0 0)) 36 (0, 0)), fun j _ => ?_, fun i j _ _ _ k hk => ?_, by omega, by simp⟩
 · rw [g, g2]; exact World.ownsRow_nil _ _ _ _
 · rw [g] at hk; simp [Value.ownBlock] at hk
def groupsOf (m : List Nat) : List (List Nat) := grpTo (numTo m m.length).1 (numTo m m.length).2 m.length
end Go.Proofs.Ytmikcfddipldnaa.Sets
namespace Go.Proofs.Ytmikcfddipldnaa.Sets
open Go.RowKit Go.Proofs.YtmikcfddipldnaaW.PrintWords Go.Proofs.YtmikcfddipldnaaW.PrintLast Go.Proofs.YtmikcfddipldnaaW.PrintMore
set_option linter.unusedVariables false
set_option linter.unusedSimpArgs false
structure RowG (w : World) (g cap : Nat) (l : List Nat) : Prop where
 ex : ∃ cur, w.heap[g]? = some (.cells cur 3 (0, 0)) ∧ cur.size = cap ∧ cur.toList.take l.length = iv l
 le : l.length ≤ cap
theorem iv_get (l : List Nat) (i : Nat) (h : i < l.length) : (iv l)[i]? = some (.int .i64 ((gt l i : Nat) : Int)) := by
 simp [iv, gt, List.getD_eq_getElem?_getD, h]
theorem RowG.cell {w : World} {g cap : Nat} {l : List Nat} (h : RowG w g cap l) {i : Nat} (hi : i < l.length) : w.cell? ⟨g, i, none⟩ = some (.int .i64 ((gt l i : Nat) : Int)) := by
 obtain ⟨cur, h1, h2, h3⟩ := h.ex
 have e : cur[i]? = (cur.toList.take l.length)[i]? := by rw [List.getElem?_take_of_lt hi]; simp
 simp only [World.cell?, h1, Option.isSome_none, Bool.false_eq_true, if_false]
 rw [e, h3, iv_get l i hi]
theorem RowG.free {w : World} {g cap : Nat} {l : List Nat} (h : RowG w g cap l) (i : Nat) : w.frozen? ⟨g, i, none⟩ = false := by
 obtain ⟨cur, h1, _⟩ := h.ex
 exact blk_free h1 i
theorem RowG.lt {w : World} {g cap : Nat} {l : List Nat} (h : RowG w g cap l) : g < w.heap.size := by
 obtain ⟨cur, h1, _⟩ := h.ex
 exact blk_lt h1
theorem RowG.frame {w w' : World} {g cap : Nat} {l : List Nat} (h : RowG w g cap l) (hb : w'.heap[g]? = w.heap[g]?) : RowG w' g cap l := by
 obtain ⟨cur, h1, h2⟩ := h.ex
 exact ⟨⟨cur, hb.trans h1, h2⟩, h.le⟩
theorem RowG.set {w : World} {g cap : Nat} {l : List Nat} (h : RowG w g cap l) (i x : Nat) (hi : i < l.length) : RowG (w.setCell ⟨g, i, none⟩ (.int .i64 (x : Int))) g cap (l.set i x) := by
 obtain ⟨cur, h1, h2, h3⟩ := h.ex
 refine ⟨⟨_, blk_setCell h1 _, by simpa using h2, ?_⟩, by simpa using h.le⟩
 rw [List.length_set, Array.toList_setIfInBounds, List.take_set, h3]
 simp [iv, List.map_set]
def total (l : List Nat) : Nat := l.sum
def Good (n : Nat) (E : Nat → Nat → Prop) (l : List Nat) : Prop := l.length = n ∧ (∀ i, i < n → gt l i ≤ i) ∧ ∀ i, i < n → Conn E i (gt l i)
theorem Good.set {n : Nat} {E : Nat → Nat → Prop} {l : List Nat} (h : Good n E l) {u v : Nat} (hu : u < n) (hv : v < n) (hc : Conn E u v) (hlt : gt l v < gt l u) : Good n E (l.set u (gt l v)) := by
 obtain ⟨h1, h2, h3⟩ := h
 refine ⟨by simp [h1], fun i hi => ?_, fun i hi => ?_⟩
 · rw [getD_set]; split
   · rename_i c; obtain ⟨rfl, _⟩ := c
     have := h2 u hi; omega
   · exact h2 i hi
 · rw [getD_set]; split
   · rename_i c; obtain ⟨rfl, _⟩ := c
     exact hc.trans (h3 v hv)
   · exact h3 i hi
theorem Good.range (n : Nat) (E : Nat → Nat → Prop) : Good n E (List.range n) :=
 ⟨by simp, fun i hi => by rw [range_get hi]; exact Nat.le_refl _, fun i hi => by rw [range_get hi]; exact .refl _⟩
theorem Good.done {n : Nat} {es : List (Int × Int)} {l : List Nat} (h : Good n (EP n es) l) (hst : ∀ a b, EP n es a b → gt l a = gt l b) : l = joinAll (List.range n) es :=
 Part.unique (E := EP n es) (F := EP n es) ⟨h.1, fun a b e => ⟨e.1, e.2.1⟩, h.2.1, hst, h.2.2⟩ (joinAll_part n es) (fun _ _ => .one) (fun _ _ => .one)
def RefYes (n : Int) (A : Option Addr) (l c : Nat) (w : World) : Prop := ∀ w', Below w.heap.size w w' →
 Calls Try.prog 47 #[.agg #[.int .i64 n, .slice A l c]] w' fun e w'' => e = .returned (.bool true) ∧ Below w'.heap.size w' w''
def RefNo (n : Int) (A : Option Addr) (l c : Nat) (w : World) : Prop := ∀ w', Below w.heap.size w w' →
 Calls Try.prog 47 #[.agg #[.int .i64 n, .slice A l c]] w' fun e w'' => e = .returned (.bool false) ∧ Below w'.heap.size w' w''
def RefNew (n : Nat) : Prop := ∀ w',
 Calls Try.prog 48 #[.int .i64 (n : Int)] w' fun e w'' => ∃ v, e = .returned (.tuple #[v, .int .i64 0]) ∧ Kd.R (Kd.int .i64) 3 w'' w'.heap.size (fun _ => True) v ((List.range n).map fun (x : Nat) => (x : Int)) ∧ Below w'.heap.size w' w''
end Go.Proofs.Ytmikcfddipldnaa.Sets
namespace Go.Proofs.Ytmikcfddipldnaa.Rot
open Go.RowKit Go.Proofs.YtmikcfddipldnaaW.PrintWords Go.Proofs.YtmikcfddipldnaaW.PrintLast Go.Proofs.YtmikcfddipldnaaW.PrintMore Go.Proofs.Ytmikcfddipldnaa.Mem
set_option linter.unusedVariables false
set_option linter.unusedSimpArgs false
theorem must_yes (v e : Int) (w : World) : Calls Try.prog 59 #[.bool true, .int .i64 v, .int .i64 e] w fun x w' => x = .returned (.tuple #[]) ∧ w = w' := by
 go_enter Try.func59, Try.ntmps59
 go_wp2
 go_end0
 exact ⟨rfl, rfl⟩
theorem must_no (v e : Int) (w : World) : Calls Try.prog 59 #[.bool false, .int .i64 v, .int .i64 e] w fun x w' => x = .panicked [{ v := .iface 91 (.agg #[.int .i64 v, .int .i64 e]), recovered := false }] ∧ w = w' := by
 go_enter Try.func59, Try.ntmps59
 go_wp2
 exact ⟨rfl, rfl, rfl⟩
def fault (v e : Int) : Value := .iface 91 (.agg #[.int .i64 v, .int .i64 e])
theorem assert_fault (v e : Int) (w : World) : (Instr.typeAssert (.iface 91 (.agg #[.int .i64 v, .int .i64 e])) 20 91 true).run Try.prog w = .ok (.tuple #[.agg #[.int .i64 v, .int .i64 e], .bool true]) w := by kernel_rfl
theorem wp_act {P : Program} {c : Code} {Q : Exit → Act → World → Prop} {a a' : Act} {w : World} (h : a = a') (hw : c.wp P Q a' w) : c.wp P Q a w := h ▸ hw
def Caught (p q : Nat) (v e : Int) (older : List PanicEntry) (w : World) (z : Ending) (u' : FrameMode) (w' : World) : Prop :=
 z = .returned (.tuple #[]) ∧ u' = .panicking ({ v := fault v e, recovered := true } :: older) ∧ w'.heap[p]? = some (.cells #[.int .i64 v] 3 (0, 0)) ∧ w'.heap[q]? = some (.cells #[.int .i64 e] 28 (0, 0)) ∧ Mem.Frame (fun k => k = p ∨ k = q) w w'
set_option maxHeartbeats 1000000 in
set_option maxRecDepth 100000 in
theorem catch_fault (p q : Nat) (v e x y : Int) (older : List PanicEntry) (w : World) (hpq : p ≠ q) (hp : w.heap[p]? = some (.cells #[.int .i64 x] 3 (0, 0))) (hq : w.heap[q]? = some (.cells #[.int .i64 y] 28 (0, 0))) :
   CallsD Try.prog 58 #[.pointer (some ⟨p, 0, none⟩), .pointer (some ⟨q, 0, none⟩)] (.panicking ({ v := fault v e, recovered := false } :: older)) w (Caught p q v e older w) := by
 have HP := Aside0.mk hp
 have HQ0 := Aside0.mk hq
 have c1 : w.cell? ⟨p, 0, none⟩ = some (.int .i64 x) := heap_cell hp rfl
 have c2 : w.cell? ⟨q, 0, none⟩ = some (.int .i64 y) := heap_cell hq rfl
 have f1 : w.frozen? ⟨p, 0, none⟩ = false := heap_free hp 0
 have f2 : w.frozen? ⟨q, 0, none⟩ = false := heap_free hq 0
 clear hp hq
 unfold fault
 refine callsD_of_wpS Try.func58 rfl fun c₀ cs hu => ?_
 apply wpS_seq
 apply wpS_region
 simp [wpOpsS, go_sem, recoverD, hu, Try.ntmps58, Exit.thenS]
 refine wpS_of_wp ?_
 clear hu
 let Q : Exit → Act → World → Prop := fun z a' w' => bodyPostS Try.prog Try.f58 c₀ cs (Caught p q v e older w) z a' ({ c₀ with mode := .panicking ({ v := fault v e, recovered := true } :: older) } :: cs) w'
 refine wp_act (Q := Q) (a' := ⟨#[.pointer (some ⟨p, 0, none⟩), .pointer (some ⟨q, 0, none⟩), .iface 91 (.agg #[.int .i64 v, .int .i64 e]), undef, undef, .iface 91 (.agg #[.int .i64 v, .int .i64 e]), undef, undef, undef, undef, undef, undef, undef, undef, undef, undef, undef, undef, undef, undef], []⟩) (by kernel_rfl) ?_
 have hta := assert_fault v e
 go_wp2_with fail
 clear hta c1 c2 f1 f2
 have HF1 : Aside0 (Mem.Frame (fun k => k = p ∨ k = q) w (w.alloc (.cells #[.int .i64 v, .int .i64 e] 91))) := ⟨(Mem.Frame.refl _ _).alloc _⟩
 have HP1 := Aside0.mk (heap_old HP.out (.cells #[.int .i64 v, .int .i64 e] 91))
 have HQ1 := Aside0.mk (heap_old HQ0.out (.cells #[.int .i64 v, .int .i64 e] 91))
 have HB1 := Aside0.mk (heap_last w (.cells #[.int .i64 v, .int .i64 e] 91))
 have hlp : p < w.heap.size := lt_of HP.out
 have hlq : q < w.heap.size := lt_of HQ0.out
 obtain ⟨b, hb⟩ : ∃ b, b = w.heap.size := ⟨_, rfl⟩
 rw [← hb] at hlp hlq HB1 ⊢
 clear hb
 generalize w.alloc (.cells #[.int .i64 v, .int .i64 e] 91) = w1 at HF1 HP1 HQ1 HB1 ⊢
 have c1 : w1.cell? ⟨p, 0, none⟩ = some (.int .i64 x) := heap_cell HP1.out rfl
 have c2 : w1.cell? ⟨q, 0, none⟩ = some (.int .i64 y) := heap_cell HQ1.out rfl
 have f1 : w1.frozen? ⟨p, 0, none⟩ = false := heap_free HP1.out 0
 have f2 : w1.frozen? ⟨q, 0, none⟩ = false := heap_free HQ1.out 0
 have d1 : w1.cell? ⟨b, 0, none⟩ = some (.int .i64 v) := heap_cell HB1.out rfl
 have d2 : w1.cell? ⟨b, 1, none⟩ = some (.int .i64 e) := heap_cell HB1.out rfl
 refine start_ (n := 6) (S := fun w' => w'.cell? ⟨b, 0, none⟩ = some (.int .i64 v) ∧ w'.cell? ⟨b, 1, none⟩ = some (.int .i64 e)) (ds := [5]) #[false, false, false, false, false, false] (by kernel_rfl) rfl rfl ⟨d1, d2⟩ (fun hHeld => ?_)
 refine pure_ (i := 0) (N := some 16) (v := ?_) (a' := ?_) #[true, false, false, false, false, false] rfl rfl (by kernel_rfl) (fun _ _ _ h => h) (Or.inl ⟨by rfl, ?_⟩) ?_ ?_
 rotate_left
 · intro w'
   go_simp
   with_reducible rfl
 rotate_left
 · simp only [Act.put, List.setIfInBounds_toArray, List.set_cons_zero, List.set_cons_succ, i64_w, i32_w]
   rfl
 refine pure_ (i := 2) (N := some 18) (v := ?_) (a' := ?_) #[true, false, true, false, false, false] rfl rfl (by kernel_rfl) (fun _ _ _ h => h) (Or.inl ⟨by rfl, ?_⟩) ?_ ?_
 rotate_left
 · intro w'
   go_simp
   with_reducible rfl
 rotate_left
 · simp only [Act.put, List.setIfInBounds_toArray, List.set_cons_zero, List.set_cons_succ, i64_w, i32_w]
   rfl
 refine take_ (i := 1) (N := some 17) (v := ?_) (a' := ?_) #[true, true, true, false, false, false] rfl rfl (by kernel_rfl) (fun _ _ _ h => h) (Or.inl ⟨by rfl, ?_⟩) hHeld ?_ ?_
 rotate_left
 · rintro w' ⟨s0, s1⟩
   go_simp
   with_reducible rfl
 rotate_left
 · simp only [Act.put, List.setIfInBounds_toArray, List.set_cons_zero, List.set_cons_succ, i64_w, i32_w]
   rfl
 refine take_ (i := 3) (N := some 19) (v := ?_) (a' := ?_) #[true, true, true, true, false, false] rfl rfl (by kernel_rfl) (fun _ _ _ h => h) (Or.inl ⟨by rfl, ?_⟩) hHeld ?_ ?_
 rotate_left
 · rintro w' ⟨s0, s1⟩
   go_simp
   with_reducible rfl
 rotate_left
 · simp only [Act.put, List.setIfInBounds_toArray, List.set_cons_zero, List.set_cons_succ, i64_w, i32_w]
   rfl
 refine one_ (i := 4) (N := none) #[true, true, true, true, true, false] rfl rfl (by kernel_rfl) (by decide) (fun K hK => ?_)
 obtain ⟨e1, e2⟩ := hHeld
 refine skip_ (w1 := ?_) (by rfl) rfl ?_ ?_
 rotate_left
 · go_simp
   rfl
 refine hK.out _ _ ⟨cell_ne e1 _ (show b ≠ p by omega), cell_ne e2 _ (show b ≠ p by omega)⟩ (fun hHeld => ?_)
 clear hK K
 refine last_ (i := 5) (N := none) #[true, true, true, true, true, true] rfl rfl (by kernel_rfl) (by decide) (fun K hK => ?_)
 refine skip_ (w1 := ?_) (by rfl) rfl ?_ ?_
 rotate_left
 · go_simp
   rfl
 refine hK.out _ _ ?_
 clear hK K
 refine done_ (by kernel_rfl) ?_
 go_wp2_with fail
 have g1 := heap_ne (b := q) (i := 0) (v := .int .i64 e) (heap_set (i := 0) HP1.out (.int .i64 v)) hpq
 have g2 := heap_set (i := 0) (heap_ne (b := p) (i := 0) (v := .int .i64 v) HQ1.out (Ne.symm hpq)) (.int .i64 e)
 have g3 := ((HF1.out.setCell (p := ⟨p, 0, none⟩) (.inl rfl) (.int .i64 v)).setCell (p := ⟨q, 0, none⟩) (.inr rfl) (.int .i64 e)).drew
 exact ⟨rfl, _, rfl, .tuple #[], by simp [results, Try.results58], rfl, rfl, g1, g2, g3⟩
theorem catch_idle (p q : Nat) (w : World) :
   CallsD Try.prog 58 #[.pointer (some ⟨p, 0, none⟩), .pointer (some ⟨q, 0, none⟩)] .returning w fun z u' w' => z = .returned (.tuple #[]) ∧ u' = .returning ∧ w = w' := by
 refine callsD_of_wpS Try.func58 rfl fun c₀ cs hu => ?_
 apply wpS_seq
 apply wpS_region
 simp [wpOpsS, go_sem, recoverD, hu, Try.ntmps58, Exit.thenS]
 refine wpS_of_wp ?_
 let Q : Exit → Act → World → Prop := fun z a' w' => bodyPostS Try.prog Try.f58 c₀ cs (fun z u' w' => z = .returned (.tuple #[]) ∧ u' = .returning ∧ w = w') z a' (c₀ :: cs) w'
 have HU := Aside0.mk hu
 clear hu
 refine wp_act (Q := Q) (a' := ⟨#[.pointer (some ⟨p, 0, none⟩), .pointer (some ⟨q, 0, none⟩), .nilIface, undef, undef, .nilIface, undef, undef, undef, undef, undef, undef, undef, undef, undef, undef, undef, undef, undef, undef], []⟩) (by kernel_rfl) ?_
 go_wp2_with fail
 refine ⟨rfl, .returning, ?_, .tuple #[], by simp [results, Try.results58], rfl, rfl, rfl⟩
 rw [← HU.out]
def wCaught (w : World) : World := (w.alloc (.cells #[.int .i64 0] 3 (0, 0))).alloc (.cells #[.int .i64 0] 28 (0, 0))
def Two (w w2 w' : World) : Prop := Mem.Frame (fun k => k = w.heap.size ∨ k = w.heap.size + 1) w2 w'
set_option maxHeartbeats 1000000 in
set_option maxRecDepth 100000 in
theorem caught_ok (k : FuncId) (caps : Array Value) (w : World) (G : World → Prop) (hk : ∀ W, (callFunc k caps).run Try.prog W = .ok (.enter k caps) W) (h : Calls Try.prog k caps (wCaught w) fun z w2 => z = .returned (.tuple #[]) ∧ G w2)
   (hp : ∀ w2, G w2 → w2.heap[w.heap.size]? = some (.cells #[.int .i64 0] 3 (0, 0)) ∧ w2.heap[w.heap.size + 1]? = some (.cells #[.int .i64 0] 28 (0, 0))) :
   Calls Try.prog 49 #[.func (.func k) #[] caps] w fun z w' => z = .returned (.tuple #[.int .i64 0, .int .i64 0]) ∧ ∃ w2, G w2 ∧ Two w w2 w' := by
 have hmf : ∀ (fn : Fn) (first cap : Array Value) (w : World), (Instr.makeFunc fn first cap).run Try.prog w = .ok (.func fn first cap) w := fun _ _ _ _ => rfl
 have H := Aside0.mk h
 have HP := Aside0.mk hp
 clear h hp
 go_enter_defers Try.func49, Try.ntmps49
 go_wp2_with fail
 refine (H.out).mono ?_
 rintro z w2 ⟨rfl, hg⟩
 obtain ⟨g1, g2⟩ := HP.out w2 hg
 have HG := Aside0.mk hg
 have G1 := Aside0.mk g1
 have G2 := Aside0.mk g2
 clear H HP hg
 have c1 : w2.cell? ⟨w.heap.size, 0, none⟩ = some (.int .i64 0) := heap_cell g1 rfl
 have c2 : w2.cell? ⟨w.heap.size + 1, 0, none⟩ = some (.int .i64 0) := heap_cell g2 rfl
 have f1 : w2.frozen? ⟨w.heap.size, 0, none⟩ = false := heap_free g1 0
 have f2 : w2.frozen? ⟨w.heap.size + 1, 0, none⟩ = false := heap_free g2 0
 clear g1 g2
 go_wp2_with fail
 have n1 := heap_set (i := 0) (heap_ne (b := w.heap.size) (i := 0) (v := .int .i64 0) G2.out (by omega)) (.int .i64 0)
 have n2 := heap_ne (b := w.heap.size + 1) (i := 0) (v := .int .i64 0) (heap_set (i := 0) G1.out (.int .i64 0)) (by omega)
 have n3 : Two w w2 ((w2.setCell ⟨w.heap.size, 0, none⟩ (.int .i64 0)).setCell ⟨w.heap.size + 1, 0, none⟩ (.int .i64 0)) := ((Mem.Frame.refl _ w2).setCell (p := ⟨w.heap.size, 0, none⟩) (.inl rfl) (.int .i64 0)).setCell (p := ⟨w.heap.size + 1, 0, none⟩) (.inr rfl) (.int .i64 0)
 generalize (w2.setCell ⟨w.heap.size, 0, none⟩ (.int .i64 0)).setCell ⟨w.heap.size + 1, 0, none⟩ (.int .i64 0) = w3 at n1 n2 n3 ⊢
 refine leaves_cons (f := 58) (args := #[.pointer (some ⟨w.heap.size, 0, none⟩), .pointer (some ⟨w.heap.size + 1, 0, none⟩)]) (by simp) (by simp [go_sem]) ?_
 refine (catch_idle _ _ _).mono ?_
 rintro e u' w'' ⟨rfl, rfl, rfl⟩
 have m1 : w3.cell? ⟨w.heap.size, 0, none⟩ = some (.int .i64 0) := heap_cell n2 rfl
 have m2 : w3.cell? ⟨w.heap.size + 1, 0, none⟩ = some (.int .i64 0) := heap_cell n1 rfl
 refine ⟨.tuple #[.int .i64 0, .int .i64 0], by simp [results, Try.results49, go_sem, m1, m2], rfl, w2, HG.out, n3⟩
set_option maxHeartbeats 1000000 in
set_option maxRecDepth 100000 in
theorem caught_fault (k : FuncId) (caps : Array Value) (w : World) (v e : Int) (G : World → Prop) (hk : ∀ W, (callFunc k caps).run Try.prog W = .ok (.enter k caps) W) (h : Calls Try.prog k caps (wCaught w) fun z w2 => z = .panicked [{ v := fault v e, recovered := false }] ∧ G w2)
   (hp : ∀ w2, G w2 → w2.heap[w.heap.size]? = some (.cells #[.int .i64 0] 3 (0, 0)) ∧ w2.heap[w.heap.size + 1]? = some (.cells #[.int .i64 0] 28 (0, 0))) :
   Calls Try.prog 49 #[.func (.func k) #[] caps] w fun z w' => z = .returned (.tuple #[.int .i64 v, .int .i64 e]) ∧ ∃ w2, G w2 ∧ Two w w2 w' := by
 have hmf : ∀ (fn : Fn) (first cap : Array Value) (w : World), (Instr.makeFunc fn first cap).run Try.prog w = .ok (.func fn first cap) w := fun _ _ _ _ => rfl
 have H := Aside0.mk h
 have HP := Aside0.mk hp
 clear h hp
 go_enter_defers Try.func49, Try.ntmps49
 go_wp2_with fail
 refine (H.out).mono ?_
 rintro z w2 ⟨rfl, hg⟩
 obtain ⟨g1, g2⟩ := HP.out w2 hg
 have HG := Aside0.mk hg
 clear H HP hg
 go_wp2_with fail
 refine leaves_cons (f := 58) (args := #[.pointer (some ⟨w.heap.size, 0, none⟩), .pointer (some ⟨w.heap.size + 1, 0, none⟩)]) (by simp) (by simp [go_sem]) ?_
 refine (catch_fault _ _ v e 0 0 [] _ (by omega) g1 g2).mono ?_
 rintro e' u' w3 ⟨rfl, rfl, n1, n2, n3⟩
 have m1 : w3.cell? ⟨w.heap.size, 0, none⟩ = some (.int .i64 v) := heap_cell n1 rfl
 have m2 : w3.cell? ⟨w.heap.size + 1, 0, none⟩ = some (.int .i64 e) := heap_cell n2 rfl
 refine ⟨.tuple #[.int .i64 v, .int .i64 e], by simp [results, Try.results49, go_sem, m1, m2], rfl, w2, HG.out, n3⟩
end Go.Proofs.Ytmikcfddipldnaa.Rot
namespace Go.Proofs.Ytmikcfddipldnaa.Rot
open Go.RowKit Go.Proofs.YtmikcfddipldnaaW.PrintWords Go.Proofs.YtmikcfddipldnaaW.PrintLast Go.Proofs.YtmikcfddipldnaaW.PrintMore Go.Proofs.Ytmikcfddipldnaa.Mem
set_option linter.unusedVariables false
set_option linter.unusedSimpArgs false
def Gave (res : Int × Int) (z : Ending) : Prop := z = if res.2 = 0 then .returned (.tuple #[]) else .panicked [{ v := fault res.1 res.2, recovered := false }]
theorem Gave.fault {v e : Int} (he : e ≠ 0) : Gave (v, e) (.panicked [{ v := .iface 91 (.agg #[.int .i64 v, .int .i64 e]), recovered := false }]) := by
 unfold Gave Rot.fault
 rw [if_neg he]
theorem Gave.none : Gave (0, 0) (.returned (.tuple #[])) := rfl
def ValidSays (b : Bool) (n : Int) (A : Option Addr) (l c : Nat) (w : World) : Prop := ∀ w', Below w.heap.size w w' →
 Calls Try.prog 35 #[.agg #[.int .i64 n, .slice A l c]] w' fun e w'' => e = .returned (.bool b) ∧ Below w'.heap.size w' w''
def DegreesSays (ds : List Int) (n : Int) (A : Option Addr) (l c : Nat) (w : World) : Prop := ∀ w', Below w.heap.size w w' →
 Calls Try.prog 39 #[.agg #[.int .i64 n, .slice A l c]] w' fun e w'' => ∃ v, e = .returned (.tuple #[v, .int .i64 0]) ∧ Kd.R (Kd.int .i64) 3 w'' w'.heap.size (fun _ => True) v ds ∧ Below w'.heap.size w' w''
set_option maxHeartbeats 1000000 in
set_option maxRecDepth 100000 in
theorem check_invalid (n : Int) (A : Option Addr) (l c : Nat) (Ar : Option Addr) (m cr : Nat) (w : World) (hv : ValidSays false n A l c w) :
   Calls Try.prog 51 #[.agg #[.int .i64 n, .slice A l c], .slice Ar m cr] w fun z w' => Gave (0, 1) z ∧ Below w.heap.size w w' := by
 have HB := Aside0.mk ((Below.refl w.heap.size w).alloc (Nat.le_refl _) (.cells #[.int .i64 n, .slice A l c] 24 (0, 0)))
 have HV := Aside0.mk (hv _ HB.out)
 clear hv
 go_enter Try.func51, Try.ntmps51
 go_wp2_with fail
 refine (HV.out).mono ?_
 rintro e w2 ⟨rfl, hb⟩
 have HB2 := Aside0.mk (HB.out.trans (hb.mono HB.out.size))
 clear hb HB HV
 go_wp2_with fail
 refine (must_no 0 1 _).mono ?_
 rintro e w3 ⟨rfl, rfl⟩
 go_wp2_with fail
 exact ⟨rfl, Gave.fault (by decide), HB2.out⟩
set_option maxHeartbeats 1000000 in
set_option maxRecDepth 100000 in
theorem check_length (n : Nat) (A : Option Addr) (l c : Nat) (Ar : Option Addr) (m cr : Nat) (w : World) (hv : ValidSays true (n : Int) A l c w) (hm : m ≠ n) :
   Calls Try.prog 51 #[.agg #[.int .i64 (n : Int), .slice A l c], .slice Ar m cr] w fun z w' => Gave (0, 110) z ∧ Below w.heap.size w w' := by
 have HB := Aside0.mk ((Below.refl w.heap.size w).alloc (Nat.le_refl _) (.cells #[.int .i64 (n : Int), .slice A l c] 24 (0, 0)))
 have HX := Aside0.mk (heap_last w (.cells #[.int .i64 (n : Int), .slice A l c] 24 (0, 0)))
 have HV := Aside0.mk (hv _ HB.out)
 have q1 : (((m : Nat) : Int) == ((n : Nat) : Int)) = false := by rw [beq_eq_false_iff_ne]; omega
 have q2 : (m == n) = false := by rw [beq_eq_false_iff_ne]; exact hm
 clear hv hm
 go_enter Try.func51, Try.ntmps51
 go_wp2_with fail
 refine (HV.out).mono ?_
 rintro e w2 ⟨rfl, hb⟩
 have HB2 := Aside0.mk (HB.out.trans (hb.mono HB.out.size))
 have HX2 := Aside0.mk ((hb.block _ (lt_of HX.out)).trans HX.out)
 clear hb HB HV HX
 have x0 : w2.cell? ⟨w.heap.size, 0, none⟩ = some (.int .i64 (n : Int)) := heap_cell HX2.out rfl
 go_wp2_with fail
 refine (must_yes _ _ _).mono ?_
 rintro e w3 ⟨rfl, rfl⟩
 go_wp2_with fail
 refine (must_no 0 110 _).mono ?_
 rintro e w3 ⟨rfl, rfl⟩
 go_wp2_with fail
 exact ⟨rfl, Gave.fault (by decide), HB2.out⟩
set_option maxHeartbeats 4000000 in
set_option maxRecDepth 100000 in
theorem check_rows (n : Nat) (A : Option Addr) (c : Nat) (es : List (Int × Int)) (Ar : Option Addr) (cr : Nat) (r : List (List Int)) (ds : List Int) (w : World) (hv : ValidSays true (n : Int) A es.length c w) (hd : DegreesSays ds (n : Int) A es.length c w)
   (he : Pairs w A es) (hl : es.length ≤ 4194304) (hn : n ≤ 1048576) (hr : Kd.C KR w Ar r.length r) (hm : r.length = n) (hdl : ds.length = n) :
   Calls Try.prog 51 #[.agg #[.int .i64 (n : Int), .slice A es.length c], .slice Ar r.length cr] w fun z w' => Gave (rows (froms es) ds 0 r (List.replicate (2 * es.length) false)) z ∧ Below w.heap.size w w' := by
 have HB := Aside0.mk ((Below.refl w.heap.size w).alloc (Nat.le_refl _) (.cells #[.int .i64 (n : Int), .slice A es.length c] 24 (0, 0)))
 have HX := Aside0.mk (heap_last w (.cells #[.int .i64 (n : Int), .slice A es.length c] 24 (0, 0)))
 have HV := Aside0.mk (hv _ HB.out)
 have HD := Aside0.mk hd
 have HE := Aside0.mk he
 have HR := Aside0.mk hr
 have HDL := Aside0.mk hdl
 have HM := Aside0.mk hm
 have hrl : r.length ≤ 1048576 := by omega
 obtain ⟨RES, hres⟩ : ∃ RES, RES = rows (froms es) ds 0 r (List.replicate (2 * es.length) false) := ⟨_, rfl⟩
 rw [← hres]
 have HRES := Aside0.mk hres.symm
 have q2 : ((r.length : Int) == (n : Int)) = true := by rw [beq_iff_eq]; omega
 have q3 : (r.length == n) = true := by rw [beq_iff_eq]; exact hm
 clear hv hd he hr hdl hres hm
 go_enter Try.func51, Try.ntmps51
 go_wp2_with fail
 refine (HV.out).mono ?_
 rintro e w2 ⟨rfl, hb⟩
 have HB2 := Aside0.mk (HB.out.trans (hb.mono HB.out.size))
 have HX2 := Aside0.mk ((hb.block _ (lt_of HX.out)).trans HX.out)
 clear hb HB HV HX
 have x0 : w2.cell? ⟨w.heap.size, 0, none⟩ = some (.int .i64 (n : Int)) := heap_cell HX2.out rfl
 have x1 : w2.cell? ⟨w.heap.size, 1, none⟩ = some (.slice A es.length c) := heap_cell HX2.out rfl
 go_wp2_with fail
 refine (must_yes _ _ _).mono ?_
 rintro e w3 ⟨rfl, rfl⟩
 go_wp2_with fail
 refine (must_yes _ _ _).mono ?_
 rintro e w3 ⟨rfl, rfl⟩
 go_wp2_with fail
 refine (HD.out _ HB2.out).mono ?_
 rintro e w3 ⟨vd, rfl, hR, hb⟩
 have HB3 := Aside0.mk (HB2.out.trans (hb.mono HB2.out.size))
 have HX3 := Aside0.mk ((hb.block _ (lt_of HX2.out)).trans HX2.out)
 obtain ⟨Ad, cd, rfl, _, hC⟩ := Kd.R_reads hR
 have HDS := Aside0.mk hC
 clear hb hR hC HB2 HX2 HD x0 x1 q2 q3
 have x0 : w3.cell? ⟨w.heap.size, 0, none⟩ = some (.int .i64 (n : Int)) := heap_cell HX3.out rfl
 have x1 : w3.cell? ⟨w.heap.size, 1, none⟩ = some (.slice A es.length c) := heap_cell HX3.out rfl
 go_wp2_with fail
 refine (begins_calls n A c es w3 (HE.out.below HB3.out) hl).mono ?_
 rintro e w4 ⟨vf, rfl, hR, hb⟩
 have HB4 := Aside0.mk (HB3.out.trans (hb.mono HB3.out.size))
 have HDS4 := Aside0.mk (Kd.C_below HDS.out hb)
 obtain ⟨Af, cf, rfl, _, hC⟩ := Kd.R_reads hR
 have HF4 := Aside0.mk hC
 have HR4 := Aside0.mk (Kd.C_below HR.out HB4.out)
 have hfl := froms_length es
 obtain ⟨fr, hfr⟩ : ∃ fr, fr = froms es := ⟨_, rfl⟩
 rw [← hfr] at HF4 hfl HRES ⊢
 have HFL := Aside0.mk hfl
 have hfr2 : fr.length ≤ 8388608 := by omega
 clear hb hR hC HB3 HX3 HDS HE HR x0 x1 hfl hfr
 have mk1 := print_make_of (P := Try.prog) 60 4 (.bool false) 1 Try.underlying60 info_bool rfl (by decide) fr.length (by omega)
 rw [made_bool] at mk1
 go_wp2_with fail
 clear mk1
 have HS := Aside0.mk (BRow.start w4 fr.length)
 have HBB : Aside0 (Below w4.heap.size w4 (w4.alloc (.cells (Array.replicate fr.length (Value.bool false)) 4 (0, 0)))) := ⟨(Below.refl _ _).alloc (Nat.le_refl _) _⟩
 generalize w4.alloc (.cells (Array.replicate fr.length (Value.bool false)) 4 (0, 0)) = w5 at HS HBB ⊢
 obtain ⟨bs, hbs⟩ : ∃ bs, bs = w4.heap.size := ⟨_, rfl⟩
 rw [← hbs] at HS ⊢
 have hbs2 : w4.heap.size ≤ bs := by omega
 clear hbs
 rw [← HFL.out] at HRES
 go_loopw [33] (fun y wr => ∃ (v : Nat) (S : List Bool), y = .int .i64 (v : Int) ∧ v ≤ r.length ∧ Aside0 (rows fr ds v (r.drop v) S = RES) ∧ Aside0 (S.length = fr.length) ∧ Aside0 (BRow wr bs S) ∧ Aside0 (Below w4.heap.size w4 wr)) (fun y _ => r.length - (intOf y).toNat)
 case atStart => exact ⟨0, _, rfl, by omega, HRES, ⟨by simp⟩, HS, HBB⟩
 case round =>
   clear HS HBB HRES
   obtain ⟨v, S, rfl, hvr, HRES, HSL, HS, HBB⟩ := hrel
   by_cases hlt : v < r.length
   · obtain ⟨ad, B, cB, eA, hx4, hcB, hrow⟩ := row_at HR4.out hlt
     subst eA
     have hx := (HBB.out.cell (cell_lt hx4)).trans hx4
     clear hx4
     have hdr := drop_row hlt
     obtain ⟨row, hrw⟩ : ∃ row, row = gl r v := ⟨_, rfl⟩
     rw [← hrw] at hx hcB hrow hdr
     have hbig := C_le hrow
     rw [hdr] at HRES
     have HROW := Aside0.mk hrow
     clear hrw hdr hrow
     go_wp2_with fail
     have HS0 := HS
     have HBB0 := HBB
     have HSL0 := HSL
     obtain ⟨EL, hel⟩ : ∃ EL, EL = elems fr v row S := ⟨_, rfl⟩
     have HEL := Aside0.mk hel.symm
     have HRE : Aside0 (after fr ds v row (r.drop (v + 1)) EL = RES) := ⟨by rw [hel, ← rows_cons]; exact HRES.out⟩
     clear hel HRES
     go_loopw [40] (fun y wq => ∃ (k : Nat) (S' : List Bool), y = .int .i64 (k : Int) ∧ k ≤ row.length ∧ Aside0 (elems fr v (row.drop k) S' = EL) ∧ Aside0 (S'.length = fr.length) ∧ Aside0 (BRow wq bs S') ∧ Aside0 (Below w4.heap.size w4 wq)) (fun y _ => row.length - (intOf y).toNat)
     case atStart => exact ⟨0, S, rfl, by omega, HEL, HSL0, HS0, HBB0⟩
     case round =>
       clear HS0 HBB0 HSL0 HS HBB HSL HEL
       obtain ⟨k, S', rfl, hkr, HEL, HSL, HS, HBB⟩ := hrel
       by_cases hlt2 : k < row.length
       · obtain ⟨ah, eH, hxh⟩ := Kd.at_int (Kd.C_below HROW.out HBB.out) (k : Int) (by omega) (by omega)
         subst eH
         rw [Int.toNat_natCast, gi_rd] at hxh
         have hdk := drop_int hlt2
         obtain ⟨h, hh⟩ : ∃ h, h = gi row k := ⟨_, rfl⟩
         rw [← hh] at hxh hdk
         rw [hdk] at HEL
         clear hh hdk
         by_cases h0 : h ≥ 0
         · have t0 : decide (h ≥ 0) = true := decide_eq_true h0
           by_cases h1 : h < (fr.length : Int)
           · have t1 : decide (h < (fr.length : Int)) = true := decide_eq_true h1
             obtain ⟨hn', rfl⟩ := Int.eq_ofNat_of_zero_le h0
             have hlf : hn' < fr.length := by omega
             obtain ⟨af, eF, hxf⟩ := Kd.at_int (Kd.C_below HF4.out HBB.out) (hn' : Int) (by omega) (by omega)
             subst eF
             rw [Int.toNat_natCast, gi_rd] at hxf
             obtain ⟨x, hx2⟩ : ∃ x, x = gi fr hn' := ⟨_, rfl⟩
             rw [← hx2] at hxf
             have HX2 := Aside0.mk hx2
             clear hx2 t0 h0 h1
             by_cases he : x = (v : Int)
             · have t2 : (x == (v : Int)) = true := beq_iff_eq.2 he
               have HLV : Aside0 (leaves fr v (hn' : Int) = true) := ⟨by unfold leaves; rw [Int.toNat_natCast, ← HX2.out, t2, t1]; simp⟩
               clear he HX2
               have hxs := HS.out.cell (i := hn') (by rw [HSL.out]; exact hlf)
               have hfs := HS.out.free hn'
               cases hb : gb S' hn' with
               | true =>
                 rw [hb] at hxs
                 have HRE2 : Aside0 (((v : Int), 112) = RES) := ⟨by rw [← HRE.out, ← HEL.out, elems_cons_twice HLV.out (by simpa using hb)]; rfl⟩
                 clear hb HEL
                 go_wp2_with fail
                 refine (must_yes _ _ _).mono ?_
                 rintro e w6 ⟨rfl, rfl⟩
                 go_wp2_with fail
                 refine (must_no _ _ _).mono ?_
                 rintro e w6 ⟨rfl, rfl⟩
                 go_wp2_with fail
                 exact ⟨rfl, by rw [← HRE2.out]; exact Gave.fault (by decide), HB4.out.trans (HBB.out.mono HB4.out.size)⟩
               | false =>
                 rw [hb] at hxs
                 have HEL2 : Aside0 (elems fr v (row.drop (k + 1)) (S'.set hn' true) = EL) := ⟨by rw [← HEL.out, elems_cons HLV.out (by simpa using hb)]; simp⟩
                 clear hb HEL
                 go_wp2_with fail
                 refine (must_yes _ _ _).mono ?_
                 rintro e w6 ⟨rfl, rfl⟩
                 go_wp2_with fail
                 refine (must_yes _ _ _).mono ?_
                 rintro e w6 ⟨rfl, rfl⟩
                 have HS2 := Aside0.mk (HS.out.put hn' true)
                 have HBB2 := Aside0.mk (HBB.out.setCell (p := ⟨bs, hn', none⟩) hbs2 (.bool true))
                 have HSL2 : Aside0 ((S'.set hn' true).length = fr.length) := ⟨by rw [List.length_set]; exact HSL.out⟩
                 clear HS HBB HSL
                 go_wp2_with fail
                 go_roundw
                 case rel => exact ⟨k + 1, _, by go_num, by omega, HEL2, HSL2, HS2, HBB2⟩
                 case measure => simp [intOf]; omega
             · have t2 : (x == (v : Int)) = false := beq_eq_false_iff_ne.2 he
               have HRE2 : Aside0 (((v : Int), 111) = RES) := ⟨by rw [← HRE.out, ← HEL.out, elems_cons_no (by unfold leaves; rw [Int.toNat_natCast, ← HX2.out, t2]; simp)]; rfl⟩
               clear he HX2 HEL
               go_wp2_with fail
               refine (must_no _ _ _).mono ?_
               rintro e w6 ⟨rfl, rfl⟩
               go_wp2_with fail
               exact ⟨rfl, by rw [← HRE2.out]; exact Gave.fault (by decide), HB4.out.trans (HBB.out.mono HB4.out.size)⟩
           · have t1 : decide (h < (fr.length : Int)) = false := decide_eq_false h1
             have HRE2 : Aside0 (((v : Int), 111) = RES) := ⟨by rw [← HRE.out, ← HEL.out, elems_cons_no (by unfold leaves; rw [t1]; simp)]; rfl⟩
             clear h0 h1 HEL
             go_wp2_with fail
             refine (must_no _ _ _).mono ?_
             rintro e w6 ⟨rfl, rfl⟩
             go_wp2_with fail
             exact ⟨rfl, by rw [← HRE2.out]; exact Gave.fault (by decide), HB4.out.trans (HBB.out.mono HB4.out.size)⟩
         · have t0 : decide (h ≥ 0) = false := decide_eq_false h0
           have HRE2 : Aside0 (((v : Int), 111) = RES) := ⟨by rw [← HRE.out, ← HEL.out, elems_cons_no (by unfold leaves; rw [t0]; simp)]; rfl⟩
           clear h0 HEL
           go_wp2_with fail
           refine (must_no _ _ _).mono ?_
           rintro e w6 ⟨rfl, rfl⟩
           go_wp2_with fail
           exact ⟨rfl, by rw [← HRE2.out]; exact Gave.fault (by decide), HB4.out.trans (HBB.out.mono HB4.out.size)⟩
       · obtain rfl : k = row.length := by omega
         rw [List.drop_length] at HEL
         have HRE3 : Aside0 (after fr ds v row (r.drop (v + 1)) (.ok S') = RES) := ⟨by rw [← HRE.out, ← HEL.out]; rfl⟩
         obtain ⟨ads, eD, hxd⟩ := Kd.at_int (Kd.C_below HDS4.out HBB.out) (v : Int) (by omega) (by rw [HDL.out, ← HM.out]; omega)
         subst eD
         rw [Int.toNat_natCast, gi_rd] at hxd
         obtain ⟨x, hx2⟩ : ∃ x, x = gi ds v := ⟨_, rfl⟩
         rw [← hx2] at hxd
         have HX2 := Aside0.mk hx2
         have hvd : v < ds.length := by rw [HDL.out, ← HM.out]; exact hlt
         clear hx2 HEL
         by_cases he : (row.length : Int) = x
         · have t2 : ((row.length : Int) == x) = true := beq_iff_eq.2 he
           have HRE4 : Aside0 (rows fr ds (v + 1) (r.drop (v + 1)) S' = RES) := ⟨by rw [← HRE3.out]; rw [after_ok, ← HX2.out, if_pos he]⟩
           clear he HX2 HRE3 HRE
           go_wp2_with fail
           refine (must_yes _ _ _).mono ?_
           rintro e w6 ⟨rfl, rfl⟩
           go_wp2_with fail
           go_roundw
           case rel => exact ⟨v + 1, S', by go_num, by omega, HRE4, HSL, HS, HBB⟩
           case measure => simp [intOf]; omega
         · have t2 : ((row.length : Int) == x) = false := beq_eq_false_iff_ne.2 he
           have HRE4 : Aside0 (((v : Int), 113) = RES) := ⟨by rw [← HRE3.out]; rw [after_ok, ← HX2.out, if_neg he]⟩
           clear he HX2 HRE3 HRE
           go_wp2_with fail
           refine (must_no _ _ _).mono ?_
           rintro e w6 ⟨rfl, rfl⟩
           go_wp2_with fail
           exact ⟨rfl, by rw [← HRE4.out]; exact Gave.fault (by decide), HB4.out.trans (HBB.out.mono HB4.out.size)⟩
   · obtain rfl : v = r.length := by omega
     rw [List.drop_length] at HRES
     have HRES2 : Aside0 ((0, 0) = RES) := ⟨HRES.out⟩
     clear HRES
     go_wp2_with fail
     go_end0
     exact ⟨by rw [← HRES2.out]; exact Gave.none, HB4.out.trans (HBB.out.mono HB4.out.size)⟩
def CheckSays (res : Int × Int) (g r : Value) (w : World) : Prop := ∀ w', Below w.heap.size w w' → Calls Try.prog 51 #[g, r] w' fun z w'' => Gave res z ∧ Below w'.heap.size w' w''
theorem Gave.cases {res : Int × Int} {z : Ending} (h : Gave res z) (h0 : res = (0, 0) ∨ res.2 ≠ 0) : (res = (0, 0) ∧ z = .returned (.tuple #[])) ∨ (res.2 ≠ 0 ∧ z = .panicked [{ v := Rot.fault res.1 res.2, recovered := false }]) := by
 unfold Gave at h
 rcases h0 with rfl | h0
 · exact .inl ⟨rfl, h⟩
 · rw [if_neg h0] at h
   exact .inr ⟨h0, h⟩
theorem check1_calls (res : Int × Int) (n : Int) (A : Option Addr) (l c : Nat) (Ar : Option Addr) (m cr : Nat) (p q : Nat) (w : World) (h0 : res = (0, 0) ∨ res.2 ≠ 0) (hc : CheckSays res (.agg #[.int .i64 n, .slice A l c]) (.slice Ar m cr) w)
   (hp : w.heap[p]? = some (.cells #[.int .i64 n, .slice A l c] 24 (0, 0))) (hq : w.heap[q]? = some (.cells #[.slice Ar m cr] 26 (0, 0))) :
   Calls Try.prog 50 #[.pointer (some ⟨p, 0, none⟩), .pointer (some ⟨q, 0, none⟩)] w fun z w' => Gave res z ∧ Below w.heap.size w w' := by
 have H := Aside0.mk (hc w (Below.refl _ _))
 have x0 : w.cell? ⟨p, 0, none⟩ = some (.int .i64 n) := heap_cell hp rfl
 have x1 : w.cell? ⟨p, 1, none⟩ = some (.slice A l c) := heap_cell hp rfl
 have x2 : w.cell? ⟨q, 0, none⟩ = some (.slice Ar m cr) := heap_cell hq rfl
 clear hp hq hc
 go_enter Try.func50, Try.ntmps50
 go_wp2_with fail
 refine (H.out).mono ?_
 rintro z w2 ⟨hg, hb⟩
 have HB := Aside0.mk hb
 clear hb H
 rcases hg.cases h0 with ⟨rfl, rfl⟩ | ⟨hne, rfl⟩
 · clear hg h0
   go_wp2_with fail
   go_end0
   exact ⟨Gave.none, HB.out⟩
 · have HG := Aside0.mk hg
   clear hg h0 hne
   go_wp2_with fail
   exact ⟨rfl, HG.out, HB.out⟩
theorem wCaught_below (w : World) : Below w.heap.size w (wCaught w) := ((Below.refl _ _).alloc (Nat.le_refl _) _).alloc (by simp) _
theorem wCaught_own (w : World) : (wCaught w).heap[w.heap.size]? = some (.cells #[.int .i64 0] 3 (0, 0)) ∧ (wCaught w).heap[w.heap.size + 1]? = some (.cells #[.int .i64 0] 28 (0, 0)) := by
 refine ⟨heap_old (heap_last _ _) _, ?_⟩
 have h := heap_last (w.alloc (.cells #[.int .i64 0] 3 (0, 0))) (.cells #[.int .i64 0] 28 (0, 0))
 rw [show (w.alloc (.cells #[.int .i64 0] 3 (0, 0))).heap.size = w.heap.size + 1 by simp] at h
 exact h
theorem wCaught_size (w : World) : (wCaught w).heap.size = w.heap.size + 2 := by unfold wCaught; simp
set_option maxHeartbeats 1000000 in
set_option maxRecDepth 100000 in
theorem checkCall (res : Int × Int) (n : Int) (A : Option Addr) (l c : Nat) (Ar : Option Addr) (m cr : Nat) (w : World) (h0 : res = (0, 0) ∨ res.2 ≠ 0) (hc : CheckSays res (.agg #[.int .i64 n, .slice A l c]) (.slice Ar m cr) w) :
   Calls Try.prog 34 #[.agg #[.int .i64 n, .slice A l c], .slice Ar m cr] w fun e w' => e = .returned (.tuple #[.int .i64 res.1, .int .i64 res.2]) ∧ Below w.heap.size w w' := by
 have hmf : ∀ (fn : Fn) (first cap : Array Value) (w : World), (Instr.makeFunc fn first cap).run Try.prog w = .ok (.func fn first cap) w := fun _ _ _ _ => rfl
 have HB := Aside0.mk (((Below.refl w.heap.size w).alloc (Nat.le_refl _) (.cells #[.int .i64 n, .slice A l c] 24 (0, 0))).alloc (by simp) (.cells #[.slice Ar m cr] 26 (0, 0)))
 have HX := Aside0.mk (heap_old (heap_last w (.cells #[.int .i64 n, .slice A l c] 24 (0, 0))) (.cells #[.slice Ar m cr] 26 (0, 0)))
 have HY : Aside0 (((w.alloc (.cells #[.int .i64 n, .slice A l c] 24 (0, 0))).alloc (.cells #[.slice Ar m cr] 26 (0, 0))).heap[w.heap.size + 1]? = some (.cells #[.slice Ar m cr] 26 (0, 0))) := ⟨by
   have h := heap_last (w.alloc (.cells #[.int .i64 n, .slice A l c] 24 (0, 0))) (.cells #[.slice Ar m cr] 26 (0, 0))
   rw [show (w.alloc (.cells #[.int .i64 n, .slice A l c] 24 (0, 0))).heap.size = w.heap.size + 1 by simp] at h
   exact h⟩
 have HC := Aside0.mk hc
 have H0 := Aside0.mk h0
 clear hc h0
 go_enter Try.func34, Try.ntmps34
 go_wp2_with fail
 generalize (w.alloc (.cells #[.int .i64 n, .slice A l c] 24 (0, 0))).alloc (.cells #[.slice Ar m cr] 26 (0, 0)) = w1 at HB HX HY ⊢
 have hk : ∀ W, (callFunc 50 #[.pointer (some ⟨w.heap.size, 0, none⟩), .pointer (some ⟨w.heap.size + 1, 0, none⟩)]).run Try.prog W = .ok (.enter 50 #[.pointer (some ⟨w.heap.size, 0, none⟩), .pointer (some ⟨w.heap.size + 1, 0, none⟩)]) W := fun W => by kernel_rfl
 have hb1 := wCaught_below w1
 have hcl := check1_calls res n A l c Ar m cr w.heap.size (w.heap.size + 1) (wCaught w1) H0.out (fun w' hw' => HC.out w' (HB.out.trans ((hb1.trans (hw'.mono hb1.size)).mono HB.out.size))) ((hb1.block _ (lt_of HX.out)).trans HX.out) ((hb1.block _ (lt_of HY.out)).trans HY.out)
 have hgp : ∀ w2, Below (wCaught w1).heap.size (wCaught w1) w2 → w2.heap[w1.heap.size]? = some (.cells #[.int .i64 0] 3 (0, 0)) ∧ w2.heap[w1.heap.size + 1]? = some (.cells #[.int .i64 0] 28 (0, 0)) := fun w2 h2 => ⟨(h2.block _ (by rw [wCaught_size]; omega)).trans (wCaught_own w1).1, (h2.block _ (by rw [wCaught_size]; omega)).trans (wCaught_own w1).2⟩
 have hfin : ∀ w2 w', Below (wCaught w1).heap.size (wCaught w1) w2 → Two w1 w2 w' → Below w.heap.size w w' := fun w2 w' h2 h3 => by
   have h4 := hb1.trans (h2.mono hb1.size)
   have h5 : Below w1.heap.size w2 w' := h3.below h4.size (fun k hk => by omega)
   exact HB.out.trans ((h4.trans h5).mono HB.out.size)
 have HFIN := Aside0.mk hfin
 rcases H0.out with rfl | hne
 · refine (caught_ok 50 _ w1 _ hk (hcl.mono fun z w2 h => ⟨h.1, h.2⟩) hgp).mono ?_
   rintro z w' ⟨rfl, w2, h2, h3⟩
   have HE := Aside0.mk (HFIN.out w2 w' h2 h3)
   clear h2 h3 hgp hfin hcl hb1 hk HC
   go_wp2_with fail
   go_ret2
   exact ⟨rfl, HE.out⟩
 · refine (caught_fault 50 _ w1 res.1 res.2 _ hk (hcl.mono fun z w2 h => ⟨by have := h.1; unfold Gave at this; rw [if_neg hne] at this; exact this, h.2⟩) hgp).mono ?_
   rintro z w' ⟨rfl, w2, h2, h3⟩
   have HE := Aside0.mk (HFIN.out w2 w' h2 h3)
   clear h2 h3 hgp hfin hcl hb1 hk HC hne
   go_wp2_with fail
   go_ret2
   exact ⟨rfl, HE.out⟩
end Go.Proofs.Ytmikcfddipldnaa.Rot
namespace Go.Proofs.Ytmikcfddipldnaa.Sets
open Go.RowKit Go.Proofs.YtmikcfddipldnaaW.PrintWords Go.Proofs.YtmikcfddipldnaaW.PrintLast Go.Proofs.YtmikcfddipldnaaW.PrintMore
set_option linter.unusedVariables false
set_option linter.unusedSimpArgs false
theorem C_le {α : Type} {d : Kd α} {w : World} {A : Option Addr} {n : Nat} {xs : List α} (h : d.C w A n xs) : n ≤ 9223372036854775807 := by
 obtain ⟨_, h2, _⟩ := h
 exact h2
theorem row_own {w : World} {b base : Nat} {l : List Nat} {ok : Nat → Prop} (h : RowAt w b l) (hb : base ≤ b) (hl : l.length ≤ 9223372036854775807) (hok : ok b) : Kd.R (Kd.int .i64) 3 w base ok (.slice (some ⟨b, 0, none⟩) l.length l.length) (l.map fun (x : Nat) => (x : Int)) := by
 refine Kd.R_of_own (enc := Value.int .i64) ⟨by simp [encs], .inr ⟨b, l.length, nv l, by simp, hb, h, by simp, by unfold maxLen; exact hl, by simp [nv], ?_⟩⟩ (fun k hk => ?_)
 · rw [List.length_map, Nat.mul_one]; simp [nv, encs, List.take_of_length_le, Function.comp_def]
 · have : b = k := by simpa [Value.ownBlock] using hk
   exact this ▸ hok
theorem Now.ex {p bP bS : Nat} {m : List Nat} {w w' : World} (h : Now p bP bS m w w') : ∃ P S, AtPS w' p bP bS m P S := h.1
theorem Now.row {p bP bS : Nat} {m : List Nat} {w w' : World} (h : Now p bP bS m w w') {b : Nat} {l : List Nat} (hr : RowAt w b l) (hb : ¬ Own p bP bS b) : RowAt w' b l := h.2.blk hr hb
theorem Now.below {p bP bS B : Nat} {m : List Nat} {w0 w w' : World} (h : Now p bP bS m w w') (h0 : Below B w0 w) (hB : B ≤ w.heap.size) (h1 : B ≤ p ∧ B ≤ bP ∧ B ≤ bS) : Below B w0 w' :=
 h0.trans (h.2.below hB (fun k hk => by unfold Own at hk; omega))
theorem AtPS.below {w w' : World} {p bP bS B : Nat} {m P S : List Nat} (h : AtPS w p bP bS m P S) (hb : Below B w w') (h1 : p < B ∧ bP < B ∧ bS < B) : AtPS w' p bP bS m P S :=
 ⟨(hb.block p h1.1).trans h.obj, (hb.block bP h1.2.1).trans h.par, (hb.block bS h1.2.2).trans h.siz, h.ne1, h.ne2, h.ne3, h.small, h.rep, h.sized⟩
theorem AtPS.all {w w' : World} {p bP bS : Nat} {m P S : List Nat} (h : AtPS w p bP bS m P S) (hb : Below w.heap.size w w') : AtPS w' p bP bS m P S := h.below hb ⟨blk_lt h.obj, blk_lt h.par, blk_lt h.siz⟩
theorem AtPS.alloc {w : World} {p bP bS : Nat} {m P S : List Nat} (h : AtPS w p bP bS m P S) (o : Obj) : AtPS (w.alloc o) p bP bS m P S := h.all ((Below.refl _ _).alloc (Nat.le_refl _) _)
def FixValid : Prop := ∀ (b : Nat) (W : World), W.cell? ⟨b, 0, none⟩ = some (.int .i64 0) → W.cell? ⟨b, 1, none⟩ = some (.int .i64 2) →
 Calls Try.prog 35 #[.agg #[.int .i64 3, .slice (some ⟨b, 0, none⟩) 1 1]] W fun e w' => e = .returned (.bool true) ∧ Below W.heap.size W w'
end Go.Proofs.Ytmikcfddipldnaa.Sets
namespace Go.Proofs.Ytmikcfddipldnaa.GAll
open Go.RowKit Go.Proofs.YtmikcfddipldnaaW.PrintWords Go.Proofs.YtmikcfddipldnaaW.PrintLast Go.Proofs.YtmikcfddipldnaaW.PrintMore
attribute [local go_sem] max2_int min2_int max_two min_two max_three min_three max_four min_four   -- for this text's walks alone
set_option linter.unusedVariables false
set_option linter.unusedSimpArgs false
def errW : Option Int → Value
 | none => .nilIface
 | some c => .iface 0 (.int .i64 c)
theorem errW_none : errW none = .nilIface := rfl
theorem errW_some (c : Int) : errW (some c) = .iface 0 (.int .i64 c) := rfl
theorem info3 : (Try.prog.info? 3).map (fun i => (i.zero, i.size, i.bytes)) = some (some (.int .i64 0), 1, 8) := by kernel_rfl
theorem info4 : (Try.prog.info? 4).map (fun i => (i.zero, i.size, i.bytes)) = some (some (.bool false), 1, 1) := by kernel_rfl
theorem info36 : (Try.prog.info? 36).map (fun i => (i.zero, i.size, i.bytes)) = some (some (.slice none 0 0), 1, 24) := by kernel_rfl
theorem info56 : (Try.prog.info? 56).map (fun i => (i.zero, i.size, i.bytes)) = some (some (.agg #[(.int .i64 0), (.int .i64 0)]), 2, 16) := by kernel_rfl
structure S56 where
 f0 : Int
 f1 : Int
def z56 : S56 := ⟨(0 : Int), (0 : Int)⟩
def k56 : Kd S56 := Kd.iso (Kd.pair (Kd.int .i64) (Kd.int .i64)) (fun x : S56 => (x.f0, x.f1))
theorem k56_open {w : World} {x : S56} {cs : List Value} (h : k56.K w x cs) : cs = [.int .i64 x.f0, .int .i64 x.f1] := by
 obtain ⟨_, _, rfl, rfl, rfl⟩ := h
 exact rfl
theorem k56_mkM (w : World) (base : Nat) (ok : Nat → Prop) (x : S56)  : k56.M w base ok x [.int .i64 x.f0, .int .i64 x.f1] := ⟨[.int .i64 x.f0], [.int .i64 x.f1], rfl, rfl, rfl⟩
def rd_T56 (xs : List S56) (i : Int) : S56 := xs.getD i.toNat z56
theorem at_T56 {w : World} {A : Option Addr} {n : Nat} {xs : List S56} (h : Kd.C k56 w A n xs) (i : Int) (h0 : 0 ≤ i) (h1 : i < n) : ∃ ad , A = some ad ∧ w.cell? (ad.add (i.toNat * 2)) = some (.int .i64 (rd_T56 xs i).f0) ∧ w.cell? ⟨(ad.add (i.toNat * 2)).block, (ad.add (i.toNat * 2)).off + 1, none⟩ = some (.int .i64 (rd_T56 xs i).f1) := by
 obtain ⟨ad, c, e, _, hK, hc0⟩ := Kd.C_get h z56 i h0 h1
 have hc : ∀ j u, c[j]? = some u → w.cell? (ad.add (i.toNat * 2 + j)) = some u := hc0
 obtain rfl := k56_open hK
 exact ⟨ad, e, hc 0 _ rfl, by rw [← add_field _ _ 1 (by omega)]; exact hc 1 _ rfl⟩
def rd_L2 (xs : List (List S56)) (i : Int) : (List S56) := xs.getD i.toNat ([] : List S56)
structure S24 where
 f0 : Int
 f1 : (List S56)
def z24 : S24 := ⟨(0 : Int), ([] : List S56)⟩
def k24 : Kd S24 := Kd.iso (Kd.pair (Kd.int .i64) (Kd.slice 56 k56)) (fun x : S24 => (x.f0, x.f1))
def rd_T24 (xs : List S24) (i : Int) : S24 := xs.getD i.toNat z24
def rd_L5 (xs : List (List Int)) (i : Int) : (List Int) := xs.getD i.toNat ([] : List Int)
theorem at_L5 {w : World} {A : Option Addr} {n : Nat} {xs : List (List Int)} (h : Kd.C (Kd.slice 3 (Kd.int .i64)) w A n xs) (i : Int) (h0 : 0 ≤ i) (h1 : i < n) : ∃ ad A0 c0, A = some ad ∧ w.cell? (ad.add i.toNat) = some (.slice A0 (rd_L5 xs i).length c0) ∧ (rd_L5 xs i).length ≤ c0 ∧ (Kd.int .i64).C w A0 (rd_L5 xs i).length (rd_L5 xs i) := by
 obtain ⟨ad, c, e, _, hK, hc0⟩ := Kd.C_get h ([] : List Int) i h0 h1
 have hc : ∀ j u, c[j]? = some u → w.cell? (ad.add (i.toNat * 1 + j)) = some u := hc0
 obtain ⟨A0, c0, rfl, l0, g0⟩ := hK
 exact ⟨ad, A0, c0, e, by have hq := hc 0 _ rfl; rwa [Nat.mul_one, Nat.add_zero] at hq, l0, g0⟩
def rd_L6 (xs : List (List (List Int))) (i : Int) : (List (List Int)) := xs.getD i.toNat ([] : List (List Int))
end Go.Proofs.Ytmikcfddipldnaa.GAll
namespace Go.Proofs.Ytmikcfddipldnaa.GAll
open Go.RowKit Go.Proofs.YtmikcfddipldnaaW.PrintWords Go.Proofs.YtmikcfddipldnaaW.PrintLast Go.Proofs.YtmikcfddipldnaaW.PrintMore
attribute [local go_sem] max2_int min2_int max_two min_two max_three min_three max_four min_four   -- for this text's walks alone
set_option linter.unusedVariables false
set_option linter.unusedSimpArgs false
theorem simple_Valid.pairs {w : World} {A : Option Addr} {l : List S56} (h : Kd.C k56 w A l.length l) : Mem.Pairs w A (l.map fun x => (x.f0, x.f1)) := by
 intro i hi
 rw [List.length_map] at hi
 obtain ⟨ad, e, h1, h2⟩ := at_T56 h (i : Int) (by omega) (by omega)
 have e2 : Mem.pe (l.map fun x => (x.f0, x.f1)) i = ((rd_T56 l (i : Int)).f0, (rd_T56 l (i : Int)).f1) := by
   unfold Mem.pe rd_T56
   simp [List.getD_eq_getElem?_getD, hi]
 rw [e2]
 exact ⟨ad, e, h1, h2⟩
def simple_Valid.f (k : Nat) (a0_0 : Int) (l0_1 : List S56) : Option Bool := some (ValH.goodB a0_0 (l0_1.map fun x => (x.f0, x.f1)))
theorem simple_Valid.mono : ∀ a0 a1 k, LeO (simple_Valid.f k a0 a1) (simple_Valid.f (k + 1) a0 a1) := fun _ _ _ => LeO.refl _
theorem simple_Valid.calls (k : Nat) (a0_0 : Int) (A0_1 : Option Addr) (c0_1 : Nat) (l0_1 : List (S56)) (r : Bool) (w : World) (hr0_1 : Kd.C k56 w A0_1 l0_1.length l0_1) (hc0_1 : l0_1.length ≤ c0_1) (h : simple_Valid.f k a0_0 l0_1 = some r) :
   Calls Try.prog 35 #[.agg #[.int .i64 a0_0, .slice A0_1 l0_1.length c0_1]] w fun e w' => e = .returned (.bool r) ∧ Below w.heap.size w w' := by
 obtain rfl : ValH.goodB a0_0 (l0_1.map fun x => (x.f0, x.f1)) = r := by simpa [simple_Valid.f] using h
 have key := ValH.simple_calls a0_0 A0_1 c0_1 (l0_1.map fun x => (x.f0, x.f1)) w (simple_Valid.pairs hr0_1) (by rw [List.length_map]; exact hc0_1)
 rw [List.length_map] at key
 exact key
end Go.Proofs.Ytmikcfddipldnaa.GAll
namespace Go.Proofs.Ytmikcfddipldnaa.GAll
open Go.RowKit Go.Proofs.YtmikcfddipldnaaW.PrintWords Go.Proofs.YtmikcfddipldnaaW.PrintLast Go.Proofs.YtmikcfddipldnaaW.PrintMore
attribute [local go_sem] max2_int min2_int max_two min_two max_three min_three max_four min_four   -- for this text's walks alone
set_option linter.unusedVariables false
set_option linter.unusedSimpArgs false
theorem tangramref11_Check.pairs {w : World} {A : Option Addr} {l : List S56} (h : Kd.C k56 w A l.length l) : Mem.Pairs w A (l.map fun x => (x.f0, x.f1)) := by
 intro i hi
 rw [List.length_map] at hi
 obtain ⟨ad, e, h1, h2⟩ := at_T56 h (i : Int) (by omega) (by omega)
 have e2 : Mem.pe (l.map fun x => (x.f0, x.f1)) i = ((rd_T56 l (i : Int)).f0, (rd_T56 l (i : Int)).f1) := by
   unfold Mem.pe rd_T56
   simp [List.getD_eq_getElem?_getD, hi]
 rw [e2]
 exact ⟨ad, e, h1, h2⟩
def tangramref11_Check.f (k : Nat) (a0_0 : Int) (l0_1 : List S56) (l1 : List (List Int)) : Option (Int × Int) :=
 if (l1.all fun row => decide (row.length * 8 ≤ 140737488351232)) = true then some (Graph.checkR a0_0 (l0_1.map fun x => (x.f0, x.f1)) l1) else none
theorem tangramref11_Check.mono : ∀ a0 a1 a2 k, LeO (tangramref11_Check.f k a0 a1 a2) (tangramref11_Check.f (k + 1) a0 a1 a2) := fun _ _ _ _ => LeO.refl _
theorem tangramref11_Check.small {r : List (List Int)} (h : (r.all fun row => decide (row.length * 8 ≤ 140737488351232)) = true) : ∀ v, v < r.length → (Mem.gl r v).length ≤ 18000000000000 := by
 intro v hv
 rw [List.all_eq_true] at h
 have hm : Mem.gl r v ∈ r := by
   unfold Mem.gl
   rw [List.getD_eq_getElem?_getD, List.getElem?_eq_getElem hv]
   exact List.getElem_mem hv
 have := of_decide_eq_true (h _ hm)
 omega
end Go.Proofs.Ytmikcfddipldnaa.GAll
namespace Go.Proofs.Ytmikcfddipldnaa.GAll
open Go.RowKit Go.Proofs.YtmikcfddipldnaaW.PrintWords Go.Proofs.YtmikcfddipldnaaW.PrintLast Go.Proofs.YtmikcfddipldnaaW.PrintMore
attribute [local go_sem] max2_int min2_int max_two min_two max_three min_three max_four min_four   -- for this text's walks alone
set_option linter.unusedVariables false
set_option linter.unusedSimpArgs false
def tangramref11_Next.fit (m : Nat) (r : List (List Int)) : Bool := decide (m ≤ 4194304) && (decide (r.length ≤ 1048576) && r.all fun row => decide (row.length ≤ 8388608) && row.all fun h => decide (0 ≤ h ∧ h < ((2 * m : Nat) : Int)))
def tangramref11_Next.f (k : Nat) (a0_0 : Int) (l0_1 : List S56) (l1 : List (List Int)) : Option (List Int × Int) := (tangramref11_Check.f k a0_0 l0_1 l1).bind fun t => if t.2 = 0 then (if tangramref11_Next.fit l0_1.length l1 = true then some (Graph.nxL l1 (2 * l0_1.length), 0) else none) else some ([], t.2)
theorem tangramref11_Next.mono : ∀ a0 a1 a2 k, LeO (tangramref11_Next.f k a0 a1 a2) (tangramref11_Next.f (k + 1) a0 a1 a2) := by
 intro a0 a1 a2 k
 unfold tangramref11_Next.f
 exact LeO.bind (tangramref11_Check.mono _ _ _ _) (fun _ => LeO.refl _)
theorem tangramref11_Next.at_ {m : Nat} {r : List (List Int)} (h : tangramref11_Next.fit m r = true) : m ≤ 4194304 ∧ r.length ≤ 1048576 ∧ (∀ v, v < r.length → (Mem.gl r v).length ≤ 8388608) ∧ ∀ v i, v < r.length → i < (Mem.gl r v).length → 0 ≤ Mem.gi (Mem.gl r v) i ∧ Mem.gi (Mem.gl r v) i < ((2 * m : Nat) : Int) := by
 unfold tangramref11_Next.fit at h
 rw [Bool.and_eq_true, Bool.and_eq_true, List.all_eq_true, decide_eq_true_eq, decide_eq_true_eq] at h
 have hm : ∀ v, v < r.length → Mem.gl r v ∈ r := fun v hv => by
   unfold Mem.gl
   rw [List.getD_eq_getElem?_getD, List.getElem?_eq_getElem hv]
   exact List.getElem_mem hv
 refine ⟨h.1, h.2.1, fun v hv => ?_, fun v i hv hi => ?_⟩
 · have h2 := h.2.2 _ (hm v hv)
   rw [Bool.and_eq_true, decide_eq_true_eq] at h2
   exact h2.1
 · have h2 := h.2.2 _ (hm v hv)
   rw [Bool.and_eq_true, List.all_eq_true] at h2
   have h3 : Mem.gi (Mem.gl r v) i ∈ Mem.gl r v := by
     unfold Mem.gi
     rw [List.getD_eq_getElem?_getD, List.getElem?_eq_getElem hi]
     exact List.getElem_mem hi
   exact of_decide_eq_true (h2.2 _ h3)
end Go.Proofs.Ytmikcfddipldnaa.GAll
namespace Go.Proofs.Ytmikcfddipldnaa.GAll
open Go.RowKit Go.Proofs.YtmikcfddipldnaaW.PrintWords Go.Proofs.YtmikcfddipldnaaW.PrintLast Go.Proofs.YtmikcfddipldnaaW.PrintMore
attribute [local go_sem] max2_int min2_int max_two min_two max_three min_three max_four min_four   -- for this text's walks alone
set_option linter.unusedVariables false
set_option linter.unusedSimpArgs false
def tangramref03_Twin.f (a0 : Int) : Option (Int) := if (Int.tmod a0 2) = 0 then (some (wrap64 (a0 + 1))) else (some (wrap64 (a0 - 1)))
end Go.Proofs.Ytmikcfddipldnaa.GAll
namespace Go.Proofs.Ytmikcfddipldnaa.GAll
open Go.RowKit Go.Proofs.YtmikcfddipldnaaW.PrintWords Go.Proofs.YtmikcfddipldnaaW.PrintLast Go.Proofs.YtmikcfddipldnaaW.PrintMore
attribute [local go_sem] max2_int min2_int max_two min_two max_three min_three max_four min_four   -- for this text's walks alone
set_option linter.unusedVariables false
set_option linter.unusedSimpArgs false
def tangramref12_Step.l0 : Nat → List Int → Int → List Int → Int → Option (List Int × Int)
 | 0, _, _, _, _ => none
 | k + 1, x6, x7, x8, x9 => if x9 < (x6.length : Int) then ((tangramref03_Twin.f x9).bind fun t174 => (if 0 ≤ t174 then (if t174 < (x6.length : Int) then (if x8.length < 17592186044416 then (tangramref12_Step.l0 k x6 x7 (x8 ++ [rd x6 t174]) (wrap64 (x9 + 1))) else (none)) else (none)) else (none))) else (some (x8, x7))
def tangramref12_Step.f (k : Nat) (a0_0 : Int) (l0_1 : List (S56)) (l1 : List (List Int)) : Option (List Int × Int) := (tangramref11_Next.f k a0_0 l0_1 l1).bind fun bt170 => (tangramref12_Step.l0 k bt170.1 bt170.2 ([] : List Int) 0)
theorem tangramref12_Step.mono_l : ∀ k, (∀ y0 y1 y2 y3, LeO (tangramref12_Step.l0 k y0 y1 y2 y3) (tangramref12_Step.l0 (k + 1) y0 y1 y2 y3))
 | 0 => fun _ _ _ _ r h => by simp [tangramref12_Step.l0] at h
 | k + 1 => by
   have ih0 := tangramref12_Step.mono_l k
   · intro y0 y1 y2 y3
     unfold tangramref12_Step.l0
     repeat' first
     | (with_reducible exact ih0 _ _ _ _)
     | (with_reducible exact tangramref11_Next.mono _ _ _ _)
     | (with_reducible exact LeO.refl _)
     | (with_reducible exact LeO.none _)
     | (with_reducible refine LeO.ite ?_ ?_)
     | (with_reducible refine LeO.bind ?_ (fun _ => ?_))
     | exact ih0 _ _ _ _
     | exact tangramref11_Next.mono _ _ _ _
     | exact LeO.none _
     | refine LeO.ite ?_ ?_
     | refine LeO.bind ?_ (fun _ => ?_)
theorem tangramref12_Step.mono : ∀ a0 a1 a2 k, LeO (tangramref12_Step.f k a0 a1 a2) (tangramref12_Step.f (k + 1) a0 a1 a2) := by
 intro a0 a1 a2 k
 have ih0 := tangramref12_Step.mono_l k
 unfold tangramref12_Step.f
 repeat' first
     | (with_reducible exact ih0 _ _ _ _)
     | (with_reducible exact tangramref11_Next.mono _ _ _ _)
     | (with_reducible exact LeO.refl _)
     | (with_reducible exact LeO.none _)
     | (with_reducible refine LeO.ite ?_ ?_)
     | (with_reducible refine LeO.bind ?_ (fun _ => ?_))
     | exact ih0 _ _ _ _
     | exact tangramref11_Next.mono _ _ _ _
     | exact LeO.none _
     | refine LeO.ite ?_ ?_
     | refine LeO.bind ?_ (fun _ => ?_)
end Go.Proofs.Ytmikcfddipldnaa.GAll
namespace Go.Proofs.Ytmikcfddipldnaa.GAll
open Go.RowKit Go.Proofs.YtmikcfddipldnaaW.PrintWords Go.Proofs.YtmikcfddipldnaaW.PrintLast Go.Proofs.YtmikcfddipldnaaW.PrintMore
attribute [local go_sem] max2_int min2_int max_two min_two max_three min_three max_four min_four   -- for this text's walks alone
set_option linter.unusedVariables false
set_option linter.unusedSimpArgs false
def tangramref12_Of.f (k : Nat) (a0_0 : Int) (l0_1 : List S56) (l1 : List (List Int)) : Option (List (List Int) × Int) := (tangramref12_Step.f k a0_0 l0_1 l1).bind fun t => if t.2 = 0 then (if Face.fitsB t.1 = true then some (Face.facesL t.1, 0) else none) else some ([], t.2)
theorem tangramref12_Of.mono : ∀ a0 a1 a2 k, LeO (tangramref12_Of.f k a0 a1 a2) (tangramref12_Of.f (k + 1) a0 a1 a2) := by
 intro a0 a1 a2 k
 unfold tangramref12_Of.f
 exact LeO.bind (tangramref12_Step.mono _ _ _ _) (fun _ => LeO.refl _)
def tangramref12_Left.f (k : Nat) (a0_0 : Int) (l0_1 : List S56) (l1 : List (List Int)) : Option (List Int × Int) := (tangramref12_Of.f k a0_0 l0_1 l1).bind fun t => if t.2 = 0 then (if Face.fitL t.1 l0_1.length = true then some (Face.leftL t.1 (2 * l0_1.length), 0) else none) else some ([], t.2)
theorem tangramref12_Left.mono : ∀ a0 a1 a2 k, LeO (tangramref12_Left.f k a0 a1 a2) (tangramref12_Left.f (k + 1) a0 a1 a2) := by
 intro a0 a1 a2 k
 unfold tangramref12_Left.f
 exact LeO.bind (tangramref12_Of.mono _ _ _ _) (fun _ => LeO.refl _)
theorem tangramref03_Valid.pairs {w : World} {A : Option Addr} {l : List S56} (h : Kd.C k56 w A l.length l) : Mem.Pairs w A (l.map fun x => (x.f0, x.f1)) := by
 intro i hi
 rw [List.length_map] at hi
 obtain ⟨ad, e, h1, h2⟩ := at_T56 h (i : Int) (by omega) (by omega)
 have e2 : Mem.pe (l.map fun x => (x.f0, x.f1)) i = ((rd_T56 l (i : Int)).f0, (rd_T56 l (i : Int)).f1) := by
   unfold Mem.pe rd_T56
   simp [List.getD_eq_getElem?_getD, hi]
 rw [e2]
 exact ⟨ad, e, h1, h2⟩
def tangramref03_Valid.f (k : Nat) (a0_0 : Int) (l0_1 : List S56) : Option Bool := some (ValH.goodB a0_0 (l0_1.map fun x => (x.f0, x.f1)))
theorem tangramref03_Valid.mono : ∀ a0 a1 k, LeO (tangramref03_Valid.f k a0 a1) (tangramref03_Valid.f (k + 1) a0 a1) := fun _ _ _ => LeO.refl _
end Go.Proofs.Ytmikcfddipldnaa.GAll
namespace Go.Proofs.Ytmikcfddipldnaa.PureV
open Go.RowKit Go.Proofs.YtmikcfddipldnaaW.PrintWords Go.Proofs.YtmikcfddipldnaaW.PrintLast Go.Proofs.YtmikcfddipldnaaW.PrintMore Go.Proofs.Ytmikcfddipldnaa.GAll
set_option linter.unusedVariables false
set_option linter.unusedSimpArgs false
abbrev E := S56
abbrev rdE := rd_T56
def okE (n : Int) (x : E) : Prop := 0 ≤ x.f0 ∧ x.f0 < x.f1 ∧ x.f1 < n
def lt (x y : E) : Prop := x.f0 < y.f0 ∨ (x.f0 = y.f0 ∧ x.f1 < y.f1)
def Ok (n : Int) (l : List E) (i : Nat) : Prop := okE n (rdE l (i : Nat)) ∧ (0 < i → lt (rdE l ((i - 1 : Nat) : Int)) (rdE l (i : Nat)))
def Good (n : Int) (l : List E) : Prop := 0 ≤ n ∧ n ≤ 1048576 ∧ l.length ≤ 4194304 ∧ ∀ i, i < l.length → Ok n l i
instance (n x) : Decidable (okE n x) := by unfold okE; infer_instance
instance (x y) : Decidable (lt x y) := by unfold lt; infer_instance
instance (n l i) : Decidable (Ok n l i) := by unfold Ok; infer_instance
theorem wadd {i : Nat} (h : i ≤ 9000000) : wrap64 ((i : Int) + 1) = ((i + 1 : Nat) : Int) := by rw [IntWalk.wrap64_in _ (by omega)]; omega
theorem pe_rd {l : List E} {i : Nat} (h : i < l.length) : Mem.pe (l.map fun x => (x.f0, x.f1)) i = ((rdE l (i : Nat)).f0, (rdE l (i : Nat)).f1) := by
 unfold Mem.pe rdE rd_T56
 simp [List.getD_eq_getElem?_getD, h]
theorem ok_at {n : Int} {l : List E} {i : Nat} (h : i < l.length) : ValH.OkAt n (l.map fun x => (x.f0, x.f1)) i ↔ Ok n l i := by
 unfold ValH.OkAt Ok okE lt ValH.okP ValH.ltP
 rw [pe_rd h, pe_rd (show i - 1 < l.length by omega), decide_eq_true_eq, decide_eq_true_eq]
theorem good_iff (n : Int) (l : List E) : ValH.goodB n (l.map fun x => (x.f0, x.f1)) = true ↔ Good n l := by
 rw [ValH.goodB_iff, List.length_map]
 unfold Good
 constructor
 · rintro ⟨a, b, c, d⟩; exact ⟨a, b, c, fun i hi => (ok_at hi).1 (d i hi)⟩
 · rintro ⟨a, b, c, d⟩; exact ⟨a, b, c, fun i hi => (ok_at hi).2 (d i hi)⟩
theorem valid (n : Int) (l : List E) : ∃ b : Bool, Ev (fun k => simple_Valid.f k n l) b ∧ Ev (fun k => tangramref03_Valid.f k n l) b ∧ (b = true ↔ Good n l) := ⟨_, Ev.now _, Ev.now _, good_iff n l⟩
end Go.Proofs.Ytmikcfddipldnaa.PureV
