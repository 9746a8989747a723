/- DERIVED. Texts of this seat, one behind the other: lemmas and walks that the statement CanonNames needs. No condition. -/
import Derived.Test.YteeihjpnhjnknaaCCanonNamesb
import Derived.Defers
import Derived.Recover
import Derived.WalkLawsBesides
import Derived.Test.YteeihjpnhjnknaaCCanonNamesc
import Derived.StillTailTactics
import Derived.Test.YteeihjpnhjnknaaCCanonNamesd
import Derived.Test.YteeihjpnhjnknaaProg
import Derived.Below
import Derived.Deep.Draws
import Derived.Deep.AppendLies
import Derived.Maps.AppendAt
import Derived.OwnWalk
import Derived.Laws.BytesArg
import Derived.Laws.MakeOwn
import Derived.Laws.OwnMore
import Derived.Deep.OwnRows
import Derived.Tactics
import Derived.Lib.ConvBytes
import Derived.Laws.Slices
import Derived.WalkKit
import Derived.KernelRfl
import Derived.RowKit3
import Derived.Deep.LoopGhost
import Derived.Deep.QuietTactic
import Derived.BigQuiet
import Derived.WideLaws
import Derived.Deep.DeepCutAuto
import Derived.Deep.CutBlock
import Derived.Deep.RegionHeld3
import Derived.Laws.Rows
import Derived.Lib.AppendStr
import Derived.ArgAppend
import Derived.Laws.IdiomCopy
import Derived.OrdersHeld
import Derived.Laws.BitsLemmas
import Derived.RowKit
import Derived.Test.YteeihjpnhjnknaaCCanonNamesa
namespace Go.Proofs.Yteeihjpnhjnknaa.Rot
open Go.RowKit Go.Proofs.YteeihjpnhjnknaaW.PrintWords Go.Proofs.YteeihjpnhjnknaaW.PrintLast Go.Proofs.YteeihjpnhjnknaaW.PrintMore Go.Proofs.Yteeihjpnhjnknaa.Mem
set_option linter.unusedVariables false
set_option linter.unusedSimpArgs false
theorem must_yes (v e : Int) (w : World) : Calls Try.prog 84 #[.bool true, .int .i64 v, .int .i64 e] w fun x w' => x = .returned (.tuple #[]) ∧ w = w' := by
 go_enter Try.func84, Try.ntmps84
 go_wp2
 go_end0
 exact ⟨rfl, rfl⟩
theorem must_no (v e : Int) (w : World) : Calls Try.prog 84 #[.bool false, .int .i64 v, .int .i64 e] w fun x w' => x = .panicked [{ v := .iface 117 (.agg #[.int .i64 v, .int .i64 e]), recovered := false }] ∧ w = w' := by
 go_enter Try.func84, Try.ntmps84
 go_wp2
 exact ⟨rfl, rfl, rfl⟩
def fault (v e : Int) : Value := .iface 117 (.agg #[.int .i64 v, .int .i64 e])
theorem assert_fault (v e : Int) (w : World) : (Instr.typeAssert (.iface 117 (.agg #[.int .i64 v, .int .i64 e])) 20 117 true).run Try.prog w = .ok (.tuple #[.agg #[.int .i64 v, .int .i64 e], .bool true]) w := by kernel_rfl
theorem wp_act {P : Program} {c : Code} {Q : Exit → Act → World → Prop} {a a' : Act} {w : World} (h : a = a') (hw : c.wp P Q a' w) : c.wp P Q a w := h ▸ hw
def Caught (p q : Nat) (v e : Int) (older : List PanicEntry) (w : World) (z : Ending) (u' : FrameMode) (w' : World) : Prop :=
 z = .returned (.tuple #[]) ∧ u' = .panicking ({ v := fault v e, recovered := true } :: older) ∧ w'.heap[p]? = some (.cells #[.int .i64 v] 3 (0, 0)) ∧ w'.heap[q]? = some (.cells #[.int .i64 e] 33 (0, 0)) ∧ Mem.Frame (fun k => k = p ∨ k = q) w w'
set_option maxHeartbeats 1000000 in
set_option maxRecDepth 100000 in
theorem catch_fault (p q : Nat) (v e x y : Int) (older : List PanicEntry) (w : World) (hpq : p ≠ q) (hp : w.heap[p]? = some (.cells #[.int .i64 x] 3 (0, 0))) (hq : w.heap[q]? = some (.cells #[.int .i64 y] 33 (0, 0))) :
  CallsD Try.prog 83 #[.pointer (some ⟨p, 0, none⟩), .pointer (some ⟨q, 0, none⟩)] (.panicking ({ v := fault v e, recovered := false } :: older)) w (Caught p q v e older w) := by
 have HP := Aside0.mk hp
 have HQ0 := Aside0.mk hq
 have c1 : w.cell? ⟨p, 0, none⟩ = some (.int .i64 x) := heap_cell hp rfl
 have c2 : w.cell? ⟨q, 0, none⟩ = some (.int .i64 y) := heap_cell hq rfl
 have f1 : w.frozen? ⟨p, 0, none⟩ = false := heap_free hp 0
 have f2 : w.frozen? ⟨q, 0, none⟩ = false := heap_free hq 0
 clear hp hq
 unfold fault
 refine callsD_of_wpS Try.func83 rfl fun c₀ cs hu => ?_
 apply wpS_seq
 apply wpS_region
 simp [wpOpsS, go_sem, recoverD, hu, Try.ntmps83, Exit.thenS]
 refine wpS_of_wp ?_
 clear hu
 let Q : Exit → Act → World → Prop := fun z a' w' => bodyPostS Try.prog Try.f83 c₀ cs (Caught p q v e older w) z a' ({ c₀ with mode := .panicking ({ v := fault v e, recovered := true } :: older) } :: cs) w'
 refine wp_act (Q := Q) (a' := ⟨#[.pointer (some ⟨p, 0, none⟩), .pointer (some ⟨q, 0, none⟩), .iface 117 (.agg #[.int .i64 v, .int .i64 e]), undef, undef, .iface 117 (.agg #[.int .i64 v, .int .i64 e]), undef, undef, undef, undef, undef, undef, undef, undef, undef, undef, undef, undef, undef, undef], []⟩) (by kernel_rfl) ?_
 have hta := assert_fault v e
 go_wp2_with fail
 clear hta c1 c2 f1 f2
 have HF1 : Aside0 (Mem.Frame (fun k => k = p ∨ k = q) w (w.alloc (.cells #[.int .i64 v, .int .i64 e] 117))) := ⟨(Mem.Frame.refl _ _).alloc _⟩
 have HP1 := Aside0.mk (heap_old HP.out (.cells #[.int .i64 v, .int .i64 e] 117))
 have HQ1 := Aside0.mk (heap_old HQ0.out (.cells #[.int .i64 v, .int .i64 e] 117))
 have HB1 := Aside0.mk (heap_last w (.cells #[.int .i64 v, .int .i64 e] 117))
 have hlp : p < w.heap.size := lt_of HP.out
 have hlq : q < w.heap.size := lt_of HQ0.out
 obtain ⟨b, hb⟩ : ∃ b, b = w.heap.size := ⟨_, rfl⟩
 rw [← hb] at hlp hlq HB1 ⊢
 clear hb
 generalize w.alloc (.cells #[.int .i64 v, .int .i64 e] 117) = w1 at HF1 HP1 HQ1 HB1 ⊢
 have c1 : w1.cell? ⟨p, 0, none⟩ = some (.int .i64 x) := heap_cell HP1.out rfl
 have c2 : w1.cell? ⟨q, 0, none⟩ = some (.int .i64 y) := heap_cell HQ1.out rfl
 have f1 : w1.frozen? ⟨p, 0, none⟩ = false := heap_free HP1.out 0
 have f2 : w1.frozen? ⟨q, 0, none⟩ = false := heap_free HQ1.out 0
 have d1 : w1.cell? ⟨b, 0, none⟩ = some (.int .i64 v) := heap_cell HB1.out rfl
 have d2 : w1.cell? ⟨b, 1, none⟩ = some (.int .i64 e) := heap_cell HB1.out rfl
 refine start_ (n := 6) (S := fun w' => w'.cell? ⟨b, 0, none⟩ = some (.int .i64 v) ∧ w'.cell? ⟨b, 1, none⟩ = some (.int .i64 e)) (ds := [5]) #[false, false, false, false, false, false] (by kernel_rfl) rfl rfl ⟨d1, d2⟩ (fun hHeld => ?_)
 refine pure_ (i := 0) (N := some 16) (v := ?_) (a' := ?_) #[true, false, false, false, false, false] rfl rfl (by kernel_rfl) (fun _ _ _ h => h) (Or.inl ⟨by rfl, ?_⟩) ?_ ?_
 rotate_left
 ·intro w'
  go_simp
  with_reducible rfl
 rotate_left
 ·simp only [Act.put, List.setIfInBounds_toArray, List.set_cons_zero, List.set_cons_succ, i64_w, i32_w]
  rfl
 refine pure_ (i := 2) (N := some 18) (v := ?_) (a' := ?_) #[true, false, true, false, false, false] rfl rfl (by kernel_rfl) (fun _ _ _ h => h) (Or.inl ⟨by rfl, ?_⟩) ?_ ?_
 rotate_left
 ·intro w'
  go_simp
  with_reducible rfl
 rotate_left
 ·simp only [Act.put, List.setIfInBounds_toArray, List.set_cons_zero, List.set_cons_succ, i64_w, i32_w]
  rfl
 refine take_ (i := 1) (N := some 17) (v := ?_) (a' := ?_) #[true, true, true, false, false, false] rfl rfl (by kernel_rfl) (fun _ _ _ h => h) (Or.inl ⟨by rfl, ?_⟩) hHeld ?_ ?_
 rotate_left
 ·rintro w' ⟨s0, s1⟩
  go_simp
  with_reducible rfl
 rotate_left
 ·simp only [Act.put, List.setIfInBounds_toArray, List.set_cons_zero, List.set_cons_succ, i64_w, i32_w]
  rfl
 refine take_ (i := 3) (N := some 19) (v := ?_) (a' := ?_) #[true, true, true, true, false, false] rfl rfl (by kernel_rfl) (fun _ _ _ h => h) (Or.inl ⟨by rfl, ?_⟩) hHeld ?_ ?_
 rotate_left
 ·rintro w' ⟨s0, s1⟩
  go_simp
  with_reducible rfl
 rotate_left
 ·simp only [Act.put, List.setIfInBounds_toArray, List.set_cons_zero, List.set_cons_succ, i64_w, i32_w]
  rfl
 refine one_ (i := 4) (N := none) #[true, true, true, true, true, false] rfl rfl (by kernel_rfl) (by decide) (fun K hK => ?_)
 obtain ⟨e1, e2⟩ := hHeld
 refine skip_ (w1 := ?_) (by rfl) rfl ?_ ?_
 rotate_left
 ·go_simp
  rfl
 refine hK.out _ _ ⟨cell_ne e1 _ (show b ≠ p by omega), cell_ne e2 _ (show b ≠ p by omega)⟩ (fun hHeld => ?_)
 clear hK K
 refine last_ (i := 5) (N := none) #[true, true, true, true, true, true] rfl rfl (by kernel_rfl) (by decide) (fun K hK => ?_)
 refine skip_ (w1 := ?_) (by rfl) rfl ?_ ?_
 rotate_left
 ·go_simp
  rfl
 refine hK.out _ _ ?_
 clear hK K
 refine done_ (by kernel_rfl) ?_
 go_wp2_with fail
 have g1 := heap_ne (b := q) (i := 0) (v := .int .i64 e) (heap_set (i := 0) HP1.out (.int .i64 v)) hpq
 have g2 := heap_set (i := 0) (heap_ne (b := p) (i := 0) (v := .int .i64 v) HQ1.out (Ne.symm hpq)) (.int .i64 e)
 have g3 := ((HF1.out.setCell (p := ⟨p, 0, none⟩) (.inl rfl) (.int .i64 v)).setCell (p := ⟨q, 0, none⟩) (.inr rfl) (.int .i64 e)).drew
 exact ⟨rfl, _, rfl, .tuple #[], by simp [results, Try.results83], rfl, rfl, g1, g2, g3⟩
theorem catch_idle (p q : Nat) (w : World) :
  CallsD Try.prog 83 #[.pointer (some ⟨p, 0, none⟩), .pointer (some ⟨q, 0, none⟩)] .returning w fun z u' w' => z = .returned (.tuple #[]) ∧ u' = .returning ∧ w = w' := by
 refine callsD_of_wpS Try.func83 rfl fun c₀ cs hu => ?_
 apply wpS_seq
 apply wpS_region
 simp [wpOpsS, go_sem, recoverD, hu, Try.ntmps83, Exit.thenS]
 refine wpS_of_wp ?_
 let Q : Exit → Act → World → Prop := fun z a' w' => bodyPostS Try.prog Try.f83 c₀ cs (fun z u' w' => z = .returned (.tuple #[]) ∧ u' = .returning ∧ w = w') z a' (c₀ :: cs) w'
 have HU := Aside0.mk hu
 clear hu
 refine wp_act (Q := Q) (a' := ⟨#[.pointer (some ⟨p, 0, none⟩), .pointer (some ⟨q, 0, none⟩), .nilIface, undef, undef, .nilIface, undef, undef, undef, undef, undef, undef, undef, undef, undef, undef, undef, undef, undef, undef], []⟩) (by kernel_rfl) ?_
 go_wp2_with fail
 refine ⟨rfl, .returning, ?_, .tuple #[], by simp [results, Try.results83], rfl, rfl, rfl⟩
 rw [← HU.out]
def wCaught (w : World) : World := (w.alloc (.cells #[.int .i64 0] 3 (0, 0))).alloc (.cells #[.int .i64 0] 33 (0, 0))
def Two (w w2 w' : World) : Prop := Mem.Frame (fun k => k = w.heap.size ∨ k = w.heap.size + 1) w2 w'
set_option maxHeartbeats 1000000 in
set_option maxRecDepth 100000 in
theorem caught_ok (k : FuncId) (caps : Array Value) (w : World) (G : World → Prop) (hk : ∀ W, (callFunc k caps).run Try.prog W = .ok (.enter k caps) W) (h : Calls Try.prog k caps (wCaught w) fun z w2 => z = .returned (.tuple #[]) ∧ G w2)
  (hp : ∀ w2, G w2 → w2.heap[w.heap.size]? = some (.cells #[.int .i64 0] 3 (0, 0)) ∧ w2.heap[w.heap.size + 1]? = some (.cells #[.int .i64 0] 33 (0, 0))) :
  Calls Try.prog 76 #[.func (.func k) #[] caps] w fun z w' => z = .returned (.tuple #[.int .i64 0, .int .i64 0]) ∧ ∃ w2, G w2 ∧ Two w w2 w' := by
 have hmf : ∀ (fn : Fn) (first cap : Array Value) (w : World), (Instr.makeFunc fn first cap).run Try.prog w = .ok (.func fn first cap) w := fun _ _ _ _ => rfl
 have H := Aside0.mk h
 have HP := Aside0.mk hp
 clear h hp
 go_enter_defers Try.func76, Try.ntmps76
 go_wp2_with fail
 refine (H.out).mono ?_
 rintro z w2 ⟨rfl, hg⟩
 obtain ⟨g1, g2⟩ := HP.out w2 hg
 have HG := Aside0.mk hg
 have G1 := Aside0.mk g1
 have G2 := Aside0.mk g2
 clear H HP hg
 have c1 : w2.cell? ⟨w.heap.size, 0, none⟩ = some (.int .i64 0) := heap_cell g1 rfl
 have c2 : w2.cell? ⟨w.heap.size + 1, 0, none⟩ = some (.int .i64 0) := heap_cell g2 rfl
 have f1 : w2.frozen? ⟨w.heap.size, 0, none⟩ = false := heap_free g1 0
 have f2 : w2.frozen? ⟨w.heap.size + 1, 0, none⟩ = false := heap_free g2 0
 clear g1 g2
 go_wp2_with fail
 have n1 := heap_set (i := 0) (heap_ne (b := w.heap.size) (i := 0) (v := .int .i64 0) G2.out (by omega)) (.int .i64 0)
 have n2 := heap_ne (b := w.heap.size + 1) (i := 0) (v := .int .i64 0) (heap_set (i := 0) G1.out (.int .i64 0)) (by omega)
 have n3 : Two w w2 ((w2.setCell ⟨w.heap.size, 0, none⟩ (.int .i64 0)).setCell ⟨w.heap.size + 1, 0, none⟩ (.int .i64 0)) := ((Mem.Frame.refl _ w2).setCell (p := ⟨w.heap.size, 0, none⟩) (.inl rfl) (.int .i64 0)).setCell (p := ⟨w.heap.size + 1, 0, none⟩) (.inr rfl) (.int .i64 0)
 generalize (w2.setCell ⟨w.heap.size, 0, none⟩ (.int .i64 0)).setCell ⟨w.heap.size + 1, 0, none⟩ (.int .i64 0) = w3 at n1 n2 n3 ⊢
 refine leaves_cons (f := 83) (args := #[.pointer (some ⟨w.heap.size, 0, none⟩), .pointer (some ⟨w.heap.size + 1, 0, none⟩)]) (by simp) (by simp [go_sem]) ?_
 refine (catch_idle _ _ _).mono ?_
 rintro e u' w'' ⟨rfl, rfl, rfl⟩
 have m1 : w3.cell? ⟨w.heap.size, 0, none⟩ = some (.int .i64 0) := heap_cell n2 rfl
 have m2 : w3.cell? ⟨w.heap.size + 1, 0, none⟩ = some (.int .i64 0) := heap_cell n1 rfl
 refine ⟨.tuple #[.int .i64 0, .int .i64 0], by simp [results, Try.results76, go_sem, m1, m2], rfl, w2, HG.out, n3⟩
set_option maxHeartbeats 1000000 in
set_option maxRecDepth 100000 in
theorem caught_fault (k : FuncId) (caps : Array Value) (w : World) (v e : Int) (G : World → Prop) (hk : ∀ W, (callFunc k caps).run Try.prog W = .ok (.enter k caps) W) (h : Calls Try.prog k caps (wCaught w) fun z w2 => z = .panicked [{ v := fault v e, recovered := false }] ∧ G w2)
  (hp : ∀ w2, G w2 → w2.heap[w.heap.size]? = some (.cells #[.int .i64 0] 3 (0, 0)) ∧ w2.heap[w.heap.size + 1]? = some (.cells #[.int .i64 0] 33 (0, 0))) :
  Calls Try.prog 76 #[.func (.func k) #[] caps] w fun z w' => z = .returned (.tuple #[.int .i64 v, .int .i64 e]) ∧ ∃ w2, G w2 ∧ Two w w2 w' := by
 have hmf : ∀ (fn : Fn) (first cap : Array Value) (w : World), (Instr.makeFunc fn first cap).run Try.prog w = .ok (.func fn first cap) w := fun _ _ _ _ => rfl
 have H := Aside0.mk h
 have HP := Aside0.mk hp
 clear h hp
 go_enter_defers Try.func76, Try.ntmps76
 go_wp2_with fail
 refine (H.out).mono ?_
 rintro z w2 ⟨rfl, hg⟩
 obtain ⟨g1, g2⟩ := HP.out w2 hg
 have HG := Aside0.mk hg
 clear H HP hg
 go_wp2_with fail
 refine leaves_cons (f := 83) (args := #[.pointer (some ⟨w.heap.size, 0, none⟩), .pointer (some ⟨w.heap.size + 1, 0, none⟩)]) (by simp) (by simp [go_sem]) ?_
 refine (catch_fault _ _ v e 0 0 [] _ (by omega) g1 g2).mono ?_
 rintro e' u' w3 ⟨rfl, rfl, n1, n2, n3⟩
 have m1 : w3.cell? ⟨w.heap.size, 0, none⟩ = some (.int .i64 v) := heap_cell n1 rfl
 have m2 : w3.cell? ⟨w.heap.size + 1, 0, none⟩ = some (.int .i64 e) := heap_cell n2 rfl
 refine ⟨.tuple #[.int .i64 v, .int .i64 e], by simp [results, Try.results76, go_sem, m1, m2], rfl, w2, HG.out, n3⟩
end Go.Proofs.Yteeihjpnhjnknaa.Rot
namespace Go.Proofs.Yteeihjpnhjnknaa.Rot
open Go.RowKit Go.Proofs.YteeihjpnhjnknaaW.PrintWords Go.Proofs.YteeihjpnhjnknaaW.PrintLast Go.Proofs.YteeihjpnhjnknaaW.PrintMore Go.Proofs.Yteeihjpnhjnknaa.Mem
set_option linter.unusedVariables false
set_option linter.unusedSimpArgs false
def Gave (res : Int × Int) (z : Ending) : Prop := z = if res.2 = 0 then .returned (.tuple #[]) else .panicked [{ v := fault res.1 res.2, recovered := false }]
theorem Gave.fault {v e : Int} (he : e ≠ 0) : Gave (v, e) (.panicked [{ v := .iface 117 (.agg #[.int .i64 v, .int .i64 e]), recovered := false }]) := by
 unfold Gave Rot.fault
 rw [if_neg he]
theorem Gave.none : Gave (0, 0) (.returned (.tuple #[])) := rfl
def ValidSays (b : Bool) (n : Int) (A : Option Addr) (l c : Nat) (w : World) : Prop := ∀ w', Below w.heap.size w w' →
 Calls Try.prog 71 #[.agg #[.int .i64 n, .slice A l c]] w' fun e w'' => e = .returned (.bool b) ∧ Below w'.heap.size w' w''
def DegreesSays (ds : List Int) (n : Int) (A : Option Addr) (l c : Nat) (w : World) : Prop := ∀ w', Below w.heap.size w w' →
 Calls Try.prog 85 #[.agg #[.int .i64 n, .slice A l c]] w' fun e w'' => ∃ v, e = .returned (.tuple #[v, .int .i64 0]) ∧ Kd.R (Kd.int .i64) 3 w'' w'.heap.size (fun _ => True) v ds ∧ Below w'.heap.size w' w''
set_option maxHeartbeats 1000000 in
set_option maxRecDepth 100000 in
theorem check_invalid (n : Int) (A : Option Addr) (l c : Nat) (Ar : Option Addr) (m cr : Nat) (w : World) (hv : ValidSays false n A l c w) :
  Calls Try.prog 78 #[.agg #[.int .i64 n, .slice A l c], .slice Ar m cr] w fun z w' => Gave (0, 1) z ∧ Below w.heap.size w w' := by
 have HB := Aside0.mk ((Below.refl w.heap.size w).alloc (Nat.le_refl _) (.cells #[.int .i64 n, .slice A l c] 24 (0, 0)))
 have HV := Aside0.mk (hv _ HB.out)
 clear hv
 go_enter Try.func78, Try.ntmps78
 go_wp2_with fail
 refine (HV.out).mono ?_
 rintro e w2 ⟨rfl, hb⟩
 have HB2 := Aside0.mk (HB.out.trans (hb.mono HB.out.size))
 clear hb HB HV
 go_wp2_with fail
 refine (must_no 0 1 _).mono ?_
 rintro e w3 ⟨rfl, rfl⟩
 go_wp2_with fail
 exact ⟨rfl, Gave.fault (by decide), HB2.out⟩
set_option maxHeartbeats 1000000 in
set_option maxRecDepth 100000 in
theorem check_length (n : Nat) (A : Option Addr) (l c : Nat) (Ar : Option Addr) (m cr : Nat) (w : World) (hv : ValidSays true (n : Int) A l c w) (hm : m ≠ n) :
  Calls Try.prog 78 #[.agg #[.int .i64 (n : Int), .slice A l c], .slice Ar m cr] w fun z w' => Gave (0, 110) z ∧ Below w.heap.size w w' := by
 have HB := Aside0.mk ((Below.refl w.heap.size w).alloc (Nat.le_refl _) (.cells #[.int .i64 (n : Int), .slice A l c] 24 (0, 0)))
 have HX := Aside0.mk (heap_last w (.cells #[.int .i64 (n : Int), .slice A l c] 24 (0, 0)))
 have HV := Aside0.mk (hv _ HB.out)
 have q1 : (((m : Nat) : Int) == ((n : Nat) : Int)) = false := by rw [beq_eq_false_iff_ne]; omega
 have q2 : (m == n) = false := by rw [beq_eq_false_iff_ne]; exact hm
 clear hv hm
 go_enter Try.func78, Try.ntmps78
 go_wp2_with fail
 refine (HV.out).mono ?_
 rintro e w2 ⟨rfl, hb⟩
 have HB2 := Aside0.mk (HB.out.trans (hb.mono HB.out.size))
 have HX2 := Aside0.mk ((hb.block _ (lt_of HX.out)).trans HX.out)
 clear hb HB HV HX
 have x0 : w2.cell? ⟨w.heap.size, 0, none⟩ = some (.int .i64 (n : Int)) := heap_cell HX2.out rfl
 go_wp2_with fail
 refine (must_yes _ _ _).mono ?_
 rintro e w3 ⟨rfl, rfl⟩
 go_wp2_with fail
 refine (must_no 0 110 _).mono ?_
 rintro e w3 ⟨rfl, rfl⟩
 go_wp2_with fail
 exact ⟨rfl, Gave.fault (by decide), HB2.out⟩
set_option maxHeartbeats 4000000 in
set_option maxRecDepth 100000 in
theorem check_rows (n : Nat) (A : Option Addr) (c : Nat) (es : List (Int × Int)) (Ar : Option Addr) (cr : Nat) (r : List (List Int)) (ds : List Int) (w : World) (hv : ValidSays true (n : Int) A es.length c w) (hd : DegreesSays ds (n : Int) A es.length c w)
  (he : Pairs w A es) (hl : es.length ≤ 4194304) (hn : n ≤ 1048576) (hr : Kd.C KR w Ar r.length r) (hm : r.length = n) (hdl : ds.length = n) :
  Calls Try.prog 78 #[.agg #[.int .i64 (n : Int), .slice A es.length c], .slice Ar r.length cr] w fun z w' => Gave (rows (froms es) ds 0 r (List.replicate (2 * es.length) false)) z ∧ Below w.heap.size w w' := by
 have HB := Aside0.mk ((Below.refl w.heap.size w).alloc (Nat.le_refl _) (.cells #[.int .i64 (n : Int), .slice A es.length c] 24 (0, 0)))
 have HX := Aside0.mk (heap_last w (.cells #[.int .i64 (n : Int), .slice A es.length c] 24 (0, 0)))
 have HV := Aside0.mk (hv _ HB.out)
 have HD := Aside0.mk hd
 have HE := Aside0.mk he
 have HR := Aside0.mk hr
 have HDL := Aside0.mk hdl
 have HM := Aside0.mk hm
 have hrl : r.length ≤ 1048576 := by omega
 obtain ⟨RES, hres⟩ : ∃ RES, RES = rows (froms es) ds 0 r (List.replicate (2 * es.length) false) := ⟨_, rfl⟩
 rw [← hres]
 have HRES := Aside0.mk hres.symm
 have q2 : ((r.length : Int) == (n : Int)) = true := by rw [beq_iff_eq]; omega
 have q3 : (r.length == n) = true := by rw [beq_iff_eq]; exact hm
 clear hv hd he hr hdl hres hm
 go_enter Try.func78, Try.ntmps78
 go_wp2_with fail
 refine (HV.out).mono ?_
 rintro e w2 ⟨rfl, hb⟩
 have HB2 := Aside0.mk (HB.out.trans (hb.mono HB.out.size))
 have HX2 := Aside0.mk ((hb.block _ (lt_of HX.out)).trans HX.out)
 clear hb HB HV HX
 have x0 : w2.cell? ⟨w.heap.size, 0, none⟩ = some (.int .i64 (n : Int)) := heap_cell HX2.out rfl
 have x1 : w2.cell? ⟨w.heap.size, 1, none⟩ = some (.slice A es.length c) := heap_cell HX2.out rfl
 go_wp2_with fail
 refine (must_yes _ _ _).mono ?_
 rintro e w3 ⟨rfl, rfl⟩
 go_wp2_with fail
 refine (must_yes _ _ _).mono ?_
 rintro e w3 ⟨rfl, rfl⟩
 go_wp2_with fail
 refine (HD.out _ HB2.out).mono ?_
 rintro e w3 ⟨vd, rfl, hR, hb⟩
 have HB3 := Aside0.mk (HB2.out.trans (hb.mono HB2.out.size))
 have HX3 := Aside0.mk ((hb.block _ (lt_of HX2.out)).trans HX2.out)
 obtain ⟨Ad, cd, rfl, _, hC⟩ := Kd.R_reads hR
 have HDS := Aside0.mk hC
 clear hb hR hC HB2 HX2 HD x0 x1 q2 q3
 have x0 : w3.cell? ⟨w.heap.size, 0, none⟩ = some (.int .i64 (n : Int)) := heap_cell HX3.out rfl
 have x1 : w3.cell? ⟨w.heap.size, 1, none⟩ = some (.slice A es.length c) := heap_cell HX3.out rfl
 go_wp2_with fail
 refine (begins_calls n A c es w3 (HE.out.below HB3.out) hl).mono ?_
 rintro e w4 ⟨vf, rfl, hR, hb⟩
 have HB4 := Aside0.mk (HB3.out.trans (hb.mono HB3.out.size))
 have HDS4 := Aside0.mk (Kd.C_below HDS.out hb)
 obtain ⟨Af, cf, rfl, _, hC⟩ := Kd.R_reads hR
 have HF4 := Aside0.mk hC
 have HR4 := Aside0.mk (Kd.C_below HR.out HB4.out)
 have hfl := froms_length es
 obtain ⟨fr, hfr⟩ : ∃ fr, fr = froms es := ⟨_, rfl⟩
 rw [← hfr] at HF4 hfl HRES ⊢
 have HFL := Aside0.mk hfl
 have hfr2 : fr.length ≤ 8388608 := by omega
 clear hb hR hC HB3 HX3 HDS HE HR x0 x1 hfl hfr
 have mk1 := print_make_of (P := Try.prog) 122 4 (.bool false) 1 Try.underlying122 info_bool rfl (by decide) fr.length (by omega)
 rw [made_bool] at mk1
 go_wp2_with fail
 clear mk1
 have HS := Aside0.mk (BRow.start w4 fr.length)
 have HBB : Aside0 (Below w4.heap.size w4 (w4.alloc (.cells (Array.replicate fr.length (Value.bool false)) 4 (0, 0)))) := ⟨(Below.refl _ _).alloc (Nat.le_refl _) _⟩
 generalize w4.alloc (.cells (Array.replicate fr.length (Value.bool false)) 4 (0, 0)) = w5 at HS HBB ⊢
 obtain ⟨bs, hbs⟩ : ∃ bs, bs = w4.heap.size := ⟨_, rfl⟩
 rw [← hbs] at HS ⊢
 have hbs2 : w4.heap.size ≤ bs := by omega
 clear hbs
 rw [← HFL.out] at HRES
 go_loopw [33] (fun y wr => ∃ (v : Nat) (S : List Bool), y = .int .i64 (v : Int) ∧ v ≤ r.length ∧ Aside0 (rows fr ds v (r.drop v) S = RES) ∧ Aside0 (S.length = fr.length) ∧ Aside0 (BRow wr bs S) ∧ Aside0 (Below w4.heap.size w4 wr)) (fun y _ => r.length - (intOf y).toNat)
 case atStart => exact ⟨0, _, rfl, by omega, HRES, ⟨by simp⟩, HS, HBB⟩
 case round =>
  clear HS HBB HRES
  obtain ⟨v, S, rfl, hvr, HRES, HSL, HS, HBB⟩ := hrel
  by_cases hlt : v < r.length
  ·obtain ⟨ad, B, cB, eA, hx4, hcB, hrow⟩ := row_at HR4.out hlt
   subst eA
   have hx := (HBB.out.cell (cell_lt hx4)).trans hx4
   clear hx4
   have hdr := drop_row hlt
   obtain ⟨row, hrw⟩ : ∃ row, row = gl r v := ⟨_, rfl⟩
   rw [← hrw] at hx hcB hrow hdr
   have hbig := C_le hrow
   rw [hdr] at HRES
   have HROW := Aside0.mk hrow
   clear hrw hdr hrow
   go_wp2_with fail
   have HS0 := HS
   have HBB0 := HBB
   have HSL0 := HSL
   obtain ⟨EL, hel⟩ : ∃ EL, EL = elems fr v row S := ⟨_, rfl⟩
   have HEL := Aside0.mk hel.symm
   have HRE : Aside0 (after fr ds v row (r.drop (v + 1)) EL = RES) := ⟨by rw [hel, ← rows_cons]; exact HRES.out⟩
   clear hel HRES
   go_loopw [40] (fun y wq => ∃ (k : Nat) (S' : List Bool), y = .int .i64 (k : Int) ∧ k ≤ row.length ∧ Aside0 (elems fr v (row.drop k) S' = EL) ∧ Aside0 (S'.length = fr.length) ∧ Aside0 (BRow wq bs S') ∧ Aside0 (Below w4.heap.size w4 wq)) (fun y _ => row.length - (intOf y).toNat)
   case atStart => exact ⟨0, S, rfl, by omega, HEL, HSL0, HS0, HBB0⟩
   case round =>
    clear HS0 HBB0 HSL0 HS HBB HSL HEL
    obtain ⟨k, S', rfl, hkr, HEL, HSL, HS, HBB⟩ := hrel
    by_cases hlt2 : k < row.length
    ·obtain ⟨ah, eH, hxh⟩ := Kd.at_int (Kd.C_below HROW.out HBB.out) (k : Int) (by omega) (by omega)
     subst eH
     rw [Int.toNat_natCast, gi_rd] at hxh
     have hdk := drop_int hlt2
     obtain ⟨h, hh⟩ : ∃ h, h = gi row k := ⟨_, rfl⟩
     rw [← hh] at hxh hdk
     rw [hdk] at HEL
     clear hh hdk
     by_cases h0 : h ≥ 0
     ·have t0 : decide (h ≥ 0) = true := decide_eq_true h0
      by_cases h1 : h < (fr.length : Int)
      ·have t1 : decide (h < (fr.length : Int)) = true := decide_eq_true h1
       obtain ⟨hn', rfl⟩ := Int.eq_ofNat_of_zero_le h0
       have hlf : hn' < fr.length := by omega
       obtain ⟨af, eF, hxf⟩ := Kd.at_int (Kd.C_below HF4.out HBB.out) (hn' : Int) (by omega) (by omega)
       subst eF
       rw [Int.toNat_natCast, gi_rd] at hxf
       obtain ⟨x, hx2⟩ : ∃ x, x = gi fr hn' := ⟨_, rfl⟩
       rw [← hx2] at hxf
       have HX2 := Aside0.mk hx2
       clear hx2 t0 h0 h1
       by_cases he : x = (v : Int)
       ·have t2 : (x == (v : Int)) = true := beq_iff_eq.2 he
        have HLV : Aside0 (leaves fr v (hn' : Int) = true) := ⟨by unfold leaves; rw [Int.toNat_natCast, ← HX2.out, t2, t1]; simp⟩
        clear he HX2
        have hxs := HS.out.cell (i := hn') (by rw [HSL.out]; exact hlf)
        have hfs := HS.out.free hn'
        cases hb : gb S' hn' with
        | true =>
         rw [hb] at hxs
         have HRE2 : Aside0 (((v : Int), 112) = RES) := ⟨by rw [← HRE.out, ← HEL.out, elems_cons_twice HLV.out (by simpa using hb)]; rfl⟩
         clear hb HEL
         go_wp2_with fail
         refine (must_yes _ _ _).mono ?_
         rintro e w6 ⟨rfl, rfl⟩
         go_wp2_with fail
         refine (must_no _ _ _).mono ?_
         rintro e w6 ⟨rfl, rfl⟩
         go_wp2_with fail
         exact ⟨rfl, by rw [← HRE2.out]; exact Gave.fault (by decide), HB4.out.trans (HBB.out.mono HB4.out.size)⟩
        | false =>
         rw [hb] at hxs
         have HEL2 : Aside0 (elems fr v (row.drop (k + 1)) (S'.set hn' true) = EL) := ⟨by rw [← HEL.out, elems_cons HLV.out (by simpa using hb)]; simp⟩
         clear hb HEL
         go_wp2_with fail
         refine (must_yes _ _ _).mono ?_
         rintro e w6 ⟨rfl, rfl⟩
         go_wp2_with fail
         refine (must_yes _ _ _).mono ?_
         rintro e w6 ⟨rfl, rfl⟩
         have HS2 := Aside0.mk (HS.out.put hn' true)
         have HBB2 := Aside0.mk (HBB.out.setCell (p := ⟨bs, hn', none⟩) hbs2 (.bool true))
         have HSL2 : Aside0 ((S'.set hn' true).length = fr.length) := ⟨by rw [List.length_set]; exact HSL.out⟩
         clear HS HBB HSL
         go_wp2_with fail
         go_roundw
         case rel => exact ⟨k + 1, _, by go_num, by omega, HEL2, HSL2, HS2, HBB2⟩
         case measure => simp [intOf]; omega
       ·have t2 : (x == (v : Int)) = false := beq_eq_false_iff_ne.2 he
        have HRE2 : Aside0 (((v : Int), 111) = RES) := ⟨by rw [← HRE.out, ← HEL.out, elems_cons_no (by unfold leaves; rw [Int.toNat_natCast, ← HX2.out, t2]; simp)]; rfl⟩
        clear he HX2 HEL
        go_wp2_with fail
        refine (must_no _ _ _).mono ?_
        rintro e w6 ⟨rfl, rfl⟩
        go_wp2_with fail
        exact ⟨rfl, by rw [← HRE2.out]; exact Gave.fault (by decide), HB4.out.trans (HBB.out.mono HB4.out.size)⟩
      ·have t1 : decide (h < (fr.length : Int)) = false := decide_eq_false h1
       have HRE2 : Aside0 (((v : Int), 111) = RES) := ⟨by rw [← HRE.out, ← HEL.out, elems_cons_no (by unfold leaves; rw [t1]; simp)]; rfl⟩
       clear h0 h1 HEL
       go_wp2_with fail
       refine (must_no _ _ _).mono ?_
       rintro e w6 ⟨rfl, rfl⟩
       go_wp2_with fail
       exact ⟨rfl, by rw [← HRE2.out]; exact Gave.fault (by decide), HB4.out.trans (HBB.out.mono HB4.out.size)⟩
     ·have t0 : decide (h ≥ 0) = false := decide_eq_false h0
      have HRE2 : Aside0 (((v : Int), 111) = RES) := ⟨by rw [← HRE.out, ← HEL.out, elems_cons_no (by unfold leaves; rw [t0]; simp)]; rfl⟩
      clear h0 HEL
      go_wp2_with fail
      refine (must_no _ _ _).mono ?_
      rintro e w6 ⟨rfl, rfl⟩
      go_wp2_with fail
      exact ⟨rfl, by rw [← HRE2.out]; exact Gave.fault (by decide), HB4.out.trans (HBB.out.mono HB4.out.size)⟩
    ·obtain rfl : k = row.length := by omega
     rw [List.drop_length] at HEL
     have HRE3 : Aside0 (after fr ds v row (r.drop (v + 1)) (.ok S') = RES) := ⟨by rw [← HRE.out, ← HEL.out]; rfl⟩
     obtain ⟨ads, eD, hxd⟩ := Kd.at_int (Kd.C_below HDS4.out HBB.out) (v : Int) (by omega) (by rw [HDL.out, ← HM.out]; omega)
     subst eD
     rw [Int.toNat_natCast, gi_rd] at hxd
     obtain ⟨x, hx2⟩ : ∃ x, x = gi ds v := ⟨_, rfl⟩
     rw [← hx2] at hxd
     have HX2 := Aside0.mk hx2
     have hvd : v < ds.length := by rw [HDL.out, ← HM.out]; exact hlt
     clear hx2 HEL
     by_cases he : (row.length : Int) = x
     ·have t2 : ((row.length : Int) == x) = true := beq_iff_eq.2 he
      have HRE4 : Aside0 (rows fr ds (v + 1) (r.drop (v + 1)) S' = RES) := ⟨by rw [← HRE3.out]; rw [after_ok, ← HX2.out, if_pos he]⟩
      clear he HX2 HRE3 HRE
      go_wp2_with fail
      refine (must_yes _ _ _).mono ?_
      rintro e w6 ⟨rfl, rfl⟩
      go_wp2_with fail
      go_roundw
      case rel => exact ⟨v + 1, S', by go_num, by omega, HRE4, HSL, HS, HBB⟩
      case measure => simp [intOf]; omega
     ·have t2 : ((row.length : Int) == x) = false := beq_eq_false_iff_ne.2 he
      have HRE4 : Aside0 (((v : Int), 113) = RES) := ⟨by rw [← HRE3.out]; rw [after_ok, ← HX2.out, if_neg he]⟩
      clear he HX2 HRE3 HRE
      go_wp2_with fail
      refine (must_no _ _ _).mono ?_
      rintro e w6 ⟨rfl, rfl⟩
      go_wp2_with fail
      exact ⟨rfl, by rw [← HRE4.out]; exact Gave.fault (by decide), HB4.out.trans (HBB.out.mono HB4.out.size)⟩
  ·obtain rfl : v = r.length := by omega
   rw [List.drop_length] at HRES
   have HRES2 : Aside0 ((0, 0) = RES) := ⟨HRES.out⟩
   clear HRES
   go_wp2_with fail
   go_end0
   exact ⟨by rw [← HRES2.out]; exact Gave.none, HB4.out.trans (HBB.out.mono HB4.out.size)⟩
def CheckSays (res : Int × Int) (g r : Value) (w : World) : Prop := ∀ w', Below w.heap.size w w' → Calls Try.prog 78 #[g, r] w' fun z w'' => Gave res z ∧ Below w'.heap.size w' w''
theorem Gave.cases {res : Int × Int} {z : Ending} (h : Gave res z) (h0 : res = (0, 0) ∨ res.2 ≠ 0) : (res = (0, 0) ∧ z = .returned (.tuple #[])) ∨ (res.2 ≠ 0 ∧ z = .panicked [{ v := Rot.fault res.1 res.2, recovered := false }]) := by
 unfold Gave at h
 rcases h0 with rfl | h0
 ·exact .inl ⟨rfl, h⟩
 ·rw [if_neg h0] at h
  exact .inr ⟨h0, h⟩
theorem check1_calls (res : Int × Int) (n : Int) (A : Option Addr) (l c : Nat) (Ar : Option Addr) (m cr : Nat) (p q : Nat) (w : World) (h0 : res = (0, 0) ∨ res.2 ≠ 0) (hc : CheckSays res (.agg #[.int .i64 n, .slice A l c]) (.slice Ar m cr) w)
  (hp : w.heap[p]? = some (.cells #[.int .i64 n, .slice A l c] 24 (0, 0))) (hq : w.heap[q]? = some (.cells #[.slice Ar m cr] 26 (0, 0))) :
  Calls Try.prog 77 #[.pointer (some ⟨p, 0, none⟩), .pointer (some ⟨q, 0, none⟩)] w fun z w' => Gave res z ∧ Below w.heap.size w w' := by
 have H := Aside0.mk (hc w (Below.refl _ _))
 have x0 : w.cell? ⟨p, 0, none⟩ = some (.int .i64 n) := heap_cell hp rfl
 have x1 : w.cell? ⟨p, 1, none⟩ = some (.slice A l c) := heap_cell hp rfl
 have x2 : w.cell? ⟨q, 0, none⟩ = some (.slice Ar m cr) := heap_cell hq rfl
 clear hp hq hc
 go_enter Try.func77, Try.ntmps77
 go_wp2_with fail
 refine (H.out).mono ?_
 rintro z w2 ⟨hg, hb⟩
 have HB := Aside0.mk hb
 clear hb H
 rcases hg.cases h0 with ⟨rfl, rfl⟩ | ⟨hne, rfl⟩
 ·clear hg h0
  go_wp2_with fail
  go_end0
  exact ⟨Gave.none, HB.out⟩
 ·have HG := Aside0.mk hg
  clear hg h0 hne
  go_wp2_with fail
  exact ⟨rfl, HG.out, HB.out⟩
theorem wCaught_below (w : World) : Below w.heap.size w (wCaught w) := ((Below.refl _ _).alloc (Nat.le_refl _) _).alloc (by simp) _
theorem wCaught_own (w : World) : (wCaught w).heap[w.heap.size]? = some (.cells #[.int .i64 0] 3 (0, 0)) ∧ (wCaught w).heap[w.heap.size + 1]? = some (.cells #[.int .i64 0] 33 (0, 0)) := by
 refine ⟨heap_old (heap_last _ _) _, ?_⟩
 have h := heap_last (w.alloc (.cells #[.int .i64 0] 3 (0, 0))) (.cells #[.int .i64 0] 33 (0, 0))
 rw [show (w.alloc (.cells #[.int .i64 0] 3 (0, 0))).heap.size = w.heap.size + 1 by simp] at h
 exact h
theorem wCaught_size (w : World) : (wCaught w).heap.size = w.heap.size + 2 := by unfold wCaught; simp
set_option maxHeartbeats 1000000 in
set_option maxRecDepth 100000 in
theorem checkCall (res : Int × Int) (n : Int) (A : Option Addr) (l c : Nat) (Ar : Option Addr) (m cr : Nat) (w : World) (h0 : res = (0, 0) ∨ res.2 ≠ 0) (hc : CheckSays res (.agg #[.int .i64 n, .slice A l c]) (.slice Ar m cr) w) :
  Calls Try.prog 70 #[.agg #[.int .i64 n, .slice A l c], .slice Ar m cr] w fun e w' => e = .returned (.tuple #[.int .i64 res.1, .int .i64 res.2]) ∧ Below w.heap.size w w' := by
 have hmf : ∀ (fn : Fn) (first cap : Array Value) (w : World), (Instr.makeFunc fn first cap).run Try.prog w = .ok (.func fn first cap) w := fun _ _ _ _ => rfl
 have HB := Aside0.mk (((Below.refl w.heap.size w).alloc (Nat.le_refl _) (.cells #[.int .i64 n, .slice A l c] 24 (0, 0))).alloc (by simp) (.cells #[.slice Ar m cr] 26 (0, 0)))
 have HX := Aside0.mk (heap_old (heap_last w (.cells #[.int .i64 n, .slice A l c] 24 (0, 0))) (.cells #[.slice Ar m cr] 26 (0, 0)))
 have HY : Aside0 (((w.alloc (.cells #[.int .i64 n, .slice A l c] 24 (0, 0))).alloc (.cells #[.slice Ar m cr] 26 (0, 0))).heap[w.heap.size + 1]? = some (.cells #[.slice Ar m cr] 26 (0, 0))) := ⟨by
  have h := heap_last (w.alloc (.cells #[.int .i64 n, .slice A l c] 24 (0, 0))) (.cells #[.slice Ar m cr] 26 (0, 0))
  rw [show (w.alloc (.cells #[.int .i64 n, .slice A l c] 24 (0, 0))).heap.size = w.heap.size + 1 by simp] at h
  exact h⟩
 have HC := Aside0.mk hc
 have H0 := Aside0.mk h0
 clear hc h0
 go_enter Try.func70, Try.ntmps70
 go_wp2_with fail
 generalize (w.alloc (.cells #[.int .i64 n, .slice A l c] 24 (0, 0))).alloc (.cells #[.slice Ar m cr] 26 (0, 0)) = w1 at HB HX HY ⊢
 have hk : ∀ W, (callFunc 77 #[.pointer (some ⟨w.heap.size, 0, none⟩), .pointer (some ⟨w.heap.size + 1, 0, none⟩)]).run Try.prog W = .ok (.enter 77 #[.pointer (some ⟨w.heap.size, 0, none⟩), .pointer (some ⟨w.heap.size + 1, 0, none⟩)]) W := fun W => by kernel_rfl
 have hb1 := wCaught_below w1
 have hcl := check1_calls res n A l c Ar m cr w.heap.size (w.heap.size + 1) (wCaught w1) H0.out (fun w' hw' => HC.out w' (HB.out.trans ((hb1.trans (hw'.mono hb1.size)).mono HB.out.size))) ((hb1.block _ (lt_of HX.out)).trans HX.out) ((hb1.block _ (lt_of HY.out)).trans HY.out)
 have hgp : ∀ w2, Below (wCaught w1).heap.size (wCaught w1) w2 → w2.heap[w1.heap.size]? = some (.cells #[.int .i64 0] 3 (0, 0)) ∧ w2.heap[w1.heap.size + 1]? = some (.cells #[.int .i64 0] 33 (0, 0)) := fun w2 h2 => ⟨(h2.block _ (by rw [wCaught_size]; omega)).trans (wCaught_own w1).1, (h2.block _ (by rw [wCaught_size]; omega)).trans (wCaught_own w1).2⟩
 have hfin : ∀ w2 w', Below (wCaught w1).heap.size (wCaught w1) w2 → Two w1 w2 w' → Below w.heap.size w w' := fun w2 w' h2 h3 => by
  have h4 := hb1.trans (h2.mono hb1.size)
  have h5 : Below w1.heap.size w2 w' := h3.below h4.size (fun k hk => by omega)
  exact HB.out.trans ((h4.trans h5).mono HB.out.size)
 have HFIN := Aside0.mk hfin
 rcases H0.out with rfl | hne
 ·refine (caught_ok 77 _ w1 _ hk (hcl.mono fun z w2 h => ⟨h.1, h.2⟩) hgp).mono ?_
  rintro z w' ⟨rfl, w2, h2, h3⟩
  have HE := Aside0.mk (HFIN.out w2 w' h2 h3)
  clear h2 h3 hgp hfin hcl hb1 hk HC
  go_wp2_with fail
  go_ret2
  exact ⟨rfl, HE.out⟩
 ·refine (caught_fault 77 _ w1 res.1 res.2 _ hk (hcl.mono fun z w2 h => ⟨by have := h.1; unfold Gave at this; rw [if_neg hne] at this; exact this, h.2⟩) hgp).mono ?_
  rintro z w' ⟨rfl, w2, h2, h3⟩
  have HE := Aside0.mk (HFIN.out w2 w' h2 h3)
  clear h2 h3 hgp hfin hcl hb1 hk HC hne
  go_wp2_with fail
  go_ret2
  exact ⟨rfl, HE.out⟩
end Go.Proofs.Yteeihjpnhjnknaa.Rot
namespace Go.Proofs.Yteeihjpnhjnknaa.Seen
open Go.RowKit Go.Proofs.YteeihjpnhjnknaaW.PrintWords Go.Proofs.YteeihjpnhjnknaaW.PrintLast Go.Proofs.YteeihjpnhjnknaaW.PrintMore Go.Proofs.Yteeihjpnhjnknaa.Mem
set_option linter.unusedVariables false
set_option linter.unusedSimpArgs false
structure Says (nx tos : List Int) (e0 : Int) (n : Int) (A : Option Addr) (m c : Nat) (Ar : Option Addr) (lr cr : Nat) (w : World) : Prop where
 next : ∀ W, Below w.heap.size w W → Calls Try.prog 56 #[.agg #[.int .i64 n, .slice A m c], .slice Ar lr cr] W fun e' w' => ∃ v, e' = .returned (.tuple #[v, .int .i64 e0]) ∧ Kd.R (Kd.int .i64) 3 w' W.heap.size (fun _ => True) v nx ∧ Below W.heap.size W w'
 from_ : ∀ W (h : Nat), Below w.heap.size w W → h < nx.length → Calls Try.prog 57 #[.agg #[.int .i64 n, .slice A m c], .int .i64 (h : Int)] W fun e' w' => e' = .returned (.int .i64 (gi tos (tw (h : Int)).toNat)) ∧ Below W.heap.size W w'
 to_ : ∀ W (h : Nat), Below w.heap.size w W → h < nx.length → Calls Try.prog 27 #[.agg #[.int .i64 n, .slice A m c], .int .i64 (h : Int)] W fun e' w' => e' = .returned (.int .i64 (gi tos h)) ∧ Below W.heap.size W w'
 twin : ∀ W (h : Nat), h < nx.length → Calls Try.prog 59 #[.int .i64 (h : Int)] W fun e' w' => e' = .returned (.int .i64 (tw (h : Int))) ∧ Below W.heap.size W w'
 deg : ∀ W (h : Nat), Below w.heap.size w W → h < nx.length → Calls Try.prog 58 #[.agg #[.int .i64 n, .slice A m c], .int .i64 (gi tos (tw (h : Int)).toNat)] W fun e' w' => e' = .returned (.int .i64 ((per nx (h : Int) : Nat) : Int)) ∧ Below W.heap.size W w'
end Go.Proofs.Yteeihjpnhjnknaa.Seen
namespace Go.Proofs.Yteeihjpnhjnknaa.Seen
open Go.RowKit Go.Proofs.YteeihjpnhjnknaaW.PrintWords Go.Proofs.YteeihjpnhjnknaaW.PrintLast Go.Proofs.YteeihjpnhjnknaaW.PrintMore Go.Proofs.Yteeihjpnhjnknaa.Mem
set_option linter.unusedVariables false
set_option linter.unusedSimpArgs false
end Go.Proofs.Yteeihjpnhjnknaa.Seen
namespace Go.Proofs.Yteeihjpnhjnknaa.Sets
open Go.RowKit Go.Proofs.YteeihjpnhjnknaaW.PrintWords Go.Proofs.YteeihjpnhjnknaaW.PrintLast Go.Proofs.YteeihjpnhjnknaaW.PrintMore
set_option linter.unusedVariables false
set_option linter.unusedSimpArgs false
theorem C_le {α : Type} {d : Kd α} {w : World} {A : Option Addr} {n : Nat} {xs : List α} (h : d.C w A n xs) : n ≤ 9223372036854775807 := by
 obtain ⟨_, h2, _⟩ := h
 exact h2
theorem row_own {w : World} {b base : Nat} {l : List Nat} {ok : Nat → Prop} (h : RowAt w b l) (hb : base ≤ b) (hl : l.length ≤ 9223372036854775807) (hok : ok b) : Kd.R (Kd.int .i64) 3 w base ok (.slice (some ⟨b, 0, none⟩) l.length l.length) (l.map fun (x : Nat) => (x : Int)) := by
 refine Kd.R_of_own (enc := Value.int .i64) ⟨by simp [encs], .inr ⟨b, l.length, nv l, by simp, hb, h, by simp, by unfold maxLen; exact hl, by simp [nv], ?_⟩⟩ (fun k hk => ?_)
 ·rw [List.length_map, Nat.mul_one]; simp [nv, encs, List.take_of_length_le, Function.comp_def]
 ·have : b = k := by simpa [Value.ownBlock] using hk
  exact this ▸ hok
theorem Now.ex {p bP bS : Nat} {m : List Nat} {w w' : World} (h : Now p bP bS m w w') : ∃ P S, AtPS w' p bP bS m P S := h.1
theorem Now.row {p bP bS : Nat} {m : List Nat} {w w' : World} (h : Now p bP bS m w w') {b : Nat} {l : List Nat} (hr : RowAt w b l) (hb : ¬ Own p bP bS b) : RowAt w' b l := h.2.blk hr hb
theorem Now.below {p bP bS B : Nat} {m : List Nat} {w0 w w' : World} (h : Now p bP bS m w w') (h0 : Below B w0 w) (hB : B ≤ w.heap.size) (h1 : B ≤ p ∧ B ≤ bP ∧ B ≤ bS) : Below B w0 w' :=
 h0.trans (h.2.below hB (fun k hk => by unfold Own at hk; omega))
theorem AtPS.below {w w' : World} {p bP bS B : Nat} {m P S : List Nat} (h : AtPS w p bP bS m P S) (hb : Below B w w') (h1 : p < B ∧ bP < B ∧ bS < B) : AtPS w' p bP bS m P S :=
 ⟨(hb.block p h1.1).trans h.obj, (hb.block bP h1.2.1).trans h.par, (hb.block bS h1.2.2).trans h.siz, h.ne1, h.ne2, h.ne3, h.small, h.rep, h.sized⟩
theorem AtPS.all {w w' : World} {p bP bS : Nat} {m P S : List Nat} (h : AtPS w p bP bS m P S) (hb : Below w.heap.size w w') : AtPS w' p bP bS m P S := h.below hb ⟨blk_lt h.obj, blk_lt h.par, blk_lt h.siz⟩
theorem AtPS.alloc {w : World} {p bP bS : Nat} {m P S : List Nat} (h : AtPS w p bP bS m P S) (o : Obj) : AtPS (w.alloc o) p bP bS m P S := h.all ((Below.refl _ _).alloc (Nat.le_refl _) _)
def FixValid : Prop := ∀ (b : Nat) (W : World), W.cell? ⟨b, 0, none⟩ = some (.int .i64 0) → W.cell? ⟨b, 1, none⟩ = some (.int .i64 2) →
 Calls Try.prog 71 #[.agg #[.int .i64 3, .slice (some ⟨b, 0, none⟩) 1 1]] W fun e w' => e = .returned (.bool true) ∧ Below W.heap.size W w'
end Go.Proofs.Yteeihjpnhjnknaa.Sets
namespace Go.Proofs.Yteeihjpnhjnknaa.GAll
open Go.RowKit Go.Proofs.YteeihjpnhjnknaaW.PrintWords Go.Proofs.YteeihjpnhjnknaaW.PrintLast Go.Proofs.YteeihjpnhjnknaaW.PrintMore
attribute [local go_sem] max2_int min2_int max_two min_two max_three min_three max_four min_four   -- for this text's walks alone
set_option linter.unusedVariables false
set_option linter.unusedSimpArgs false
def errW : Option Int → Value
 | none => .nilIface
 | some c => .iface 0 (.int .i64 c)
theorem errW_none : errW none = .nilIface := rfl
theorem errW_some (c : Int) : errW (some c) = .iface 0 (.int .i64 c) := rfl
theorem info3 : (Try.prog.info? 3).map (fun i => (i.zero, i.size, i.bytes)) = some (some (.int .i64 0), 1, 8) := by kernel_rfl
theorem info32 : (Try.prog.info? 32).map (fun i => (i.zero, i.size, i.bytes)) = some (some (.slice none 0 0), 1, 24) := by kernel_rfl
theorem info89 : (Try.prog.info? 89).map (fun i => (i.zero, i.size, i.bytes)) = some (some (.agg #[(.int .i64 0), (.int .i64 0)]), 2, 16) := by kernel_rfl
structure S89 where
 f0 : Int
 f1 : Int
def z89 : S89 := ⟨(0 : Int), (0 : Int)⟩
def k89 : Kd S89 := Kd.iso (Kd.pair (Kd.int .i64) (Kd.int .i64)) (fun x : S89 => (x.f0, x.f1))
theorem k89_open {w : World} {x : S89} {cs : List Value} (h : k89.K w x cs) : cs = [.int .i64 x.f0, .int .i64 x.f1] := by
 obtain ⟨_, _, rfl, rfl, rfl⟩ := h
 exact rfl
theorem k89_mkM (w : World) (base : Nat) (ok : Nat → Prop) (x : S89)  : k89.M w base ok x [.int .i64 x.f0, .int .i64 x.f1] := ⟨[.int .i64 x.f0], [.int .i64 x.f1], rfl, rfl, rfl⟩
def rd_T89 (xs : List S89) (i : Int) : S89 := xs.getD i.toNat z89
theorem at_T89 {w : World} {A : Option Addr} {n : Nat} {xs : List S89} (h : Kd.C k89 w A n xs) (i : Int) (h0 : 0 ≤ i) (h1 : i < n) : ∃ ad , A = some ad ∧ w.cell? (ad.add (i.toNat * 2)) = some (.int .i64 (rd_T89 xs i).f0) ∧ w.cell? ⟨(ad.add (i.toNat * 2)).block, (ad.add (i.toNat * 2)).off + 1, none⟩ = some (.int .i64 (rd_T89 xs i).f1) := by
 obtain ⟨ad, c, e, _, hK, hc0⟩ := Kd.C_get h z89 i h0 h1
 have hc : ∀ j u, c[j]? = some u → w.cell? (ad.add (i.toNat * 2 + j)) = some u := hc0
 obtain rfl := k89_open hK
 exact ⟨ad, e, hc 0 _ rfl, by rw [← add_field _ _ 1 (by omega)]; exact hc 1 _ rfl⟩
def rd_L2 (xs : List (List S89)) (i : Int) : (List S89) := xs.getD i.toNat ([] : List S89)
structure S24 where
 f0 : Int
 f1 : (List S89)
def z24 : S24 := ⟨(0 : Int), ([] : List S89)⟩
def k24 : Kd S24 := Kd.iso (Kd.pair (Kd.int .i64) (Kd.slice 89 k89)) (fun x : S24 => (x.f0, x.f1))
def rd_T24 (xs : List S24) (i : Int) : S24 := xs.getD i.toNat z24
def rd_L5 (xs : List (List Int)) (i : Int) : (List Int) := xs.getD i.toNat ([] : List Int)
theorem at_L5 {w : World} {A : Option Addr} {n : Nat} {xs : List (List Int)} (h : Kd.C (Kd.slice 3 (Kd.int .i64)) w A n xs) (i : Int) (h0 : 0 ≤ i) (h1 : i < n) : ∃ ad A0 c0, A = some ad ∧ w.cell? (ad.add i.toNat) = some (.slice A0 (rd_L5 xs i).length c0) ∧ (rd_L5 xs i).length ≤ c0 ∧ (Kd.int .i64).C w A0 (rd_L5 xs i).length (rd_L5 xs i) := by
 obtain ⟨ad, c, e, _, hK, hc0⟩ := Kd.C_get h ([] : List Int) i h0 h1
 have hc : ∀ j u, c[j]? = some u → w.cell? (ad.add (i.toNat * 1 + j)) = some u := hc0
 obtain ⟨A0, c0, rfl, l0, g0⟩ := hK
 exact ⟨ad, A0, c0, e, by have hq := hc 0 _ rfl; rwa [Nat.mul_one, Nat.add_zero] at hq, l0, g0⟩
def rd_L6 (xs : List (List (List Int))) (i : Int) : (List (List Int)) := xs.getD i.toNat ([] : List (List Int))
structure S69 where
 f0 : Int
 f1 : (List Int)
 f2 : (List Int)
def z69 : S69 := ⟨(0 : Int), ([] : List Int), ([] : List Int)⟩
def k69 : Kd S69 := Kd.iso (Kd.pair (Kd.int .i64) (Kd.pair (Kd.slice 3 (Kd.int .i64)) (Kd.slice 3 (Kd.int .i64)))) (fun x : S69 => (x.f0, x.f1, x.f2))
def rd_T69 (xs : List S69) (i : Int) : S69 := xs.getD i.toNat z69
end Go.Proofs.Yteeihjpnhjnknaa.GAll
namespace Go.Proofs.Yteeihjpnhjnknaa.GAll
open Go.RowKit Go.Proofs.YteeihjpnhjnknaaW.PrintWords Go.Proofs.YteeihjpnhjnknaaW.PrintLast Go.Proofs.YteeihjpnhjnknaaW.PrintMore
attribute [local go_sem] max2_int min2_int max_two min_two max_three min_three max_four min_four   -- for this text's walks alone
set_option linter.unusedVariables false
set_option linter.unusedSimpArgs false
theorem simple_Valid.pairs {w : World} {A : Option Addr} {l : List S89} (h : Kd.C k89 w A l.length l) : Mem.Pairs w A (l.map fun x => (x.f0, x.f1)) := by
 intro i hi
 rw [List.length_map] at hi
 obtain ⟨ad, e, h1, h2⟩ := at_T89 h (i : Int) (by omega) (by omega)
 have e2 : Mem.pe (l.map fun x => (x.f0, x.f1)) i = ((rd_T89 l (i : Int)).f0, (rd_T89 l (i : Int)).f1) := by
  unfold Mem.pe rd_T89
  simp [List.getD_eq_getElem?_getD, hi]
 rw [e2]
 exact ⟨ad, e, h1, h2⟩
def simple_Valid.f (k : Nat) (a0_0 : Int) (l0_1 : List S89) : Option Bool := some (ValH.goodB a0_0 (l0_1.map fun x => (x.f0, x.f1)))
theorem simple_Valid.mono : ∀ a0 a1 k, LeO (simple_Valid.f k a0 a1) (simple_Valid.f (k + 1) a0 a1) := fun _ _ _ => LeO.refl _
theorem simple_Valid.calls (k : Nat) (a0_0 : Int) (A0_1 : Option Addr) (c0_1 : Nat) (l0_1 : List (S89)) (r : Bool) (w : World) (hr0_1 : Kd.C k89 w A0_1 l0_1.length l0_1) (hc0_1 : l0_1.length ≤ c0_1) (h : simple_Valid.f k a0_0 l0_1 = some r) :
  Calls Try.prog 71 #[.agg #[.int .i64 a0_0, .slice A0_1 l0_1.length c0_1]] w fun e w' => e = .returned (.bool r) ∧ Below w.heap.size w w' := by
 obtain rfl : ValH.goodB a0_0 (l0_1.map fun x => (x.f0, x.f1)) = r := by simpa [simple_Valid.f] using h
 have key := ValH.simple_calls a0_0 A0_1 c0_1 (l0_1.map fun x => (x.f0, x.f1)) w (simple_Valid.pairs hr0_1) (by rw [List.length_map]; exact hc0_1)
 rw [List.length_map] at key
 exact key
end Go.Proofs.Yteeihjpnhjnknaa.GAll
namespace Go.Proofs.Yteeihjpnhjnknaa.GAll
open Go.RowKit Go.Proofs.YteeihjpnhjnknaaW.PrintWords Go.Proofs.YteeihjpnhjnknaaW.PrintLast Go.Proofs.YteeihjpnhjnknaaW.PrintMore
attribute [local go_sem] max2_int min2_int max_two min_two max_three min_three max_four min_four   -- for this text's walks alone
set_option linter.unusedVariables false
set_option linter.unusedSimpArgs false
theorem tangramref11_Check.pairs {w : World} {A : Option Addr} {l : List S89} (h : Kd.C k89 w A l.length l) : Mem.Pairs w A (l.map fun x => (x.f0, x.f1)) := by
 intro i hi
 rw [List.length_map] at hi
 obtain ⟨ad, e, h1, h2⟩ := at_T89 h (i : Int) (by omega) (by omega)
 have e2 : Mem.pe (l.map fun x => (x.f0, x.f1)) i = ((rd_T89 l (i : Int)).f0, (rd_T89 l (i : Int)).f1) := by
  unfold Mem.pe rd_T89
  simp [List.getD_eq_getElem?_getD, hi]
 rw [e2]
 exact ⟨ad, e, h1, h2⟩
def tangramref11_Check.f (k : Nat) (a0_0 : Int) (l0_1 : List S89) (l1 : List (List Int)) : Option (Int × Int) :=
 if (l1.all fun row => decide (row.length * 8 ≤ 140737488351232)) = true then some (Graph.checkR a0_0 (l0_1.map fun x => (x.f0, x.f1)) l1) else none
theorem tangramref11_Check.mono : ∀ a0 a1 a2 k, LeO (tangramref11_Check.f k a0 a1 a2) (tangramref11_Check.f (k + 1) a0 a1 a2) := fun _ _ _ _ => LeO.refl _
theorem tangramref11_Check.small {r : List (List Int)} (h : (r.all fun row => decide (row.length * 8 ≤ 140737488351232)) = true) : ∀ v, v < r.length → (Mem.gl r v).length ≤ 18000000000000 := by
 intro v hv
 rw [List.all_eq_true] at h
 have hm : Mem.gl r v ∈ r := by
  unfold Mem.gl
  rw [List.getD_eq_getElem?_getD, List.getElem?_eq_getElem hv]
  exact List.getElem_mem hv
 have := of_decide_eq_true (h _ hm)
 omega
theorem tangramref11_Check.calls (k : Nat) (a0_0 : Int) (A0_1 : Option Addr) (c0_1 : Nat) (l0_1 : List (S89)) (A1 : Option Addr) (c1 : Nat) (l1 : List (List Int)) (r1 : Int) (r2 : Int) (w : World) (hr0_1 : Kd.C k89 w A0_1 l0_1.length l0_1) (hc0_1 : l0_1.length ≤ c0_1) (hr1 : Kd.C (Kd.slice 3 (Kd.int .i64)) w A1 l1.length l1) (hc1 : l1.length ≤ c1) (h : tangramref11_Check.f k a0_0 l0_1 l1 = some (r1, r2)) :
  Calls Try.prog 47 #[.agg #[.int .i64 a0_0, .slice A0_1 l0_1.length c0_1], .slice A1 l1.length c1] w fun e w' => e = .returned (.tuple #[.int .i64 r1, .int .i64 r2]) ∧ Below w.heap.size w w' := by
 unfold tangramref11_Check.f at h
 by_cases hs : (l1.all fun row => decide (row.length * 8 ≤ 140737488351232)) = true
 ·rw [if_pos hs] at h
  have hp := tangramref11_Check.pairs hr0_1
  have hlm : (l0_1.map fun x => (x.f0, x.f1)).length = l0_1.length := List.length_map ..
  have key := Graph.checkR_calls a0_0 A0_1 c0_1 (l0_1.map fun x => (x.f0, x.f1)) A1 c1 l1 w hp (by omega) hr1 (tangramref11_Check.small hs)
  have hres : Graph.checkR a0_0 (l0_1.map fun x => (x.f0, x.f1)) l1 = (r1, r2) := by simpa using h
  rw [hlm, hres] at key
  exact key
 ·rw [if_neg hs] at h; cases h
theorem tangramref03_Valid.pairs {w : World} {A : Option Addr} {l : List S89} (h : Kd.C k89 w A l.length l) : Mem.Pairs w A (l.map fun x => (x.f0, x.f1)) := by
 intro i hi
 rw [List.length_map] at hi
 obtain ⟨ad, e, h1, h2⟩ := at_T89 h (i : Int) (by omega) (by omega)
 have e2 : Mem.pe (l.map fun x => (x.f0, x.f1)) i = ((rd_T89 l (i : Int)).f0, (rd_T89 l (i : Int)).f1) := by
  unfold Mem.pe rd_T89
  simp [List.getD_eq_getElem?_getD, hi]
 rw [e2]
 exact ⟨ad, e, h1, h2⟩
def tangramref03_Valid.f (k : Nat) (a0_0 : Int) (l0_1 : List S89) : Option Bool := some (ValH.goodB a0_0 (l0_1.map fun x => (x.f0, x.f1)))
theorem tangramref03_Valid.mono : ∀ a0 a1 k, LeO (tangramref03_Valid.f k a0 a1) (tangramref03_Valid.f (k + 1) a0 a1) := fun _ _ _ => LeO.refl _
theorem tangramref03_Valid.calls (k : Nat) (a0_0 : Int) (A0_1 : Option Addr) (c0_1 : Nat) (l0_1 : List (S89)) (r : Bool) (w : World) (hr0_1 : Kd.C k89 w A0_1 l0_1.length l0_1) (hc0_1 : l0_1.length ≤ c0_1) (h : tangramref03_Valid.f k a0_0 l0_1 = some r) :
  Calls Try.prog 49 #[.agg #[.int .i64 a0_0, .slice A0_1 l0_1.length c0_1]] w fun e w' => e = .returned (.bool r) ∧ Below w.heap.size w w' := by
 obtain rfl : ValH.goodB a0_0 (l0_1.map fun x => (x.f0, x.f1)) = r := by simpa [tangramref03_Valid.f] using h
 have key := ValH.ref_calls a0_0 A0_1 c0_1 (l0_1.map fun x => (x.f0, x.f1)) w (tangramref03_Valid.pairs hr0_1) (by rw [List.length_map]; exact hc0_1)
 rw [List.length_map] at key
 exact key
end Go.Proofs.Yteeihjpnhjnknaa.GAll
namespace Go.Proofs.Yteeihjpnhjnknaa.PureV
open Go.RowKit Go.Proofs.YteeihjpnhjnknaaW.PrintWords Go.Proofs.YteeihjpnhjnknaaW.PrintLast Go.Proofs.YteeihjpnhjnknaaW.PrintMore Go.Proofs.Yteeihjpnhjnknaa.GAll
set_option linter.unusedVariables false
set_option linter.unusedSimpArgs false
abbrev E := S89
abbrev rdE := rd_T89
def okE (n : Int) (x : E) : Prop := 0 ≤ x.f0 ∧ x.f0 < x.f1 ∧ x.f1 < n
def lt (x y : E) : Prop := x.f0 < y.f0 ∨ (x.f0 = y.f0 ∧ x.f1 < y.f1)
def Ok (n : Int) (l : List E) (i : Nat) : Prop := okE n (rdE l (i : Nat)) ∧ (0 < i → lt (rdE l ((i - 1 : Nat) : Int)) (rdE l (i : Nat)))
def Good (n : Int) (l : List E) : Prop := 0 ≤ n ∧ n ≤ 1048576 ∧ l.length ≤ 4194304 ∧ ∀ i, i < l.length → Ok n l i
instance (n x) : Decidable (okE n x) := by unfold okE; infer_instance
instance (x y) : Decidable (lt x y) := by unfold lt; infer_instance
instance (n l i) : Decidable (Ok n l i) := by unfold Ok; infer_instance
theorem wadd {i : Nat} (h : i ≤ 9000000) : wrap64 ((i : Int) + 1) = ((i + 1 : Nat) : Int) := by rw [IntWalk.wrap64_in _ (by omega)]; omega
theorem pe_rd {l : List E} {i : Nat} (h : i < l.length) : Mem.pe (l.map fun x => (x.f0, x.f1)) i = ((rdE l (i : Nat)).f0, (rdE l (i : Nat)).f1) := by
 unfold Mem.pe rdE rd_T89
 simp [List.getD_eq_getElem?_getD, h]
theorem ok_at {n : Int} {l : List E} {i : Nat} (h : i < l.length) : ValH.OkAt n (l.map fun x => (x.f0, x.f1)) i ↔ Ok n l i := by
 unfold ValH.OkAt Ok okE lt ValH.okP ValH.ltP
 rw [pe_rd h, pe_rd (show i - 1 < l.length by omega), decide_eq_true_eq, decide_eq_true_eq]
theorem good_iff (n : Int) (l : List E) : ValH.goodB n (l.map fun x => (x.f0, x.f1)) = true ↔ Good n l := by
 rw [ValH.goodB_iff, List.length_map]
 unfold Good
 constructor
 ·rintro ⟨a, b, c, d⟩; exact ⟨a, b, c, fun i hi => (ok_at hi).1 (d i hi)⟩
 ·rintro ⟨a, b, c, d⟩; exact ⟨a, b, c, fun i hi => (ok_at hi).2 (d i hi)⟩
theorem valid (n : Int) (l : List E) : ∃ b : Bool, Ev (fun k => simple_Valid.f k n l) b ∧ Ev (fun k => tangramref03_Valid.f k n l) b ∧ (b = true ↔ Good n l) := ⟨_, Ev.now _, Ev.now _, good_iff n l⟩
end Go.Proofs.Yteeihjpnhjnknaa.PureV
namespace Go.Proofs.Yteeihjpnhjnknaa.GAll
open Go.RowKit Go.Proofs.YteeihjpnhjnknaaW.PrintWords Go.Proofs.YteeihjpnhjnknaaW.PrintLast Go.Proofs.YteeihjpnhjnknaaW.PrintMore
attribute [local go_sem] max2_int min2_int max_two min_two max_three min_three max_four min_four   -- for this text's walks alone
set_option linter.unusedVariables false
set_option linter.unusedSimpArgs false
def simple_Degrees.l0 : Nat → List Int → List (S89) → Int → Int → Option (List Int × Int)
 | 0, _, _, _, _ => none
 | k + 1, x4, x14, x15, x16 => if x16 < x15 then (if 0 ≤ x16 then (if x16 < (x14.length : Int) then (if 0 ≤ ((rd_T89 x14 x16).f0) then (if ((rd_T89 x14 x16).f0) < (x4.length : Int) then ((some (x4.set (((rd_T89 x14 x16).f0) : Int).toNat (wrap64 ((rd x4 ((rd_T89 x14 x16).f0)) + 1)) : List Int)).bind fun y109 => (if 0 ≤ ((rd_T89 x14 x16).f1) then (if ((rd_T89 x14 x16).f1) < (x4.length : Int) then (simple_Degrees.l0 k (y109.set (((rd_T89 x14 x16).f1) : Int).toNat (wrap64 ((rd y109 ((rd_T89 x14 x16).f1)) + 1))) x14 x15 (wrap64 (x16 + 1))) else (none)) else (none))) else (none)) else (none)) else (none)) else (none)) else (some (x4, 0))
def simple_Degrees.f (k : Nat) (a0_0 : Int) (l0_1 : List (S89)) : Option (List Int × Int) := (simple_Valid.f k a0_0 l0_1).bind fun t102 => (if t102 = true then (if 0 ≤ a0_0 then (if (a0_0 : Int).toNat ≤ 35184372088832 then (simple_Degrees.l0 k (List.replicate (a0_0 : Int).toNat 0) l0_1 (l0_1.length : Int) 0) else (none)) else (none)) else (some (([] : List Int), 1)))
theorem simple_Degrees.mono_l : ∀ k, (∀ y0 y1 y2 y3, LeO (simple_Degrees.l0 k y0 y1 y2 y3) (simple_Degrees.l0 (k + 1) y0 y1 y2 y3))
 | 0 => fun _ _ _ _ r h => by simp [simple_Degrees.l0] at h
 | k + 1 => by
  have ih0 := simple_Degrees.mono_l k
  ·intro y0 y1 y2 y3
   unfold simple_Degrees.l0
   repeat' first
   | (with_reducible exact ih0 _ _ _ _)
   | (with_reducible exact simple_Valid.mono _ _ _)
   | (with_reducible exact LeO.refl _)
   | (with_reducible exact LeO.none _)
   | (with_reducible refine LeO.ite ?_ ?_)
   | (with_reducible refine LeO.bind ?_ (fun _ => ?_))
   | exact ih0 _ _ _ _
   | exact simple_Valid.mono _ _ _
   | exact LeO.none _
   | refine LeO.ite ?_ ?_
   | refine LeO.bind ?_ (fun _ => ?_)
theorem simple_Degrees.mono : ∀ a0 a1 k, LeO (simple_Degrees.f k a0 a1) (simple_Degrees.f (k + 1) a0 a1) := by
 intro a0 a1 k
 have ih0 := simple_Degrees.mono_l k
 unfold simple_Degrees.f
 repeat' first
   | (with_reducible exact ih0 _ _ _ _)
   | (with_reducible exact simple_Valid.mono _ _ _)
   | (with_reducible exact LeO.refl _)
   | (with_reducible exact LeO.none _)
   | (with_reducible refine LeO.ite ?_ ?_)
   | (with_reducible refine LeO.bind ?_ (fun _ => ?_))
   | exact ih0 _ _ _ _
   | exact simple_Valid.mono _ _ _
   | exact LeO.none _
   | refine LeO.ite ?_ ?_
   | refine LeO.bind ?_ (fun _ => ?_)
set_option maxHeartbeats 8000000 in
set_option maxRecDepth 100000 in
theorem simple_Degrees.calls (k : Nat) (a0_0 : Int) (A0_1 : Option Addr) (c0_1 : Nat) (l0_1 : List (S89)) (r1 : List Int) (r2 : Int) (w : World) (hr0_1 : Kd.C k89 w A0_1 l0_1.length l0_1) (hc0_1 : l0_1.length ≤ c0_1) (h : simple_Degrees.f k a0_0 l0_1 = some (r1, r2)) :
  Calls Try.prog 85 #[.agg #[.int .i64 a0_0, .slice A0_1 l0_1.length c0_1]] w fun e w' => ∃ v0_ : Value, e = .returned (.tuple #[v0_, .int .i64 r2]) ∧ Kd.R (Kd.int .i64) 3 w' w.heap.size (fun _ => True) v0_ r1 ∧ Below w.heap.size w w' := by
 have hu24 := Try.underlying24
 have hu89 := Try.underlying89
 have HR0_1 := Aside0.mk hr0_1
 have HC0_1 := Aside0.mk hc0_1
 clear hr0_1 hc0_1
 have HB := Aside0.mk (Below.refl w.heap.size w)
 have H : ((simple_Valid.f k a0_0 l0_1).bind fun t102 => (if t102 = true then (if 0 ≤ a0_0 then (if (a0_0 : Int).toNat ≤ 35184372088832 then (simple_Degrees.l0 k (List.replicate (a0_0 : Int).toNat 0) l0_1 (l0_1.length : Int) 0) else (none)) else (none)) else (some (([] : List Int), 1)))) = some (r1, r2) := h
 clear h
 replace H := Option.bind_eq_some_iff.mp H
 obtain ⟨t102, A20, H⟩ := H
 replace H : (if t102 = true then (if 0 ≤ a0_0 then (if (a0_0 : Int).toNat ≤ 35184372088832 then (simple_Degrees.l0 k (List.replicate (a0_0 : Int).toNat 0) l0_1 (l0_1.length : Int) 0) else (none)) else (none)) else (some (([] : List Int), 1))) = some (r1, r2) := H
 have A2 := Aside0.mk A20
 clear A20
 by_cases c3 : t102 = true
 ·subst c3
  have H1 : (if 0 ≤ a0_0 then (if (a0_0 : Int).toNat ≤ 35184372088832 then (simple_Degrees.l0 k (List.replicate (a0_0 : Int).toNat 0) l0_1 (l0_1.length : Int) 0) else (none)) else (none)) = some (r1, r2) := by rw [if_pos rfl] at H; exact H
  clear H
  have H := H1
  clear H1
  by_cases c4 : 0 ≤ a0_0
  ·rw [if_pos c4] at H
   have c4b0 := eq_true c4
   have c4b1 : decide (0 ≤ a0_0) = true := decide_eq_true c4
   clear c4
   by_cases c5 : (a0_0 : Int).toNat ≤ 35184372088832
   ·rw [if_pos c5] at H
    have c5b0 := eq_true c5
    have c5b1 : decide ((a0_0 : Int).toNat ≤ 35184372088832) = true := decide_eq_true c5
    clear c5
    obtain ⟨y103, hy103⟩ : ∃ y_ : List Int, y_ = (List.replicate (a0_0 : Int).toNat 0) := ⟨_, rfl⟩
    replace H : (simple_Degrees.l0 k y103 l0_1 (l0_1.length : Int) 0) = some (r1, r2) := by first | (rw [hy103]; with_reducible exact H) | (have H2_ := (Option.bind_some _ _).symm.trans H; rw [hy103]; with_reducible exact H2_) | (have H2_ := (Option.bind_some _ _).symm.trans H; with_reducible exact H2_) | with_reducible exact H | (rw [hy103]; exact H) | exact H
    have Ny103 := Aside0.mk hy103
    clear hy103
    have H' := Aside0.mk H
    clear H
    go_enter Try.func85, Try.ntmps85
    go_wp2_with (first | ((with_reducible refine gate_dst (N := 1) rfl ?_); refine box_event ?hg (N := 1) ?hd (cs := #[.int .i64 a0_0, .slice A0_1 l0_1.length c0_1]) (t := 24) ?hr ?_; (case hd => rfl); (case hg => rfl); (case hr => first | (go_simp; done) | (go_simp; rfl)); intro gb101 hg w6 hbox hb; have n0_ := Aside0.mk (below_step (by repeat (first | (with_reducible first | exact HB.out | apply below_alloc | apply pw_below_drewN | apply below_drew1) | exact HB.out)) hb); have n1_ := Aside0.mk (hbox); have n2_ := Aside0.mk ((by rw [hg]; exact (below_size (by repeat (first | (with_reducible first | exact HB.out | apply below_alloc | apply pw_below_drewN | apply below_drew1) | exact HB.out))) : w.heap.size ≤ gb101)); have n3_ := Aside0.mk ((by rw [hg]; exact (below_size (by repeat (first | (with_reducible first | exact HB.out | apply below_alloc | apply pw_below_drewN | apply below_drew1) | exact HB.out))) : w.heap.size ≤ gb101)); clear HB; have HB := n0_; have BK101 := n1_; have GW101 := n2_; have GE101 := n3_; clear n0_ n1_ n2_ n3_; clear hb hbox hg; have hcz7_0 : w6.cell? ⟨gb101, 0, none⟩ = some (.int .i64 a0_0) := (blk_cell BK101.out 0).trans rfl; have hcz7_1 : w6.cell? ⟨gb101, 1, none⟩ = some (.slice A0_1 l0_1.length c0_1) := (blk_cell BK101.out 1).trans rfl; have hfz7_0 := blk_frozen BK101.out 0; have hfz7_1 := blk_frozen BK101.out 1) | ((with_reducible refine gate_callee (f := 71) rfl ?_); refine goesL_ (some 8) rfl rfl Try.func71 (by kernel_rfl) rfl #[.agg #[.int .i64 a0_0, .slice A0_1 l0_1.length c0_1]] rfl (by (try simp only [List.map_toArray, List.map_cons, List.map_nil]); first | done | rfl | (simp only [List.length_drop, List.length_take]; rfl)) ?_; (with_reducible refine (simple_Valid.calls k a0_0 _ _ l0_1 true _ ?side1 ?side2 A2.out).mono ?_); (case side1 => repeat (first | exact (Kd.C_below HR0_1.out HB.out) | (with_reducible refine Kd.C_alloc ?_ _) | (with_reducible refine Kd.C_drewN ?_ _) | (with_reducible refine Kd.C_drew ?_))); (case side2 => exact HC0_1.out); rintro e w8 ⟨rfl, hb⟩; refine ⟨_, rfl, ?_⟩; have n0_ := Aside0.mk (blk_below (g := gb101) (o := .cells #[.int .i64 a0_0, .slice A0_1 l0_1.length c0_1] 24 (0, 0)) (by (with_reducible repeat (first | refine blk_drewN ?_ _ | refine blk_drew ?_ | refine blk_alloc ?_ _)); exact BK101.out) hb); have n1_ := Aside0.mk (below_step (by repeat (first | (with_reducible first | exact HB.out | apply below_alloc | apply pw_below_drewN | apply below_drew1 | refine below_set ?_ GE101.out) | exact HB.out)) hb); clear BK101; clear HB; have BK101 := n0_; have HB := n1_; clear n0_ n1_; (try clear hb); (try clear hb2); (try clear hk); (try clear hi); have hcz9_0 : w8.cell? ⟨gb101, 0, none⟩ = some (.int .i64 a0_0) := (blk_cell BK101.out 0).trans rfl; have hcz9_1 : w8.cell? ⟨gb101, 1, none⟩ = some (.slice A0_1 l0_1.length c0_1) := (blk_cell BK101.out 1).trans rfl; have hfz9_0 := blk_frozen BK101.out 0; have hfz9_1 := blk_frozen BK101.out 1) | ((with_reducible refine gate_dst (N := 12) rfl ?_); refine Kd.R_make (Kd.int .i64) _ 3 rfl (N := 12) rfl 32 _ _ rfl a0_0 rfl rfl Try.underlying32 (.int .i64 0) 8 info3 rfl (by decide) (by omega) 0 (ok := fun _ => True) (okp := fun _ => True) rfl (fun _ hk => hk) trivial (of_decide_eq_true (by first | (with_reducible assumption) | assumption)) (Nat.le_trans (Nat.mul_le_mul_right _ (of_decide_eq_true (by first | (with_reducible assumption) | assumption) : a0_0.toNat ≤ 35184372088832)) (by omega)) (Below.refl _ _) (Nat.le_refl _) ?_; intro v104 w10 ho11 hb hg_ hnew_; clear hg_ hnew_; (first | rw [← Ny103.out] at ho11 | (simp only [Int.reduceToNat] at ho11; rw [← Ny103.out] at ho11)); have n0_ := Aside0.mk (Kd.R_lower ho11 (below_size (by repeat (first | (with_reducible first | exact HB.out | apply below_alloc | apply pw_below_drewN | apply below_drew1 | refine below_set ?_ GE101.out) | exact HB.out)))); have n1_ := Aside0.mk (blk_below (g := gb101) (o := .cells #[.int .i64 a0_0, .slice A0_1 l0_1.length c0_1] 24 (0, 0)) (by (with_reducible repeat (first | refine blk_drewN ?_ _ | refine blk_drew ?_ | refine blk_alloc ?_ _)); exact BK101.out) hb); have n2_ := Aside0.mk (below_step (by repeat (first | (with_reducible first | exact HB.out | apply below_alloc | apply pw_below_drewN | apply below_drew1 | refine below_set ?_ GE101.out) | exact HB.out)) hb); clear BK101; clear HB; have HO105 := n0_; have BK101 := n1_; have HB := n2_; clear n0_ n1_ n2_; clear hb ho11; have hcz12_0 : w10.cell? ⟨gb101, 0, none⟩ = some (.int .i64 a0_0) := (blk_cell BK101.out 0).trans rfl; have hcz12_1 : w10.cell? ⟨gb101, 1, none⟩ = some (.slice A0_1 l0_1.length c0_1) := (blk_cell BK101.out 1).trans rfl; have hfz12_0 := blk_frozen BK101.out 0; have hfz12_1 := blk_frozen BK101.out 1))
    go_loopg [16] k (fun kq v16 w' => ∃ (x4_1 : List Int) (x16_1 : Int), v16 = .int .i64 x16_1 ∧ Aside0 (simple_Degrees.l0 kq x4_1 l0_1 (l0_1.length : Int) x16_1 = some (r1, r2)) ∧ Aside0 (kq ≤ k) ∧ Aside0 (Kd.R (Kd.int .i64) 3 w' w.heap.size (fun _ => True) v104 x4_1) ∧ Aside0 (w'.heap[gb101]? = some (.cells #[.int .i64 a0_0, (.slice A0_1 l0_1.length c0_1)] 24 (0, 0))) ∧ Aside0 (Below w.heap.size w w'))
    case atStart => exact ⟨(y103), (0), (by first | rfl | (simp; done) | (simp [*]; done)), H', ⟨Nat.le_refl _⟩, ⟨by (with_reducible repeat (first | apply Kd.R_alloc | apply Kd.R_drewN | apply Kd.R_drew)); exact HO105.out⟩, ⟨by (with_reducible repeat (first | refine blk_drewN ?_ _ | refine blk_drew ?_ | refine blk_alloc ?_ _)); exact BK101.out⟩, ⟨by repeat (first | (with_reducible first | exact HB.out | apply below_alloc | apply pw_below_drewN | apply below_drew1 | refine below_set ?_ GE101.out) | exact HB.out)⟩⟩
    case round =>
     clear H'
     try clear p2
     try clear c3
     try clear c4
     try clear c4b0
     try clear c4b1
     try clear c5
     try clear c5b0
     try clear c5b1
     try clear c7
     try clear c8
     try clear hcz12_0
     try clear hcz12_1
     try clear hcz7_0
     try clear hcz7_1
     try clear hcz9_0
     try clear hcz9_1
     try clear hfz12_0
     try clear hfz12_1
     try clear hfz7_0
     try clear hfz7_1
     try clear hfz9_0
     try clear hfz9_1
     obtain ⟨x4_1, x16_1, rfl, HA, HK1, HO_4, BK101, HB⟩ := hrel
     cases gk with
     | zero => exact absurd HA.out (by simp [simple_Degrees.l0])
     | succ k1 =>
      have H := HA.out
      clear HA
      simp only [simple_Degrees.l0] at H
      by_cases c13 : x16_1 < (l0_1.length : Int)
      ·rw [if_pos c13] at H
       have c13b0 : decide (x16_1 < (l0_1.length : Int)) = true := decide_eq_true c13
       clear c13
       by_cases c14 : 0 ≤ x16_1
       ·rw [if_pos c14] at H
        have c14b0 : decide (0 ≤ x16_1) = true := decide_eq_true c14
        clear c14
        by_cases c15 : x16_1 < (l0_1.length : Int)
        ·rw [if_pos c15] at H
         have c15b0 : decide (x16_1 < (l0_1.length : Int)) = true := decide_eq_true c15
         clear c15
         by_cases c16 : 0 ≤ ((rd_T89 l0_1 x16_1).f0)
         ·rw [if_pos c16] at H
          have c16b0 : decide (0 ≤ ((rd_T89 l0_1 x16_1).f0)) = true := decide_eq_true c16
          clear c16
          by_cases c17 : ((rd_T89 l0_1 x16_1).f0) < (x4_1.length : Int)
          ·rw [if_pos c17] at H
           have c17b0 : decide (((rd_T89 l0_1 x16_1).f0) < (x4_1.length : Int)) = true := decide_eq_true c17
           clear c17
           obtain ⟨y109, hy109⟩ : ∃ y_ : List Int, y_ = (x4_1.set (((rd_T89 l0_1 x16_1).f0) : Int).toNat (wrap64 ((rd x4_1 ((rd_T89 l0_1 x16_1).f0)) + 1))) := ⟨_, rfl⟩
           replace H : (if 0 ≤ ((rd_T89 l0_1 x16_1).f1) then (if ((rd_T89 l0_1 x16_1).f1) < (x4_1.length : Int) then (simple_Degrees.l0 k1 (y109.set (((rd_T89 l0_1 x16_1).f1) : Int).toNat (wrap64 ((rd y109 ((rd_T89 l0_1 x16_1).f1)) + 1))) l0_1 (l0_1.length : Int) (wrap64 (x16_1 + 1))) else (none)) else (none)) = some (r1, r2) := by first | (rw [hy109]; with_reducible exact H) | (have H2_ := (Option.bind_some _ _).symm.trans H; rw [hy109]; with_reducible exact H2_) | (have H2_ := (Option.bind_some _ _).symm.trans H; with_reducible exact H2_) | with_reducible exact H | (rw [hy109]; exact H) | exact H
           have Ny109 := Aside0.mk hy109
           clear hy109
           by_cases c19 : 0 ≤ ((rd_T89 l0_1 x16_1).f1)
           ·rw [if_pos c19] at H
            have c19b0 : decide (0 ≤ ((rd_T89 l0_1 x16_1).f1)) = true := decide_eq_true c19
            clear c19
            by_cases c20 : ((rd_T89 l0_1 x16_1).f1) < (x4_1.length : Int)
            ·rw [if_pos c20] at H
             have c20b0 : decide (((rd_T89 l0_1 x16_1).f1) < (x4_1.length : Int)) = true := decide_eq_true c20
             clear c20
             obtain ⟨y111, hy111⟩ : ∃ y_ : List Int, y_ = (y109.set (((rd_T89 l0_1 x16_1).f1) : Int).toNat (wrap64 ((rd y109 ((rd_T89 l0_1 x16_1).f1)) + 1))) := ⟨_, rfl⟩
             replace H : (simple_Degrees.l0 k1 y111 l0_1 (l0_1.length : Int) (wrap64 (x16_1 + 1))) = some (r1, r2) := by first | (rw [hy111]; with_reducible exact H) | (have H2_ := (Option.bind_some _ _).symm.trans H; rw [hy111]; with_reducible exact H2_) | (have H2_ := (Option.bind_some _ _).symm.trans H; with_reducible exact H2_) | with_reducible exact H | (rw [hy111]; exact H) | exact H
             have Ny111 := Aside0.mk hy111
             clear hy111
             have H' := Aside0.mk H
             clear H
             have p106 : 0 ≤ (x16_1 : Int) := of_decide_eq_true (by first | (with_reducible assumption) | assumption)
             have q106 : x16_1 < (l0_1.length : Int) := of_decide_eq_true (by first | (with_reducible assumption) | assumption)
             obtain ⟨ad106, e106, hx106_0, hx106_1⟩ := at_T89 HR0_1.out x16_1 p106 q106
             cases e106
             replace hx106_0 := (HB.out.cell (World.block_lt_of_cell? w _ hx106_0)).trans hx106_0
             replace hx106_1 := (HB.out.cell (World.block_lt_of_cell? w _ hx106_1)).trans hx106_1
             replace p106 := eq_true p106
             replace q106 := eq_true q106
             go_wp2_with (first | ((with_reducible refine gate_dst (N := 6) rfl ?_); refine box_event ?hg (N := 6) ?hd (cs := #[.int .i64 0, .int .i64 0]) (t := 89) ?hr ?_; (case hd => rfl); (case hg => rfl); (case hr => first | (go_simp; done) | (go_simp; rfl)); intro gb107 hg w22 hbox hb; have n0_ := Aside0.mk (Kd.R_below (by (with_reducible repeat (first | apply Kd.R_alloc | apply Kd.R_drewN | apply Kd.R_drew)); exact HO_4.out) hb); have n1_ := Aside0.mk (blk_below (g := gb101) (o := .cells #[.int .i64 a0_0, .slice (some ad106) l0_1.length c0_1] 24 (0, 0)) (by (with_reducible repeat (first | refine blk_drewN ?_ _ | refine blk_drew ?_ | refine blk_alloc ?_ _)); exact BK101.out) hb); have n2_ := Aside0.mk (below_step (by repeat (first | (with_reducible first | exact HB.out | apply below_alloc | apply pw_below_drewN | apply below_drew1 | refine below_set ?_ GE101.out) | exact HB.out)) hb); have n3_ := Aside0.mk (hbox); have n4_ := Aside0.mk ((by rw [hg]; exact (below_size (by repeat (first | (with_reducible first | exact HB.out | apply below_alloc | apply pw_below_drewN | apply below_drew1 | refine below_set ?_ GE101.out) | exact HB.out))) : w.heap.size ≤ gb107)); have n5_ := Aside0.mk ((by rw [hg]; exact (below_size (by repeat (first | (with_reducible first | exact HB.out | apply below_alloc | apply pw_below_drewN | apply below_drew1 | refine below_set ?_ GE101.out) | exact HB.out))) : w.heap.size ≤ gb107)); have n6_ := Aside0.mk ((by rw [hg]; exact Nat.ne_of_lt (blk_lt (g := gb101) (o := .cells #[.int .i64 a0_0, .slice (some ad106) l0_1.length c0_1] 24 (0, 0)) (by (with_reducible repeat (first | refine blk_drewN ?_ _ | refine blk_drew ?_ | refine blk_alloc ?_ _)); exact BK101.out)) : gb101 ≠ gb107)); have n7_ := Aside0.mk ((by rw [hg]; exact Nat.ne_of_gt (blk_lt (g := gb101) (o := .cells #[.int .i64 a0_0, .slice (some ad106) l0_1.length c0_1] 24 (0, 0)) (by (with_reducible repeat (first | refine blk_drewN ?_ _ | refine blk_drew ?_ | refine blk_alloc ?_ _)); exact BK101.out)) : gb107 ≠ gb101)); clear HO_4; clear BK101; clear HB; have HO_4 := n0_; have BK101 := n1_; have HB := n2_; have BK107 := n3_; have GW107 := n4_; have GE107 := n5_; have NB101_107 := n6_; have NB107_101 := n7_; clear n0_ n1_ n2_ n3_ n4_ n5_ n6_ n7_; clear hb hbox hg; have hnb23 := NB107_101.out; have hnc23 := NB101_107.out; have hcz24_0 : w22.cell? ⟨gb107, 0, none⟩ = some (.int .i64 0) := (blk_cell BK107.out 0).trans rfl; have hcz24_1 : w22.cell? ⟨gb107, 1, none⟩ = some (.int .i64 0) := (blk_cell BK107.out 1).trans rfl; have hfz24_0 := blk_frozen BK107.out 0; have hfz24_1 := blk_frozen BK107.out 1) | ((with_reducible refine gate_store (t := 89) (p := 6) rfl ?_); refine store_event (t := 89) (p := 6) (v := ?vo_w25) (w1 := ((w22.setCell ⟨gb107, 0, none⟩ (.int .i64 ((rd_T89 l0_1 x16_1).f0))).setCell ⟨gb107, 1, none⟩ (.int .i64 ((rd_T89 l0_1 x16_1).f1)))) ?hg ?ho ?hn ?hr ?_; (case ho => rfl); (case hg => rfl); (case hn => rfl); (case hr => first | (go_simp; done) | (go_simp; rfl)); intro w25 hw; have n0_ : Aside0 (Kd.R (Kd.int .i64) 3 w25 w.heap.size (fun _ => True) v104 x4_1) := ⟨(by rw [hw]; exact (by (with_reducible repeat (first | apply Kd.R_alloc | apply Kd.R_drewN | apply Kd.R_drew)); exact Kd.R_mono (Kd.R_far (p := ⟨gb107, 1, none⟩) (Kd.R_far (p := ⟨gb107, 0, none⟩) (Kd.R_types HO_4.out BK107.out (by decide)) (fun _ hk => hk.2) (.int .i64 ((rd_T89 l0_1 x16_1).f0))) (fun _ hk => hk.2) (.int .i64 ((rd_T89 l0_1 x16_1).f1))) (fun _ hk => trivial)))⟩; have n1_ : Aside0 (w25.heap[gb101]? = some (.cells #[.int .i64 a0_0, .slice (some ad106) l0_1.length c0_1] 24 (0, 0))) := ⟨(by rw [hw]; exact (by (with_reducible repeat (first | refine blk_drewN ?_ _ | refine blk_drew ?_ | refine blk_alloc ?_ _)); refine blk_far ?_ NB101_107.out _; (with_reducible repeat (first | refine blk_drewN ?_ _ | refine blk_drew ?_ | refine blk_alloc ?_ _)); refine blk_far ?_ NB101_107.out _; (with_reducible repeat (first | refine blk_drewN ?_ _ | refine blk_drew ?_ | refine blk_alloc ?_ _)); exact BK101.out))⟩; have n2_ : Aside0 (w25.heap[gb107]? = some (.cells #[.int .i64 ((rd_T89 l0_1 x16_1).f0), .int .i64 ((rd_T89 l0_1 x16_1).f1)] 89 (0, 0))) := ⟨(by rw [hw]; exact (by (with_reducible repeat (first | refine blk_drewN ?_ _ | refine blk_drew ?_ | refine blk_alloc ?_ _)); refine blk_put (cs := #[.int .i64 ((rd_T89 l0_1 x16_1).f0), .int .i64 0]) ?_ 1 _ rfl; (with_reducible repeat (first | refine blk_drewN ?_ _ | refine blk_drew ?_ | refine blk_alloc ?_ _)); refine blk_put (cs := #[.int .i64 0, .int .i64 0]) ?_ 0 _ rfl; (with_reducible repeat (first | refine blk_drewN ?_ _ | refine blk_drew ?_ | refine blk_alloc ?_ _)); exact BK107.out))⟩; have n3_ : Aside0 (Below w.heap.size w w25) := ⟨(by rw [hw]; exact (by repeat (first | (with_reducible first | exact HB.out | apply below_alloc | apply pw_below_drewN | apply below_drew1 | refine below_set ?_ GE101.out | refine below_set ?_ GE107.out) | exact HB.out)))⟩; clear hw; clear HO_4; clear BK101; clear BK107; clear HB; have HO_4 := n0_; have BK101 := n1_; have BK107 := n2_; have HB := n3_; clear n0_ n1_ n2_ n3_; have hcz26_0 : w25.cell? ⟨gb107, 0, none⟩ = some (.int .i64 ((rd_T89 l0_1 x16_1).f0)) := (blk_cell BK107.out 0).trans rfl; have hcz26_1 : w25.cell? ⟨gb107, 1, none⟩ = some (.int .i64 ((rd_T89 l0_1 x16_1).f1)) := (blk_cell BK107.out 1).trans rfl; have hfz26_0 := blk_frozen BK107.out 0; have hfz26_1 := blk_frozen BK107.out 1; obtain ⟨Ao27, co27, eo27⟩ := Kd.R_slice HO_4.out; subst eo27; have p108 : 0 ≤ (((rd_T89 l0_1 x16_1).f0) : Int) := of_decide_eq_true (by first | (with_reducible assumption) | assumption); have q108 : ((rd_T89 l0_1 x16_1).f0) < (x4_1.length : Int) := of_decide_eq_true (by first | (with_reducible assumption) | assumption); obtain ⟨ad108, e108, hx108_0⟩ := Kd.at_int (Kd.R_reads' HO_4.out).2.2 ((rd_T89 l0_1 x16_1).f0) p108 q108; cases e108; replace p108 := eq_true p108; replace q108 := eq_true q108; have p18 : 0 ≤ (((rd_T89 l0_1 x16_1).f0) : Int) := of_decide_eq_true (by first | (with_reducible assumption) | assumption); have q18 : (((rd_T89 l0_1 x16_1).f0) : Int) < ((x4_1.length : Int) : Int) := of_decide_eq_true (by first | (with_reducible assumption) | assumption); obtain ⟨go18, co18, eo18, gb18, gl18, cl18, HG18⟩ := Kd.R_form HO_4.out (by omega); (first | cases eo18 | (injection eo18 with ea_ en_ ec_; (first | subst ea_ | (injection ea_ with ea_; subst ea_)); subst ec_; clear en_)); have GB18 := Aside0.mk gb18; have GG18 := Aside0.mk HG18; clear gb18 gl18 HG18; (first | simp only [add_plain] at hx108_0 | skip); obtain ⟨hx18_0, hf18_0⟩ := Kd.R_celln 0 HO_4.out (((rd_T89 l0_1 x16_1).f0) : Int) p18 q18; replace p18 := eq_true p18; replace q18 := eq_true q18; obtain ⟨hy28_, hz28_⟩ := Kd.R_celln 0 HO_4.out (((rd_T89 l0_1 x16_1).f0) : Int) (of_decide_eq_true (by first | (with_reducible assumption) | assumption)) (of_decide_eq_true (by first | (with_reducible assumption) | assumption)); have HP28 := Kd.R_putg HO_4.out (((rd_T89 l0_1 x16_1).f0) : Int) (wrap64 ((rd x4_1 ((rd_T89 l0_1 x16_1).f0)) + 1))) | ((with_reducible refine gate_store (t := 3) (p := 26) rfl ?_); refine store_event (t := 3) (p := 26) (v := ?vo_w29) (w1 := (w25.setCell ⟨go18, (((rd_T89 l0_1 x16_1).f0) : Int).toNat, none⟩ (.int .i64 (wrap64 ((rd x4_1 ((rd_T89 l0_1 x16_1).f0)) + 1))))) ?hg ?ho ?hn ?hr ?_; (case ho => rfl); (case hg => rfl); (case hn => rfl); (case hr => first | (go_simp; done) | (go_simp; rfl)); intro w29 hw; have hg : w25.grownBy w29 (some go18) := (by rw [hw]; exact HP28.2); have hp_ : Kd.R (Kd.int .i64) 3 w29 w.heap.size (fun _ => True) (.slice (some ⟨go18, 0, none⟩) x4_1.length co27) y109 := (by rw [hw, Ny109.out]; exact HP28.1); clear HP28; have n0_ := Aside0.mk (hp_); have n1_ := Aside0.mk (blk_grown (g := gb101) (o := .cells #[.int .i64 a0_0, .slice (some ad106) l0_1.length c0_1] 24 (0, 0)) (by (with_reducible repeat (first | refine blk_drewN ?_ _ | refine blk_drew ?_ | refine blk_alloc ?_ _)); exact BK101.out) hg (Kd.R_ne HO_4.out BK101.out (by decide))); have n2_ := Aside0.mk (blk_grown (g := gb107) (o := .cells #[.int .i64 ((rd_T89 l0_1 x16_1).f0), .int .i64 ((rd_T89 l0_1 x16_1).f1)] 89 (0, 0)) (by (with_reducible repeat (first | refine blk_drewN ?_ _ | refine blk_drew ?_ | refine blk_alloc ?_ _)); exact BK107.out) hg (Kd.R_ne HO_4.out BK107.out (by decide))); have n3_ := Aside0.mk ((by rw [hw]; exact below_set (HB.out) GB18.out : Below w.heap.size w w29)); clear HO_4; clear BK101; clear BK107; clear HB; have HO_4 := n0_; have BK101 := n1_; have BK107 := n2_; have HB := n3_; clear n0_ n1_ n2_ n3_; clear hg hw hp_; have hcz30_0 : w29.cell? ⟨gb107, 0, none⟩ = some (.int .i64 ((rd_T89 l0_1 x16_1).f0)) := (blk_cell BK107.out 0).trans rfl; have hcz30_1 : w29.cell? ⟨gb107, 1, none⟩ = some (.int .i64 ((rd_T89 l0_1 x16_1).f1)) := (blk_cell BK107.out 1).trans rfl; have hfz30_0 := blk_frozen BK107.out 0; have hfz30_1 := blk_frozen BK107.out 1; have p110 : 0 ≤ (((rd_T89 l0_1 x16_1).f1) : Int) := of_decide_eq_true (by first | (with_reducible assumption) | assumption); have q110 : ((rd_T89 l0_1 x16_1).f1) < (y109.length : Int) := (by have h_ : (((rd_T89 l0_1 x16_1).f1) : Int) < ((x4_1.length : Int) : Int) := of_decide_eq_true (by first | (with_reducible assumption) | assumption); first | (have e_ := (Kd.R_reads' HO_4.out).1; omega) | simpa only [Ny109.out, List.length_set] using h_); have ql110 : ((((rd_T89 l0_1 x16_1).f1) : Int) < ((x4_1.length : Int) : Int)) = True := eq_true (of_decide_eq_true (by first | (with_reducible assumption) | assumption)); obtain ⟨ad110, e110, hx110_0⟩ := Kd.at_int (Kd.R_reads' HO_4.out).2.2 ((rd_T89 l0_1 x16_1).f1) p110 q110; obtain rfl : (⟨go18, 0, none⟩ : Addr) = ad110 := (by injection e110); (first | simp only [add_plain] at hx110_0 | simp only [add_at] at hx110_0 | simp only [Addr.add, Nat.zero_add] at hx110_0 | skip); replace p110 := eq_true p110; replace q110 := eq_true q110; have p21 : 0 ≤ (((rd_T89 l0_1 x16_1).f1) : Int) := of_decide_eq_true (by first | (with_reducible assumption) | assumption); have q21 : (((rd_T89 l0_1 x16_1).f1) : Int) < ((x4_1.length : Int) : Int) := of_decide_eq_true (by first | (with_reducible assumption) | assumption); obtain ⟨hx21_0, hf21_0⟩ := Kd.R_celln 0 HO_4.out (((rd_T89 l0_1 x16_1).f1) : Int) p21 q21; replace p21 := eq_true p21; replace q21 := eq_true q21; obtain ⟨hy31_, hz31_⟩ := Kd.R_celln 0 HO_4.out (((rd_T89 l0_1 x16_1).f1) : Int) (of_decide_eq_true (by first | (with_reducible assumption) | assumption)) (of_decide_eq_true (by first | (with_reducible assumption) | assumption)); have HP31 := Kd.R_putg HO_4.out (((rd_T89 l0_1 x16_1).f1) : Int) (wrap64 ((rd y109 ((rd_T89 l0_1 x16_1).f1)) + 1))) | ((with_reducible refine gate_store (t := 3) (p := 33) rfl ?_); refine store_event (t := 3) (p := 33) (v := ?vo_w32) (w1 := (w29.setCell ⟨go18, (((rd_T89 l0_1 x16_1).f1) : Int).toNat, none⟩ (.int .i64 (wrap64 ((rd y109 ((rd_T89 l0_1 x16_1).f1)) + 1))))) ?hg ?ho ?hn ?hr ?_; (case ho => rfl); (case hg => rfl); (case hn => rfl); (case hr => first | (go_simp; done) | (go_simp; rfl)); intro w32 hw; have hg : w29.grownBy w32 (some go18) := (by rw [hw]; exact HP31.2); have hp_ : Kd.R (Kd.int .i64) 3 w32 w.heap.size (fun _ => True) (.slice (some ⟨go18, 0, none⟩) x4_1.length co27) y111 := (by rw [hw, Ny111.out]; exact HP31.1); clear HP31; have n0_ := Aside0.mk (hp_); have n1_ := Aside0.mk (blk_grown (g := gb101) (o := .cells #[.int .i64 a0_0, .slice (some ad106) l0_1.length c0_1] 24 (0, 0)) (by (with_reducible repeat (first | refine blk_drewN ?_ _ | refine blk_drew ?_ | refine blk_alloc ?_ _)); exact BK101.out) hg (Kd.R_ne HO_4.out BK101.out (by decide))); have n2_ := Aside0.mk (blk_grown (g := gb107) (o := .cells #[.int .i64 ((rd_T89 l0_1 x16_1).f0), .int .i64 ((rd_T89 l0_1 x16_1).f1)] 89 (0, 0)) (by (with_reducible repeat (first | refine blk_drewN ?_ _ | refine blk_drew ?_ | refine blk_alloc ?_ _)); exact BK107.out) hg (Kd.R_ne HO_4.out BK107.out (by decide))); have n3_ := Aside0.mk ((by rw [hw]; exact below_set (HB.out) GB18.out : Below w.heap.size w w32)); clear HO_4; clear BK101; clear BK107; clear HB; have HO_4 := n0_; have BK101 := n1_; have BK107 := n2_; have HB := n3_; clear n0_ n1_ n2_ n3_; clear hg hw hp_))
             go_roundg k1
             case measure => have := HK1.out; omega
             case rel => exact ⟨(y111), (wrap64 (x16_1 + 1)), (by first | rfl | (simp; done) | (simp [*]; done)), H', ⟨by have := HK1.out; omega⟩, ⟨by (with_reducible repeat (first | apply Kd.R_alloc | apply Kd.R_drewN | apply Kd.R_drew)); exact HO_4.out⟩, ⟨by (with_reducible repeat (first | refine blk_drewN ?_ _ | refine blk_drew ?_ | refine blk_alloc ?_ _)); exact BK101.out⟩, ⟨by repeat (first | (with_reducible first | exact HB.out | apply below_alloc | apply pw_below_drewN | apply below_drew1 | refine below_set ?_ GE101.out | refine below_set ?_ GE107.out) | exact HB.out)⟩⟩
            ·rw [if_neg c20] at H
             exact absurd H (by simp)
           ·rw [if_neg c19] at H
            exact absurd H (by simp)
          ·rw [if_neg c17] at H
           exact absurd H (by simp)
         ·rw [if_neg c16] at H
          exact absurd H (by simp)
        ·rw [if_neg c15] at H
         exact absurd H (by simp)
       ·rw [if_neg c14] at H
        exact absurd H (by simp)
      ·rw [if_neg c13] at H
       have c13b0 : decide (x16_1 < (l0_1.length : Int)) = false := decide_eq_false c13
       clear c13
       simp only [Option.some.injEq, Prod.mk.injEq] at H
       obtain ⟨rfl, rfl⟩ := H
       go_wp2
       go_ret2
       exact ⟨_, by first | rfl | (simp [errW_none, errW_some] <;> rfl) | (simp [*, errW_none, errW_some] <;> rfl), by (with_reducible repeat (first | apply Kd.R_alloc | apply Kd.R_drewN | apply Kd.R_drew)); exact HO_4.out, by repeat (first | (with_reducible first | exact HB.out | apply below_alloc | apply pw_below_drewN | apply below_drew1 | refine below_set ?_ GE101.out) | exact HB.out)⟩
   ·rw [if_neg c5] at H
    exact absurd H (by simp)
  ·rw [if_neg c4] at H
   exact absurd H (by simp)
 ·replace c3 := Bool.eq_false_iff.mpr c3
  subst c3
  have H1 : (some (([] : List Int), 1)) = some (r1, r2) := by rw [if_neg (show ¬ (false = true) by decide)] at H; exact H
  clear H
  have H := H1
  clear H1
  simp only [Option.some.injEq, Prod.mk.injEq] at H
  obtain ⟨rfl, rfl⟩ := H
  go_enter Try.func85, Try.ntmps85
  go_wp2_with (first | ((with_reducible refine gate_dst (N := 1) rfl ?_); refine box_event ?hg (N := 1) ?hd (cs := #[.int .i64 a0_0, .slice A0_1 l0_1.length c0_1]) (t := 24) ?hr ?_; (case hd => rfl); (case hg => rfl); (case hr => first | (go_simp; done) | (go_simp; rfl)); intro gb101 hg w33 hbox hb; have n0_ := Aside0.mk (below_step (by repeat (first | (with_reducible first | exact HB.out | apply below_alloc | apply pw_below_drewN | apply below_drew1) | exact HB.out)) hb); have n1_ := Aside0.mk (hbox); have n2_ := Aside0.mk ((by rw [hg]; exact (below_size (by repeat (first | (with_reducible first | exact HB.out | apply below_alloc | apply pw_below_drewN | apply below_drew1) | exact HB.out))) : w.heap.size ≤ gb101)); have n3_ := Aside0.mk ((by rw [hg]; exact (below_size (by repeat (first | (with_reducible first | exact HB.out | apply below_alloc | apply pw_below_drewN | apply below_drew1) | exact HB.out))) : w.heap.size ≤ gb101)); clear HB; have HB := n0_; have BK101 := n1_; have GW101 := n2_; have GE101 := n3_; clear n0_ n1_ n2_ n3_; clear hb hbox hg; have hcz34_0 : w33.cell? ⟨gb101, 0, none⟩ = some (.int .i64 a0_0) := (blk_cell BK101.out 0).trans rfl; have hcz34_1 : w33.cell? ⟨gb101, 1, none⟩ = some (.slice A0_1 l0_1.length c0_1) := (blk_cell BK101.out 1).trans rfl; have hfz34_0 := blk_frozen BK101.out 0; have hfz34_1 := blk_frozen BK101.out 1) | ((with_reducible refine gate_callee (f := 71) rfl ?_); refine goesL_ (some 8) rfl rfl Try.func71 (by kernel_rfl) rfl #[.agg #[.int .i64 a0_0, .slice A0_1 l0_1.length c0_1]] rfl (by (try simp only [List.map_toArray, List.map_cons, List.map_nil]); first | done | rfl | (simp only [List.length_drop, List.length_take]; rfl)) ?_; (with_reducible refine (simple_Valid.calls k a0_0 _ _ l0_1 false _ ?side1 ?side2 A2.out).mono ?_); (case side1 => repeat (first | exact (Kd.C_below HR0_1.out HB.out) | (with_reducible refine Kd.C_alloc ?_ _) | (with_reducible refine Kd.C_drewN ?_ _) | (with_reducible refine Kd.C_drew ?_))); (case side2 => exact HC0_1.out); rintro e w35 ⟨rfl, hb⟩; refine ⟨_, rfl, ?_⟩; have n0_ := Aside0.mk (blk_below (g := gb101) (o := .cells #[.int .i64 a0_0, .slice A0_1 l0_1.length c0_1] 24 (0, 0)) (by (with_reducible repeat (first | refine blk_drewN ?_ _ | refine blk_drew ?_ | refine blk_alloc ?_ _)); exact BK101.out) hb); have n1_ := Aside0.mk (below_step (by repeat (first | (with_reducible first | exact HB.out | apply below_alloc | apply pw_below_drewN | apply below_drew1 | refine below_set ?_ GE101.out) | exact HB.out)) hb); clear BK101; clear HB; have BK101 := n0_; have HB := n1_; clear n0_ n1_; (try clear hb); (try clear hb2); (try clear hk); (try clear hi)))
  go_ret2
  exact ⟨_, by first | rfl | (simp [errW_none, errW_some] <;> rfl) | (simp [*, errW_none, errW_some] <;> rfl), by first | exact Kd.R_nil _ _ _ _ _ | exact Kd.N_nil _ _ _ _ _ | exact Kd.V_nil _ _ _ _ _ | exact Kd.Q_nil _ _ _ _ _ | exact Kd.S_nil _ _ _ _ _, by repeat (first | (with_reducible first | exact HB.out | apply below_alloc | apply pw_below_drewN | apply below_drew1 | refine below_set ?_ GE101.out) | exact HB.out)⟩
end Go.Proofs.Yteeihjpnhjnknaa.GAll
namespace Go.Proofs.Yteeihjpnhjnknaa.GAll
open Go.RowKit Go.Proofs.YteeihjpnhjnknaaW.PrintWords Go.Proofs.YteeihjpnhjnknaaW.PrintLast Go.Proofs.YteeihjpnhjnknaaW.PrintMore
attribute [local go_sem] max2_int min2_int max_two min_two max_three min_three max_four min_four   -- for this text's walks alone
set_option linter.unusedVariables false
set_option linter.unusedSimpArgs false
theorem rot_Check.pairs {w : World} {A : Option Addr} {l : List S89} (h : Kd.C k89 w A l.length l) : Mem.Pairs w A (l.map fun x => (x.f0, x.f1)) := by
 intro i hi
 rw [List.length_map] at hi
 obtain ⟨ad, e, h1, h2⟩ := at_T89 h (i : Int) (by omega) (by omega)
 have e2 : Mem.pe (l.map fun x => (x.f0, x.f1)) i = ((rd_T89 l (i : Int)).f0, (rd_T89 l (i : Int)).f1) := by
  unfold Mem.pe rd_T89
  simp [List.getD_eq_getElem?_getD, hi]
 rw [e2]
 exact ⟨ad, e, h1, h2⟩
def rot_Check.told (n : Int) (l : List S89) (r : List (List Int)) (d : List Int × Int) : Option (Int × Int) :=
 if 0 ≤ n ∧ n ≤ 1048576 ∧ l.length ≤ 4194304 ∧ (d.1.length : Int) = n ∧ d.2 = 0 then some (Rot.rows (Rot.froms (l.map fun x => (x.f0, x.f1))) d.1 0 r (List.replicate (2 * l.length) false)) else none
def rot_Check.f (k : Nat) (a0_0 : Int) (l0_1 : List S89) (l1 : List (List Int)) : Option (Int × Int) := (simple_Valid.f k a0_0 l0_1).bind fun t => if t = true then (if (l1.length : Int) = a0_0 then (simple_Degrees.f k a0_0 l0_1).bind fun d => rot_Check.told a0_0 l0_1 l1 d else some (0, 110)) else some (0, 1)
theorem rot_Check.mono : ∀ a0 a1 a2 k, LeO (rot_Check.f k a0 a1 a2) (rot_Check.f (k + 1) a0 a1 a2) := by
 intro a0 a1 a2 k
 unfold rot_Check.f
 refine LeO.bind (simple_Valid.mono _ _ _) (fun t => ?_)
 refine LeO.ite ?_ (LeO.refl _)
 refine LeO.ite ?_ (LeO.refl _)
 exact LeO.bind (simple_Degrees.mono _ _ _) (fun _ => LeO.refl _)
set_option maxHeartbeats 1000000 in
set_option maxRecDepth 100000 in
theorem rot_Check.calls (k : Nat) (a0_0 : Int) (A0_1 : Option Addr) (c0_1 : Nat) (l0_1 : List (S89)) (A1 : Option Addr) (c1 : Nat) (l1 : List (List Int)) (r1 : Int) (r2 : Int) (w : World) (hr0_1 : Kd.C k89 w A0_1 l0_1.length l0_1) (hc0_1 : l0_1.length ≤ c0_1) (hr1 : Kd.C (Kd.slice 3 (Kd.int .i64)) w A1 l1.length l1) (hc1 : l1.length ≤ c1) (h : rot_Check.f k a0_0 l0_1 l1 = some (r1, r2)) :
  Calls Try.prog 70 #[.agg #[.int .i64 a0_0, .slice A0_1 l0_1.length c0_1], .slice A1 l1.length c1] w fun e w' => e = .returned (.tuple #[.int .i64 r1, .int .i64 r2]) ∧ Below w.heap.size w w' := by
 obtain ⟨t, ht, h⟩ := Option.bind_eq_some_iff.mp h
 have hv : Rot.ValidSays t a0_0 A0_1 l0_1.length c0_1 w := fun W hW => simple_Valid.calls k a0_0 A0_1 c0_1 l0_1 t W (Kd.C_below hr0_1 hW) hc0_1 ht
 cases t with
 | false =>
  rw [if_neg (by decide)] at h
  obtain ⟨rfl, rfl⟩ : 0 = r1 ∧ 1 = r2 := by simpa using h
  exact Rot.checkCall (0, 1) a0_0 A0_1 l0_1.length c0_1 A1 l1.length c1 w (.inr (by decide)) (fun w' hw' => Rot.check_invalid a0_0 A0_1 l0_1.length c0_1 A1 l1.length c1 w' (fun W hW => hv W (hw'.trans (hW.mono hw'.size))))
 | true =>
  rw [if_pos rfl] at h
  by_cases hm : (l1.length : Int) = a0_0
  ·rw [if_pos hm] at h
   obtain ⟨d, hd, h⟩ := Option.bind_eq_some_iff.mp h
   unfold rot_Check.told at h
   by_cases hf : 0 ≤ a0_0 ∧ a0_0 ≤ 1048576 ∧ l0_1.length ≤ 4194304 ∧ (d.1.length : Int) = a0_0 ∧ d.2 = 0
   ·rw [if_pos hf] at h
    obtain ⟨h0, h1, h2, h3, h4⟩ := hf
    obtain ⟨n, rfl⟩ := Int.eq_ofNat_of_zero_le h0
    obtain ⟨ds, e0⟩ := d
    simp only at h3 h4 h
    subst h4
    have hds : Rot.DegreesSays ds (n : Int) A0_1 l0_1.length c0_1 w := fun W hW => simple_Degrees.calls k n A0_1 c0_1 l0_1 ds 0 W (Kd.C_below hr0_1 hW) hc0_1 hd
    have hlm : (l0_1.map fun x => (x.f0, x.f1)).length = l0_1.length := List.length_map ..
    have hp := rot_Check.pairs hr0_1
    obtain ⟨es, hes⟩ : ∃ es, es = l0_1.map fun x => (x.f0, x.f1) := ⟨_, rfl⟩
    rw [← hes] at h hlm hp
    rw [← hlm] at hv hds h h2 ⊢
    obtain ⟨res, hres⟩ : ∃ res, res = Rot.rows (Rot.froms es) ds 0 l1 (List.replicate (2 * es.length) false) := ⟨_, rfl⟩
    have hz := Rot.rows_zero (Rot.froms es) ds l1 0 (List.replicate (2 * es.length) false)
    rw [← hres] at h hz
    have hres2 : res = (r1, r2) := by simpa using h
    have key := Rot.checkCall res (n : Int) A0_1 es.length c0_1 A1 l1.length c1 w hz (fun w' hw' => by
     rw [hres]
     exact Rot.check_rows n A0_1 c0_1 es A1 c1 l1 ds w' (fun W hW => hv W (hw'.trans (hW.mono hw'.size))) (fun W hW => hds W (hw'.trans (hW.mono hw'.size))) (hp.below hw') h2 (by omega) (Kd.C_below hr1 hw') (by omega) (by omega))
    rw [hres2] at key
    exact key
   ·rw [if_neg hf] at h; cases h
  ·rw [if_neg hm] at h
   obtain ⟨rfl, rfl⟩ : 0 = r1 ∧ 110 = r2 := by simpa using h
   by_cases hn : 0 ≤ a0_0
   ·obtain ⟨n, rfl⟩ := Int.eq_ofNat_of_zero_le hn
    exact Rot.checkCall (0, 110) (n : Int) A0_1 l0_1.length c0_1 A1 l1.length c1 w (.inr (by decide)) (fun w' hw' => Rot.check_length n A0_1 l0_1.length c0_1 A1 l1.length c1 w' (fun W hW => hv W (hw'.trans (hW.mono hw'.size))) (by omega))
   ·exact absurd ((ValH.goodB_iff _ _).1 (by simpa [simple_Valid.f] using ht)).1 hn
end Go.Proofs.Yteeihjpnhjnknaa.GAll
namespace Go.Proofs.Yteeihjpnhjnknaa.Rot
open Go.RowKit Go.Proofs.YteeihjpnhjnknaaW.PrintWords Go.Proofs.YteeihjpnhjnknaaW.PrintLast Go.Proofs.YteeihjpnhjnknaaW.PrintMore Go.Proofs.Yteeihjpnhjnknaa.GAll Go.Proofs.Yteeihjpnhjnknaa.Mem
set_option linter.unusedVariables false
set_option linter.unusedSimpArgs false
abbrev Ed := PureV.E
def ends (l : List Ed) : List (Int × Int) := l.map fun x => (x.f0, x.f1)
theorem ends_length (l : List Ed) : (ends l).length = l.length := List.length_map ..
def frs (l : List Ed) : List Int := froms (ends l)
theorem frs_length (l : List Ed) : (frs l).length = 2 * l.length := by unfold frs; rw [froms_length, ends_length]
theorem froms_even : ∀ (es : List (Int × Int)) (i : Nat), i < es.length → gi (froms es) (2 * i) = (pe es i).1 ∧ gi (froms es) (2 * i + 1) = (pe es i).2
 | [], i, h => absurd h (by simp)
 | e :: es, 0, h => ⟨rfl, rfl⟩
 | e :: es, i + 1, h => froms_even es i (by simpa using h)
theorem pe_ends {l : List Ed} {i : Nat} (h : i < l.length) : pe (ends l) i = ((PureV.rdE l (i : Nat)).f0, (PureV.rdE l (i : Nat)).f1) := by
 have e : PureV.rdE l (i : Nat) = l[i] := by
  show l.getD ((i : Int).toNat) _ = _
  rw [Int.toNat_natCast, List.getD_eq_getElem?_getD, List.getElem?_eq_getElem h]
  rfl
 rw [e]
 unfold pe ends
 simp [List.getD_eq_getElem?_getD, h]
theorem frs_even {l : List Ed} {i : Nat} (h : i < l.length) : gi (frs l) (2 * i) = (PureV.rdE l (i : Nat)).f0 := by
 have := (froms_even (ends l) i (by rw [ends_length]; exact h)).1
 rw [pe_ends h] at this; exact this
theorem frs_odd {l : List Ed} {i : Nat} (h : i < l.length) : gi (frs l) (2 * i + 1) = (PureV.rdE l (i : Nat)).f1 := by
 have := (froms_even (ends l) i (by rw [ends_length]; exact h)).2
 rw [pe_ends h] at this; exact this
theorem frs_range {n : Int} {l : List Ed} (hg : PureV.Good n l) {h : Nat} (hh : h < 2 * l.length) : 0 ≤ gi (frs l) h ∧ gi (frs l) h < n := by
 have hi : h / 2 < l.length := by omega
 obtain ⟨⟨a, b, c⟩, _⟩ := hg.2.2.2 (h / 2) hi
 rcases Nat.mod_two_eq_zero_or_one h with e | e
 ·have e2 : h = 2 * (h / 2) := by omega
  rw [e2, frs_even hi]; omega
 ·have e2 : h = 2 * (h / 2) + 1 := by omega
  rw [e2, frs_odd hi]; omega
def cnt (fr : List Int) (m : Nat) (v : Int) : Nat := ((List.range m).filter fun j => gi fr j == v).length
theorem cnt_le (fr : List Int) (m : Nat) (v : Int) : cnt fr m v ≤ m := by
 have := List.length_filter_le (fun j => gi fr j == v) (List.range m)
 rw [List.length_range] at this
 exact this
theorem cnt_succ (fr : List Int) (m : Nat) (v : Int) : cnt fr (m + 1) v = cnt fr m v + if gi fr m = v then 1 else 0 := by
 unfold cnt
 rw [List.range_succ, List.filter_append, List.length_append]
 congr 1
 by_cases h : gi fr m = v
 ·rw [if_pos h]; simp [h]
 ·rw [if_neg h]; simp [h]
theorem leaving_cnt (fr : List Int) (v : Nat) : (leaving fr v).length = cnt fr fr.length v := by unfold leaving cnt; rw [List.length_map]
theorem cnt_put {fr : List Int} {n m : Nat} {ds : List Int} {x : Int} (hx : gi fr m = x) (h0 : 0 ≤ x) (h1 : x < n) (hl : ds.length = n) (hm : m ≤ 9000000) (h : ∀ v, v < n → gi ds v = (cnt fr m v : Int)) :
  ∀ v, v < n → gi (ds.set x.toNat (wrap64 (rd ds x + 1))) v = (cnt fr (m + 1) v : Int) := by
 intro v hv
 obtain ⟨y, rfl⟩ := Int.eq_ofNat_of_zero_le h0
 have hy : y < n := by omega
 have hc := cnt_le fr m y
 rw [gi_rd, h y hy, IntWalk.wrap64_in _ (by omega), gi_set, cnt_succ, Int.toNat_natCast, hx, hl]
 by_cases e : y = v
 ·subst e
  rw [if_pos ⟨rfl, hv⟩, if_pos rfl]; omega
 ·rw [if_neg (fun q => e q.1), if_neg (by omega), h v hv]; omega
theorem degrees_loop {n : Nat} {l : List Ed} (hg : PureV.Good (n : Int) l) (d : Nat) : ∀ (i : Nat) (ds : List Int), i + d = l.length → ds.length = n → (∀ v, v < n → gi ds v = (cnt (frs l) (2 * i) v : Int)) →
  ∃ ds', Ev (fun k => simple_Degrees.l0 k ds l (l.length : Int) (i : Int)) (ds', 0) ∧ ds'.length = n ∧ ∀ v, v < n → gi ds' v = (cnt (frs l) (2 * l.length) v : Int) := by
 induction d with
 | zero =>
  intro i ds hi hl hv
  refine ⟨ds, Ev.step (f := fun _ => some (ds, 0)) (fun k => ?_) (Ev.now _), hl, fun v h => ?_⟩
  ·simp only [simple_Degrees.l0]
   rw [if_neg (by omega)]
  ·rw [hv v h, show i = l.length by omega]
 | succ d ih =>
  intro i ds hi hl hv
  have hll := hg.2.2.1
  obtain ⟨⟨a, b, c⟩, _⟩ := hg.2.2.2 i (by omega)
  have h1 := cnt_put (n := n) (m := 2 * i) (fr := frs l) (ds := ds) (frs_even (l := l) (i := i) (by omega)) a (by omega) hl (by omega) hv
  have h2 := cnt_put (n := n) (fr := frs l) (m := 2 * i + 1) (frs_odd (l := l) (i := i) (by omega)) (by omega) c (by rw [List.length_set]; exact hl) (by omega) h1
  obtain ⟨ds', e1, e2, e3⟩ := ih (i + 1) _ (by omega) (List.length_set.trans (List.length_set.trans hl)) h2
  refine ⟨ds', Ev.step (fun k => ?_) e1, e2, e3⟩
  simp only [simple_Degrees.l0]
  rw [if_pos (by omega), if_pos (show (0 : Int) ≤ (i : Int) by omega), if_pos (show (i : Int) < (l.length : Int) by omega)]
  change (if 0 ≤ (PureV.rdE l (i : Nat)).f0 then _ else _) = _
  rw [if_pos a]
  change (if (PureV.rdE l (i : Nat)).f0 < (ds.length : Int) then _ else _) = _
  rw [if_pos (by omega), Option.bind_some]
  change (if 0 ≤ (PureV.rdE l (i : Nat)).f1 then _ else _) = _
  rw [if_pos (by omega)]
  change (if (PureV.rdE l (i : Nat)).f1 < (ds.length : Int) then _ else _) = _
  rw [if_pos (by omega), PureV.wadd (i := i) (by omega)]
theorem degrees_ev {n : Nat} {l : List Ed} (hg : PureV.Good (n : Int) l) (hv : Ev (fun k => simple_Valid.f k (n : Int) l) true) :
  ∃ ds, Ev (fun k => simple_Degrees.f k (n : Int) l) (ds, 0) ∧ ds.length = n ∧ ∀ v, v < n → gi ds v = ((leaving (frs l) v).length : Int) := by
 obtain ⟨ds, e1, e2, e3⟩ := degrees_loop hg l.length 0 (List.replicate n 0) (by omega) (by simp) (fun v h => by
  unfold gi cnt
  simp [List.getD_eq_getElem?_getD, List.getElem?_replicate, h])
 refine ⟨ds, ?_, e2, fun v h => by rw [e3 v h, leaving_cnt, frs_length]⟩
 unfold simple_Degrees.f
 refine Ev.bind hv ?_
 have := hg.2.1
 refine Ev.congr (fun k => ?_) e1
 rw [if_pos rfl, if_pos (by omega), if_pos (by omega)]
 rfl
theorem check_no {n : Int} {l : List Ed} {r : List (List Int)} (hv : Ev (fun k => simple_Valid.f k n l) false) : Ev (fun k => rot_Check.f k n l r) (0, 1) := by
 unfold rot_Check.f
 refine Ev.bind hv ?_
 exact Ev.congr (fun k => if_neg (by decide)) (Ev.now _)
theorem check_len {n : Int} {l : List Ed} {r : List (List Int)} (hv : Ev (fun k => simple_Valid.f k n l) true) (h : (r.length : Int) ≠ n) : Ev (fun k => rot_Check.f k n l r) (0, 110) := by
 unfold rot_Check.f
 refine Ev.bind hv ?_
 exact Ev.congr (fun k => by rw [if_pos rfl, if_neg h]) (Ev.now _)
theorem check_all {n : Nat} {l : List Ed} {r : List (List Int)} (hg : PureV.Good (n : Int) l) (hv : Ev (fun k => simple_Valid.f k (n : Int) l) true) (h : r.length = n) {ds : List Int} (hd : Ev (fun k => simple_Degrees.f k (n : Int) l) (ds, 0)) (hl : ds.length = n) :
  Ev (fun k => rot_Check.f k (n : Int) l r) (rows (frs l) ds 0 r (List.replicate (frs l).length false)) := by
 unfold rot_Check.f
 refine Ev.bind hv ?_
 refine Ev.congr (f := fun k => (simple_Degrees.f k (n : Int) l).bind fun d => rot_Check.told n l r d) (fun k => by rw [if_pos rfl, if_pos (by omega)]) ?_
 refine Ev.bind hd ?_
 refine Ev.congr (fun k => ?_) (Ev.now _)
 have h1 := hg.2.1
 have h2 := hg.2.2.1
 unfold rot_Check.told
 rw [if_pos ⟨by omega, h1, h2, by simp only; omega, rfl⟩, frs_length]
 rfl
def NextOf (r : List (List Int)) (m : Nat) (nx : List Int) : Prop := nx.length = m ∧ ∀ v, v < r.length → ∀ j, j < (gl r v).length → gi nx (gi (gl r v) j).toNat = gi (gl r v) ((j + 1) % (gl r v).length)
theorem gi_mem {l : List Int} {j : Nat} (h : j < l.length) : gi l j ∈ l := by
 unfold gi
 rw [List.getD_eq_getElem?_getD, List.getElem?_eq_getElem h]
 exact List.getElem_mem h
theorem mem_gi {l : List Int} {x : Int} (h : x ∈ l) : ∃ j, j < l.length ∧ gi l j = x := by
 obtain ⟨j, hj, e⟩ := List.getElem_of_mem h
 exact ⟨j, hj, by unfold gi; rw [List.getD_eq_getElem?_getD, List.getElem?_eq_getElem hj]; exact e⟩
theorem gi_inj {l : List Int} (hn : l.Nodup) {i j : Nat} (hi : i < l.length) (hj : j < l.length) (e : gi l i = gi l j) : i = j := by
 unfold gi at e
 rw [List.getD_eq_getElem?_getD, List.getD_eq_getElem?_getD, List.getElem?_eq_getElem hi, List.getElem?_eq_getElem hj, Option.getD_some, Option.getD_some] at e
 rcases Nat.lt_trichotomy i j with q | q | q
 ·exact absurd e (List.pairwise_iff_getElem.1 hn i j hi hj q)
 ·exact q
 ·exact absurd e.symm (List.pairwise_iff_getElem.1 hn j i hj hi q)
section
variable {fr : List Int} {n : Nat} {r : List (List Int)}
theorem IsRot.at (h : IsRot fr n r) {v j : Nat} (hv : v < n) (hj : j < (gl r v).length) : 0 ≤ gi (gl r v) j ∧ gi (gl r v) j < (fr.length : Int) ∧ gi fr (gi (gl r v) j).toNat = v := leaves_iff.1 ((h.mem v hv _).1 (gi_mem hj))
theorem IsRot.place (h : IsRot fr n r) (hf : ∀ x, x < fr.length → 0 ≤ gi fr x ∧ gi fr x < n) {x : Nat} (hx : x < fr.length) : ∃ v j, v < n ∧ gi fr x = (v : Int) ∧ j < (gl r v).length ∧ gi (gl r v) j = (x : Int) := by
 obtain ⟨h0, h1⟩ := hf x hx
 obtain ⟨v, hv⟩ := Int.eq_ofNat_of_zero_le h0
 have hvn : v < n := by omega
 obtain ⟨j, hj, e⟩ := mem_gi ((h.mem v hvn (x : Int)).2 (leaves_iff.2 ⟨by omega, by omega, by rw [Int.toNat_natCast]; exact hv⟩))
 exact ⟨v, j, hvn, hv, hj, e⟩
theorem IsRot.inj (h : IsRot fr n r) {u v i j : Nat} (hu : u < n) (hv : v < n) (hi : i < (gl r u).length) (hj : j < (gl r v).length) (e : (gi (gl r u) i).toNat = (gi (gl r v) j).toNat) : u = v ∧ i = j := by
 obtain ⟨a1, a2, a3⟩ := h.at hu hi
 obtain ⟨b1, b2, b3⟩ := h.at hv hj
 obtain rfl : u = v := by rw [e, b3] at a3; omega
 exact ⟨rfl, gi_inj (h.nodup u hu) hi hj (by omega)⟩
end
end Go.Proofs.Yteeihjpnhjnknaa.Rot
namespace Go.Proofs.Yteeihjpnhjnknaa.Rot
open Go.RowKit Go.Proofs.YteeihjpnhjnknaaW.PrintWords Go.Proofs.YteeihjpnhjnknaaW.PrintLast Go.Proofs.YteeihjpnhjnknaaW.PrintMore Go.Proofs.Yteeihjpnhjnknaa.GAll Go.Proofs.Yteeihjpnhjnknaa.Mem Go.Proofs.Yteeihjpnhjnknaa.Seen
set_option linter.unusedVariables false
set_option linter.unusedSimpArgs false
theorem setRow_at {row nx : List Int} (hin : ∀ j, j < row.length → (gi row j).toNat < nx.length) (hinj : ∀ i j, i < row.length → j < row.length → (gi row i).toNat = (gi row j).toNat → i = j) : ∀ i, i ≤ row.length →
  (∀ j, j < i → gi (Graph.setRow row nx i) (gi row j).toNat = gi row ((j + 1) % row.length)) ∧ ∀ x, (∀ j, j < i → (gi row j).toNat ≠ x) → gi (Graph.setRow row nx i) x = gi nx x
 | 0, _ => ⟨fun j h => absurd h (by omega), fun x _ => rfl⟩
 | i + 1, hi => by
  obtain ⟨h1, h2⟩ := setRow_at hin hinj i (by omega)
  have hl : (Graph.setRow row nx i).length = nx.length := Graph.setRow_length row nx i
  constructor
  ·intro j hj
   show gi ((Graph.setRow row nx i).set (gi row i).toNat (gi row ((i + 1) % row.length))) _ = _
   rw [gi_set]
   by_cases e : (gi row i).toNat = (gi row j).toNat
   ·obtain rfl := hinj i j (by omega) (by omega) e
    rw [if_pos ⟨rfl, by rw [hl]; exact hin i (by omega)⟩]
   ·rw [if_neg (fun q => e q.1)]
    exact h1 j (by rcases Nat.lt_or_eq_of_le (Nat.le_of_lt_succ hj) with q | rfl; exact q; exact absurd rfl e)
  ·intro x hx
   show gi ((Graph.setRow row nx i).set (gi row i).toNat (gi row ((i + 1) % row.length))) _ = _
   rw [gi_set, if_neg (fun q => hx i (by omega) q.1)]
   exact h2 x (fun j hj => hx j (by omega))
theorem setRows_at {fr : List Int} {n : Nat} {r : List (List Int)} (h : IsRot fr n r) : ∀ v, v ≤ n → ∀ u, u < v → ∀ j, j < (gl r u).length → gi (Graph.setRows r fr.length v) (gi (gl r u) j).toNat = gi (gl r u) ((j + 1) % (gl r u).length)
 | 0, _, u, hu, _, _ => absurd hu (by omega)
 | v + 1, hv, u, hu, j, hj => by
  have ih := setRows_at h v (by omega)
  have key := setRow_at (row := gl r v) (nx := Graph.setRows r fr.length v) (fun i hi => by
   rw [Graph.setRows_length]
   obtain ⟨a, b, _⟩ := h.at (show v < n by omega) hi
   omega) (fun i i2 hi hi2 e => (h.inj (by omega) (by omega) hi hi2 e).2) (gl r v).length (Nat.le_refl _)
  show gi (Graph.setRow (gl r v) (Graph.setRows r fr.length v) (gl r v).length) _ = _
  by_cases e : u = v
  ·subst e
   exact key.1 j hj
  ·rw [key.2 _ (fun i hi q => e (h.inj (show v < n by omega) (show u < n by omega) hi hj q).1.symm)]
   exact ih u (by omega) j hj
theorem nextOf_nxL {fr : List Int} {n : Nat} {r : List (List Int)} (h : IsRot fr n r) : NextOf r fr.length (Graph.nxL r fr.length) := by
 refine ⟨Graph.setRows_length r fr.length r.length, fun v hv j hj => ?_⟩
 unfold Graph.nxL
 exact setRows_at h r.length (by rw [h.len]; exact Nat.le_refl _) v hv j hj
theorem row_len {fr : List Int} {n : Nat} {r : List (List Int)} (h : IsRot fr n r) {v : Nat} (hv : v < n) : (gl r v).length = cnt fr fr.length v := by
 have h1 := nodup_subset (gl r v) (leaving fr v) (h.nodup v hv) (fun x hx => mem_leaving.2 ((h.mem v hv x).1 hx))
 have h2 := nodup_subset (leaving fr v) (gl r v) (leaving_nodup fr v) (fun x hx => (h.mem v hv x).2 (mem_leaving.1 hx))
 rw [leaving_cnt] at h1 h2
 omega
theorem it_at {fr : List Int} {n : Nat} {r : List (List Int)} {nx : List Int} (h : IsRot fr n r) (hx : NextOf r fr.length nx) {v j : Nat} (hv : v < n) (hj : j < (gl r v).length) : ∀ t, it nx (gi (gl r v) j) t = gi (gl r v) ((j + t) % (gl r v).length)
 | 0 => by rw [Nat.add_zero, Nat.mod_eq_of_lt hj]; rfl
 | t + 1 => by
  show gi nx (it nx (gi (gl r v) j) t).toNat = _
  rw [it_at h hx hv hj t, hx.2 v (by rw [h.len]; exact hv) _ (Nat.mod_lt _ (by omega)), Nat.mod_add_mod]
  rfl
theorem per_eq {nx : List Int} {h : Int} {L : Nat} (h0 : 0 < L) (h1 : L ≤ nx.length) (h2 : it nx h L = h) (h3 : ∀ j, 0 < j → j < L → it nx h j ≠ h) : per nx h = L := by
 obtain ⟨K, rfl⟩ : ∃ K, L = K + 1 := ⟨L - 1, by omega⟩
 unfold per
 have e : (List.range nx.length).find? (fun j => it nx h (j + 1) == h) = some K := by
  rw [List.find?_eq_some_iff_getElem]
  refine ⟨by rw [beq_iff_eq]; exact h2, K, by rw [List.length_range]; omega, List.getElem_range _, fun j hj => ?_⟩
  rw [List.getElem_range]
  have := h3 (j + 1) (by omega) (by omega)
  simpa using this
 rw [e]
 rfl
theorem per_row {fr : List Int} {n : Nat} {r : List (List Int)} {nx : List Int} (h : IsRot fr n r) (hx : NextOf r fr.length nx) {v j : Nat} (hv : v < n) (hj : j < (gl r v).length) : per nx (gi (gl r v) j) = (gl r v).length := by
 refine per_eq (by omega) ?_ ?_ (fun t ht0 ht e => ?_)
 ·rw [hx.1, row_len h hv]; exact cnt_le _ _ _
 ·rw [it_at h hx hv hj, Nat.add_mod_right, Nat.mod_eq_of_lt hj]
 ·rw [it_at h hx hv hj] at e
  have e2 := gi_inj (h.nodup v hv) (Nat.mod_lt _ (by omega)) hj e
  rcases Nat.lt_or_ge (j + t) (gl r v).length with a | a
  ·rw [Nat.mod_eq_of_lt a] at e2; omega
  ·rw [Nat.mod_eq_sub_mod a, Nat.mod_eq_of_lt (by omega)] at e2; omega
theorem next_in {fr : List Int} {n : Nat} {r : List (List Int)} {nx : List Int} (h : IsRot fr n r) (hx : NextOf r fr.length nx) (hf : ∀ x, x < fr.length → 0 ≤ gi fr x ∧ gi fr x < n) {x : Nat} (hh : x < fr.length) : 0 ≤ gi nx x ∧ gi nx x < (fr.length : Int) ∧ gi fr (gi nx x).toNat = gi fr x := by
 obtain ⟨v, j, h1, h2, h3, h4⟩ := h.place hf hh
 have := hx.2 v (by rw [h.len]; exact h1) j h3
 rw [h4, Int.toNat_natCast] at this
 have q := h.at h1 (Nat.mod_lt (j + 1) (show 0 < (gl r v).length by omega))
 rw [this, h2]
 exact q
theorem per_leaving {fr : List Int} {n : Nat} {r : List (List Int)} {nx : List Int} (h : IsRot fr n r) (hx : NextOf r fr.length nx) (hf : ∀ x, x < fr.length → 0 ≤ gi fr x ∧ gi fr x < n) {x : Nat} (hh : x < fr.length) : 0 < per nx (x : Int) ∧ per nx (x : Int) = cnt fr fr.length (gi fr x) := by
 obtain ⟨v, j, h1, h2, h3, h4⟩ := h.place hf hh
 have := per_row h hx h1 h3
 rw [h4] at this
 rw [this, h2, row_len h h1]
 exact ⟨by rw [← row_len h h1]; omega, rfl⟩
section
variable {n : Nat} {l : List Ed} {r : List (List Int)}
abbrev nxOf (l : List Ed) (r : List (List Int)) : List Int := Graph.nxL r (2 * l.length)
abbrev toOf (l : List Ed) : List Int := Graph.tosL (ends l)
theorem nxOf_next (h : IsRot (frs l) n r) : NextOf r (frs l).length (nxOf l r) := by
 have := nextOf_nxL h
 rw [frs_length] at this ⊢
 exact this
theorem toOf_length (l : List Ed) : (toOf l).length = 2 * l.length := by rw [tosL_length, ends_length]
theorem from_to (hg : PureV.Good (n : Int) l) {h : Nat} (hh : h < 2 * l.length) : gi (frs l) h = gi (toOf l) (tw (h : Int)).toNat ∧ gi (toOf l) h = gi (frs l) (tw (h : Int)).toNat :=
 froms_tw (es := ends l) (by rw [ends_length]; exact hg.2.2.1) (by rw [ends_length]; exact hh)
theorem frs_in (hg : PureV.Good (n : Int) l) : ∀ x, x < (frs l).length → 0 ≤ gi (frs l) x ∧ gi (frs l) x < (n : Int) := fun x hx => frs_range hg (by rw [frs_length] at hx; exact hx)
theorem fit_map (hg : PureV.Good (n : Int) l) (h : IsRot (frs l) n r) : Fit n (nxOf l r) (toOf l) := by
 have hx := nxOf_next h
 have hfl := frs_length l
 have hll := hg.2.2.1
 have hn := hg.2.1
 have hxl : (nxOf l r).length = 2 * l.length := by rw [hx.1, hfl]
 refine ⟨by omega, by omega, by rw [toOf_length, hxl], fun x hh => ?_, fun x hh => ?_, fun x hh => ?_, fun x hh => ?_⟩
 ·have := next_in h hx (frs_in hg) (show x < (frs l).length by omega)
  exact ⟨this.1, by omega⟩
 ·have h1 := tw_in hll (show x < 2 * l.length by omega)
  rw [(from_to hg (by omega)).2]
  exact frs_in hg _ (by omega)
 ·rw [hxl]; exact tw_in hll (by omega)
 ·exact (per_leaving h hx (frs_in hg) (by omega)).1
theorem degs_of {ds : List Int} (hd : ds.length = n) (hv : ∀ v, v < n → gi ds v = ((leaving (frs l) v).length : Int)) : ds = Graph.degs (ends l) n := by
 have hl : (Graph.degs (ends l) n).length = n := by unfold Graph.degs; simp
 refine List.ext_getElem (by rw [hd, hl]) (fun v h1 h2 => ?_)
 have a := hv v (by omega)
 have b := Graph.gi_degs (es := ends l) (n := n) (v := v) (by omega)
 rw [leaving_cnt] at a
 have c : gi ds v = gi (Graph.degs (ends l) n) v := by rw [a, b]; rfl
 unfold gi at c
 rw [List.getD_eq_getElem?_getD, List.getD_eq_getElem?_getD, List.getElem?_eq_getElem h1, List.getElem?_eq_getElem h2] at c
 exact c
end
theorem turn_cd (nx tos : List Int) (s : St) (h : Int) : ∀ j, (turn nx tos s h j).cd.length = s.cd.length + j
 | 0 => rfl
 | j + 1 => by
  have ih := turn_cd nx tos s h j
  show (stepH tos (turn nx tos s h j) (it nx h j)).cd.length = _
  unfold stepH
  split <;> simp [ih] <;> omega
theorem upto_cd (nx tos : List Int) (s : St) : ∀ k, (upto nx tos s k).cd.length ≤ s.cd.length + k * (nx.length + 1)
 | 0 => by simp [upto]
 | k + 1 => by
  have ih := upto_cd nx tos s k
  have e : (k + 1) * (nx.length + 1) = k * (nx.length + 1) + (nx.length + 1) := Nat.succ_mul _ _
  unfold upto
  split
  ·unfold vert
   simp only [List.length_append, List.length_cons, turn_cd, List.length_nil]
   have := per_le nx (gi (upto nx tos s k).ent k)
   omega
  ·omega
theorem all_cd {n : Nat} {nx tos : List Int} (hf : Fit n nx tos) (root : Int) : (all n nx tos root).cd.length ≤ 9000000000000000 := by
 have h := upto_cd nx tos (Seen.start n tos root (gi tos (tw root).toNat)) n
 have h1 : n * (nx.length + 1) ≤ 1048576 * 8388609 := Nat.mul_le_mul hf.hn (by have := hf.hm; omega)
 have h2 : (Seen.start n tos root (gi tos (tw root).toNat)).cd.length = 0 := rfl
 unfold all
 omega
end Go.Proofs.Yteeihjpnhjnknaa.Rot
namespace Go.Proofs.Yteeihjpnhjnknaa.GAll
open Go.RowKit Go.Proofs.YteeihjpnhjnknaaW.PrintWords Go.Proofs.YteeihjpnhjnknaaW.PrintLast Go.Proofs.YteeihjpnhjnknaaW.PrintMore
attribute [local go_sem] max2_int min2_int max_two min_two max_three min_three max_four min_four   -- for this text's walks alone
set_option linter.unusedVariables false
set_option linter.unusedSimpArgs false
def rot_Next.fit (m : Nat) (r : List (List Int)) : Bool := decide (m ≤ 4194304) && (decide (r.length ≤ 1048576) && r.all fun row => decide (row.length ≤ 8388608) && row.all fun h => decide (0 ≤ h ∧ h < ((2 * m : Nat) : Int)))
def rot_Next.f (k : Nat) (a0_0 : Int) (l0_1 : List S89) (l1 : List (List Int)) : Option (List Int × Int) := (rot_Check.f k a0_0 l0_1 l1).bind fun t => if t.2 = 0 then (if rot_Next.fit l0_1.length l1 = true then some (Graph.nxL l1 (2 * l0_1.length), 0) else none) else some ([], t.2)
theorem rot_Next.mono : ∀ a0 a1 a2 k, LeO (rot_Next.f k a0 a1 a2) (rot_Next.f (k + 1) a0 a1 a2) := by
 intro a0 a1 a2 k
 unfold rot_Next.f
 exact LeO.bind (rot_Check.mono _ _ _ _) (fun _ => LeO.refl _)
theorem rot_Next.at_ {m : Nat} {r : List (List Int)} (h : rot_Next.fit m r = true) : m ≤ 4194304 ∧ r.length ≤ 1048576 ∧ (∀ v, v < r.length → (Mem.gl r v).length ≤ 8388608) ∧ ∀ v i, v < r.length → i < (Mem.gl r v).length → 0 ≤ Mem.gi (Mem.gl r v) i ∧ Mem.gi (Mem.gl r v) i < ((2 * m : Nat) : Int) := by
 unfold rot_Next.fit at h
 rw [Bool.and_eq_true, Bool.and_eq_true, List.all_eq_true, decide_eq_true_eq, decide_eq_true_eq] at h
 have hm : ∀ v, v < r.length → Mem.gl r v ∈ r := fun v hv => by
  unfold Mem.gl
  rw [List.getD_eq_getElem?_getD, List.getElem?_eq_getElem hv]
  exact List.getElem_mem hv
 refine ⟨h.1, h.2.1, fun v hv => ?_, fun v i hv hi => ?_⟩
 ·have h2 := h.2.2 _ (hm v hv)
  rw [Bool.and_eq_true, decide_eq_true_eq] at h2
  exact h2.1
 ·have h2 := h.2.2 _ (hm v hv)
  rw [Bool.and_eq_true, List.all_eq_true] at h2
  have h3 : Mem.gi (Mem.gl r v) i ∈ Mem.gl r v := by
   unfold Mem.gi
   rw [List.getD_eq_getElem?_getD, List.getElem?_eq_getElem hi]
   exact List.getElem_mem hi
  exact of_decide_eq_true (h2.2 _ h3)
theorem rot_Next.calls (k : Nat) (a0_0 : Int) (A0_1 : Option Addr) (c0_1 : Nat) (l0_1 : List (S89)) (A1 : Option Addr) (c1 : Nat) (l1 : List (List Int)) (r1 : List Int) (r2 : Int) (w : World) (hr0_1 : Kd.C k89 w A0_1 l0_1.length l0_1) (hc0_1 : l0_1.length ≤ c0_1) (hr1 : Kd.C (Kd.slice 3 (Kd.int .i64)) w A1 l1.length l1) (hc1 : l1.length ≤ c1) (h : rot_Next.f k a0_0 l0_1 l1 = some (r1, r2)) :
  Calls Try.prog 60 #[.agg #[.int .i64 a0_0, .slice A0_1 l0_1.length c0_1], .slice A1 l1.length c1] w fun e w' => ∃ v0_ : Value, e = .returned (.tuple #[v0_, .int .i64 r2]) ∧ Kd.R (Kd.int .i64) 3 w' w.heap.size (fun _ => True) v0_ r1 ∧ Below w.heap.size w w' := by
 obtain ⟨⟨v0, e0⟩, ht, h⟩ := Option.bind_eq_some_iff.mp h
 have hck : ∀ W : World, Below w.heap.size w W → Calls Try.prog 70 #[.agg #[.int .i64 a0_0, .slice A0_1 l0_1.length c0_1], .slice A1 l1.length c1] W fun e w' => e = .returned (.tuple #[.int .i64 v0, .int .i64 e0]) ∧ Below W.heap.size W w' :=
  fun W hW => rot_Check.calls k a0_0 A0_1 c0_1 l0_1 A1 c1 l1 v0 e0 W (Kd.C_below hr0_1 hW) hc0_1 (Kd.C_below hr1 hW) hc1 ht
 by_cases he : e0 = 0
 ·subst he
  rw [if_pos rfl] at h
  by_cases hf : rot_Next.fit l0_1.length l1 = true
  ·rw [if_pos hf] at h
   obtain ⟨g1, g2, g3, g4⟩ := rot_Next.at_ hf
   obtain ⟨rfl, rfl⟩ : Graph.nxL l1 (2 * l0_1.length) = r1 ∧ 0 = r2 := by simpa using h
   exact Graph.next_ok a0_0 A0_1 l0_1.length c0_1 A1 c1 l1 v0 w hr1 g1 g4 (fun v hv => Nat.le_trans (g3 v hv) (by decide)) (Nat.le_trans g2 (by decide)) hck
  ·rw [if_neg hf] at h; cases h
 ·rw [if_neg he] at h
  obtain ⟨rfl, rfl⟩ : ([] : List Int) = r1 ∧ e0 = r2 := by simpa using h
  exact Graph.next_bad a0_0 A0_1 l0_1.length c0_1 A1 l1.length c1 v0 e0 he w hck
end Go.Proofs.Yteeihjpnhjnknaa.GAll
namespace Go.Proofs.Yteeihjpnhjnknaa.GAll
open Go.RowKit Go.Proofs.YteeihjpnhjnknaaW.PrintWords Go.Proofs.YteeihjpnhjnknaaW.PrintLast Go.Proofs.YteeihjpnhjnknaaW.PrintMore
attribute [local go_sem] max2_int min2_int max_two min_two max_three min_three max_four min_four   -- for this text's walks alone
set_option linter.unusedVariables false
set_option linter.unusedSimpArgs false
theorem comps_Of.pairs {w : World} {A : Option Addr} {l : List S89} (h : Kd.C k89 w A l.length l) : Sets.Pairs w A (l.map fun x => (x.f0, x.f1)) := by
 intro i hi
 rw [List.length_map] at hi
 obtain ⟨ad, e, h1, h2⟩ := at_T89 h (i : Int) (by omega) (by omega)
 have e2 : Sets.pe (l.map fun x => (x.f0, x.f1)) i = ((rd_T89 l (i : Int)).f0, (rd_T89 l (i : Int)).f1) := by
  unfold Sets.pe rd_T89
  simp [List.getD_eq_getElem?_getD, hi]
 rw [e2]
 exact ⟨ad, e, h1, h2⟩
def comps_Of.out (n : Int) (l : List S89) : List Nat × Nat := Sets.numTo (Sets.joinAll (List.range n.toNat) (l.map fun x => (x.f0, x.f1))) n.toNat
def comps_Of.f (k : Nat) (a0_0 : Int) (l0_1 : List S89) : Option (List Int × Int × Int) := (simple_Valid.f k a0_0 l0_1).bind fun t => if t = true then (if 0 ≤ a0_0 ∧ a0_0 ≤ 1048576 then some ((comps_Of.out a0_0 l0_1).1.map (fun (x : Nat) => (x : Int)), (((comps_Of.out a0_0 l0_1).2 : Nat) : Int), 0) else none) else some ([], 0, 1)
theorem comps_Of.mono : ∀ a0 a1 k, LeO (comps_Of.f k a0 a1) (comps_Of.f (k + 1) a0 a1) := by
 intro a0 a1 k
 unfold comps_Of.f
 exact LeO.bind (simple_Valid.mono _ _ _) (fun _ => LeO.refl _)
set_option maxHeartbeats 1000000 in
set_option maxRecDepth 100000 in
theorem comps_Of.calls (k : Nat) (a0_0 : Int) (A0_1 : Option Addr) (c0_1 : Nat) (l0_1 : List (S89)) (r1 : List Int) (r2 : Int) (r3 : Int) (w : World) (hr0_1 : Kd.C k89 w A0_1 l0_1.length l0_1) (hc0_1 : l0_1.length ≤ c0_1) (h : comps_Of.f k a0_0 l0_1 = some (r1, r2, r3)) :
  Calls Try.prog 61 #[.agg #[.int .i64 a0_0, .slice A0_1 l0_1.length c0_1]] w fun e w' => ∃ v0_ : Value, e = .returned (.tuple #[v0_, .int .i64 r2, .int .i64 r3]) ∧ Kd.R (Kd.int .i64) 3 w' w.heap.size (fun _ => True) v0_ r1 ∧ Below w.heap.size w w' := by
 obtain ⟨t, ht, h⟩ := Option.bind_eq_some_iff.mp h
 cases t with
 | false =>
  rw [if_neg (by decide)] at h
  obtain ⟨rfl, rfl, rfl⟩ : [] = r1 ∧ 0 = r2 ∧ 1 = r3 := by simpa using h
  have hv : Sets.SaysNo a0_0 A0_1 l0_1.length c0_1 w := fun W hW => simple_Valid.calls k a0_0 A0_1 c0_1 l0_1 false W (Kd.C_below hr0_1 hW) hc0_1 ht
  exact (Sets.of_no a0_0 A0_1 l0_1.length c0_1 w hv).mono fun e w' ⟨h1, h2⟩ => ⟨_, h1, Kd.R_nil _ _ _ _ _, h2⟩
 | true =>
  rw [if_pos rfl] at h
  by_cases hn : 0 ≤ a0_0 ∧ a0_0 ≤ 1048576
  ·rw [if_pos hn] at h
   obtain ⟨n, rfl⟩ := Int.eq_ofNat_of_zero_le hn.1
   have hn3 : n ≤ 1048576 := Int.ofNat_le.1 hn.2
   have ho : comps_Of.out (n : Int) l0_1 = Sets.numTo (Sets.joinAll (List.range n) (l0_1.map fun x => (x.f0, x.f1))) n := by unfold comps_Of.out; rw [Int.toNat_natCast]
   rw [ho] at h
   have hv : Sets.SaysYes (n : Int) A0_1 (l0_1.map fun x => (x.f0, x.f1)).length c0_1 w := fun W hW => by
    rw [List.length_map]; exact simple_Valid.calls k _ A0_1 c0_1 l0_1 true W (Kd.C_below hr0_1 hW) hc0_1 ht
   have hl : (l0_1.map fun x => (x.f0, x.f1)).length ≤ 9223372036854775807 := by rw [List.length_map]; exact Sets.C_le hr0_1
   have hc := Sets.of_yes n A0_1 c0_1 (l0_1.map fun x => (x.f0, x.f1)) w
   have hc := hc hv
   have hc := hc hn3 (comps_Of.pairs hr0_1) hl
   rw [List.length_map] at hc
   refine hc.mono fun e w' ⟨bo, h1, h2, h3, h4⟩ => ?_
   simp only [Option.some.injEq, Prod.mk.injEq] at h
   obtain ⟨rfl, rfl, rfl⟩ := h
   have hn2 := Sets.numTo_length (Sets.joinAll (List.range n) (l0_1.map fun x => (x.f0, x.f1))) n
   have hr := Sets.row_own (ok := fun _ => True) h3 h2 (by rw [hn2]; exact Nat.le_trans hn3 (by decide)) trivial
   rw [hn2] at hr
   exact ⟨_, h1, hr, h4⟩
  ·rw [if_neg hn] at h; cases h
end Go.Proofs.Yteeihjpnhjnknaa.GAll
namespace Go.Proofs.Yteeihjpnhjnknaa.GAll
open Go.RowKit Go.Proofs.YteeihjpnhjnknaaW.PrintWords Go.Proofs.YteeihjpnhjnknaaW.PrintLast Go.Proofs.YteeihjpnhjnknaaW.PrintMore
attribute [local go_sem] max2_int min2_int max_two min_two max_three min_three max_four min_four   -- for this text's walks alone
set_option linter.unusedVariables false
set_option linter.unusedSimpArgs false
def canon_look.told (n : Int) (l : List S89) (nx : List Int) (o : List Int × Int × Int) : Option (Int × List Int × List Int × Int × Int) :=
 if nx.length = 2 * l.length ∧ l.length ≤ 4194304 ∧ o.2.2 = 0 then some (if o.2.1 = 1 ∧ l.length ≠ 0 then (n, nx, Look.tosAll (l.map fun x => (x.f0, x.f1)), 0, 0) else (0, [], [], 0, 210)) else none
def canon_look.f (k : Nat) (a0_0 : Int) (l0_1 : List S89) (l1 : List (List Int)) : Option (Int × List Int × List Int × Int × Int) :=
 (rot_Next.f k a0_0 l0_1 l1).bind fun t => if t.2 = 0 then ((comps_Of.f k a0_0 l0_1).bind fun o => canon_look.told a0_0 l0_1 t.1 o) else some (0, [], [], t.2, 0)
theorem canon_look.mono : ∀ a0 a1 a2 k, LeO (canon_look.f k a0 a1 a2) (canon_look.f (k + 1) a0 a1 a2) := by
 intro a0 a1 a2 k
 unfold canon_look.f
 refine LeO.bind (rot_Next.mono _ _ _ _) (fun t => ?_)
 refine LeO.ite ?_ (LeO.refl _)
 exact LeO.bind (comps_Of.mono _ _ _) (fun _ => LeO.refl _)
set_option maxHeartbeats 1000000 in
theorem canon_look.calls (k : Nat) (a0_0 : Int) (A0_1 : Option Addr) (c0_1 : Nat) (l0_1 : List (S89)) (A1 : Option Addr) (c1 : Nat) (l1 : List (List Int)) (r1 : Int) (r2 : List Int) (r3 : List Int) (r4 : Int) (r5 : Int) (w : World) (hr0_1 : Kd.C k89 w A0_1 l0_1.length l0_1) (hc0_1 : l0_1.length ≤ c0_1) (hr1 : Kd.C (Kd.slice 3 (Kd.int .i64)) w A1 l1.length l1) (hc1 : l1.length ≤ c1) (h : canon_look.f k a0_0 l0_1 l1 = some (r1, r2, r3, r4, r5)) :
  Calls Try.prog 41 #[.agg #[.int .i64 a0_0, .slice A0_1 l0_1.length c0_1], .slice A1 l1.length c1] w fun e w' => ∃ v1_ v2_ : Value, e = .returned (.tuple #[.agg #[.int .i64 r1, v1_, v2_], .int .i64 r4, .int .i64 r5]) ∧ Kd.R (Kd.int .i64) 3 w' w.heap.size (fun k_ => some k_ ≠ (v2_ : Value).ownBlock) v1_ r2 ∧ Kd.R (Kd.int .i64) 3 w' w.heap.size (fun k_ => some k_ ≠ (v1_ : Value).ownBlock) v2_ r3 ∧ Below w.heap.size w w' := by
 obtain ⟨⟨nx, e⟩, ht, h⟩ := Option.bind_eq_some_iff.mp h
 have hn : Look.NextSays nx e a0_0 A0_1 l0_1.length c0_1 A1 l1.length c1 w := fun W hW => rot_Next.calls k a0_0 A0_1 c0_1 l0_1 A1 c1 l1 nx e W (Kd.C_below hr0_1 hW) hc0_1 (Kd.C_below hr1 hW) hc1 ht
 by_cases he : e = 0
 ·rw [if_pos he] at h
  subst he
  obtain ⟨⟨os, k1, e1⟩, hd, h⟩ := Option.bind_eq_some_iff.mp h
  unfold canon_look.told at h
  by_cases hf : nx.length = 2 * l0_1.length ∧ l0_1.length ≤ 4194304 ∧ e1 = 0
  ·rw [if_pos hf] at h
   obtain ⟨f1, f2, rfl⟩ := hf
   have ho : Look.OfSays k1 a0_0 A0_1 l0_1.length c0_1 w := fun W hW => (comps_Of.calls k a0_0 A0_1 c0_1 l0_1 os k1 0 W (Kd.C_below hr0_1 hW) hc0_1 hd).mono fun _ _ ⟨v, h1, _, h3⟩ => ⟨v, h1, h3⟩
   have hlm : (l0_1.map fun x => (x.f0, x.f1)).length = l0_1.length := List.length_map ..
   have hp := rot_Check.pairs hr0_1
   obtain ⟨es, hes⟩ : ∃ es, es = l0_1.map fun x => (x.f0, x.f1) := ⟨_, rfl⟩
   rw [← hes] at h hlm hp
   rw [← hlm] at hn ho f1 f2 h ⊢
   refine (Look.look_ok nx k1 a0_0 A0_1 c0_1 es A1 l1.length c1 w hn ho hp f2 f1).mono fun e' w' hE => ?_
   by_cases hc : k1 = 1 ∧ es.length ≠ 0
   ·rw [if_pos hc] at h
    obtain ⟨rfl, rfl, rfl, rfl, rfl⟩ : a0_0 = r1 ∧ nx = r2 ∧ Look.tosAll es = r3 ∧ 0 = r4 ∧ 0 = r5 := by simpa using h
    exact hE.1 (decide_eq_true hc)
   ·rw [if_neg hc] at h
    obtain ⟨rfl, rfl, rfl, rfl, rfl⟩ : 0 = r1 ∧ [] = r2 ∧ [] = r3 ∧ 0 = r4 ∧ 210 = r5 := by simpa using h
    exact hE.2 (decide_eq_false hc)
  ·rw [if_neg hf] at h; cases h
 ·rw [if_neg he] at h
  obtain ⟨rfl, rfl, rfl, rfl, rfl⟩ : 0 = r1 ∧ [] = r2 ∧ [] = r3 ∧ e = r4 ∧ 0 = r5 := by simpa using h
  exact Look.look_bad nx e he a0_0 A0_1 l0_1.length c0_1 A1 l1.length c1 w hn
def canon_one.f (k : Nat) (a0_0 : Int) (l0_1 : List S89) (l1 : List (List Int)) : Option (Int × List Int × List Int × Int) := (canon_look.f k a0_0 l0_1 l1).bind fun t => some (t.1, t.2.1, t.2.2.1, if t.2.2.2.1 = 0 then t.2.2.2.2 else t.2.2.2.1)
theorem canon_one.mono : ∀ a0 a1 a2 k, LeO (canon_one.f k a0 a1 a2) (canon_one.f (k + 1) a0 a1 a2) := fun _ _ _ _ => LeO.bind (canon_look.mono _ _ _ _) (fun _ => LeO.refl _)
theorem canon_one.calls (k : Nat) (a0_0 : Int) (A0_1 : Option Addr) (c0_1 : Nat) (l0_1 : List (S89)) (A1 : Option Addr) (c1 : Nat) (l1 : List (List Int)) (r1 : Int) (r2 : List Int) (r3 : List Int) (r4 : Int) (w : World) (hr0_1 : Kd.C k89 w A0_1 l0_1.length l0_1) (hc0_1 : l0_1.length ≤ c0_1) (hr1 : Kd.C (Kd.slice 3 (Kd.int .i64)) w A1 l1.length l1) (hc1 : l1.length ≤ c1) (h : canon_one.f k a0_0 l0_1 l1 = some (r1, r2, r3, r4)) :
  Calls Try.prog 36 #[.agg #[.int .i64 a0_0, .slice A0_1 l0_1.length c0_1], .slice A1 l1.length c1] w fun e w' => ∃ v1_ v2_ : Value, e = .returned (.tuple #[.agg #[.int .i64 r1, v1_, v2_], .int .i64 r4]) ∧ Kd.R (Kd.int .i64) 3 w' w.heap.size (fun k_ => some k_ ≠ (v2_ : Value).ownBlock) v1_ r2 ∧ Kd.R (Kd.int .i64) 3 w' w.heap.size (fun k_ => some k_ ≠ (v1_ : Value).ownBlock) v2_ r3 ∧ Below w.heap.size w w' := by
 obtain ⟨⟨n, nx, tl, e, a⟩, ht, h⟩ := Option.bind_eq_some_iff.mp h
 obtain ⟨rfl, rfl, rfl, hx⟩ : n = r1 ∧ nx = r2 ∧ tl = r3 ∧ (if e = 0 then a else e) = r4 := by simpa using h
 exact One.one_calls a0_0 A0_1 l0_1.length c0_1 _ n nx tl e a w (fun W hW => canon_look.calls k a0_0 A0_1 c0_1 l0_1 A1 c1 l1 n nx tl e a W (Kd.C_below hr0_1 hW) hc0_1 (Kd.C_below hr1 hW) hc1 ht) r4 hx.symm
end Go.Proofs.Yteeihjpnhjnknaa.GAll
namespace Go.Proofs.Yteeihjpnhjnknaa.GAll
open Go.RowKit Go.Proofs.YteeihjpnhjnknaaW.PrintWords Go.Proofs.YteeihjpnhjnknaaW.PrintLast Go.Proofs.YteeihjpnhjnknaaW.PrintMore
attribute [local go_sem] max2_int min2_int max_two min_two max_three min_three max_four min_four   -- for this text's walks alone
set_option linter.unusedVariables false
set_option linter.unusedSimpArgs false
def canon_plane_code.f (k : Nat) (a0_0 : Int) (l0_1 : List Int) (l0_2 : List Int) (a1 : Int) : Option (List Int × List Int) :=
 if 0 ≤ a0_0 ∧ 0 ≤ a1 ∧ a1 < (l0_1.length : Int) ∧ Seen.fit a0_0.toNat l0_1 l0_2 = true then some ((Seen.all a0_0.toNat l0_1 l0_2 a1).cd, (Seen.all a0_0.toNat l0_1 l0_2 a1).ord) else none
theorem canon_plane_code.mono : ∀ a0 a1 a2 a3 k, LeO (canon_plane_code.f k a0 a1 a2 a3) (canon_plane_code.f (k + 1) a0 a1 a2 a3) := fun _ _ _ _ _ => LeO.refl _
theorem canon_plane_code.calls (k : Nat) (a0_0 : Int) (A0_1 : Option Addr) (c0_1 : Nat) (l0_1 : List Int) (A0_2 : Option Addr) (c0_2 : Nat) (l0_2 : List Int) (a1 : Int) (r1 : List Int) (r2 : List Int) (w : World) (hr0_1 : Kd.C (Kd.int .i64) w A0_1 l0_1.length l0_1) (hc0_1 : l0_1.length ≤ c0_1) (hr0_2 : Kd.C (Kd.int .i64) w A0_2 l0_2.length l0_2) (hc0_2 : l0_2.length ≤ c0_2) (h : canon_plane_code.f k a0_0 l0_1 l0_2 a1 = some (r1, r2)) :
  Calls Try.prog 37 #[.agg #[.int .i64 a0_0, .slice A0_1 l0_1.length c0_1, .slice A0_2 l0_2.length c0_2], .int .i64 a1] w fun e w' => ∃ v0_ v1_ : Value, e = .returned (.tuple #[v0_, v1_]) ∧ Kd.R (Kd.int .i64) 3 w' w.heap.size (fun k_ => some k_ ≠ (v1_ : Value).ownBlock) v0_ r1 ∧ Kd.R (Kd.int .i64) 3 w' w.heap.size (fun k_ => some k_ ≠ (v0_ : Value).ownBlock) v1_ r2 ∧ Below w.heap.size w w' := by
 unfold canon_plane_code.f at h
 by_cases hc : 0 ≤ a0_0 ∧ 0 ≤ a1 ∧ a1 < (l0_1.length : Int) ∧ Seen.fit a0_0.toNat l0_1 l0_2 = true
 ·rw [if_pos hc] at h
  obtain ⟨h0, h1, h2, h3⟩ := hc
  obtain ⟨n, rfl⟩ := Int.eq_ofNat_of_zero_le h0
  obtain ⟨root, rfl⟩ := Int.eq_ofNat_of_zero_le h1
  rw [Int.toNat_natCast] at h h3
  obtain ⟨rfl, rfl⟩ : (Seen.all n l0_1 l0_2 (root : Int)).cd = r1 ∧ (Seen.all n l0_1 l0_2 (root : Int)).ord = r2 := by simpa using h
  exact Seen.code_calls n l0_1 l0_2 A0_1 c0_1 A0_2 c0_2 root w hr0_1 hr0_2 (Seen.fit_iff.1 h3) (by omega)
 ·rw [if_neg hc] at h; cases h
def canon_Rooted.f (k : Nat) (a0_0 : Int) (l0_1 : List S89) (l1 : List (List Int)) (a2 : Int) : Option (List Int × Int) := (canon_one.f k a0_0 l0_1 l1).bind fun t => if t.2.2.2 = 0 then (if a2 < 0 then some ([], 2) else if a2 ≥ (t.2.1.length : Int) then some ([], 2) else (canon_plane_code.f k t.1 t.2.1 t.2.2.1 a2).bind fun u => some (u.1, 0)) else some ([], t.2.2.2)
theorem canon_Rooted.mono : ∀ a0 a1 a2 a3 k, LeO (canon_Rooted.f k a0 a1 a2 a3) (canon_Rooted.f (k + 1) a0 a1 a2 a3) := fun _ _ _ _ _ =>
 LeO.bind (canon_one.mono _ _ _ _) (fun _ => LeO.ite (LeO.ite (LeO.refl _) (LeO.ite (LeO.refl _) (LeO.bind (canon_plane_code.mono _ _ _ _ _) (fun _ => LeO.refl _)))) (LeO.refl _))
theorem canon_Rooted.calls (k : Nat) (a0_0 : Int) (A0_1 : Option Addr) (c0_1 : Nat) (l0_1 : List (S89)) (A1 : Option Addr) (c1 : Nat) (l1 : List (List Int)) (a2 : Int) (r1 : List Int) (r2 : Int) (w : World) (hr0_1 : Kd.C k89 w A0_1 l0_1.length l0_1) (hc0_1 : l0_1.length ≤ c0_1) (hr1 : Kd.C (Kd.slice 3 (Kd.int .i64)) w A1 l1.length l1) (hc1 : l1.length ≤ c1) (h : canon_Rooted.f k a0_0 l0_1 l1 a2 = some (r1, r2)) :
  Calls Try.prog 13 #[.agg #[.int .i64 a0_0, .slice A0_1 l0_1.length c0_1], .slice A1 l1.length c1, .int .i64 a2] w fun e w' => ∃ v0_ : Value, e = .returned (.tuple #[v0_, .int .i64 r2]) ∧ Kd.R (Kd.int .i64) 3 w' w.heap.size (fun _ => True) v0_ r1 ∧ Below w.heap.size w w' := by
 obtain ⟨⟨n, nx, tl, e⟩, ht, h⟩ := Option.bind_eq_some_iff.mp h
 simp only at h
 refine One.rooted_calls a0_0 A0_1 l0_1.length c0_1 _ a2 n nx tl e w (fun W hW => canon_one.calls k a0_0 A0_1 c0_1 l0_1 A1 c1 l1 n nx tl e W (Kd.C_below hr0_1 hW) hc0_1 (Kd.C_below hr1 hW) hc1 ht) (r1, r2) (fun he => ?_) (fun he => ?_)
 ·rw [if_neg he] at h
  exact (Option.some.inj h).symm
 ·rw [if_pos he] at h
  refine ⟨fun h1 => ?_, fun h1 h2 => ?_, fun h1 h2 => ?_⟩
  ·rw [if_pos h1] at h; exact (Option.some.inj h).symm
  ·rw [if_neg (by omega), if_pos h2] at h; exact (Option.some.inj h).symm
  ·rw [if_neg (by omega), if_neg (by omega)] at h
   obtain ⟨⟨cd, od⟩, hu, h⟩ := Option.bind_eq_some_iff.mp h
   obtain ⟨rfl, rfl⟩ : cd = r1 ∧ 0 = r2 := by simpa using h
   exact ⟨rfl, fun W B1 d1 B2 d2 g1 g2 g3 g4 => (canon_plane_code.calls k n B1 d1 nx B2 d2 tl a2 cd od W g1 g2 g3 g4 hu).mono fun _ _ ⟨v0, v1, q1, q2, _, q4⟩ => ⟨v0, v1, q1, Kd.R_mono q2 (fun _ _ => trivial), q4⟩⟩
end Go.Proofs.Yteeihjpnhjnknaa.GAll
namespace Go.Proofs.Yteeihjpnhjnknaa.GAll
open Go.RowKit Go.Proofs.YteeihjpnhjnknaaW.PrintWords Go.Proofs.YteeihjpnhjnknaaW.PrintLast Go.Proofs.YteeihjpnhjnknaaW.PrintMore
attribute [local go_sem] max2_int min2_int max_two min_two max_three min_three max_four min_four   -- for this text's walks alone
set_option linter.unusedVariables false
set_option linter.unusedSimpArgs false
mutual
def tangramref05_New.j0 : Nat → Int → Bool → Option (List Int × Int)
 | 0, _, _ => none
 | k + 1, x0, x11 => if x11 = true then (some (([] : List Int), 2)) else (tangramref05_New.l0 k x0 ([] : List Int) 0)
def tangramref05_New.l0 : Nat → Int → List Int → Int → Option (List Int × Int)
 | 0, _, _, _ => none
 | k + 1, x0, x4, x5 => if x5 < x0 then (if x4.length < 17592186044416 then (tangramref05_New.l0 k x0 (x4 ++ [x5]) (wrap64 (x5 + 1))) else (none)) else (some (x4, 0))
end
def tangramref05_New.f (k : Nat) (a0 : Int) : Option (List Int × Int) := if a0 < 0 then (tangramref05_New.j0 k a0 true) else (tangramref05_New.j0 k a0 (decide (a0 > 1048576)))
theorem tangramref05_New.mono_l : ∀ k, (∀ y0 y1, LeO (tangramref05_New.j0 k y0 y1) (tangramref05_New.j0 (k + 1) y0 y1)) ∧ (∀ y0 y1 y2, LeO (tangramref05_New.l0 k y0 y1 y2) (tangramref05_New.l0 (k + 1) y0 y1 y2))
 | 0 => ⟨fun _ _ r h => by simp [tangramref05_New.j0] at h, fun _ _ _ r h => by simp [tangramref05_New.l0] at h⟩
 | k + 1 => by
  obtain ⟨ih0, ih1⟩ := tangramref05_New.mono_l k
  refine ⟨?_, ?_⟩
  ·intro y0 y1
   unfold tangramref05_New.j0
   repeat' first
   | (with_reducible exact ih0 _ _)
   | (with_reducible exact ih1 _ _ _)
   | (with_reducible exact LeO.refl _)
   | (with_reducible exact LeO.none _)
   | (with_reducible refine LeO.ite ?_ ?_)
   | (with_reducible refine LeO.bind ?_ (fun _ => ?_))
   | exact ih0 _ _
   | exact ih1 _ _ _
   | exact LeO.none _
   | refine LeO.ite ?_ ?_
   | refine LeO.bind ?_ (fun _ => ?_)
  ·intro y0 y1 y2
   unfold tangramref05_New.l0
   repeat' first
   | (with_reducible exact ih0 _ _)
   | (with_reducible exact ih1 _ _ _)
   | (with_reducible exact LeO.refl _)
   | (with_reducible exact LeO.none _)
   | (with_reducible refine LeO.ite ?_ ?_)
   | (with_reducible refine LeO.bind ?_ (fun _ => ?_))
   | exact ih0 _ _
   | exact ih1 _ _ _
   | exact LeO.none _
   | refine LeO.ite ?_ ?_
   | refine LeO.bind ?_ (fun _ => ?_)
theorem tangramref05_New.mono : ∀ a0 k, LeO (tangramref05_New.f k a0) (tangramref05_New.f (k + 1) a0) := by
 intro a0 k
 obtain ⟨ih0, ih1⟩ := tangramref05_New.mono_l k
 unfold tangramref05_New.f
 repeat' first
   | (with_reducible exact ih0 _ _)
   | (with_reducible exact ih1 _ _ _)
   | (with_reducible exact LeO.refl _)
   | (with_reducible exact LeO.none _)
   | (with_reducible refine LeO.ite ?_ ?_)
   | (with_reducible refine LeO.bind ?_ (fun _ => ?_))
   | exact ih0 _ _
   | exact ih1 _ _ _
   | exact LeO.none _
   | refine LeO.ite ?_ ?_
   | refine LeO.bind ?_ (fun _ => ?_)
set_option maxHeartbeats 8000000 in
set_option maxRecDepth 100000 in
theorem tangramref05_New.calls (k : Nat) (a0 : Int) (r1 : List Int) (r2 : Int) (w : World) (h : tangramref05_New.f k a0 = some (r1, r2)) :
  Calls Try.prog 64 #[.int .i64 a0] w fun e w' => ∃ v0_ : Value, e = .returned (.tuple #[v0_, .int .i64 r2]) ∧ Kd.R (Kd.int .i64) 3 w' w.heap.size (fun _ => True) v0_ r1 ∧ Below w.heap.size w w' := by
 have HB := Aside0.mk (Below.refl w.heap.size w)
 have H : (if a0 < 0 then (tangramref05_New.j0 k a0 true) else (tangramref05_New.j0 k a0 (decide (a0 > 1048576)))) = some (r1, r2) := h
 clear h
 have HC2 := Aside0.mk H
 clear H
 go_enter Try.func64, Try.ntmps64
 go_upto_region 1 with (fail)
 go_cut [11] (fun v11 wc => ∃ (kq : Nat) (x11_1 : Bool), v11 = .bool x11_1 ∧ Aside0 (tangramref05_New.j0 kq a0 x11_1 = some (r1, r2)) ∧ Aside0 (kq ≤ k) ∧ Aside0 (Below w.heap.size w wc))
 case first =>
  have H := HC2.out
  clear HC2
  by_cases c3 : a0 < 0
  ·rw [if_pos c3] at H
   have c3b0 : decide (a0 < 0) = true := decide_eq_true c3
   clear c3
   (first | rw [c3b0] | (simp only [i64_w, i32_w]; rw [c3b0]) | skip)
   have H' := Aside0.mk H
   clear H
   go_wp2
   go_meet
   case rel => exact ⟨_, (true), (by first | rfl | (simp; done) | (simp [*]; done)), H', ⟨by first | omega | exact Nat.le_refl _⟩, ⟨by repeat (first | (with_reducible first | exact HB.out | apply below_alloc | apply pw_below_drewN | apply below_drew1) | exact HB.out)⟩⟩
  ·rw [if_neg c3] at H
   have c3b0 : decide (a0 < 0) = false := decide_eq_false c3
   clear c3
   (first | rw [c3b0] | (simp only [i64_w, i32_w]; rw [c3b0]) | skip)
   have H' := Aside0.mk H
   clear H
   go_wp2
   go_meet
   case rel => exact ⟨_, (decide (a0 > 1048576)), (by first | rfl | (simp; done) | (simp [*]; done)), H', ⟨by first | omega | exact Nat.le_refl _⟩, ⟨by repeat (first | (with_reducible first | exact HB.out | apply below_alloc | apply pw_below_drewN | apply below_drew1) | exact HB.out)⟩⟩
 case rest =>
  clear HC2
  try clear p2
  try clear c3
  try clear c3b0
  obtain ⟨kq, x11_1, rfl, HA, HJ1, HB⟩ := hcut
  cases kq with
  | zero => exact absurd HA.out (by simp [tangramref05_New.j0])
  | succ kj1 =>
   have H := HA.out
   clear HA
   simp only [tangramref05_New.j0] at H
   by_cases c4 : x11_1 = true
   ·subst c4
    have H1 : (some (([] : List Int), 2)) = some (r1, r2) := by rw [if_pos rfl] at H; exact H
    clear H
    have H := H1
    clear H1
    simp only [Option.some.injEq, Prod.mk.injEq] at H
    obtain ⟨rfl, rfl⟩ := H
    go_wp2
    go_ret2
    exact ⟨_, by first | rfl | (simp [errW_none, errW_some] <;> rfl) | (simp [*, errW_none, errW_some] <;> rfl), by first | exact Kd.R_nil _ _ _ _ _ | exact Kd.N_nil _ _ _ _ _ | exact Kd.V_nil _ _ _ _ _ | exact Kd.Q_nil _ _ _ _ _ | exact Kd.S_nil _ _ _ _ _, by repeat (first | (with_reducible first | exact HB.out | apply below_alloc | apply pw_below_drewN | apply below_drew1) | exact HB.out)⟩
   ·replace c4 := Bool.eq_false_iff.mpr c4
    subst c4
    have H1 : (tangramref05_New.l0 kj1 a0 ([] : List Int) 0) = some (r1, r2) := by rw [if_neg (show ¬ (false = true) by decide)] at H; exact H
    clear H
    have H := H1
    clear H1
    have H' := Aside0.mk H
    clear H
    go_wp2
    go_loopg [4, 5] kj1 (fun kq v4 v5 w' => ∃ (x4_2 : List Int) (x5_2 : Int), v5 = .int .i64 x5_2 ∧ Aside0 (tangramref05_New.l0 kq a0 x4_2 x5_2 = some (r1, r2)) ∧ Aside0 (kq ≤ kj1) ∧ Aside0 (Kd.R (Kd.int .i64) 3 w' w.heap.size (fun _ => True) v4 x4_2) ∧ Aside0 (Below w.heap.size w w'))
    case atStart => exact ⟨(([] : List Int)), (0), (by first | rfl | (simp; done) | (simp [*]; done)), H', ⟨Nat.le_refl _⟩, ⟨by first | exact Kd.R_nil _ _ _ _ _ | exact Kd.N_nil _ _ _ _ _ | exact Kd.V_nil _ _ _ _ _ | exact Kd.Q_nil _ _ _ _ _ | exact Kd.S_nil _ _ _ _ _⟩, ⟨by repeat (first | (with_reducible first | exact HB.out | apply below_alloc | apply pw_below_drewN | apply below_drew1) | exact HB.out)⟩⟩
    case round =>
     clear H'
     try clear p2
     try clear c3
     try clear c3b0
     try clear c4
     try clear p2
     obtain ⟨x4_2, x5_2, rfl, HA, HK2, HO_4, HB⟩ := hrel
     cases gk with
     | zero => exact absurd HA.out (by simp [tangramref05_New.l0])
     | succ k2 =>
      have H := HA.out
      clear HA
      simp only [tangramref05_New.l0] at H
      by_cases c5 : x5_2 < a0
      ·rw [if_pos c5] at H
       have c5b0 : decide (x5_2 < a0) = true := decide_eq_true c5
       clear c5
       by_cases c6 : x4_2.length < 17592186044416
       ·rw [if_pos c6] at H
        have LMc6 := Aside0.mk c6
        clear c6
        obtain ⟨y174, hy174⟩ : ∃ y_ : List Int, y_ = (x4_2 ++ [x5_2]) := ⟨_, rfl⟩
        replace H : (tangramref05_New.l0 k2 a0 y174 (wrap64 (x5_2 + 1))) = some (r1, r2) := by first | (rw [hy174]; with_reducible exact H) | (have H2_ := (Option.bind_some _ _).symm.trans H; rw [hy174]; with_reducible exact H2_) | (have H2_ := (Option.bind_some _ _).symm.trans H; with_reducible exact H2_) | with_reducible exact H | (rw [hy174]; exact H) | exact H
        have Ny174 := Aside0.mk hy174
        clear hy174
        have H' := Aside0.mk H
        clear H
        go_wp2_with (first | ((with_reducible refine gate_builtin (b := .append) (xs := #[.tmp 17, .tmp 19]) rfl ?_); at_builtin; refine Kd.R_append (Kd.int .i64) (w0 := w) w.heap.size rfl (.tmp 17) (.tmp 19) 32 3 (.int .i64 0) 8 rfl Try.underlying32 info3 rfl (by decide) (by omega) u4 x4_2 x5_2 [.int .i64 x5_2] (fun _ => True) (fun _ => False) rfl rfl ?aP (fun _ hk => hk.elim) ?aF ?aO ?aB ?aS ?aL ?_; (case aP => exact rfl); (case aB => exact (by repeat (first | (with_reducible first | exact HB.out | apply below_alloc | apply pw_below_drewN | apply below_drew1) | exact HB.out))); (case aF => exact (fun _ _ => trivial)); (case aO => exact (by (with_reducible repeat (first | apply Kd.R_alloc | apply Kd.R_drewN | apply Kd.R_drew)); exact HO_4.out)); (case aS => exact (below_size (by repeat (first | (with_reducible first | exact HB.out | apply below_alloc | apply pw_below_drewN | apply below_drew1) | exact HB.out)))); (case aL => have := LMc6.out; omega); intro v175 w7 ho hb hg hat; rw [← Ny174.out] at ho; have n0_ := Aside0.mk (hb); have n1_ := Aside0.mk (ho); clear HB; clear HO_4; have HB := n0_; have HO176 := n1_; clear n0_ n1_; clear ho hb hg hat))
        go_roundg k2
        case measure => have := HJ1.out; have := HK2.out; omega
        case rel => exact ⟨(y174), (wrap64 (x5_2 + 1)), (by first | rfl | (simp; done) | (simp [*]; done)), H', ⟨by have := HJ1.out; have := HK2.out; omega⟩, ⟨by (with_reducible repeat (first | apply Kd.R_alloc | apply Kd.R_drewN | apply Kd.R_drew)); exact HO176.out⟩, ⟨by repeat (first | (with_reducible first | exact HB.out | apply below_alloc | apply pw_below_drewN | apply below_drew1) | exact HB.out)⟩⟩
       ·rw [if_neg c6] at H
        exact absurd H (by simp)
      ·rw [if_neg c5] at H
       have c5b0 : decide (x5_2 < a0) = false := decide_eq_false c5
       clear c5
       simp only [Option.some.injEq, Prod.mk.injEq] at H
       obtain ⟨rfl, rfl⟩ := H
       go_wp2
       go_ret2
       exact ⟨_, by first | rfl | (simp [errW_none, errW_some] <;> rfl) | (simp [*, errW_none, errW_some] <;> rfl), by (with_reducible repeat (first | apply Kd.R_alloc | apply Kd.R_drewN | apply Kd.R_drew)); exact HO_4.out, by repeat (first | (with_reducible first | exact HB.out | apply below_alloc | apply pw_below_drewN | apply below_drew1) | exact HB.out)⟩
end Go.Proofs.Yteeihjpnhjnknaa.GAll
namespace Go.Proofs.Yteeihjpnhjnknaa.GAll
open Go.RowKit Go.Proofs.YteeihjpnhjnknaaW.PrintWords Go.Proofs.YteeihjpnhjnknaaW.PrintLast Go.Proofs.YteeihjpnhjnknaaW.PrintMore
attribute [local go_sem] max2_int min2_int max_two min_two max_three min_three max_four min_four   -- for this text's walks alone
set_option linter.unusedVariables false
set_option linter.unusedSimpArgs false
theorem tangramref05_Of.pairs {w : World} {A : Option Addr} {l : List S89} (h : Kd.C k89 w A l.length l) : Sets.Pairs w A (l.map fun x => (x.f0, x.f1)) := by
 intro i hi
 rw [List.length_map] at hi
 obtain ⟨ad, e, h1, h2⟩ := at_T89 h (i : Int) (by omega) (by omega)
 have e2 : Sets.pe (l.map fun x => (x.f0, x.f1)) i = ((rd_T89 l (i : Int)).f0, (rd_T89 l (i : Int)).f1) := by
  unfold Sets.pe rd_T89
  simp [List.getD_eq_getElem?_getD, hi]
 rw [e2]
 exact ⟨ad, e, h1, h2⟩
theorem tangramref05_Of.newLoop (n : Nat) (hn : n ≤ 1048576) (d : Nat) : ∀ (k i : Nat), i + d = n → d < k → tangramref05_New.l0 k (n : Int) ((List.range i).map fun (x : Nat) => (x : Int)) (i : Int) = some ((List.range n).map (fun (x : Nat) => (x : Int)), 0) := by
 induction d with
 | zero =>
  intro k i hi hk
  obtain ⟨k, rfl⟩ : ∃ m, k = m + 1 := ⟨k - 1, by omega⟩
  obtain rfl : i = n := by omega
  simp only [tangramref05_New.l0]; rw [if_neg (by omega)]
 | succ d ih =>
  intro k i hi hk
  obtain ⟨k, rfl⟩ : ∃ m, k = m + 1 := ⟨k - 1, by omega⟩
  simp only [tangramref05_New.l0]
  rw [if_pos (by omega), if_pos (by rw [List.length_map, List.length_range]; omega)]
  have e1 : wrap64 ((i : Int) + 1) = ((i + 1 : Nat) : Int) := by unfold wrap64; omega
  have e2 : ((List.range i).map fun (x : Nat) => (x : Int)) ++ [(i : Int)] = (List.range (i + 1)).map fun (x : Nat) => (x : Int) := by rw [List.range_succ, List.map_append]; rfl
  rw [e1, e2]
  exact ih k (i + 1) (by omega) (by omega)
theorem tangramref05_Of.new (n : Nat) (hn : n ≤ 1048576) : tangramref05_New.f (n + 2) (n : Int) = some ((List.range n).map (fun (x : Nat) => (x : Int)), 0) := by
 unfold tangramref05_New.f
 rw [if_neg (by omega)]
 have hd : decide ((n : Int) > 1048576) = false := decide_eq_false (by omega)
 rw [hd]
 simp only [tangramref05_New.j0]
 rw [if_neg (by decide)]
 exact tangramref05_Of.newLoop n hn n (n + 1) 0 (by omega) (by omega)
theorem tangramref05_Of.refNew (n : Nat) (hn : n ≤ 1048576) : Sets.RefNew n := fun w' => (tangramref05_New.calls (n + 2) (n : Int) _ 0 w' (tangramref05_Of.new n hn)).mono fun _ _ h => h
def tangramref05_Of.fit (n : Int) (l : List S89) : Bool := decide (0 ≤ n) && decide (n ≤ 1048576) && decide (l.length ≤ 4194304) && l.all fun x => decide (0 ≤ x.f0) && decide (x.f0 < n) && decide (0 ≤ x.f1) && decide (x.f1 < n)
def tangramref05_Of.out (n : Int) (l : List S89) : List Nat × Nat := Sets.numTo (Sets.joinAll (List.range n.toNat) (l.map fun x => (x.f0, x.f1))) n.toNat
def tangramref05_Of.f (k : Nat) (a0_0 : Int) (l0_1 : List S89) : Option (List Int × Int × Int) := (tangramref03_Valid.f k a0_0 l0_1).bind fun t => if t = true then (if tangramref05_Of.fit a0_0 l0_1 = true then some ((tangramref05_Of.out a0_0 l0_1).1.map (fun (x : Nat) => (x : Int)), (((tangramref05_Of.out a0_0 l0_1).2 : Nat) : Int), 0) else none) else some ([], 0, 1)
theorem tangramref05_Of.mono : ∀ a0 a1 k, LeO (tangramref05_Of.f k a0 a1) (tangramref05_Of.f (k + 1) a0 a1) := by
 intro a0 a1 k
 unfold tangramref05_Of.f
 exact LeO.bind (tangramref03_Valid.mono _ _ _) (fun _ => LeO.refl _)
set_option maxHeartbeats 1000000 in
set_option maxRecDepth 100000 in
theorem tangramref05_Of.calls (k : Nat) (a0_0 : Int) (A0_1 : Option Addr) (c0_1 : Nat) (l0_1 : List (S89)) (r1 : List Int) (r2 : Int) (r3 : Int) (w : World) (hr0_1 : Kd.C k89 w A0_1 l0_1.length l0_1) (hc0_1 : l0_1.length ≤ c0_1) (h : tangramref05_Of.f k a0_0 l0_1 = some (r1, r2, r3)) :
  Calls Try.prog 48 #[.agg #[.int .i64 a0_0, .slice A0_1 l0_1.length c0_1]] w fun e w' => ∃ v0_ : Value, e = .returned (.tuple #[v0_, .int .i64 r2, .int .i64 r3]) ∧ Kd.R (Kd.int .i64) 3 w' w.heap.size (fun _ => True) v0_ r1 ∧ Below w.heap.size w w' := by
 obtain ⟨t, ht, h⟩ := Option.bind_eq_some_iff.mp h
 cases t with
 | false =>
  rw [if_neg (by decide)] at h
  obtain ⟨rfl, rfl, rfl⟩ : [] = r1 ∧ 0 = r2 ∧ 1 = r3 := by simpa using h
  have hv : Sets.RefNo a0_0 A0_1 l0_1.length c0_1 w := fun W hW => tangramref03_Valid.calls k a0_0 A0_1 c0_1 l0_1 false W (Kd.C_below hr0_1 hW) hc0_1 ht
  exact (Sets.refOf_no a0_0 A0_1 l0_1.length c0_1 w hv).mono fun e w' ⟨h1, h2⟩ => ⟨_, h1, Kd.R_nil _ _ _ _ _, h2⟩
 | true =>
  rw [if_pos rfl] at h
  by_cases hf : tangramref05_Of.fit a0_0 l0_1 = true
  ·rw [if_pos hf] at h
   simp only [tangramref05_Of.fit, Bool.and_eq_true, decide_eq_true_eq, List.all_eq_true] at hf
   obtain ⟨⟨⟨hn1, hn2⟩, hl⟩, hin⟩ := hf
   obtain ⟨n, rfl⟩ := Int.eq_ofNat_of_zero_le hn1
   have hn3 : n ≤ 1048576 := Int.ofNat_le.1 hn2
   have ho : tangramref05_Of.out (n : Int) l0_1 = Sets.numTo (Sets.joinAll (List.range n) (l0_1.map fun x => (x.f0, x.f1))) n := by unfold tangramref05_Of.out; rw [Int.toNat_natCast]
   rw [ho] at h
   simp only [Option.some.injEq, Prod.mk.injEq] at h
   obtain ⟨rfl, rfl, rfl⟩ := h
   by_cases hpos : 0 < n
   ·have hv : Sets.RefYes (n : Int) A0_1 (l0_1.map fun x => (x.f0, x.f1)).length c0_1 w := fun W hW => by
     rw [List.length_map]; exact tangramref03_Valid.calls k _ A0_1 c0_1 l0_1 true W (Kd.C_below hr0_1 hW) hc0_1 ht
    have hin2 : ∀ i, i < (l0_1.map fun x => (x.f0, x.f1)).length → 0 ≤ (Sets.pe (l0_1.map fun x => (x.f0, x.f1)) i).1 ∧ (Sets.pe (l0_1.map fun x => (x.f0, x.f1)) i).1 < n ∧ 0 ≤ (Sets.pe (l0_1.map fun x => (x.f0, x.f1)) i).2 ∧ (Sets.pe (l0_1.map fun x => (x.f0, x.f1)) i).2 < n := by
     intro i hi
     rw [List.length_map] at hi
     have e2 : Sets.pe (l0_1.map fun x => (x.f0, x.f1)) i = ((l0_1[i]'hi).f0, (l0_1[i]'hi).f1) := by unfold Sets.pe; simp [List.getD_eq_getElem?_getD, hi]
     rw [e2]
     have := hin _ (List.getElem_mem hi)
     exact ⟨this.1.1.1, this.1.1.2, this.1.2, this.2⟩
    have hc := Sets.refOf_pos n A0_1 c0_1 (l0_1.map fun x => (x.f0, x.f1)) w
    have hc := hc hv (tangramref05_Of.refNew n hn3) hn3 hpos (tangramref05_Of.pairs hr0_1) (by rw [List.length_map]; exact hl) hin2
    rw [List.length_map] at hc
    refine hc.mono fun e w' ⟨bo, h1, h2, h3, h4⟩ => ?_
    have hn4 := Sets.numTo_length (Sets.joinAll (List.range n) (l0_1.map fun x => (x.f0, x.f1))) n
    have hr := Sets.row_own (ok := fun _ => True) h3 h2 (by rw [hn4]; exact Nat.le_trans hn3 (by decide)) trivial
    rw [hn4] at hr
    exact ⟨_, h1, hr, h4⟩
   ·obtain rfl : n = 0 := by omega
    obtain rfl : l0_1 = [] := by
     cases l0_1 with
     | nil => rfl
     | cons x l => have := hin x (List.mem_cons_self ..); have h5 := this.1.1.1; have h6 := this.1.1.2; exact absurd (Int.lt_of_le_of_lt h5 h6) (by decide)
    have hv : Sets.RefYes 0 A0_1 0 c0_1 w := fun W hW => tangramref03_Valid.calls k 0 A0_1 c0_1 [] true W (Kd.C_below hr0_1 hW) hc0_1 ht
    refine (Sets.refOf_zero A0_1 c0_1 w hv (tangramref05_Of.refNew 0 (by decide))).mono fun e w' ⟨bo, h1, h2, h3, h4⟩ => ?_
    exact ⟨_, h1, Sets.row_own (ok := fun _ => True) h3 h2 (by decide) trivial, h4⟩
  ·rw [if_neg hf] at h; cases h
end Go.Proofs.Yteeihjpnhjnknaa.GAll
namespace Go.Proofs.Yteeihjpnhjnknaa.GAll
open Go.RowKit Go.Proofs.YteeihjpnhjnknaaW.PrintWords Go.Proofs.YteeihjpnhjnknaaW.PrintLast Go.Proofs.YteeihjpnhjnknaaW.PrintMore
attribute [local go_sem] max2_int min2_int max_two min_two max_three min_three max_four min_four   -- for this text's walks alone
set_option linter.unusedVariables false
set_option linter.unusedSimpArgs false
def tangramref21_Fault.f (k : Nat) (a0_0 : Int) (l0_1 : List S89) (l1 : List (List Int)) : Option Int := (tangramref11_Check.f k a0_0 l0_1 l1).bind fun t => if t.2 = 0 then (tangramref05_Of.f k a0_0 l0_1).bind fun u => some (if u.2.1 = 1 then (if l0_1.length = 0 then 210 else 0) else 210) else some t.2
theorem tangramref21_Fault.mono : ∀ a0 a1 a2 k, LeO (tangramref21_Fault.f k a0 a1 a2) (tangramref21_Fault.f (k + 1) a0 a1 a2) := fun _ _ _ _ =>
 LeO.bind (tangramref11_Check.mono _ _ _ _) (fun _ => LeO.ite (LeO.bind (tangramref05_Of.mono _ _ _) (fun _ => LeO.refl _)) (LeO.refl _))
theorem tangramref21_Fault.calls (k : Nat) (a0_0 : Int) (A0_1 : Option Addr) (c0_1 : Nat) (l0_1 : List (S89)) (A1 : Option Addr) (c1 : Nat) (l1 : List (List Int)) (r : Int) (w : World) (hr0_1 : Kd.C k89 w A0_1 l0_1.length l0_1) (hc0_1 : l0_1.length ≤ c0_1) (hr1 : Kd.C (Kd.slice 3 (Kd.int .i64)) w A1 l1.length l1) (hc1 : l1.length ≤ c1) (h : tangramref21_Fault.f k a0_0 l0_1 l1 = some r) :
  Calls Try.prog 25 #[.agg #[.int .i64 a0_0, .slice A0_1 l0_1.length c0_1], .slice A1 l1.length c1] w fun e w' => e = .returned (.int .i64 r) ∧ Below w.heap.size w w' := by
 obtain ⟨⟨v, e⟩, ht, h⟩ := Option.bind_eq_some_iff.mp h
 simp only at h
 refine One.fault_calls a0_0 A0_1 l0_1.length c0_1 _ v e w (fun W hW => tangramref11_Check.calls k a0_0 A0_1 c0_1 l0_1 A1 c1 l1 v e W (Kd.C_below hr0_1 hW) hc0_1 (Kd.C_below hr1 hW) hc1 ht) r (fun he => ?_) (fun he => ?_)
 ·rw [if_neg he] at h
  exact (Option.some.inj h).symm
 ·rw [if_pos he] at h
  obtain ⟨⟨os, j, z⟩, hu, h⟩ := Option.bind_eq_some_iff.mp h
  simp only [Option.some.injEq] at h
  refine ⟨j, z, fun W hW => (tangramref05_Of.calls k a0_0 A0_1 c0_1 l0_1 os j z W (Kd.C_below hr0_1 hW) hc0_1 hu).mono fun _ _ ⟨v0, q1, _, q4⟩ => ⟨v0, q1, q4⟩, fun h1 => ?_, fun h1 h2 => ?_, fun h1 h2 => ?_⟩
  ·rw [if_neg h1] at h; exact h.symm
  ·rw [if_pos h1, if_pos h2] at h; exact h.symm
  ·rw [if_pos h1, if_neg h2] at h; exact h.symm
end Go.Proofs.Yteeihjpnhjnknaa.GAll
namespace Go.Proofs.Yteeihjpnhjnknaa.GAll
open Go.RowKit Go.Proofs.YteeihjpnhjnknaaW.PrintWords Go.Proofs.YteeihjpnhjnknaaW.PrintLast Go.Proofs.YteeihjpnhjnknaaW.PrintMore
attribute [local go_sem] max2_int min2_int max_two min_two max_three min_three max_four min_four   -- for this text's walks alone
set_option linter.unusedVariables false
set_option linter.unusedSimpArgs false
def tangramref11_Next.fit (m : Nat) (r : List (List Int)) : Bool := decide (m ≤ 4194304) && (decide (r.length ≤ 1048576) && r.all fun row => decide (row.length ≤ 8388608) && row.all fun h => decide (0 ≤ h ∧ h < ((2 * m : Nat) : Int)))
def tangramref11_Next.f (k : Nat) (a0_0 : Int) (l0_1 : List S89) (l1 : List (List Int)) : Option (List Int × Int) := (tangramref11_Check.f k a0_0 l0_1 l1).bind fun t => if t.2 = 0 then (if tangramref11_Next.fit l0_1.length l1 = true then some (Graph.nxL l1 (2 * l0_1.length), 0) else none) else some ([], t.2)
theorem tangramref11_Next.mono : ∀ a0 a1 a2 k, LeO (tangramref11_Next.f k a0 a1 a2) (tangramref11_Next.f (k + 1) a0 a1 a2) := by
 intro a0 a1 a2 k
 unfold tangramref11_Next.f
 exact LeO.bind (tangramref11_Check.mono _ _ _ _) (fun _ => LeO.refl _)
theorem tangramref11_Next.at_ {m : Nat} {r : List (List Int)} (h : tangramref11_Next.fit m r = true) : m ≤ 4194304 ∧ r.length ≤ 1048576 ∧ (∀ v, v < r.length → (Mem.gl r v).length ≤ 8388608) ∧ ∀ v i, v < r.length → i < (Mem.gl r v).length → 0 ≤ Mem.gi (Mem.gl r v) i ∧ Mem.gi (Mem.gl r v) i < ((2 * m : Nat) : Int) := by
 unfold tangramref11_Next.fit at h
 rw [Bool.and_eq_true, Bool.and_eq_true, List.all_eq_true, decide_eq_true_eq, decide_eq_true_eq] at h
 have hm : ∀ v, v < r.length → Mem.gl r v ∈ r := fun v hv => by
  unfold Mem.gl
  rw [List.getD_eq_getElem?_getD, List.getElem?_eq_getElem hv]
  exact List.getElem_mem hv
 refine ⟨h.1, h.2.1, fun v hv => ?_, fun v i hv hi => ?_⟩
 ·have h2 := h.2.2 _ (hm v hv)
  rw [Bool.and_eq_true, decide_eq_true_eq] at h2
  exact h2.1
 ·have h2 := h.2.2 _ (hm v hv)
  rw [Bool.and_eq_true, List.all_eq_true] at h2
  have h3 : Mem.gi (Mem.gl r v) i ∈ Mem.gl r v := by
   unfold Mem.gi
   rw [List.getD_eq_getElem?_getD, List.getElem?_eq_getElem hi]
   exact List.getElem_mem hi
  exact of_decide_eq_true (h2.2 _ h3)
end Go.Proofs.Yteeihjpnhjnknaa.GAll
namespace Go.Proofs.Yteeihjpnhjnknaa.GAll
open Go.RowKit Go.Proofs.YteeihjpnhjnknaaW.PrintWords Go.Proofs.YteeihjpnhjnknaaW.PrintLast Go.Proofs.YteeihjpnhjnknaaW.PrintMore
attribute [local go_sem] max2_int min2_int max_two min_two max_three min_three max_four min_four   -- for this text's walks alone
set_option linter.unusedVariables false
set_option linter.unusedSimpArgs false
def tangramref21_Seen.fit (n : Int) (l : List S89) (root : Int) (nx : List Int) : Bool :=
 decide (0 ≤ n ∧ 0 ≤ root ∧ root < (nx.length : Int) ∧ l.length ≤ 4194304) && (Seen.fit n.toNat nx (Graph.tosL (l.map fun x => (x.f0, x.f1))) && ((l.all fun x => decide (x.f0 ≠ x.f1)) &&
  (List.range nx.length).all fun h => decide (Graph.cntF (Rot.froms (l.map fun x => (x.f0, x.f1))) (2 * l.length) (Mem.gi (Graph.tosL (l.map fun x => (x.f0, x.f1))) (Seen.tw (h : Nat)).toNat) = Seen.per nx (h : Nat))))
def tangramref21_Seen.f (k : Nat) (a0_0 : Int) (l0_1 : List S89) (l1 : List (List Int)) (a2 : Int) : Option (List Int × List Int) := (tangramref11_Next.f k a0_0 l0_1 l1).bind fun t =>
 if tangramref21_Seen.fit a0_0 l0_1 a2 t.1 = true then some ((Seen.all a0_0.toNat t.1 (Graph.tosL (l0_1.map fun x => (x.f0, x.f1))) a2).cd, (Seen.all a0_0.toNat t.1 (Graph.tosL (l0_1.map fun x => (x.f0, x.f1))) a2).num) else none
theorem tangramref21_Seen.mono : ∀ a0 a1 a2 a3 k, LeO (tangramref21_Seen.f k a0 a1 a2 a3) (tangramref21_Seen.f (k + 1) a0 a1 a2 a3) := by
 intro a0 a1 a2 a3 k
 unfold tangramref21_Seen.f
 exact LeO.bind (tangramref11_Next.mono _ _ _ _) (fun _ => LeO.refl _)
def tangramref21_Rooted.f (k : Nat) (a0_0 : Int) (l0_1 : List S89) (l1 : List (List Int)) (a2 : Int) : Option (List Int × Int) := (tangramref21_Fault.f k a0_0 l0_1 l1).bind fun t => if t = 0 then (if a2 < 0 then some ([], 2) else if a2 ≥ IntKind.i64.wrap (2 * (l0_1.length : Int)) then some ([], 2) else (tangramref21_Seen.f k a0_0 l0_1 l1 a2).bind fun u => some (u.1, 0)) else some ([], t)
theorem tangramref21_Rooted.mono : ∀ a0 a1 a2 a3 k, LeO (tangramref21_Rooted.f k a0 a1 a2 a3) (tangramref21_Rooted.f (k + 1) a0 a1 a2 a3) := fun _ _ _ _ _ =>
 LeO.bind (tangramref21_Fault.mono _ _ _ _) (fun _ => LeO.ite (LeO.ite (LeO.refl _) (LeO.ite (LeO.refl _) (LeO.bind (tangramref21_Seen.mono _ _ _ _ _) (fun _ => LeO.refl _)))) (LeO.refl _))
end Go.Proofs.Yteeihjpnhjnknaa.GAll
namespace Go.Proofs.Yteeihjpnhjnknaa.Rot
open Go.RowKit Go.Proofs.YteeihjpnhjnknaaW.PrintWords Go.Proofs.YteeihjpnhjnknaaW.PrintLast Go.Proofs.YteeihjpnhjnknaaW.PrintMore Go.Proofs.Yteeihjpnhjnknaa.GAll Go.Proofs.Yteeihjpnhjnknaa.Mem Go.Proofs.Yteeihjpnhjnknaa.Seen
set_option linter.unusedVariables false
set_option linter.unusedSimpArgs false
def Small (r : List (List Int)) : Prop := r.length * 24 ≤ 140737488351232 ∧ ∀ l ∈ r, l.length * 8 ≤ 140737488351232
theorem Small.all {r : List (List Int)} (h : Small r) : (r.all fun row => decide (row.length * 8 ≤ 140737488351232)) = true := by
 rw [List.all_eq_true]
 exact fun x hx => decide_eq_true (h.2 x hx)
theorem good_not {n : Int} {l : List Ed} (h : ¬ PureV.Good n l) : ValH.goodB n (ends l) ≠ true := fun q => h ((PureV.good_iff n l).1 q)
theorem rows_one (fr ds : List Int) : ∀ (r : List (List Int)) (v : Nat) (S : List Bool), (rows fr ds v r S).2 ≠ 1
 | [], v, S => by show (0 : Int) ≠ 1; decide
 | row :: r, v, S => by
  rw [rows_cons]
  cases h : elems fr v row S with
  | error e =>
   have := elems_err fr v row S e h
   show e ≠ 1
   omega
  | ok S' =>
   rw [after_ok]
   split
   ·exact rows_one fr ds r (v + 1) S'
   ·show (113 : Int) ≠ 1; decide
theorem both_check (n : Int) (l : List Ed) (r : List (List Int)) (hs : Small r) : ∃ res, Ev (fun k => rot_Check.f k n l r) res ∧ Ev (fun k => tangramref11_Check.f k n l r) res ∧ (res.2 = 0 → res = (0, 0)) ∧ (res.2 = 0 ↔ ∃ N : Nat, n = N ∧ PureV.Good n l ∧ IsRot (frs l) N r) ∧ (res.2 = 1 ↔ ¬ PureV.Good n l) := by
 have hr : ∀ {res : Int × Int}, Graph.checkR n (ends l) r = res → Ev (fun k => tangramref11_Check.f k n l r) res := by
  rintro res rfl
  refine Ev.congr (fun k => ?_) (Ev.now _)
  unfold tangramref11_Check.f
  rw [if_pos hs.all]
  rfl
 obtain ⟨b, hb, _, hg⟩ := PureV.valid n l
 cases b with
 | false =>
  have hG : ¬ PureV.Good n l := fun q => absurd (hg.2 q) (by decide)
  refine ⟨_, check_no hb, hr ?_, fun h => by simp at h, ⟨fun h => by simp at h, ?_⟩, ⟨fun _ => hG, fun _ => rfl⟩⟩
  ·unfold Graph.checkR
   rw [if_neg (good_not hG)]
  ·rintro ⟨N, rfl, h, _⟩
   exact absurd h hG
 | true =>
  have hG := hg.1 rfl
  have hB : ValH.goodB n (ends l) = true := (PureV.good_iff n l).2 hG
  by_cases hl : (r.length : Int) = n
  ·obtain ⟨N, rfl⟩ := Int.eq_ofNat_of_zero_le hG.1
   have hl2 : r.length = N := by omega
   obtain ⟨ds, hd, h1, h2⟩ := degrees_ev hG hb
   have hz := rows_zero (frs l) ds r 0 (List.replicate (frs l).length false)
   have hc := check_all hG hb hl2 hd h1
   refine ⟨_, hc, hr ?_, fun h => hz.resolve_right (fun q => q h), ⟨fun h => ?_, ?_⟩, ⟨fun h => ?_, fun h => absurd hG h⟩⟩
   ·unfold Graph.checkR
    rw [if_pos hB, if_pos hl, degs_of h1 h2, Int.toNat_natCast, frs_length, ends_length]
    rfl
   ·exact ⟨N, rfl, hG, (isRot_of hl2 h2).1 (hz.resolve_right (fun q => q h))⟩
   ·rintro ⟨M, e, _, h⟩
    obtain rfl : N = M := by omega
    rw [(isRot_of hl2 h2).2 h]
   ·exact absurd h (rows_one (frs l) ds r 0 (List.replicate (frs l).length false))
  ·refine ⟨_, check_len hb hl, hr ?_, fun h => by simp at h, ⟨fun h => by simp at h, ?_⟩, ⟨fun h => by simp at h, fun h => absurd hG h⟩⟩
   ·unfold Graph.checkR
    rw [if_pos hB, if_neg hl]
   ·rintro ⟨N, rfl, _, h⟩
    exact absurd h.len (by omega)
structure IsMap (n : Nat) (l : List Ed) (r : List (List Int)) : Prop where
 good : PureV.Good (n : Int) l
 rot : IsRot (frs l) n r
section
variable {n : Nat} {l : List Ed} {r : List (List Int)}
theorem IsMap.len (h : IsMap n l r) : (nxOf l r).length = 2 * l.length := Graph.setRows_length r _ _
theorem IsMap.fit (h : IsMap n l r) : Fit n (nxOf l r) (toOf l) := fit_map h.good h.rot
theorem IsMap.rows (h : IsMap n l r) : l.length ≤ 4194304 ∧ r.length ≤ 1048576 ∧ ∀ row ∈ r, row.length ≤ 8388608 ∧ ∀ x ∈ row, 0 ≤ x ∧ x < ((2 * l.length : Nat) : Int) := by
 have h1 := h.good.2.1
 have h2 := h.good.2.2.1
 have h3 := h.rot.len
 refine ⟨h2, by omega, fun row hrow => ?_⟩
 obtain ⟨v, hv, rfl⟩ := List.getElem_of_mem hrow
 have e : r[v] = gl r v := by unfold gl; rw [List.getD_eq_getElem?_getD, List.getElem?_eq_getElem hv]; rfl
 rw [e]
 refine ⟨?_, fun x hx => ?_⟩
 ·rw [row_len h.rot (by omega)]
  have := cnt_le (frs l) (frs l).length v
  have := frs_length l
  omega
 ·have := leaves_iff.1 ((h.rot.mem v (by omega) x).1 hx)
  rw [frs_length] at this
  exact ⟨this.1, this.2.1⟩
theorem next_ev (h : IsMap n l r) (hc : Ev (fun k => rot_Check.f k (n : Int) l r) (0, 0)) : Ev (fun k => rot_Next.f k (n : Int) l r) (nxOf l r, 0) := by
 unfold rot_Next.f
 refine Ev.bind hc (Ev.congr (fun k => if_pos rfl) (Ev.congr (fun k => if_pos ?_) (Ev.now _)))
 obtain ⟨a, b, c⟩ := h.rows
 unfold rot_Next.fit
 rw [Bool.and_eq_true, Bool.and_eq_true, List.all_eq_true, decide_eq_true_eq, decide_eq_true_eq]
 refine ⟨a, b, fun row hrow => ?_⟩
 rw [Bool.and_eq_true, List.all_eq_true, decide_eq_true_eq]
 exact ⟨(c row hrow).1, fun x hx => decide_eq_true ((c row hrow).2 x hx)⟩
def parts (n : Nat) (l : List Ed) : Nat := (comps_Of.out (n : Int) l).2
theorem of_ev (hg : PureV.Good (n : Int) l) : ∃ o, Ev (fun k => comps_Of.f k (n : Int) l) (o, (parts n l : Int), 0) ∧ Ev (fun k => tangramref05_Of.f k (n : Int) l) (o, (parts n l : Int), 0) := by
 obtain ⟨b, h1, h2, h3⟩ := PureV.valid (n : Int) l
 rw [h3.2 hg] at h1 h2
 refine ⟨(comps_Of.out (n : Int) l).1.map (fun (x : Nat) => (x : Int)), ?_, ?_⟩
 ·unfold comps_Of.f
  exact Ev.bind h1 (Ev.congr (fun k => if_pos rfl) (Ev.congr (fun k => if_pos ⟨hg.1, hg.2.1⟩) (Ev.now _)))
 ·unfold tangramref05_Of.f
  refine Ev.bind h2 (Ev.congr (fun k => if_pos rfl) (Ev.congr (fun k => if_pos ?_) (Ev.now _)))
  obtain ⟨g1, g2, g3, g4⟩ := hg
  unfold tangramref05_Of.fit
  simp only [Bool.and_eq_true, decide_eq_true_eq, List.all_eq_true]
  refine ⟨⟨⟨g1, g2⟩, g3⟩, fun x hx => ?_⟩
  obtain ⟨i, hi, rfl⟩ := List.getElem_of_mem hx
  obtain ⟨⟨e1, e2, e3⟩, _⟩ := g4 i hi
  have e : PureV.rdE l (i : Nat) = l[i] := by
   show l.getD ((i : Int).toNat) _ = _
   rw [Int.toNat_natCast, List.getD_eq_getElem?_getD, List.getElem?_eq_getElem hi]
   rfl
  rw [e] at e1 e2 e3
  exact ⟨⟨⟨by omega, by omega⟩, by omega⟩, by omega⟩
end
inductive Case (n : Int) (l : List Ed) (r : List (List Int)) : Prop
 | bad (v e : Int) (h0 : e ≠ 0) (h1 : e = 1 ↔ ¬ PureV.Good n l) (hl : Ev (fun k => canon_look.f k n l r) (0, [], [], e, 0)) (hc : Ev (fun k => tangramref11_Check.f k n l r) (v, e)) (hf : Ev (fun k => tangramref21_Fault.f k n l r) e)
 | apart (hg : PureV.Good n l) (hl : Ev (fun k => canon_look.f k n l r) (0, [], [], 0, 210)) (hc : Ev (fun k => tangramref11_Check.f k n l r) (0, 0)) (hf : Ev (fun k => tangramref21_Fault.f k n l r) 210)
 | fine (N : Nat) (hN : n = N) (hm : IsMap N l r) (hp : parts N l = 1) (h0 : 0 < l.length) (hl : Ev (fun k => canon_look.f k n l r) (n, nxOf l r, toOf l, 0, 0)) (hc : Ev (fun k => tangramref11_Check.f k n l r) (0, 0)) (hf : Ev (fun k => tangramref21_Fault.f k n l r) 0)
theorem case (n : Int) (l : List Ed) (r : List (List Int)) (hs : Small r) : Case n l r := by
 obtain ⟨res, h1, h2, h3, h4, h5⟩ := both_check n l r hs
 by_cases h0 : res.2 = 0
 ·rw [h3 h0] at h1 h2
  obtain ⟨N, rfl, hg, hR⟩ := h4.1 h0
  have hm : IsMap N l r := ⟨hg, hR⟩
  obtain ⟨o, o1, o2⟩ := of_ev hg
  have n1 := next_ev hm h1
  have hlook : ∀ {res}, canon_look.told (N : Int) l (nxOf l r) (o, (parts N l : Int), 0) = some res → Ev (fun k => canon_look.f k (N : Int) l r) res := fun hres => by
   unfold canon_look.f
   refine Ev.bind n1 (Ev.congr (fun k => if_pos rfl) (Ev.bind o1 (Ev.congr (fun k => hres) (Ev.now _))))
  have hfit : (nxOf l r).length = 2 * l.length ∧ l.length ≤ 4194304 ∧ (0 : Int) = 0 := ⟨hm.len, hg.2.2.1, rfl⟩
  by_cases hk : parts N l = 1 ∧ 0 < l.length
  ·refine .fine N rfl hm hk.1 hk.2 (hlook ?_) h2 ?_
   ·unfold canon_look.told
    rw [if_pos hfit, if_pos ⟨by rw [hk.1]; rfl, by omega⟩]
    rfl
   ·unfold tangramref21_Fault.f
    refine Ev.bind h2 (Ev.congr (fun k => if_pos rfl) (Ev.bind o2 (Ev.congr (fun k => ?_) (Ev.now _))))
    simp only
    rw [hk.1, if_pos (by rfl), if_neg (by omega)]
  ·refine .apart hg (hlook ?_) h2 ?_
   ·unfold canon_look.told
    rw [if_pos hfit, if_neg (fun q => hk ⟨by have := q.1; simp only at this; omega, by omega⟩)]
   ·unfold tangramref21_Fault.f
    refine Ev.bind h2 (Ev.congr (fun k => if_pos rfl) (Ev.bind o2 (Ev.congr (fun k => ?_) (Ev.now _))))
    simp only
    by_cases hp : parts N l = 1
    ·rw [if_pos (by omega), if_pos (by omega)]
    ·rw [if_neg (by omega)]
 ·refine .bad res.1 res.2 h0 h5 ?_ h2 ?_
  ·unfold canon_look.f rot_Next.f
   refine Ev.bind (Ev.bind h1 (Ev.congr (fun k => if_neg h0) (Ev.now _))) (Ev.congr (fun k => if_neg h0) (Ev.now _))
  ·unfold tangramref21_Fault.f
   exact Ev.bind h2 (Ev.congr (fun k => if_neg h0) (Ev.now _))
section
variable {n : Nat} {l : List Ed} {r : List (List Int)}
abbrev seenOf (n : Nat) (l : List Ed) (r : List (List Int)) (root : Nat) : St := Seen.all n (nxOf l r) (toOf l) (root : Int)
theorem code_ev (h : IsMap n l r) {root : Nat} (hr : root < 2 * l.length) : Ev (fun k => canon_plane_code.f k (n : Int) (nxOf l r) (toOf l) (root : Int)) ((seenOf n l r root).cd, (seenOf n l r root).ord) := by
 unfold canon_plane_code.f
 refine Ev.congr (fun k => if_pos ⟨by omega, by omega, ?_, Seen.fit_iff.2 h.fit⟩) (Ev.now _)
 rw [h.len]; omega
theorem seen_cd (h : IsMap n l r) (root : Nat) : (seenOf n l r root).cd.length ≤ 9000000000000000 := all_cd h.fit _
end
end Go.Proofs.Yteeihjpnhjnknaa.Rot
namespace Go.Proofs.Yteeihjpnhjnknaa.GAll
open Go.RowKit Go.Proofs.YteeihjpnhjnknaaW.PrintWords Go.Proofs.YteeihjpnhjnknaaW.PrintLast Go.Proofs.YteeihjpnhjnknaaW.PrintMore
attribute [local go_sem] max2_int min2_int max_two min_two max_three min_three max_four min_four   -- for this text's walks alone
set_option linter.unusedVariables false
set_option linter.unusedSimpArgs false
def tangramref03_SameInts.l0 : Nat → List Int → List Int → Int → Option (Bool)
 | 0, _, _, _ => none
 | k + 1, x0, x1, x5 => if x5 < (x0.length : Int) then (if 0 ≤ x5 then (if x5 < (x1.length : Int) then (if (rd x0 x5) = (rd x1 x5) then (tangramref03_SameInts.l0 k x0 x1 (wrap64 (x5 + 1))) else (some false)) else (none)) else (none)) else (some true)
def tangramref03_SameInts.f (k : Nat) (l0 : List Int) (l1 : List Int) : Option (Bool) := if (l0.length : Int) = (l1.length : Int) then (tangramref03_SameInts.l0 k l0 l1 0) else (some false)
theorem tangramref03_SameInts.mono_l : ∀ k, (∀ y0 y1 y2, LeO (tangramref03_SameInts.l0 k y0 y1 y2) (tangramref03_SameInts.l0 (k + 1) y0 y1 y2))
 | 0 => fun _ _ _ r h => by simp [tangramref03_SameInts.l0] at h
 | k + 1 => by
  have ih0 := tangramref03_SameInts.mono_l k
  ·intro y0 y1 y2
   unfold tangramref03_SameInts.l0
   repeat' first
   | (with_reducible exact ih0 _ _ _)
   | (with_reducible exact LeO.refl _)
   | (with_reducible exact LeO.none _)
   | (with_reducible refine LeO.ite ?_ ?_)
   | (with_reducible refine LeO.bind ?_ (fun _ => ?_))
   | exact ih0 _ _ _
   | exact LeO.none _
   | refine LeO.ite ?_ ?_
   | refine LeO.bind ?_ (fun _ => ?_)
theorem tangramref03_SameInts.mono : ∀ a0 a1 k, LeO (tangramref03_SameInts.f k a0 a1) (tangramref03_SameInts.f (k + 1) a0 a1) := by
 intro a0 a1 k
 have ih0 := tangramref03_SameInts.mono_l k
 unfold tangramref03_SameInts.f
 repeat' first
   | (with_reducible exact ih0 _ _ _)
   | (with_reducible exact LeO.refl _)
   | (with_reducible exact LeO.none _)
   | (with_reducible refine LeO.ite ?_ ?_)
   | (with_reducible refine LeO.bind ?_ (fun _ => ?_))
   | exact ih0 _ _ _
   | exact LeO.none _
   | refine LeO.ite ?_ ?_
   | refine LeO.bind ?_ (fun _ => ?_)
set_option maxHeartbeats 8000000 in
set_option maxRecDepth 100000 in
theorem tangramref03_SameInts.calls (k : Nat) (A0 : Option Addr) (c0 : Nat) (l0 : List Int) (A1 : Option Addr) (c1 : Nat) (l1 : List Int) (r : Bool) (w : World) (hr0 : Kd.C (Kd.int .i64) w A0 l0.length l0) (hc0 : l0.length ≤ c0) (hr1 : Kd.C (Kd.int .i64) w A1 l1.length l1) (hc1 : l1.length ≤ c1) (h : tangramref03_SameInts.f k l0 l1 = some r) :
  Calls Try.prog 15 #[.slice A0 l0.length c0, .slice A1 l1.length c1] w fun e w' => e = .returned (.bool r) ∧ Drawn0 w w' := by
 have HR0 := Aside0.mk hr0
 have HC0 := Aside0.mk hc0
 clear hr0 hc0
 have HR1 := Aside0.mk hr1
 have HC1 := Aside0.mk hc1
 clear hr1 hc1
 have H : (if (l0.length : Int) = (l1.length : Int) then (tangramref03_SameInts.l0 k l0 l1 0) else (some false)) = some r := h
 clear h
 by_cases c3 : (l0.length : Int) = (l1.length : Int)
 ·rw [if_pos c3] at H
  have c3b0 : ((l0.length : Int) == (l1.length : Int)) = true := beq_iff_eq.mpr c3
  have c3b1 : ((l0.length : Int) != (l1.length : Int)) = false := bne_eq_false_iff_eq.mpr c3
  have c3b2 : (l0.length == l1.length) = true := by first | simpa using c3 | (simp at c3 ⊢; omega)
  clear c3
  have H' := Aside0.mk H
  clear H
  go_enter Try.func15, Try.ntmps15
  go_wp2
  repeat (go_quiet (fail); try go_wp2)
  go_loopg [5] k (fun kq v5 w' => ∃ (x5_1 : Int), v5 = .int .i64 x5_1 ∧ Aside0 (tangramref03_SameInts.l0 kq l0 l1 x5_1 = some r) ∧ Aside0 (kq ≤ k) ∧ Drawn0 w w')
  case atStart => exact ⟨(0), (by first | rfl | (simp; done) | (simp [*]; done)), H', ⟨Nat.le_refl _⟩, by repeat (first | exact Drawn0.refl _ | apply Drawn0.step)⟩
  case round =>
   clear H'
   try clear c1
   try clear p2
   try clear c3
   try clear c3b0
   try clear c3b1
   try clear c3b2
   obtain ⟨x5_1, rfl, HA, HK1, ⟨m1, rfl⟩⟩ := hrel
   cases gk with
   | zero => exact absurd HA.out (by simp [tangramref03_SameInts.l0])
   | succ k1 =>
    have H := HA.out
    clear HA
    simp only [tangramref03_SameInts.l0] at H
    by_cases c4 : x5_1 < (l0.length : Int)
    ·rw [if_pos c4] at H
     have c4b0 : decide (x5_1 < (l0.length : Int)) = true := decide_eq_true c4
     clear c4
     by_cases c5 : 0 ≤ x5_1
     ·rw [if_pos c5] at H
      have c5b0 : decide (0 ≤ x5_1) = true := decide_eq_true c5
      clear c5
      by_cases c6 : x5_1 < (l1.length : Int)
      ·rw [if_pos c6] at H
       have c6b0 : decide (x5_1 < (l1.length : Int)) = true := decide_eq_true c6
       clear c6
       by_cases c7 : (rd l0 x5_1) = (rd l1 x5_1)
       ·rw [if_pos c7] at H
        have c7b0 : ((rd l0 x5_1) == (rd l1 x5_1)) = true := beq_iff_eq.mpr c7
        have c7b1 : ((rd l0 x5_1) != (rd l1 x5_1)) = false := bne_eq_false_iff_eq.mpr c7
        clear c7
        have H' := Aside0.mk H
        clear H
        have p112 : 0 ≤ (x5_1 : Int) := of_decide_eq_true (by first | (with_reducible assumption) | assumption)
        have q112 : x5_1 < (l0.length : Int) := of_decide_eq_true (by first | (with_reducible assumption) | assumption)
        obtain ⟨ad112, e112, hx112_0⟩ := Kd.at_int HR0.out x5_1 p112 q112
        cases e112
        replace p112 := eq_true p112
        replace q112 := eq_true q112
        have p113 : 0 ≤ (x5_1 : Int) := of_decide_eq_true (by first | (with_reducible assumption) | assumption)
        have q113 : x5_1 < (l1.length : Int) := of_decide_eq_true (by first | (with_reducible assumption) | assumption)
        obtain ⟨ad113, e113, hx113_0⟩ := Kd.at_int HR1.out x5_1 p113 q113
        cases e113
        replace p113 := eq_true p113
        replace q113 := eq_true q113
        go_wp2
        repeat (go_quiet (fail); try go_wp2)
        go_roundg k1
        case measure => have := HK1.out; omega
        case rel => exact ⟨(wrap64 (x5_1 + 1)), (by first | rfl | (simp; done) | (simp [*]; done)), H', ⟨by have := HK1.out; omega⟩, by repeat (first | exact Drawn0.refl _ | apply Drawn0.step)⟩
       ·rw [if_neg c7] at H
        have c7b0 : ((rd l0 x5_1) == (rd l1 x5_1)) = false := beq_eq_false_iff_ne.mpr c7
        have c7b1 : ((rd l0 x5_1) != (rd l1 x5_1)) = true := bne_iff_ne.mpr c7
        obtain rfl := Option.some.inj H
        have p112 : 0 ≤ (x5_1 : Int) := of_decide_eq_true (by first | (with_reducible assumption) | assumption)
        have q112 : x5_1 < (l0.length : Int) := of_decide_eq_true (by first | (with_reducible assumption) | assumption)
        obtain ⟨ad112, e112, hx112_0⟩ := Kd.at_int HR0.out x5_1 p112 q112
        cases e112
        replace p112 := eq_true p112
        replace q112 := eq_true q112
        have p113 : 0 ≤ (x5_1 : Int) := of_decide_eq_true (by first | (with_reducible assumption) | assumption)
        have q113 : x5_1 < (l1.length : Int) := of_decide_eq_true (by first | (with_reducible assumption) | assumption)
        obtain ⟨ad113, e113, hx113_0⟩ := Kd.at_int HR1.out x5_1 p113 q113
        cases e113
        replace p113 := eq_true p113
        replace q113 := eq_true q113
        go_wp2
        repeat (go_quiet (fail); try go_wp2)
        go_ret
        exact ⟨by first | rfl | (simp; done) | (simp [*]; done), by repeat (first | exact Drawn0.refl _ | apply Drawn0.step)⟩
      ·rw [if_neg c6] at H
       exact absurd H (by simp)
     ·rw [if_neg c5] at H
      exact absurd H (by simp)
    ·rw [if_neg c4] at H
     have c4b0 : decide (x5_1 < (l0.length : Int)) = false := decide_eq_false c4
     clear c4
     obtain rfl := Option.some.inj H
     go_wp2
     repeat (go_quiet (fail); try go_wp2)
     go_ret
     exact ⟨by first | rfl | (simp; done) | (simp [*]; done), by repeat (first | exact Drawn0.refl _ | apply Drawn0.step)⟩
 ·rw [if_neg c3] at H
  have c3b0 : ((l0.length : Int) == (l1.length : Int)) = false := beq_eq_false_iff_ne.mpr c3
  have c3b1 : ((l0.length : Int) != (l1.length : Int)) = true := bne_iff_ne.mpr c3
  have c3b2 : (l0.length == l1.length) = false := by first | simpa using c3 | (simp at c3 ⊢; omega)
  obtain rfl := Option.some.inj H
  go_enter Try.func15, Try.ntmps15
  go_wp2
  repeat (go_quiet (fail); try go_wp2)
  go_ret
  exact ⟨by first | rfl | (simp; done) | (simp [*]; done), by repeat (first | exact Drawn0.refl _ | apply Drawn0.step)⟩
end Go.Proofs.Yteeihjpnhjnknaa.GAll
namespace Go.Proofs.Yteeihjpnhjnknaa.GAll
open Go.RowKit Go.Proofs.YteeihjpnhjnknaaW.PrintWords Go.Proofs.YteeihjpnhjnknaaW.PrintLast Go.Proofs.YteeihjpnhjnknaaW.PrintMore
attribute [local go_sem] max2_int min2_int max_two min_two max_three min_three max_four min_four   -- for this text's walks alone
set_option linter.unusedVariables false
set_option linter.unusedSimpArgs false
def tangramref03_Copy.l0 : Nat → List (S89) → Int → Int → List (S89) → Option (Int × (List (S89)))
 | 0, _, _, _, _ => none
 | k + 1, x3, x4, x150000, x150001 => if x4 < (x150001.length : Int) then (if 0 ≤ x4 then (if x3.length < 8796093022208 then (tangramref03_Copy.l0 k (x3 ++ [(⟨(rd_T89 x150001 x4).f0, (rd_T89 x150001 x4).f1⟩ : S89)]) (wrap64 (x4 + 1)) x150000 x150001) else (none)) else (none)) else (some (x150000, x3))
def tangramref03_Copy.f (k : Nat) (a0_0 : Int) (l0_1 : List (S89)) : Option (Int × (List (S89))) := tangramref03_Copy.l0 k ([] : List (S89)) 0 a0_0 l0_1
theorem tangramref03_Copy.mono_l : ∀ k, (∀ y0 y1 y2 y3, LeO (tangramref03_Copy.l0 k y0 y1 y2 y3) (tangramref03_Copy.l0 (k + 1) y0 y1 y2 y3))
 | 0 => fun _ _ _ _ r h => by simp [tangramref03_Copy.l0] at h
 | k + 1 => by
  have ih0 := tangramref03_Copy.mono_l k
  ·intro y0 y1 y2 y3
   unfold tangramref03_Copy.l0
   repeat' first
   | (with_reducible exact ih0 _ _ _ _)
   | (with_reducible exact LeO.refl _)
   | (with_reducible exact LeO.none _)
   | (with_reducible refine LeO.ite ?_ ?_)
   | (with_reducible refine LeO.bind ?_ (fun _ => ?_))
   | exact ih0 _ _ _ _
   | exact LeO.none _
   | refine LeO.ite ?_ ?_
   | refine LeO.bind ?_ (fun _ => ?_)
theorem tangramref03_Copy.mono : ∀ a0 a1 k, LeO (tangramref03_Copy.f k a0 a1) (tangramref03_Copy.f (k + 1) a0 a1) := by
 intro a0 a1 k
 have ih0 := tangramref03_Copy.mono_l k
 unfold tangramref03_Copy.f
 repeat' first
   | (with_reducible exact ih0 _ _ _ _)
   | (with_reducible exact LeO.refl _)
   | (with_reducible exact LeO.none _)
   | (with_reducible refine LeO.ite ?_ ?_)
   | (with_reducible refine LeO.bind ?_ (fun _ => ?_))
   | exact ih0 _ _ _ _
   | exact LeO.none _
   | refine LeO.ite ?_ ?_
   | refine LeO.bind ?_ (fun _ => ?_)
set_option maxHeartbeats 8000000 in
set_option maxRecDepth 100000 in
theorem tangramref03_Copy.calls (k : Nat) (a0_0 : Int) (A0_1 : Option Addr) (c0_1 : Nat) (l0_1 : List (S89)) (r1 : Int) (r2 : List (S89)) (w : World) (hr0_1 : Kd.C k89 w A0_1 l0_1.length l0_1) (hc0_1 : l0_1.length ≤ c0_1) (h : tangramref03_Copy.f k a0_0 l0_1 = some (r1, r2)) :
  Calls Try.prog 30 #[.agg #[.int .i64 a0_0, .slice A0_1 l0_1.length c0_1]] w fun e w' => ∃ v1_ : Value, e = .returned (.agg #[.int .i64 r1, v1_]) ∧ Kd.R k89 89 w' w.heap.size (fun _ => True) v1_ r2 ∧ Below w.heap.size w w' := by
 have hu24 := Try.underlying24
 have hu89 := Try.underlying89
 have HR0_1 := Aside0.mk hr0_1
 have HC0_1 := Aside0.mk hc0_1
 clear hr0_1 hc0_1
 have HB := Aside0.mk (Below.refl w.heap.size w)
 have H : (tangramref03_Copy.l0 k ([] : List (S89)) 0 a0_0 l0_1) = some (r1, r2) := h
 clear h
 have H' := Aside0.mk H
 clear H
 go_enter Try.func30, Try.ntmps30
 go_wp2_with (first | ((with_reducible refine gate_dst (N := 1) rfl ?_); refine box_event ?hg (N := 1) ?hd (cs := #[.int .i64 a0_0, .slice A0_1 l0_1.length c0_1]) (t := 24) ?hr ?_; (case hd => rfl); (case hg => rfl); (case hr => first | (go_simp; done) | (go_simp; rfl)); intro gb149 hg w2 hbox hb; have n0_ := Aside0.mk (below_step (by repeat (first | (with_reducible first | exact HB.out | apply below_alloc | apply pw_below_drewN | apply below_drew1) | exact HB.out)) hb); have n1_ := Aside0.mk (hbox); have n2_ := Aside0.mk ((by rw [hg]; exact (below_size (by repeat (first | (with_reducible first | exact HB.out | apply below_alloc | apply pw_below_drewN | apply below_drew1) | exact HB.out))) : w.heap.size ≤ gb149)); have n3_ := Aside0.mk ((by rw [hg]; exact (below_size (by repeat (first | (with_reducible first | exact HB.out | apply below_alloc | apply pw_below_drewN | apply below_drew1) | exact HB.out))) : w.heap.size ≤ gb149)); clear HB; have HB := n0_; have BK149 := n1_; have GW149 := n2_; have GE149 := n3_; clear n0_ n1_ n2_ n3_; clear hb hbox hg) | ((with_reducible refine gate_dst (N := 2) rfl ?_); refine box_event ?hg (N := 2) ?hd (cs := #[.int .i64 0, .slice none 0 0]) (t := 24) ?hr ?_; (case hd => rfl); (case hg => rfl); (case hr => first | (go_simp; done) | (go_simp; rfl)); intro gb150 hg w3 hbox hb; have n0_ := Aside0.mk (blk_below (g := gb149) (o := .cells #[.int .i64 a0_0, .slice A0_1 l0_1.length c0_1] 24 (0, 0)) (by (with_reducible repeat (first | refine blk_drewN ?_ _ | refine blk_drew ?_ | refine blk_alloc ?_ _)); exact BK149.out) hb); have n1_ := Aside0.mk (below_step (by repeat (first | (with_reducible first | exact HB.out | apply below_alloc | apply pw_below_drewN | apply below_drew1 | refine below_set ?_ GE149.out) | exact HB.out)) hb); have n2_ := Aside0.mk (hbox); have n3_ := Aside0.mk ((by rw [hg]; exact (below_size (by repeat (first | (with_reducible first | exact HB.out | apply below_alloc | apply pw_below_drewN | apply below_drew1 | refine below_set ?_ GE149.out) | exact HB.out))) : w.heap.size ≤ gb150)); have n4_ := Aside0.mk ((by rw [hg]; exact (below_size (by repeat (first | (with_reducible first | exact HB.out | apply below_alloc | apply pw_below_drewN | apply below_drew1 | refine below_set ?_ GE149.out) | exact HB.out))) : w.heap.size ≤ gb150)); have n5_ := Aside0.mk ((by rw [hg]; exact Nat.ne_of_lt (blk_lt (g := gb149) (o := .cells #[.int .i64 a0_0, .slice A0_1 l0_1.length c0_1] 24 (0, 0)) (by (with_reducible repeat (first | refine blk_drewN ?_ _ | refine blk_drew ?_ | refine blk_alloc ?_ _)); exact BK149.out)) : gb149 ≠ gb150)); have n6_ := Aside0.mk ((by rw [hg]; exact Nat.ne_of_gt (blk_lt (g := gb149) (o := .cells #[.int .i64 a0_0, .slice A0_1 l0_1.length c0_1] 24 (0, 0)) (by (with_reducible repeat (first | refine blk_drewN ?_ _ | refine blk_drew ?_ | refine blk_alloc ?_ _)); exact BK149.out)) : gb150 ≠ gb149)); clear BK149; clear HB; have BK149 := n0_; have HB := n1_; have BK150 := n2_; have GW150 := n3_; have GE150 := n4_; have NB149_150 := n5_; have NB150_149 := n6_; clear n0_ n1_ n2_ n3_ n4_ n5_ n6_; clear hb hbox hg))
 go_loopg [3, 4] k (fun kq v3 v4 w' => ∃ (x3_1 : List (S89)) (x4_1 : Int), v4 = .int .i64 x4_1 ∧ Aside0 (tangramref03_Copy.l0 kq x3_1 x4_1 a0_0 l0_1 = some (r1, r2)) ∧ Aside0 (kq ≤ k) ∧ Aside0 (Kd.R k89 89 w' w.heap.size (fun _ => True) v3 x3_1) ∧ Aside0 (w'.heap[gb149]? = some (.cells #[.int .i64 a0_0, (.slice A0_1 l0_1.length c0_1)] 24 (0, 0))) ∧ Aside0 (w'.heap[gb150]? = some (.cells #[.int .i64 0, (.slice none 0 0)] 24 (0, 0))) ∧ Aside0 (Below w.heap.size w w'))
 case atStart => exact ⟨(([] : List (S89))), (0), (by first | rfl | (simp; done) | (simp [*]; done)), H', ⟨Nat.le_refl _⟩, ⟨by first | exact Kd.R_nil _ _ _ _ _ | exact Kd.N_nil _ _ _ _ _ | exact Kd.V_nil _ _ _ _ _ | exact Kd.Q_nil _ _ _ _ _ | exact Kd.S_nil _ _ _ _ _⟩, ⟨by (with_reducible repeat (first | refine blk_drewN ?_ _ | refine blk_drew ?_ | refine blk_alloc ?_ _)); exact BK149.out⟩, ⟨by (with_reducible repeat (first | refine blk_drewN ?_ _ | refine blk_drew ?_ | refine blk_alloc ?_ _)); exact BK150.out⟩, ⟨by repeat (first | (with_reducible first | exact HB.out | apply below_alloc | apply pw_below_drewN | apply below_drew1 | refine below_set ?_ GE149.out | refine below_set ?_ GE150.out) | exact HB.out)⟩⟩
 case round =>
  clear H'
  try clear p2
  try clear c3
  obtain ⟨x3_1, x4_1, rfl, HA, HK1, HO_3, BK149, BK150, HB⟩ := hrel
  cases gk with
  | zero => exact absurd HA.out (by simp [tangramref03_Copy.l0])
  | succ k1 =>
   have H := HA.out
   clear HA
   simp only [tangramref03_Copy.l0] at H
   by_cases c4 : x4_1 < (l0_1.length : Int)
   ·rw [if_pos c4] at H
    have c4b0 : decide (x4_1 < (l0_1.length : Int)) = true := decide_eq_true c4
    clear c4
    by_cases c5 : 0 ≤ x4_1
    ·rw [if_pos c5] at H
     have c5b0 : decide (0 ≤ x4_1) = true := decide_eq_true c5
     clear c5
     by_cases c6 : x3_1.length < 8796093022208
     ·rw [if_pos c6] at H
      have LMc6 := Aside0.mk c6
      clear c6
      obtain ⟨y152, hy152⟩ : ∃ y_ : List (S89), y_ = (x3_1 ++ [(⟨(rd_T89 l0_1 x4_1).f0, (rd_T89 l0_1 x4_1).f1⟩ : S89)]) := ⟨_, rfl⟩
      replace H : (tangramref03_Copy.l0 k1 y152 (wrap64 (x4_1 + 1)) a0_0 l0_1) = some (r1, r2) := by first | (rw [hy152]; with_reducible exact H) | (have H2_ := (Option.bind_some _ _).symm.trans H; rw [hy152]; with_reducible exact H2_) | (have H2_ := (Option.bind_some _ _).symm.trans H; with_reducible exact H2_) | with_reducible exact H | (rw [hy152]; exact H) | exact H
      have Ny152 := Aside0.mk hy152
      clear hy152
      have H' := Aside0.mk H
      clear H
      have hnb7 := NB149_150.out
      have hnc7 := NB150_149.out
      have hcz8_0 : wr.cell? ⟨gb149, 0, none⟩ = some (.int .i64 a0_0) := (blk_cell BK149.out 0).trans rfl
      have hcz8_1 : wr.cell? ⟨gb149, 1, none⟩ = some (.slice A0_1 l0_1.length c0_1) := (blk_cell BK149.out 1).trans rfl
      have hfz8_0 := blk_frozen BK149.out 0
      have hfz8_1 := blk_frozen BK149.out 1
      have p151 : 0 ≤ (x4_1 : Int) := of_decide_eq_true (by first | (with_reducible assumption) | assumption)
      have q151 : x4_1 < (l0_1.length : Int) := of_decide_eq_true (by first | (with_reducible assumption) | assumption)
      obtain ⟨ad151, e151, hx151_0, hx151_1⟩ := at_T89 HR0_1.out x4_1 p151 q151
      cases e151
      replace hx151_0 := (HB.out.cell (World.block_lt_of_cell? w _ hx151_0)).trans hx151_0
      replace hx151_1 := (HB.out.cell (World.block_lt_of_cell? w _ hx151_1)).trans hx151_1
      replace p151 := eq_true p151
      replace q151 := eq_true q151
      go_wp2_with (first | ((with_reducible refine gate_builtin (b := .append) (xs := #[.tmp 12, .tmp 18]) rfl ?_); at_builtin; refine Kd.R_append k89 (w0 := w) w.heap.size rfl (.tmp 12) (.tmp 18) 22 89 (.agg #[(.int .i64 0), (.int .i64 0)]) 16 rfl Try.underlying22 info89 rfl (by decide) (by omega) u3 x3_1 (⟨(rd_T89 l0_1 x4_1).f0, (rd_T89 l0_1 x4_1).f1⟩ : S89) [.int .i64 ((rd_T89 l0_1 x4_1).f0), .int .i64 ((rd_T89 l0_1 x4_1).f1)] (fun _ => True) (fun _ => False) rfl rfl ?aP (fun _ hk => hk.elim) ?aF ?aO ?aB ?aS ?aL ?_; (case aP => exact k89_mkM _ _ _ (⟨(rd_T89 l0_1 x4_1).f0, (rd_T89 l0_1 x4_1).f1⟩ : S89)); (case aB => exact (by repeat (first | (with_reducible first | exact HB.out | apply below_alloc | apply pw_below_drewN | apply below_drew1 | refine below_set ?_ GE149.out | refine below_set ?_ GE150.out) | exact HB.out))); (case aF => exact (fun _ _ => trivial)); (case aO => exact (by (with_reducible repeat (first | apply Kd.R_alloc | apply Kd.R_drewN | apply Kd.R_drew)); exact HO_3.out)); (case aS => exact (below_size (by repeat (first | (with_reducible first | exact HB.out | apply below_alloc | apply pw_below_drewN | apply below_drew1 | refine below_set ?_ GE149.out | refine below_set ?_ GE150.out) | exact HB.out)))); (case aL => have := LMc6.out; omega); intro v153 w9 ho hb hg hat; rw [← Ny152.out] at ho; have n0_ := Aside0.mk (blk_grown (g := gb149) (o := .cells #[.int .i64 a0_0, .slice (some ad151) l0_1.length c0_1] 24 (0, 0)) (by (with_reducible repeat (first | refine blk_drewN ?_ _ | refine blk_drew ?_ | refine blk_alloc ?_ _)); exact BK149.out) hg (Kd.R_ne HO_3.out BK149.out (by decide))); have n1_ := Aside0.mk (blk_grown (g := gb150) (o := .cells #[.int .i64 0, .slice none 0 0] 24 (0, 0)) (by (with_reducible repeat (first | refine blk_drewN ?_ _ | refine blk_drew ?_ | refine blk_alloc ?_ _)); exact BK150.out) hg (Kd.R_ne HO_3.out BK150.out (by decide))); have n2_ := Aside0.mk (hb); have n3_ := Aside0.mk (ho); clear BK149; clear BK150; clear HB; clear HO_3; have BK149 := n0_; have BK150 := n1_; have HB := n2_; have HO154 := n3_; clear n0_ n1_ n2_ n3_; clear ho hb hg hat))
      go_roundg k1
      case measure => have := HK1.out; omega
      case rel => exact ⟨(y152), (wrap64 (x4_1 + 1)), (by first | rfl | (simp; done) | (simp [*]; done)), H', ⟨by have := HK1.out; omega⟩, ⟨by (with_reducible repeat (first | apply Kd.R_alloc | apply Kd.R_drewN | apply Kd.R_drew)); exact HO154.out⟩, ⟨by (with_reducible repeat (first | refine blk_drewN ?_ _ | refine blk_drew ?_ | refine blk_alloc ?_ _)); exact BK149.out⟩, ⟨by (with_reducible repeat (first | refine blk_drewN ?_ _ | refine blk_drew ?_ | refine blk_alloc ?_ _)); exact BK150.out⟩, ⟨by repeat (first | (with_reducible first | exact HB.out | apply below_alloc | apply pw_below_drewN | apply below_drew1 | refine below_set ?_ GE149.out | refine below_set ?_ GE150.out) | exact HB.out)⟩⟩
     ·rw [if_neg c6] at H
      exact absurd H (by simp)
    ·rw [if_neg c5] at H
     exact absurd H (by simp)
   ·rw [if_neg c4] at H
    have c4b0 : decide (x4_1 < (l0_1.length : Int)) = false := decide_eq_false c4
    clear c4
    simp only [Option.some.injEq, Prod.mk.injEq] at H
    obtain ⟨rfl, rfl⟩ := H
    have hnb10 := NB149_150.out
    have hnc10 := NB150_149.out
    have hcz11_0 : wr.cell? ⟨gb149, 0, none⟩ = some (.int .i64 a0_0) := (blk_cell BK149.out 0).trans rfl
    have hcz11_1 : wr.cell? ⟨gb149, 1, none⟩ = some (.slice A0_1 l0_1.length c0_1) := (blk_cell BK149.out 1).trans rfl
    have hfz11_0 := blk_frozen BK149.out 0
    have hfz11_1 := blk_frozen BK149.out 1
    obtain ⟨Ao12, co12, eo12⟩ := Kd.R_slice HO_3.out
    subst eo12
    have hcz13_0 : wr.cell? ⟨gb150, 0, none⟩ = some (.int .i64 0) := (blk_cell BK150.out 0).trans rfl
    have hcz13_1 : wr.cell? ⟨gb150, 1, none⟩ = some (.slice none 0 0) := (blk_cell BK150.out 1).trans rfl
    have hfz13_0 := blk_frozen BK150.out 0
    have hfz13_1 := blk_frozen BK150.out 1
    go_wp2
    refine bodyPost_ret (results_cell_row rfl _ _ gb150 24 #[.int .i64 a0_0, .slice Ao12 x3_1.length co12] (0, 0) _ rfl (by (with_reducible repeat (first | refine blk_drewN ?_ _ | refine blk_drew ?_ | refine blk_alloc ?_ _)); refine blk_put (cs := #[.int .i64 a0_0, .slice none 0 0]) ?_ 1 _ rfl; (with_reducible repeat (first | refine blk_drewN ?_ _ | refine blk_drew ?_ | refine blk_alloc ?_ _)); refine blk_put (cs := #[.int .i64 0, .slice none 0 0]) ?_ 0 _ rfl; (with_reducible repeat (first | refine blk_drewN ?_ _ | refine blk_drew ?_ | refine blk_alloc ?_ _)); exact BK150.out) Try.underlying24 rfl (by kernel_rfl)) rfl ?_
    exact ⟨_, by first | rfl | (simp [errW_none, errW_some] <;> rfl) | (simp [*, errW_none, errW_some] <;> rfl), by (with_reducible repeat (first | apply Kd.R_alloc | apply Kd.R_drewN | apply Kd.R_drew)); exact Kd.R_mono (Kd.R_far (p := ⟨gb150, 1, none⟩) (Kd.R_far (p := ⟨gb150, 0, none⟩) (Kd.R_types HO_3.out BK150.out (by decide)) (fun _ hk => hk.2) (.int .i64 a0_0)) (fun _ hk => hk.2) (.slice Ao12 x3_1.length co12)) (fun _ hk => trivial), by repeat (first | (with_reducible first | exact HB.out | apply below_alloc | apply pw_below_drewN | apply below_drew1 | refine below_set ?_ GE149.out | refine below_set ?_ GE150.out) | exact HB.out)⟩
end Go.Proofs.Yteeihjpnhjnknaa.GAll
namespace Go.Proofs.Yteeihjpnhjnknaa.GAll
open Go.RowKit Go.Proofs.YteeihjpnhjnknaaW.PrintWords Go.Proofs.YteeihjpnhjnknaaW.PrintLast Go.Proofs.YteeihjpnhjnknaaW.PrintMore
attribute [local go_sem] max2_int min2_int max_two min_two max_three min_three max_four min_four   -- for this text's walks alone
set_option linter.unusedVariables false
set_option linter.unusedSimpArgs false
def tangramref11_Copy.l0 : Nat → List (List Int) → List (List Int) → Int → Option ((List (List Int)))
 | 0, _, _, _ => none
 | k + 1, x0, x3, x4 => if x4 < (x0.length : Int) then ((some (([] : List Int) : List Int)).bind fun y155 => (if 0 ≤ x4 then (if y155.length + (rd_L5 x0 x4).length < 17592186044416 then (if x3.length < 5864062014805 then (tangramref11_Copy.l0 k x0 (x3 ++ [(y155 ++ (rd_L5 x0 x4))]) (wrap64 (x4 + 1))) else (none)) else (none)) else (none))) else (some x3)
def tangramref11_Copy.f (k : Nat) (l0 : List (List Int)) : Option ((List (List Int))) := tangramref11_Copy.l0 k l0 ([] : List (List Int)) 0
theorem tangramref11_Copy.mono_l : ∀ k, (∀ y0 y1 y2, LeO (tangramref11_Copy.l0 k y0 y1 y2) (tangramref11_Copy.l0 (k + 1) y0 y1 y2))
 | 0 => fun _ _ _ r h => by simp [tangramref11_Copy.l0] at h
 | k + 1 => by
  have ih0 := tangramref11_Copy.mono_l k
  ·intro y0 y1 y2
   unfold tangramref11_Copy.l0
   repeat' first
   | (with_reducible exact ih0 _ _ _)
   | (with_reducible exact LeO.refl _)
   | (with_reducible exact LeO.none _)
   | (with_reducible refine LeO.ite ?_ ?_)
   | (with_reducible refine LeO.bind ?_ (fun _ => ?_))
   | exact ih0 _ _ _
   | exact LeO.none _
   | refine LeO.ite ?_ ?_
   | refine LeO.bind ?_ (fun _ => ?_)
theorem tangramref11_Copy.mono : ∀ a0 k, LeO (tangramref11_Copy.f k a0) (tangramref11_Copy.f (k + 1) a0) := by
 intro a0 k
 have ih0 := tangramref11_Copy.mono_l k
 unfold tangramref11_Copy.f
 repeat' first
   | (with_reducible exact ih0 _ _ _)
   | (with_reducible exact LeO.refl _)
   | (with_reducible exact LeO.none _)
   | (with_reducible refine LeO.ite ?_ ?_)
   | (with_reducible refine LeO.bind ?_ (fun _ => ?_))
   | exact ih0 _ _ _
   | exact LeO.none _
   | refine LeO.ite ?_ ?_
   | refine LeO.bind ?_ (fun _ => ?_)
set_option maxHeartbeats 8000000 in
set_option maxRecDepth 100000 in
theorem tangramref11_Copy.calls (k : Nat) (A0 : Option Addr) (c0 : Nat) (l0 : List (List Int)) (r : List (List Int)) (w : World) (hr0 : Kd.C (Kd.slice 3 (Kd.int .i64)) w A0 l0.length l0) (hc0 : l0.length ≤ c0) (h : tangramref11_Copy.f k l0 = some r) :
  Calls Try.prog 35 #[.slice A0 l0.length c0] w fun e w' => ∃ v0_ : Value, e = .returned (v0_) ∧ Kd.S (Kd.slice 3 (Kd.int .i64)) 32 w' w.heap.size (fun _ => True) v0_ r ∧ Below w.heap.size w w' := by
 have HR0 := Aside0.mk hr0
 have HC0 := Aside0.mk hc0
 clear hr0 hc0
 have HB := Aside0.mk (Below.refl w.heap.size w)
 have H : (tangramref11_Copy.l0 k l0 ([] : List (List Int)) 0) = some r := h
 clear h
 have H' := Aside0.mk H
 clear H
 go_enter Try.func35, Try.ntmps35
 go_wp2
 go_loopg [3, 4] k (fun kq v3 v4 w' => ∃ (x3_1 : List (List Int)) (x4_1 : Int), v4 = .int .i64 x4_1 ∧ Aside0 (tangramref11_Copy.l0 kq l0 x3_1 x4_1 = some r) ∧ Aside0 (kq ≤ k) ∧ Aside0 (Kd.S (Kd.slice 3 (Kd.int .i64)) 32 w' w.heap.size (fun _ => True) v3 x3_1) ∧ Aside0 (Below w.heap.size w w'))
 case atStart => exact ⟨(([] : List (List Int))), (0), (by first | rfl | (simp; done) | (simp [*]; done)), H', ⟨Nat.le_refl _⟩, ⟨by first | exact Kd.S_nil _ _ _ _ _ | exact Kd.N_nil _ _ _ _ _ | exact Kd.V_nil _ _ _ _ _ | exact Kd.Q_nil _ _ _ _ _ | exact Kd.R_nil _ _ _ _ _⟩, ⟨by repeat (first | (with_reducible first | exact HB.out | apply below_alloc | apply pw_below_drewN | apply below_drew1) | exact HB.out)⟩⟩
 case round =>
  clear H'
  obtain ⟨x3_1, x4_1, rfl, HA, HK1, HO_3, HB⟩ := hrel
  cases gk with
  | zero => exact absurd HA.out (by simp [tangramref11_Copy.l0])
  | succ k1 =>
   have H := HA.out
   clear HA
   simp only [tangramref11_Copy.l0] at H
   by_cases c2 : x4_1 < (l0.length : Int)
   ·rw [if_pos c2] at H
    have c2b0 : decide (x4_1 < (l0.length : Int)) = true := decide_eq_true c2
    clear c2
    obtain ⟨y155, hy155⟩ : ∃ y_ : List Int, y_ = (([] : List Int)) := ⟨_, rfl⟩
    replace H : (if 0 ≤ x4_1 then (if y155.length + (rd_L5 l0 x4_1).length < 17592186044416 then (if x3_1.length < 5864062014805 then (tangramref11_Copy.l0 k1 l0 (x3_1 ++ [(y155 ++ (rd_L5 l0 x4_1))]) (wrap64 (x4_1 + 1))) else (none)) else (none)) else (none)) = some r := by first | (rw [hy155]; with_reducible exact H) | (have H2_ := (Option.bind_some _ _).symm.trans H; rw [hy155]; with_reducible exact H2_) | (have H2_ := (Option.bind_some _ _).symm.trans H; with_reducible exact H2_) | with_reducible exact H | (rw [hy155]; exact H) | exact H
    have Ny155 := Aside0.mk hy155
    clear hy155
    by_cases c3 : 0 ≤ x4_1
    ·rw [if_pos c3] at H
     have c3b0 : decide (0 ≤ x4_1) = true := decide_eq_true c3
     clear c3
     by_cases c4 : y155.length + (rd_L5 l0 x4_1).length < 17592186044416
     ·rw [if_pos c4] at H
      have LMc4 := Aside0.mk c4
      clear c4
      obtain ⟨y159, hy159⟩ : ∃ y_ : List Int, y_ = (y155 ++ (rd_L5 l0 x4_1)) := ⟨_, rfl⟩
      replace H : (if x3_1.length < 5864062014805 then (tangramref11_Copy.l0 k1 l0 (x3_1 ++ [y159]) (wrap64 (x4_1 + 1))) else (none)) = some r := by first | (rw [hy159]; with_reducible exact H) | (have H2_ := (Option.bind_some _ _).symm.trans H; rw [hy159]; with_reducible exact H2_) | (have H2_ := (Option.bind_some _ _).symm.trans H; with_reducible exact H2_) | with_reducible exact H | (rw [hy159]; exact H) | exact H
      have Ny159 := Aside0.mk hy159
      clear hy159
      by_cases c5 : x3_1.length < 5864062014805
      ·rw [if_pos c5] at H
       have LMc5 := Aside0.mk c5
       clear c5
       obtain ⟨y162, hy162⟩ : ∃ y_ : List (List Int), y_ = (x3_1 ++ [y159]) := ⟨_, rfl⟩
       replace H : (tangramref11_Copy.l0 k1 l0 y162 (wrap64 (x4_1 + 1))) = some r := by first | (rw [hy162]; with_reducible exact H) | (have H2_ := (Option.bind_some _ _).symm.trans H; rw [hy162]; with_reducible exact H2_) | (have H2_ := (Option.bind_some _ _).symm.trans H; with_reducible exact H2_) | with_reducible exact H | (rw [hy162]; exact H) | exact H
       have Ny162 := Aside0.mk hy162
       clear hy162
       have H' := Aside0.mk H
       clear H
       go_wp2_with (first | ((with_reducible refine gate_dst (N := 12) rfl ?_); refine Kd.R_lit (Kd.int .i64) _ 3 ?hg (N := 12) ?hd (xs := ([] : List Int)) (inner := []) (ok := fun _ => True) (okp := fun _ => True) ?hr ?hp (fun _ hk => hk) trivial (Below.refl _ _) (Nat.le_refl _) (by simp) ?_; (case hd => rfl); (case hg => rfl); (case hr => first | (go_simp; done) | (go_simp; rfl)); (case hp => exact (Reps.none _ _)); intro v156 w6 ho7 hb hg_ hnew_; clear hg_ hnew_; (first | rw [← Ny155.out] at ho7 | (simp only [Int.reduceToNat] at ho7; rw [← Ny155.out] at ho7)); have n0_ := Aside0.mk (Kd.S_elder' (by (with_reducible repeat (first | apply Kd.S_alloc | apply Kd.S_drewN | apply Kd.S_drew)); exact HO_3.out) (Kd.R_base ho7) hb); have n1_ := Aside0.mk (Kd.R_lower ho7 (below_size (by repeat (first | (with_reducible first | exact HB.out | apply below_alloc | apply pw_below_drewN | apply below_drew1) | exact HB.out)))); have n2_ := Aside0.mk (below_step (by repeat (first | (with_reducible first | exact HB.out | apply below_alloc | apply pw_below_drewN | apply below_drew1) | exact HB.out)) hb); clear HO_3; clear HB; have HO_3 := n0_; have HO157 := n1_; have HB := n2_; clear n0_ n1_ n2_; clear hb ho7; have p158 : 0 ≤ (x4_1 : Int) := of_decide_eq_true (by first | (with_reducible assumption) | assumption); have q158 : x4_1 < (l0.length : Int) := of_decide_eq_true (by first | (with_reducible assumption) | assumption); obtain ⟨ad158, A158_0, c158_0, e158, hx158_0, hl158_0, hi158_0⟩ := at_L5 HR0.out x4_1 p158 q158; cases e158; replace hx158_0 := (HB.out.cell (World.block_lt_of_cell? w _ hx158_0)).trans hx158_0; have HR158_0 := Aside0.mk hi158_0; have HC158_0 := Aside0.mk hl158_0; clear hi158_0 hl158_0; replace p158 := eq_true p158; replace q158 := eq_true q158) | ((with_reducible refine gate_builtin (b := .append) (xs := #[.tmp 12, .tmp 16]) rfl ?_); at_builtin; refine Kd.R_append_rows (Kd.int .i64) (w0 := w) w.heap.size rfl (.tmp 12) (.tmp 16) 32 3 (.int .i64 0) 8 rfl Try.underlying32 info3 rfl (by decide) (by omega) v156 y155 (rd_L5 l0 x4_1) _ _ _ (fun _ => True) (fun _ => False) rfl rfl ?aO ?aR (fun _ _ h => h) (fun _ h => h.elim) ?aF ?aB ?aS ?aL ?_; (case aR => repeat (first | exact (Kd.C_below HR158_0.out HB.out) | (with_reducible refine Kd.C_alloc ?_ _) | (with_reducible refine Kd.C_drewN ?_ _) | (with_reducible refine Kd.C_drew ?_))); (case aB => exact (by repeat (first | (with_reducible first | exact HB.out | apply below_alloc | apply pw_below_drewN | apply below_drew1) | exact HB.out))); (case aF => exact (fun _ _ => trivial)); (case aO => exact (by (with_reducible repeat (first | apply Kd.R_alloc | apply Kd.R_drewN | apply Kd.R_drew)); exact HO157.out)); (case aS => exact (below_size (by repeat (first | (with_reducible first | exact HB.out | apply below_alloc | apply pw_below_drewN | apply below_drew1) | exact HB.out)))); (case aL => have := LMc4.out; omega); intro v160 w8 ho hb hg hat; rw [← Ny159.out] at ho; have n0_ := Aside0.mk (Kd.S_after (ok := (fun _ => True)) (by (with_reducible repeat (first | apply Kd.S_alloc | apply Kd.S_drewN | apply Kd.S_drew)); exact HO_3.out) hg hat); have n1_ := Aside0.mk (hb); have n2_ := Aside0.mk (ho); clear HO_3; clear HB; clear HO157; have HO_3 := n0_; have HB := n1_; have HO161 := n2_; clear n0_ n1_ n2_; clear ho hb hg hat; obtain ⟨Ao10, co10, eo10⟩ := Kd.R_slice HO161.out; subst eo10) | ((with_reducible refine gate_builtin (b := .append) (xs := #[.tmp 11, .tmp 18]) rfl ?_); at_builtin; refine Kd.S_append (Kd.slice 3 (Kd.int .i64)) (w0 := w) w.heap.size rfl (.tmp 11) (.tmp 18) 26 32 (.slice none 0 0) 24 rfl Try.underlying26 info32 rfl (by decide) (by omega) u3 x3_1 y159 [.slice Ao10 y159.length co10] (fun _ => True) (fun k_ => some k_ = (.slice Ao10 y159.length co10 : Value).ownBlock) rfl rfl ?aP (fun k_ hk_ => ((Kd.R_mono (ok' := fun k_ => ((fun _ => True)) k_ ∧ some k_ ≠ (u3 : Value).ownBlock) (Kd.R_apart' (HO161.out) (Kd.S_typed HO_3.out) (by decide)) (fun k_ hk => ⟨trivial, hk.2⟩))).1 k_ hk_.symm) ?aF ?aO ?aB ?aS ?aL ?_; (case aP => exact Kd.M_row (Kd.R_mono (Kd.R_tight rfl (Kd.R_mono (ok' := fun k_ => ((fun _ => True)) k_ ∧ some k_ ≠ (u3 : Value).ownBlock) (Kd.R_apart' (HO161.out) (Kd.S_typed HO_3.out) (by decide)) (fun k_ hk => ⟨trivial, hk.2⟩))) (fun _ h_ => h_))); (case aB => exact (by repeat (first | (with_reducible first | exact HB.out | apply below_alloc | apply pw_below_drewN | apply below_drew1) | exact HB.out))); (case aF => exact (fun _ _ => trivial)); (case aO => exact (by (with_reducible repeat (first | apply Kd.S_alloc | apply Kd.S_drewN | apply Kd.S_drew)); exact Kd.S_mono HO_3.out (fun k_ hk => ⟨trivial, fun e_ => hk.2 e_⟩))); (case aS => exact (below_size (by repeat (first | (with_reducible first | exact HB.out | apply below_alloc | apply pw_below_drewN | apply below_drew1) | exact HB.out)))); (case aL => have := LMc5.out; omega); intro v163 w9 ho hb hg hat; rw [← Ny162.out] at ho; have n0_ := Aside0.mk (hb); have n1_ := Aside0.mk (ho); clear HB; clear HO_3; clear HO161; have HB := n0_; have HO164 := n1_; clear n0_ n1_; clear ho hb hg hat))
       go_roundg k1
       case measure => have := HK1.out; omega
       case rel => exact ⟨(y162), (wrap64 (x4_1 + 1)), (by first | rfl | (simp; done) | (simp [*]; done)), H', ⟨by have := HK1.out; omega⟩, ⟨by (with_reducible repeat (first | apply Kd.S_alloc | apply Kd.S_drewN | apply Kd.S_drew)); exact HO164.out⟩, ⟨by repeat (first | (with_reducible first | exact HB.out | apply below_alloc | apply pw_below_drewN | apply below_drew1) | exact HB.out)⟩⟩
      ·rw [if_neg c5] at H
       exact absurd H (by simp)
     ·rw [if_neg c4] at H
      exact absurd H (by simp)
    ·rw [if_neg c3] at H
     exact absurd H (by simp)
   ·rw [if_neg c2] at H
    have c2b0 : decide (x4_1 < (l0.length : Int)) = false := decide_eq_false c2
    clear c2
    obtain rfl := Option.some.inj H
    go_wp2
    go_ret
    exact ⟨_, by first | rfl | (simp [errW_none, errW_some] <;> rfl) | (simp [*, errW_none, errW_some] <;> rfl), by (with_reducible repeat (first | apply Kd.S_alloc | apply Kd.S_drewN | apply Kd.S_drew)); exact HO_3.out, by repeat (first | (with_reducible first | exact HB.out | apply below_alloc | apply pw_below_drewN | apply below_drew1) | exact HB.out)⟩
end Go.Proofs.Yteeihjpnhjnknaa.GAll
