/- DERIVED. Texts that OrderCovers needs. -/
import Derived.Test.YtaepieadbfndnaaCOrderCoversd
import Derived.Test.YtaepieadbfndnaaCOrderCoversf
import Derived.Test.YtaepieadbfndnaaCOrderCoverse
import Derived.Test.YtaepieadbfndnaaCOrderCoversc
import Derived.Deep.DeepCutAuto
import Derived.Deep.CutRange
import Derived.Test.YtaepieadbfndnaaCOrderCoversa
import Derived.StillTailTactics
import Derived.Deep.QuietTactic
import Derived.BigQuiet
set_option linter.unusedVariables false
set_option linter.unusedSimpArgs false
set_option maxRecDepth 100000
set_option maxHeartbeats 64000000
namespace Go.Proofs.Ytaepieadbfndnaa
open Go.RowKit Go.Proofs.YtaepieadbfndnaaW.PrintWords Go.Proofs.YtaepieadbfndnaaW.PrintLast Go.Proofs.YtaepieadbfndnaaW.PrintMore
attribute [local go_sem] max2_int min2_int max_two min_two max_three min_three max_four min_four   -- for this text's walks alone
namespace GAll
def tangramlaw24_third.l0 : Nat → Int → Int → List Int → Int → Int → Int → List (S41) → List (List Int) → Int → List Int → Option (Bool)
 | 0, _, _, _, _, _, _, _, _, _, _ => none
 | k + 1, x2, x3, x9, x18, x19, x459000, x459001, x459002, x459003, x459004 => if x19 < x18 then (if 0 ≤ x19 then (if x19 < (x9.length : Int) then ((tangramref04_To.f x459000 x459001 (rd x9 x19)).bind fun t461 => (if t461 = x3 then (if (x9.length : Int) = 0 then (none) else (if 0 ≤ (Int.tmod (wrap64 (x19 + 1)) (x9.length : Int)) then (if (Int.tmod (wrap64 (x19 + 1)) (x9.length : Int)) < (x9.length : Int) then ((tangramref04_To.f x459000 x459001 (rd x9 (Int.tmod (wrap64 (x19 + 1)) (x9.length : Int)))).bind fun t463 => (if t463 = x2 then (some true) else (if 0 ≤ (Int.tmod (wrap64 ((wrap64 (x19 + (x9.length : Int))) - 1)) (x9.length : Int)) then (if (Int.tmod (wrap64 ((wrap64 (x19 + (x9.length : Int))) - 1)) (x9.length : Int)) < (x9.length : Int) then ((tangramref04_To.f x459000 x459001 (rd x9 (Int.tmod (wrap64 ((wrap64 (x19 + (x9.length : Int))) - 1)) (x9.length : Int)))).bind fun t465 => (some (t465 == x2))) else (none)) else (none)))) else (none)) else (none))) else (tangramlaw24_third.l0 k x2 x3 x9 x18 (wrap64 (x19 + 1)) x459000 x459001 x459002 x459003 x459004))) else (none)) else (none)) else (some false)
def tangramlaw24_third.f (k : Nat) (a0_0 : Int) (l0_1 : List (S41)) (l0_2 : List (List Int)) (a0_3 : Int) (l0_4 : List Int) (a1 : Int) (a2 : Int) (a3 : Int) : Option (Bool) := if 0 ≤ a1 then (if a1 < (l0_2.length : Int) then (tangramlaw24_third.l0 k a2 a3 (rd_L2 l0_2 a1) ((rd_L2 l0_2 a1).length : Int) 0 a0_0 l0_1 l0_2 a0_3 l0_4) else (none)) else (none)
theorem tangramlaw24_third.mono_l : ∀ k, (∀ y0 y1 y2 y3 y4 y5 y6 y7 y8 y9, LeO (tangramlaw24_third.l0 k y0 y1 y2 y3 y4 y5 y6 y7 y8 y9) (tangramlaw24_third.l0 (k + 1) y0 y1 y2 y3 y4 y5 y6 y7 y8 y9))
 | 0 => fun _ _ _ _ _ _ _ _ _ _ r h => by simp [tangramlaw24_third.l0] at h
 | k + 1 => by
  have ih0 := tangramlaw24_third.mono_l k
  ·intro y0 y1 y2 y3 y4 y5 y6 y7 y8 y9
   unfold tangramlaw24_third.l0
   repeat' first
   | (with_reducible exact ih0 _ _ _ _ _ _ _ _ _ _)
   | (with_reducible exact LeO.refl _)
   | (with_reducible exact LeO.none _)
   | (with_reducible refine LeO.ite ?_ ?_)
   | (with_reducible refine LeO.bind ?_ (fun _ => ?_))
   | exact ih0 _ _ _ _ _ _ _ _ _ _
   | exact LeO.none _
   | refine LeO.ite ?_ ?_
   | refine LeO.bind ?_ (fun _ => ?_)
theorem tangramlaw24_third.mono : ∀ a0 a1 a2 a3 a4 a5 a6 a7 k, LeO (tangramlaw24_third.f k a0 a1 a2 a3 a4 a5 a6 a7) (tangramlaw24_third.f (k + 1) a0 a1 a2 a3 a4 a5 a6 a7) := by
 intro a0 a1 a2 a3 a4 a5 a6 a7 k
 have ih0 := tangramlaw24_third.mono_l k
 unfold tangramlaw24_third.f
 repeat' first
   | (with_reducible exact ih0 _ _ _ _ _ _ _ _ _ _)
   | (with_reducible exact LeO.refl _)
   | (with_reducible exact LeO.none _)
   | (with_reducible refine LeO.ite ?_ ?_)
   | (with_reducible refine LeO.bind ?_ (fun _ => ?_))
   | exact ih0 _ _ _ _ _ _ _ _ _ _
   | exact LeO.none _
   | refine LeO.ite ?_ ?_
   | refine LeO.bind ?_ (fun _ => ?_)
def tangramlaw24_third.T5 : Bool × List (List Nat × List Nat) := (true, [([], []), ([0], [0]), ([], []), ([], []), ([2, 3], [2, 3]), ([4], [4]), ([1, 5], [1, 5]), ([], []), ([6, 7], [6, 7])])
def tangramlaw24_third.B5 : List Nat := [0, 1, 0, 0, 12, 28, 63, 0, 255]
def tangramlaw24_third.T7 : Bool × List (List Nat × List Nat) := (true, [([], []), ([0], [0]), ([], []), ([], []), ([3], [3]), ([], []), ([4, 5], [4, 5]), ([2, 6], [2, 6]), ([7], [7]), ([1, 8], [1, 8]), ([], []), ([9, 10], [9, 10]), ([11, 9], [11]), ([12], [12]), ([13, 12], [12, 13]), ([12], [12]), ([12], [12]), ([12], [12]), ([16, 17, 12], [12, 16, 17]), ([18, 12], [12, 18]), ([12], [12]), ([19, 20, 12], [12, 19, 20]), ([15, 21, 12], [12, 15, 21]), ([22, 12], [12, 22]), ([14, 23, 12, 12], [12, 14, 23]), ([12], [12]), ([24, 25, 12], [12, 24, 25]), ([12, 26], [12, 26]), ([27, 24, 0, 1, 2, 3, 4, 5, 6, 7, 8, 9, 10, 11, 12, 13, 14, 15, 16, 17, 18, 19, 20, 21, 22, 23, 24, 25, 26, 27], [27])])
def tangramlaw24_third.B7 : List Nat := [0, 1, 0, 0, 8, 0, 56, 124, 252, 511, 0, 2047, 4095, 8191, 16383, 8191, 8191, 8191, 204799, 466943, 8191, 2039807, 4169727, 8364031, 16777215, 8191, 67108863, 134217727, 268435455]
end GAll
namespace GAll
mutual
def tangramref04_Half.l0 : Nat → Int → Int → Int → Int → List (S41) → Option (Int)
 | 0, _, _, _, _, _ => none
 | k + 1, x1, x2, x7, x468000, x468001 => if x7 < (x468001.length : Int) then (if 0 ≤ x7 then (if ((rd_T41 x468001 x7).f0) = x1 then (tangramref04_Half.j1 k x1 x2 x7 (((rd_T41 x468001 x7).f1) == x2) x468000 x468001) else (tangramref04_Half.j1 k x1 x2 x7 false x468000 x468001)) else (none)) else (some (-1))
def tangramref04_Half.j1 : Nat → Int → Int → Int → Bool → Int → List (S41) → Option (Int)
 | 0, _, _, _, _, _, _ => none
 | k + 1, x1, x2, x7, x32, x468000, x468001 => if x32 = true then (some (wrap64 (2 * x7))) else (if 0 ≤ x7 then (if x7 < (x468001.length : Int) then (if ((rd_T41 x468001 x7).f0) = x2 then (if ((rd_T41 x468001 x7).f1) = x1 then (some (wrap64 ((wrap64 (2 * x7)) + 1))) else (tangramref04_Half.l0 k x1 x2 (wrap64 (x7 + 1)) x468000 x468001)) else (tangramref04_Half.l0 k x1 x2 (wrap64 (x7 + 1)) x468000 x468001)) else (none)) else (none))
end
def tangramref04_Half.f (k : Nat) (a0_0 : Int) (l0_1 : List (S41)) (a1 : Int) (a2 : Int) : Option (Int) := tangramref04_Half.l0 k a1 a2 0 a0_0 l0_1
theorem tangramref04_Half.mono_l : ∀ k, (∀ y0 y1 y2 y3 y4, LeO (tangramref04_Half.l0 k y0 y1 y2 y3 y4) (tangramref04_Half.l0 (k + 1) y0 y1 y2 y3 y4)) ∧ (∀ y0 y1 y2 y3 y4 y5, LeO (tangramref04_Half.j1 k y0 y1 y2 y3 y4 y5) (tangramref04_Half.j1 (k + 1) y0 y1 y2 y3 y4 y5))
 | 0 => ⟨fun _ _ _ _ _ r h => by simp [tangramref04_Half.l0] at h, fun _ _ _ _ _ _ r h => by simp [tangramref04_Half.j1] at h⟩
 | k + 1 => by
  obtain ⟨ih0, ih1⟩ := tangramref04_Half.mono_l k
  refine ⟨?_, ?_⟩
  ·intro y0 y1 y2 y3 y4
   unfold tangramref04_Half.l0
   repeat' first
   | (with_reducible exact ih0 _ _ _ _ _)
   | (with_reducible exact ih1 _ _ _ _ _ _)
   | (with_reducible exact LeO.refl _)
   | (with_reducible exact LeO.none _)
   | (with_reducible refine LeO.ite ?_ ?_)
   | (with_reducible refine LeO.bind ?_ (fun _ => ?_))
   | exact ih0 _ _ _ _ _
   | exact ih1 _ _ _ _ _ _
   | exact LeO.none _
   | refine LeO.ite ?_ ?_
   | refine LeO.bind ?_ (fun _ => ?_)
  ·intro y0 y1 y2 y3 y4 y5
   unfold tangramref04_Half.j1
   repeat' first
   | (with_reducible exact ih0 _ _ _ _ _)
   | (with_reducible exact ih1 _ _ _ _ _ _)
   | (with_reducible exact LeO.refl _)
   | (with_reducible exact LeO.none _)
   | (with_reducible refine LeO.ite ?_ ?_)
   | (with_reducible refine LeO.bind ?_ (fun _ => ?_))
   | exact ih0 _ _ _ _ _
   | exact ih1 _ _ _ _ _ _
   | exact LeO.none _
   | refine LeO.ite ?_ ?_
   | refine LeO.bind ?_ (fun _ => ?_)
theorem tangramref04_Half.mono : ∀ a0 a1 a2 a3 k, LeO (tangramref04_Half.f k a0 a1 a2 a3) (tangramref04_Half.f (k + 1) a0 a1 a2 a3) := by
 intro a0 a1 a2 a3 k
 obtain ⟨ih0, ih1⟩ := tangramref04_Half.mono_l k
 unfold tangramref04_Half.f
 repeat' first
   | (with_reducible exact ih0 _ _ _ _ _)
   | (with_reducible exact ih1 _ _ _ _ _ _)
   | (with_reducible exact LeO.refl _)
   | (with_reducible exact LeO.none _)
   | (with_reducible refine LeO.ite ?_ ?_)
   | (with_reducible refine LeO.bind ?_ (fun _ => ?_))
   | exact ih0 _ _ _ _ _
   | exact ih1 _ _ _ _ _ _
   | exact LeO.none _
   | refine LeO.ite ?_ ?_
   | refine LeO.bind ?_ (fun _ => ?_)
end GAll
namespace GAll
def tri_Full.f (k : Nat) (a0_0 : Int) (l0_1 : List (S41)) (l1 : List (List Int)) : Option (Bool × Int) := (rot_Check.f k a0_0 l0_1 l1).bind fun bt151 => (if bt151.2 = 0 then (if a0_0 ≥ 3 then (if (l0_1.length : Int) = (wrap64 ((wrap64 (3 * a0_0)) - 6)) then ((faces_Flat.f k a0_0 l0_1 l1).bind fun t153 => (some (t153, 0))) else (some (false, 0))) else (some (false, 0))) else (some (false, bt151.2)))
theorem tri_Full.mono : ∀ a0 a1 a2 k, LeO (tri_Full.f k a0 a1 a2) (tri_Full.f (k + 1) a0 a1 a2) := by
 intro a0 a1 a2 k
 unfold tri_Full.f
 repeat' first
   | (with_reducible exact faces_Flat.mono _ _ _ _)
   | (with_reducible exact rot_Check.mono _ _ _ _)
   | (with_reducible exact LeO.refl _)
   | (with_reducible exact LeO.none _)
   | (with_reducible refine LeO.ite ?_ ?_)
   | (with_reducible refine LeO.bind ?_ (fun _ => ?_))
theorem tri_Full.calls (k : Nat) (a0_0 : Int) (A0_1 : Option Addr) (c0_1 : Nat) (l0_1 : List (S41)) (A1 : Option Addr) (c1 : Nat) (l1 : List (List Int)) (r1 : Bool) (r2 : Int) (w : World) (hr0_1 : Kd.C k41 w A0_1 l0_1.length l0_1) (hc0_1 : l0_1.length ≤ c0_1) (hr1 : Kd.C (Kd.slice 3 (Kd.int .i64)) w A1 l1.length l1) (hc1 : l1.length ≤ c1) (h : tri_Full.f k a0_0 l0_1 l1 = some (r1, r2)) :
  Calls Try.prog 45 #[.agg #[.int .i64 a0_0, .slice A0_1 l0_1.length c0_1], .slice A1 l1.length c1] w fun e w' => e = .returned (.tuple #[.bool r1, .int .i64 r2]) ∧ Below w.heap.size w w' := by
 have hu24 := Try.underlying24
 have HR0_1 := Aside0.mk hr0_1
 have HC0_1 := Aside0.mk hc0_1
 clear hr0_1 hc0_1
 have HR1 := Aside0.mk hr1
 have HC1 := Aside0.mk hc1
 clear hr1 hc1
 have HB := Aside0.mk (Below.refl w.heap.size w)
 have H : ((rot_Check.f k a0_0 l0_1 l1).bind fun bt151 => (if bt151.2 = 0 then (if a0_0 ≥ 3 then (if (l0_1.length : Int) = (wrap64 ((wrap64 (3 * a0_0)) - 6)) then ((faces_Flat.f k a0_0 l0_1 l1).bind fun t153 => (some (t153, 0))) else (some (false, 0))) else (some (false, 0))) else (some (false, bt151.2)))) = some (r1, r2) := h
 clear h
 replace H := Option.bind_eq_some_iff.mp H
 obtain ⟨⟨t151, t152⟩, A30, H⟩ := H
 have A3 := Aside0.mk A30
 clear A30
 refine Classical.byCases (p := t152 = 0) (fun c4 => ?pc4) (fun c4 => ?nc4)
 case' pc4 =>
  rw [if_pos c4] at H
  have c4b0 : (t152 == 0) = true := beq_iff_eq.mpr c4
  have c4b1 : (t152 != 0) = false := bne_eq_false_iff_eq.mpr c4
  clear c4
  refine Classical.byCases (p := a0_0 ≥ 3) (fun c5 => ?pc5) (fun c5 => ?nc5)
  case' pc5 =>
   rw [if_pos c5] at H
   have c5b0 : decide (3 ≤ a0_0) = true := decide_eq_true c5
   clear c5
   refine Classical.byCases (p := (l0_1.length : Int) = (wrap64 ((wrap64 (3 * a0_0)) - 6))) (fun c6 => ?pc6) (fun c6 => ?nc6)
   case' pc6 =>
    rw [if_pos c6] at H
    have c6b0 : ((l0_1.length : Int) == (wrap64 ((wrap64 (3 * a0_0)) - 6))) = true := beq_iff_eq.mpr c6
    have c6b1 : ((l0_1.length : Int) != (wrap64 ((wrap64 (3 * a0_0)) - 6))) = false := bne_eq_false_iff_eq.mpr c6
    clear c6
    replace H := Option.bind_eq_some_iff.mp H
    obtain ⟨t153, A70, H⟩ := H
    have A7 := Aside0.mk A70
    clear A70
    simp only [Option.some.injEq, Prod.mk.injEq] at H
    obtain ⟨rfl, rfl⟩ := H
   case' nc6 =>
    rw [if_neg c6] at H
    have c6b0 : ((l0_1.length : Int) == (wrap64 ((wrap64 (3 * a0_0)) - 6))) = false := beq_eq_false_iff_ne.mpr c6
    have c6b1 : ((l0_1.length : Int) != (wrap64 ((wrap64 (3 * a0_0)) - 6))) = true := bne_iff_ne.mpr c6
    simp only [Option.some.injEq, Prod.mk.injEq] at H
    obtain ⟨rfl, rfl⟩ := H
  case' nc5 =>
   rw [if_neg c5] at H
   have c5b0 : decide (3 ≤ a0_0) = false := decide_eq_false c5
   clear c5
   simp only [Option.some.injEq, Prod.mk.injEq] at H
   obtain ⟨rfl, rfl⟩ := H
 case' nc4 =>
  rw [if_neg c4] at H
  have c4b0 : (t152 == 0) = false := beq_eq_false_iff_ne.mpr c4
  have c4b1 : (t152 != 0) = true := bne_iff_ne.mpr c4
  simp only [Option.some.injEq, Prod.mk.injEq] at H
  obtain ⟨rfl, rfl⟩ := H
 all_goals
  go_enter Try.func45, Try.ntmps45
  go_wp2_with (first | ((with_reducible refine gate_dst (N := 2) rfl ?_); (try (refine gate_guard (by rfl) ?_; dsimp only)); refine bx9 (N := 2) (cs := #[.int .i64 a0_0, .slice A0_1 l0_1.length c0_1]) (t := 24) ?_; intro gb150 hg w8 hbox hb; have BK150 := Aside0.mk (hbox); have GW150 := gw9 HB hg; have GE150 := gw9 HB hg; replace HB := bs9 HB hb; clear hb hbox hg; have hcz9_0 := cz9 BK150 0; have hcz9_1 := cz9 BK150 1; have hfz9_0 := blk_frozen BK150.out 0; have hfz9_1 := blk_frozen BK150.out 1) | ((with_reducible refine gate_callee (f := 43) rfl ?_); refine gL9 (some 11) Try.func43 #[.agg #[.int .i64 a0_0, .slice A0_1 l0_1.length c0_1], .slice A1 l1.length c1] ?_; (with_reducible refine (rot_Check.calls k a0_0 _ _ l0_1 _ _ l1 t151 t152 _ ?side1 ?side2 ?side3 ?side4 A3.out).mono ?_); (case side1 => exact cb9 HR0_1 HB); (case side2 => exact HC0_1.out); (case side3 => exact cb9 HR1 HB); (case side4 => exact HC1.out); rintro e w10 ⟨rfl, hb⟩; refine ⟨_, rfl, ?_⟩; replace BK150 := bb9 BK150 hb; replace HB := bs9 HB hb; (try clear hb); have hcz11_0 := cz9 BK150 0; have hcz11_1 := cz9 BK150 1; have hfz11_0 := blk_frozen BK150.out 0; have hfz11_1 := blk_frozen BK150.out 1) | (go_at_call 44; (with_reducible refine (faces_Flat.calls k a0_0 _ _ l0_1 _ _ l1 t153 _ ?side1 ?side2 ?side3 ?side4 A7.out).mono ?_); (case side1 => exact cb9 HR0_1 HB); (case side2 => exact HC0_1.out); (case side3 => exact cb9 HR1 HB); (case side4 => exact HC1.out); rintro e w12 ⟨rfl, hb⟩; replace BK150 := bb9 BK150 hb; replace HB := bs9 HB hb; (try clear hb)))
  go_ret2
  exact ⟨er9, bl9 HB⟩
end GAll
namespace GAll
def rot_Around.fit (l : List S41) (r : List (List Int)) : Bool := decide (l.length ≤ 4194304) && (decide (r.length ≤ 1048576) && r.all fun row => decide (row.length ≤ 8388608) && row.all fun h => decide (0 ≤ Rot.twin h) && decide (Rot.twin h < ((2 * l.length : Nat) : Int)))
def rot_Around.f (k : Nat) (a0_0 : Int) (l0_1 : List S41) (l1 : List (List Int)) : Option (List (List Int) × Int) := (rot_Check.f k a0_0 l0_1 l1).bind fun t => if t.2 = 0 then (if rot_Around.fit l0_1 l1 = true then some (Rot.aroundOf (Rot.froms (l0_1.map fun x => (x.f0, x.f1))) l1, 0) else none) else some ([], t.2)
theorem rot_Around.mono : ∀ a0 a1 a2 k, LeO (rot_Around.f k a0 a1 a2) (rot_Around.f (k + 1) a0 a1 a2) := by
 intro a0 a1 a2 k
 unfold rot_Around.f
 exact LeO.bind (rot_Check.mono _ _ _ _) (fun _ => LeO.refl _)
theorem rot_Around.at_ {l : List S41} {r : List (List Int)} (h : rot_Around.fit l r = true) : l.length ≤ 4194304 ∧ r.length ≤ 1048576 ∧ ∀ v, v < r.length → (Mem.gl r v).length ≤ 8388608 ∧ ∀ j, j < (Mem.gl r v).length → 0 ≤ Rot.twin (Mem.gi (Mem.gl r v) j) ∧ Rot.twin (Mem.gi (Mem.gl r v) j) < ((2 * l.length : Nat) : Int) := by
 unfold rot_Around.fit at h
 rw [Bool.and_eq_true, Bool.and_eq_true, List.all_eq_true, decide_eq_true_eq, decide_eq_true_eq] at h
 refine ⟨h.1, h.2.1, fun v hv => ?_⟩
 have hm : Mem.gl r v ∈ r := by
  unfold Mem.gl
  rw [List.getD_eq_getElem?_getD, List.getElem?_eq_getElem hv]
  exact List.getElem_mem hv
 have h2 := h.2.2 _ hm
 rw [Bool.and_eq_true, List.all_eq_true, decide_eq_true_eq] at h2
 refine ⟨h2.1, fun j hj => ?_⟩
 have hj2 : Mem.gi (Mem.gl r v) j ∈ Mem.gl r v := by
  unfold Mem.gi
  rw [List.getD_eq_getElem?_getD, List.getElem?_eq_getElem hj]
  exact List.getElem_mem hj
 have h3 := h2.2 _ hj2
 rw [Bool.and_eq_true, decide_eq_true_eq, decide_eq_true_eq] at h3
 exact h3
theorem rot_Around.calls (k : Nat) (a0_0 : Int) (A0_1 : Option Addr) (c0_1 : Nat) (l0_1 : List (S41)) (A1 : Option Addr) (c1 : Nat) (l1 : List (List Int)) (r1 : List (List Int)) (r2 : Int) (w : World) (hr0_1 : Kd.C k41 w A0_1 l0_1.length l0_1) (hc0_1 : l0_1.length ≤ c0_1) (hr1 : Kd.C (Kd.slice 3 (Kd.int .i64)) w A1 l1.length l1) (hc1 : l1.length ≤ c1) (h : rot_Around.f k a0_0 l0_1 l1 = some (r1, r2)) :
  Calls Try.prog 47 #[.agg #[.int .i64 a0_0, .slice A0_1 l0_1.length c0_1], .slice A1 l1.length c1] w fun e w' => ∃ v0_ : Value, e = .returned (.tuple #[v0_, .int .i64 r2]) ∧ Kd.S (Kd.slice 3 (Kd.int .i64)) 27 w' w.heap.size (fun _ => True) v0_ r1 ∧ Below w.heap.size w w' := by
 obtain ⟨t, ht, h⟩ := Option.bind_eq_some_iff.mp h
 obtain ⟨t1, t2⟩ := t
 have hc : ∀ W : World, Below w.heap.size w W → Calls Try.prog 43 #[.agg #[.int .i64 a0_0, .slice A0_1 l0_1.length c0_1], .slice A1 l1.length c1] W fun e w' => e = .returned (.tuple #[.int .i64 t1, .int .i64 t2]) ∧ Below W.heap.size W w' :=
  fun W hW => rot_Check.calls k a0_0 A0_1 c0_1 l0_1 A1 c1 l1 t1 t2 W (Kd.C_below hr0_1 hW) hc0_1 (Kd.C_below hr1 hW) hc1 ht
 by_cases h0 : t2 = 0
 ·subst h0
  rw [if_pos rfl] at h
  by_cases hf : rot_Around.fit l0_1 l1 = true
  ·rw [if_pos hf] at h
   obtain ⟨g1, g2, g3⟩ := rot_Around.at_ hf
   obtain ⟨rfl, rfl⟩ : Rot.aroundOf (Rot.froms (l0_1.map fun x => (x.f0, x.f1))) l1 = r1 ∧ 0 = r2 := by simpa using h
   have hlm : (l0_1.map fun x => (x.f0, x.f1)).length = l0_1.length := List.length_map ..
   have hp := rot_Check.pairs hr0_1
   obtain ⟨es, hes⟩ : ∃ es, es = l0_1.map fun x => (x.f0, x.f1) := ⟨_, rfl⟩
   rw [← hes] at hlm hp ⊢
   rw [← hlm] at hc g1 g3 ⊢
   exact Rot.around_calls t1 a0_0 A0_1 c0_1 es A1 c1 l1 w hp g1 hr1 g2 (fun v hv => (g3 v hv).1) (fun v j hv hj => (g3 v hv).2 j hj) hc
  ·rw [if_neg hf] at h; cases h
 ·rw [if_neg h0] at h
  obtain ⟨rfl, rfl⟩ : ([] : List (List Int)) = r1 ∧ t2 = r2 := by simpa using h
  refine (Rot.around_bad a0_0 A0_1 l0_1.length c0_1 A1 l1.length c1 t1 t2 h0 w hc).mono ?_
  rintro e w' ⟨rfl, hb⟩
  exact ⟨_, rfl, Kd.S_nil _ _ _ _ _, hb⟩
end GAll
namespace GAll
def order_ends.f (a0_0 : Int) (l0_1 : List (S41)) (a1 : Int) : Option (Int × Int) := if 0 ≤ (wrap64 (Int.tdiv a1 2)) then (if (wrap64 (Int.tdiv a1 2)) < (l0_1.length : Int) then (if (Int.tmod a1 2) = 0 then (some ((rd_T41 l0_1 (wrap64 (Int.tdiv a1 2))).f0, (rd_T41 l0_1 (wrap64 (Int.tdiv a1 2))).f1)) else (some ((rd_T41 l0_1 (wrap64 (Int.tdiv a1 2))).f1, (rd_T41 l0_1 (wrap64 (Int.tdiv a1 2))).f0))) else (none)) else (none)
theorem order_ends.calls (a0_0 : Int) (A0_1 : Option Addr) (c0_1 : Nat) (l0_1 : List (S41)) (a1 : Int) (r1 : Int) (r2 : Int) (w : World) (hr0_1 : Kd.C k41 w A0_1 l0_1.length l0_1) (hc0_1 : l0_1.length ≤ c0_1) (h : order_ends.f a0_0 l0_1 a1 = some (r1, r2)) :
  Calls Try.prog 48 #[.agg #[.int .i64 a0_0, .slice A0_1 l0_1.length c0_1], .int .i64 a1] w fun e w' => e = .returned (.tuple #[.int .i64 r1, .int .i64 r2]) ∧ Below w.heap.size w w' := by
 have hu24 := Try.underlying24
 have hu41 := Try.underlying41
 have HR0_1 := Aside0.mk hr0_1
 have HC0_1 := Aside0.mk hc0_1
 clear hr0_1 hc0_1
 have HB := Aside0.mk (Below.refl w.heap.size w)
 have H : (if 0 ≤ (wrap64 (Int.tdiv a1 2)) then (if (wrap64 (Int.tdiv a1 2)) < (l0_1.length : Int) then (if (Int.tmod a1 2) = 0 then (some ((rd_T41 l0_1 (wrap64 (Int.tdiv a1 2))).f0, (rd_T41 l0_1 (wrap64 (Int.tdiv a1 2))).f1)) else (some ((rd_T41 l0_1 (wrap64 (Int.tdiv a1 2))).f1, (rd_T41 l0_1 (wrap64 (Int.tdiv a1 2))).f0))) else (none)) else (none)) = some (r1, r2) := h
 clear h
 obtain ⟨ji3, hji3⟩ : ∃ j_ : Int, (wrap64 (Int.tdiv a1 2)) = j_ := ⟨_, rfl⟩
 replace H : (if 0 ≤ (ji3) then (if (ji3) < (l0_1.length : Int) then (if (Int.tmod a1 2) = 0 then (some ((rd_T41 l0_1 (ji3)).f0, (rd_T41 l0_1 (ji3)).f1)) else (some ((rd_T41 l0_1 (ji3)).f1, (rd_T41 l0_1 (ji3)).f0))) else (none)) else (none)) = some (r1, r2) := by first | (rw [hji3] at H; exact H) | (simp only [hji3] at H ⊢; exact H)
 have hji3w : (IntKind.i64.wrap (Int.tdiv a1 2)) = ji3 := (i64_w _).trans hji3
 by_cases c4 : 0 ≤ (ji3)
 ·rw [if_pos c4] at H
  have c4b0 : decide (0 ≤ (ji3)) = true := decide_eq_true c4
  clear c4
  by_cases c5 : (ji3) < (l0_1.length : Int)
  ·rw [if_pos c5] at H
   have c5b0 : decide ((ji3) < (l0_1.length : Int)) = true := decide_eq_true c5
   clear c5
   by_cases c6 : (Int.tmod a1 2) = 0
   ·rw [if_pos c6] at H
    have c6b0 : ((Int.tmod a1 2) == 0) = true := beq_iff_eq.mpr c6
    have c6b1 : ((Int.tmod a1 2) != 0) = false := bne_eq_false_iff_eq.mpr c6
    clear c6
    simp only [Option.some.injEq, Prod.mk.injEq] at H
    obtain ⟨rfl, rfl⟩ := H
    go_enter Try.func48, Try.ntmps48
    go_wp2_with (first | ((with_reducible refine gate_dst (N := 2) rfl ?_); refine bx9 (N := 2) (cs := #[.int .i64 a0_0, .slice A0_1 l0_1.length c0_1]) (t := 24) ?_; intro gb154 hg w7 hbox hb; have BK154 := Aside0.mk (hbox); have GW154 := gw9 HB hg; have GE154 := gw9 HB hg; replace HB := bs9 HB hb; clear hb hbox hg; have hcz8_0 := cz9 BK154 0; have hcz8_1 := cz9 BK154 1; have hfz8_0 := blk_frozen BK154.out 0; have hfz8_1 := blk_frozen BK154.out 1; have p155 : 0 ≤ ((ji3) : Int) := od9; have q155 : (ji3) < (l0_1.length : Int) := od9; obtain ⟨ad155, e155, hx155_0, hx155_1⟩ := at_T41 HR0_1.out (ji3) p155 q155; cases e155; replace hx155_0 := (HB.out.cell (World.block_lt_of_cell? w _ hx155_0)).trans hx155_0; replace hx155_1 := (HB.out.cell (World.block_lt_of_cell? w _ hx155_1)).trans hx155_1; replace p155 := eq_true p155; replace q155 := eq_true q155) | ((with_reducible refine gate_dst (N := 6) rfl ?_); refine bx9 (N := 6) (cs := #[.int .i64 0, .int .i64 0]) (t := 41) ?_; intro gb156 hg w9 hbox hb; have BK156 := Aside0.mk (hbox); have GW156 := gw9 HB hg; have GE156 := gw9 HB hg; have NB154_156 := nl9 BK154 hg; have NB156_154 := ng9 BK154 hg; replace BK154 := bb9 BK154 hb; replace HB := bs9 HB hb; clear hb hbox hg; have hnb10 := NB156_154.out; have hnc10 := NB154_156.out; have hcz11_0 := cz9 BK156 0; have hcz11_1 := cz9 BK156 1; have hfz11_0 := blk_frozen BK156.out 0; have hfz11_1 := blk_frozen BK156.out 1))
    repeat (go_quiet (fail); try go_wp2_with fail)
    go_ret2
    exact ⟨by first | rfl | (simp [errW_none, errW_some] <;> rfl) | (simp only [← hji3]; first | rfl | (simp [errW_none, errW_some] <;> rfl)) | (simp [*, errW_none, errW_some] <;> rfl), bl9 HB⟩
   ·rw [if_neg c6] at H
    have c6b0 : ((Int.tmod a1 2) == 0) = false := beq_eq_false_iff_ne.mpr c6
    have c6b1 : ((Int.tmod a1 2) != 0) = true := bne_iff_ne.mpr c6
    simp only [Option.some.injEq, Prod.mk.injEq] at H
    obtain ⟨rfl, rfl⟩ := H
    go_enter Try.func48, Try.ntmps48
    go_wp2_with (first | ((with_reducible refine gate_dst (N := 2) rfl ?_); refine bx9 (N := 2) (cs := #[.int .i64 a0_0, .slice A0_1 l0_1.length c0_1]) (t := 24) ?_; intro gb154 hg w12 hbox hb; have BK154 := Aside0.mk (hbox); have GW154 := gw9 HB hg; have GE154 := gw9 HB hg; replace HB := bs9 HB hb; clear hb hbox hg; have hcz13_0 := cz9 BK154 0; have hcz13_1 := cz9 BK154 1; have hfz13_0 := blk_frozen BK154.out 0; have hfz13_1 := blk_frozen BK154.out 1; have p155 : 0 ≤ ((ji3) : Int) := od9; have q155 : (ji3) < (l0_1.length : Int) := od9; obtain ⟨ad155, e155, hx155_0, hx155_1⟩ := at_T41 HR0_1.out (ji3) p155 q155; cases e155; replace hx155_0 := (HB.out.cell (World.block_lt_of_cell? w _ hx155_0)).trans hx155_0; replace hx155_1 := (HB.out.cell (World.block_lt_of_cell? w _ hx155_1)).trans hx155_1; replace p155 := eq_true p155; replace q155 := eq_true q155) | ((with_reducible refine gate_dst (N := 6) rfl ?_); refine bx9 (N := 6) (cs := #[.int .i64 0, .int .i64 0]) (t := 41) ?_; intro gb156 hg w14 hbox hb; have BK156 := Aside0.mk (hbox); have GW156 := gw9 HB hg; have GE156 := gw9 HB hg; have NB154_156 := nl9 BK154 hg; have NB156_154 := ng9 BK154 hg; replace BK154 := bb9 BK154 hb; replace HB := bs9 HB hb; clear hb hbox hg; have hnb15 := NB156_154.out; have hnc15 := NB154_156.out; have hcz16_0 := cz9 BK156 0; have hcz16_1 := cz9 BK156 1; have hfz16_0 := blk_frozen BK156.out 0; have hfz16_1 := blk_frozen BK156.out 1))
    repeat (go_quiet (fail); try go_wp2_with fail)
    go_ret2
    exact ⟨by first | rfl | (simp [errW_none, errW_some] <;> rfl) | (simp only [← hji3]; first | rfl | (simp [errW_none, errW_some] <;> rfl)) | (simp [*, errW_none, errW_some] <;> rfl), bl9 HB⟩
  ·rw [if_neg c5] at H
   exact absurd H (by simp)
 ·rw [if_neg c4] at H
  exact absurd H (by simp)
end GAll
namespace Peel
open GAll Mem
abbrev Eg := S41
abbrev kE : Kd Eg := k41
def lookF (k : Nat) (n : Int) (l : List Eg) (r : List (List Int)) (root : Int) : Option (Int × List (List Int) × Int × Int × Int) :=
 (rot_Check.f k n l r).bind fun t => if t.2 ≠ 0 then some (t.2, [], 0, 0, 0) else
 (faces_Flat.f k n l r).bind fun fl => if fl = false then some (120, [], 0, 0, 0) else
 if n < 3 then some (230, [], 0, 0, 0) else
 if root < 0 ∨ (2 * l.length : Int) ≤ root then some (241, [], 0, 0, 0) else
 (tri_Full.f k n l r).bind fun u => if u.2 ≠ 0 ∨ u.1 = false then some (240, [], 0, 0, 0) else
 (rot_Next.f k n l r).bind fun x => if x.2 ≠ 0 then some (x.2, [], 0, 0, 0) else
 (rot_Around.f k n l r).bind fun y => if y.2 ≠ 0 then some (y.2, [], 0, 0, 0) else
 (order_ends.f n l root).bind fun p => if 0 ≤ Go.bits .xor .i64 root 1 ∧ Go.bits .xor .i64 root 1 < (x.1.length : Int) then
  (order_ends.f n l (gi x.1 (Go.bits .xor .i64 root 1).toNat)).bind fun q => some (0, y.1, p.1, p.2, q.2) else none
def LookPost (n : Int) (gE : Value) (w : World) (res : Int × List (List Int) × Int × Int × Int) (e : Ending) (w' : World) : Prop :=
 Below w.heap.size w w' ∧ if res.1 = 0 then ∃ (bf : Nat) (A : Option Addr) (cA : Nat), e = .returned (.tuple #[.pointer (some ⟨bf, 0, none⟩), .int .i64 0]) ∧ w'.heap[bf]? = some (.cells #[.int .i64 n, gE, .slice A res.2.1.length cA, .int .i64 res.2.2.1, .int .i64 res.2.2.2.1, .int .i64 res.2.2.2.2] 69 (0, 0)) ∧ Kd.C KR w' A res.2.1.length res.2.1 ∧ w.heap.size ≤ bf
 else e = .returned (.tuple #[.pointer none, .int .i64 res.1])
theorem look_calls (k : Nat) (n : Int) (A : Option Addr) (c : Nat) (l : List Eg) (A1 : Option Addr) (c1 : Nat) (r : List (List Int)) (root : Int) (w : World) (hr : Kd.C kE w A l.length l) (hc : l.length ≤ c) (hr1 : Kd.C KR w A1 r.length r) (hc1 : r.length ≤ c1) (hll : l.length ≤ 8796093022208) (res : Int × List (List Int) × Int × Int × Int) (h : lookF k n l r root = some res) :
  Calls Try.prog 28 #[.agg #[.int .i64 n, .slice A l.length c], .slice A1 r.length c1, .int .i64 root] w (LookPost n (.slice A l.length c) w res) := by
 have HX := Aside0.mk (heap_last w (.cells #[.int .i64 n, .slice A l.length c] 24 (0, 0)))
 have HB : Aside0 (Below w.heap.size w (w.alloc (.cells #[.int .i64 n, .slice A l.length c] 24 (0, 0)))) := ⟨(Below.refl _ _).alloc (Nat.le_refl _) _⟩
 have HRR := Aside0.mk hr
 have HR1 := Aside0.mk hr1
 have HCC := Aside0.mk hc
 have HCC1 := Aside0.mk hc1
 unfold lookF at h
 obtain ⟨⟨v1, e1⟩, h1, h⟩ := Option.bind_eq_some_iff.1 h
 simp only at h
 have H1 := Aside0.mk h1
 have HH := Aside0.mk h
 clear hr hr1 hc hc1 h1 h
 have x0 : (w.alloc (.cells #[.int .i64 n, .slice A l.length c] 24 (0, 0))).cell? ⟨w.heap.size, 0, none⟩ = some (.int .i64 n) := heap_cell HX.out rfl
 have x1 : (w.alloc (.cells #[.int .i64 n, .slice A l.length c] 24 (0, 0))).cell? ⟨w.heap.size, 1, none⟩ = some (.slice A l.length c) := heap_cell HX.out rfl
 go_enter Try.func28, Try.ntmps28
 go_wp2_with fail
 clear x0 x1
 obtain ⟨b, hb1⟩ : ∃ b, b = w.heap.size := ⟨_, rfl⟩
 rw [← hb1] at HX ⊢
 have HBL := Aside0.mk hb1
 clear hb1
 refine (rot_Check.calls k n A c l A1 c1 r v1 e1 _ (Kd.C_below HRR.out HB.out) HCC.out (Kd.C_below HR1.out HB.out) HCC1.out H1.out).mono ?_
 rintro e' w1 ⟨rfl, hb⟩
 replace HB := Aside0.mk (HB.out.trans (hb.mono HB.out.size))
 replace HX := Aside0.mk ((hb.block _ (lt_of HX.out)).trans HX.out)
 clear hb
 have x0 : w1.cell? ⟨b, 0, none⟩ = some (.int .i64 n) := heap_cell HX.out rfl
 have x1 : w1.cell? ⟨b, 1, none⟩ = some (.slice A l.length c) := heap_cell HX.out rfl
 by_cases c1' : e1 = 0
 rotate_left
 ·have t1 : (e1 != 0) = true := bne_iff_ne.2 c1'
  have h := HH.out
  rw [if_pos c1'] at h
  obtain rfl := Option.some.inj h
  clear h
  go_wp2_with fail
  go_ret2
  refine ⟨HB.out, ?_⟩
  rw [if_neg c1']
  simp
 have t1 : (e1 != 0) = false := bne_eq_false_iff_eq.2 c1'
 have h := HH.out
 rw [if_neg (fun q => q c1')] at h
 obtain ⟨fl, h2, h⟩ := Option.bind_eq_some_iff.1 h
 replace HH := Aside0.mk h
 have H2 := Aside0.mk h2
 clear h h2 c1'
 go_wp2_with fail
 clear x0 x1 t1
 refine (faces_Flat.calls k n A c l A1 c1 r fl w1 (Kd.C_below HRR.out HB.out) HCC.out (Kd.C_below HR1.out HB.out) HCC1.out H2.out).mono ?_
 rintro e' w2 ⟨rfl, hb⟩
 replace HB := Aside0.mk (HB.out.trans (hb.mono HB.out.size))
 replace HX := Aside0.mk ((hb.block _ (lt_of HX.out)).trans HX.out)
 clear hb
 have x0 : w2.cell? ⟨b, 0, none⟩ = some (.int .i64 n) := heap_cell HX.out rfl
 have x1 : w2.cell? ⟨b, 1, none⟩ = some (.slice A l.length c) := heap_cell HX.out rfl
 cases hfl : fl with
 | false =>
  subst hfl
  have h := HH.out
  rw [if_pos rfl] at h
  obtain rfl := Option.some.inj h
  clear h
  go_wp2_with fail
  go_ret2
  exact ⟨HB.out, by rw [if_neg (by decide)]; simp⟩
 | true =>
 subst hfl
 have h := HH.out
 rw [if_neg (by decide)] at h
 by_cases c2 : n < 3
 ·have t2 : decide (n < 3) = true := decide_eq_true c2
  rw [if_pos c2] at h
  obtain rfl := Option.some.inj h
  clear h
  go_wp2_with fail
  go_ret2
  exact ⟨HB.out, by rw [if_neg (by decide)]; simp⟩
 have t2 : decide (n < 3) = false := decide_eq_false c2
 rw [if_neg c2] at h
 have m1 : IntKind.i64.wrap (2 * (l.length : Int)) = 2 * (l.length : Int) := IntWalk.i64_in _ (by omega)
 by_cases c3 : root < 0 ∨ (2 * l.length : Int) ≤ root
 ·rw [if_pos c3] at h
  obtain rfl := Option.some.inj h
  clear h
  by_cases c4 : root < 0
  ·have t3 : decide (root < 0) = true := decide_eq_true c4
   go_wp2_with fail
   go_ret2
   exact ⟨HB.out, by rw [if_neg (by decide)]; simp⟩
  ·have t3 : decide (root < 0) = false := decide_eq_false c4
   have c5 : 2 * (l.length : Int) ≤ root := by omega
   have t4 : decide (root ≥ 2 * (l.length : Int)) = true := decide_eq_true c5
   have t5 : decide (2 * (l.length : Int) ≤ root) = true := decide_eq_true c5
   go_wp2_with fail
   go_ret2
   exact ⟨HB.out, by rw [if_neg (by decide)]; simp⟩
 rw [if_neg c3] at h
 obtain ⟨q, rfl⟩ := Int.eq_ofNat_of_zero_le (show 0 ≤ root by omega)
 have t3 : decide ((q : Int) < 0) = false := decide_eq_false (by omega)
 have t4 : decide ((q : Int) ≥ 2 * (l.length : Int)) = false := decide_eq_false (by omega)
 have t5 : decide (2 * (l.length : Int) ≤ (q : Int)) = false := decide_eq_false (by omega)
 have t6 : ¬ 2 * (l.length : Int) ≤ (q : Int) := by omega
 obtain ⟨⟨fu, e2⟩, h3, h⟩ := Option.bind_eq_some_iff.1 h
 simp only at h
 replace HH := Aside0.mk h
 have H3 := Aside0.mk h3
 clear h h3
 go_wp2_with fail
 clear x0 x1 t2 t3 t4 t5 t6 m1
 refine (tri_Full.calls k n A c l A1 c1 r fu e2 w2 (Kd.C_below HRR.out HB.out) HCC.out (Kd.C_below HR1.out HB.out) HCC1.out H3.out).mono ?_
 rintro e' w3 ⟨rfl, hb⟩
 replace HB := Aside0.mk (HB.out.trans (hb.mono HB.out.size))
 replace HX := Aside0.mk ((hb.block _ (lt_of HX.out)).trans HX.out)
 clear hb
 have x0 : w3.cell? ⟨b, 0, none⟩ = some (.int .i64 n) := heap_cell HX.out rfl
 have x1 : w3.cell? ⟨b, 1, none⟩ = some (.slice A l.length c) := heap_cell HX.out rfl
 by_cases c4 : e2 = 0
 rotate_left
 ·have t1 : (e2 != 0) = true := bne_iff_ne.2 c4
  have h := HH.out
  rw [if_pos (.inl c4)] at h
  obtain rfl := Option.some.inj h
  clear h
  go_wp2_with fail
  go_ret2
  exact ⟨HB.out, by rw [if_neg (by decide)]; simp⟩
 have t1 : (e2 != 0) = false := bne_eq_false_iff_eq.2 c4
 cases hfu : fu with
 | false =>
  subst hfu
  have h := HH.out
  rw [if_pos (.inr rfl)] at h
  obtain rfl := Option.some.inj h
  clear h
  go_wp2_with fail
  go_ret2
  exact ⟨HB.out, by rw [if_neg (by decide)]; simp⟩
 | true =>
 subst hfu
 have h := HH.out
 rw [if_neg (by rintro (q1 | q1); exact q1 c4; cases q1)] at h
 obtain ⟨⟨nx, e3⟩, h4, h⟩ := Option.bind_eq_some_iff.1 h
 simp only at h
 replace HH := Aside0.mk h
 have H4 := Aside0.mk h4
 clear h h4 c4
 go_wp2_with fail
 clear x0 x1 t1
 refine (rot_Next.calls k n A c l A1 c1 r nx e3 w3 (Kd.C_below HRR.out HB.out) HCC.out (Kd.C_below HR1.out HB.out) HCC1.out H4.out).mono ?_
 rintro e' w4 ⟨v4, rfl, hR, hb⟩
 obtain ⟨An, cn, rfl, _, hN⟩ := Kd.R_reads hR
 have HN := Aside0.mk hN
 clear hR hN
 replace HB := Aside0.mk (HB.out.trans (hb.mono HB.out.size))
 replace HX := Aside0.mk ((hb.block _ (lt_of HX.out)).trans HX.out)
 clear hb
 have x0 : w4.cell? ⟨b, 0, none⟩ = some (.int .i64 n) := heap_cell HX.out rfl
 have x1 : w4.cell? ⟨b, 1, none⟩ = some (.slice A l.length c) := heap_cell HX.out rfl
 by_cases c5 : e3 = 0
 rotate_left
 ·have t1 : (e3 != 0) = true := bne_iff_ne.2 c5
  have h := HH.out
  rw [if_pos c5] at h
  obtain rfl := Option.some.inj h
  clear h
  go_wp2_with fail
  go_ret2
  exact ⟨HB.out, by rw [if_neg c5]; simp⟩
 have t1 : (e3 != 0) = false := bne_eq_false_iff_eq.2 c5
 have h := HH.out
 rw [if_neg (fun q1 => q1 c5)] at h
 obtain ⟨⟨ar, e4⟩, h5, h⟩ := Option.bind_eq_some_iff.1 h
 simp only at h
 replace HH := Aside0.mk h
 have H5 := Aside0.mk h5
 clear h h5 c5
 go_wp2_with fail
 clear x0 x1 t1
 refine (rot_Around.calls k n A c l A1 c1 r ar e4 w4 (Kd.C_below HRR.out HB.out) HCC.out (Kd.C_below HR1.out HB.out) HCC1.out H5.out).mono ?_
 rintro e' w5 ⟨v5, rfl, hS, hb⟩
 obtain ⟨Ar, cr, rfl, _, hC⟩ := Kd.S_reads hS
 have HAR := Aside0.mk hC
 replace HN := Aside0.mk (Kd.C_below HN.out hb)
 clear hS hC
 replace HB := Aside0.mk (HB.out.trans (hb.mono HB.out.size))
 replace HX := Aside0.mk ((hb.block _ (lt_of HX.out)).trans HX.out)
 clear hb
 have x0 : w5.cell? ⟨b, 0, none⟩ = some (.int .i64 n) := heap_cell HX.out rfl
 have x1 : w5.cell? ⟨b, 1, none⟩ = some (.slice A l.length c) := heap_cell HX.out rfl
 by_cases c6 : e4 = 0
 rotate_left
 ·have t1 : (e4 != 0) = true := bne_iff_ne.2 c6
  have h := HH.out
  rw [if_pos c6] at h
  obtain rfl := Option.some.inj h
  clear h
  go_wp2_with fail
  go_ret2
  exact ⟨HB.out, by rw [if_neg c6]; simp⟩
 have t1 : (e4 != 0) = false := bne_eq_false_iff_eq.2 c6
 have h := HH.out
 rw [if_neg (fun q1 => q1 c6)] at h
 obtain ⟨⟨pa, pb⟩, h6, h⟩ := Option.bind_eq_some_iff.1 h
 simp only at h
 by_cases c7 : 0 ≤ Go.bits .xor .i64 (q : Int) 1 ∧ Go.bits .xor .i64 (q : Int) 1 < (nx.length : Int)
 rotate_left
 ·rw [if_neg c7] at h; cases h
 rw [if_pos c7] at h
 obtain ⟨⟨qa, qc⟩, h7, h⟩ := Option.bind_eq_some_iff.1 h
 obtain rfl := Option.some.inj h
 have H6 := Aside0.mk h6
 have H7 := Aside0.mk h7
 obtain ⟨tq, htq⟩ := Int.eq_ofNat_of_zero_le c7.1
 have htl : tq < nx.length := by omega
 have HTQ := Aside0.mk htq
 clear h h6 h7 HH c6 c7 htq
 obtain ⟨w6, hw6⟩ : ∃ w6, w6 = w5.alloc (.cells #[.int .i64 n, .slice A l.length c, .slice Ar ar.length cr, .int .i64 0, .int .i64 0, .int .i64 0] 69 (0, 0)) := ⟨_, rfl⟩
 have hb : Below w5.heap.size w5 w6 := by rw [hw6]; exact (Below.refl _ _).alloc (Nat.le_refl _) _
 obtain ⟨bf, hbf⟩ : ∃ bf, bf = w5.heap.size := ⟨_, rfl⟩
 have HF : Aside0 (w6.heap[bf]? = some (.cells #[.int .i64 n, .slice A l.length c, .slice Ar ar.length cr, .int .i64 0, .int .i64 0, .int .i64 0] 69 (0, 0))) := ⟨by rw [hw6, hbf]; exact heap_last _ _⟩
 have HBX : Aside0 (b < w5.heap.size) := ⟨lt_of HX.out⟩
 have HBF : Aside0 (w.heap.size ≤ bf) := ⟨by rw [hbf]; exact HB.out.size⟩
 have HFB := Aside0.mk hbf
 go_upto_region 20 with (fail)
 clear x0 x1 t1
 rw [← hbf, ← hw6]
 clear hbf hw6
 have HE6 := Aside0.mk hb
 replace HB := Aside0.mk (HB.out.trans (hb.mono HB.out.size))
 replace HX := Aside0.mk ((hb.block _ (lt_of HX.out)).trans HX.out)
 clear hb
 have x0 : w6.cell? ⟨b, 0, none⟩ = some (.int .i64 n) := heap_cell HX.out rfl
 have x1 : w6.cell? ⟨b, 1, none⟩ = some (.slice A l.length c) := heap_cell HX.out rfl
 have f3 : w6.cell? ⟨bf, 3, none⟩ = some (.int .i64 0) := heap_cell HF.out rfl
 go_wp2_with fail
 clear x0 x1 f3
 refine (order_ends.calls n A c l (q : Int) pa pb w6 (Kd.C_below HRR.out HB.out) HCC.out H6.out).mono ?_
 rintro e' w7 ⟨rfl, hb⟩
 have HE7 := Aside0.mk (HE6.out.trans (hb.mono HE6.out.size))
 replace HF := Aside0.mk ((hb.block _ (lt_of HF.out)).trans HF.out)
 replace HB := Aside0.mk (HB.out.trans (hb.mono HB.out.size))
 replace HX := Aside0.mk ((hb.block _ (lt_of HX.out)).trans HX.out)
 clear hb
 have x0 : w7.cell? ⟨b, 0, none⟩ = some (.int .i64 n) := heap_cell HX.out rfl
 have x1 : w7.cell? ⟨b, 1, none⟩ = some (.slice A l.length c) := heap_cell HX.out rfl
 have f3 : w7.cell? ⟨bf, 3, none⟩ = some (.int .i64 0) := heap_cell HF.out rfl
 have g3 := heap_free HF.out 3
 have HF1 := heap_set (i := 3) HF.out (.int .i64 pa)
 have f4 : (w7.setCell ⟨bf, 3, none⟩ (.int .i64 pa)).cell? ⟨bf, 4, none⟩ = some (.int .i64 0) := heap_cell HF1 (by simp)
 have g4 := heap_free HF1 4
 have HF2 := heap_set (i := 4) HF1 (.int .i64 pb)
 go_upto_region 21 with (fail)
 clear x0 x1 f3 g3 f4 g4
 obtain ⟨w8, hw8⟩ : ∃ w8, w8 = (w7.setCell ⟨bf, 3, none⟩ (.int .i64 pa)).setCell ⟨bf, 4, none⟩ (.int .i64 pb) := ⟨_, rfl⟩
 have HFF : Aside0 (w8.heap[bf]? = some (.cells #[.int .i64 n, .slice A l.length c, .slice Ar ar.length cr, .int .i64 pa, .int .i64 pb, .int .i64 0] 69 (0, 0))) := ⟨by rw [hw8]; simpa using HF2⟩
 have HE8 : Aside0 (Below w5.heap.size w5 w8) := ⟨by rw [hw8]; exact (HE7.out.setCell (p := ⟨bf, 3, none⟩) (by have := HFB.out; simp; omega) _).setCell (p := ⟨bf, 4, none⟩) (by have := HFB.out; simp; omega) _⟩
 have HB8 : Aside0 (Below w.heap.size w w8) := ⟨by rw [hw8]; exact (HB.out.setCell (p := ⟨bf, 3, none⟩) HBF.out _).setCell (p := ⟨bf, 4, none⟩) HBF.out _⟩
 have HX8 : Aside0 (w8.heap[b]? = some (.cells #[.int .i64 n, .slice A l.length c] 24 (0, 0))) := ⟨by
  rw [hw8]
  have hne : b ≠ bf := by have h1 := HBX.out; have h2 := HFB.out; omega
  exact heap_ne (heap_ne HX.out hne) hne⟩
 rw [← hw8]
 clear hw8 HF1 HF2 HF HB HX HE7 HE6
 have HEd : Aside0 (Below w5.heap.size w5 w8.drew) := ⟨HE8.out.drew⟩
 have HBd : Aside0 (Below w.heap.size w w8.drew) := ⟨HB8.out.drew⟩
 have x0 : w8.drew.cell? ⟨b, 0, none⟩ = some (.int .i64 n) := heap_cell HX8.out rfl
 have x1 : w8.drew.cell? ⟨b, 1, none⟩ = some (.slice A l.length c) := heap_cell HX8.out rfl
 have HFd : Aside0 (w8.drew.heap[bf]? = some (.cells #[.int .i64 n, .slice A l.length c, .slice Ar ar.length cr, .int .i64 pa, .int .i64 pb, .int .i64 0] 69 (0, 0))) := ⟨HFF.out⟩
 have hNd := Kd.C_below HN.out HEd.out
 obtain ⟨adn, eN, z1⟩ := Kd.at_int hNd (tq : Int) (by omega) (by omega)
 subst eN
 rw [gi_rd, Int.toNat_natCast] at z1
 have H7' := H7.out
 rw [HTQ.out, Int.toNat_natCast] at H7'
 obtain ⟨hn, hhn⟩ : ∃ h, h = gi nx tq := ⟨_, rfl⟩
 rw [← hhn] at z1 H7'
 replace H7 := Aside0.mk H7'
 have r1 : Go.bits .xor .i64 (q : Int) 1 = (tq : Int) := HTQ.out
 have gt : (tq : Int) < (nx.length : Int) := by omega
 clear H7' hNd hhn
 refine start_ (n := 14) (S := fun w' => w'.cell? ⟨b, 0, none⟩ = some (.int .i64 n) ∧ w'.cell? ⟨b, 1, none⟩ = some (.slice A l.length c) ∧ w'.cell? (adn.add tq) = some (.int .i64 hn)) (ds := [13]) (bm9 14 0) (by kernel_rfl) rfl rfl ⟨x0, x1, z1⟩ (fun hHeld => ?_)
 refine pu9 0 92 (bm9 14 1) ?_
 refine pu9 2 94 (bm9 14 5) ?_
 refine pu9 3 95 (bm9 14 13) ?_
 refine pu9 4 96 (bm9 14 29) ?_
 refine pu9 5 97 (bm9 14 61) ?_
 refine tk39 1 93 (bm9 14 63) hHeld ?_
 refine tk39 6 98 (bm9 14 127) hHeld ?_
 refine one_ (i := 7) (N := some 99) (bm9 14 255) rfl rfl (by kernel_rfl) (by decide) (fun K hK => ?_)
 refine goes_ Try.func48 (by kernel_rfl) rfl #[.agg #[.int .i64 n, .slice A l.length c], .int .i64 hn] (by rfl) rfl rfl (by simp only [List.map_toArray, List.map_cons, List.map_nil]; rfl) ?_
 with_reducible refine (order_ends.calls n A c l hn qa qc _ (Kd.C_below HRR.out HBd.out) HCC.out H7.out).mono ?_
 rintro e' w9 ⟨rfl, hb⟩
 refine ⟨_, rfl, ?_⟩
 have HF9 : Aside0 (w9.heap[bf]? = some (.cells #[.int .i64 n, .slice A l.length c, .slice Ar ar.length cr, .int .i64 pa, .int .i64 pb, .int .i64 0] 69 (0, 0))) := ⟨(hb.block _ (lt_of HFd.out)).trans HFd.out⟩
 have f5 : w9.cell? ⟨bf, 5, none⟩ = some (.int .i64 0) := heap_cell HF9.out rfl
 have g5 := heap_free HF9.out 5
 have HE9 := Aside0.mk (HEd.out.trans (hb.mono HEd.out.size))
 have HB9 := Aside0.mk (HBd.out.trans (hb.mono HBd.out.size))
 refine hK.out _ _ ⟨(hb.cell (cell_lt hHeld.1)).trans hHeld.1, (hb.cell (cell_lt hHeld.2.1)).trans hHeld.2.1, (hb.cell (cell_lt hHeld.2.2)).trans hHeld.2.2⟩ (fun hHeld => ?_)
 clear hK K
 refine nm8 99 ?_
 refine pu9 8 91 (bm9 14 511) ?_
 refine pu9 9 100 (bm9 14 1023) ?_
 refine pu9 10 101 (bm9 14 2047) ?_
 refine pu9 11 102 (bm9 14 4095) ?_
 refine pu9 12 103 (bm9 14 8191) ?_
 refine last_ (i := 13) (N := none) (bm9 14 16383) rfl rfl (by kernel_rfl) (by decide) (fun K hK => ?_)
 refine skip_ (w1 := ?_) (by rfl) rfl ?_ ?_
 rotate_left
 ·go_simp
  rfl
 refine hK.out _ _ ?_
 clear hK K
 refine done_ (by kernel_rfl) ?_
 clear x0 x1 z1 f5 g5 r1 gt hb
 have HF10 : Aside0 ((w9.setCell ⟨bf, 5, none⟩ (.int .i64 qc)).heap[bf]? = some (.cells #[.int .i64 n, .slice A l.length c, .slice Ar ar.length cr, .int .i64 pa, .int .i64 pb, .int .i64 qc] 69 (0, 0))) := ⟨by
  have := heap_set (i := 5) HF9.out (.int .i64 qc)
  simpa using this⟩
 have HE10 : Aside0 (Below w5.heap.size w5 (w9.setCell ⟨bf, 5, none⟩ (.int .i64 qc))) := ⟨HE9.out.setCell (p := ⟨bf, 5, none⟩) (by have := HFB.out; simp; omega) _⟩
 have HB10 : Aside0 (Below w.heap.size w (w9.setCell ⟨bf, 5, none⟩ (.int .i64 qc))) := ⟨HB9.out.setCell (p := ⟨bf, 5, none⟩) HBF.out _⟩
 go_wp2_with fail
 go_ret2
 refine ⟨HB10.out, ?_⟩
 rw [if_pos rfl]
 exact ⟨bf, Ar, cr, by simp, HF10.out, Kd.C_below HAR.out HE10.out, HBF.out⟩
end Peel
namespace Peel
open GAll Mem
structure Zs (w0 w : World) (N : Nat) (o : List (Option Nat)) : Prop where
 old : Below w0.heap.size w0 w
 row : ∀ (i b : Nat), o[i]? = some (some b) → IRow w b (List.replicate N 0) ∧ w0.heap.size ≤ b
 ne : ∀ (i j b : Nat), o[i]? = some (some b) → o[j]? = some (some b) → i = j
theorem Zs.start (w0 : World) (N : Nat) : Zs w0 w0 N [none, none, none, none] := by
 have h : ∀ (i b : Nat), ¬ ([none, none, none, none] : List (Option Nat))[i]? = some (some b) := by
  intro i b
  rcases i with _ | _ | _ | _ | i <;> simp
 exact ⟨Below.refl _ _, fun i b e => absurd e (h i b), fun i j b e => absurd e (h i b)⟩
theorem Zs.made {w0 w : World} {N : Nat} {o : List (Option Nat)} (h : Zs w0 w N o) (i : Nat) (hi : i < o.length) (hz : o[i]? = some none) : Zs w0 (w.alloc (.cells (madeCells #[.int .i64 0] N) 3 (0, 0))) N (o.set i (some w.heap.size)) := by
 rw [made_int]
 have hlt : ∀ (j b : Nat), o[j]? = some (some b) → b < w.heap.size := fun j b e => lt_of (h.row j b e).1
 refine ⟨h.old.alloc h.old.size _, fun j b e => ?_, fun j q b e1 e2 => ?_⟩
 ·rw [List.getElem?_set] at e
  by_cases c : i = j
  ·rw [if_pos c, if_pos hi] at e
   obtain rfl : w.heap.size = b := by simpa using e
   exact ⟨IRow.start w N, h.old.size⟩
  ·rw [if_neg c] at e
   obtain ⟨h1, h2⟩ := h.row j b e
   exact ⟨heap_old h1 _, h2⟩
 ·rw [List.getElem?_set] at e1 e2
  by_cases c : i = j <;> by_cases d : i = q
  ·omega
  ·rw [if_pos c, if_pos hi] at e1
   rw [if_neg d] at e2
   have := hlt q b e2
   have : w.heap.size = b := by simpa using e1
   omega
  ·rw [if_neg c] at e1
   rw [if_pos d, if_pos hi] at e2
   have := hlt j b e1
   have : w.heap.size = b := by simpa using e2
   omega
  ·rw [if_neg c] at e1
   rw [if_neg d] at e2
   exact h.ne j q b e1 e2
theorem Zs.more {w0 w : World} {N : Nat} {o : List (Option Nat)} (h : Zs w0 w N o) (i : Nat) (hz : o[i]? = some none) : ∃ w' b', w.alloc (.cells (madeCells #[.int .i64 0] N) 3 (0, 0)) = w' ∧ w.heap.size = b' ∧ Aside0 (Zs w0 w' N (o.set i (some b'))) := ⟨_, _, rfl, rfl, ⟨h.made i (List.getElem?_eq_some_iff.1 hz).1 hz⟩⟩
theorem Zs.cell {w0 w : World} {N : Nat} {o : List (Option Nat)} (h : Zs w0 w N o) {a : Addr} {v : Value} (hv : w0.cell? a = some v) : w.cell? a = some v := (h.old.cell (cell_lt hv)).trans hv
theorem Zs.drew {w0 w : World} {N : Nat} {o : List (Option Nat)} (h : Zs w0 w N o) : Zs w0 w.drew N o := ⟨h.old.drew, h.row, h.ne⟩
theorem At.start {w0 w : World} {N s x v e bf : Nat} {A : Option Addr} {cA : Nat} {gE : Value} {ar : List (List Int)} {a b c : Int} (h : Zs w0 w N [some s, some x, some v, some e]) (hf : w0.heap[bf]? = some (.cells #[.int .i64 (N : Int), gE, .slice A N cA, .int .i64 a, .int .i64 b, .int .i64 c] 69 (0, 0))) (hr : Kd.C KR w0 A ar.length ar) (hl : ar.length = N) :
  At w0 (w.alloc (.cells #[.pointer (some ⟨bf, 0, none⟩), .slice (some ⟨s, 0, none⟩) N N, .slice (some ⟨x, 0, none⟩) N N, .slice (some ⟨v, 0, none⟩) N N, .slice (some ⟨e, 0, none⟩) N N] 66 (0, 0))) ⟨w.heap.size, bf, s, x, v, e, N, A, cA, gE⟩ ar a b c (List.replicate N 0) (List.replicate N 0) (List.replicate N 0) (List.replicate N 0) := by
 obtain ⟨s1, s2⟩ := h.row 0 s rfl
 obtain ⟨x1, x2⟩ := h.row 1 x rfl
 obtain ⟨v1, v2⟩ := h.row 2 v rfl
 obtain ⟨e1, e2⟩ := h.row 3 e rfl
 have ls := lt_of s1
 have lx := lt_of x1
 have lv := lt_of v1
 have le := lt_of e1
 refine ⟨h.old.alloc h.old.size _, hf, hr, hl, ?_, heap_last _ _, heap_old s1 _, heap_old x1 _, heap_old v1 _, heap_old e1 _, by simp, by simp, by simp, by simp, ?_⟩
 ·rintro k (rfl | rfl | rfl | rfl | rfl)
  ·exact h.old.size
  ·exact s2
  ·exact x2
  ·exact v2
  ·exact e2
 ·refine ⟨fun q => ?_, fun q => ?_, fun q => ?_, fun q => ?_, fun q => ?_, fun q => ?_, by show w.heap.size ≠ s; omega, by show w.heap.size ≠ x; omega, by show w.heap.size ≠ v; omega, by show w.heap.size ≠ e; omega⟩
  ·have q' : s = x := q
   exact absurd (h.ne 0 1 s rfl (by rw [q']; rfl)) (by decide)
  ·have q' : s = v := q
   exact absurd (h.ne 0 2 s rfl (by rw [q']; rfl)) (by decide)
  ·have q' : s = e := q
   exact absurd (h.ne 0 3 s rfl (by rw [q']; rfl)) (by decide)
  ·have q' : x = v := q
   exact absurd (h.ne 1 2 x rfl (by rw [q']; rfl)) (by decide)
  ·have q' : x = e := q
   exact absurd (h.ne 1 3 x rfl (by rw [q']; rfl)) (by decide)
  ·have q' : v = e := q
   exact absurd (h.ne 2 3 v rfl (by rw [q']; rfl)) (by decide)
def slLen : Value → Nat
 | .slice _ n _ => n
 | _ => 0
theorem cut_ints (g n c a : Nat) (ha : a ≤ c) (W : World) : (Instr.slice 27 (.slice (some ⟨g, 0, none⟩) n c) none (some (.int .i64 (a : Int))) none).run Try.prog W = .ok (.slice (some ⟨g, 0, none⟩) a c) W := by
 rw [run_slice_h W 27 (some ⟨g, 0, none⟩) n c Try.underlying27 .i64 (a : Int) (by omega) (by omega), Int.toNat_natCast]
 have hs : ∀ W : World, (sizeOf (Try.prog.elem 27)).run Try.prog W = .ok 1 W := fun W => by kernel_rfl
 rw [hs]
 by_cases h : c = 0
 ·subst h; rfl
 ·show Result.ok (Value.slice (if c = 0 then some ⟨g, 0, none⟩ else (some (⟨g, 0, none⟩ : Addr)).map (·.add (0 * 1))) a c) W = _
  rw [if_neg h]; rfl
def zeroS (N : Nat) : Sta := ⟨List.replicate N 0, List.replicate N 0, List.replicate N 0, List.replicate N 0⟩
def startS (ar : List (List Int)) (N a b c : Nat) : Sta := enterS ar (enterS ar (enterS ar (zeroS N) a (-1) (-1)) b (a : Int) (-1)) c (a : Int) (b : Int)
def ofLoop (ar : List (List Int)) (N a b : Nat) : Nat → Sta → List Int → Nat → List Int → Option (List Int)
 | 0, _, _, _, _ => none
 | f + 1, z, out, at_, may => if 0 < may.length ∧ 1 < at_ then
   if 0 ≤ gi may (may.length - 1) ∧ gi may (may.length - 1) < (N : Int) then
    if mayB (a : Int) (b : Int) z.s z.e (gi may (may.length - 1)).toNat = false then ofLoop ar N a b f z out at_ (may.take (may.length - 1)) else
    if gi z.v (gi may (may.length - 1)).toNat ∈ flt z.s (gl ar (gi may (may.length - 1)).toNat) (gl ar (gi may (may.length - 1)).toNat).length ∧ may.length + (takeT ar z (gi may (may.length - 1)).toNat).length ≤ 1000000000000 then
     ofLoop ar N a b f (takeS ar z (gi may (may.length - 1)).toNat) (out.set at_ (gi may (may.length - 1))) (at_ - 1) (may.take (may.length - 1) ++ takeT ar z (gi may (may.length - 1)).toNat)
    else none
   else none
  else some out
theorem of_calls (k N : Nat) (A : Option Addr) (c : Nat) (l : List Eg) (A1 : Option Addr) (c1 : Nat) (r : List (List Int)) (root : Int) (w : World) (hr : Kd.C kE w A l.length l) (hc : l.length ≤ c) (hr1 : Kd.C KR w A1 r.length r) (hc1 : r.length ≤ c1) (hll : l.length ≤ 8796093022208) (ar : List (List Int)) (a b d : Nat) (h : lookF k (N : Int) l r root = some (0, ar, (a : Int), (b : Int), (d : Int)))
  (hal : ar.length = N) (hok : Ok N ar) (ha : a < N) (hb : b < N) (hd : d < N) (h3 : 3 ≤ N) (f : Nat) (out : List Int) (hrun : ofLoop ar N a b f (startS ar N a b d) (((List.replicate N 0).set 0 (a : Int)).set 1 (b : Int)) (N - 1) [(d : Int)] = some out) :
  Calls Try.prog 16 #[.agg #[.int .i64 (N : Int), .slice A l.length c], .slice A1 r.length c1, .int .i64 root] w fun e w' => ∃ u, e = .returned (.tuple #[u, .int .i64 0]) ∧ Kd.R (Kd.int .i64) 3 w' w.heap.size (fun _ => True) u out ∧ Below w.heap.size w w' := by
 have HX := Aside0.mk (heap_last w (.cells #[.int .i64 (N : Int), .slice A l.length c] 24 (0, 0)))
 have HB : Aside0 (Below w.heap.size w (w.alloc (.cells #[.int .i64 (N : Int), .slice A l.length c] 24 (0, 0)))) := ⟨(Below.refl _ _).alloc (Nat.le_refl _) _⟩
 have HRR := Aside0.mk hr
 have HR1 := Aside0.mk hr1
 have HCC := Aside0.mk hc
 have HCC1 := Aside0.mk hc1
 have HLK := Aside0.mk h
 have HAL := Aside0.mk hal
 have HOK := Aside0.mk hok
 have HRUN := Aside0.mk hrun
 clear hr hr1 hc hc1 h hal hok hrun
 have x0 : (w.alloc (.cells #[.int .i64 (N : Int), .slice A l.length c] 24 (0, 0))).cell? ⟨w.heap.size, 0, none⟩ = some (.int .i64 (N : Int)) := heap_cell HX.out rfl
 have x1 : (w.alloc (.cells #[.int .i64 (N : Int), .slice A l.length c] 24 (0, 0))).cell? ⟨w.heap.size, 1, none⟩ = some (.slice A l.length c) := heap_cell HX.out rfl
 go_enter Try.func16, Try.ntmps16
 go_wp2_with fail
 clear x0 x1
 obtain ⟨bg, hb1⟩ : ∃ b, b = w.heap.size := ⟨_, rfl⟩
 rw [← hb1] at HX ⊢
 have HBL := Aside0.mk hb1
 clear hb1
 refine (look_calls k (N : Int) A c l A1 c1 r root _ (Kd.C_below HRR.out HB.out) HCC.out (Kd.C_below HR1.out HB.out) HCC1.out hll _ HLK.out).mono ?_
 rintro e' w1 ⟨hbl, hp⟩
 rw [if_pos rfl] at hp
 obtain ⟨bf, Ar, cA, rfl, hF, hAR, hbf⟩ := hp
 simp only at hF hAR
 have HX1 := Aside0.mk ((hbl.block _ (lt_of HX.out)).trans HX.out)
 have HB1 := Aside0.mk (HB.out.trans (hbl.mono HB.out.size))
 have HF1 : Aside0 (w1.heap[bf]? = some (.cells #[.int .i64 (N : Int), .slice A l.length c, .slice Ar N cA, .int .i64 (a : Int), .int .i64 (b : Int), .int .i64 (d : Int)] 69 (0, 0))) := ⟨by rw [HAL.out] at hF; exact hF⟩
 have HAR := Aside0.mk hAR
 clear hbl hF hAR hbf HX HB
 have hN := HOK.out.hN
 have t1 : ((0 : Int) != 0) = false := rfl
 have mk1 := print_make_of (P := Try.prog) 27 3 (.int .i64 0) 8 Try.underlying27 info_int rfl (by decide) N (by omega)
 have X0 : Aside0 (w1.drew.cell? ⟨bg, 0, none⟩ = some (.int .i64 (N : Int))) := ⟨heap_cell HX1.out rfl⟩
 have Y0 := X0
 go_upto_region 4 with (fail)
 obtain ⟨w0, hw0⟩ : ∃ w0, w0 = w1.drew := ⟨_, rfl⟩
 rw [← hw0] at X0
 have HW0 := Aside0.mk hw0
 clear hw0 t1
 have HJ0 : Aside0 (Zs w0 w0 N [none, none, none, none]) := ⟨Zs.start w0 N⟩
 refine start_ (n := 16) (S := fun w' => w'.cell? ⟨bg, 0, none⟩ = some (.int .i64 (N : Int))) (ds := [14]) (bm9 16 0) (by kernel_rfl) rfl rfl (Y0.out) (fun hHeld => ?_)
 refine pu9 0 25 (bm9 16 1) ?_
 refine pu9 1 26 (bm9 16 3) ?_
 refine pu9 4 29 (bm9 16 19) ?_
 refine pu9 7 32 (bm9 16 147) ?_
 refine pu9 10 35 (bm9 16 1171) ?_
 refine tk19 2 27 (bm9 16 1175) hHeld ?_
 refine tk19 5 30 (bm9 16 1207) hHeld ?_
 refine tk19 8 33 (bm9 16 1463) hHeld ?_
 refine tk19 11 36 (bm9 16 3511) hHeld ?_
 refine join_ (σ := Nat × Nat × Nat × Nat) 3 (bm9 16 8191) (fun s => [(28, .slice (some ⟨s.1, 0, none⟩) N N), (31, .slice (some ⟨s.2.1, 0, none⟩) N N), (34, .slice (some ⟨s.2.2.1, 0, none⟩) N N), (37, .slice (some ⟨s.2.2.2, 0, none⟩) N N)]) (fun s w' => Zs w0 w' N [some s.1, some s.2.1, some s.2.2.1, some s.2.2.2]) ?_ ?_
 rotate_left
 ·intro hCont
  refine four_ (i := 3) (j := 6) (k := 9) (m := 12) (Ni := some 28) (Nj := some 31) (Nk := some 34) (Nm := some 37) (bm9 16 3519) (bm9 16 3575) (bm9 16 4023) (bm9 16 7607) rfl rfl rfl rfl rfl rfl rfl rfl (by kernel_rfl) (by decide) (by decide) (by decide) (by decide) (fun K hK => ?_) (fun K hK => ?_) (fun K hK => ?_) (fun K hK => ?_)
  refine va9 ?_
  obtain ⟨w3, hw3⟩ : ∃ w3, w3 = (w1.alloc (.cells (madeCells #[.int .i64 0] N) 3 (0, 0))).drew := ⟨_, rfl⟩
  obtain ⟨b3, hb3⟩ : ∃ b3, b3 = w1.heap.size := ⟨_, rfl⟩
  have HJ3 : Aside0 (Zs w0 w3 N [some b3, none, none, none]) := ⟨by rw [hw3, hb3]; have h := HJ0.out.made 0 (by simp) rfl; first | exact h | (rw [HW0.out] at h ⊢; exact h)⟩
  rw [← hw3, ← hb3]
  clear hw3 hb3
  refine hK.out _ _ (HJ3.out.cell X0.out) (fun hHeld => ?_)
  clear hK K
  refine nm9 ?_
  have HJ := HJ3
  clear HJ3 HJ0
  rotate_left
  refine va9 ?_
  obtain ⟨w6, hw6⟩ : ∃ w6, w6 = (w1.alloc (.cells (madeCells #[.int .i64 0] N) 3 (0, 0))).drew := ⟨_, rfl⟩
  obtain ⟨b6, hb6⟩ : ∃ b6, b6 = w1.heap.size := ⟨_, rfl⟩
  have HJ6 : Aside0 (Zs w0 w6 N [none, some b6, none, none]) := ⟨by rw [hw6, hb6]; have h := HJ0.out.made 1 (by simp) rfl; first | exact h | (rw [HW0.out] at h ⊢; exact h)⟩
  rw [← hw6, ← hb6]
  clear hw6 hb6
  refine hK.out _ _ (HJ6.out.cell X0.out) (fun hHeld => ?_)
  clear hK K
  refine nm9 ?_
  have HJ := HJ6
  clear HJ6 HJ0
  rotate_left
  refine va9 ?_
  obtain ⟨w9, hw9⟩ : ∃ w9, w9 = (w1.alloc (.cells (madeCells #[.int .i64 0] N) 3 (0, 0))).drew := ⟨_, rfl⟩
  obtain ⟨b9, hb9⟩ : ∃ b9, b9 = w1.heap.size := ⟨_, rfl⟩
  have HJ9 : Aside0 (Zs w0 w9 N [none, none, some b9, none]) := ⟨by rw [hw9, hb9]; have h := HJ0.out.made 2 (by simp) rfl; first | exact h | (rw [HW0.out] at h ⊢; exact h)⟩
  rw [← hw9, ← hb9]
  clear hw9 hb9
  refine hK.out _ _ (HJ9.out.cell X0.out) (fun hHeld => ?_)
  clear hK K
  refine nm9 ?_
  have HJ := HJ9
  clear HJ9 HJ0
  rotate_left
  refine va9 ?_
  obtain ⟨w12, hw12⟩ : ∃ w12, w12 = (w1.alloc (.cells (madeCells #[.int .i64 0] N) 3 (0, 0))).drew := ⟨_, rfl⟩
  obtain ⟨b12, hb12⟩ : ∃ b12, b12 = w1.heap.size := ⟨_, rfl⟩
  have HJ12 : Aside0 (Zs w0 w12 N [none, none, none, some b12]) := ⟨by rw [hw12, hb12]; have h := HJ0.out.made 3 (by simp) rfl; first | exact h | (rw [HW0.out] at h ⊢; exact h)⟩
  rw [← hw12, ← hb12]
  clear hw12 hb12
  refine hK.out _ _ (HJ12.out.cell X0.out) (fun hHeld => ?_)
  clear hK K
  refine nm9 ?_
  have HJ := HJ12
  clear HJ12 HJ0
  rotate_left
  all_goals first
   | refine three_ (l := bm9 16 3519) (i := 6) (j := 9) (k := 12) (Ni := some 31) (Nj := some 34) (Nk := some 37) (bm9 16 3583) (bm9 16 4031) (bm9 16 7615) rfl rfl rfl rfl rfl rfl (by kernel_rfl) (by decide) (by decide) (by decide) (fun K hK => ?_) (fun K hK => ?_) (fun K hK => ?_)
   | refine three_ (l := bm9 16 3575) (i := 3) (j := 9) (k := 12) (Ni := some 28) (Nj := some 34) (Nk := some 37) (bm9 16 3583) (bm9 16 4087) (bm9 16 7671) rfl rfl rfl rfl rfl rfl (by kernel_rfl) (by decide) (by decide) (by decide) (fun K hK => ?_) (fun K hK => ?_) (fun K hK => ?_)
   | refine three_ (l := bm9 16 4023) (i := 3) (j := 6) (k := 12) (Ni := some 28) (Nj := some 31) (Nk := some 37) (bm9 16 4031) (bm9 16 4087) (bm9 16 8119) rfl rfl rfl rfl rfl rfl (by kernel_rfl) (by decide) (by decide) (by decide) (fun K hK => ?_) (fun K hK => ?_) (fun K hK => ?_)
   | refine three_ (l := bm9 16 7607) (i := 3) (j := 6) (k := 9) (Ni := some 28) (Nj := some 31) (Nk := some 34) (bm9 16 7615) (bm9 16 7671) (bm9 16 8119) rfl rfl rfl rfl rfl rfl (by kernel_rfl) (by decide) (by decide) (by decide) (fun K hK => ?_) (fun K hK => ?_) (fun K hK => ?_)
  all_goals ((first | (refine va9 (N := some 31) ?_; obtain ⟨w6, b6, ew, eb, HK⟩ := HJ.out.more 1 rfl) | (refine va9 (N := some 34) ?_; obtain ⟨w9, b9, ew, eb, HK⟩ := HJ.out.more 2 rfl) | (refine va9 (N := some 37) ?_; obtain ⟨w12, b12, ew, eb, HK⟩ := HJ.out.more 3 rfl) | (refine va9 (N := some 28) ?_; obtain ⟨w3, b3, ew, eb, HK⟩ := HJ.out.more 0 rfl)); rw [ew, eb]; clear ew eb HJ; have HJ := HK; clear HK; refine hK.out _ _ (HJ.out.cell X0.out) (fun hHeld => ?_); clear hK K; refine nm9 ?_)
  all_goals first
   | refine two_ (l := bm9 16 3583) (i := 9) (j := 12) (Ni := some 34) (Nj := some 37) (bm9 16 4095) (bm9 16 7679) rfl rfl rfl rfl (by kernel_rfl) (by decide) (by decide) (fun K hK => ?_) (fun K hK => ?_)
   | refine two_ (l := bm9 16 4031) (i := 6) (j := 12) (Ni := some 31) (Nj := some 37) (bm9 16 4095) (bm9 16 8127) rfl rfl rfl rfl (by kernel_rfl) (by decide) (by decide) (fun K hK => ?_) (fun K hK => ?_)
   | refine two_ (l := bm9 16 7615) (i := 6) (j := 9) (Ni := some 31) (Nj := some 34) (bm9 16 7679) (bm9 16 8127) rfl rfl rfl rfl (by kernel_rfl) (by decide) (by decide) (fun K hK => ?_) (fun K hK => ?_)
   | refine two_ (l := bm9 16 4087) (i := 3) (j := 12) (Ni := some 28) (Nj := some 37) (bm9 16 4095) (bm9 16 8183) rfl rfl rfl rfl (by kernel_rfl) (by decide) (by decide) (fun K hK => ?_) (fun K hK => ?_)
   | refine two_ (l := bm9 16 7671) (i := 3) (j := 9) (Ni := some 28) (Nj := some 34) (bm9 16 7679) (bm9 16 8183) rfl rfl rfl rfl (by kernel_rfl) (by decide) (by decide) (fun K hK => ?_) (fun K hK => ?_)
   | refine two_ (l := bm9 16 8119) (i := 3) (j := 6) (Ni := some 28) (Nj := some 31) (bm9 16 8127) (bm9 16 8183) rfl rfl rfl rfl (by kernel_rfl) (by decide) (by decide) (fun K hK => ?_) (fun K hK => ?_)
  all_goals ((first | (refine va9 (N := some 31) ?_; obtain ⟨w6, b6, ew, eb, HK⟩ := HJ.out.more 1 rfl) | (refine va9 (N := some 34) ?_; obtain ⟨w9, b9, ew, eb, HK⟩ := HJ.out.more 2 rfl) | (refine va9 (N := some 37) ?_; obtain ⟨w12, b12, ew, eb, HK⟩ := HJ.out.more 3 rfl) | (refine va9 (N := some 28) ?_; obtain ⟨w3, b3, ew, eb, HK⟩ := HJ.out.more 0 rfl)); rw [ew, eb]; clear ew eb HJ; have HJ := HK; clear HK; refine hK.out _ _ (HJ.out.cell X0.out) (fun hHeld => ?_); clear hK K; refine nm9 ?_)
  all_goals first
   | refine one_ (l := bm9 16 4095) (i := 12) (N := some 37) (bm9 16 8191) rfl rfl (by kernel_rfl) (by decide) (fun K hK => ?_)
   | refine one_ (l := bm9 16 7679) (i := 9) (N := some 34) (bm9 16 8191) rfl rfl (by kernel_rfl) (by decide) (fun K hK => ?_)
   | refine one_ (l := bm9 16 8127) (i := 6) (N := some 31) (bm9 16 8191) rfl rfl (by kernel_rfl) (by decide) (fun K hK => ?_)
   | refine one_ (l := bm9 16 8183) (i := 3) (N := some 28) (bm9 16 8191) rfl rfl (by kernel_rfl) (by decide) (fun K hK => ?_)
  all_goals ((first | (refine va9 (N := some 31) ?_; obtain ⟨w6, b6, ew, eb, HK⟩ := HJ.out.more 1 rfl) | (refine va9 (N := some 34) ?_; obtain ⟨w9, b9, ew, eb, HK⟩ := HJ.out.more 2 rfl) | (refine va9 (N := some 37) ?_; obtain ⟨w12, b12, ew, eb, HK⟩ := HJ.out.more 3 rfl) | (refine va9 (N := some 28) ?_; obtain ⟨w3, b3, ew, eb, HK⟩ := HJ.out.more 0 rfl)); rw [ew, eb]; clear ew eb HJ; have HJ := HK; clear HK; refine hK.out _ _ (HJ.out.cell X0.out) (fun hHeld => ?_); clear hK K; refine nm9 ?_)
  all_goals exact nm7 (hCont (b3, b6, b9, b12) _ HJ.out)
 rintro ⟨b3, b6, b9, b12⟩ w16 hF
 have HJ16 : Aside0 (Zs w0 w16 N [some b3, some b6, some b9, some b12]) := ⟨hF⟩
 clear hF
 have hHeld : w16.cell? ⟨bg, 0, none⟩ = some (.int .i64 (N : Int)) := HJ16.out.cell X0.out
 refine norm_ (a' := ?_) ?_ ?_
 rotate_left
 ·simp only [putAll, Act.put, List.setIfInBounds_toArray, List.set_cons_zero, List.set_cons_succ]
  rfl
 refine pu9 13 38 (bm9 16 16383) ?_
 refine last_ (i := 14) (N := some 39) (bm9 16 32767) rfl rfl (by kernel_rfl) (by decide) (fun K hK => ?_)
 refine va9 ?_
 refine hK.out _ _ ?_
 clear hK K
 refine nm9 ?_
 refine pu9 15 10 (bm9 16 65535) ?_
 refine done_ (by kernel_rfl) ?_
 have hF0 : w0.heap[bf]? = some (.cells #[.int .i64 (N : Int), .slice A l.length c, .slice Ar N cA, .int .i64 (a : Int), .int .i64 (b : Int), .int .i64 (d : Int)] 69 (0, 0)) := by rw [HW0.out]; exact HF1.out
 have hAR0 : Kd.C KR w0 Ar ar.length ar := by rw [HW0.out]; exact Kd.C_below HAR.out ((Below.refl _ _).drew)
 have HA0 := Aside0.mk (At.start HJ16.out hF0 hAR0 HAL.out)
 have HBZ : Aside0 (Below w.heap.size w w0) := ⟨by rw [HW0.out]; exact HB1.out.drew⟩
 have HXZ : Aside0 (w0.heap[bg]? = some (.cells #[.int .i64 (N : Int), .slice A l.length c] 24 (0, 0))) := ⟨by rw [HW0.out]; exact HX1.out⟩
 obtain ⟨B, hB⟩ : ∃ B : Bl, B = ⟨w16.heap.size, bf, b3, b6, b9, b12, N, Ar, cA, .slice A l.length c⟩ := ⟨_, rfl⟩
 have HBP : Aside0 (B.p = w16.heap.size ∧ B.f = bf ∧ B.N = N) := ⟨by rw [hB]; exact ⟨rfl, rfl, rfl⟩⟩
 rw [← hB] at HA0
 obtain ⟨wz, hwz⟩ : ∃ wz, wz = w16.alloc (.cells #[.pointer (some ⟨bf, 0, none⟩), .slice (some ⟨b3, 0, none⟩) N N, .slice (some ⟨b6, 0, none⟩) N N, .slice (some ⟨b9, 0, none⟩) N N, .slice (some ⟨b12, 0, none⟩) N N] 66 (0, 0)) := ⟨_, rfl⟩
 rw [← hwz] at HA0 ⊢
 have HNN : Aside0 (B.N = N) := ⟨HBP.out.2.2⟩
 have hbn := HNN.out
 rw [← HBP.out.1, ← HBP.out.2.1]
 have HZ0 : Aside0 (AtS w0 wz B ar (a : Int) (b : Int) (d : Int) (zeroS N)) := HA0
 have HOKB : Aside0 (Ok B.N ar) := ⟨by rw [HNN.out]; exact HOK.out⟩
 clear hF0 hAR0 hB hwz HA0 HJ16 HJ0 hHeld HBP HF1 HAR HX1 HB1 HW0 X0 Y0 HBL
 have x3 := HZ0.out.f3
 go_wp2_with fail
 clear x3
 refine (enter_calls HZ0.out a (-1) (-1) (by omega) (by omega) (by omega) (HOKB.out.inn a (by omega)) (HOKB.out.len a (by omega))).mono ?_
 rintro e' w17 ⟨rfl, hA, hF⟩
 have HZ1 : Aside0 (AtS w0 w17 B ar (a : Int) (b : Int) (d : Int) (enterS ar (zeroS N) a (-1) (-1))) := ⟨hA⟩
 clear hA hF HZ0
 have x3 : w17.drew.cell? ⟨B.f, 3, none⟩ = some (.int .i64 (a : Int)) := HZ1.out.drew.f3
 have x4 : w17.drew.cell? ⟨B.f, 4, none⟩ = some (.int .i64 (b : Int)) := HZ1.out.drew.f4
 have gna : (a : Int) < (B.N : Int) := by omega
 have gnb : (b : Int) < (B.N : Int) := by omega
 have gm : (-1 : Int) < (B.N : Int) := by omega
 have hbB : b < B.N := by omega
 have hdB : d < B.N := by omega
 have HZ1d := Aside0.mk HZ1.out.drew
 go_upto_region 6 with (fail)
 refine start_ (n := 10) (S := fun w' => w'.cell? ⟨B.f, 3, none⟩ = some (.int .i64 (a : Int)) ∧ w'.cell? ⟨B.f, 4, none⟩ = some (.int .i64 (b : Int))) (ds := [9]) (bm9 10 0) (by kernel_rfl) rfl rfl ⟨x3, x4⟩ (fun hHeld => ?_)
 refine pu9 0 46 (bm9 10 1) ?_
 refine pu9 1 47 (bm9 10 3) ?_
 refine pu9 2 48 (bm9 10 7) ?_
 refine pu9 3 49 (bm9 10 15) ?_
 refine pu9 5 51 (bm9 10 47) ?_
 refine pu9 6 52 (bm9 10 111) ?_
 refine pu9 7 53 (bm9 10 239) ?_
 refine tk29 4 50 (bm9 10 255) hHeld ?_
 refine tk29 8 54 (bm9 10 511) hHeld ?_
 refine last_ (i := 9) (N := some 55) (bm9 10 1023) rfl rfl (by kernel_rfl) (by decide) (fun K hK => ?_)
 refine goes_ Try.func29 (by kernel_rfl) rfl #[.pointer (some ⟨B.p, 0, none⟩), .int .i64 (b : Int), .int .i64 (a : Int), .int .i64 (-1)] (by rfl) rfl rfl (by simp only [List.map_toArray, List.map_cons, List.map_nil]; rfl) ?_
 with_reducible refine (enter_calls HZ1d.out b (a : Int) (-1) hbB gna gm (HOKB.out.inn b hbB) (HOKB.out.len b hbB)).mono ?_
 rintro e' w18 ⟨rfl, hA, hF⟩
 refine ⟨_, rfl, ?_⟩
 have HZ2 : Aside0 (AtS w0 w18 B ar (a : Int) (b : Int) (d : Int) (enterS ar (enterS ar (zeroS N) a (-1) (-1)) b (a : Int) (-1))) := ⟨hA⟩
 clear hA hF
 refine hK.out _ _ ?_
 clear hK K
 refine nm9 ?_
 refine done_ (by kernel_rfl) ?_
 clear x3 x4 HZ1 HZ1d
 have x3 : w18.drew.cell? ⟨B.f, 3, none⟩ = some (.int .i64 (a : Int)) := HZ2.out.drew.f3
 have x4 : w18.drew.cell? ⟨B.f, 4, none⟩ = some (.int .i64 (b : Int)) := HZ2.out.drew.f4
 have x5 : w18.drew.cell? ⟨B.f, 5, none⟩ = some (.int .i64 (d : Int)) := HZ2.out.drew.f5
 have HZ2d := Aside0.mk HZ2.out.drew
 go_upto_region 7 with (fail)
 refine start_ (n := 14) (S := fun w' => w'.cell? ⟨B.f, 3, none⟩ = some (.int .i64 (a : Int)) ∧ w'.cell? ⟨B.f, 4, none⟩ = some (.int .i64 (b : Int)) ∧ w'.cell? ⟨B.f, 5, none⟩ = some (.int .i64 (d : Int))) (ds := [13]) (bm9 14 0) (by kernel_rfl) rfl rfl ⟨x3, x4, x5⟩ (fun hHeld => ?_)
 refine pu9 0 56 (bm9 14 1) ?_
 refine pu9 1 57 (bm9 14 3) ?_
 refine pu9 2 58 (bm9 14 7) ?_
 refine pu9 3 59 (bm9 14 15) ?_
 refine pu9 5 61 (bm9 14 47) ?_
 refine pu9 6 62 (bm9 14 111) ?_
 refine pu9 7 63 (bm9 14 239) ?_
 refine pu9 9 65 (bm9 14 751) ?_
 refine pu9 10 66 (bm9 14 1775) ?_
 refine pu9 11 67 (bm9 14 3823) ?_
 refine tk39 4 60 (bm9 14 3839) hHeld ?_
 refine tk39 8 64 (bm9 14 4095) hHeld ?_
 refine tk39 12 68 (bm9 14 8191) hHeld ?_
 refine last_ (i := 13) (N := some 69) (bm9 14 16383) rfl rfl (by kernel_rfl) (by decide) (fun K hK => ?_)
 refine goes_ Try.func29 (by kernel_rfl) rfl #[.pointer (some ⟨B.p, 0, none⟩), .int .i64 (d : Int), .int .i64 (a : Int), .int .i64 (b : Int)] (by rfl) rfl rfl (by simp only [List.map_toArray, List.map_cons, List.map_nil]; rfl) ?_
 with_reducible refine (enter_calls HZ2d.out d (a : Int) (b : Int) hdB gna gnb (HOKB.out.inn d hdB) (HOKB.out.len d hdB)).mono ?_
 rintro e' w19 ⟨rfl, hA, hF⟩
 refine ⟨_, rfl, ?_⟩
 have HZ3 : Aside0 (AtS w0 w19 B ar (a : Int) (b : Int) (d : Int) (startS ar N a b d)) := ⟨hA⟩
 clear hA hF
 refine hK.out _ _ ?_
 clear hK K
 refine nm9 ?_
 refine done_ (by kernel_rfl) ?_
 clear x3 x4 x5 HZ2 HZ2d
 have x0 : w19.cell? ⟨bg, 0, none⟩ = some (.int .i64 (N : Int)) := heap_cell ((HZ3.out.old.block _ (lt_of HXZ.out)).trans HXZ.out) rfl
 go_upto_region 9 with (fail)
 clear x0
 obtain ⟨bo, hbo⟩ : ∃ bo, bo = w19.heap.size := ⟨_, rfl⟩
 obtain ⟨w20, hw20⟩ : ∃ w20, w20 = w19.alloc (.cells (madeCells #[.int .i64 0] N) 3 (0, 0)) := ⟨_, rfl⟩
 have hb20 : Below w19.heap.size w19 w20 := by rw [hw20]; exact (Below.refl _ _).alloc (Nat.le_refl _) _
 have HO : Aside0 (IRow w20 bo (List.replicate N 0)) := ⟨by rw [hw20, hbo, made_int]; exact IRow.start w19 N⟩
 have HZ4 : Aside0 (AtS w0 w20 B ar (a : Int) (b : Int) (d : Int) (startS ar N a b d)) := ⟨HZ3.out.below hb20⟩
 have HBO : Aside0 (bo = w19.heap.size) := ⟨hbo⟩
 have HOB : Aside0 (B.p < bo ∧ ∀ k, Own B k → k < bo) := ⟨by
  rw [hbo]
  refine ⟨lt_of HZ3.out.peel, ?_⟩
  rintro k (rfl | rfl | rfl | rfl)
  ·exact lt_of HZ3.out.s
  ·exact lt_of HZ3.out.x
  ·exact lt_of HZ3.out.v
  ·exact lt_of HZ3.out.e⟩
 rw [← hbo, ← hw20]
 clear hbo hw20 hb20 HZ3 mk1
 have hlen0 : (List.replicate N (0 : Int)).length = N := by simp
 have q0 : 0 < N := by omega
 have q1 : 1 < N := by omega
 have g0 : (0 : Int) < (N : Int) := by omega
 have g1 : (1 : Int) < (N : Int) := by omega
 have HO1 : Aside0 (IRow (w20.setCell ⟨bo, 0, none⟩ (.int .i64 (a : Int))) bo ((List.replicate N 0).set 0 (a : Int))) := ⟨HO.out.put 0 (a : Int)⟩
 have HO1d : Aside0 (IRow (w20.drew.setCell ⟨bo, 0, none⟩ (.int .i64 (a : Int))) bo ((List.replicate N 0).set 0 (a : Int))) := ⟨(show IRow w20.drew bo (List.replicate N 0) from HO.out).put 0 (a : Int)⟩
 have HO2 : Aside0 (IRow ((w20.setCell ⟨bo, 0, none⟩ (.int .i64 (a : Int))).setCell ⟨bo, 1, none⟩ (.int .i64 (b : Int))).drew bo (((List.replicate N 0).set 0 (a : Int)).set 1 (b : Int))) := ⟨HO1.out.put 1 (b : Int)⟩
 have x3 : w20.drew.cell? ⟨B.f, 3, none⟩ = some (.int .i64 (a : Int)) := HZ4.out.drew.f3
 have x4 : w20.drew.cell? ⟨B.f, 4, none⟩ = some (.int .i64 (b : Int)) := HZ4.out.drew.f4
 have y0 : w20.drew.cell? ⟨bo, 0, none⟩ = some (.int .i64 (gi (List.replicate N 0) 0)) := HO.out.cell (i := 0) (by simp; omega)
 have f0 : w20.drew.frozen? ⟨bo, 0, none⟩ = false := HO.out.free 0
 have y1 := HO1.out.cell (i := 1) (by simp; omega)
 have f1 := HO1.out.free 1
 have y2 := HO1d.out.cell (i := 1) (by simp; omega)
 have f2 := HO1d.out.free 1
 have hFO : Mem.Frame (fun k => k = bo) w20 ((w20.setCell ⟨bo, 0, none⟩ (.int .i64 (a : Int))).setCell ⟨bo, 1, none⟩ (.int .i64 (b : Int))).drew := (((Mem.Frame.refl (fun k => k = bo) w20).setCell (S := fun k => k = bo) (p := ⟨bo, 0, none⟩) rfl _).setCell (S := fun k => k = bo) (p := ⟨bo, 1, none⟩) rfl _).trans (Mem.Frame.of_below (S := fun k => k = bo) ((Below.refl _ _).drew))
 have HZ5 : Aside0 (AtS w0 ((w20.setCell ⟨bo, 0, none⟩ (.int .i64 (a : Int))).setCell ⟨bo, 1, none⟩ (.int .i64 (b : Int))).drew B ar (a : Int) (b : Int) (d : Int) (startS ar N a b d)) := ⟨HZ4.out.frame_ hFO (fun k hk => by
  have h1 := HOB.out
  have h2 := HZ4.out.lo B.p (.inl rfl)
  subst hk
  exact ⟨by omega, by omega, fun q => by have := h1.2 _ q; omega⟩)⟩
 clear hlen0 hFO HO1 HO1d
 refine start_ (n := 14) (S := fun w' => w'.cell? ⟨B.f, 3, none⟩ = some (.int .i64 (a : Int)) ∧ w'.cell? ⟨B.f, 4, none⟩ = some (.int .i64 (b : Int))) (ds := [11, 13]) (bm9 14 0) (by kernel_rfl) rfl rfl ⟨x3, x4⟩ (fun hHeld => ?_)
 refine pu9 0 73 (bm9 14 1) ?_
 refine pu9 1 74 (bm9 14 3) ?_
 refine pu9 2 75 (bm9 14 7) ?_
 refine pu9 3 76 (bm9 14 15) ?_
 refine pu9 4 77 (bm9 14 31) ?_
 refine pu9 6 79 (bm9 14 95) ?_
 refine pu9 7 80 (bm9 14 223) ?_
 refine pu9 8 81 (bm9 14 479) ?_
 refine tk29 5 78 (bm9 14 511) hHeld ?_
 refine tk29 9 82 (bm9 14 1023) hHeld ?_
 refine pu9 10 83 (bm9 14 2047) ?_
 refine last_ (i := 11) (N := none) (bm9 14 4095) rfl rfl (by kernel_rfl) (by decide) (fun K hK => ?_)
 refine skip_ (w1 := ?_) (by rfl) rfl ?_ ?_
 rotate_left
 ·go_simp
  rfl
 refine hK.out _ _ ?_
 clear hK K
 refine pu9 12 84 (bm9 14 8191) ?_
 refine last_ (i := 13) (N := none) (bm9 14 16383) rfl rfl (by kernel_rfl) (by decide) (fun K hK => ?_)
 refine skip_ (w1 := ?_) (by rfl) rfl ?_ ?_
 rotate_left
 ·go_simp
  rfl
 refine hK.out _ _ ?_
 clear hK K
 refine done_ (by kernel_rfl) ?_
 clear x3 x4 y0 f0 y1 f1 y2 f2 HZ4 HO
 generalize ((w20.setCell ⟨bo, 0, none⟩ (.int .i64 (a : Int))).setCell ⟨bo, 1, none⟩ (.int .i64 (b : Int))).drew = w21 at HO2 HZ5 ⊢
 obtain ⟨out0, hout0⟩ : ∃ o, o = ((List.replicate N 0).set 0 (a : Int)).set 1 (b : Int) := ⟨_, rfl⟩
 have hrun := HRUN.out
 rw [← hout0] at HO2 hrun
 have HRN := Aside0.mk hrun
 have hlo0 : out0.length = N := by rw [hout0]; simp
 have HLO := Aside0.mk hlo0
 obtain ⟨N1, hN1⟩ : ∃ n, n = N - 1 := ⟨_, rfl⟩
 have HN1 := Aside0.mk hN1
 have m1 : IntKind.i64.wrap ((N : Int) - 1) = (N1 : Int) := by rw [IntWalk.i64_in _ (by omega)]; omega
 have x0 : w21.drew.cell? ⟨bg, 0, none⟩ = some (.int .i64 (N : Int)) := heap_cell ((HZ5.out.old.block _ (lt_of HXZ.out)).trans HXZ.out) rfl
 have x5 : w21.drew.cell? ⟨B.f, 5, none⟩ = some (.int .i64 (d : Int)) := HZ5.out.drew.f5
 clear hrun hout0 HRUN hlo0 hN1
 go_wp2_with fail
 refine start_ (n := 10) (S := fun w' => w'.cell? ⟨bg, 0, none⟩ = some (.int .i64 (N : Int)) ∧ w'.cell? ⟨B.f, 5, none⟩ = some (.int .i64 (d : Int))) (ds := [9]) (bm9 10 0) (by kernel_rfl) rfl rfl ⟨x0, x5⟩ (fun hHeld => ?_)
 refine pu9 0 85 (bm9 10 1) ?_
 refine pu9 3 88 (bm9 10 9) ?_
 refine pu9 4 89 (bm9 10 25) ?_
 refine pu9 5 90 (bm9 10 57) ?_
 refine tk29 1 86 (bm9 10 59) hHeld ?_
 refine pu9 2 87 (bm9 10 63) ?_
 refine pu9 8 12 (bm9 10 319) ?_
 refine tk29 6 91 (bm9 10 383) hHeld ?_
 refine one_ (i := 7) (N := some 92) (bm9 10 511) rfl rfl (by kernel_rfl) (by decide) (fun K hK => ?_)
 refine va9 ?_
 refine hK.out _ _ ⟨(World.cell?_alloc_lt _ _ _ (World.block_lt_of_cell? _ _ hHeld.1)).trans hHeld.1, (World.cell?_alloc_lt _ _ _ (World.block_lt_of_cell? _ _ hHeld.2)).trans hHeld.2⟩ (fun hHeld => ?_)
 clear hK K
 refine nm9 ?_
 refine pu9 9 13 (bm9 10 1023) ?_
 refine done_ (by kernel_rfl) ?_
 clear x0 x5 m1
 obtain ⟨bm, hbm⟩ : ∃ bm, bm = w21.heap.size := ⟨_, rfl⟩
 obtain ⟨w22, hw22⟩ : ∃ w22, w22 = (w21.alloc (.cells #[.int .i64 (d : Int)] 3 (0, 0))).drew := ⟨_, rfl⟩
 have hb22 : Below w21.heap.size w21 w22 := by rw [hw22]; exact ((Below.refl _ _).alloc (Nat.le_refl _) _).drew
 have hMr : IRow w22 bm [(d : Int)] := by rw [hw22, hbm]; exact heap_last w21 _
 have HZ6 : Aside0 (AtS w0 w22 B ar (a : Int) (b : Int) (d : Int) (startS ar N a b d)) := ⟨HZ5.out.below hb22⟩
 have hbob : bo < bm := by rw [hbm]; exact lt_of HO2.out
 have hwbo : w.heap.size ≤ bo := by
  have h1 := HBZ.out.size
  have h2 := HOB.out.1
  have h3 := HZ6.out.lo B.p (.inl rfl)
  omega
 have HM6 : Aside0 (Kd.R (Kd.int .i64) 3 w22 w.heap.size (fun k => bo < k) (.slice (some ⟨bm, 0, none⟩) 1 1) [(d : Int)]) := ⟨hMr.own (by omega) (by simp) hbob⟩
 have HO6 : Aside0 (IRow w22 bo out0) := ⟨(hb22.block _ (lt_of HO2.out)).trans HO2.out⟩
 have HI6 : Aside0 (ofLoop ar N a b f (startS ar N a b d) out0 N1 [(d : Int)] = some out ∧ N1 < N ∧ 1 = [(d : Int)].length ∧ out0.length = N ∧ 1 ≤ 1000000000000) := ⟨⟨by rw [HN1.out]; exact HRN.out, by have := HN1.out; omega, rfl, HLO.out, by omega⟩⟩
 have HWB := Aside0.mk hwbo
 rw [← hbm, ← hw22]
 clear hbm hw22 hb22 hMr hbob hwbo HZ5 HO2 HRN HLO HN1 HBO
 go_wp2_with fail
 go_loopw [12, 13] (fun y u ws => ∃ (f' at_ M : Nat) (Am : Option Addr) (cm : Nat) (z : Sta) (o may : List Int), y = .int .i64 (at_ : Int) ∧ u = .slice Am M cm ∧ Aside0 (ofLoop ar N a b f' z o at_ may = some out ∧ at_ < N ∧ M = may.length ∧ o.length = N ∧ M ≤ 1000000000000) ∧ Aside0 (AtS w0 ws B ar (a : Int) (b : Int) (d : Int) z) ∧ Aside0 (IRow ws bo o) ∧ Aside0 (Kd.R (Kd.int .i64) 3 ws w.heap.size (fun k => bo < k) (.slice Am M cm) may)) (fun y u _ => (intOf y).toNat * 2000000000000 + slLen u)
 case atStart => exact ⟨f, N1, 1, _, 1, _, out0, _, rfl, rfl, HI6, HZ6, HO6, HM6⟩
 case round =>
  clear HI6 HZ6 HO6 HM6
  obtain ⟨f', at_, M, Am, cm, z, o, may, rfl, rfl, HI, HZ, HO, HM⟩ := hrel
  obtain ⟨hrun, hatN, hML, hoL, hMb⟩ := HI.out
  cases f' with
  | zero => cases hrun
  | succ f1 =>
  by_cases c1 : 0 < may.length ∧ 1 < at_
  rotate_left
  ·have e1 : o = out := by
    unfold ofLoop at hrun
    rw [if_neg c1] at hrun
    exact Option.some.inj hrun
   subst e1
   have HFIN : Aside0 (Kd.R (Kd.int .i64) 3 wr w.heap.size (fun _ => True) (.slice (some ⟨bo, 0, none⟩) N N) o) := ⟨by
    have h := HO.out.own (base := w.heap.size) (ok := fun _ => True) HWB.out (by rw [hoL]; omega) trivial
    rw [hoL] at h
    exact h⟩
   have HBF : Aside0 (Below w.heap.size w wr) := ⟨HBZ.out.trans (HZ.out.old.mono HBZ.out.size)⟩
   by_cases c2 : 0 < may.length
   ·have c3 : ¬ 1 < at_ := fun q => c1 ⟨c2, q⟩
    have t1 : decide ((M : Int) > 0) = true := decide_eq_true (by omega)
    have t2 : decide ((0 : Int) < (M : Int)) = true := decide_eq_true (by omega)
    have t3 : decide ((at_ : Int) > 1) = false := decide_eq_false (by omega)
    have t4 : decide ((1 : Int) < (at_ : Int)) = false := decide_eq_false (by omega)
    have t5 : 0 < M := by omega
    clear hrun hML hoL c1 c2 HI
    go_wp2_with fail
    go_ret2
    exact ⟨.slice (some ⟨bo, 0, none⟩) N N, by simp, HFIN.out, HBF.out⟩
   ·have t1 : decide ((M : Int) > 0) = false := decide_eq_false (by omega)
    have t2 : decide ((0 : Int) < (M : Int)) = false := decide_eq_false (by omega)
    have t5 : ¬ 0 < M := by omega
    clear hrun hML hoL c1 c2 HI
    go_wp2_with fail
    go_ret2
    exact ⟨.slice (some ⟨bo, 0, none⟩) N N, by simp, HFIN.out, HBF.out⟩
  unfold ofLoop at hrun
  rw [if_pos c1] at hrun
  by_cases c2 : 0 ≤ gi may (may.length - 1) ∧ gi may (may.length - 1) < (N : Int)
  rotate_left
  ·rw [if_neg c2] at hrun; cases hrun
  rw [if_pos c2] at hrun
  obtain ⟨u, hu⟩ := Int.eq_ofNat_of_zero_le c2.1
  have hun : u < N := by omega
  have hunB : u < B.N := by omega
  rw [hu, Int.toNat_natCast, ← hML] at hrun
  have HRN := Aside0.mk hrun
  obtain ⟨adm, eM, z1⟩ := Kd.at_int (Kd.R_reads' HM.out).2.2 ((M - 1 : Nat) : Int) (by omega) (by omega)
  subst eM
  obtain ⟨gm_, rfl⟩ := Kd.R_head HM.out
  rw [gi_rd, Int.toNat_natCast, add_plain, hML, hu, ← hML] at z1
  have hcm := (Kd.R_reads' HM.out).2.1
  obtain ⟨M1, hM1⟩ : ∃ n, n = M - 1 := ⟨_, rfl⟩
  rw [← hM1] at z1
  have HM1 := Aside0.mk hM1
  have HML := Aside0.mk hML
  have HOL := Aside0.mk hoL
  have HU := Aside0.mk hu
  have hMp : 0 < M := by omega
  have ha1 : 1 < at_ := c1.2
  have t1 : decide ((M : Int) > 0) = true := decide_eq_true (by omega)
  have t2 : decide ((0 : Int) < (M : Int)) = true := decide_eq_true (by omega)
  have t3 : decide ((at_ : Int) > 1) = true := decide_eq_true (by omega)
  have t4 : decide ((1 : Int) < (at_ : Int)) = true := decide_eq_true (by omega)
  have m1 : IntKind.i64.wrap ((M : Int) - 1) = (M1 : Int) := by rw [IntWalk.i64_in _ (by omega)]; omega
  have gM : (M1 : Int) < (M : Int) := by omega
  have q1 := cut_ints gm_ M cm M1 (by omega)
  have hM1c : M1 ≤ cm := by omega
  clear hrun hML hoL c1 c2 hM1 hu HI
  go_wp2_with fail
  clear z1 t1 t2 t3 t4 m1 gM q1
  refine (may_calls HZ.out u hunB).mono ?_
  rintro e' wy ⟨rfl, rfl⟩
  have HTK : Aside0 (may.take M1 = may.take (M - 1)) := ⟨by rw [HM1.out]⟩
  have HLT : Aside0 ((may.take M1).length = M1) := ⟨by have := HM1.out; have := HML.out; rw [List.length_take]; omega⟩
  have HMT : Aside0 (Kd.R (Kd.int .i64) 3 wr w.heap.size (fun k => bo < k) (.slice (some ⟨gm_, 0, none⟩) M1 cm) (may.take M1)) := ⟨Kd.R_take HM.out (by have := HM1.out; have := HML.out; omega)⟩
  cases hmay : mayB (a : Int) (b : Int) z.s z.e u with
  | false =>
   have hr := HRN.out
   rw [if_pos hmay] at hr
   have HI2 : Aside0 (ofLoop ar N a b f1 z o at_ (may.take M1) = some out ∧ at_ < N ∧ M1 = (may.take M1).length ∧ o.length = N ∧ M1 ≤ 1000000000000) := ⟨⟨by rw [HTK.out]; exact hr, hatN, HLT.out.symm, HOL.out, by have := HM1.out; omega⟩⟩
   have hMM : M1 < M := by have := HM1.out; omega
   clear hr hmay HRN HM
   go_wp2_with fail
   go_roundw
   case rel => exact ⟨f1, at_, M1, _, cm, z, o, _, rfl, rfl, HI2, HZ, HO, HMT⟩
   case measure => simp [intOf, slLen]; omega
  | true =>
  have hr := HRN.out
  rw [if_neg (by rw [hmay]; decide)] at hr
  by_cases c3 : gi z.v u ∈ flt z.s (gl ar u) (gl ar u).length ∧ M + (takeT ar z u).length ≤ 1000000000000
  rotate_left
  ·rw [if_neg c3] at hr; cases hr
  rw [if_pos c3] at hr
  have HRN2 := Aside0.mk hr
  have HX3 := Aside0.mk c3.1
  have hTL := c3.2
  clear hr c3 HRN hmay
  have y1 := HO.out.cell (i := at_) (by rw [HOL.out]; exact hatN)
  have f1' := HO.out.free at_
  have gat : (at_ : Int) < (N : Int) := by omega
  obtain ⟨at1, hat1⟩ : ∃ n, n = at_ - 1 := ⟨_, rfl⟩
  have HAT1 := Aside0.mk hat1
  have m2 : IntKind.i64.wrap ((at_ : Int) - 1) = (at1 : Int) := by rw [IntWalk.i64_in _ (by omega)]; omega
  obtain ⟨w23, hw23⟩ : ∃ w23, w23 = wr.setCell ⟨bo, at_, none⟩ (.int .i64 (u : Int)) := ⟨_, rfl⟩
  have hF23 : Mem.Frame (fun k => k = bo) wr w23 := by rw [hw23]; exact (Mem.Frame.refl (fun k => k = bo) wr).setCell (S := fun k => k = bo) (p := ⟨bo, at_, none⟩) rfl _
  have HZ2 : Aside0 (AtS w0 w23 B ar (a : Int) (b : Int) (d : Int) z) := ⟨HZ.out.frame_ hF23 (fun k hk => by
   have h1 := HOB.out
   have h2 := HZ.out.lo B.p (.inl rfl)
   subst hk
   exact ⟨by omega, by omega, fun q => by have := h1.2 _ q; omega⟩)⟩
  have HO2 : Aside0 (IRow w23 bo (o.set at_ (u : Int))) := ⟨by rw [hw23]; exact HO.out.put at_ (u : Int)⟩
  have HM2 : Aside0 (Kd.R (Kd.int .i64) 3 w23 w.heap.size (fun k => bo < k) (.slice (some ⟨gm_, 0, none⟩) M1 cm) (may.take M1)) := ⟨Kd.R_step HMT.out (fun k hk hlt => hF23.block k hlt (by omega))⟩
  clear hat1 hF23 HZ HO HM HMT
  go_upto_region 17 with (fail)
  clear y1 f1' gat m2
  rw [← hw23]
  clear hw23
  go_wp2_with fail
  refine (take_calls HZ2.out HOKB.out u hunB HX3.out).mono ?_
  rintro e' w24 ⟨uT, rfl, hZ, hT, hF⟩
  obtain ⟨AT, cT, rfl, hcT, hTC⟩ := Kd.R_reads hT
  have HZ3 := Aside0.mk hZ
  have HTC := Aside0.mk hTC
  have HO3 : Aside0 (IRow w24 bo (o.set at_ (u : Int))) := ⟨HO2.out.frame hF (fun q => by have := HOB.out.2 _ q; omega)⟩
  have HM3 : Aside0 (Kd.R (Kd.int .i64) 3 w24 w.heap.size (fun k => bo < k) (.slice (some ⟨gm_, 0, none⟩) M1 cm) (may.take M1)) := ⟨Kd.R_step HM2.out (fun k hk hlt => hF.block k hlt (fun q => by have := HOB.out.2 _ q; omega))⟩
  have HBW : Aside0 (Below w.heap.size w w24) := ⟨HBZ.out.trans (hZ.old.mono HBZ.out.size)⟩
  have HSZ : Aside0 (w.heap.size ≤ w24.heap.size) := ⟨HBW.out.size⟩
  have HLB : Aside0 (((may.take M1).length + (takeT ar z u).length) * 8 ≤ 140737488355328) := ⟨by have := HLT.out; have := HM1.out; omega⟩
  have HFR : Aside0 (∀ k, w24.heap.size ≤ k → bo < k) := ⟨fun k hk => Nat.lt_of_lt_of_le (lt_of HO3.out) hk⟩
  clear hZ hT hF hcT hTC HZ2 HO2 HM2
  go_wp2_with (at_builtin; go_loud (refine Kd.R_append_rows (Kd.int .i64) (Rr := (Kd.int .i64).K w24) (w0 := w) (W := w24) w.heap.size rfl _ _ 27 3 (.int .i64 0) 8 rfl Try.underlying27 info_int rfl (by decide) (by decide) (.slice (some ⟨gm_, 0, none⟩) M1 cm) (may.take M1) (takeT ar z u) AT (takeT ar z u).length cT (fun k => bo < k) (fun _ => False) rfl rfl HM3.out HTC.out (fun _ _ h => h) (fun _ h => h.elim) HFR.out HBW.out HSZ.out HLB.out ?_))
  intro v25 w25 hR hb25 hg25 hat25
  clear hat25 hb25
  have hFG : Mem.Frame (fun k => bo < k) w24 w25 := ⟨hg25.os, hg25.tape, hg25.output, hg25.size, fun k hk hs => hg25.block k hk (fun e => hs (HM3.out.1 k e.symm))⟩
  have HZ4 : Aside0 (AtS w0 w25 B ar (a : Int) (b : Int) (d : Int) (takeS ar z u)) := ⟨HZ3.out.frame_ hFG (fun k hk => by
   have h1 := HOB.out
   have h2 := HZ3.out.lo B.p (.inl rfl)
   have hk' : bo < k := hk
   exact ⟨by omega, by omega, fun q => by have := h1.2 _ q; omega⟩)⟩
  have HO4 : Aside0 (IRow w25 bo (o.set at_ (u : Int))) := ⟨HO3.out.frame hFG (Nat.lt_irrefl _)⟩
  obtain ⟨A25, c25, rfl⟩ := Kd.R_slice hR
  obtain ⟨may2, hmay2⟩ : ∃ m, m = may.take M1 ++ takeT ar z u := ⟨_, rfl⟩
  rw [← hmay2] at hR ⊢
  obtain ⟨M2, hM2⟩ : ∃ n, n = may2.length := ⟨_, rfl⟩
  rw [← hM2] at hR ⊢
  have HM4 := Aside0.mk hR
  have hM2b : M2 < 1000000000000 := by
   rw [hM2, hmay2, List.length_append, HLT.out]
   have := HM1.out
   omega
  have HI4 : Aside0 (ofLoop ar N a b f1 (takeS ar z u) (o.set at_ (u : Int)) at1 may2 = some out ∧ at1 < N ∧ M2 = may2.length ∧ (o.set at_ (u : Int)).length = N ∧ M2 ≤ 1000000000000) := ⟨⟨by
   have h := HRN2.out
   rw [← HTK.out, ← hmay2, ← HAT1.out] at h
   exact h, by have := HAT1.out; omega, hM2, by rw [List.length_set]; exact HOL.out, by omega⟩⟩
  have hat1l : at1 < at_ := by have := HAT1.out; omega
  clear hR hg25 hFG hmay2 hM2 HM3 HZ3 HO3 HTC HLB HFR HBW HSZ HX3 HRN2
  go_wp2_with fail
  go_roundw
  case rel => exact ⟨f1, at1, M2, A25, c25, _, _, may2, by first | rfl | go_num, rfl, HI4, HZ4, HO4, HM4⟩
  case measure => simp [intOf, slLen]; omega
end Peel
namespace Peel
open GAll Mem
def covErr : Option (List (List Int)) → Int
 | none => 2
 | some _ => 0
section
variable (k : Nat) (n : Int) (A : Option Addr) (c : Nat) (l : List Eg) (A1 : Option Addr) (c1 : Nat) (r : List (List Int)) (root : Int) (w : World) (hr : Kd.C kE w A l.length l) (hc : l.length ≤ c) (hr1 : Kd.C KR w A1 r.length r) (hc1 : r.length ≤ c1) (hll : l.length ≤ 8796093022208) (e : Int) (ar : List (List Int)) (a b d : Int) (h : lookF k n l r root = some (e, ar, a, b, d)) (he : e ≠ 0)
include hr hc hr1 hc1 hll h he
theorem of_err : Calls Try.prog 16 #[.agg #[.int .i64 n, .slice A l.length c], .slice A1 r.length c1, .int .i64 root] w fun e' w' => e' = .returned (.tuple #[.slice none 0 0, .int .i64 e]) ∧ Below w.heap.size w w' := by
 have HX := Aside0.mk (heap_last w (.cells #[.int .i64 n, .slice A l.length c] 24 (0, 0)))
 have HB : Aside0 (Below w.heap.size w (w.alloc (.cells #[.int .i64 n, .slice A l.length c] 24 (0, 0)))) := ⟨(Below.refl _ _).alloc (Nat.le_refl _) _⟩
 have HRR := Aside0.mk hr
 have HR1 := Aside0.mk hr1
 have HCC := Aside0.mk hc
 have HCC1 := Aside0.mk hc1
 have HLK := Aside0.mk h
 clear hr hr1 hc hc1 h
 have x0 : (w.alloc (.cells #[.int .i64 n, .slice A l.length c] 24 (0, 0))).cell? ⟨w.heap.size, 0, none⟩ = some (.int .i64 n) := heap_cell HX.out rfl
 have x1 : (w.alloc (.cells #[.int .i64 n, .slice A l.length c] 24 (0, 0))).cell? ⟨w.heap.size, 1, none⟩ = some (.slice A l.length c) := heap_cell HX.out rfl
 go_enter Try.func16, Try.ntmps16
 go_wp2_with fail
 clear x0 x1
 refine (look_calls k n A c l A1 c1 r root _ (Kd.C_below HRR.out HB.out) HCC.out (Kd.C_below HR1.out HB.out) HCC1.out hll _ HLK.out).mono ?_
 rintro e' w1 ⟨hbl, hp⟩
 have HB1 := Aside0.mk (HB.out.trans (hbl.mono HB.out.size))
 rw [if_neg he] at hp
 simp only at hp
 subst hp
 have t1 : (e != 0) = true := bne_iff_ne.2 he
 clear hbl he
 go_wp2_with fail
 go_ret2
 exact ⟨by simp, HB1.out⟩
theorem valid_err (V : Value) : Calls Try.prog 17 #[.agg #[.int .i64 n, .slice A l.length c], .slice A1 r.length c1, .int .i64 root, V] w fun e' w' => e' = .returned (.tuple #[.bool false, .int .i64 e]) ∧ Below w.heap.size w w' := by
 have HX := Aside0.mk (heap_last w (.cells #[.int .i64 n, .slice A l.length c] 24 (0, 0)))
 have HB : Aside0 (Below w.heap.size w (w.alloc (.cells #[.int .i64 n, .slice A l.length c] 24 (0, 0)))) := ⟨(Below.refl _ _).alloc (Nat.le_refl _) _⟩
 have HRR := Aside0.mk hr
 have HR1 := Aside0.mk hr1
 have HCC := Aside0.mk hc
 have HCC1 := Aside0.mk hc1
 have HLK := Aside0.mk h
 clear hr hr1 hc hc1 h
 have x0 : (w.alloc (.cells #[.int .i64 n, .slice A l.length c] 24 (0, 0))).cell? ⟨w.heap.size, 0, none⟩ = some (.int .i64 n) := heap_cell HX.out rfl
 have x1 : (w.alloc (.cells #[.int .i64 n, .slice A l.length c] 24 (0, 0))).cell? ⟨w.heap.size, 1, none⟩ = some (.slice A l.length c) := heap_cell HX.out rfl
 go_enter Try.func17, Try.ntmps17
 go_wp2_with fail
 clear x0 x1
 refine (look_calls k n A c l A1 c1 r root _ (Kd.C_below HRR.out HB.out) HCC.out (Kd.C_below HR1.out HB.out) HCC1.out hll _ HLK.out).mono ?_
 rintro e' w1 ⟨hbl, hp⟩
 have HB1 := Aside0.mk (HB.out.trans (hbl.mono HB.out.size))
 rw [if_neg he] at hp
 simp only at hp
 subst hp
 have t1 : (e != 0) = true := bne_iff_ne.2 he
 clear hbl he
 go_wp2_with fail
 go_ret2
 exact ⟨by simp, HB1.out⟩
theorem covers_err (V : Value) : Calls Try.prog 18 #[.agg #[.int .i64 n, .slice A l.length c], .slice A1 r.length c1, .int .i64 root, V] w fun e' w' => e' = .returned (.tuple #[.slice none 0 0, .int .i64 e]) ∧ Below w.heap.size w w' := by
 have HX := Aside0.mk (heap_last w (.cells #[.int .i64 n, .slice A l.length c] 24 (0, 0)))
 have HB : Aside0 (Below w.heap.size w (w.alloc (.cells #[.int .i64 n, .slice A l.length c] 24 (0, 0)))) := ⟨(Below.refl _ _).alloc (Nat.le_refl _) _⟩
 have HRR := Aside0.mk hr
 have HR1 := Aside0.mk hr1
 have HCC := Aside0.mk hc
 have HCC1 := Aside0.mk hc1
 have HLK := Aside0.mk h
 clear hr hr1 hc hc1 h
 have x0 : (w.alloc (.cells #[.int .i64 n, .slice A l.length c] 24 (0, 0))).cell? ⟨w.heap.size, 0, none⟩ = some (.int .i64 n) := heap_cell HX.out rfl
 have x1 : (w.alloc (.cells #[.int .i64 n, .slice A l.length c] 24 (0, 0))).cell? ⟨w.heap.size, 1, none⟩ = some (.slice A l.length c) := heap_cell HX.out rfl
 go_enter Try.func18, Try.ntmps18
 go_wp2_with fail
 clear x0 x1
 refine (look_calls k n A c l A1 c1 r root _ (Kd.C_below HRR.out HB.out) HCC.out (Kd.C_below HR1.out HB.out) HCC1.out hll _ HLK.out).mono ?_
 rintro e' w1 ⟨hbl, hp⟩
 have HB1 := Aside0.mk (HB.out.trans (hbl.mono HB.out.size))
 rw [if_neg he] at hp
 simp only at hp
 subst hp
 have t1 : (e != 0) = true := bne_iff_ne.2 he
 clear hbl he
 go_wp2_with fail
 go_ret2
 exact ⟨by simp, HB1.out⟩
end
section
variable (k N : Nat) (A : Option Addr) (c : Nat) (l : List Eg) (A1 : Option Addr) (c1 : Nat) (r : List (List Int)) (root : Int) (w : World) (hr : Kd.C kE w A l.length l) (hc : l.length ≤ c) (hr1 : Kd.C KR w A1 r.length r) (hc1 : r.length ≤ c1) (hll : l.length ≤ 8796093022208) (ar : List (List Int)) (a b d : Int) (h : lookF k (N : Int) l r root = some (0, ar, a, b, d))
 (hal : ar.length = N) (hok : Ok N ar) (ha : 0 ≤ a ∧ a < (N : Int)) (hb : 0 ≤ b ∧ b < (N : Int)) (h3 : 3 ≤ N) (Al : Option Addr) (cl : Nat) (ol : List Int) (hl : Kd.C (Kd.int .i64) w Al ol.length ol) (hlc : ol.length ≤ cl)
include hr hc hr1 hc1 hll h hal hok ha hb h3 hl hlc
theorem valid_calls : Calls Try.prog 17 #[.agg #[.int .i64 (N : Int), .slice A l.length c], .slice A1 r.length c1, .int .i64 root, .slice Al ol.length cl] w fun e' w' => e' = .returned (.tuple #[.bool (coversF N ar a b d ol).isSome, .int .i64 0]) ∧ Below w.heap.size w w' := by
 have HAL := Aside0.mk hal
 have HOK := Aside0.mk hok
 have HLL := Aside0.mk hl
 clear hal hok hl
 have HX := Aside0.mk (heap_last w (.cells #[.int .i64 (N : Int), .slice A l.length c] 24 (0, 0)))
 have HB : Aside0 (Below w.heap.size w (w.alloc (.cells #[.int .i64 (N : Int), .slice A l.length c] 24 (0, 0)))) := ⟨(Below.refl _ _).alloc (Nat.le_refl _) _⟩
 have HRR := Aside0.mk hr
 have HR1 := Aside0.mk hr1
 have HCC := Aside0.mk hc
 have HCC1 := Aside0.mk hc1
 have HLK := Aside0.mk h
 clear hr hr1 hc hc1 h
 have x0 : (w.alloc (.cells #[.int .i64 (N : Int), .slice A l.length c] 24 (0, 0))).cell? ⟨w.heap.size, 0, none⟩ = some (.int .i64 (N : Int)) := heap_cell HX.out rfl
 have x1 : (w.alloc (.cells #[.int .i64 (N : Int), .slice A l.length c] 24 (0, 0))).cell? ⟨w.heap.size, 1, none⟩ = some (.slice A l.length c) := heap_cell HX.out rfl
 go_enter Try.func17, Try.ntmps17
 go_wp2_with fail
 clear x0 x1
 refine (look_calls k (N : Int) A c l A1 c1 r root _ (Kd.C_below HRR.out HB.out) HCC.out (Kd.C_below HR1.out HB.out) HCC1.out hll _ HLK.out).mono ?_
 rintro e' w1 ⟨hbl, hp⟩
 have HB1 := Aside0.mk (HB.out.trans (hbl.mono HB.out.size))
 rw [if_pos rfl] at hp
 obtain ⟨bf, Ar, cA, rfl, hF, hAR, hbf⟩ := hp
 simp only at hF hAR
 rw [HAL.out] at hF
 have HF := Aside0.mk hF
 have HAR := Aside0.mk hAR
 have HL1 := Aside0.mk (Kd.C_below HLL.out HB1.out)
 have t1 : ((0 : Int) != 0) = false := rfl
 clear hF hAR hbf hbl
 go_wp2_with fail
 refine (covers_calls HF.out HAR.out HAL.out HOK.out h3 ha hb Al cl ol HL1.out hlc _ rfl).mono ?_
 rintro e' w2 hpost
 obtain ⟨res, hres⟩ : ∃ res, res = coversF N ar a b d ol := ⟨_, rfl⟩
 rw [← hres] at hpost
 have HCV := Aside0.mk hres
 clear hres
 cases res with
 | none =>
  obtain ⟨rfl, hb2⟩ := hpost
  have HB2 := Aside0.mk (HB1.out.trans (hb2.mono HB1.out.size))
  clear hb2
  go_wp2_with fail
  go_ret2
  rw [← HCV.out]
  exact ⟨by simp, HB2.out⟩
 | some out =>
  obtain ⟨u, rfl, _, hb2⟩ := hpost
  have HB2 := Aside0.mk (HB1.out.trans (hb2.mono HB1.out.size))
  clear hb2
  go_wp2_with fail
  go_ret2
  rw [← HCV.out]
  exact ⟨by simp, HB2.out⟩
theorem cov_calls : Calls Try.prog 18 #[.agg #[.int .i64 (N : Int), .slice A l.length c], .slice A1 r.length c1, .int .i64 root, .slice Al ol.length cl] w fun e' w' => ∃ u, e' = .returned (.tuple #[u, .int .i64 (covErr (coversF N ar a b d ol))]) ∧ Kd.S KR 27 w' w.heap.size (fun _ => True) u ((coversF N ar a b d ol).getD []) ∧ Below w.heap.size w w' := by
 have HAL := Aside0.mk hal
 have HOK := Aside0.mk hok
 have HLL := Aside0.mk hl
 clear hal hok hl
 have HX := Aside0.mk (heap_last w (.cells #[.int .i64 (N : Int), .slice A l.length c] 24 (0, 0)))
 have HB : Aside0 (Below w.heap.size w (w.alloc (.cells #[.int .i64 (N : Int), .slice A l.length c] 24 (0, 0)))) := ⟨(Below.refl _ _).alloc (Nat.le_refl _) _⟩
 have HRR := Aside0.mk hr
 have HR1 := Aside0.mk hr1
 have HCC := Aside0.mk hc
 have HCC1 := Aside0.mk hc1
 have HLK := Aside0.mk h
 clear hr hr1 hc hc1 h
 have x0 : (w.alloc (.cells #[.int .i64 (N : Int), .slice A l.length c] 24 (0, 0))).cell? ⟨w.heap.size, 0, none⟩ = some (.int .i64 (N : Int)) := heap_cell HX.out rfl
 have x1 : (w.alloc (.cells #[.int .i64 (N : Int), .slice A l.length c] 24 (0, 0))).cell? ⟨w.heap.size, 1, none⟩ = some (.slice A l.length c) := heap_cell HX.out rfl
 go_enter Try.func18, Try.ntmps18
 go_wp2_with fail
 clear x0 x1
 refine (look_calls k (N : Int) A c l A1 c1 r root _ (Kd.C_below HRR.out HB.out) HCC.out (Kd.C_below HR1.out HB.out) HCC1.out hll _ HLK.out).mono ?_
 rintro e' w1 ⟨hbl, hp⟩
 have HB1 := Aside0.mk (HB.out.trans (hbl.mono HB.out.size))
 rw [if_pos rfl] at hp
 obtain ⟨bf, Ar, cA, rfl, hF, hAR, hbf⟩ := hp
 simp only at hF hAR
 rw [HAL.out] at hF
 have HF := Aside0.mk hF
 have HAR := Aside0.mk hAR
 have HL1 := Aside0.mk (Kd.C_below HLL.out HB1.out)
 have t1 : ((0 : Int) != 0) = false := rfl
 clear hF hAR hbf hbl
 go_wp2_with fail
 refine (covers_calls HF.out HAR.out HAL.out HOK.out h3 ha hb Al cl ol HL1.out hlc _ rfl).mono ?_
 rintro e' w2 hpost
 obtain ⟨res, hres⟩ : ∃ res, res = coversF N ar a b d ol := ⟨_, rfl⟩
 rw [← hres] at hpost
 have HCV := Aside0.mk hres
 clear hres
 cases res with
 | none =>
  obtain ⟨rfl, hb2⟩ := hpost
  have HB2 := Aside0.mk (HB1.out.trans (hb2.mono HB1.out.size))
  have HS : Aside0 (Kd.S KR 27 w2 w.heap.size (fun _ => True) (.slice none 0 0) []) := ⟨Kd.S_nil _ _ _ _ _⟩
  clear hb2
  go_wp2_with fail
  go_ret2
  rw [← HCV.out]
  exact ⟨.slice none 0 0, by simp [covErr], HS.out, HB2.out⟩
 | some out =>
  obtain ⟨u, rfl, hS, hb2⟩ := hpost
  have HB2 := Aside0.mk (HB1.out.trans (hb2.mono HB1.out.size))
  have HS := Aside0.mk (Kd.S_lower hS HB1.out.size)
  clear hb2 hS
  go_wp2_with fail
  go_ret2
  rw [← HCV.out]
  exact ⟨u, by simp [covErr], HS.out, HB2.out⟩
end
def goodT (n : Int) (ar : List (List Int)) (a b d : Int) : Bool := decide (3 ≤ n ∧ n ≤ 1048576 ∧ (ar.length : Int) = n ∧ (0 ≤ a ∧ a < n) ∧ (0 ≤ b ∧ b < n) ∧ 0 ≤ d ∧ d < n) && ar.all fun row => decide (row.length ≤ 1048576) && row.all fun x => decide (0 ≤ x ∧ x < n)
theorem goodT_iff {n : Int} {ar : List (List Int)} {a b d : Int} (h : goodT n ar a b d = true) : ∃ N : Nat, n = (N : Int) ∧ 3 ≤ N ∧ ar.length = N ∧ (0 ≤ a ∧ a < (N : Int)) ∧ (0 ≤ b ∧ b < (N : Int)) ∧ (0 ≤ d ∧ d < (N : Int)) ∧ Ok N ar := by
 unfold goodT at h
 rw [Bool.and_eq_true, decide_eq_true_eq, List.all_eq_true] at h
 obtain ⟨⟨h1, h2, h3, h4, h5, h6⟩, h7⟩ := h
 obtain ⟨N, rfl⟩ := Int.eq_ofNat_of_zero_le (show 0 ≤ n by omega)
 have hm : ∀ v, v < N → gl ar v ∈ ar := fun v hv => by
  unfold gl
  rw [List.getD_eq_getElem?_getD, List.getElem?_eq_getElem (by omega)]
  exact List.getElem_mem _
 refine ⟨N, rfl, by omega, by omega, h4, h5, h6, fun v hv j hj => ?_, fun v hv => ?_, by omega⟩
 ·have h8 := h7 _ (hm v hv)
  rw [Bool.and_eq_true, List.all_eq_true] at h8
  have h9 : gi (gl ar v) j ∈ gl ar v := by
   unfold gi
   rw [List.getD_eq_getElem?_getD, List.getElem?_eq_getElem hj]
   exact List.getElem_mem hj
  exact of_decide_eq_true (h8.2 _ h9)
 ·have h8 := h7 _ (hm v hv)
  rw [Bool.and_eq_true, decide_eq_true_eq] at h8
  exact h8.1
theorem goodT_of {N : Nat} {ar : List (List Int)} {a b d : Int} (h3 : 3 ≤ N) (hl : ar.length = N) (ha : 0 ≤ a ∧ a < (N : Int)) (hb : 0 ≤ b ∧ b < (N : Int)) (hd : 0 ≤ d ∧ d < (N : Int)) (hok : Ok N ar) : goodT (N : Int) ar a b d = true := by
 unfold goodT
 rw [Bool.and_eq_true, decide_eq_true_eq, List.all_eq_true]
 have := hok.hN
 refine ⟨⟨by omega, by omega, by omega, ha, hb, hd⟩, fun row hrow => ?_⟩
 obtain ⟨v, hv, rfl⟩ := List.getElem_of_mem hrow
 have e : gl ar v = ar[v] := by unfold gl; rw [List.getD_eq_getElem?_getD, List.getElem?_eq_getElem hv]; rfl
 rw [Bool.and_eq_true, decide_eq_true_eq, List.all_eq_true, ← e]
 refine ⟨hok.short v (by omega), fun x hx => ?_⟩
 obtain ⟨j, hj, rfl⟩ := List.getElem_of_mem hx
 have h2 := hok.inn v (by omega) j hj
 have e2 : gi (gl ar v) j = (gl ar v)[j] := by unfold gi; rw [List.getD_eq_getElem?_getD, List.getElem?_eq_getElem hj]; rfl
 rw [e2] at h2
 exact decide_eq_true h2
theorem look_mono (k : Nat) (n : Int) (l : List Eg) (r : List (List Int)) (root : Int) : LeO (lookF k n l r root) (lookF (k + 1) n l r root) := by
 unfold lookF
 refine LeO.bind (rot_Check.mono _ _ _ _) (fun t => LeO.ite (LeO.refl _) ?_)
 refine LeO.bind (faces_Flat.mono _ _ _ _) (fun t => LeO.ite (LeO.refl _) (LeO.ite (LeO.refl _) (LeO.ite (LeO.refl _) ?_)))
 refine LeO.bind (tri_Full.mono _ _ _ _) (fun t => LeO.ite (LeO.refl _) ?_)
 refine LeO.bind (rot_Next.mono _ _ _ _) (fun t => LeO.ite (LeO.refl _) ?_)
 refine LeO.bind (rot_Around.mono _ _ _ _) (fun t => LeO.ite (LeO.refl _) (LeO.refl _))
def orderF (k N : Nat) (ar : List (List Int)) (a b d : Nat) : Option (List Int) := ofLoop ar N a b k (startS ar N a b d) (((List.replicate N 0).set 0 (a : Int)).set 1 (b : Int)) (N - 1) [(d : Int)]
theorem ofLoop_mono (ar : List (List Int)) (N a b : Nat) : ∀ (k : Nat) (z : Sta) (o : List Int) (at_ : Nat) (m : List Int), LeO (ofLoop ar N a b k z o at_ m) (ofLoop ar N a b (k + 1) z o at_ m)
 | 0, _, _, _, _ => fun r h => by cases h
 | k + 1, z, o, at_, m => by
  conv => lhs; unfold ofLoop
  conv => rhs; unfold ofLoop
  refine LeO.ite (LeO.ite (LeO.ite (ofLoop_mono ar N a b k _ _ _ _) (LeO.ite (ofLoop_mono ar N a b k _ _ _ _) (LeO.refl _))) (LeO.refl _)) (LeO.refl _)
theorem orderF_mono (k N : Nat) (ar : List (List Int)) (a b d : Nat) : LeO (orderF k N ar a b d) (orderF (k + 1) N ar a b d) := ofLoop_mono ar N a b k _ _ _ _
end Peel
namespace Graph
open Mem Rot
theorem next13_calls (n : Int) (A : Option Addr) (m c : Nat) (A1 : Option Addr) (c1 : Nat) (r : List (List Int)) (w : World) (hr : Kd.C KR w A1 r.length r) (hm : m ≤ 4194304)
  (hin : ∀ v i, v < r.length → i < (gl r v).length → 0 ≤ gi (gl r v) i ∧ gi (gl r v) i < ((2 * m : Nat) : Int)) (hsm : ∀ v, v < r.length → (gl r v).length ≤ 9000000000000) (hrl : r.length ≤ 9000000000000) :
  Calls Try.prog 38 #[.agg #[.int .i64 n, .slice A m c], .slice A1 r.length c1] w fun e w' => ∃ v0_ : Value, e = .returned v0_ ∧ Kd.R (Kd.int .i64) 3 w' w.heap.size (fun _ => True) v0_ (nxL r (2 * m)) ∧ Below w.heap.size w w' := by
 have HB2 := Aside0.mk ((Below.refl w.heap.size w).alloc (Nat.le_refl _) (.cells #[.int .i64 n, .slice A m c] 24 (0, 0)))
 have HX2 := Aside0.mk (heap_last w (.cells #[.int .i64 n, .slice A m c] 24 (0, 0)))
 have x1 : (w.alloc (.cells #[.int .i64 n, .slice A m c] 24 (0, 0))).cell? ⟨w.heap.size, 1, none⟩ = some (.slice A m c) := heap_cell HX2.out rfl
 have HR := Aside0.mk hr
 have HSM := Aside0.mk hsm
 obtain ⟨M, hM⟩ : ∃ M, M = 2 * m := ⟨_, rfl⟩
 rw [← hM] at hin ⊢
 have HIN := Aside0.mk hin
 have hMb : M ≤ 8388608 := by omega
 have q : IntKind.i64.wrap (2 * (m : Int)) = (M : Int) := by rw [IntWalk.i64_in _ (by omega)]; omega
 have mk := print_make (P := Try.prog) 27 3 .i64 8 Try.underlying27 info_int (by decide) M (by omega)
 have hMm : 2 * (m : Int) = (M : Int) := by omega
 clear hr hsm hin hM
 go_enter Try.func38, Try.ntmps38
 go_upto_region 1 with (fail)
 generalize w.alloc (.cells #[.int .i64 n, .slice A m c] 24 (0, 0)) = w2 at x1 HX2 HB2 ⊢
 obtain ⟨bg, hbg⟩ : ∃ bg, bg = w.heap.size := ⟨_, rfl⟩
 rw [← hbg] at HX2 x1 ⊢
 clear hbg
 go_wp2_with fail
 clear x1 mk
 obtain ⟨bn, hbn⟩ : ∃ bn, bn = w2.heap.size := ⟨_, rfl⟩
 have HT : Aside0 (IRow (w2.alloc (.cells (madeCells #[.int .i64 0] M) 3 (0, 0))) bn (setRows r M 0)) := ⟨by
  rw [made_int, hbn]
  exact IRow.start w2 M⟩
 have HBB := Aside0.mk (HB2.out.alloc HB2.out.size (.cells (madeCells #[.int .i64 0] M) 3 (0, 0)))
 have HLO : Aside0 (w.heap.size ≤ bn) := ⟨by have := HB2.out.size; omega⟩
 rw [← hbn]
 clear hbn HX2 HB2
 generalize w2.alloc (.cells (madeCells #[.int .i64 0] M) 3 (0, 0)) = w3 at HT HBB ⊢
 clear hMm q
 go_loopw [6] (fun y wr => ∃ (v : Nat), y = .int .i64 (v : Int) ∧ v ≤ r.length ∧ Aside0 (IRow wr bn (setRows r M v)) ∧ Aside0 (Below w.heap.size w wr)) (fun y _ => r.length - (intOf y).toNat)
 case atStart => exact ⟨0, rfl, by omega, HT, HBB⟩
 case round =>
  clear HT HBB
  obtain ⟨v, rfl, hv, HT, HBB⟩ := hrel
  by_cases hlt : v < r.length
  ·obtain ⟨ad, D, cD, eA, hx0, hcD, hrow⟩ := row_at HR.out hlt
   subst eA
   have hrl2 := HSM.out v hlt
   obtain ⟨row, hrw⟩ : ∃ row, row = gl r v := ⟨_, rfl⟩
   rw [← hrw] at hx0 hcD hrow hrl2
   have HROW := Aside0.mk hrow
   have HXC := Aside0.mk hx0
   have HRW := Aside0.mk hrw
   have hx := (HBB.out.cell (cell_lt hx0)).trans hx0
   have HT0 : Aside0 (IRow wr bn (setRow row (setRows r M v) 0)) := HT
   clear hrow hx0 hrw HT hx
   go_wp2_with fail
   go_loopw [7] (fun y wr => ∃ (i : Nat), y = .int .i64 (i : Int) ∧ i ≤ row.length ∧ Aside0 (IRow wr bn (setRow row (setRows r M v) i)) ∧ Aside0 (Below w.heap.size w wr)) (fun y _ => row.length - (intOf y).toNat)
   case atStart => exact ⟨0, rfl, by omega, HT0, HBB⟩
   case round =>
    clear HT0 HBB
    obtain ⟨i, rfl, hi, HT, HBB⟩ := hrel
    by_cases hil : i < row.length
    ·skip
     have hin := HIN.out v i hlt (by rw [← HRW.out]; exact hil)
     obtain ⟨h, hh⟩ : ∃ h : Nat, gi row i = (h : Int) := ⟨(gi row i).toNat, by rw [← HRW.out] at hin; omega⟩
     have hhM : h < M := by rw [← HRW.out, hh] at hin; omega
     obtain ⟨i1, hi1⟩ : ∃ i1, i1 = i + 1 := ⟨_, rfl⟩
     obtain ⟨p, hp⟩ : ∃ p, p = i1 % row.length := ⟨_, rfl⟩
     have hpl : p < row.length := by rw [hp]; exact Nat.mod_lt _ (by omega)
     have t0 : ((row.length : Int) == 0) = false := beq_eq_false_iff_ne.2 (by omega)
     have hx := (HBB.out.cell (cell_lt HXC.out)).trans HXC.out
     obtain ⟨ad2, eD, hxu⟩ := Kd.at_int (Kd.C_below HROW.out HBB.out) (i : Int) (by omega) (by omega)
     obtain ⟨ad3, eD2, hxp⟩ := Kd.at_int (Kd.C_below HROW.out HBB.out) (p : Int) (by omega) (by omega)
     rw [eD] at eD2
     injection eD2 with eD2
     subst eD2
     rw [gi_rd, Int.toNat_natCast] at hxu hxp
     rw [hh] at hxu
     obtain ⟨z, hz⟩ : ∃ z, z = gi row p := ⟨_, rfl⟩
     rw [← hz] at hxp
     have c1 := HT.out.cell (i := h) (by rw [setRow_length, setRows_length]; exact hhM)
     have f1 := HT.out.free h
     have HT2 : Aside0 (IRow (wr.setCell ⟨bn, h, none⟩ (.int .i64 z)) bn (setRow row (setRows r M v) (i + 1))) := ⟨by
      have h1 := HT.out.put h z
      rw [hz, hp, hi1] at h1
      show IRow _ bn ((setRow row (setRows r M v) i).set (gi row i).toNat (gi row ((i + 1) % row.length)))
      rw [hh, Int.toNat_natCast, hz, hp, hi1]
      exact h1⟩
     have HB2 := Aside0.mk (HBB.out.setCell (p := ⟨bn, h, none⟩) HLO.out (.int .i64 z))
     have q1 : IntKind.i64.wrap ((i : Int) + 1) = (i1 : Int) := by rw [IntWalk.i64_in _ (by omega)]; omega
     have q2 : Int.tmod (i1 : Int) (row.length : Int) = (p : Int) := by rw [hp]; rfl
     have q3 : (i1 : Int) % (row.length : Int) = (p : Int) := by rw [hp]; rfl
     have HI1 := Aside0.mk hi1
     have HP1 := Aside0.mk hp
     subst eD
     clear hin hh hz hi1 hp
     go_wp2_with fail
     have t1 : row.length ≠ 0 := by omega
     have t2 : 0 < row.length := by omega
     have t3 : ¬ (row.length : Int) = 0 := by omega
     have t4 : ((row.length : Int) != 0) = true := bne_iff_ne.2 t3
     have q5 : IntKind.i64.wrap ((i : Int) + 1) = (i1 : Int) := q1
     go_still_tail 23, (by kernel_rfl)
     change wpList _ _ _ _ _ wr.drew
     clear q1 q2 q3 q5 t0 t1 t2 t3 t4 hx hxu hxp
     go_wp2_with fail
     clear c1 f1
     go_roundw
     case rel => exact ⟨i + 1, by go_num, by omega, ⟨HT2.out⟩, ⟨HB2.out.drew⟩⟩
     case measure => simp [intOf]; omega
    ·obtain rfl : i = row.length := by omega
     have hx := (HBB.out.cell (cell_lt HXC.out)).trans HXC.out
     have HT3 : Aside0 (IRow wr bn (setRows r M (v + 1))) := ⟨by show IRow wr bn (setRow (gl r v) (setRows r M v) (gl r v).length); rw [← HRW.out]; exact HT.out⟩
     go_wp2_with fail
     go_roundw
     case rel => exact ⟨v + 1, by go_num, by omega, HT3, HBB⟩
     case measure => simp [intOf]; omega
  ·obtain rfl : v = r.length := by omega
   go_wp2_with fail
   go_ret
   have h1 := HT.out.own (base := w.heap.size) (ok := fun _ => True) HLO.out (by rw [setRows_length]; omega) trivial
   rw [setRows_length] at h1
   exact ⟨_, rfl, h1, HBB.out⟩
end Graph
namespace Face
open Mem Ring
def stN (nx : List Int) : List Int := (List.range nx.length).map fun h => gi nx (twn h)
theorem stN_length (nx : List Int) : (stN nx).length = nx.length := by unfold stN; simp
theorem gi_stN {nx : List Int} {h : Nat} (hh : h < nx.length) : gi (stN nx) h = gi nx (twn h) := by
 unfold stN gi
 simp [List.getD_eq_getElem?_getD, hh]
theorem twn_even {h m : Nat} (hm : m % 2 = 0) (hh : h < m) : twn h < m := by unfold twn; split <;> omega
theorem fits_st {nx : List Int} (h : Fits nx) (he : nx.length % 2 = 0) : Fits (stN nx) := ⟨by rw [stN_length]; exact h.len, fun i hi => by
 rw [stN_length] at hi ⊢
 rw [gi_stN hi]
 exact h.inn _ (twn_even he hi)⟩
def lenOf : Value → Nat
 | .slice _ n _ => n
 | _ => 0
abbrev KL : Kd (List Int) := Kd.slice 3 (Kd.int .i64)
theorem faces13_calls (A : Option Addr) (c0 : Nat) (nx : List Int) (w : World) (hr : Kd.C (Kd.int .i64) w A nx.length nx) (hf : Fits nx) (he : nx.length % 2 = 0) :
  Calls Try.prog 37 #[.slice A nx.length c0] w fun e w' => ∃ v0_ : Value, e = .returned v0_ ∧ Kd.S KL 27 w' w.heap.size (fun _ => True) v0_ (facesL (stN nx)) ∧ Below w.heap.size w w' := by
 have HS2 := Aside0.mk hr
 have HNF := Aside0.mk hf
 have HE := Aside0.mk he
 obtain ⟨st, hst⟩ : ∃ st, st = stN nx := ⟨_, rfl⟩
 have HF : Aside0 (Fits st) := ⟨by rw [hst]; exact fits_st hf he⟩
 have HSN := Aside0.mk hst
 have hMb := hf.len
 obtain ⟨M, hM⟩ : ∃ M, M = nx.length := ⟨_, rfl⟩
 rw [← hst, ← hM]
 rw [← hM] at hMb HS2
 have HMN := Aside0.mk hM
 have HM : Aside0 (M = st.length) := ⟨by rw [hst, stN_length]; exact hM⟩
 have HBW := Aside0.mk (Below.refl w.heap.size w)
 have mk := print_make_of (P := Try.prog) 36 4 (.bool false) 1 Try.underlying36 info_bool rfl (by decide) M (by omega)
 rw [made_bool] at mk
 clear hr hf he hst hM
 go_enter Try.func37, Try.ntmps37
 go_upto_region 3 with (fail)
 have HT : Aside0 (BRow (w.alloc (.cells (Array.replicate M (Value.bool false)) 4 (0, 0))) w.heap.size (facesTo st M 0).1) := ⟨BRow.start w M⟩
 have HBB := Aside0.mk ((Below.refl w.heap.size w).alloc (Nat.le_refl _) (.cells (Array.replicate M (Value.bool false)) 4 (0, 0)))
 obtain ⟨bn, hbn⟩ : ∃ bn, bn = w.heap.size := ⟨_, rfl⟩
 rw [← hbn] at HT ⊢
 have HLO : Aside0 (w.heap.size ≤ bn) := ⟨by omega⟩
 clear mk hbn
 generalize w.alloc (.cells (Array.replicate M (Value.bool false)) 4 (0, 0)) = w3 at HT HBB ⊢
 have HO : Aside0 (Kd.S KL 27 w3 w.heap.size (fun _ => True) (.slice none 0 0) (facesTo st M 0).2) := ⟨Kd.S_nil _ _ _ _ _⟩
 go_wp2_with fail
 go_loopw [3, 5] (fun v y wr => ∃ (h : Nat), y = .int .i64 (h : Int) ∧ h ≤ M ∧ Aside0 (BRow wr bn (facesTo st M h).1) ∧ Aside0 (Kd.S KL 27 wr w.heap.size (fun _ => True) v (facesTo st M h).2) ∧ Aside0 (Below w.heap.size w wr)) (fun _ y _ => M - (intOf y).toNat)
 case atStart => exact ⟨0, rfl, by omega, HT, HO, HBB⟩
 case round =>
  clear HT HO HBB
  obtain ⟨h, rfl, hh, HT, HO, HBB⟩ := hrel
  obtain ⟨S, hS⟩ : ∃ S, S = (facesTo st M h).1 := ⟨_, rfl⟩
  obtain ⟨out, hout⟩ : ∃ out, out = (facesTo st M h).2 := ⟨_, rfl⟩
  rw [← hS] at HT
  rw [← hout] at HO
  have HFT : Aside0 (S = (facesTo st M h).1 ∧ out = (facesTo st M h).2) := ⟨hS, hout⟩
  have hlen := facesTo_len st M h
  rw [← hS, ← hout] at hlen
  obtain ⟨hSl, hol⟩ := hlen
  clear hS hout
  by_cases hlt : h < M
  ·have c1 := HT.out.cell (i := h) (by omega)
   obtain ⟨b, hb⟩ : ∃ b, b = gb S h := ⟨_, rfl⟩
   rw [← hb] at c1
   have HBH := Aside0.mk hb
   clear hb
   cases b with
   | true =>
    have HN : Aside0 (facesTo st M (h + 1) = facesTo st M h) := ⟨by
     conv => lhs; unfold facesTo
     rw [← HFT.out.1, if_pos HBH.out.symm]⟩
    go_wp2_with fail
    go_roundw
    case rel => exact ⟨h + 1, by go_num, by omega, ⟨by rw [HN.out, ← HFT.out.1]; exact HT.out⟩, ⟨by rw [HN.out, ← HFT.out.2]; exact HO.out⟩, HBB⟩
    case measure => simp [intOf]; omega
   | false =>
    have HN : Aside0 (facesTo st M (h + 1) = ((goFace st M S [] (h : Int)).1, out ++ [(goFace st M S [] (h : Int)).2])) := ⟨by
     conv => lhs; unfold facesTo
     rw [← HFT.out.1, ← HFT.out.2, if_neg (by rw [← HBH.out]; simp)]⟩
    have HF0 : Aside0 (Kd.R (Kd.int .i64) 3 wr w.heap.size (fun _ => True) (.slice none 0 0) []) := ⟨Kd.R_nil _ _ _ _ _⟩
    have HO0 := Aside0.mk (Kd.S_mono HO.out (ok' := fun k => some k ≠ (Value.slice none 0 0).ownBlock) (fun k _ => by simp [Value.ownBlock]))
    have HL0 : Aside0 (left S ≤ M) := ⟨by have := left_le S; omega⟩
    obtain ⟨RES, hres⟩ : ∃ RES, RES = goFace st M S [] (h : Int) := ⟨_, rfl⟩
    rw [← hres] at HN
    have HRES := Aside0.mk hres.symm
    have HS0 : Aside0 (S.length = M) := ⟨hSl⟩
    clear hres HO
    go_wp2_with fail
    clear c1
    have hhM : h < M := hlt
    go_loopw [6, 7] (fun V y wr => ∃ (k : Nat) (T : List Bool) (fc : List Int) (n : Nat) (Af : Option Addr) (cf : Nat), V = .slice Af fc.length cf ∧ y = .int .i64 (k : Int) ∧ k < M ∧ Aside0 (goFace st n T fc (k : Int) = RES) ∧ left T ≤ n ∧ Aside0 (T.length = M) ∧ fc.length + n ≤ M ∧ Aside0 (BRow wr bn T) ∧ Aside0 (Kd.R (Kd.int .i64) 3 wr w.heap.size (fun _ => True) (.slice Af fc.length cf) fc) ∧ Aside0 (Kd.S KL 27 wr w.heap.size (fun k => some k ≠ (Value.slice Af fc.length cf).ownBlock) u3 out) ∧ Aside0 (Below w.heap.size w wr)) (fun V _ _ => M - lenOf V)
    case atStart => exact ⟨h, S, [], M, none, 0, rfl, rfl, hlt, HRES, HL0.out, HS0, by simp, HT, HF0, HO0, HBB⟩
    case round =>
     clear HT HF0 HO0 HBB HL0 HS0 HRES hSl
     obtain ⟨k, T, fc, nn, Af, cf, rfl, rfl, hk, HRES, hn, HTL, hfn, HT, HFC, HO, HBB⟩ := hrel
     have d1 := HT.out.cell (i := k) (by rw [HTL.out]; exact hk)
     obtain ⟨b, hb⟩ : ∃ b, b = gb T k := ⟨_, rfl⟩
     rw [← hb] at d1
     have HBK := Aside0.mk hb
     clear hb
     cases b with
     | false =>
      obtain ⟨nn, rfl⟩ : ∃ q, nn = q + 1 := by
       rcases nn with _ | q
       ·have h1 := left_zero (S := T) (by omega) (i := k) (by rw [HTL.out]; exact hk)
        rw [← HBK.out] at h1
        cases h1
       ·exact ⟨q, rfl⟩
      have f1 := HT.out.free k
      have hls := left_set T k (by rw [HTL.out]; exact hk) HBK.out.symm
      have hre := HRES.out
      unfold goFace at hre
      rw [if_neg (by rw [Int.toNat_natCast, ← HBK.out]; simp), Int.toNat_natCast] at hre
      obtain ⟨kt, hkt⟩ : ∃ kt, kt = twn k := ⟨_, rfl⟩
      have hktM : kt < M := by rw [hkt, HMN.out]; exact twn_even HE.out (by rw [← HMN.out]; exact hk)
      have hbx : Go.bits .xor .i64 (k : Int) 1 = (kt : Int) := by rw [hkt]; exact Seen.tw_nat (by omega)
      obtain ⟨adS, eS, z0⟩ := Kd.at_int (w := wr) (xs := nx) (n := M) (Kd.C_below HS2.out HBB.out) (kt : Int) (by omega) (by have := HMN.out; omega)
      rw [gi_rd, Int.toNat_natCast] at z0
      have hst1 : gi st k = gi nx kt := by rw [HSN.out, gi_stN (by rw [← HMN.out]; exact hk), hkt]
      have hin := HF.out.inn k (by rw [← HM.out]; exact hk)
      obtain ⟨k2, hk2⟩ : ∃ k2 : Nat, gi st k = (k2 : Int) := ⟨(gi st k).toNat, by omega⟩
      rw [hk2] at hre hin hst1
      rw [← hst1] at z0
      have hk2M : k2 < M := by have := HM.out; omega
      have HRE := Aside0.mk hre
      have HT2 := Aside0.mk (HT.out.put k true)
      have HB2' := Aside0.mk (HBB.out.setCell (p := ⟨bn, k, none⟩) HLO.out (.bool true))
      have HF2 := Aside0.mk (Kd.R_set HFC.out HT.out (by decide) k (.bool true))
      have HO2 := Aside0.mk (Kd.S_set HO.out HT.out (by decide) k (.bool true))
      have HLS : Aside0 (left (T.set k true) ≤ nn) := ⟨by omega⟩
      have HZ : Aside0 (∀ W, Below w.heap.size w W → W.cell? (adS.add kt) = some (.int .i64 (k2 : Int))) := ⟨fun W hW => by
       obtain ⟨ad', e', z'⟩ := Kd.at_int (w := W) (xs := nx) (n := M) (Kd.C_below HS2.out hW) (kt : Int) (by omega) (by have := HMN.out; omega)
       rw [gi_rd, Int.toNat_natCast, ← hst1] at z'
       rw [eS] at e'
       injection e' with e'
       rw [e']
       exact z'⟩
      clear hre hls hin hk2 HT HBB HFC HO HRES hn z0 hst1 hkt
      rw [eS]
      have hbx2 := Aside0.mk hbx
      clear hbx
      go_upto_region 12 with (fail)
      clear d1 f1
      generalize wr.setCell ⟨bn, k, none⟩ (.bool true) = w3 at HT2 HB2' HF2 HO2 ⊢
      go_wp2_with ((with_reducible refine gate_builtin (b := .append) (xs := #[.tmp 35, .tmp 37]) rfl ?_); at_builtin; refine Kd.R_append (Kd.int .i64) (w0 := w) w.heap.size rfl (.tmp 35) (.tmp 37) 27 3 (.int .i64 0) 8 rfl Try.underlying27 info_int rfl (by decide) (by omega) (.slice Af fc.length cf) fc (k : Int) [.int .i64 (k : Int)] (fun _ => True) (fun _ => False) rfl rfl rfl (fun _ hk => hk.elim) (fun _ _ => trivial) HF2.out HB2'.out HB2'.out.size (by omega) ?_)
      intro v1 w4 hr hb hg hat
      have HO4 := Aside0.mk (Kd.S_mono (Kd.S_after (ok := fun _ => True) (Kd.S_mono HO2.out (fun k hk => ⟨trivial, hk⟩)) hg hat) (fun k hk => hk.2))
      have HT4 : Aside0 (BRow w4 bn (T.set k true)) := ⟨(hg.block bn (lt_of HT2.out) (Kd.R_ne HF2.out HT2.out (by decide))).trans HT2.out⟩
      have HB4 := Aside0.mk hb
      have z1 := HZ.out w4 hb
      have hbx := hbx2.out
      obtain ⟨A', c', rfl⟩ := Kd.R_slice hr
      have HF4 := Aside0.mk hr
      clear hr hb hg hat HO2 HT2 HB2' HF2
      go_wp2_with fail
      clear z1
      go_roundw
      case rel => exact ⟨k2, T.set k true, fc ++ [(k : Int)], nn, A', c', rfl, rfl, hk2M, HRE, HLS.out, ⟨by rw [List.length_set]; exact HTL.out⟩, by simp; omega, HT4, HF4, HO4, HB4⟩
      case measure => simp [lenOf]; omega
     | true =>
      have HRE : Aside0 (RES = (T, fc)) := ⟨by
       rw [← HRES.out]
       cases nn with
       | zero => rfl
       | succ nn => unfold goFace; rw [if_pos (by rw [Int.toNat_natCast]; exact HBK.out.symm)]⟩
      have HFP := Aside0.mk (Kd.M_row (Kd.R_tight rfl HFC.out))
      have HOK : Aside0 (∀ q, some q = (Value.slice Af fc.length cf).ownBlock → True ∧ some q ≠ u3.ownBlock) := ⟨fun q hq => ⟨trivial, fun e => (Kd.S_R HO.out).1 q e.symm hq⟩⟩
      clear HRES HTL hn
      go_wp2_with ((with_reducible refine gate_builtin (b := .append) (xs := #[.tmp 39, .tmp 41]) rfl ?_); at_builtin; refine Kd.S_append KL (w0 := w) w.heap.size rfl (.tmp 39) (.tmp 41) 25 27 (.slice none 0 0) 24 rfl Try.underlying25 info_ints rfl (by decide) (by omega) u3 out fc [.slice Af fc.length cf] (fun _ => True) (fun k => some k = (Value.slice Af fc.length cf).ownBlock) rfl rfl HFP.out HOK.out (fun _ _ => trivial) (Kd.S_mono HO.out (fun k hk => ⟨trivial, hk⟩)) HBB.out HBB.out.size (by omega) ?_)
      intro v1 w4 hr hb hg hat
      have HT4 : Aside0 (BRow w4 bn T) := ⟨(hg.block bn (lt_of HT.out) (Kd.S_ne HO.out HT.out (by decide))).trans HT.out⟩
      have HB4 := Aside0.mk hb
      have HO4 := Aside0.mk hr
      clear hr hb hg hat HT HO HFC HFP HOK HBB d1
      go_wp2_with fail
      go_roundw
      case rel => exact ⟨h + 1, by go_num, by omega, ⟨by rw [HN.out, HRE.out]; exact HT4.out⟩, ⟨by rw [HN.out, HRE.out]; exact HO4.out⟩, HB4⟩
      case measure => simp [intOf]; omega
  ·obtain rfl : h = M := by omega
   have HFL : Aside0 (facesL st = out) := ⟨by unfold facesL; rw [← HM.out, ← HFT.out.2]⟩
   go_wp2_with fail
   go_ret
   exact ⟨_, rfl, by rw [HFL.out]; exact HO.out, HBB.out⟩
end Face
namespace Uni
open Mem Rot
structure UF (n : Nat) (tp : List Int) (m : List Nat) : Prop where
 lt : tp.length = n
 lm : m.length = n
 inn : ∀ x, x < n → 0 ≤ gi tp x ∧ gi tp x < (n : Int)
 cls : ∀ x, x < n → Sets.gt m (gi tp x).toNat = Sets.gt m x
 dep : ∃ d : Nat → Nat, ∀ x, x < n → gi tp x ≠ (x : Int) → d (gi tp x).toNat < d x
 one : ∀ x y, x < n → y < n → gi tp x = (x : Int) → gi tp y = (y : Int) → Sets.gt m x = Sets.gt m y → x = y
 low : ∀ x, x < n → Sets.gt m x < n ∧ Sets.gt m (Sets.gt m x) = Sets.gt m x
def selfTo (n i : Nat) : List Int := (List.range n).map fun (x : Nat) => if x < i then (x : Int) else 0
theorem selfTo_length (n i : Nat) : (selfTo n i).length = n := by simp [selfTo]
theorem selfTo_zero (n : Nat) : List.replicate n 0 = selfTo n 0 := by
 unfold selfTo
 apply List.ext_getElem (by simp)
 intro i h1 h2
 simp
theorem gi_self {n i x : Nat} (hx : x < n) : gi (selfTo n i) x = if x < i then (x : Int) else 0 := by
 unfold selfTo gi
 simp [List.getD_eq_getElem?_getD, hx]
theorem selfTo_succ {n i : Nat} (hi : i < n) : (selfTo n i).set i (i : Int) = selfTo n (i + 1) := by
 apply List.ext_getElem (by simp [selfTo])
 intro j h1 h2
 rw [List.getElem_set]
 simp only [selfTo, List.getElem_map, List.getElem_range]
 split <;> split <;> try split
 all_goals first | rfl | omega
theorem UF.start (n : Nat) : UF n (selfTo n n) (List.range n) := by
 have h : ∀ x, x < n → gi (selfTo n n) x = (x : Int) := fun x hx => by rw [gi_self hx, if_pos hx]
 refine ⟨selfTo_length n n, by simp, fun x hx => by rw [h x hx]; omega, fun x hx => by rw [h x hx, Int.toNat_natCast], ⟨fun _ => 0, fun x hx q => absurd (h x hx) q⟩, fun x y hx hy _ _ e => ?_, fun x hx => ?_⟩
 ·rw [Sets.range_get hx, Sets.range_get hy] at e
  exact e
 ·rw [Sets.range_get hx, Sets.range_get hx]
  exact ⟨hx, rfl⟩
section
variable {n : Nat} {tp : List Int} {m : List Nat}
theorem UF.same (h : UF n tp m) {a b u : Nat} (ha : a < n) (hb : b < n) (hu : u < n) (hua : Sets.gt m u = Sets.gt m a) (hub : Sets.gt m u = Sets.gt m b) : Sets.joinOf m (a : Int) (b : Int) = (m, false) := Sets.joinOf_same (hua.symm.trans hub)
theorem UF.join (h : UF n tp m) {a b u v : Nat} (ha : a < n) (hb : b < n) (hu : u < n) (hv : v < n) (hua : Sets.gt m u = Sets.gt m a) (hvb : Sets.gt m v = Sets.gt m b) (ru : gi tp u = (u : Int)) (rv : gi tp v = (v : Int)) (hne : u ≠ v) :
  UF n (tp.set u (v : Int)) (Sets.joinOf m (a : Int) (b : Int)).1 ∧ Sets.sets (Sets.joinOf m (a : Int) (b : Int)).1 + 1 = Sets.sets m := by
 have hab : Sets.gt m a ≠ Sets.gt m b := fun e => hne (h.one u v hu hv ru rv (by rw [hua, hvb, e]))
 rw [Sets.joinOf_two (by rw [h.lm]; exact ha) (by rw [h.lm]; exact hb) hab]
 obtain ⟨la, ia⟩ := h.low a ha
 obtain ⟨lb, ib⟩ := h.low b hb
 obtain ⟨lo, hlo⟩ : ∃ lo, lo = min (Sets.gt m a) (Sets.gt m b) := ⟨_, rfl⟩
 obtain ⟨hi, hhi⟩ : ∃ hi, hi = max (Sets.gt m a) (Sets.gt m b) := ⟨_, rfl⟩
 have hor : (Sets.gt m a = lo ∧ Sets.gt m b = hi) ∨ (Sets.gt m a = hi ∧ Sets.gt m b = lo) := by omega
 have hlt : lo < hi := by omega
 have hil : hi < n := by omega
 have ilo : Sets.gt m lo = lo := by rcases hor with ⟨e, _⟩ | ⟨_, e⟩ <;> rw [← e] <;> assumption
 have ihi : Sets.gt m hi = hi := by rcases hor with ⟨_, e⟩ | ⟨e, _⟩ <;> rw [← e] <;> assumption
 simp only
 rw [← hlo, ← hhi]
 have hg : ∀ x, x < n → Sets.gt (Sets.glue lo hi m) x = if Sets.gt m x = hi then lo else Sets.gt m x := fun x hx => Sets.glue_get lo hi m (by rw [h.lm]; exact hx)
 have gset : ∀ x, gi (tp.set u (v : Int)) x = if u = x ∧ x < tp.length then (v : Int) else gi tp x := fun x => gi_set _ _ _ _
 have gu : gi (tp.set u (v : Int)) u = (v : Int) := by rw [gset, if_pos ⟨rfl, by rw [h.lt]; exact hu⟩]
 have gx : ∀ x, x ≠ u → gi (tp.set u (v : Int)) x = gi tp x := fun x hx => by rw [gset, if_neg (fun q => hx q.1.symm)]
 have huv : (Sets.gt m u = lo ∧ Sets.gt m v = hi) ∨ (Sets.gt m u = hi ∧ Sets.gt m v = lo) := by rw [hua, hvb]; exact hor
 refine ⟨⟨by rw [List.length_set]; exact h.lt, by rw [Sets.glue_length]; exact h.lm, fun x hx => ?_, fun x hx => ?_, ?_, fun x y hx hy ex ey e => ?_, fun x hx => ?_⟩, Sets.sets_glue' (by rw [h.lm]; exact hil) hlt ilo ihi⟩
 ·by_cases q : x = u
  ·rw [q, gu]; omega
  ·rw [gx x q]; exact h.inn x hx
 ·by_cases q : x = u
  ·rw [q, gu, Int.toNat_natCast, hg v hv, hg u hu]
   rcases huv with ⟨e1, e2⟩ | ⟨e1, e2⟩
   ·rw [if_pos e2, e1, if_neg (by omega)]
   ·rw [if_pos e1, e2, if_neg (by omega)]
  ·have h1 := h.inn x hx
   rw [gx x q, hg _ (by omega), hg x hx, h.cls x hx]
 ·obtain ⟨d, hd⟩ := h.dep
  refine ⟨fun x => if Sets.gt m x = Sets.gt m u then d x + d v + 1 else d x, fun x hx hne' => ?_⟩
  have hvu : Sets.gt m v ≠ Sets.gt m u := fun e => by rcases huv with ⟨e1, e2⟩ | ⟨e1, e2⟩ <;> omega
  by_cases q : x = u
  ·rw [q, gu, Int.toNat_natCast]
   show (if Sets.gt m v = Sets.gt m u then _ else _) < if Sets.gt m u = Sets.gt m u then _ else _
   rw [if_neg hvu, if_pos rfl]
   omega
  ·rw [gx x q] at hne' ⊢
   have h1 := hd x hx hne'
   show (if Sets.gt m (gi tp x).toNat = Sets.gt m u then _ else _) < if Sets.gt m x = Sets.gt m u then _ else _
   rw [h.cls x hx]
   split <;> omega
 ·have hxu : x ≠ u := fun q => by rw [q, gu] at ex; omega
  have hyu : y ≠ u := fun q => by rw [q, gu] at ey; omega
  rw [gx x hxu] at ex
  rw [gx y hyu] at ey
  rw [hg x hx, hg y hy] at e
  by_cases c : Sets.gt m x = Sets.gt m y
  ·exact h.one x y hx hy ex ey c
  ·exfalso
   have key : ∀ z, z < n → gi tp z = (z : Int) → z ≠ u → Sets.gt m z ≠ Sets.gt m u := fun z hz ez hzu q => hzu (h.one z u hz hu ez ru q)
   have k1 := key x hx ex hxu
   have k2 := key y hy ey hyu
   rcases huv with ⟨e1, e2⟩ | ⟨e1, e2⟩
   ·split at e <;> split at e <;> omega
   ·split at e <;> split at e <;> omega
 ·have hlx := h.low x hx
  rw [hg x hx]
  by_cases q : Sets.gt m x = hi
  ·rw [if_pos q]
   refine ⟨by omega, ?_⟩
   rw [hg lo (by omega), ilo, if_neg (by omega)]
  ·rw [if_neg q, hg _ hlx.1, hlx.2, if_neg q]
   exact ⟨hlx.1, rfl⟩
end
structure PM (w0 w : World) (bg bt bd N : Nat) (gE : Value) (tp dg : List Int) : Prop where
 old : Below w0.heap.size w0 w
 box : w.heap[bg]? = some (.cells #[.int .i64 (N : Int), gE] 24 (0, 0))
 t : IRow w bt tp
 d : IRow w bd dg
 lt : tp.length = N
 ld : dg.length = N
 ot : w0.heap.size ≤ bt
 od : w0.heap.size ≤ bd
 n1 : bg ≠ bt
 n2 : bg ≠ bd
 n3 : bt ≠ bd
section
variable {w0 w : World} {bg bt bd N : Nat} {gE : Value} {tp dg : List Int}
theorem PM.c0 (h : PM w0 w bg bt bd N gE tp dg) : w.cell? ⟨bg, 0, none⟩ = some (.int .i64 (N : Int)) := heap_cell h.box rfl
theorem PM.c1 (h : PM w0 w bg bt bd N gE tp dg) : w.cell? ⟨bg, 1, none⟩ = some gE := heap_cell h.box rfl
theorem PM.drew (h : PM w0 w bg bt bd N gE tp dg) : PM w0 w.drew bg bt bd N gE tp dg := ⟨h.old.drew, h.box, h.t, h.d, h.lt, h.ld, h.ot, h.od, h.n1, h.n2, h.n3⟩
theorem PM.drewN (h : PM w0 w bg bt bd N gE tp dg) (k : Nat) : PM w0 (w.drewN k) bg bt bd N gE tp dg := ⟨pw_below_drewN h.old k, h.box, h.t, h.d, h.lt, h.ld, h.ot, h.od, h.n1, h.n2, h.n3⟩
theorem PM.putT (h : PM w0 w bg bt bd N gE tp dg) (i : Nat) (x : Int) : PM w0 (w.setCell ⟨bt, i, none⟩ (.int .i64 x)) bg bt bd N gE (tp.set i x) dg :=
 ⟨h.old.setCell (p := ⟨bt, i, none⟩) h.ot _, heap_ne h.box h.n1, h.t.put i x, h.d.ne _ (fun e => h.n3 e.symm), by rw [List.length_set]; exact h.lt, h.ld, h.ot, h.od, h.n1, h.n2, h.n3⟩
theorem PM.putD (h : PM w0 w bg bt bd N gE tp dg) (i : Nat) (x : Int) : PM w0 (w.setCell ⟨bd, i, none⟩ (.int .i64 x)) bg bt bd N gE tp (dg.set i x) :=
 ⟨h.old.setCell (p := ⟨bd, i, none⟩) h.od _, heap_ne h.box h.n2, h.t.ne _ h.n3, h.d.put i x, h.lt, by rw [List.length_set]; exact h.ld, h.ot, h.od, h.n1, h.n2, h.n3⟩
end
theorem good_at {n : Nat} {es : List (Int × Int)} (h : ValH.goodB (n : Int) es = true) {i : Nat} (hi : i < es.length) : ∃ u v : Nat, pe es i = ((u : Int), (v : Int)) ∧ u < v ∧ v < n := by
 obtain ⟨_, _, _, h4⟩ := (ValH.goodB_iff _ _).1 h
 have h5 := of_decide_eq_true (h4 i hi).1
 obtain ⟨u, hu⟩ := Int.eq_ofNat_of_zero_le h5.1
 obtain ⟨v, hv⟩ := Int.eq_ofNat_of_zero_le (show 0 ≤ (pe es i).2 by omega)
 exact ⟨u, v, by rw [← hu, ← hv], by omega, by omega⟩
theorem deg_put {fr : List Int} {n m x : Nat} {ds : List Int} (hx : gi fr m = (x : Int)) (hl : ds.length = n) (h : ∀ v : Nat, v < n → gi ds v = (Graph.cntF fr m v : Int)) : ∀ v : Nat, v < n → gi (ds.set x (gi ds x + 1)) v = (Graph.cntF fr (m + 1) v : Int) := by
 intro v hv
 rw [gi_set, Graph.cntF_succ, hx, hl]
 by_cases e : x = v
 ·subst e
  rw [if_pos ⟨rfl, hv⟩, if_pos rfl, h x hv]; omega
 ·rw [if_neg (fun q => e q.1), if_neg (by omega), h v hv]; omega
def loneF (es : List (Int × Int)) (i : Nat) : Nat := (List.range i).countP fun (v : Nat) => Graph.cntF (froms es) (2 * es.length) (v : Int) == 0
theorem loneF_succ (es : List (Int × Int)) (i : Nat) : loneF es (i + 1) = loneF es i + if Graph.cntF (froms es) (2 * es.length) (i : Int) = 0 then 1 else 0 := by
 unfold loneF
 rw [List.range_succ, List.countP_append, List.countP_singleton]
 by_cases c : Graph.cntF (froms es) (2 * es.length) (i : Int) = 0
 ·rw [if_pos c, if_pos (by rw [c]; rfl)]
 ·rw [if_neg c, if_neg (by simpa using c)]
theorem loneF_le (es : List (Int × Int)) (i : Nat) : loneF es i ≤ i := by
 have := List.countP_le_length (l := List.range i) (p := fun (v : Nat) => Graph.cntF (froms es) (2 * es.length) (v : Int) == 0)
 rw [List.length_range] at this
 exact this
def setsTo (n : Nat) (es : List (Int × Int)) (t : Nat) : List Nat := Sets.joinAll (List.range n) (es.take t)
theorem setsTo_succ (n : Nat) (es : List (Int × Int)) {t : Nat} (h : t < es.length) : setsTo n es (t + 1) = (Sets.joinOf (setsTo n es t) (Sets.pe es t).1 (Sets.pe es t).2).1 := Sets.joinAll_take _ _ h
theorem parts13_calls (N : Nat) (A : Option Addr) (c : Nat) (es : List (Int × Int)) (w : World) (he : Pairs w A es) (hg : ValH.goodB (N : Int) es = true) :
  Calls Try.prog 52 #[.agg #[.int .i64 (N : Int), .slice A es.length c]] w fun e w' => e = .returned (.tuple #[.int .i64 ((Sets.sets (setsTo N es es.length) : Nat) : Int), .int .i64 ((loneF es N : Nat) : Int)]) ∧ Below w.heap.size w w' := by
 have HE := Aside0.mk he
 have HG := Aside0.mk hg
 obtain ⟨_, hN, hm, _⟩ := (ValH.goodB_iff _ _).1 hg
 have hNb : N ≤ 1048576 := by omega
 have HB := Aside0.mk ((Below.refl w.heap.size w).alloc (Nat.le_refl _) (.cells #[.int .i64 (N : Int), .slice A es.length c] 24 (0, 0)))
 have HX := Aside0.mk (heap_last w (.cells #[.int .i64 (N : Int), .slice A es.length c] 24 (0, 0)))
 have x0 : (w.alloc (.cells #[.int .i64 (N : Int), .slice A es.length c] 24 (0, 0))).cell? ⟨w.heap.size, 0, none⟩ = some (.int .i64 (N : Int)) := heap_cell HX.out rfl
 have mk := print_make (P := Try.prog) 27 3 .i64 8 Try.underlying27 info_int (by decide) N (by omega)
 clear he hg hN
 go_enter Try.func52, Try.ntmps52
 go_upto_region 1 with (fail)
 have HSZ : Aside0 (w.heap.size < (w.alloc (.cells #[.int .i64 (N : Int), .slice A es.length c] 24 (0, 0))).heap.size) := ⟨by simp⟩
 generalize w.alloc (.cells #[.int .i64 (N : Int), .slice A es.length c] 24 (0, 0)) = w1 at x0 HX HB HSZ ⊢
 obtain ⟨bg, hbg⟩ : ∃ bg, bg = w.heap.size := ⟨_, rfl⟩
 rw [← hbg] at HX x0 HSZ ⊢
 have HBG := Aside0.mk hbg
 clear hbg
 go_upto_region 2 with (fail)
 obtain ⟨bt, hbt⟩ : ∃ bt, bt = w1.heap.size := ⟨_, rfl⟩
 have HX2 := Aside0.mk (heap_old HX.out (.cells (madeCells #[.int .i64 0] N) 3 (0, 0)))
 have HB2 := Aside0.mk (HB.out.alloc HB.out.size (.cells (madeCells #[.int .i64 0] N) 3 (0, 0)))
 have HT2 : Aside0 (IRow (w1.alloc (.cells (madeCells #[.int .i64 0] N) 3 (0, 0))) bt (List.replicate N 0)) := ⟨by rw [made_int, hbt]; exact IRow.start w1 N⟩
 have HS2 : Aside0 (bt < (w1.alloc (.cells (madeCells #[.int .i64 0] N) 3 (0, 0))).heap.size ∧ bg < bt) := ⟨by rw [hbt]; exact ⟨by simp, HSZ.out⟩⟩
 rw [← hbt]
 clear hbt HX HB HSZ x0
 generalize w1.alloc (.cells (madeCells #[.int .i64 0] N) 3 (0, 0)) = w2 at HX2 HB2 HT2 HS2 ⊢
 have x0 : w2.cell? ⟨bg, 0, none⟩ = some (.int .i64 (N : Int)) := heap_cell HX2.out rfl
 go_upto_region 3 with (fail)
 obtain ⟨bd, hbd⟩ : ∃ bd, bd = w2.heap.size := ⟨_, rfl⟩
 have HP : Aside0 (PM w (w2.alloc (.cells (madeCells #[.int .i64 0] N) 3 (0, 0))) bg bt bd N (.slice A es.length c) (selfTo N 0) (List.replicate N 0)) := ⟨by
  obtain ⟨s1, s2⟩ := HS2.out
  have s3 := HBG.out
  have s4 := HB2.out.size
  refine ⟨HB2.out.alloc HB2.out.size _, heap_old HX2.out _, ?_, ?_, selfTo_length _ _, by simp, by omega, by omega, by omega, by omega, by omega⟩
  ·rw [← selfTo_zero]; exact heap_old HT2.out _
  ·rw [made_int, hbd]; exact IRow.start w2 N⟩
 rw [← hbd]
 clear hbd HX2 HB2 HT2 HS2 x0 mk HBG
 generalize w2.alloc (.cells (madeCells #[.int .i64 0] N) 3 (0, 0)) = w3 at HP ⊢
 go_wp2_with fail
 go_loopw [6] (fun y wr => ∃ (i : Nat), y = .int .i64 (i : Int) ∧ i ≤ N ∧ Aside0 (PM w wr bg bt bd N (.slice A es.length c) (selfTo N i) (List.replicate N 0))) (fun y _ => N - (intOf y).toNat)
 case atStart => exact ⟨0, rfl, by omega, HP⟩
 case round =>
  clear HP
  obtain ⟨i, rfl, hi, HP⟩ := hrel
  have x0 := HP.out.c0
  by_cases hlt : i < N
  ·have c1 := HP.out.t.cell (i := i) (by rw [HP.out.lt]; exact hlt)
   have f1 := HP.out.t.free i
   have HP2 : Aside0 (PM w (wr.setCell ⟨bt, i, none⟩ (.int .i64 (i : Int))) bg bt bd N (.slice A es.length c) (selfTo N (i + 1)) (List.replicate N 0)) := ⟨by rw [← selfTo_succ hlt]; exact HP.out.putT i _⟩
   have hlt2 : (i : Int) < (N : Int) := by omega
   clear HP
   go_wp2_with fail
   clear x0 c1 f1
   go_roundw
   case rel => exact ⟨i + 1, by go_num, by omega, HP2⟩
   case measure => simp [intOf]; omega
  ·obtain rfl : i = N := by omega
   have HU : Aside0 (UF i (selfTo i i) (setsTo i es 0)) := ⟨UF.start i⟩
   have HD : Aside0 (∀ v : Nat, v < i → gi (List.replicate i 0) v = (Graph.cntF (froms es) (2 * 0) v : Int)) := ⟨fun v hv => by unfold gi Graph.cntF; simp [List.getD_eq_getElem?_getD, List.getElem?_replicate, hv]⟩
   have HC : Aside0 (i = Sets.sets (setsTo i es 0)) := ⟨(Sets.sets_range i).symm⟩
   go_wp2_with fail
   go_loopw [7, 8] (fun z y wr => ∃ (t k : Nat) (tp dg : List Int), y = .int .i64 (t : Int) ∧ z = .int .i64 (k : Int) ∧ t ≤ es.length ∧ k ≤ i ∧ Aside0 (UF i tp (setsTo i es t)) ∧ Aside0 (∀ v : Nat, v < i → gi dg v = (Graph.cntF (froms es) (2 * t) v : Int)) ∧ Aside0 (k = Sets.sets (setsTo i es t)) ∧ Aside0 (PM w wr bg bt bd i (.slice A es.length c) tp dg)) (fun _ y _ => es.length - (intOf y).toNat)
   case atStart => exact ⟨0, i, _, _, rfl, rfl, by omega, Nat.le_refl _, HU, HD, HC, HP⟩
   case round =>
    clear HP HU HD HC x0
    obtain ⟨t, k, tp, dg, rfl, rfl, ht, hki, HU, HD, HC, HP⟩ := hrel
    have x1 := HP.out.c1
    by_cases hte : t < es.length
    ·obtain ⟨a, b, hpe, hab, hbi⟩ := good_at HG.out hte
     obtain ⟨ad, eA, y1, y2⟩ := (HE.out.below HP.out.old) t hte
     subst eA
     rw [hpe] at y1 y2
     have HPE := Aside0.mk hpe
     have hf := Graph.froms_two es t hte
     rw [hpe] at hf
     have HFR := Aside0.mk hf
     clear hpe hf
     have HTE : Aside0 (Sets.pe es t = ((a : Int), (b : Int))) := HPE
     go_wp2_with fail
     go_quiet (fail)
     have HP1 := Aside0.mk (HP.out.drewN nq)
     generalize wr.drewN nq = w4 at HP1 ⊢
     clear HP x1 y1 y2
     obtain ⟨d1, hd1⟩ : ∃ d1, d1 = gi dg a := ⟨_, rfl⟩
     have hd1b : 0 ≤ d1 ∧ d1 ≤ 8388608 := by
      rw [hd1, HD.out a (by omega)]
      have := Graph.cntF_le (froms es) (2 * t) (a : Int)
      omega
     obtain ⟨d2, hd2⟩ : ∃ d2, d2 = d1 + 1 := ⟨_, rfl⟩
     have q1 : IntKind.i64.wrap (d1 + 1) = d2 := by rw [IntWalk.i64_in _ (by omega)]; exact hd2.symm
     have z1 := HP1.out.d.cell (i := a) (by rw [HP1.out.ld]; omega)
     rw [← hd1] at z1
     have f1 := HP1.out.d.free a
     have HP2 := Aside0.mk (HP1.out.putD a d2)
     have HD2 : Aside0 (∀ v : Nat, v < i → gi (dg.set a d2) v = (Graph.cntF (froms es) (2 * t + 1) v : Int)) := ⟨by
      have h := deg_put HFR.out.1 HP1.out.ld HD.out
      rw [← hd1, ← hd2] at h
      exact h⟩
     have ha : (a : Int) < (i : Int) := by omega
     have hb : (b : Int) < (i : Int) := by omega
     clear hd1 hd2 HP1 HD
     go_upto_region 13 with (fail)
     clear z1 f1 q1
     generalize w4.setCell ⟨bd, a, none⟩ (.int .i64 d2) = w5 at HP2 ⊢
     obtain ⟨dg2, hdg⟩ : ∃ dg2, dg2 = dg.set a d2 := ⟨_, rfl⟩
     rw [← hdg] at HP2 HD2
     clear hdg
     obtain ⟨d3, hd3⟩ : ∃ d3, d3 = gi dg2 b := ⟨_, rfl⟩
     have hd3b : 0 ≤ d3 ∧ d3 ≤ 8388609 := by
      rw [hd3, HD2.out b (by omega)]
      have := Graph.cntF_le (froms es) (2 * t + 1) (b : Int)
      omega
     obtain ⟨d4, hd4⟩ : ∃ d4, d4 = d3 + 1 := ⟨_, rfl⟩
     have q1 : IntKind.i64.wrap (d3 + 1) = d4 := by rw [IntWalk.i64_in _ (by omega)]; exact hd4.symm
     have z1 := HP2.out.d.cell (i := b) (by rw [HP2.out.ld]; omega)
     rw [← hd3] at z1
     have f1 := HP2.out.d.free b
     have HP3 := Aside0.mk (HP2.out.putD b d4)
     have HD3 : Aside0 (∀ v : Nat, v < i → gi (dg2.set b d4) v = (Graph.cntF (froms es) (2 * (t + 1)) v : Int)) := ⟨by
      have h := deg_put HFR.out.2 HP2.out.ld HD2.out
      rw [← hd3, ← hd4] at h
      exact h⟩
     clear hd3 hd4 HP2 HD2
     go_wp2_with fail
     clear z1 f1 q1
     generalize w5.setCell ⟨bd, b, none⟩ (.int .i64 d4) = w6 at HP3 ⊢
     obtain ⟨dg3, hdg⟩ : ∃ dg3, dg3 = dg2.set b d4 := ⟨_, rfl⟩
     rw [← hdg] at HP3 HD3
     clear hdg
     obtain ⟨dep, hdep⟩ := HU.out.dep
     have HDEP := Aside0.mk hdep
     clear hdep
     go_loopw [9] (fun y wx => ∃ u : Nat, y = .int .i64 (u : Int) ∧ u < i ∧ Aside0 (Sets.gt (setsTo i es t) u = Sets.gt (setsTo i es t) a) ∧ wx = w6) (fun y _ => dep (intOf y).toNat)
     case atStart => exact ⟨a, rfl, by omega, ⟨rfl⟩, rfl⟩
     case round =>
      obtain ⟨u, rfl, hu, HUA, rfl⟩ := hrel
      obtain ⟨u1, hu1⟩ : ∃ u1 : Nat, gi tp u = (u1 : Int) := ⟨(gi tp u).toNat, by have := (HU.out.inn u hu).1; omega⟩
      have hu1i : u1 < i := by have := (HU.out.inn u hu).2; omega
      have z1 := HP3.out.t.cell (i := u) (by rw [HP3.out.lt]; exact hu)
      rw [hu1] at z1
      have HU1 := Aside0.mk hu1
      have hui : (u : Int) < (i : Int) := by omega
      clear hu1
      by_cases hr : u1 = u
      ·subst hr
       have t1 : ((u1 : Int) != (u1 : Int)) = false := bne_eq_false_iff_eq.2 rfl
       go_wp2_with fail
       clear z1 t1
       go_loopw [10] (fun y wx => ∃ v : Nat, y = .int .i64 (v : Int) ∧ v < i ∧ Aside0 (Sets.gt (setsTo i es t) v = Sets.gt (setsTo i es t) b) ∧ wx = wr) (fun y _ => dep (intOf y).toNat)
       case atStart => exact ⟨b, rfl, by omega, ⟨rfl⟩, rfl⟩
       case round =>
        obtain ⟨v, rfl, hv, HVB, rfl⟩ := hrel
        obtain ⟨v1, hv1⟩ : ∃ v1 : Nat, gi tp v = (v1 : Int) := ⟨(gi tp v).toNat, by have := (HU.out.inn v hv).1; omega⟩
        have hv1i : v1 < i := by have := (HU.out.inn v hv).2; omega
        have z1 := HP3.out.t.cell (i := v) (by rw [HP3.out.lt]; exact hv)
        rw [hv1] at z1
        have HV1 := Aside0.mk hv1
        have hvi : (v : Int) < (i : Int) := by omega
        clear hv1
        by_cases hr : v1 = v
        ·subst hr
         have t1 : ((v1 : Int) != (v1 : Int)) = false := bne_eq_false_iff_eq.2 rfl
         by_cases huv : u1 = v1
         ·subst huv
          have HJ := Aside0.mk (HU.out.same (a := a) (b := b) (by omega) (by omega) hu HUA.out HVB.out)
          have HS : Aside0 (setsTo i es (t + 1) = setsTo i es t) := ⟨by rw [setsTo_succ i es hte, HTE.out]; show (Sets.joinOf _ (a : Int) (b : Int)).1 = _; rw [HJ.out]⟩
          go_wp2_with fail
          clear z1 t1
          go_roundw
          case rel => exact ⟨t + 1, k, tp, dg3, by go_num, rfl, by omega, hki, ⟨by rw [HS.out]; exact HU.out⟩, HD3, ⟨by rw [HS.out]; exact HC.out⟩, HP3⟩
          case measure => simp [intOf]; omega
         ·have HJ := Aside0.mk (HU.out.join (a := a) (b := b) (by omega) (by omega) hu hv HUA.out HVB.out HU1.out HV1.out huv)
          have HS : Aside0 (setsTo i es (t + 1) = (Sets.joinOf (setsTo i es t) (a : Int) (b : Int)).1) := ⟨by rw [setsTo_succ i es hte, HTE.out]⟩
          have t2 : ((u1 : Int) != (v1 : Int)) = true := bne_iff_ne.2 (by omega)
          have z2 := HP3.out.t.cell (i := u1) (by rw [HP3.out.lt]; exact hu)
          rw [HU1.out] at z2
          have f2 := HP3.out.t.free u1
          have HP4 := Aside0.mk (HP3.out.putT u1 (v1 : Int))
          obtain ⟨k1, rfl⟩ : ∃ k1, k = k1 + 1 := ⟨Sets.sets (Sets.joinOf (setsTo i es t) (a : Int) (b : Int)).1, by have := HJ.out.2; have := HC.out; omega⟩
          have HC4 : Aside0 (k1 = Sets.sets (setsTo i es (t + 1))) := ⟨by rw [HS.out]; have := HJ.out.2; have := HC.out; omega⟩
          have q1 : IntKind.i64.wrap (((k1 + 1 : Nat) : Int) - 1) = (k1 : Int) := by rw [IntWalk.i64_in _ (by omega)]; omega
          have q2 : ((k1 + 1 : Nat) : Int) = (k1 : Int) + 1 := by omega
          obtain ⟨kk, hkk⟩ : ∃ kk : Int, kk = ((k1 + 1 : Nat) : Int) := ⟨_, rfl⟩
          rw [← hkk] at q1 ⊢
          clear q2 HC
          go_wp2_with fail
          clear z1 t1 z2 f2 t2 q1 hkk
          go_roundw
          case rel => exact ⟨t + 1, k1, tp.set u1 (v1 : Int), dg3, by go_num, rfl, by omega, by omega, ⟨by rw [HS.out]; exact HJ.out.1⟩, HD3, HC4, HP4⟩
          case measure => simp [intOf]; omega
        ·have t1 : ((v1 : Int) != (v : Int)) = true := bne_iff_ne.2 (by omega)
         have HL : Aside0 (dep v1 < dep v) := ⟨by have := HDEP.out v hv (by rw [HV1.out]; omega); rw [HV1.out, Int.toNat_natCast] at this; exact this⟩
         have HVB2 : Aside0 (Sets.gt (setsTo i es t) v1 = Sets.gt (setsTo i es t) b) := ⟨by have := HU.out.cls v hv; rw [HV1.out, Int.toNat_natCast] at this; rw [this]; exact HVB.out⟩
         go_wp2_with fail
         clear z1 t1
         go_roundw
         case rel => exact ⟨v1, rfl, hv1i, HVB2, by first | rfl | trivial⟩
         case measure => have := HL.out; simp [intOf]; omega
      ·have t1 : ((u1 : Int) != (u : Int)) = true := bne_iff_ne.2 (by omega)
       have HL : Aside0 (dep u1 < dep u) := ⟨by have := HDEP.out u hu (by rw [HU1.out]; omega); rw [HU1.out, Int.toNat_natCast] at this; exact this⟩
       have HUA2 : Aside0 (Sets.gt (setsTo i es t) u1 = Sets.gt (setsTo i es t) a) := ⟨by have := HU.out.cls u hu; rw [HU1.out, Int.toNat_natCast] at this; rw [this]; exact HUA.out⟩
       go_wp2_with fail
       clear z1 t1
       go_roundw
       case rel => exact ⟨u1, rfl, hu1i, HUA2, by first | rfl | trivial⟩
       case measure => have := HL.out; simp [intOf]; omega
    ·obtain rfl : t = es.length := by omega
     go_wp2_with fail
     clear x1
     go_loopw [11, 12] (fun z y wr => ∃ (v k2 : Nat), y = .int .i64 (v : Int) ∧ z = .int .i64 (k2 : Int) ∧ v ≤ i ∧ Aside0 (k2 = loneF es v) ∧ Aside0 (PM w wr bg bt bd i (.slice A es.length c) tp dg)) (fun _ y _ => i - (intOf y).toNat)
     case atStart => exact ⟨0, 0, rfl, rfl, by omega, ⟨rfl⟩, HP⟩
     case round =>
      clear HP
      obtain ⟨v, k2, rfl, rfl, hv, HK, HP⟩ := hrel
      have x0 := HP.out.c0
      have hk2 : k2 ≤ v := by rw [HK.out]; exact loneF_le es v
      by_cases hvi : v < i
      ·have z1 := HP.out.d.cell (i := v) (by rw [HP.out.ld]; exact hvi)
       have hvi2 : (v : Int) < (i : Int) := by omega
       rw [HD.out v hvi] at z1
       by_cases h0 : Graph.cntF (froms es) (2 * es.length) (v : Int) = 0
       ·rw [h0] at z1
        have HK2 : Aside0 (k2 + 1 = loneF es (v + 1)) := ⟨by rw [loneF_succ, if_pos h0, HK.out]⟩
        clear h0
        go_wp2_with fail
        clear z1 x0
        go_roundw
        case rel => exact ⟨v + 1, k2 + 1, by go_num, by go_num, by omega, HK2, HP⟩
        case measure => simp [intOf]; omega
       ·have HK2 : Aside0 (k2 = loneF es (v + 1)) := ⟨by rw [loneF_succ, if_neg h0, HK.out]; omega⟩
        obtain ⟨q, hq⟩ : ∃ q : Int, q = ((Graph.cntF (froms es) (2 * es.length) (v : Int) : Nat) : Int) := ⟨_, rfl⟩
        have t1 : (q == 0) = false := beq_eq_false_iff_ne.2 (by omega)
        rw [← hq] at z1
        clear h0 hq
        go_wp2_with fail
        clear z1 x0 t1
        go_roundw
        case rel => exact ⟨v + 1, k2, by go_num, rfl, by omega, HK2, HP⟩
        case measure => simp [intOf]; omega
      ·obtain rfl : v = i := by omega
       go_wp2_with fail
       go_ret2
       exact ⟨by rw [← HK.out, ← HC.out]; rfl, HP.out.old⟩
end Uni
namespace Graph
open Mem Rot
theorem to04_calls (n : Int) (A : Option Addr) (c : Nat) (es : List (Int × Int)) (h : Nat) (w : World) (he : Pairs w A es) (hl : es.length ≤ 4194304) (hh : h < 2 * es.length) :
  Calls Try.prog 42 #[.agg #[.int .i64 n, .slice A es.length c], .int .i64 (h : Int)] w fun e w' => e = .returned (.int .i64 (gi (tosL es) h)) ∧ Below w.heap.size w w' := by
 have HE := Aside0.mk he
 have HB := Aside0.mk ((Below.refl w.heap.size w).alloc (Nat.le_refl _) (.cells #[.int .i64 n, .slice A es.length c] 24 (0, 0)))
 have HX := Aside0.mk (heap_last w (.cells #[.int .i64 n, .slice A es.length c] 24 (0, 0)))
 have x0 : (w.alloc (.cells #[.int .i64 n, .slice A es.length c] 24 (0, 0))).cell? ⟨w.heap.size, 0, none⟩ = some (.int .i64 n) := heap_cell HX.out rfl
 have x1 : (w.alloc (.cells #[.int .i64 n, .slice A es.length c] 24 (0, 0))).cell? ⟨w.heap.size, 1, none⟩ = some (.slice A es.length c) := heap_cell HX.out rfl
 have ht := (Seen.froms_tw hl hh).2
 obtain ⟨k, hk⟩ : ∃ k : Nat, k = if h % 2 = 0 then h + 1 else h - 1 := ⟨_, rfl⟩
 have hkk := Seen.tw_nat (q := h) (by omega)
 rw [← hk] at hkk
 have hb : Go.bits .xor .i64 (h : Int) 1 = (k : Int) := hkk
 rw [hkk, Int.toNat_natCast] at ht
 have HT := Aside0.mk ht
 have HK : Aside0 (k < 2 * es.length) := ⟨by rw [hk]; split <;> omega⟩
 clear he ht hkk hk
 go_enter Try.func42, Try.ntmps42
 go_wp2_with fail
 refine (from04_calls n A c es k _ (HE.out.below HB.out) hl HK.out).mono ?_
 rintro e' w2 ⟨rfl, hb2⟩
 have HB2 := Aside0.mk (HB.out.trans (hb2.mono HB.out.size))
 clear hb2 x0 x1
 go_wp2_with fail
 go_ret
 exact ⟨by rw [HT.out]; rfl, HB2.out⟩
theorem tos_in {N : Nat} {es : List (Int × Int)} (hg : ValH.goodB (N : Int) es = true) {h : Nat} (hh : h < 2 * es.length) : 0 ≤ gi (tosL es) h ∧ gi (tosL es) h < (N : Int) := by
 obtain ⟨u, v, e, huv, hv⟩ := Uni.good_at hg (i := h / 2) (by omega)
 have h1 := tos_two es (h / 2) (by omega)
 rw [e] at h1
 rcases Nat.mod_two_eq_zero_or_one h with q | q
 ·rw [show h = 2 * (h / 2) by omega, h1.1]; omega
 ·rw [show h = 2 * (h / 2) + 1 by omega, h1.2]; omega
end Graph
end Go.Proofs.Ytaepieadbfndnaa
