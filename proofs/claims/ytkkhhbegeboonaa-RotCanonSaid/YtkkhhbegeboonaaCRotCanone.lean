/- DERIVED. Texts of this seat, one behind the other: lemmas and walks that the statement RotCanon needs. No condition. -/
import Derived.Test.YtkkhhbegeboonaaCRotCanona
import Derived.Test.YtkkhhbegeboonaaCRotCanonc
import Derived.Test.YtkkhhbegeboonaaCRotCanond
import Derived.Test.YtkkhhbegeboonaaCRotCanonb
-- Written by a program of this session (wip/tools/printx.py) over the kit's printer and texts of its own; it is no print of print.sh.








namespace Go.Proofs.Ytkkhhbegeboonaa.GAll
open Go.RowKit Go.Proofs.YtkkhhbegeboonaaW.PrintWords Go.Proofs.YtkkhhbegeboonaaW.PrintLast Go.Proofs.YtkkhhbegeboonaaW.PrintMore
attribute [local go_sem] max2_int min2_int max_two min_two max_three min_three max_four min_four   -- for this text's walks alone
set_option linter.unusedVariables false
set_option linter.unusedSimpArgs false

/-! ### tangramlaw11_RotCanon: function 8 -/
mutual
def tangramlaw11_RotCanon.j0 : Nat → List (List Int) → List (List Int) → Int → List (List Int) → Bool → Int → List (S59) → Option (Bool)
  | 0, _, _, _, _, _, _, _ => none
  | k + 1, x1, x2, x10, x11, x62, x333000, x333001 => if x62 = true then (some false) else (tangramlaw11_RotCanon.l0 k x1 x2 x10 x11 x11 (x11.length : Int) 0 x333000 x333001)
def tangramlaw11_RotCanon.l0 : Nat → List (List Int) → List (List Int) → Int → List (List Int) → List (List Int) → Int → Int → Int → List (S59) → Option (Bool)
  | 0, _, _, _, _, _, _, _, _, _ => none
  | k + 1, x1, x2, x10, x11, x63, x64, x65, x333000, x333001 => if x65 < x64 then (if 0 ≤ x65 then (if x65 < (x63.length : Int) then (tangramlaw11_RotCanon.l1 k x1 x2 x10 x11 (rd_L4 x63 x65) x63 x64 x65 (rd_L4 x63 x65) ((rd_L4 x63 x65).length : Int) 0 x333000 x333001) else (none)) else (none)) else (if x10 = 0 then ((rot_Same.f x1 x2).bind fun t351 => ((rot_Canon.f k x2).bind fun t352 => ((tangramref11_Equal.f k x11 t352).bind fun t355 => (tangramlaw11_RotCanon.j3 k x1 x11 (t351 != t355) x333000 x333001)))) else (tangramlaw11_RotCanon.j3 k x1 x11 false x333000 x333001))
def tangramlaw11_RotCanon.l1 : Nat → List (List Int) → List (List Int) → Int → List (List Int) → List Int → List (List Int) → Int → Int → List Int → Int → Int → Int → List (S59) → Option (Bool)
  | 0, _, _, _, _, _, _, _, _, _, _, _, _, _ => none
  | k + 1, x1, x2, x10, x11, x15, x63, x64, x65, x69, x70, x71, x333000, x333001 => if x71 < x70 then (if 0 ≤ x71 then (if x71 < (x69.length : Int) then (if 0 < (x15.length : Int) then (if (rd x69 x71) < (rd x15 0) then (some false) else (tangramlaw11_RotCanon.l1 k x1 x2 x10 x11 x15 x63 x64 x65 x69 x70 (wrap64 (x71 + 1)) x333000 x333001)) else (none)) else (none)) else (none)) else (tangramlaw11_RotCanon.l0 k x1 x2 x10 x11 x63 x64 (wrap64 (x65 + 1)) x333000 x333001)
def tangramlaw11_RotCanon.j3 : Nat → List (List Int) → List (List Int) → Bool → Int → List (S59) → Option (Bool)
  | 0, _, _, _, _, _ => none
  | k + 1, x1, x11, x93, x333000, x333001 => if x93 = true then (some false) else ((rot_Mirror.f k x1).bind fun t356 => ((rot_Mirror.f k t356).bind fun t359 => ((tangramref11_Equal.f k t359 x11).bind fun t362 => (if t362 = true then ((rot_Next.f k x333000 x333001 x1).bind fun bt363 => ((rot_Next.f k x333000 x333001 t356).bind fun bt367 => (if bt367.2 = 0 then (if (bt363.1.length : Int) = (wrap64 (2 * (x333001.length : Int))) then (tangramlaw11_RotCanon.j4 k bt363.1 bt367.1 ((bt367.1.length : Int) != (bt363.1.length : Int))) else (tangramlaw11_RotCanon.j4 k bt363.1 bt367.1 true)) else (tangramlaw11_RotCanon.j4 k bt363.1 bt367.1 true)))) else (some false)))))
def tangramlaw11_RotCanon.j4 : Nat → List Int → List Int → Bool → Option (Bool)
  | 0, _, _, _ => none
  | k + 1, x19, x21, x130 => if x130 = true then (some false) else (tangramlaw11_RotCanon.l2 k x19 x21 (x19.length : Int) 0)
def tangramlaw11_RotCanon.l2 : Nat → List Int → List Int → Int → Int → Option (Bool)
  | 0, _, _, _, _ => none
  | k + 1, x19, x21, x132, x133 => if x133 < x132 then (if 0 ≤ x133 then (if x133 < (x19.length : Int) then (if (rd x19 x133) < 0 then (some false) else (if (rd x19 x133) ≥ (x21.length : Int) then (some false) else (if 0 ≤ (rd x19 x133) then (if (rd x19 x133) < (x21.length : Int) then (if (rd x21 (rd x19 x133)) = x133 then (tangramlaw11_RotCanon.l2 k x19 x21 x132 (wrap64 (x133 + 1))) else (some false)) else (none)) else (none)))) else (none)) else (none)) else (some true)
end
def tangramlaw11_RotCanon.f (k : Nat) (a0_0 : Int) (l0_1 : List (S59)) (l1 : List (List Int)) (l2 : List (List Int)) : Option (Bool) := (tangramlaw11_fixed.f).bind fun t333 => (if t333 = true then ((rot_Check.f k a0_0 l0_1 l1).bind fun bt334 => ((rot_Check.f k a0_0 l0_1 l2).bind fun bt336 => (if bt334.2 = 0 then ((rot_Canon.f k l1).bind fun t338 => ((rot_Check.f k a0_0 l0_1 t338).bind fun bt341 => (if bt341.2 = 0 then ((rot_Same.f t338 l1).bind fun t343 => (if t343 = true then ((rot_Canon.f k t338).bind fun t344 => ((tangramref11_Equal.f k t344 t338).bind fun t347 => (tangramlaw11_RotCanon.j0 k l1 l2 bt336.2 t338 (!t347) a0_0 l0_1))) else (tangramlaw11_RotCanon.j0 k l1 l2 bt336.2 t338 true a0_0 l0_1))) else (tangramlaw11_RotCanon.j0 k l1 l2 bt336.2 t338 true a0_0 l0_1)))) else (some true)))) else (some false))
theorem tangramlaw11_RotCanon.mono_l : ∀ k, (∀ y0 y1 y2 y3 y4 y5 y6, LeO (tangramlaw11_RotCanon.j0 k y0 y1 y2 y3 y4 y5 y6) (tangramlaw11_RotCanon.j0 (k + 1) y0 y1 y2 y3 y4 y5 y6)) ∧ (∀ y0 y1 y2 y3 y4 y5 y6 y7 y8, LeO (tangramlaw11_RotCanon.l0 k y0 y1 y2 y3 y4 y5 y6 y7 y8) (tangramlaw11_RotCanon.l0 (k + 1) y0 y1 y2 y3 y4 y5 y6 y7 y8)) ∧ (∀ y0 y1 y2 y3 y4 y5 y6 y7 y8 y9 y10 y11 y12, LeO (tangramlaw11_RotCanon.l1 k y0 y1 y2 y3 y4 y5 y6 y7 y8 y9 y10 y11 y12) (tangramlaw11_RotCanon.l1 (k + 1) y0 y1 y2 y3 y4 y5 y6 y7 y8 y9 y10 y11 y12)) ∧ (∀ y0 y1 y2 y3 y4, LeO (tangramlaw11_RotCanon.j3 k y0 y1 y2 y3 y4) (tangramlaw11_RotCanon.j3 (k + 1) y0 y1 y2 y3 y4)) ∧ (∀ y0 y1 y2, LeO (tangramlaw11_RotCanon.j4 k y0 y1 y2) (tangramlaw11_RotCanon.j4 (k + 1) y0 y1 y2)) ∧ (∀ y0 y1 y2 y3, LeO (tangramlaw11_RotCanon.l2 k y0 y1 y2 y3) (tangramlaw11_RotCanon.l2 (k + 1) y0 y1 y2 y3))
  | 0 => ⟨fun _ _ _ _ _ _ _ r h => by simp [tangramlaw11_RotCanon.j0] at h, fun _ _ _ _ _ _ _ _ _ r h => by simp [tangramlaw11_RotCanon.l0] at h, fun _ _ _ _ _ _ _ _ _ _ _ _ _ r h => by simp [tangramlaw11_RotCanon.l1] at h, fun _ _ _ _ _ r h => by simp [tangramlaw11_RotCanon.j3] at h, fun _ _ _ r h => by simp [tangramlaw11_RotCanon.j4] at h, fun _ _ _ _ r h => by simp [tangramlaw11_RotCanon.l2] at h⟩
  | k + 1 => by
    obtain ⟨ih0, ih1, ih2, ih3, ih4, ih5⟩ := tangramlaw11_RotCanon.mono_l k
    refine ⟨?_, ?_, ?_, ?_, ?_, ?_⟩
    · intro y0 y1 y2 y3 y4 y5 y6
      unfold tangramlaw11_RotCanon.j0
      repeat' first
      | (with_reducible exact ih0 _ _ _ _ _ _ _)
      | (with_reducible exact ih1 _ _ _ _ _ _ _ _ _)
      | (with_reducible exact ih2 _ _ _ _ _ _ _ _ _ _ _ _ _)
      | (with_reducible exact ih3 _ _ _ _ _)
      | (with_reducible exact ih4 _ _ _)
      | (with_reducible exact ih5 _ _ _ _)
      | (with_reducible exact rot_Canon.mono _ _)
      | (with_reducible exact rot_Check.mono _ _ _ _)
      | (with_reducible exact rot_Mirror.mono _ _)
      | (with_reducible exact rot_Next.mono _ _ _ _)
      | (with_reducible exact tangramref11_Equal.mono _ _ _)
      | (with_reducible exact LeO.refl _)
      | (with_reducible exact LeO.none _)
      | (with_reducible refine LeO.ite ?_ ?_)
      | (with_reducible refine LeO.bind ?_ (fun _ => ?_))
      | exact ih0 _ _ _ _ _ _ _
      | exact ih1 _ _ _ _ _ _ _ _ _
      | exact ih2 _ _ _ _ _ _ _ _ _ _ _ _ _
      | exact ih3 _ _ _ _ _
      | exact ih4 _ _ _
      | exact ih5 _ _ _ _
      | exact rot_Canon.mono _ _
      | exact rot_Check.mono _ _ _ _
      | exact rot_Mirror.mono _ _
      | exact rot_Next.mono _ _ _ _
      | exact tangramref11_Equal.mono _ _ _
      | exact LeO.none _
      | refine LeO.ite ?_ ?_
      | refine LeO.bind ?_ (fun _ => ?_)
    · intro y0 y1 y2 y3 y4 y5 y6 y7 y8
      unfold tangramlaw11_RotCanon.l0
      repeat' first
      | (with_reducible exact ih0 _ _ _ _ _ _ _)
      | (with_reducible exact ih1 _ _ _ _ _ _ _ _ _)
      | (with_reducible exact ih2 _ _ _ _ _ _ _ _ _ _ _ _ _)
      | (with_reducible exact ih3 _ _ _ _ _)
      | (with_reducible exact ih4 _ _ _)
      | (with_reducible exact ih5 _ _ _ _)
      | (with_reducible exact rot_Canon.mono _ _)
      | (with_reducible exact rot_Check.mono _ _ _ _)
      | (with_reducible exact rot_Mirror.mono _ _)
      | (with_reducible exact rot_Next.mono _ _ _ _)
      | (with_reducible exact tangramref11_Equal.mono _ _ _)
      | (with_reducible exact LeO.refl _)
      | (with_reducible exact LeO.none _)
      | (with_reducible refine LeO.ite ?_ ?_)
      | (with_reducible refine LeO.bind ?_ (fun _ => ?_))
      | exact ih0 _ _ _ _ _ _ _
      | exact ih1 _ _ _ _ _ _ _ _ _
      | exact ih2 _ _ _ _ _ _ _ _ _ _ _ _ _
      | exact ih3 _ _ _ _ _
      | exact ih4 _ _ _
      | exact ih5 _ _ _ _
      | exact rot_Canon.mono _ _
      | exact rot_Check.mono _ _ _ _
      | exact rot_Mirror.mono _ _
      | exact rot_Next.mono _ _ _ _
      | exact tangramref11_Equal.mono _ _ _
      | exact LeO.none _
      | refine LeO.ite ?_ ?_
      | refine LeO.bind ?_ (fun _ => ?_)
    · intro y0 y1 y2 y3 y4 y5 y6 y7 y8 y9 y10 y11 y12
      unfold tangramlaw11_RotCanon.l1
      repeat' first
      | (with_reducible exact ih0 _ _ _ _ _ _ _)
      | (with_reducible exact ih1 _ _ _ _ _ _ _ _ _)
      | (with_reducible exact ih2 _ _ _ _ _ _ _ _ _ _ _ _ _)
      | (with_reducible exact ih3 _ _ _ _ _)
      | (with_reducible exact ih4 _ _ _)
      | (with_reducible exact ih5 _ _ _ _)
      | (with_reducible exact rot_Canon.mono _ _)
      | (with_reducible exact rot_Check.mono _ _ _ _)
      | (with_reducible exact rot_Mirror.mono _ _)
      | (with_reducible exact rot_Next.mono _ _ _ _)
      | (with_reducible exact tangramref11_Equal.mono _ _ _)
      | (with_reducible exact LeO.refl _)
      | (with_reducible exact LeO.none _)
      | (with_reducible refine LeO.ite ?_ ?_)
      | (with_reducible refine LeO.bind ?_ (fun _ => ?_))
      | exact ih0 _ _ _ _ _ _ _
      | exact ih1 _ _ _ _ _ _ _ _ _
      | exact ih2 _ _ _ _ _ _ _ _ _ _ _ _ _
      | exact ih3 _ _ _ _ _
      | exact ih4 _ _ _
      | exact ih5 _ _ _ _
      | exact rot_Canon.mono _ _
      | exact rot_Check.mono _ _ _ _
      | exact rot_Mirror.mono _ _
      | exact rot_Next.mono _ _ _ _
      | exact tangramref11_Equal.mono _ _ _
      | exact LeO.none _
      | refine LeO.ite ?_ ?_
      | refine LeO.bind ?_ (fun _ => ?_)
    · intro y0 y1 y2 y3 y4
      unfold tangramlaw11_RotCanon.j3
      repeat' first
      | (with_reducible exact ih0 _ _ _ _ _ _ _)
      | (with_reducible exact ih1 _ _ _ _ _ _ _ _ _)
      | (with_reducible exact ih2 _ _ _ _ _ _ _ _ _ _ _ _ _)
      | (with_reducible exact ih3 _ _ _ _ _)
      | (with_reducible exact ih4 _ _ _)
      | (with_reducible exact ih5 _ _ _ _)
      | (with_reducible exact rot_Canon.mono _ _)
      | (with_reducible exact rot_Check.mono _ _ _ _)
      | (with_reducible exact rot_Mirror.mono _ _)
      | (with_reducible exact rot_Next.mono _ _ _ _)
      | (with_reducible exact tangramref11_Equal.mono _ _ _)
      | (with_reducible exact LeO.refl _)
      | (with_reducible exact LeO.none _)
      | (with_reducible refine LeO.ite ?_ ?_)
      | (with_reducible refine LeO.bind ?_ (fun _ => ?_))
      | exact ih0 _ _ _ _ _ _ _
      | exact ih1 _ _ _ _ _ _ _ _ _
      | exact ih2 _ _ _ _ _ _ _ _ _ _ _ _ _
      | exact ih3 _ _ _ _ _
      | exact ih4 _ _ _
      | exact ih5 _ _ _ _
      | exact rot_Canon.mono _ _
      | exact rot_Check.mono _ _ _ _
      | exact rot_Mirror.mono _ _
      | exact rot_Next.mono _ _ _ _
      | exact tangramref11_Equal.mono _ _ _
      | exact LeO.none _
      | refine LeO.ite ?_ ?_
      | refine LeO.bind ?_ (fun _ => ?_)
    · intro y0 y1 y2
      unfold tangramlaw11_RotCanon.j4
      repeat' first
      | (with_reducible exact ih0 _ _ _ _ _ _ _)
      | (with_reducible exact ih1 _ _ _ _ _ _ _ _ _)
      | (with_reducible exact ih2 _ _ _ _ _ _ _ _ _ _ _ _ _)
      | (with_reducible exact ih3 _ _ _ _ _)
      | (with_reducible exact ih4 _ _ _)
      | (with_reducible exact ih5 _ _ _ _)
      | (with_reducible exact rot_Canon.mono _ _)
      | (with_reducible exact rot_Check.mono _ _ _ _)
      | (with_reducible exact rot_Mirror.mono _ _)
      | (with_reducible exact rot_Next.mono _ _ _ _)
      | (with_reducible exact tangramref11_Equal.mono _ _ _)
      | (with_reducible exact LeO.refl _)
      | (with_reducible exact LeO.none _)
      | (with_reducible refine LeO.ite ?_ ?_)
      | (with_reducible refine LeO.bind ?_ (fun _ => ?_))
      | exact ih0 _ _ _ _ _ _ _
      | exact ih1 _ _ _ _ _ _ _ _ _
      | exact ih2 _ _ _ _ _ _ _ _ _ _ _ _ _
      | exact ih3 _ _ _ _ _
      | exact ih4 _ _ _
      | exact ih5 _ _ _ _
      | exact rot_Canon.mono _ _
      | exact rot_Check.mono _ _ _ _
      | exact rot_Mirror.mono _ _
      | exact rot_Next.mono _ _ _ _
      | exact tangramref11_Equal.mono _ _ _
      | exact LeO.none _
      | refine LeO.ite ?_ ?_
      | refine LeO.bind ?_ (fun _ => ?_)
    · intro y0 y1 y2 y3
      unfold tangramlaw11_RotCanon.l2
      repeat' first
      | (with_reducible exact ih0 _ _ _ _ _ _ _)
      | (with_reducible exact ih1 _ _ _ _ _ _ _ _ _)
      | (with_reducible exact ih2 _ _ _ _ _ _ _ _ _ _ _ _ _)
      | (with_reducible exact ih3 _ _ _ _ _)
      | (with_reducible exact ih4 _ _ _)
      | (with_reducible exact ih5 _ _ _ _)
      | (with_reducible exact rot_Canon.mono _ _)
      | (with_reducible exact rot_Check.mono _ _ _ _)
      | (with_reducible exact rot_Mirror.mono _ _)
      | (with_reducible exact rot_Next.mono _ _ _ _)
      | (with_reducible exact tangramref11_Equal.mono _ _ _)
      | (with_reducible exact LeO.refl _)
      | (with_reducible exact LeO.none _)
      | (with_reducible refine LeO.ite ?_ ?_)
      | (with_reducible refine LeO.bind ?_ (fun _ => ?_))
      | exact ih0 _ _ _ _ _ _ _
      | exact ih1 _ _ _ _ _ _ _ _ _
      | exact ih2 _ _ _ _ _ _ _ _ _ _ _ _ _
      | exact ih3 _ _ _ _ _
      | exact ih4 _ _ _
      | exact ih5 _ _ _ _
      | exact rot_Canon.mono _ _
      | exact rot_Check.mono _ _ _ _
      | exact rot_Mirror.mono _ _
      | exact rot_Next.mono _ _ _ _
      | exact tangramref11_Equal.mono _ _ _
      | exact LeO.none _
      | refine LeO.ite ?_ ?_
      | refine LeO.bind ?_ (fun _ => ?_)
theorem tangramlaw11_RotCanon.mono : ∀ a0 a1 a2 a3 k, LeO (tangramlaw11_RotCanon.f k a0 a1 a2 a3) (tangramlaw11_RotCanon.f (k + 1) a0 a1 a2 a3) := by
  intro a0 a1 a2 a3 k
  obtain ⟨ih0, ih1, ih2, ih3, ih4, ih5⟩ := tangramlaw11_RotCanon.mono_l k
  unfold tangramlaw11_RotCanon.f
  repeat' first
      | (with_reducible exact ih0 _ _ _ _ _ _ _)
      | (with_reducible exact ih1 _ _ _ _ _ _ _ _ _)
      | (with_reducible exact ih2 _ _ _ _ _ _ _ _ _ _ _ _ _)
      | (with_reducible exact ih3 _ _ _ _ _)
      | (with_reducible exact ih4 _ _ _)
      | (with_reducible exact ih5 _ _ _ _)
      | (with_reducible exact rot_Canon.mono _ _)
      | (with_reducible exact rot_Check.mono _ _ _ _)
      | (with_reducible exact rot_Mirror.mono _ _)
      | (with_reducible exact rot_Next.mono _ _ _ _)
      | (with_reducible exact tangramref11_Equal.mono _ _ _)
      | (with_reducible exact LeO.refl _)
      | (with_reducible exact LeO.none _)
      | (with_reducible refine LeO.ite ?_ ?_)
      | (with_reducible refine LeO.bind ?_ (fun _ => ?_))
      | exact ih0 _ _ _ _ _ _ _
      | exact ih1 _ _ _ _ _ _ _ _ _
      | exact ih2 _ _ _ _ _ _ _ _ _ _ _ _ _
      | exact ih3 _ _ _ _ _
      | exact ih4 _ _ _
      | exact ih5 _ _ _ _
      | exact rot_Canon.mono _ _
      | exact rot_Check.mono _ _ _ _
      | exact rot_Mirror.mono _ _
      | exact rot_Next.mono _ _ _ _
      | exact tangramref11_Equal.mono _ _ _
      | exact LeO.none _
      | refine LeO.ite ?_ ?_
      | refine LeO.bind ?_ (fun _ => ?_)
set_option maxHeartbeats 8000000 in
set_option maxRecDepth 100000 in
theorem tangramlaw11_RotCanon.calls (k : Nat) (a0_0 : Int) (A0_1 : Option Addr) (c0_1 : Nat) (l0_1 : List (S59)) (A1 : Option Addr) (c1 : Nat) (l1 : List (List Int)) (A2 : Option Addr) (c2 : Nat) (l2 : List (List Int)) (r : Bool) (w : World) (hr0_1 : Kd.C k59 w A0_1 l0_1.length l0_1) (hc0_1 : l0_1.length ≤ c0_1) (hr1 : Kd.C (Kd.slice 3 (Kd.int .i64)) w A1 l1.length l1) (hc1 : l1.length ≤ c1) (hr2 : Kd.C (Kd.slice 3 (Kd.int .i64)) w A2 l2.length l2) (hc2 : l2.length ≤ c2) (h : tangramlaw11_RotCanon.f k a0_0 l0_1 l1 l2 = some r) :
    Calls Try.prog 8 #[.agg #[.int .i64 a0_0, .slice A0_1 l0_1.length c0_1], .slice A1 l1.length c1, .slice A2 l2.length c2] w fun e w' => e = .returned (.bool r) ∧ Below w.heap.size w w' := by
  have hu24 := Try.underlying24
  have HR0_1 := Aside0.mk hr0_1
  have HC0_1 := Aside0.mk hc0_1
  clear hr0_1 hc0_1
  have HR1 := Aside0.mk hr1
  have HC1 := Aside0.mk hc1
  clear hr1 hc1
  have HR2 := Aside0.mk hr2
  have HC2 := Aside0.mk hc2
  clear hr2 hc2
  have HB := Aside0.mk (Below.refl w.heap.size w)
  have H : ((tangramlaw11_fixed.f).bind fun t333 => (if t333 = true then ((rot_Check.f k a0_0 l0_1 l1).bind fun bt334 => ((rot_Check.f k a0_0 l0_1 l2).bind fun bt336 => (if bt334.2 = 0 then ((rot_Canon.f k l1).bind fun t338 => ((rot_Check.f k a0_0 l0_1 t338).bind fun bt341 => (if bt341.2 = 0 then ((rot_Same.f t338 l1).bind fun t343 => (if t343 = true then ((rot_Canon.f k t338).bind fun t344 => ((tangramref11_Equal.f k t344 t338).bind fun t347 => (tangramlaw11_RotCanon.j0 k l1 l2 bt336.2 t338 (!t347) a0_0 l0_1))) else (tangramlaw11_RotCanon.j0 k l1 l2 bt336.2 t338 true a0_0 l0_1))) else (tangramlaw11_RotCanon.j0 k l1 l2 bt336.2 t338 true a0_0 l0_1)))) else (some true)))) else (some false))) = some r := h
  clear h
  replace H := Option.bind_eq_some_iff.mp H
  obtain ⟨t333, A40, H⟩ := H
  replace H : (if t333 = true then ((rot_Check.f k a0_0 l0_1 l1).bind fun bt334 => ((rot_Check.f k a0_0 l0_1 l2).bind fun bt336 => (if bt334.2 = 0 then ((rot_Canon.f k l1).bind fun t338 => ((rot_Check.f k a0_0 l0_1 t338).bind fun bt341 => (if bt341.2 = 0 then ((rot_Same.f t338 l1).bind fun t343 => (if t343 = true then ((rot_Canon.f k t338).bind fun t344 => ((tangramref11_Equal.f k t344 t338).bind fun t347 => (tangramlaw11_RotCanon.j0 k l1 l2 bt336.2 t338 (!t347) a0_0 l0_1))) else (tangramlaw11_RotCanon.j0 k l1 l2 bt336.2 t338 true a0_0 l0_1))) else (tangramlaw11_RotCanon.j0 k l1 l2 bt336.2 t338 true a0_0 l0_1)))) else (some true)))) else (some false)) = some r := H
  have A4 := Aside0.mk A40
  clear A40
  by_cases c5 : t333 = true
  · subst c5
    have H1 : ((rot_Check.f k a0_0 l0_1 l1).bind fun bt334 => ((rot_Check.f k a0_0 l0_1 l2).bind fun bt336 => (if bt334.2 = 0 then ((rot_Canon.f k l1).bind fun t338 => ((rot_Check.f k a0_0 l0_1 t338).bind fun bt341 => (if bt341.2 = 0 then ((rot_Same.f t338 l1).bind fun t343 => (if t343 = true then ((rot_Canon.f k t338).bind fun t344 => ((tangramref11_Equal.f k t344 t338).bind fun t347 => (tangramlaw11_RotCanon.j0 k l1 l2 bt336.2 t338 (!t347) a0_0 l0_1))) else (tangramlaw11_RotCanon.j0 k l1 l2 bt336.2 t338 true a0_0 l0_1))) else (tangramlaw11_RotCanon.j0 k l1 l2 bt336.2 t338 true a0_0 l0_1)))) else (some true)))) = some r := by rw [if_pos rfl] at H; exact H
    clear H
    have H := H1
    clear H1
    replace H := Option.bind_eq_some_iff.mp H
    obtain ⟨⟨t334, t335⟩, A60, H⟩ := H
    replace H : ((rot_Check.f k a0_0 l0_1 l2).bind fun bt336 => (if t335 = 0 then ((rot_Canon.f k l1).bind fun t338 => ((rot_Check.f k a0_0 l0_1 t338).bind fun bt341 => (if bt341.2 = 0 then ((rot_Same.f t338 l1).bind fun t343 => (if t343 = true then ((rot_Canon.f k t338).bind fun t344 => ((tangramref11_Equal.f k t344 t338).bind fun t347 => (tangramlaw11_RotCanon.j0 k l1 l2 bt336.2 t338 (!t347) a0_0 l0_1))) else (tangramlaw11_RotCanon.j0 k l1 l2 bt336.2 t338 true a0_0 l0_1))) else (tangramlaw11_RotCanon.j0 k l1 l2 bt336.2 t338 true a0_0 l0_1)))) else (some true))) = some r := H
    have A6 := Aside0.mk A60
    clear A60
    replace H := Option.bind_eq_some_iff.mp H
    obtain ⟨⟨t336, t337⟩, A70, H⟩ := H
    replace H : (if t335 = 0 then ((rot_Canon.f k l1).bind fun t338 => ((rot_Check.f k a0_0 l0_1 t338).bind fun bt341 => (if bt341.2 = 0 then ((rot_Same.f t338 l1).bind fun t343 => (if t343 = true then ((rot_Canon.f k t338).bind fun t344 => ((tangramref11_Equal.f k t344 t338).bind fun t347 => (tangramlaw11_RotCanon.j0 k l1 l2 t337 t338 (!t347) a0_0 l0_1))) else (tangramlaw11_RotCanon.j0 k l1 l2 t337 t338 true a0_0 l0_1))) else (tangramlaw11_RotCanon.j0 k l1 l2 t337 t338 true a0_0 l0_1)))) else (some true)) = some r := H
    have A7 := Aside0.mk A70
    clear A70
    by_cases c8 : t335 = 0
    · rw [if_pos c8] at H
      have c8b0 : (t335 == 0) = true := beq_iff_eq.mpr c8
      have c8b1 : (t335 != 0) = false := bne_eq_false_iff_eq.mpr c8
      clear c8
      replace H := Option.bind_eq_some_iff.mp H
      obtain ⟨t338, A90, H⟩ := H
      replace H : ((rot_Check.f k a0_0 l0_1 t338).bind fun bt341 => (if bt341.2 = 0 then ((rot_Same.f t338 l1).bind fun t343 => (if t343 = true then ((rot_Canon.f k t338).bind fun t344 => ((tangramref11_Equal.f k t344 t338).bind fun t347 => (tangramlaw11_RotCanon.j0 k l1 l2 t337 t338 (!t347) a0_0 l0_1))) else (tangramlaw11_RotCanon.j0 k l1 l2 t337 t338 true a0_0 l0_1))) else (tangramlaw11_RotCanon.j0 k l1 l2 t337 t338 true a0_0 l0_1))) = some r := H
      have A9 := Aside0.mk A90
      clear A90
      replace H := Option.bind_eq_some_iff.mp H
      obtain ⟨⟨t341, t342⟩, A100, H⟩ := H
      replace H : (if t342 = 0 then ((rot_Same.f t338 l1).bind fun t343 => (if t343 = true then ((rot_Canon.f k t338).bind fun t344 => ((tangramref11_Equal.f k t344 t338).bind fun t347 => (tangramlaw11_RotCanon.j0 k l1 l2 t337 t338 (!t347) a0_0 l0_1))) else (tangramlaw11_RotCanon.j0 k l1 l2 t337 t338 true a0_0 l0_1))) else (tangramlaw11_RotCanon.j0 k l1 l2 t337 t338 true a0_0 l0_1)) = some r := H
      have A10 := Aside0.mk A100
      clear A100
      have HC11 := Aside0.mk H
      clear H
      go_enter Try.func8, Try.ntmps8
      go_upto_region 9 with (first | ((with_reducible refine gate_dst (N := 3) rfl ?_); (try (refine gate_guard (by rfl) ?_; dsimp only)); refine box_event ?hg (N := 3) ?hd (cs := #[.int .i64 a0_0, .slice A0_1 l0_1.length c0_1]) (t := 24) ?hr ?_; (case hd => rfl); (case hg => rfl); (case hr => first | (go_simp; done) | (go_simp; rfl)); intro gb332 hg w12 hbox hb; have n0_ := Aside0.mk (below_step (by repeat (first | (with_reducible first | exact HB.out | apply below_alloc | apply pw_below_drewN | apply below_drew1) | exact HB.out)) hb); have n1_ := Aside0.mk (hbox); have n2_ := Aside0.mk ((by rw [hg]; exact (below_size (by repeat (first | (with_reducible first | exact HB.out | apply below_alloc | apply pw_below_drewN | apply below_drew1) | exact HB.out))) : w.heap.size ≤ gb332)); have n3_ := Aside0.mk ((by rw [hg]; exact (below_size (by repeat (first | (with_reducible first | exact HB.out | apply below_alloc | apply pw_below_drewN | apply below_drew1) | exact HB.out))) : w.heap.size ≤ gb332)); clear HB; have HB := n0_; have BK332 := n1_; have GW332 := n2_; have GE332 := n3_; clear n0_ n1_ n2_ n3_; clear hb hbox hg) | ((with_reducible refine gate_callee (f := 11) rfl ?_); refine goesL_ (some 24) rfl rfl Try.func11 (by kernel_rfl) rfl #[] rfl (by (try simp only [List.map_toArray, List.map_cons, List.map_nil]); first | done | rfl | (simp only [List.length_drop, List.length_take]; rfl)) ?_; (with_reducible refine (tangramlaw11_fixed.calls  true _ A4.out).mono ?_); rintro e w13 ⟨rfl, hb⟩; refine ⟨_, rfl, ?_⟩; have n0_ := Aside0.mk (blk_below (g := gb332) (o := .cells #[.int .i64 a0_0, .slice A0_1 l0_1.length c0_1] 24 (0, 0)) (by (with_reducible repeat (first | refine blk_drewN ?_ _ | refine blk_drew ?_ | refine blk_alloc ?_ _)); exact BK332.out) hb); have n1_ := Aside0.mk (below_step (by repeat (first | (with_reducible first | exact HB.out | apply below_alloc | apply pw_below_drewN | apply below_drew1 | refine below_set ?_ GE332.out) | exact HB.out)) hb); clear BK332; clear HB; have BK332 := n0_; have HB := n1_; clear n0_ n1_; (try clear hb); (try clear hb2); (try clear hk); (try clear hi); have hcz14_0 : w13.cell? ⟨gb332, 0, none⟩ = some (.int .i64 a0_0) := (blk_cell BK332.out 0).trans rfl; have hcz14_1 : w13.cell? ⟨gb332, 1, none⟩ = some (.slice A0_1 l0_1.length c0_1) := (blk_cell BK332.out 1).trans rfl; have hfz14_0 := blk_frozen BK332.out 0; have hfz14_1 := blk_frozen BK332.out 1) | ((with_reducible refine gate_callee (f := 15) rfl ?_); refine goesL_ (some 29) rfl rfl Try.func15 (by kernel_rfl) rfl #[.agg #[.int .i64 a0_0, .slice A0_1 l0_1.length c0_1], .slice A1 l1.length c1] rfl (by (try simp only [List.map_toArray, List.map_cons, List.map_nil]); first | done | rfl | (simp only [List.length_drop, List.length_take]; rfl)) ?_; (with_reducible refine (rot_Check.calls k a0_0 _ _ l0_1 _ _ l1 t334 t335 _ ?side1 ?side2 ?side3 ?side4 A6.out).mono ?_); (case side1 => repeat (first | exact (Kd.C_below HR0_1.out HB.out) | (with_reducible refine Kd.C_alloc ?_ _) | (with_reducible refine Kd.C_drewN ?_ _) | (with_reducible refine Kd.C_drew ?_))); (case side2 => exact HC0_1.out); (case side3 => repeat (first | exact (Kd.C_below HR1.out HB.out) | (with_reducible refine Kd.C_alloc ?_ _) | (with_reducible refine Kd.C_drewN ?_ _) | (with_reducible refine Kd.C_drew ?_))); (case side4 => exact HC1.out); rintro e w15 ⟨rfl, hb⟩; refine ⟨_, rfl, ?_⟩; have n0_ := Aside0.mk (blk_below (g := gb332) (o := .cells #[.int .i64 a0_0, .slice A0_1 l0_1.length c0_1] 24 (0, 0)) (by (with_reducible repeat (first | refine blk_drewN ?_ _ | refine blk_drew ?_ | refine blk_alloc ?_ _)); exact BK332.out) hb); have n1_ := Aside0.mk (below_step (by repeat (first | (with_reducible first | exact HB.out | apply below_alloc | apply pw_below_drewN | apply below_drew1 | refine below_set ?_ GE332.out) | exact HB.out)) hb); clear BK332; clear HB; have BK332 := n0_; have HB := n1_; clear n0_ n1_; (try clear hb); (try clear hb2); (try clear hk); (try clear hi); have hcz16_0 : w15.cell? ⟨gb332, 0, none⟩ = some (.int .i64 a0_0) := (blk_cell BK332.out 0).trans rfl; have hcz16_1 : w15.cell? ⟨gb332, 1, none⟩ = some (.slice A0_1 l0_1.length c0_1) := (blk_cell BK332.out 1).trans rfl; have hfz16_0 := blk_frozen BK332.out 0; have hfz16_1 := blk_frozen BK332.out 1) | ((with_reducible refine gate_callee (f := 15) rfl ?_); refine goesL_ (some 35) rfl rfl Try.func15 (by kernel_rfl) rfl #[.agg #[.int .i64 a0_0, .slice A0_1 l0_1.length c0_1], .slice A2 l2.length c2] rfl (by (try simp only [List.map_toArray, List.map_cons, List.map_nil]); first | done | rfl | (simp only [List.length_drop, List.length_take]; rfl)) ?_; (with_reducible refine (rot_Check.calls k a0_0 _ _ l0_1 _ _ l2 t336 t337 _ ?side1 ?side2 ?side3 ?side4 A7.out).mono ?_); (case side1 => repeat (first | exact (Kd.C_below HR0_1.out HB.out) | (with_reducible refine Kd.C_alloc ?_ _) | (with_reducible refine Kd.C_drewN ?_ _) | (with_reducible refine Kd.C_drew ?_))); (case side2 => exact HC0_1.out); (case side3 => repeat (first | exact (Kd.C_below HR2.out HB.out) | (with_reducible refine Kd.C_alloc ?_ _) | (with_reducible refine Kd.C_drewN ?_ _) | (with_reducible refine Kd.C_drew ?_))); (case side4 => exact HC2.out); rintro e w17 ⟨rfl, hb⟩; refine ⟨_, rfl, ?_⟩; have n0_ := Aside0.mk (blk_below (g := gb332) (o := .cells #[.int .i64 a0_0, .slice A0_1 l0_1.length c0_1] 24 (0, 0)) (by (with_reducible repeat (first | refine blk_drewN ?_ _ | refine blk_drew ?_ | refine blk_alloc ?_ _)); exact BK332.out) hb); have n1_ := Aside0.mk (below_step (by repeat (first | (with_reducible first | exact HB.out | apply below_alloc | apply pw_below_drewN | apply below_drew1 | refine below_set ?_ GE332.out) | exact HB.out)) hb); clear BK332; clear HB; have BK332 := n0_; have HB := n1_; clear n0_ n1_; (try clear hb); (try clear hb2); (try clear hk); (try clear hi)) | ((with_reducible refine gate_callee (f := 25) rfl ?_); refine goesL_ (some 41) rfl rfl Try.func25 (by kernel_rfl) rfl #[.slice A1 l1.length c1] rfl (by (try simp only [List.map_toArray, List.map_cons, List.map_nil]); first | done | rfl | (simp only [List.length_drop, List.length_take]; rfl)) ?_; (with_reducible refine (rot_Canon.calls k _ _ l1 t338 _ ?side1 ?side2 A9.out).mono ?_); (case side1 => repeat (first | exact (Kd.C_below HR1.out HB.out) | (with_reducible refine Kd.C_alloc ?_ _) | (with_reducible refine Kd.C_drewN ?_ _) | (with_reducible refine Kd.C_drew ?_))); (case side2 => exact HC1.out); rintro e w18 ⟨v339, rfl, ho0, hb⟩; refine ⟨_, rfl, ?_⟩; have n0_ := Aside0.mk (Kd.S_lower ho0 (below_size (by repeat (first | (with_reducible first | exact HB.out | apply below_alloc | apply pw_below_drewN | apply below_drew1 | refine below_set ?_ GE332.out) | exact HB.out)))); have n1_ := Aside0.mk (blk_below (g := gb332) (o := .cells #[.int .i64 a0_0, .slice A0_1 l0_1.length c0_1] 24 (0, 0)) (by (with_reducible repeat (first | refine blk_drewN ?_ _ | refine blk_drew ?_ | refine blk_alloc ?_ _)); exact BK332.out) hb); have n2_ := Aside0.mk (below_step (by repeat (first | (with_reducible first | exact HB.out | apply below_alloc | apply pw_below_drewN | apply below_drew1 | refine below_set ?_ GE332.out) | exact HB.out)) hb); clear BK332; clear HB; have HO340 := n0_; have BK332 := n1_; have HB := n2_; clear n0_ n1_ n2_; (try clear hb); (try clear hb2); (try clear hk); (try clear hi); (try clear ho0); have hcz19_0 : w18.cell? ⟨gb332, 0, none⟩ = some (.int .i64 a0_0) := (blk_cell BK332.out 0).trans rfl; have hcz19_1 : w18.cell? ⟨gb332, 1, none⟩ = some (.slice A0_1 l0_1.length c0_1) := (blk_cell BK332.out 1).trans rfl; have hfz19_0 := blk_frozen BK332.out 0; have hfz19_1 := blk_frozen BK332.out 1; obtain ⟨Ao20, co20, eo20⟩ := Kd.S_slice HO340.out; subst eo20) | ((with_reducible refine gate_callee (f := 15) rfl ?_); refine goesL_ (some 45) rfl rfl Try.func15 (by kernel_rfl) rfl #[.agg #[.int .i64 a0_0, .slice A0_1 l0_1.length c0_1], .slice Ao20 t338.length co20] rfl (by (try simp only [List.map_toArray, List.map_cons, List.map_nil]); first | done | rfl | (simp only [List.length_drop, List.length_take]; rfl)) ?_; (with_reducible refine (rot_Check.calls k a0_0 _ _ l0_1 _ _ t338 t341 t342 _ ?side1 ?side2 ?side3 ?side4 A10.out).mono ?_); (case side1 => repeat (first | exact (Kd.C_below HR0_1.out HB.out) | (with_reducible refine Kd.C_alloc ?_ _) | (with_reducible refine Kd.C_drewN ?_ _) | (with_reducible refine Kd.C_drew ?_))); (case side2 => exact HC0_1.out); (case side3 => repeat (first | exact (Kd.S_reads' HO340.out).2.2 | (with_reducible refine Kd.C_alloc ?_ _) | (with_reducible refine Kd.C_drewN ?_ _) | (with_reducible refine Kd.C_drew ?_))); (case side4 => exact (Kd.S_reads' HO340.out).2.1); rintro e w21 ⟨rfl, hb⟩; refine ⟨_, rfl, ?_⟩; have n0_ := Aside0.mk (Kd.S_below (by (with_reducible repeat (first | apply Kd.S_alloc | apply Kd.S_drewN | apply Kd.S_drew)); exact HO340.out) hb); have n1_ := Aside0.mk (blk_below (g := gb332) (o := .cells #[.int .i64 a0_0, .slice A0_1 l0_1.length c0_1] 24 (0, 0)) (by (with_reducible repeat (first | refine blk_drewN ?_ _ | refine blk_drew ?_ | refine blk_alloc ?_ _)); exact BK332.out) hb); have n2_ := Aside0.mk (below_step (by repeat (first | (with_reducible first | exact HB.out | apply below_alloc | apply pw_below_drewN | apply below_drew1 | refine below_set ?_ GE332.out) | exact HB.out)) hb); clear HO340; clear BK332; clear HB; have HO340 := n0_; have BK332 := n1_; have HB := n2_; clear n0_ n1_ n2_; (try clear hb); (try clear hb2); (try clear hk); (try clear hi)))
      (try simp only [Act.put, List.setIfInBounds_toArray, List.set_cons_zero, List.set_cons_succ])
      go_cut [62] (fun v62 wc => ∃ (kq : Nat) (x62_10 : Bool), v62 = .bool x62_10 ∧ Aside0 (tangramlaw11_RotCanon.j0 kq l1 l2 t337 t338 x62_10 a0_0 l0_1 = some r) ∧ Aside0 (kq ≤ k) ∧ Aside0 (Kd.S (Kd.slice 3 (Kd.int .i64)) 28 wc w.heap.size (fun _ => True) (.slice Ao20 t338.length co20) t338) ∧ Aside0 (wc.heap[gb332]? = some (.cells #[.int .i64 a0_0, (.slice A0_1 l0_1.length c0_1)] 24 (0, 0))) ∧ Aside0 (Below w.heap.size w wc))
      case first =>
        have H := HC11.out
        clear HC11
        by_cases c22 : t342 = 0
        · rw [if_pos c22] at H
          have c22b0 : (t342 == 0) = true := beq_iff_eq.mpr c22
          have c22b1 : (t342 != 0) = false := bne_eq_false_iff_eq.mpr c22
          clear c22
          (first | rw [c22b0] | (simp only [i64_w, i32_w]; rw [c22b0]) | skip)
          replace H := Option.bind_eq_some_iff.mp H
          obtain ⟨t343, A230, H⟩ := H
          replace H : (if t343 = true then ((rot_Canon.f k t338).bind fun t344 => ((tangramref11_Equal.f k t344 t338).bind fun t347 => (tangramlaw11_RotCanon.j0 k l1 l2 t337 t338 (!t347) a0_0 l0_1))) else (tangramlaw11_RotCanon.j0 k l1 l2 t337 t338 true a0_0 l0_1)) = some r := H
          have A23 := Aside0.mk A230
          clear A230
          by_cases c24 : t343 = true
          · subst c24
            have H1 : ((rot_Canon.f k t338).bind fun t344 => ((tangramref11_Equal.f k t344 t338).bind fun t347 => (tangramlaw11_RotCanon.j0 k l1 l2 t337 t338 (!t347) a0_0 l0_1))) = some r := by rw [if_pos rfl] at H; exact H
            clear H
            have H := H1
            clear H1
            replace H := Option.bind_eq_some_iff.mp H
            obtain ⟨t344, A250, H⟩ := H
            replace H : ((tangramref11_Equal.f k t344 t338).bind fun t347 => (tangramlaw11_RotCanon.j0 k l1 l2 t337 t338 (!t347) a0_0 l0_1)) = some r := H
            have A25 := Aside0.mk A250
            clear A250
            replace H := Option.bind_eq_some_iff.mp H
            obtain ⟨t347, A260, H⟩ := H
            replace H : (tangramlaw11_RotCanon.j0 k l1 l2 t337 t338 (!t347) a0_0 l0_1) = some r := H
            have A26 := Aside0.mk A260
            clear A260
            have H' := Aside0.mk H
            clear H
            go_wp2_with (first | (go_at_call 29; (with_reducible refine (rot_Same.calls _ _ t338 _ _ l1 true _ ?side1 ?side2 ?side3 ?side4 A23.out).mono ?_); (case side1 => repeat (first | exact (Kd.S_reads' HO340.out).2.2 | (with_reducible refine Kd.C_alloc ?_ _) | (with_reducible refine Kd.C_drewN ?_ _) | (with_reducible refine Kd.C_drew ?_))); (case side2 => exact (Kd.S_reads' HO340.out).2.1); (case side3 => repeat (first | exact (Kd.C_below HR1.out HB.out) | (with_reducible refine Kd.C_alloc ?_ _) | (with_reducible refine Kd.C_drewN ?_ _) | (with_reducible refine Kd.C_drew ?_))); (case side4 => exact HC1.out); rintro e w' ⟨rfl, ⟨nd, rfl⟩⟩) | (go_at_call 25; (with_reducible refine (rot_Canon.calls k _ _ t338 t344 _ ?side1 ?side2 A25.out).mono ?_); (case side1 => repeat (first | exact (Kd.S_reads' HO340.out).2.2 | (with_reducible refine Kd.C_alloc ?_ _) | (with_reducible refine Kd.C_drewN ?_ _) | (with_reducible refine Kd.C_drew ?_))); (case side2 => exact (Kd.S_reads' HO340.out).2.1); rintro e w27 ⟨v345, rfl, ho0, hb⟩; have n0_ := Aside0.mk (Kd.S_elder' (by (with_reducible repeat (first | apply Kd.S_alloc | apply Kd.S_drewN | apply Kd.S_drew)); exact HO340.out) (Kd.S_base ho0) hb); have n1_ := Aside0.mk (Kd.S_lower (Kd.S_new' ho0 (Kd.S_lt (by (with_reducible repeat (first | apply Kd.S_alloc | apply Kd.S_drewN | apply Kd.S_drew)); exact HO340.out))) (below_size (by repeat (first | (with_reducible first | exact HB.out | apply below_alloc | apply pw_below_drewN | apply below_drew1 | refine below_set ?_ GE332.out) | exact HB.out)))); have n2_ := Aside0.mk (blk_below (g := gb332) (o := .cells #[.int .i64 a0_0, .slice A0_1 l0_1.length c0_1] 24 (0, 0)) (by (with_reducible repeat (first | refine blk_drewN ?_ _ | refine blk_drew ?_ | refine blk_alloc ?_ _)); exact BK332.out) hb); have n3_ := Aside0.mk (below_step (by repeat (first | (with_reducible first | exact HB.out | apply below_alloc | apply pw_below_drewN | apply below_drew1 | refine below_set ?_ GE332.out) | exact HB.out)) hb); clear HO340; clear BK332; clear HB; have HO340 := n0_; have HO346 := n1_; have BK332 := n2_; have HB := n3_; clear n0_ n1_ n2_ n3_; (try clear hb); (try clear hb2); (try clear hk); (try clear hi); (try clear ho0); obtain ⟨Ao28, co28, eo28⟩ := Kd.S_slice HO346.out; subst eo28) | (go_at_call 21; (with_reducible refine (tangramref11_Equal.calls k _ _ t344 _ _ t338 t347 _ ?side1 ?side2 ?side3 ?side4 A26.out).mono ?_); (case side1 => repeat (first | exact (Kd.S_reads' HO346.out).2.2 | (with_reducible refine Kd.C_alloc ?_ _) | (with_reducible refine Kd.C_drewN ?_ _) | (with_reducible refine Kd.C_drew ?_))); (case side2 => exact (Kd.S_reads' HO346.out).2.1); (case side3 => repeat (first | exact (Kd.S_reads' HO340.out).2.2 | (with_reducible refine Kd.C_alloc ?_ _) | (with_reducible refine Kd.C_drewN ?_ _) | (with_reducible refine Kd.C_drew ?_))); (case side4 => exact (Kd.S_reads' HO340.out).2.1); rintro e w' ⟨rfl, ⟨nd, rfl⟩⟩))
            go_meet
            case rel => exact ⟨_, (!t347), (by first | rfl | (simp; done) | (simp [*]; done)), H', ⟨by first | omega | exact Nat.le_refl _⟩, ⟨by (with_reducible repeat (first | apply Kd.S_alloc | apply Kd.S_drewN | apply Kd.S_drew)); exact Kd.S_mono HO340.out (fun _ hk => trivial)⟩, ⟨by (with_reducible repeat (first | refine blk_drewN ?_ _ | refine blk_drew ?_ | refine blk_alloc ?_ _)); exact BK332.out⟩, ⟨by repeat (first | (with_reducible first | exact HB.out | apply below_alloc | apply pw_below_drewN | apply below_drew1 | refine below_set ?_ GE332.out) | exact HB.out)⟩⟩
          · replace c24 := Bool.eq_false_iff.mpr c24
            subst c24
            have H1 : (tangramlaw11_RotCanon.j0 k l1 l2 t337 t338 true a0_0 l0_1) = some r := by rw [if_neg (show ¬ (false = true) by decide)] at H; exact H
            clear H
            have H := H1
            clear H1
            have H' := Aside0.mk H
            clear H
            go_wp2_with (first | (go_at_call 29; (with_reducible refine (rot_Same.calls _ _ t338 _ _ l1 false _ ?side1 ?side2 ?side3 ?side4 A23.out).mono ?_); (case side1 => repeat (first | exact (Kd.S_reads' HO340.out).2.2 | (with_reducible refine Kd.C_alloc ?_ _) | (with_reducible refine Kd.C_drewN ?_ _) | (with_reducible refine Kd.C_drew ?_))); (case side2 => exact (Kd.S_reads' HO340.out).2.1); (case side3 => repeat (first | exact (Kd.C_below HR1.out HB.out) | (with_reducible refine Kd.C_alloc ?_ _) | (with_reducible refine Kd.C_drewN ?_ _) | (with_reducible refine Kd.C_drew ?_))); (case side4 => exact HC1.out); rintro e w' ⟨rfl, ⟨nd, rfl⟩⟩))
            go_meet
            case rel => exact ⟨_, (true), (by first | rfl | (simp; done) | (simp [*]; done)), H', ⟨by first | omega | exact Nat.le_refl _⟩, ⟨by (with_reducible repeat (first | apply Kd.S_alloc | apply Kd.S_drewN | apply Kd.S_drew)); exact HO340.out⟩, ⟨by (with_reducible repeat (first | refine blk_drewN ?_ _ | refine blk_drew ?_ | refine blk_alloc ?_ _)); exact BK332.out⟩, ⟨by repeat (first | (with_reducible first | exact HB.out | apply below_alloc | apply pw_below_drewN | apply below_drew1 | refine below_set ?_ GE332.out) | exact HB.out)⟩⟩
        · rw [if_neg c22] at H
          have c22b0 : (t342 == 0) = false := beq_eq_false_iff_ne.mpr c22
          have c22b1 : (t342 != 0) = true := bne_iff_ne.mpr c22
          (first | rw [c22b0] | (simp only [i64_w, i32_w]; rw [c22b0]) | skip)
          have H' := Aside0.mk H
          clear H
          go_wp2
          go_meet
          case rel => exact ⟨_, (true), (by first | rfl | (simp; done) | (simp [*]; done)), H', ⟨by first | omega | exact Nat.le_refl _⟩, ⟨by (with_reducible repeat (first | apply Kd.S_alloc | apply Kd.S_drewN | apply Kd.S_drew)); exact HO340.out⟩, ⟨by (with_reducible repeat (first | refine blk_drewN ?_ _ | refine blk_drew ?_ | refine blk_alloc ?_ _)); exact BK332.out⟩, ⟨by repeat (first | (with_reducible first | exact HB.out | apply below_alloc | apply pw_below_drewN | apply below_drew1 | refine below_set ?_ GE332.out) | exact HB.out)⟩⟩
      case rest =>
        clear HC11
        try clear c1
        try clear c2
        try clear p2
        try clear c5
        try clear c8
        try clear c8b0
        try clear c8b1
        try clear c11
        try clear c15
        try clear c22
        try clear c22b0
        try clear c22b1
        try clear c24
        try clear c25
        try clear hcz14_0
        try clear hcz14_1
        try clear hcz16_0
        try clear hcz16_1
        try clear hcz19_0
        try clear hcz19_1
        try clear hfz14_0
        try clear hfz14_1
        try clear hfz16_0
        try clear hfz16_1
        try clear hfz19_0
        try clear hfz19_1
        obtain ⟨kq, x62_10, rfl, HA, HJ10, HO_11, BK332, HB⟩ := hcut
        cases kq with
        | zero => exact absurd HA.out (by simp [tangramlaw11_RotCanon.j0])
        | succ kj10 =>
          have H := HA.out
          clear HA
          simp only [tangramlaw11_RotCanon.j0] at H
          by_cases c29 : x62_10 = true
          · subst c29
            have H1 : (some false) = some r := by rw [if_pos rfl] at H; exact H
            clear H
            have H := H1
            clear H1
            obtain rfl := Option.some.inj H
            go_wp2
            go_ret
            exact ⟨by first | rfl | (simp [errW_none, errW_some] <;> rfl) | (simp [*, errW_none, errW_some] <;> rfl), by repeat (first | (with_reducible first | exact HB.out | apply below_alloc | apply pw_below_drewN | apply below_drew1 | refine below_set ?_ GE332.out) | exact HB.out)⟩
          · replace c29 := Bool.eq_false_iff.mpr c29
            subst c29
            have H1 : (tangramlaw11_RotCanon.l0 kj10 l1 l2 t337 t338 t338 (t338.length : Int) 0 a0_0 l0_1) = some r := by rw [if_neg (show ¬ (false = true) by decide)] at H; exact H
            clear H
            have H := H1
            clear H1
            have H' := Aside0.mk H
            clear H
            go_wp2
            go_loopg [65] kj10 (fun kq v65 w' => ∃ (x65_2 : Int), v65 = .int .i64 x65_2 ∧ Aside0 (tangramlaw11_RotCanon.l0 kq l1 l2 t337 t338 t338 (t338.length : Int) x65_2 a0_0 l0_1 = some r) ∧ Aside0 (kq ≤ kj10) ∧ Aside0 (Kd.S (Kd.slice 3 (Kd.int .i64)) 28 w' w.heap.size (fun _ => True) (.slice Ao20 t338.length co20) t338) ∧ Aside0 (Kd.S (Kd.slice 3 (Kd.int .i64)) 28 w' w.heap.size (fun _ => True) (.slice Ao20 t338.length co20) t338) ∧ Aside0 (w'.heap[gb332]? = some (.cells #[.int .i64 a0_0, (.slice A0_1 l0_1.length c0_1)] 24 (0, 0))) ∧ Aside0 (Below w.heap.size w w'))
            case atStart => exact ⟨(0), (by first | rfl | (simp; done) | (simp [*]; done)), H', ⟨Nat.le_refl _⟩, ⟨by (with_reducible repeat (first | apply Kd.S_alloc | apply Kd.S_drewN | apply Kd.S_drew)); exact HO_11.out⟩, ⟨by (with_reducible repeat (first | apply Kd.S_alloc | apply Kd.S_drewN | apply Kd.S_drew)); exact HO_11.out⟩, ⟨by (with_reducible repeat (first | refine blk_drewN ?_ _ | refine blk_drew ?_ | refine blk_alloc ?_ _)); exact BK332.out⟩, ⟨by repeat (first | (with_reducible first | exact HB.out | apply below_alloc | apply pw_below_drewN | apply below_drew1 | refine below_set ?_ GE332.out) | exact HB.out)⟩⟩
            case round =>
              clear H'
              try clear c1
              try clear c2
              try clear p2
              try clear c5
              try clear c8
              try clear c8b0
              try clear c8b1
              try clear c11
              try clear c15
              try clear c22
              try clear c22b0
              try clear c22b1
              try clear c24
              try clear c25
              try clear c29
              try clear hcz14_0
              try clear hcz14_1
              try clear hcz16_0
              try clear hcz16_1
              try clear hcz19_0
              try clear hcz19_1
              try clear hfz14_0
              try clear hfz14_1
              try clear hfz16_0
              try clear hfz16_1
              try clear hfz19_0
              try clear hfz19_1
              try clear p2
              obtain ⟨x65_2, rfl, HA, HK2, HO_11, HO_63, BK332, HB⟩ := hrel
              cases gk with
              | zero => exact absurd HA.out (by simp [tangramlaw11_RotCanon.l0])
              | succ k2 =>
                have H := HA.out
                clear HA
                simp only [tangramlaw11_RotCanon.l0] at H
                by_cases c30 : x65_2 < (t338.length : Int)
                · rw [if_pos c30] at H
                  have c30b0 : decide (x65_2 < (t338.length : Int)) = true := decide_eq_true c30
                  clear c30
                  by_cases c31 : 0 ≤ x65_2
                  · rw [if_pos c31] at H
                    have c31b0 : decide (0 ≤ x65_2) = true := decide_eq_true c31
                    clear c31
                    by_cases c32 : x65_2 < (t338.length : Int)
                    · rw [if_pos c32] at H
                      have c32b0 : decide (x65_2 < (t338.length : Int)) = true := decide_eq_true c32
                      clear c32
                      have H' := Aside0.mk H
                      clear H
                      have p348 : 0 ≤ (x65_2 : Int) := of_decide_eq_true (by first | (with_reducible assumption) | assumption)
                      have q348 : x65_2 < (t338.length : Int) := of_decide_eq_true (by first | (with_reducible assumption) | assumption)
                      obtain ⟨ad348, A348_0, c348_0, e348, hx348_0, hl348_0, hi348_0⟩ := at_L4 (Kd.S_reads' HO_63.out).2.2 x65_2 p348 q348
                      cases e348
                      obtain ⟨ce348, hce348, hMe348, hcc348⟩ := Kd.S_get HO_63.out [] x65_2 p348 (by first | exact q348 | exact of_decide_eq_true (by first | (with_reducible assumption) | assumption) | (have e_ := (Kd.S_reads' HO_63.out).1; omega))
                      obtain ⟨ve348_0, rfl, ge348_0⟩ := hMe348
                      have hv348_0 := hcc348 0 _ rfl
                      rw [Nat.add_zero, show ((Kd.slice 3 (Kd.int .i64))).sz = 1 from rfl, Nat.mul_one] at hv348_0
                      replace hv348_0 := Option.some.inj (hv348_0.symm.trans hx348_0)
                      rw [hv348_0] at ge348_0
                      have HL348_0 := Aside0.mk (show Kd.R (Kd.int .i64) 3 _ _ _ _ (rd_L4 t338 x65_2) from ge348_0)
                      clear hv348_0 ge348_0
                      clear hcc348 hce348
                      have HR348_0 := Aside0.mk hi348_0
                      have HC348_0 := Aside0.mk hl348_0
                      clear hi348_0 hl348_0
                      replace p348 := eq_true p348
                      replace q348 := eq_true q348
                      go_wp2
                      go_loopg [71] k2 (fun kq v71 w' => ∃ (x71_3 : Int), v71 = .int .i64 x71_3 ∧ Aside0 (tangramlaw11_RotCanon.l1 kq l1 l2 t337 t338 (rd_L4 t338 x65_2) t338 (t338.length : Int) x65_2 (rd_L4 t338 x65_2) ((rd_L4 t338 x65_2).length : Int) x71_3 a0_0 l0_1 = some r) ∧ Aside0 (kq ≤ k2) ∧ Aside0 (Kd.S (Kd.slice 3 (Kd.int .i64)) 28 w' w.heap.size (fun _ => True) (.slice (some ad348) t338.length co20) t338) ∧ Aside0 (Kd.S (Kd.slice 3 (Kd.int .i64)) 28 w' w.heap.size (fun _ => True) (.slice (some ad348) t338.length co20) t338) ∧ Aside0 (w'.heap[gb332]? = some (.cells #[.int .i64 a0_0, (.slice A0_1 l0_1.length c0_1)] 24 (0, 0))) ∧ Aside0 (Kd.C (Kd.int .i64) w' A348_0 (rd_L4 t338 x65_2).length (rd_L4 t338 x65_2)) ∧ Aside0 (Below w.heap.size w w'))
                      case atStart => exact ⟨(0), (by first | rfl | (simp; done) | (simp [*]; done)), H', ⟨Nat.le_refl _⟩, ⟨by (with_reducible repeat (first | apply Kd.S_alloc | apply Kd.S_drewN | apply Kd.S_drew)); exact HO_11.out⟩, ⟨by (with_reducible repeat (first | apply Kd.S_alloc | apply Kd.S_drewN | apply Kd.S_drew)); exact HO_63.out⟩, ⟨by (with_reducible repeat (first | refine blk_drewN ?_ _ | refine blk_drew ?_ | refine blk_alloc ?_ _)); exact BK332.out⟩, ⟨by repeat (first | (with_reducible exact HR348_0.out) | (with_reducible refine Kd.C_alloc ?_ _) | (with_reducible refine Kd.C_drewN ?_ _) | (with_reducible refine Kd.C_drew ?_) | exact HR348_0.out)⟩, ⟨by repeat (first | (with_reducible first | exact HB.out | apply below_alloc | apply pw_below_drewN | apply below_drew1 | refine below_set ?_ GE332.out) | exact HB.out)⟩⟩
                      case round =>
                        clear H'
                        try clear c1
                        try clear c2
                        try clear p2
                        try clear c3
                        try clear p3
                        try clear q3
                        try clear hx3
                        try clear c5
                        try clear c8
                        try clear c8b0
                        try clear c8b1
                        try clear c11
                        try clear c15
                        try clear c22
                        try clear c22b0
                        try clear c22b1
                        try clear c24
                        try clear c25
                        try clear c29
                        try clear c30
                        try clear c30b0
                        try clear c31
                        try clear c31b0
                        try clear c32
                        try clear c32b0
                        try clear hcz14_0
                        try clear hcz14_1
                        try clear hcz16_0
                        try clear hcz16_1
                        try clear hcz19_0
                        try clear hcz19_1
                        try clear hfz14_0
                        try clear hfz14_1
                        try clear hfz16_0
                        try clear hfz16_1
                        try clear hfz19_0
                        try clear hfz19_1
                        try clear hx348_0
                        try clear p2
                        try clear p348
                        try clear q348
                        obtain ⟨x71_3, rfl, HA, HK3, HO_11, HO_63, BK332, HR348_0, HB⟩ := hrel
                        cases gk with
                        | zero => exact absurd HA.out (by simp [tangramlaw11_RotCanon.l1])
                        | succ k3 =>
                          have H := HA.out
                          clear HA
                          simp only [tangramlaw11_RotCanon.l1] at H
                          by_cases c33 : x71_3 < ((rd_L4 t338 x65_2).length : Int)
                          · rw [if_pos c33] at H
                            have c33b0 : decide (x71_3 < ((rd_L4 t338 x65_2).length : Int)) = true := decide_eq_true c33
                            clear c33
                            by_cases c34 : 0 ≤ x71_3
                            · rw [if_pos c34] at H
                              have c34b0 : decide (0 ≤ x71_3) = true := decide_eq_true c34
                              clear c34
                              by_cases c35 : x71_3 < ((rd_L4 t338 x65_2).length : Int)
                              · rw [if_pos c35] at H
                                have c35b0 : decide (x71_3 < ((rd_L4 t338 x65_2).length : Int)) = true := decide_eq_true c35
                                clear c35
                                by_cases c36 : 0 < ((rd_L4 t338 x65_2).length : Int)
                                · rw [if_pos c36] at H
                                  have c36b0 : decide (0 < ((rd_L4 t338 x65_2).length : Int)) = true := decide_eq_true c36
                                  have c36b1 : decide (0 < (rd_L4 t338 x65_2).length) = true := decide_eq_true (by omega)
                                  clear c36
                                  by_cases c37 : (rd (rd_L4 t338 x65_2) x71_3) < (rd (rd_L4 t338 x65_2) 0)
                                  · rw [if_pos c37] at H
                                    have c37b0 : decide ((rd (rd_L4 t338 x65_2) x71_3) < (rd (rd_L4 t338 x65_2) 0)) = true := decide_eq_true c37
                                    clear c37
                                    obtain rfl := Option.some.inj H
                                    have p349 : 0 ≤ (x71_3 : Int) := of_decide_eq_true (by first | (with_reducible assumption) | assumption)
                                    have q349 : x71_3 < ((rd_L4 t338 x65_2).length : Int) := of_decide_eq_true (by first | (with_reducible assumption) | assumption)
                                    obtain ⟨ad349, e349, hx349_0⟩ := Kd.at_int HR348_0.out x71_3 p349 q349
                                    cases e349
                                    first | replace hx349_0 := (HB.out.cell (World.block_lt_of_cell? w _ hx349_0)).trans hx349_0 | skip
                                    replace p349 := eq_true p349
                                    replace q349 := eq_true q349
                                    have p350 : 0 ≤ (0 : Int) := (by omega)
                                    have q350 : 0 < ((rd_L4 t338 x65_2).length : Int) := of_decide_eq_true (by first | (with_reducible assumption) | assumption)
                                    obtain ⟨ad350, e350, hx350_0⟩ := Kd.at_int HR348_0.out 0 p350 q350
                                    obtain rfl : ad349 = ad350 := (by injection e350)
                                    have qi350 : (0 < (rd_L4 t338 x65_2).length) = True := eq_true (by omega)
                                    (try rw [show ((0 : Int)).toNat = 0 from rfl] at hx350_0)
                                    (try rw [Addr.add_zero'] at hx350_0)
                                    first | replace hx350_0 := (HB.out.cell (World.block_lt_of_cell? w _ hx350_0)).trans hx350_0 | skip
                                    replace p350 := eq_true p350
                                    replace q350 := eq_true q350
                                    go_wp2
                                    go_ret
                                    exact ⟨by first | rfl | (simp [errW_none, errW_some] <;> rfl) | (simp [*, errW_none, errW_some] <;> rfl), by repeat (first | (with_reducible first | exact HB.out | apply below_alloc | apply pw_below_drewN | apply below_drew1 | refine below_set ?_ GE332.out) | exact HB.out)⟩
                                  · rw [if_neg c37] at H
                                    have c37b0 : decide ((rd (rd_L4 t338 x65_2) x71_3) < (rd (rd_L4 t338 x65_2) 0)) = false := decide_eq_false c37
                                    clear c37
                                    have H' := Aside0.mk H
                                    clear H
                                    have p349 : 0 ≤ (x71_3 : Int) := of_decide_eq_true (by first | (with_reducible assumption) | assumption)
                                    have q349 : x71_3 < ((rd_L4 t338 x65_2).length : Int) := of_decide_eq_true (by first | (with_reducible assumption) | assumption)
                                    obtain ⟨ad349, e349, hx349_0⟩ := Kd.at_int HR348_0.out x71_3 p349 q349
                                    cases e349
                                    first | replace hx349_0 := (HB.out.cell (World.block_lt_of_cell? w _ hx349_0)).trans hx349_0 | skip
                                    replace p349 := eq_true p349
                                    replace q349 := eq_true q349
                                    have p350 : 0 ≤ (0 : Int) := (by omega)
                                    have q350 : 0 < ((rd_L4 t338 x65_2).length : Int) := of_decide_eq_true (by first | (with_reducible assumption) | assumption)
                                    obtain ⟨ad350, e350, hx350_0⟩ := Kd.at_int HR348_0.out 0 p350 q350
                                    obtain rfl : ad349 = ad350 := (by injection e350)
                                    have qi350 : (0 < (rd_L4 t338 x65_2).length) = True := eq_true (by omega)
                                    (try rw [show ((0 : Int)).toNat = 0 from rfl] at hx350_0)
                                    (try rw [Addr.add_zero'] at hx350_0)
                                    first | replace hx350_0 := (HB.out.cell (World.block_lt_of_cell? w _ hx350_0)).trans hx350_0 | skip
                                    replace p350 := eq_true p350
                                    replace q350 := eq_true q350
                                    go_wp2
                                    go_roundg k3
                                    case measure => have := HJ10.out; have := HK2.out; have := HK3.out; omega
                                    case rel => exact ⟨(wrap64 (x71_3 + 1)), (by first | rfl | (simp; done) | (simp [*]; done)), H', ⟨by have := HJ10.out; have := HK2.out; have := HK3.out; omega⟩, ⟨by (with_reducible repeat (first | apply Kd.S_alloc | apply Kd.S_drewN | apply Kd.S_drew)); exact HO_11.out⟩, ⟨by (with_reducible repeat (first | apply Kd.S_alloc | apply Kd.S_drewN | apply Kd.S_drew)); exact HO_63.out⟩, ⟨by (with_reducible repeat (first | refine blk_drewN ?_ _ | refine blk_drew ?_ | refine blk_alloc ?_ _)); exact BK332.out⟩, ⟨by repeat (first | (with_reducible exact HR348_0.out) | (with_reducible refine Kd.C_alloc ?_ _) | (with_reducible refine Kd.C_drewN ?_ _) | (with_reducible refine Kd.C_drew ?_) | exact HR348_0.out)⟩, ⟨by repeat (first | (with_reducible first | exact HB.out | apply below_alloc | apply pw_below_drewN | apply below_drew1 | refine below_set ?_ GE332.out) | exact HB.out)⟩⟩
                                · rw [if_neg c36] at H
                                  exact absurd H (by simp)
                              · rw [if_neg c35] at H
                                exact absurd H (by simp)
                            · rw [if_neg c34] at H
                              exact absurd H (by simp)
                          · rw [if_neg c33] at H
                            have c33b0 : decide (x71_3 < ((rd_L4 t338 x65_2).length : Int)) = false := decide_eq_false c33
                            clear c33
                            have H' := Aside0.mk H
                            clear H
                            go_wp2
                            go_roundg k3
                            case measure => have := HJ10.out; have := HK2.out; have := HK3.out; omega
                            case rel => exact ⟨(wrap64 (x65_2 + 1)), (by first | rfl | (simp; done) | (simp [*]; done)), H', ⟨by have := HJ10.out; have := HK2.out; have := HK3.out; omega⟩, ⟨by (with_reducible repeat (first | apply Kd.S_alloc | apply Kd.S_drewN | apply Kd.S_drew)); exact HO_11.out⟩, ⟨by (with_reducible repeat (first | apply Kd.S_alloc | apply Kd.S_drewN | apply Kd.S_drew)); exact HO_63.out⟩, ⟨by (with_reducible repeat (first | refine blk_drewN ?_ _ | refine blk_drew ?_ | refine blk_alloc ?_ _)); exact BK332.out⟩, ⟨by repeat (first | (with_reducible first | exact HB.out | apply below_alloc | apply pw_below_drewN | apply below_drew1 | refine below_set ?_ GE332.out) | exact HB.out)⟩⟩
                    · rw [if_neg c32] at H
                      exact absurd H (by simp)
                  · rw [if_neg c31] at H
                    exact absurd H (by simp)
                · rw [if_neg c30] at H
                  have c30b0 : decide (x65_2 < (t338.length : Int)) = false := decide_eq_false c30
                  clear c30
                  have HC38 := Aside0.mk H
                  clear H
                  go_upto_region 21 with (fail)
                  go_cut [93] (fun v93 wc => ∃ (kq : Nat) (x93_37 : Bool), v93 = .bool x93_37 ∧ Aside0 (tangramlaw11_RotCanon.j3 kq l1 t338 x93_37 a0_0 l0_1 = some r) ∧ Aside0 (kq ≤ k2) ∧ Aside0 (Kd.S (Kd.slice 3 (Kd.int .i64)) 28 wc w.heap.size (fun _ => True) (.slice Ao20 t338.length co20) t338) ∧ Aside0 (wc.heap[gb332]? = some (.cells #[.int .i64 a0_0, (.slice A0_1 l0_1.length c0_1)] 24 (0, 0))) ∧ Aside0 (Below w.heap.size w wc))
                  case first =>
                    have H := HC38.out
                    clear HC38
                    by_cases c39 : t337 = 0
                    · rw [if_pos c39] at H
                      have c39b0 : (t337 == 0) = true := beq_iff_eq.mpr c39
                      have c39b1 : (t337 != 0) = false := bne_eq_false_iff_eq.mpr c39
                      clear c39
                      (first | rw [c39b0] | (simp only [i64_w, i32_w]; rw [c39b0]) | skip)
                      replace H := Option.bind_eq_some_iff.mp H
                      obtain ⟨t351, A400, H⟩ := H
                      replace H : ((rot_Canon.f k2 l2).bind fun t352 => ((tangramref11_Equal.f k2 t338 t352).bind fun t355 => (tangramlaw11_RotCanon.j3 k2 l1 t338 (t351 != t355) a0_0 l0_1))) = some r := H
                      have A40 := Aside0.mk A400
                      clear A400
                      replace H := Option.bind_eq_some_iff.mp H
                      obtain ⟨t352, A410, H⟩ := H
                      replace H : ((tangramref11_Equal.f k2 t338 t352).bind fun t355 => (tangramlaw11_RotCanon.j3 k2 l1 t338 (t351 != t355) a0_0 l0_1)) = some r := H
                      have A41 := Aside0.mk A410
                      clear A410
                      replace H := Option.bind_eq_some_iff.mp H
                      obtain ⟨t355, A420, H⟩ := H
                      replace H : (tangramlaw11_RotCanon.j3 k2 l1 t338 (t351 != t355) a0_0 l0_1) = some r := H
                      have A42 := Aside0.mk A420
                      clear A420
                      have H' := Aside0.mk H
                      clear H
                      go_wp2_with (first | (go_at_call 29; (with_reducible refine (rot_Same.calls _ _ l1 _ _ l2 t351 _ ?side1 ?side2 ?side3 ?side4 A40.out).mono ?_); (case side1 => repeat (first | exact (Kd.C_below HR1.out HB.out) | (with_reducible refine Kd.C_alloc ?_ _) | (with_reducible refine Kd.C_drewN ?_ _) | (with_reducible refine Kd.C_drew ?_))); (case side2 => exact HC1.out); (case side3 => repeat (first | exact (Kd.C_below HR2.out HB.out) | (with_reducible refine Kd.C_alloc ?_ _) | (with_reducible refine Kd.C_drewN ?_ _) | (with_reducible refine Kd.C_drew ?_))); (case side4 => exact HC2.out); rintro e w' ⟨rfl, ⟨nd, rfl⟩⟩) | (go_at_call 25; (with_reducible refine (rot_Canon.calls k2 _ _ l2 t352 _ ?side1 ?side2 A41.out).mono ?_); (case side1 => repeat (first | exact (Kd.C_below HR2.out (by repeat (first | (with_reducible first | exact HB.out | apply below_alloc | apply pw_below_drewN | apply below_drew1 | refine below_set ?_ GE332.out) | exact HB.out))) | (with_reducible refine Kd.C_alloc ?_ _) | (with_reducible refine Kd.C_drewN ?_ _) | (with_reducible refine Kd.C_drew ?_))); (case side2 => exact HC2.out); rintro e w43 ⟨v353, rfl, ho0, hb⟩; have n0_ := Aside0.mk (Kd.S_elder' (by (with_reducible repeat (first | apply Kd.S_alloc | apply Kd.S_drewN | apply Kd.S_drew)); exact HO_11.out) (Kd.S_base ho0) hb); have n1_ := Aside0.mk (Kd.S_elder' (by (with_reducible repeat (first | apply Kd.S_alloc | apply Kd.S_drewN | apply Kd.S_drew)); exact HO_63.out) (Kd.S_base ho0) hb); have n2_ := Aside0.mk (Kd.S_lower (Kd.S_new' (Kd.S_new' ho0 (Kd.S_lt (by (with_reducible repeat (first | apply Kd.S_alloc | apply Kd.S_drewN | apply Kd.S_drew)); exact HO_11.out))) (Kd.S_lt (by (with_reducible repeat (first | apply Kd.S_alloc | apply Kd.S_drewN | apply Kd.S_drew)); exact HO_63.out))) (below_size (by repeat (first | (with_reducible first | exact HB.out | apply below_alloc | apply pw_below_drewN | apply below_drew1 | refine below_set ?_ GE332.out) | exact HB.out)))); have n3_ := Aside0.mk (blk_below (g := gb332) (o := .cells #[.int .i64 a0_0, .slice A0_1 l0_1.length c0_1] 24 (0, 0)) (by (with_reducible repeat (first | refine blk_drewN ?_ _ | refine blk_drew ?_ | refine blk_alloc ?_ _)); exact BK332.out) hb); have n4_ := Aside0.mk (below_step (by repeat (first | (with_reducible first | exact HB.out | apply below_alloc | apply pw_below_drewN | apply below_drew1 | refine below_set ?_ GE332.out) | exact HB.out)) hb); clear HO_11; clear HO_63; clear BK332; clear HB; have HO_11 := n0_; have HO_63 := n1_; have HO354 := n2_; have BK332 := n3_; have HB := n4_; clear n0_ n1_ n2_ n3_ n4_; (try clear hb); (try clear hb2); (try clear hk); (try clear hi); (try clear ho0); obtain ⟨Ao44, co44, eo44⟩ := Kd.S_slice HO354.out; subst eo44) | (go_at_call 21; (with_reducible refine (tangramref11_Equal.calls k2 _ _ t338 _ _ t352 t355 _ ?side1 ?side2 ?side3 ?side4 A42.out).mono ?_); (case side1 => repeat (first | exact (Kd.S_reads' HO_11.out).2.2 | (with_reducible refine Kd.C_alloc ?_ _) | (with_reducible refine Kd.C_drewN ?_ _) | (with_reducible refine Kd.C_drew ?_))); (case side2 => exact (Kd.S_reads' HO_11.out).2.1); (case side3 => repeat (first | exact (Kd.S_reads' HO354.out).2.2 | (with_reducible refine Kd.C_alloc ?_ _) | (with_reducible refine Kd.C_drewN ?_ _) | (with_reducible refine Kd.C_drew ?_))); (case side4 => exact (Kd.S_reads' HO354.out).2.1); rintro e w' ⟨rfl, ⟨nd, rfl⟩⟩))
                      go_meet
                      case rel => exact ⟨_, ((t351 != t355)), (by first | rfl | (simp; done) | (simp [*]; done)), H', ⟨by have := HJ10.out; have := HK2.out; first | omega | exact Nat.le_refl _⟩, ⟨by (with_reducible repeat (first | apply Kd.S_alloc | apply Kd.S_drewN | apply Kd.S_drew)); exact Kd.S_mono HO_11.out (fun _ hk => trivial)⟩, ⟨by (with_reducible repeat (first | refine blk_drewN ?_ _ | refine blk_drew ?_ | refine blk_alloc ?_ _)); exact BK332.out⟩, ⟨by repeat (first | (with_reducible first | exact HB.out | apply below_alloc | apply pw_below_drewN | apply below_drew1 | refine below_set ?_ GE332.out) | exact HB.out)⟩⟩
                    · rw [if_neg c39] at H
                      have c39b0 : (t337 == 0) = false := beq_eq_false_iff_ne.mpr c39
                      have c39b1 : (t337 != 0) = true := bne_iff_ne.mpr c39
                      (first | rw [c39b0] | (simp only [i64_w, i32_w]; rw [c39b0]) | skip)
                      have H' := Aside0.mk H
                      clear H
                      go_wp2
                      go_meet
                      case rel => exact ⟨_, (false), (by first | rfl | (simp; done) | (simp [*]; done)), H', ⟨by have := HJ10.out; have := HK2.out; first | omega | exact Nat.le_refl _⟩, ⟨by (with_reducible repeat (first | apply Kd.S_alloc | apply Kd.S_drewN | apply Kd.S_drew)); exact HO_11.out⟩, ⟨by (with_reducible repeat (first | refine blk_drewN ?_ _ | refine blk_drew ?_ | refine blk_alloc ?_ _)); exact BK332.out⟩, ⟨by repeat (first | (with_reducible first | exact HB.out | apply below_alloc | apply pw_below_drewN | apply below_drew1 | refine below_set ?_ GE332.out) | exact HB.out)⟩⟩
                  case rest =>
                    clear HC38
                    try clear c1
                    try clear c2
                    try clear p2
                    try clear c3
                    try clear p3
                    try clear q3
                    try clear hx3
                    try clear qi3
                    try clear c5
                    try clear p6
                    try clear c8
                    try clear c8b0
                    try clear c8b1
                    try clear c11
                    try clear c15
                    try clear c22
                    try clear c22b0
                    try clear c22b1
                    try clear c24
                    try clear c25
                    try clear c29
                    try clear c30
                    try clear c30b0
                    try clear c31
                    try clear c31b0
                    try clear c32
                    try clear c32b0
                    try clear c33
                    try clear c33b0
                    try clear c34
                    try clear c34b0
                    try clear p34
                    try clear q34
                    try clear hx34
                    try clear c35
                    try clear c35b0
                    try clear p35
                    try clear q35
                    try clear hx35
                    try clear qi35
                    try clear c36
                    try clear c36b0
                    try clear c36b1
                    try clear c37
                    try clear c37b0
                    try clear c39
                    try clear c39b0
                    try clear c39b1
                    try clear hcz14_0
                    try clear hcz14_1
                    try clear hcz16_0
                    try clear hcz16_1
                    try clear hcz19_0
                    try clear hcz19_1
                    try clear hfz14_0
                    try clear hfz14_1
                    try clear hfz16_0
                    try clear hfz16_1
                    try clear hfz19_0
                    try clear hfz19_1
                    try clear hx348_0
                    try clear hx349_0
                    try clear hx350_0
                    try clear p2
                    try clear p3
                    try clear p348
                    try clear p349
                    try clear p350
                    try clear q3
                    try clear q348
                    try clear q349
                    try clear q350
                    obtain ⟨kq, x93_37, rfl, HA, HJ37, HO_11, BK332, HB⟩ := hcut
                    cases kq with
                    | zero => exact absurd HA.out (by simp [tangramlaw11_RotCanon.j3])
                    | succ kj37 =>
                      have H := HA.out
                      clear HA
                      simp only [tangramlaw11_RotCanon.j3] at H
                      by_cases c45 : x93_37 = true
                      · subst c45
                        have H1 : (some false) = some r := by rw [if_pos rfl] at H; exact H
                        clear H
                        have H := H1
                        clear H1
                        obtain rfl := Option.some.inj H
                        go_wp2
                        go_ret
                        exact ⟨by first | rfl | (simp [errW_none, errW_some] <;> rfl) | (simp [*, errW_none, errW_some] <;> rfl), by repeat (first | (with_reducible first | exact HB.out | apply below_alloc | apply pw_below_drewN | apply below_drew1 | refine below_set ?_ GE332.out) | exact HB.out)⟩
                      · replace c45 := Bool.eq_false_iff.mpr c45
                        subst c45
                        have H1 : ((rot_Mirror.f kj37 l1).bind fun t356 => ((rot_Mirror.f kj37 t356).bind fun t359 => ((tangramref11_Equal.f kj37 t359 t338).bind fun t362 => (if t362 = true then ((rot_Next.f kj37 a0_0 l0_1 l1).bind fun bt363 => ((rot_Next.f kj37 a0_0 l0_1 t356).bind fun bt367 => (if bt367.2 = 0 then (if (bt363.1.length : Int) = (wrap64 (2 * (l0_1.length : Int))) then (tangramlaw11_RotCanon.j4 kj37 bt363.1 bt367.1 ((bt367.1.length : Int) != (bt363.1.length : Int))) else (tangramlaw11_RotCanon.j4 kj37 bt363.1 bt367.1 true)) else (tangramlaw11_RotCanon.j4 kj37 bt363.1 bt367.1 true)))) else (some false))))) = some r := by rw [if_neg (show ¬ (false = true) by decide)] at H; exact H
                        clear H
                        have H := H1
                        clear H1
                        replace H := Option.bind_eq_some_iff.mp H
                        obtain ⟨t356, A460, H⟩ := H
                        replace H : ((rot_Mirror.f kj37 t356).bind fun t359 => ((tangramref11_Equal.f kj37 t359 t338).bind fun t362 => (if t362 = true then ((rot_Next.f kj37 a0_0 l0_1 l1).bind fun bt363 => ((rot_Next.f kj37 a0_0 l0_1 t356).bind fun bt367 => (if bt367.2 = 0 then (if (bt363.1.length : Int) = (wrap64 (2 * (l0_1.length : Int))) then (tangramlaw11_RotCanon.j4 kj37 bt363.1 bt367.1 ((bt367.1.length : Int) != (bt363.1.length : Int))) else (tangramlaw11_RotCanon.j4 kj37 bt363.1 bt367.1 true)) else (tangramlaw11_RotCanon.j4 kj37 bt363.1 bt367.1 true)))) else (some false)))) = some r := H
                        have A46 := Aside0.mk A460
                        clear A460
                        replace H := Option.bind_eq_some_iff.mp H
                        obtain ⟨t359, A470, H⟩ := H
                        replace H : ((tangramref11_Equal.f kj37 t359 t338).bind fun t362 => (if t362 = true then ((rot_Next.f kj37 a0_0 l0_1 l1).bind fun bt363 => ((rot_Next.f kj37 a0_0 l0_1 t356).bind fun bt367 => (if bt367.2 = 0 then (if (bt363.1.length : Int) = (wrap64 (2 * (l0_1.length : Int))) then (tangramlaw11_RotCanon.j4 kj37 bt363.1 bt367.1 ((bt367.1.length : Int) != (bt363.1.length : Int))) else (tangramlaw11_RotCanon.j4 kj37 bt363.1 bt367.1 true)) else (tangramlaw11_RotCanon.j4 kj37 bt363.1 bt367.1 true)))) else (some false))) = some r := H
                        have A47 := Aside0.mk A470
                        clear A470
                        replace H := Option.bind_eq_some_iff.mp H
                        obtain ⟨t362, A480, H⟩ := H
                        replace H : (if t362 = true then ((rot_Next.f kj37 a0_0 l0_1 l1).bind fun bt363 => ((rot_Next.f kj37 a0_0 l0_1 t356).bind fun bt367 => (if bt367.2 = 0 then (if (bt363.1.length : Int) = (wrap64 (2 * (l0_1.length : Int))) then (tangramlaw11_RotCanon.j4 kj37 bt363.1 bt367.1 ((bt367.1.length : Int) != (bt363.1.length : Int))) else (tangramlaw11_RotCanon.j4 kj37 bt363.1 bt367.1 true)) else (tangramlaw11_RotCanon.j4 kj37 bt363.1 bt367.1 true)))) else (some false)) = some r := H
                        have A48 := Aside0.mk A480
                        clear A480
                        by_cases c49 : t362 = true
                        · subst c49
                          have H1 : ((rot_Next.f kj37 a0_0 l0_1 l1).bind fun bt363 => ((rot_Next.f kj37 a0_0 l0_1 t356).bind fun bt367 => (if bt367.2 = 0 then (if (bt363.1.length : Int) = (wrap64 (2 * (l0_1.length : Int))) then (tangramlaw11_RotCanon.j4 kj37 bt363.1 bt367.1 ((bt367.1.length : Int) != (bt363.1.length : Int))) else (tangramlaw11_RotCanon.j4 kj37 bt363.1 bt367.1 true)) else (tangramlaw11_RotCanon.j4 kj37 bt363.1 bt367.1 true)))) = some r := by rw [if_pos rfl] at H; exact H
                          clear H
                          have H := H1
                          clear H1
                          replace H := Option.bind_eq_some_iff.mp H
                          obtain ⟨⟨t363, t366⟩, A500, H⟩ := H
                          replace H : ((rot_Next.f kj37 a0_0 l0_1 t356).bind fun bt367 => (if bt367.2 = 0 then (if (t363.length : Int) = (wrap64 (2 * (l0_1.length : Int))) then (tangramlaw11_RotCanon.j4 kj37 t363 bt367.1 ((bt367.1.length : Int) != (t363.length : Int))) else (tangramlaw11_RotCanon.j4 kj37 t363 bt367.1 true)) else (tangramlaw11_RotCanon.j4 kj37 t363 bt367.1 true))) = some r := H
                          have A50 := Aside0.mk A500
                          clear A500
                          replace H := Option.bind_eq_some_iff.mp H
                          obtain ⟨⟨t367, t370⟩, A510, H⟩ := H
                          replace H : (if t370 = 0 then (if (t363.length : Int) = (wrap64 (2 * (l0_1.length : Int))) then (tangramlaw11_RotCanon.j4 kj37 t363 t367 ((t367.length : Int) != (t363.length : Int))) else (tangramlaw11_RotCanon.j4 kj37 t363 t367 true)) else (tangramlaw11_RotCanon.j4 kj37 t363 t367 true)) = some r := H
                          have A51 := Aside0.mk A510
                          clear A510
                          have HC52 := Aside0.mk H
                          clear H
                          go_upto_region 28 with (first | ((with_reducible refine gate_callee (f := 27) rfl ?_); refine goesL_ (some 95) rfl rfl Try.func27 (by kernel_rfl) rfl #[.slice A1 l1.length c1] rfl (by (try simp only [List.map_toArray, List.map_cons, List.map_nil]); first | done | rfl | (simp only [List.length_drop, List.length_take]; rfl)) ?_; (with_reducible refine (rot_Mirror.calls kj37 _ _ l1 t356 _ ?side1 ?side2 A46.out).mono ?_); (case side1 => repeat (first | exact (Kd.C_below HR1.out HB.out) | (with_reducible refine Kd.C_alloc ?_ _) | (with_reducible refine Kd.C_drewN ?_ _) | (with_reducible refine Kd.C_drew ?_))); (case side2 => exact HC1.out); rintro e w53 ⟨v357, rfl, ho0, hb⟩; refine ⟨_, rfl, ?_⟩; have n0_ := Aside0.mk (Kd.S_elder' (by (with_reducible repeat (first | apply Kd.S_alloc | apply Kd.S_drewN | apply Kd.S_drew)); exact HO_11.out) (Kd.S_base ho0) hb); have n1_ := Aside0.mk (Kd.S_lower (Kd.S_new' ho0 (Kd.S_lt (by (with_reducible repeat (first | apply Kd.S_alloc | apply Kd.S_drewN | apply Kd.S_drew)); exact HO_11.out))) (below_size (by repeat (first | (with_reducible first | exact HB.out | apply below_alloc | apply pw_below_drewN | apply below_drew1 | refine below_set ?_ GE332.out) | exact HB.out)))); have n2_ := Aside0.mk (blk_below (g := gb332) (o := .cells #[.int .i64 a0_0, .slice A0_1 l0_1.length c0_1] 24 (0, 0)) (by (with_reducible repeat (first | refine blk_drewN ?_ _ | refine blk_drew ?_ | refine blk_alloc ?_ _)); exact BK332.out) hb); have n3_ := Aside0.mk (below_step (by repeat (first | (with_reducible first | exact HB.out | apply below_alloc | apply pw_below_drewN | apply below_drew1 | refine below_set ?_ GE332.out) | exact HB.out)) hb); clear HO_11; clear BK332; clear HB; have HO_11 := n0_; have HO358 := n1_; have BK332 := n2_; have HB := n3_; clear n0_ n1_ n2_ n3_; (try clear hb); (try clear hb2); (try clear hk); (try clear hi); (try clear ho0); obtain ⟨Ao54, co54, eo54⟩ := Kd.S_slice HO358.out; subst eo54) | ((with_reducible refine gate_callee (f := 27) rfl ?_); refine goesL_ (some 97) rfl rfl Try.func27 (by kernel_rfl) rfl #[.slice Ao54 t356.length co54] rfl (by (try simp only [List.map_toArray, List.map_cons, List.map_nil]); first | done | rfl | (simp only [List.length_drop, List.length_take]; rfl)) ?_; (with_reducible refine (rot_Mirror.calls kj37 _ _ t356 t359 _ ?side1 ?side2 A47.out).mono ?_); (case side1 => repeat (first | exact (Kd.S_reads' HO358.out).2.2 | (with_reducible refine Kd.C_alloc ?_ _) | (with_reducible refine Kd.C_drewN ?_ _) | (with_reducible refine Kd.C_drew ?_))); (case side2 => exact (Kd.S_reads' HO358.out).2.1); rintro e w55 ⟨v360, rfl, ho0, hb⟩; refine ⟨_, rfl, ?_⟩; have n0_ := Aside0.mk (Kd.S_elder' (by (with_reducible repeat (first | apply Kd.S_alloc | apply Kd.S_drewN | apply Kd.S_drew)); exact HO_11.out) (Kd.S_base ho0) hb); have n1_ := Aside0.mk (Kd.S_elder' (by (with_reducible repeat (first | apply Kd.S_alloc | apply Kd.S_drewN | apply Kd.S_drew)); exact HO358.out) (Kd.S_base ho0) hb); have n2_ := Aside0.mk (Kd.S_lower (Kd.S_new' (Kd.S_new' ho0 (Kd.S_lt (by (with_reducible repeat (first | apply Kd.S_alloc | apply Kd.S_drewN | apply Kd.S_drew)); exact HO_11.out))) (Kd.S_lt (by (with_reducible repeat (first | apply Kd.S_alloc | apply Kd.S_drewN | apply Kd.S_drew)); exact HO358.out))) (below_size (by repeat (first | (with_reducible first | exact HB.out | apply below_alloc | apply pw_below_drewN | apply below_drew1 | refine below_set ?_ GE332.out) | exact HB.out)))); have n3_ := Aside0.mk (blk_below (g := gb332) (o := .cells #[.int .i64 a0_0, .slice A0_1 l0_1.length c0_1] 24 (0, 0)) (by (with_reducible repeat (first | refine blk_drewN ?_ _ | refine blk_drew ?_ | refine blk_alloc ?_ _)); exact BK332.out) hb); have n4_ := Aside0.mk (below_step (by repeat (first | (with_reducible first | exact HB.out | apply below_alloc | apply pw_below_drewN | apply below_drew1 | refine below_set ?_ GE332.out) | exact HB.out)) hb); clear HO_11; clear HO358; clear BK332; clear HB; have HO_11 := n0_; have HO358 := n1_; have HO361 := n2_; have BK332 := n3_; have HB := n4_; clear n0_ n1_ n2_ n3_ n4_; (try clear hb); (try clear hb2); (try clear hk); (try clear hi); (try clear ho0); obtain ⟨Ao56, co56, eo56⟩ := Kd.S_slice HO361.out; subst eo56) | ((with_reducible refine gate_callee (f := 21) rfl ?_); refine goesL_ (some 99) rfl rfl Try.func21 (by kernel_rfl) rfl #[.slice Ao56 t359.length co56, .slice Ao20 t338.length co20] rfl (by (try simp only [List.map_toArray, List.map_cons, List.map_nil]); first | done | rfl | (simp only [List.length_drop, List.length_take]; rfl)) ?_; (with_reducible refine (tangramref11_Equal.calls kj37 _ _ t359 _ _ t338 true _ ?side1 ?side2 ?side3 ?side4 A48.out).mono ?_); (case side1 => repeat (first | exact (Kd.S_reads' HO361.out).2.2 | (with_reducible refine Kd.C_alloc ?_ _) | (with_reducible refine Kd.C_drewN ?_ _) | (with_reducible refine Kd.C_drew ?_))); (case side2 => exact (Kd.S_reads' HO361.out).2.1); (case side3 => repeat (first | exact (Kd.S_reads' HO_11.out).2.2 | (with_reducible refine Kd.C_alloc ?_ _) | (with_reducible refine Kd.C_drewN ?_ _) | (with_reducible refine Kd.C_drew ?_))); (case side4 => exact (Kd.S_reads' HO_11.out).2.1); rintro e w' ⟨rfl, ⟨nd, rfl⟩⟩; refine ⟨_, rfl, ?_⟩; have hcz57_0 : w55.cell? ⟨gb332, 0, none⟩ = some (.int .i64 a0_0) := (blk_cell BK332.out 0).trans rfl; have hcz57_1 : w55.cell? ⟨gb332, 1, none⟩ = some (.slice A0_1 l0_1.length c0_1) := (blk_cell BK332.out 1).trans rfl; have hfz57_0 := blk_frozen BK332.out 0; have hfz57_1 := blk_frozen BK332.out 1) | ((with_reducible refine gate_callee (f := 12) rfl ?_); refine goesL_ (some 104) rfl rfl Try.func12 (by kernel_rfl) rfl #[.agg #[.int .i64 a0_0, .slice A0_1 l0_1.length c0_1], .slice A1 l1.length c1] rfl (by (try simp only [List.map_toArray, List.map_cons, List.map_nil]); first | done | rfl | (simp only [List.length_drop, List.length_take]; rfl)) ?_; (with_reducible refine (rot_Next.calls kj37 a0_0 _ _ l0_1 _ _ l1 t363 t366 _ ?side1 ?side2 ?side3 ?side4 A50.out).mono ?_); (case side1 => repeat (first | exact (Kd.C_below HR0_1.out (by repeat (first | (with_reducible first | exact HB.out | apply below_alloc | apply pw_below_drewN | apply below_drew1 | refine below_set ?_ GE332.out) | exact HB.out))) | (with_reducible refine Kd.C_alloc ?_ _) | (with_reducible refine Kd.C_drewN ?_ _) | (with_reducible refine Kd.C_drew ?_))); (case side2 => exact HC0_1.out); (case side3 => repeat (first | exact (Kd.C_below HR1.out (by repeat (first | (with_reducible first | exact HB.out | apply below_alloc | apply pw_below_drewN | apply below_drew1 | refine below_set ?_ GE332.out) | exact HB.out))) | (with_reducible refine Kd.C_alloc ?_ _) | (with_reducible refine Kd.C_drewN ?_ _) | (with_reducible refine Kd.C_drew ?_))); (case side4 => exact HC1.out); rintro e w58 ⟨v364, rfl, ho0, hb⟩; refine ⟨_, rfl, ?_⟩; have n0_ := Aside0.mk (Kd.S_elder' (by (with_reducible repeat (first | apply Kd.S_alloc | apply Kd.S_drewN | apply Kd.S_drew)); exact HO_11.out) (Kd.R_base ho0) hb); have n1_ := Aside0.mk (Kd.S_elder' (by (with_reducible repeat (first | apply Kd.S_alloc | apply Kd.S_drewN | apply Kd.S_drew)); exact HO358.out) (Kd.R_base ho0) hb); have n2_ := Aside0.mk (Kd.S_elder' (by (with_reducible repeat (first | apply Kd.S_alloc | apply Kd.S_drewN | apply Kd.S_drew)); exact HO361.out) (Kd.R_base ho0) hb); have n3_ := Aside0.mk (Kd.R_lower ho0 (below_size (by repeat (first | (with_reducible first | exact HB.out | apply below_alloc | apply pw_below_drewN | apply below_drew1 | refine below_set ?_ GE332.out) | exact HB.out)))); have n4_ := Aside0.mk (blk_below (g := gb332) (o := .cells #[.int .i64 a0_0, .slice A0_1 l0_1.length c0_1] 24 (0, 0)) (by (with_reducible repeat (first | refine blk_drewN ?_ _ | refine blk_drew ?_ | refine blk_alloc ?_ _)); exact BK332.out) hb); have n5_ := Aside0.mk (below_step (by repeat (first | (with_reducible first | exact HB.out | apply below_alloc | apply pw_below_drewN | apply below_drew1 | refine below_set ?_ GE332.out) | exact HB.out)) hb); clear HO_11; clear HO358; clear HO361; clear BK332; clear HB; have HO_11 := n0_; have HO358 := n1_; have HO361 := n2_; have HO365 := n3_; have BK332 := n4_; have HB := n5_; clear n0_ n1_ n2_ n3_ n4_ n5_; (try clear hb); (try clear hb2); (try clear hk); (try clear hi); (try clear ho0); have hcz59_0 : w58.cell? ⟨gb332, 0, none⟩ = some (.int .i64 a0_0) := (blk_cell BK332.out 0).trans rfl; have hcz59_1 : w58.cell? ⟨gb332, 1, none⟩ = some (.slice A0_1 l0_1.length c0_1) := (blk_cell BK332.out 1).trans rfl; have hfz59_0 := blk_frozen BK332.out 0; have hfz59_1 := blk_frozen BK332.out 1) | ((with_reducible refine gate_callee (f := 12) rfl ?_); refine goesL_ (some 110) rfl rfl Try.func12 (by kernel_rfl) rfl #[.agg #[.int .i64 a0_0, .slice A0_1 l0_1.length c0_1], .slice Ao54 t356.length co54] rfl (by (try simp only [List.map_toArray, List.map_cons, List.map_nil]); first | done | rfl | (simp only [List.length_drop, List.length_take]; rfl)) ?_; (with_reducible refine (rot_Next.calls kj37 a0_0 _ _ l0_1 _ _ t356 t367 t370 _ ?side1 ?side2 ?side3 ?side4 A51.out).mono ?_); (case side1 => repeat (first | exact (Kd.C_below HR0_1.out HB.out) | (with_reducible refine Kd.C_alloc ?_ _) | (with_reducible refine Kd.C_drewN ?_ _) | (with_reducible refine Kd.C_drew ?_))); (case side2 => exact HC0_1.out); (case side3 => repeat (first | exact (Kd.S_reads' HO358.out).2.2 | (with_reducible refine Kd.C_alloc ?_ _) | (with_reducible refine Kd.C_drewN ?_ _) | (with_reducible refine Kd.C_drew ?_))); (case side4 => exact (Kd.S_reads' HO358.out).2.1); rintro e w60 ⟨v368, rfl, ho0, hb⟩; refine ⟨_, rfl, ?_⟩; have n0_ := Aside0.mk (Kd.S_elder' (by (with_reducible repeat (first | apply Kd.S_alloc | apply Kd.S_drewN | apply Kd.S_drew)); exact HO_11.out) (Kd.R_base ho0) hb); have n1_ := Aside0.mk (Kd.S_elder' (by (with_reducible repeat (first | apply Kd.S_alloc | apply Kd.S_drewN | apply Kd.S_drew)); exact HO358.out) (Kd.R_base ho0) hb); have n2_ := Aside0.mk (Kd.S_elder' (by (with_reducible repeat (first | apply Kd.S_alloc | apply Kd.S_drewN | apply Kd.S_drew)); exact HO361.out) (Kd.R_base ho0) hb); have n3_ := Aside0.mk (Kd.R_elder' (by (with_reducible repeat (first | apply Kd.R_alloc | apply Kd.R_drewN | apply Kd.R_drew)); exact HO365.out) (Kd.R_base ho0) hb); have n4_ := Aside0.mk (Kd.R_lower (Kd.R_new' ho0 (Kd.R_lt (by (with_reducible repeat (first | apply Kd.R_alloc | apply Kd.R_drewN | apply Kd.R_drew)); exact HO365.out))) (below_size (by repeat (first | (with_reducible first | exact HB.out | apply below_alloc | apply pw_below_drewN | apply below_drew1 | refine below_set ?_ GE332.out) | exact HB.out)))); have n5_ := Aside0.mk (blk_below (g := gb332) (o := .cells #[.int .i64 a0_0, .slice A0_1 l0_1.length c0_1] 24 (0, 0)) (by (with_reducible repeat (first | refine blk_drewN ?_ _ | refine blk_drew ?_ | refine blk_alloc ?_ _)); exact BK332.out) hb); have n6_ := Aside0.mk (below_step (by repeat (first | (with_reducible first | exact HB.out | apply below_alloc | apply pw_below_drewN | apply below_drew1 | refine below_set ?_ GE332.out) | exact HB.out)) hb); clear HO_11; clear HO358; clear HO361; clear HO365; clear BK332; clear HB; have HO_11 := n0_; have HO358 := n1_; have HO361 := n2_; have HO365 := n3_; have HO369 := n4_; have BK332 := n5_; have HB := n6_; clear n0_ n1_ n2_ n3_ n4_ n5_ n6_; (try clear hb); (try clear hb2); (try clear hk); (try clear hi); (try clear ho0)))
                          (try simp only [Act.put, List.setIfInBounds_toArray, List.set_cons_zero, List.set_cons_succ])
                          go_cut [130] (fun v130 wc => ∃ (kq : Nat) (x130_51 : Bool), v130 = .bool x130_51 ∧ Aside0 (tangramlaw11_RotCanon.j4 kq t363 t367 x130_51 = some r) ∧ Aside0 (kq ≤ kj37) ∧ Aside0 (Kd.R (Kd.int .i64) 3 wc w.heap.size (fun k_ => some k_ ≠ (v368 : Value).ownBlock) v364 t363) ∧ Aside0 (Kd.R (Kd.int .i64) 3 wc w.heap.size (fun k_ => some k_ ≠ (v364 : Value).ownBlock) v368 t367) ∧ Aside0 (wc.heap[gb332]? = some (.cells #[.int .i64 a0_0, (.slice A0_1 l0_1.length c0_1)] 24 (0, 0))) ∧ Aside0 (Below w.heap.size w wc))
                          case first =>
                            have H := HC52.out
                            clear HC52
                            by_cases c61 : t370 = 0
                            · rw [if_pos c61] at H
                              have c61b0 : (t370 == 0) = true := beq_iff_eq.mpr c61
                              have c61b1 : (t370 != 0) = false := bne_eq_false_iff_eq.mpr c61
                              clear c61
                              (first | rw [c61b0] | (simp only [i64_w, i32_w]; rw [c61b0]) | skip)
                              by_cases c62 : (t363.length : Int) = (wrap64 (2 * (l0_1.length : Int)))
                              · rw [if_pos c62] at H
                                have c62b0 : ((t363.length : Int) == (wrap64 (2 * (l0_1.length : Int)))) = true := beq_iff_eq.mpr c62
                                have c62b1 : ((t363.length : Int) != (wrap64 (2 * (l0_1.length : Int)))) = false := bne_eq_false_iff_eq.mpr c62
                                clear c62
                                have H' := Aside0.mk H
                                clear H
                                obtain ⟨Ao63, co63, eo63⟩ := Kd.R_slice HO365.out
                                subst eo63
                                have hcz64_0 : w60.cell? ⟨gb332, 0, none⟩ = some (.int .i64 a0_0) := (blk_cell BK332.out 0).trans rfl
                                have hcz64_1 : w60.cell? ⟨gb332, 1, none⟩ = some (.slice A0_1 l0_1.length c0_1) := (blk_cell BK332.out 1).trans rfl
                                have hfz64_0 := blk_frozen BK332.out 0
                                have hfz64_1 := blk_frozen BK332.out 1
                                obtain ⟨Ao65, co65, eo65⟩ := Kd.R_slice HO369.out
                                subst eo65
                                go_wp2
                                go_meet
                                case rel => exact ⟨_, (((t367.length : Int) != (t363.length : Int))), (by first | rfl | (simp; done) | (simp [*]; done)), H', ⟨by have := HJ10.out; have := HK2.out; have := HJ37.out; first | omega | exact Nat.le_refl _⟩, ⟨by (with_reducible repeat (first | apply Kd.R_alloc | apply Kd.R_drewN | apply Kd.R_drew)); exact Kd.R_mono HO365.out (fun _ hk => hk.2)⟩, ⟨by (with_reducible repeat (first | apply Kd.R_alloc | apply Kd.R_drewN | apply Kd.R_drew)); exact Kd.R_mono HO369.out (fun _ hk => hk.2)⟩, ⟨by (with_reducible repeat (first | refine blk_drewN ?_ _ | refine blk_drew ?_ | refine blk_alloc ?_ _)); exact BK332.out⟩, ⟨by repeat (first | (with_reducible first | exact HB.out | apply below_alloc | apply pw_below_drewN | apply below_drew1 | refine below_set ?_ GE332.out) | exact HB.out)⟩⟩
                              · rw [if_neg c62] at H
                                have c62b0 : ((t363.length : Int) == (wrap64 (2 * (l0_1.length : Int)))) = false := beq_eq_false_iff_ne.mpr c62
                                have c62b1 : ((t363.length : Int) != (wrap64 (2 * (l0_1.length : Int)))) = true := bne_iff_ne.mpr c62
                                have H' := Aside0.mk H
                                clear H
                                obtain ⟨Ao66, co66, eo66⟩ := Kd.R_slice HO365.out
                                subst eo66
                                have hcz67_0 : w60.cell? ⟨gb332, 0, none⟩ = some (.int .i64 a0_0) := (blk_cell BK332.out 0).trans rfl
                                have hcz67_1 : w60.cell? ⟨gb332, 1, none⟩ = some (.slice A0_1 l0_1.length c0_1) := (blk_cell BK332.out 1).trans rfl
                                have hfz67_0 := blk_frozen BK332.out 0
                                have hfz67_1 := blk_frozen BK332.out 1
                                go_wp2
                                go_meet
                                case rel => exact ⟨_, (true), (by first | rfl | (simp; done) | (simp [*]; done)), H', ⟨by have := HJ10.out; have := HK2.out; have := HJ37.out; first | omega | exact Nat.le_refl _⟩, ⟨by (with_reducible repeat (first | apply Kd.R_alloc | apply Kd.R_drewN | apply Kd.R_drew)); exact Kd.R_mono HO365.out (fun _ hk => hk.2)⟩, ⟨by (with_reducible repeat (first | apply Kd.R_alloc | apply Kd.R_drewN | apply Kd.R_drew)); exact Kd.R_mono HO369.out (fun _ hk => hk.2)⟩, ⟨by (with_reducible repeat (first | refine blk_drewN ?_ _ | refine blk_drew ?_ | refine blk_alloc ?_ _)); exact BK332.out⟩, ⟨by repeat (first | (with_reducible first | exact HB.out | apply below_alloc | apply pw_below_drewN | apply below_drew1 | refine below_set ?_ GE332.out) | exact HB.out)⟩⟩
                            · rw [if_neg c61] at H
                              have c61b0 : (t370 == 0) = false := beq_eq_false_iff_ne.mpr c61
                              have c61b1 : (t370 != 0) = true := bne_iff_ne.mpr c61
                              (first | rw [c61b0] | (simp only [i64_w, i32_w]; rw [c61b0]) | skip)
                              have H' := Aside0.mk H
                              clear H
                              go_wp2
                              go_meet
                              case rel => exact ⟨_, (true), (by first | rfl | (simp; done) | (simp [*]; done)), H', ⟨by have := HJ10.out; have := HK2.out; have := HJ37.out; first | omega | exact Nat.le_refl _⟩, ⟨by (with_reducible repeat (first | apply Kd.R_alloc | apply Kd.R_drewN | apply Kd.R_drew)); exact Kd.R_mono HO365.out (fun _ hk => hk.2)⟩, ⟨by (with_reducible repeat (first | apply Kd.R_alloc | apply Kd.R_drewN | apply Kd.R_drew)); exact Kd.R_mono HO369.out (fun _ hk => hk.2)⟩, ⟨by (with_reducible repeat (first | refine blk_drewN ?_ _ | refine blk_drew ?_ | refine blk_alloc ?_ _)); exact BK332.out⟩, ⟨by repeat (first | (with_reducible first | exact HB.out | apply below_alloc | apply pw_below_drewN | apply below_drew1 | refine below_set ?_ GE332.out) | exact HB.out)⟩⟩
                          case rest =>
                            clear HC52
                            try clear c1
                            try clear c2
                            try clear p2
                            try clear c3
                            try clear p3
                            try clear q3
                            try clear hx3
                            try clear qi3
                            try clear c4
                            try clear c5
                            try clear c6
                            try clear p6
                            try clear c8
                            try clear c8b0
                            try clear c8b1
                            try clear c11
                            try clear c12
                            try clear c15
                            try clear c21
                            try clear c22
                            try clear c22b0
                            try clear c22b1
                            try clear c24
                            try clear c25
                            try clear c27
                            try clear c29
                            try clear c30
                            try clear c30b0
                            try clear c31
                            try clear c31b0
                            try clear c32
                            try clear c32b0
                            try clear c33
                            try clear c33b0
                            try clear c34
                            try clear c34b0
                            try clear p34
                            try clear q34
                            try clear hx34
                            try clear c35
                            try clear c35b0
                            try clear p35
                            try clear q35
                            try clear hx35
                            try clear qi35
                            try clear c36
                            try clear c36b0
                            try clear c36b1
                            try clear c37
                            try clear c37b0
                            try clear c39
                            try clear c39b0
                            try clear c39b1
                            try clear c45
                            try clear c49
                            try clear c61
                            try clear c61b0
                            try clear c61b1
                            try clear c62
                            try clear c62b0
                            try clear c62b1
                            try clear p64
                            try clear hcz14_0
                            try clear hcz14_1
                            try clear hcz16_0
                            try clear hcz16_1
                            try clear hcz19_0
                            try clear hcz19_1
                            try clear hcz57_0
                            try clear hcz57_1
                            try clear hcz59_0
                            try clear hcz59_1
                            try clear hcz64_0
                            try clear hcz64_1
                            try clear hcz67_0
                            try clear hcz67_1
                            try clear hfz14_0
                            try clear hfz14_1
                            try clear hfz16_0
                            try clear hfz16_1
                            try clear hfz19_0
                            try clear hfz19_1
                            try clear hfz57_0
                            try clear hfz57_1
                            try clear hfz59_0
                            try clear hfz59_1
                            try clear hfz64_0
                            try clear hfz64_1
                            try clear hfz67_0
                            try clear hfz67_1
                            try clear hx348_0
                            try clear hx349_0
                            try clear hx350_0
                            try clear p2
                            try clear p3
                            try clear p34
                            try clear p348
                            try clear p349
                            try clear p35
                            try clear p350
                            try clear p6
                            try clear q3
                            try clear q34
                            try clear q348
                            try clear q349
                            try clear q35
                            try clear q350
                            obtain ⟨kq, x130_51, rfl, HA, HJ51, HO_19, HO_21, BK332, HB⟩ := hcut
                            cases kq with
                            | zero => exact absurd HA.out (by simp [tangramlaw11_RotCanon.j4])
                            | succ kj51 =>
                              have H := HA.out
                              clear HA
                              simp only [tangramlaw11_RotCanon.j4] at H
                              by_cases c68 : x130_51 = true
                              · subst c68
                                have H1 : (some false) = some r := by rw [if_pos rfl] at H; exact H
                                clear H
                                have H := H1
                                clear H1
                                obtain rfl := Option.some.inj H
                                go_wp2
                                go_ret
                                exact ⟨by first | rfl | (simp [errW_none, errW_some] <;> rfl) | (simp [*, errW_none, errW_some] <;> rfl), by repeat (first | (with_reducible first | exact HB.out | apply below_alloc | apply pw_below_drewN | apply below_drew1 | refine below_set ?_ GE332.out) | exact HB.out)⟩
                              · replace c68 := Bool.eq_false_iff.mpr c68
                                subst c68
                                have H1 : (tangramlaw11_RotCanon.l2 kj51 t363 t367 (t363.length : Int) 0) = some r := by rw [if_neg (show ¬ (false = true) by decide)] at H; exact H
                                clear H
                                have H := H1
                                clear H1
                                have H' := Aside0.mk H
                                clear H
                                obtain ⟨Ao69, co69, eo69⟩ := Kd.R_slice HO_19.out
                                subst eo69
                                go_wp2
                                go_loopg [133] kj51 (fun kq v133 w' => ∃ (x133_5 : Int), v133 = .int .i64 x133_5 ∧ Aside0 (tangramlaw11_RotCanon.l2 kq t363 t367 (t363.length : Int) x133_5 = some r) ∧ Aside0 (kq ≤ kj51) ∧ Aside0 (Kd.R (Kd.int .i64) 3 w' w.heap.size (fun k_ => some k_ ≠ (v368 : Value).ownBlock) (.slice Ao69 t363.length co69) t363) ∧ Aside0 (Kd.R (Kd.int .i64) 3 w' w.heap.size (fun k_ => some k_ ≠ ((.slice Ao69 t363.length co69) : Value).ownBlock) v368 t367) ∧ Aside0 (w'.heap[gb332]? = some (.cells #[.int .i64 a0_0, (.slice A0_1 l0_1.length c0_1)] 24 (0, 0))) ∧ Aside0 (Below w.heap.size w w'))
                                case atStart => exact ⟨(0), (by first | rfl | (simp; done) | (simp [*]; done)), H', ⟨Nat.le_refl _⟩, ⟨by (with_reducible repeat (first | apply Kd.R_alloc | apply Kd.R_drewN | apply Kd.R_drew)); exact HO_19.out⟩, ⟨by (with_reducible repeat (first | apply Kd.R_alloc | apply Kd.R_drewN | apply Kd.R_drew)); exact HO_21.out⟩, ⟨by (with_reducible repeat (first | refine blk_drewN ?_ _ | refine blk_drew ?_ | refine blk_alloc ?_ _)); exact BK332.out⟩, ⟨by repeat (first | (with_reducible first | exact HB.out | apply below_alloc | apply pw_below_drewN | apply below_drew1 | refine below_set ?_ GE332.out) | exact HB.out)⟩⟩
                                case round =>
                                  clear H'
                                  try clear c1
                                  try clear c2
                                  try clear p2
                                  try clear c3
                                  try clear p3
                                  try clear q3
                                  try clear hx3
                                  try clear qi3
                                  try clear c4
                                  try clear c5
                                  try clear c6
                                  try clear p6
                                  try clear c8
                                  try clear c8b0
                                  try clear c8b1
                                  try clear c11
                                  try clear c12
                                  try clear c15
                                  try clear c21
                                  try clear c22
                                  try clear c22b0
                                  try clear c22b1
                                  try clear c24
                                  try clear c25
                                  try clear c27
                                  try clear c29
                                  try clear c30
                                  try clear c30b0
                                  try clear c31
                                  try clear c31b0
                                  try clear c32
                                  try clear c32b0
                                  try clear c33
                                  try clear c33b0
                                  try clear c34
                                  try clear c34b0
                                  try clear p34
                                  try clear q34
                                  try clear hx34
                                  try clear c35
                                  try clear c35b0
                                  try clear p35
                                  try clear q35
                                  try clear hx35
                                  try clear qi35
                                  try clear c36
                                  try clear c36b0
                                  try clear c36b1
                                  try clear c37
                                  try clear c37b0
                                  try clear c39
                                  try clear c39b0
                                  try clear c39b1
                                  try clear c45
                                  try clear c49
                                  try clear c61
                                  try clear c61b0
                                  try clear c61b1
                                  try clear c62
                                  try clear c62b0
                                  try clear c62b1
                                  try clear p64
                                  try clear c68
                                  try clear hcz14_0
                                  try clear hcz14_1
                                  try clear hcz16_0
                                  try clear hcz16_1
                                  try clear hcz19_0
                                  try clear hcz19_1
                                  try clear hcz57_0
                                  try clear hcz57_1
                                  try clear hcz59_0
                                  try clear hcz59_1
                                  try clear hcz64_0
                                  try clear hcz64_1
                                  try clear hcz67_0
                                  try clear hcz67_1
                                  try clear hfz14_0
                                  try clear hfz14_1
                                  try clear hfz16_0
                                  try clear hfz16_1
                                  try clear hfz19_0
                                  try clear hfz19_1
                                  try clear hfz57_0
                                  try clear hfz57_1
                                  try clear hfz59_0
                                  try clear hfz59_1
                                  try clear hfz64_0
                                  try clear hfz64_1
                                  try clear hfz67_0
                                  try clear hfz67_1
                                  try clear hx348_0
                                  try clear hx349_0
                                  try clear hx350_0
                                  try clear p2
                                  try clear p3
                                  try clear p34
                                  try clear p348
                                  try clear p349
                                  try clear p35
                                  try clear p350
                                  try clear p6
                                  try clear p64
                                  try clear q3
                                  try clear q34
                                  try clear q348
                                  try clear q349
                                  try clear q35
                                  try clear q350
                                  obtain ⟨x133_5, rfl, HA, HK5, HO_19, HO_21, BK332, HB⟩ := hrel
                                  cases gk with
                                  | zero => exact absurd HA.out (by simp [tangramlaw11_RotCanon.l2])
                                  | succ k5 =>
                                    have H := HA.out
                                    clear HA
                                    simp only [tangramlaw11_RotCanon.l2] at H
                                    by_cases c70 : x133_5 < (t363.length : Int)
                                    · rw [if_pos c70] at H
                                      have c70b0 : decide (x133_5 < (t363.length : Int)) = true := decide_eq_true c70
                                      clear c70
                                      by_cases c71 : 0 ≤ x133_5
                                      · rw [if_pos c71] at H
                                        have c71b0 : decide (0 ≤ x133_5) = true := decide_eq_true c71
                                        clear c71
                                        by_cases c72 : x133_5 < (t363.length : Int)
                                        · rw [if_pos c72] at H
                                          have c72b0 : decide (x133_5 < (t363.length : Int)) = true := decide_eq_true c72
                                          clear c72
                                          by_cases c73 : (rd t363 x133_5) < 0
                                          · rw [if_pos c73] at H
                                            have c73b0 : decide ((rd t363 x133_5) < 0) = true := decide_eq_true c73
                                            clear c73
                                            obtain rfl := Option.some.inj H
                                            have p371 : 0 ≤ (x133_5 : Int) := of_decide_eq_true (by first | (with_reducible assumption) | assumption)
                                            have q371 : x133_5 < (t363.length : Int) := of_decide_eq_true (by first | (with_reducible assumption) | assumption)
                                            obtain ⟨ad371, e371, hx371_0⟩ := Kd.at_int (Kd.R_reads' HO_19.out).2.2 x133_5 p371 q371
                                            cases e371
                                            replace p371 := eq_true p371
                                            replace q371 := eq_true q371
                                            go_wp2
                                            go_ret
                                            exact ⟨by first | rfl | (simp [errW_none, errW_some] <;> rfl) | (simp [*, errW_none, errW_some] <;> rfl), by repeat (first | (with_reducible first | exact HB.out | apply below_alloc | apply pw_below_drewN | apply below_drew1 | refine below_set ?_ GE332.out) | exact HB.out)⟩
                                          · rw [if_neg c73] at H
                                            have c73b0 : decide ((rd t363 x133_5) < 0) = false := decide_eq_false c73
                                            clear c73
                                            by_cases c74 : (rd t363 x133_5) ≥ (t367.length : Int)
                                            · rw [if_pos c74] at H
                                              have c74b0 : decide ((t367.length : Int) ≤ (rd t363 x133_5)) = true := decide_eq_true c74
                                              clear c74
                                              obtain rfl := Option.some.inj H
                                              have p371 : 0 ≤ (x133_5 : Int) := of_decide_eq_true (by first | (with_reducible assumption) | assumption)
                                              have q371 : x133_5 < (t363.length : Int) := of_decide_eq_true (by first | (with_reducible assumption) | assumption)
                                              obtain ⟨ad371, e371, hx371_0⟩ := Kd.at_int (Kd.R_reads' HO_19.out).2.2 x133_5 p371 q371
                                              cases e371
                                              replace p371 := eq_true p371
                                              replace q371 := eq_true q371
                                              have p372 : 0 ≤ (x133_5 : Int) := of_decide_eq_true (by first | (with_reducible assumption) | assumption)
                                              have q372 : x133_5 < (t363.length : Int) := of_decide_eq_true (by first | (with_reducible assumption) | assumption)
                                              obtain ⟨ad372, e372, hx372_0⟩ := Kd.at_int (Kd.R_reads' HO_19.out).2.2 x133_5 p372 q372
                                              obtain rfl : ad371 = ad372 := (by injection e372)
                                              replace p372 := eq_true p372
                                              replace q372 := eq_true q372
                                              obtain ⟨Ao75, co75, eo75⟩ := Kd.R_slice HO_21.out
                                              subst eo75
                                              go_wp2
                                              go_ret
                                              exact ⟨by first | rfl | (simp [errW_none, errW_some] <;> rfl) | (simp [*, errW_none, errW_some] <;> rfl), by repeat (first | (with_reducible first | exact HB.out | apply below_alloc | apply pw_below_drewN | apply below_drew1 | refine below_set ?_ GE332.out) | exact HB.out)⟩
                                            · rw [if_neg c74] at H
                                              have c74b0 : decide ((t367.length : Int) ≤ (rd t363 x133_5)) = false := decide_eq_false c74
                                              clear c74
                                              by_cases c76 : 0 ≤ (rd t363 x133_5)
                                              · rw [if_pos c76] at H
                                                have c76b0 : decide (0 ≤ (rd t363 x133_5)) = true := decide_eq_true c76
                                                clear c76
                                                by_cases c77 : (rd t363 x133_5) < (t367.length : Int)
                                                · rw [if_pos c77] at H
                                                  have c77b0 : decide ((rd t363 x133_5) < (t367.length : Int)) = true := decide_eq_true c77
                                                  clear c77
                                                  by_cases c78 : (rd t367 (rd t363 x133_5)) = x133_5
                                                  · rw [if_pos c78] at H
                                                    have c78b0 : ((rd t367 (rd t363 x133_5)) == x133_5) = true := beq_iff_eq.mpr c78
                                                    have c78b1 : ((rd t367 (rd t363 x133_5)) != x133_5) = false := bne_eq_false_iff_eq.mpr c78
                                                    clear c78
                                                    have H' := Aside0.mk H
                                                    clear H
                                                    have p371 : 0 ≤ (x133_5 : Int) := of_decide_eq_true (by first | (with_reducible assumption) | assumption)
                                                    have q371 : x133_5 < (t363.length : Int) := of_decide_eq_true (by first | (with_reducible assumption) | assumption)
                                                    obtain ⟨ad371, e371, hx371_0⟩ := Kd.at_int (Kd.R_reads' HO_19.out).2.2 x133_5 p371 q371
                                                    cases e371
                                                    replace p371 := eq_true p371
                                                    replace q371 := eq_true q371
                                                    have p372 : 0 ≤ (x133_5 : Int) := of_decide_eq_true (by first | (with_reducible assumption) | assumption)
                                                    have q372 : x133_5 < (t363.length : Int) := of_decide_eq_true (by first | (with_reducible assumption) | assumption)
                                                    obtain ⟨ad372, e372, hx372_0⟩ := Kd.at_int (Kd.R_reads' HO_19.out).2.2 x133_5 p372 q372
                                                    obtain rfl : ad371 = ad372 := (by injection e372)
                                                    replace p372 := eq_true p372
                                                    replace q372 := eq_true q372
                                                    obtain ⟨Ao79, co79, eo79⟩ := Kd.R_slice HO_21.out
                                                    subst eo79
                                                    have p373 : 0 ≤ (x133_5 : Int) := of_decide_eq_true (by first | (with_reducible assumption) | assumption)
                                                    have q373 : x133_5 < (t363.length : Int) := of_decide_eq_true (by first | (with_reducible assumption) | assumption)
                                                    obtain ⟨ad373, e373, hx373_0⟩ := Kd.at_int (Kd.R_reads' HO_19.out).2.2 x133_5 p373 q373
                                                    obtain rfl : ad371 = ad373 := (by injection e373)
                                                    replace p373 := eq_true p373
                                                    replace q373 := eq_true q373
                                                    have p374 : 0 ≤ ((rd t363 x133_5) : Int) := of_decide_eq_true (by first | (with_reducible assumption) | assumption)
                                                    have q374 : (rd t363 x133_5) < (t367.length : Int) := of_decide_eq_true (by first | (with_reducible assumption) | assumption)
                                                    obtain ⟨ad374, e374, hx374_0⟩ := Kd.at_int (Kd.R_reads' HO_21.out).2.2 (rd t363 x133_5) p374 q374
                                                    cases e374
                                                    replace p374 := eq_true p374
                                                    replace q374 := eq_true q374
                                                    go_wp2
                                                    go_roundg k5
                                                    case measure => have := HJ10.out; have := HK2.out; have := HJ37.out; have := HJ51.out; have := HK5.out; omega
                                                    case rel => exact ⟨(wrap64 (x133_5 + 1)), (by first | rfl | (simp; done) | (simp [*]; done)), H', ⟨by have := HJ10.out; have := HK2.out; have := HJ37.out; have := HJ51.out; have := HK5.out; omega⟩, ⟨by (with_reducible repeat (first | apply Kd.R_alloc | apply Kd.R_drewN | apply Kd.R_drew)); exact HO_19.out⟩, ⟨by (with_reducible repeat (first | apply Kd.R_alloc | apply Kd.R_drewN | apply Kd.R_drew)); exact HO_21.out⟩, ⟨by (with_reducible repeat (first | refine blk_drewN ?_ _ | refine blk_drew ?_ | refine blk_alloc ?_ _)); exact BK332.out⟩, ⟨by repeat (first | (with_reducible first | exact HB.out | apply below_alloc | apply pw_below_drewN | apply below_drew1 | refine below_set ?_ GE332.out) | exact HB.out)⟩⟩
                                                  · rw [if_neg c78] at H
                                                    have c78b0 : ((rd t367 (rd t363 x133_5)) == x133_5) = false := beq_eq_false_iff_ne.mpr c78
                                                    have c78b1 : ((rd t367 (rd t363 x133_5)) != x133_5) = true := bne_iff_ne.mpr c78
                                                    obtain rfl := Option.some.inj H
                                                    have p371 : 0 ≤ (x133_5 : Int) := of_decide_eq_true (by first | (with_reducible assumption) | assumption)
                                                    have q371 : x133_5 < (t363.length : Int) := of_decide_eq_true (by first | (with_reducible assumption) | assumption)
                                                    obtain ⟨ad371, e371, hx371_0⟩ := Kd.at_int (Kd.R_reads' HO_19.out).2.2 x133_5 p371 q371
                                                    cases e371
                                                    replace p371 := eq_true p371
                                                    replace q371 := eq_true q371
                                                    have p372 : 0 ≤ (x133_5 : Int) := of_decide_eq_true (by first | (with_reducible assumption) | assumption)
                                                    have q372 : x133_5 < (t363.length : Int) := of_decide_eq_true (by first | (with_reducible assumption) | assumption)
                                                    obtain ⟨ad372, e372, hx372_0⟩ := Kd.at_int (Kd.R_reads' HO_19.out).2.2 x133_5 p372 q372
                                                    obtain rfl : ad371 = ad372 := (by injection e372)
                                                    replace p372 := eq_true p372
                                                    replace q372 := eq_true q372
                                                    obtain ⟨Ao80, co80, eo80⟩ := Kd.R_slice HO_21.out
                                                    subst eo80
                                                    have p373 : 0 ≤ (x133_5 : Int) := of_decide_eq_true (by first | (with_reducible assumption) | assumption)
                                                    have q373 : x133_5 < (t363.length : Int) := of_decide_eq_true (by first | (with_reducible assumption) | assumption)
                                                    obtain ⟨ad373, e373, hx373_0⟩ := Kd.at_int (Kd.R_reads' HO_19.out).2.2 x133_5 p373 q373
                                                    obtain rfl : ad371 = ad373 := (by injection e373)
                                                    replace p373 := eq_true p373
                                                    replace q373 := eq_true q373
                                                    have p374 : 0 ≤ ((rd t363 x133_5) : Int) := of_decide_eq_true (by first | (with_reducible assumption) | assumption)
                                                    have q374 : (rd t363 x133_5) < (t367.length : Int) := of_decide_eq_true (by first | (with_reducible assumption) | assumption)
                                                    obtain ⟨ad374, e374, hx374_0⟩ := Kd.at_int (Kd.R_reads' HO_21.out).2.2 (rd t363 x133_5) p374 q374
                                                    cases e374
                                                    replace p374 := eq_true p374
                                                    replace q374 := eq_true q374
                                                    go_wp2
                                                    go_ret
                                                    exact ⟨by first | rfl | (simp [errW_none, errW_some] <;> rfl) | (simp [*, errW_none, errW_some] <;> rfl), by repeat (first | (with_reducible first | exact HB.out | apply below_alloc | apply pw_below_drewN | apply below_drew1 | refine below_set ?_ GE332.out) | exact HB.out)⟩
                                                · rw [if_neg c77] at H
                                                  exact absurd H (by simp)
                                              · rw [if_neg c76] at H
                                                exact absurd H (by simp)
                                        · rw [if_neg c72] at H
                                          exact absurd H (by simp)
                                      · rw [if_neg c71] at H
                                        exact absurd H (by simp)
                                    · rw [if_neg c70] at H
                                      have c70b0 : decide (x133_5 < (t363.length : Int)) = false := decide_eq_false c70
                                      clear c70
                                      obtain rfl := Option.some.inj H
                                      go_wp2
                                      go_ret
                                      exact ⟨by first | rfl | (simp [errW_none, errW_some] <;> rfl) | (simp [*, errW_none, errW_some] <;> rfl), by repeat (first | (with_reducible first | exact HB.out | apply below_alloc | apply pw_below_drewN | apply below_drew1 | refine below_set ?_ GE332.out) | exact HB.out)⟩
                        · replace c49 := Bool.eq_false_iff.mpr c49
                          subst c49
                          have H1 : (some false) = some r := by rw [if_neg (show ¬ (false = true) by decide)] at H; exact H
                          clear H
                          have H := H1
                          clear H1
                          obtain rfl := Option.some.inj H
                          go_wp2_with (first | ((with_reducible refine gate_callee (f := 27) rfl ?_); refine goesL_ (some 95) rfl rfl Try.func27 (by kernel_rfl) rfl #[.slice A1 l1.length c1] rfl (by (try simp only [List.map_toArray, List.map_cons, List.map_nil]); first | done | rfl | (simp only [List.length_drop, List.length_take]; rfl)) ?_; (with_reducible refine (rot_Mirror.calls kj37 _ _ l1 t356 _ ?side1 ?side2 A46.out).mono ?_); (case side1 => repeat (first | exact (Kd.C_below HR1.out HB.out) | (with_reducible refine Kd.C_alloc ?_ _) | (with_reducible refine Kd.C_drewN ?_ _) | (with_reducible refine Kd.C_drew ?_))); (case side2 => exact HC1.out); rintro e w81 ⟨v357, rfl, ho0, hb⟩; refine ⟨_, rfl, ?_⟩; have n0_ := Aside0.mk (Kd.S_elder' (by (with_reducible repeat (first | apply Kd.S_alloc | apply Kd.S_drewN | apply Kd.S_drew)); exact HO_11.out) (Kd.S_base ho0) hb); have n1_ := Aside0.mk (Kd.S_lower (Kd.S_new' ho0 (Kd.S_lt (by (with_reducible repeat (first | apply Kd.S_alloc | apply Kd.S_drewN | apply Kd.S_drew)); exact HO_11.out))) (below_size (by repeat (first | (with_reducible first | exact HB.out | apply below_alloc | apply pw_below_drewN | apply below_drew1 | refine below_set ?_ GE332.out) | exact HB.out)))); have n2_ := Aside0.mk (blk_below (g := gb332) (o := .cells #[.int .i64 a0_0, .slice A0_1 l0_1.length c0_1] 24 (0, 0)) (by (with_reducible repeat (first | refine blk_drewN ?_ _ | refine blk_drew ?_ | refine blk_alloc ?_ _)); exact BK332.out) hb); have n3_ := Aside0.mk (below_step (by repeat (first | (with_reducible first | exact HB.out | apply below_alloc | apply pw_below_drewN | apply below_drew1 | refine below_set ?_ GE332.out) | exact HB.out)) hb); clear HO_11; clear BK332; clear HB; have HO_11 := n0_; have HO358 := n1_; have BK332 := n2_; have HB := n3_; clear n0_ n1_ n2_ n3_; (try clear hb); (try clear hb2); (try clear hk); (try clear hi); (try clear ho0); obtain ⟨Ao82, co82, eo82⟩ := Kd.S_slice HO358.out; subst eo82) | ((with_reducible refine gate_callee (f := 27) rfl ?_); refine goesL_ (some 97) rfl rfl Try.func27 (by kernel_rfl) rfl #[.slice Ao82 t356.length co82] rfl (by (try simp only [List.map_toArray, List.map_cons, List.map_nil]); first | done | rfl | (simp only [List.length_drop, List.length_take]; rfl)) ?_; (with_reducible refine (rot_Mirror.calls kj37 _ _ t356 t359 _ ?side1 ?side2 A47.out).mono ?_); (case side1 => repeat (first | exact (Kd.S_reads' HO358.out).2.2 | (with_reducible refine Kd.C_alloc ?_ _) | (with_reducible refine Kd.C_drewN ?_ _) | (with_reducible refine Kd.C_drew ?_))); (case side2 => exact (Kd.S_reads' HO358.out).2.1); rintro e w83 ⟨v360, rfl, ho0, hb⟩; refine ⟨_, rfl, ?_⟩; have n0_ := Aside0.mk (Kd.S_elder' (by (with_reducible repeat (first | apply Kd.S_alloc | apply Kd.S_drewN | apply Kd.S_drew)); exact HO_11.out) (Kd.S_base ho0) hb); have n1_ := Aside0.mk (Kd.S_elder' (by (with_reducible repeat (first | apply Kd.S_alloc | apply Kd.S_drewN | apply Kd.S_drew)); exact HO358.out) (Kd.S_base ho0) hb); have n2_ := Aside0.mk (Kd.S_lower (Kd.S_new' (Kd.S_new' ho0 (Kd.S_lt (by (with_reducible repeat (first | apply Kd.S_alloc | apply Kd.S_drewN | apply Kd.S_drew)); exact HO_11.out))) (Kd.S_lt (by (with_reducible repeat (first | apply Kd.S_alloc | apply Kd.S_drewN | apply Kd.S_drew)); exact HO358.out))) (below_size (by repeat (first | (with_reducible first | exact HB.out | apply below_alloc | apply pw_below_drewN | apply below_drew1 | refine below_set ?_ GE332.out) | exact HB.out)))); have n3_ := Aside0.mk (blk_below (g := gb332) (o := .cells #[.int .i64 a0_0, .slice A0_1 l0_1.length c0_1] 24 (0, 0)) (by (with_reducible repeat (first | refine blk_drewN ?_ _ | refine blk_drew ?_ | refine blk_alloc ?_ _)); exact BK332.out) hb); have n4_ := Aside0.mk (below_step (by repeat (first | (with_reducible first | exact HB.out | apply below_alloc | apply pw_below_drewN | apply below_drew1 | refine below_set ?_ GE332.out) | exact HB.out)) hb); clear HO_11; clear HO358; clear BK332; clear HB; have HO_11 := n0_; have HO358 := n1_; have HO361 := n2_; have BK332 := n3_; have HB := n4_; clear n0_ n1_ n2_ n3_ n4_; (try clear hb); (try clear hb2); (try clear hk); (try clear hi); (try clear ho0); obtain ⟨Ao84, co84, eo84⟩ := Kd.S_slice HO361.out; subst eo84) | ((with_reducible refine gate_callee (f := 21) rfl ?_); refine goesL_ (some 99) rfl rfl Try.func21 (by kernel_rfl) rfl #[.slice Ao84 t359.length co84, .slice Ao20 t338.length co20] rfl (by (try simp only [List.map_toArray, List.map_cons, List.map_nil]); first | done | rfl | (simp only [List.length_drop, List.length_take]; rfl)) ?_; (with_reducible refine (tangramref11_Equal.calls kj37 _ _ t359 _ _ t338 false _ ?side1 ?side2 ?side3 ?side4 A48.out).mono ?_); (case side1 => repeat (first | exact (Kd.S_reads' HO361.out).2.2 | (with_reducible refine Kd.C_alloc ?_ _) | (with_reducible refine Kd.C_drewN ?_ _) | (with_reducible refine Kd.C_drew ?_))); (case side2 => exact (Kd.S_reads' HO361.out).2.1); (case side3 => repeat (first | exact (Kd.S_reads' HO_11.out).2.2 | (with_reducible refine Kd.C_alloc ?_ _) | (with_reducible refine Kd.C_drewN ?_ _) | (with_reducible refine Kd.C_drew ?_))); (case side4 => exact (Kd.S_reads' HO_11.out).2.1); rintro e w' ⟨rfl, ⟨nd, rfl⟩⟩; refine ⟨_, rfl, ?_⟩))
                          go_ret
                          exact ⟨by first | rfl | (simp [errW_none, errW_some] <;> rfl) | (simp [*, errW_none, errW_some] <;> rfl), by repeat (first | (with_reducible first | exact HB.out | apply below_alloc | apply pw_below_drewN | apply below_drew1 | refine below_set ?_ GE332.out) | exact HB.out)⟩
    · rw [if_neg c8] at H
      have c8b0 : (t335 == 0) = false := beq_eq_false_iff_ne.mpr c8
      have c8b1 : (t335 != 0) = true := bne_iff_ne.mpr c8
      obtain rfl := Option.some.inj H
      go_enter Try.func8, Try.ntmps8
      go_wp2_with (first | ((with_reducible refine gate_dst (N := 3) rfl ?_); (try (refine gate_guard (by rfl) ?_; dsimp only)); refine box_event ?hg (N := 3) ?hd (cs := #[.int .i64 a0_0, .slice A0_1 l0_1.length c0_1]) (t := 24) ?hr ?_; (case hd => rfl); (case hg => rfl); (case hr => first | (go_simp; done) | (go_simp; rfl)); intro gb332 hg w85 hbox hb; have n0_ := Aside0.mk (below_step (by repeat (first | (with_reducible first | exact HB.out | apply below_alloc | apply pw_below_drewN | apply below_drew1) | exact HB.out)) hb); have n1_ := Aside0.mk (hbox); have n2_ := Aside0.mk ((by rw [hg]; exact (below_size (by repeat (first | (with_reducible first | exact HB.out | apply below_alloc | apply pw_below_drewN | apply below_drew1) | exact HB.out))) : w.heap.size ≤ gb332)); have n3_ := Aside0.mk ((by rw [hg]; exact (below_size (by repeat (first | (with_reducible first | exact HB.out | apply below_alloc | apply pw_below_drewN | apply below_drew1) | exact HB.out))) : w.heap.size ≤ gb332)); clear HB; have HB := n0_; have BK332 := n1_; have GW332 := n2_; have GE332 := n3_; clear n0_ n1_ n2_ n3_; clear hb hbox hg) | ((with_reducible refine gate_callee (f := 11) rfl ?_); refine goesL_ (some 24) rfl rfl Try.func11 (by kernel_rfl) rfl #[] rfl (by (try simp only [List.map_toArray, List.map_cons, List.map_nil]); first | done | rfl | (simp only [List.length_drop, List.length_take]; rfl)) ?_; (with_reducible refine (tangramlaw11_fixed.calls  true _ A4.out).mono ?_); rintro e w86 ⟨rfl, hb⟩; refine ⟨_, rfl, ?_⟩; have n0_ := Aside0.mk (blk_below (g := gb332) (o := .cells #[.int .i64 a0_0, .slice A0_1 l0_1.length c0_1] 24 (0, 0)) (by (with_reducible repeat (first | refine blk_drewN ?_ _ | refine blk_drew ?_ | refine blk_alloc ?_ _)); exact BK332.out) hb); have n1_ := Aside0.mk (below_step (by repeat (first | (with_reducible first | exact HB.out | apply below_alloc | apply pw_below_drewN | apply below_drew1 | refine below_set ?_ GE332.out) | exact HB.out)) hb); clear BK332; clear HB; have BK332 := n0_; have HB := n1_; clear n0_ n1_; (try clear hb); (try clear hb2); (try clear hk); (try clear hi); have hcz87_0 : w86.cell? ⟨gb332, 0, none⟩ = some (.int .i64 a0_0) := (blk_cell BK332.out 0).trans rfl; have hcz87_1 : w86.cell? ⟨gb332, 1, none⟩ = some (.slice A0_1 l0_1.length c0_1) := (blk_cell BK332.out 1).trans rfl; have hfz87_0 := blk_frozen BK332.out 0; have hfz87_1 := blk_frozen BK332.out 1) | ((with_reducible refine gate_callee (f := 15) rfl ?_); refine goesL_ (some 29) rfl rfl Try.func15 (by kernel_rfl) rfl #[.agg #[.int .i64 a0_0, .slice A0_1 l0_1.length c0_1], .slice A1 l1.length c1] rfl (by (try simp only [List.map_toArray, List.map_cons, List.map_nil]); first | done | rfl | (simp only [List.length_drop, List.length_take]; rfl)) ?_; (with_reducible refine (rot_Check.calls k a0_0 _ _ l0_1 _ _ l1 t334 t335 _ ?side1 ?side2 ?side3 ?side4 A6.out).mono ?_); (case side1 => repeat (first | exact (Kd.C_below HR0_1.out HB.out) | (with_reducible refine Kd.C_alloc ?_ _) | (with_reducible refine Kd.C_drewN ?_ _) | (with_reducible refine Kd.C_drew ?_))); (case side2 => exact HC0_1.out); (case side3 => repeat (first | exact (Kd.C_below HR1.out HB.out) | (with_reducible refine Kd.C_alloc ?_ _) | (with_reducible refine Kd.C_drewN ?_ _) | (with_reducible refine Kd.C_drew ?_))); (case side4 => exact HC1.out); rintro e w88 ⟨rfl, hb⟩; refine ⟨_, rfl, ?_⟩; have n0_ := Aside0.mk (blk_below (g := gb332) (o := .cells #[.int .i64 a0_0, .slice A0_1 l0_1.length c0_1] 24 (0, 0)) (by (with_reducible repeat (first | refine blk_drewN ?_ _ | refine blk_drew ?_ | refine blk_alloc ?_ _)); exact BK332.out) hb); have n1_ := Aside0.mk (below_step (by repeat (first | (with_reducible first | exact HB.out | apply below_alloc | apply pw_below_drewN | apply below_drew1 | refine below_set ?_ GE332.out) | exact HB.out)) hb); clear BK332; clear HB; have BK332 := n0_; have HB := n1_; clear n0_ n1_; (try clear hb); (try clear hb2); (try clear hk); (try clear hi); have hcz89_0 : w88.cell? ⟨gb332, 0, none⟩ = some (.int .i64 a0_0) := (blk_cell BK332.out 0).trans rfl; have hcz89_1 : w88.cell? ⟨gb332, 1, none⟩ = some (.slice A0_1 l0_1.length c0_1) := (blk_cell BK332.out 1).trans rfl; have hfz89_0 := blk_frozen BK332.out 0; have hfz89_1 := blk_frozen BK332.out 1) | ((with_reducible refine gate_callee (f := 15) rfl ?_); refine goesL_ (some 35) rfl rfl Try.func15 (by kernel_rfl) rfl #[.agg #[.int .i64 a0_0, .slice A0_1 l0_1.length c0_1], .slice A2 l2.length c2] rfl (by (try simp only [List.map_toArray, List.map_cons, List.map_nil]); first | done | rfl | (simp only [List.length_drop, List.length_take]; rfl)) ?_; (with_reducible refine (rot_Check.calls k a0_0 _ _ l0_1 _ _ l2 t336 t337 _ ?side1 ?side2 ?side3 ?side4 A7.out).mono ?_); (case side1 => repeat (first | exact (Kd.C_below HR0_1.out HB.out) | (with_reducible refine Kd.C_alloc ?_ _) | (with_reducible refine Kd.C_drewN ?_ _) | (with_reducible refine Kd.C_drew ?_))); (case side2 => exact HC0_1.out); (case side3 => repeat (first | exact (Kd.C_below HR2.out HB.out) | (with_reducible refine Kd.C_alloc ?_ _) | (with_reducible refine Kd.C_drewN ?_ _) | (with_reducible refine Kd.C_drew ?_))); (case side4 => exact HC2.out); rintro e w90 ⟨rfl, hb⟩; refine ⟨_, rfl, ?_⟩; have n0_ := Aside0.mk (blk_below (g := gb332) (o := .cells #[.int .i64 a0_0, .slice A0_1 l0_1.length c0_1] 24 (0, 0)) (by (with_reducible repeat (first | refine blk_drewN ?_ _ | refine blk_drew ?_ | refine blk_alloc ?_ _)); exact BK332.out) hb); have n1_ := Aside0.mk (below_step (by repeat (first | (with_reducible first | exact HB.out | apply below_alloc | apply pw_below_drewN | apply below_drew1 | refine below_set ?_ GE332.out) | exact HB.out)) hb); clear BK332; clear HB; have BK332 := n0_; have HB := n1_; clear n0_ n1_; (try clear hb); (try clear hb2); (try clear hk); (try clear hi)))
      go_ret
      exact ⟨by first | rfl | (simp [errW_none, errW_some] <;> rfl) | (simp [*, errW_none, errW_some] <;> rfl), by repeat (first | (with_reducible first | exact HB.out | apply below_alloc | apply pw_below_drewN | apply below_drew1 | refine below_set ?_ GE332.out) | exact HB.out)⟩
  · replace c5 := Bool.eq_false_iff.mpr c5
    subst c5
    have H1 : (some false) = some r := by rw [if_neg (show ¬ (false = true) by decide)] at H; exact H
    clear H
    have H := H1
    clear H1
    obtain rfl := Option.some.inj H
    go_enter Try.func8, Try.ntmps8
    go_wp2_with (first | ((with_reducible refine gate_dst (N := 3) rfl ?_); (try (refine gate_guard (by rfl) ?_; dsimp only)); refine box_event ?hg (N := 3) ?hd (cs := #[.int .i64 a0_0, .slice A0_1 l0_1.length c0_1]) (t := 24) ?hr ?_; (case hd => rfl); (case hg => rfl); (case hr => first | (go_simp; done) | (go_simp; rfl)); intro gb332 hg w91 hbox hb; have n0_ := Aside0.mk (below_step (by repeat (first | (with_reducible first | exact HB.out | apply below_alloc | apply pw_below_drewN | apply below_drew1) | exact HB.out)) hb); have n1_ := Aside0.mk (hbox); have n2_ := Aside0.mk ((by rw [hg]; exact (below_size (by repeat (first | (with_reducible first | exact HB.out | apply below_alloc | apply pw_below_drewN | apply below_drew1) | exact HB.out))) : w.heap.size ≤ gb332)); have n3_ := Aside0.mk ((by rw [hg]; exact (below_size (by repeat (first | (with_reducible first | exact HB.out | apply below_alloc | apply pw_below_drewN | apply below_drew1) | exact HB.out))) : w.heap.size ≤ gb332)); clear HB; have HB := n0_; have BK332 := n1_; have GW332 := n2_; have GE332 := n3_; clear n0_ n1_ n2_ n3_; clear hb hbox hg) | ((with_reducible refine gate_callee (f := 11) rfl ?_); refine goesL_ (some 24) rfl rfl Try.func11 (by kernel_rfl) rfl #[] rfl (by (try simp only [List.map_toArray, List.map_cons, List.map_nil]); first | done | rfl | (simp only [List.length_drop, List.length_take]; rfl)) ?_; (with_reducible refine (tangramlaw11_fixed.calls  false _ A4.out).mono ?_); rintro e w92 ⟨rfl, hb⟩; refine ⟨_, rfl, ?_⟩; have n0_ := Aside0.mk (blk_below (g := gb332) (o := .cells #[.int .i64 a0_0, .slice A0_1 l0_1.length c0_1] 24 (0, 0)) (by (with_reducible repeat (first | refine blk_drewN ?_ _ | refine blk_drew ?_ | refine blk_alloc ?_ _)); exact BK332.out) hb); have n1_ := Aside0.mk (below_step (by repeat (first | (with_reducible first | exact HB.out | apply below_alloc | apply pw_below_drewN | apply below_drew1 | refine below_set ?_ GE332.out) | exact HB.out)) hb); clear BK332; clear HB; have BK332 := n0_; have HB := n1_; clear n0_ n1_; (try clear hb); (try clear hb2); (try clear hk); (try clear hi)))
    go_ret
    exact ⟨by first | rfl | (simp [errW_none, errW_some] <;> rfl) | (simp [*, errW_none, errW_some] <;> rfl), by repeat (first | (with_reducible first | exact HB.out | apply below_alloc | apply pw_below_drewN | apply below_drew1 | refine below_set ?_ GE332.out) | exact HB.out)⟩

end Go.Proofs.Ytkkhhbegeboonaa.GAll
/- DERIVED. The law RotCanon, told: its printed form answers true. -/




namespace Go.Proofs.Ytkkhhbegeboonaa.Rot
open Go.RowKit Go.Proofs.YtkkhhbegeboonaaW.PrintWords Go.Proofs.YtkkhhbegeboonaaW.PrintLast Go.Proofs.YtkkhhbegeboonaaW.PrintMore Go.Proofs.Ytkkhhbegeboonaa.GAll Go.Proofs.Ytkkhhbegeboonaa.Mem
set_option linter.unusedVariables false
set_option linter.unusedSimpArgs false
/-- a check that answers 0 and what it then tells -/
theorem check_ok {n : Nat} {l : List Ed} {r : List (List Int)} (hg : PureV.Good (n : Int) l) (hr : IsRot (frs l) n r) : Ev (fun k => rot_Check.f k (n : Int) l r) (0, 0) := by
  obtain ⟨res, h1, h2, h3⟩ := check_ev (n : Int) l r
  rw [h2 (h3.2 ⟨n, rfl, hg, hr⟩)] at h1
  exact h1
section
variable {n : Nat} {l : List Ed} {r s : List (List Int)}
/-- there and back again -/
theorem back_next {fr : List Int} (hf : ∀ x, x < fr.length → 0 ≤ gi fr x ∧ gi fr x < n) (hr : IsRot fr n r) {nx bk : List Int} (h1 : NextOf r fr.length nx) (h2 : NextOf ((r.map List.reverse).map turnl) fr.length bk) {q : Nat} (hq : q < fr.length) : 0 ≤ gi nx q ∧ gi nx q < (fr.length : Int) ∧ gi bk (gi nx q).toNat = (q : Int) := by
  obtain ⟨v, j, g1, g2, g3, g4⟩ := hr.place hf hq
  have hl := hr.len
  have a := h1.2 v (by omega) j g3
  rw [g4, Int.toNat_natCast] at a
  have hm := Nat.mod_lt (j + 1) (show 0 < (gl r v).length by omega)
  obtain ⟨b1, b2, _⟩ := hr.at g1 hm
  rw [a]
  refine ⟨b1, b2, ?_⟩
  have hT : IsTurn (gl r v).reverse (turnl (gl r v).reverse) := isTurn_turnl _
  obtain ⟨i, c1, c2, c3⟩ := back_at hT (hr.nodup v g1) g3
  have e : gl ((r.map List.reverse).map turnl) v = turnl (gl r v).reverse := by rw [gl_map turnl (by simp; omega), gl_map List.reverse (by omega)]
  have b := h2.2 v (by simp; omega) i (by rw [e]; exact c1)
  rw [e, c2, c3, g4] at b
  exact b
theorem law_back {nx bk : List Int} (hx : nx.length ≤ 8388608) (h : ∀ q, q < nx.length → 0 ≤ gi nx q ∧ gi nx q < (bk.length : Int) ∧ gi bk (gi nx q).toNat = (q : Int)) (d : Nat) : ∀ q : Nat, q + d = nx.length → Ev (fun k => tangramlaw11_RotCanon.l2 k nx bk (nx.length : Int) (q : Int)) true := by
  induction d with
  | zero =>
    intro q hq
    refine Ev.step (f := fun _ => some true) (fun k => ?_) (Ev.now _)
    simp only [tangramlaw11_RotCanon.l2]
    rw [if_neg (by omega)]
  | succ d ih =>
    intro q hq
    obtain ⟨a, b, c⟩ := h q (by omega)
    refine Ev.step (fun k => ?_) (ih (q + 1) (by omega))
    simp only [tangramlaw11_RotCanon.l2]
    have e : rd bk (gi nx q) = (q : Int) := c
    rw [if_pos (by omega), if_pos (by omega), if_pos (by omega), gi_rd, if_neg (by omega), if_neg (by omega), if_pos a, if_pos b, e, if_pos rfl, w1 (by omega)]
theorem law_j3 (hg : PureV.Good (n : Int) l) (hr : IsRot (frs l) n r) (hs : Small r) : Ev (fun k => tangramlaw11_RotCanon.j3 k r (r.map turnl) false (n : Int) l) true := by
  have hll := hg.2.2.1
  have hfl := frs_length l
  obtain ⟨nx, e1, e2⟩ := next_ev hg hr (check_ok hg hr)
  obtain ⟨bk, e3, e4⟩ := next_ev hg hr.reverse.canon (check_ok hg hr.reverse.canon)
  rw [← hfl] at e2 e4
  have hback := fun q hq => back_next (n := n) (fun x hx => frs_range hg (by omega)) hr e2 e4 (q := q) hq
  have hn1 := e2.1
  have hn2 := e4.1
  have key := law_back (nx := nx) (bk := bk) (by omega) (fun q hq => by rw [hn2]; exact hback q (by omega)) nx.length 0 (by omega)
  have hM2 := mirror_ev hs.rev.turn
  have hE := equal_ev (x := (((r.map List.reverse).map turnl).map List.reverse).map turnl) (y := r.map turnl) hs.rev.turn.rev.turn
  rw [decide_eq_true (mirror_mirror hr)] at hE
  refine Ev.step (f := fun k => (rot_Mirror.f k r).bind fun t356 => (rot_Mirror.f k t356).bind fun t359 => (tangramref11_Equal.f k t359 (r.map turnl)).bind fun t362 => if t362 = true then (rot_Next.f k (n : Int) l r).bind fun bt363 => (rot_Next.f k (n : Int) l t356).bind fun bt367 => if bt367.2 = 0 then (if (bt363.1.length : Int) = wrap64 (2 * (l.length : Int)) then tangramlaw11_RotCanon.j4 k bt363.1 bt367.1 ((bt367.1.length : Int) != (bt363.1.length : Int)) else tangramlaw11_RotCanon.j4 k bt363.1 bt367.1 true) else tangramlaw11_RotCanon.j4 k bt363.1 bt367.1 true else some false) (fun k => ?_) ?_
  · simp only [tangramlaw11_RotCanon.j3]
    rw [if_neg (by decide)]
  · refine Ev.bind (mirror_ev hs) (Ev.bind hM2 (Ev.bind hE (Ev.congr (fun k => if_pos rfl) (Ev.bind e1 (Ev.bind e3 (Ev.congr (fun k => if_pos rfl) (Ev.congr (fun k => if_pos (by rw [IntWalk.wrap64_in _ (by omega)]; simp only; omega)) (Ev.step (fun k => ?_) key))))))))
    simp only [tangramlaw11_RotCanon.j4]
    rw [show ((bk.length : Int) != (nx.length : Int)) = false by rw [hn1, hn2]; simp, if_neg (by decide)]
    rfl
/-- no element is ahead of its list's first -/
theorem law_scan (x s : List (List Int)) {f : Int} (hn : x.length ≤ 8388608) (hx : ∀ v, v < x.length → (gl x v).length * 8 ≤ 140737488351232 ∧ ∀ j, j < (gl x v).length → gi (gl x v) 0 ≤ gi (gl x v) j)
    (he : Ev (fun k => if f = 0 then ((rot_Same.f r s).bind fun t351 => ((rot_Canon.f k s).bind fun t352 => ((tangramref11_Equal.f k x t352).bind fun t355 => (tangramlaw11_RotCanon.j3 k r x (t351 != t355) (n : Int) l)))) else (tangramlaw11_RotCanon.j3 k r x false (n : Int) l)) true) (d : Nat) : ∀ v : Nat, v + d = x.length →
    Ev (fun k => tangramlaw11_RotCanon.l0 k r s f x x (x.length : Int) (v : Int) (n : Int) l) true := by
  induction d with
  | zero =>
    intro v hv
    refine Ev.step (fun k => ?_) he
    simp only [tangramlaw11_RotCanon.l0]
    rw [if_neg (by omega)]
  | succ d ih =>
    intro v hv
    have hvx : v < x.length := by omega
    obtain ⟨hb, hmin⟩ := hx v hvx
    have row : ∀ (e j : Nat), j + e = (gl x v).length → Ev (fun k => tangramlaw11_RotCanon.l1 k r s f x (gl x v) x (x.length : Int) (v : Int) (gl x v) ((gl x v).length : Int) (j : Int) (n : Int) l) true := by
      intro e
      induction e with
      | zero =>
        intro j hj
        refine Ev.step (fun k => ?_) (ih (v + 1) (by omega))
        simp only [tangramlaw11_RotCanon.l1]
        rw [if_neg (by omega), w1 (by omega)]
      | succ e ih2 =>
        intro j hj
        have hm := hmin j (by omega)
        refine Ev.step (fun k => ?_) (ih2 (j + 1) (by omega))
        simp only [tangramlaw11_RotCanon.l1]
        have e0 : rd (gl x v) 0 = gi (gl x v) 0 := rfl
        rw [if_pos (by omega), if_pos (by omega), if_pos (by omega), if_pos (by omega), gi_rd, e0, if_neg (by omega), w1 (by omega)]
    refine Ev.step (fun k => ?_) (row (gl x v).length 0 (by omega))
    simp only [tangramlaw11_RotCanon.l0]
    rw [if_pos (by omega), if_pos (by omega), if_pos (by omega), rd_L]
    rfl
end
theorem canonLaw_true (n : Int) (l : List Ed) (r s : List (List Int)) (hr : Small r) (hs : Small s) : Ev (fun k => tangramlaw11_RotCanon.f k n l r s) true := by
  obtain ⟨res, h1, h2, h3⟩ := check_ev n l r
  obtain ⟨res2, g1, g2, g3⟩ := check_ev n l s
  unfold tangramlaw11_RotCanon.f
  have hfix : Ev (fun k => tangramlaw11_fixed.f) true := Ev.now _
  refine Ev.bind hfix (Ev.congr (fun k => if_pos rfl) (Ev.bind h1 (Ev.bind g1 ?_)))
  by_cases h0 : res.2 = 0
  · refine Ev.congr (fun k => if_pos h0) ?_
    obtain ⟨N, rfl, hg, hR⟩ := h3.1 h0
    have hn := hg.2.1
    refine Ev.bind (canon_ev hr) (Ev.bind (check_ok hg hR.canon) (Ev.congr (fun k => if_pos rfl) ?_))
    have hsame : Ev (fun k => rot_Same.f (r.map turnl) r) true := Ev.congr (fun k => by show some (sameOf (r.map turnl) r) = _; rw [canon_same hR]) (Ev.now _)
    refine Ev.bind hsame (Ev.congr (fun k => if_pos rfl) (Ev.bind (canon_ev hr.turn) ?_))
    have hE := equal_ev (x := (r.map turnl).map turnl) (y := r.map turnl) hr.turn.turn
    rw [decide_eq_true (canon_canon hR)] at hE
    refine Ev.bind hE ?_
    have hlen : (r.map turnl).length = N := by rw [List.length_map]; exact hR.len
    have key := law_scan (n := N) (l := l) (r := r) (r.map turnl) s (f := res2.2) (by omega) (fun v hv => by
        refine ⟨hr.turn.at hv, fun j hj => ?_⟩
        rw [hlen] at hv
        have e := gl_map (r := r) turnl (v := v) (by have := hR.len; omega)
        rw [e] at hj ⊢
        have hne : gl r v ≠ [] := by
          intro q
          rw [turnl_length, q] at hj
          exact absurd hj (by simp)
        obtain ⟨t, ht⟩ := turnl_head hne
        have e0 : gi (turnl (gl r v)) 0 = gi (gl r v) (leastAt (gl r v)) := by rw [ht]; rfl
        rw [e0]
        exact least_min _ _ (((isTurn_turnl (gl r v)).mem _).2 (gi_mem hj))) (by
        by_cases f0 : res2.2 = 0
        · refine Ev.congr (fun k => if_pos f0) ?_
          obtain ⟨M, e, _, hS⟩ := g3.1 f0
          obtain rfl : N = M := by omega
          have q : Ev (fun k => rot_Same.f r s) (decide (r.map turnl = s.map turnl)) := Ev.congr (fun k => by show some (sameOf r s) = _; rw [same_canon hR hS]) (Ev.now _)
          refine Ev.bind q (Ev.bind (canon_ev hs) (Ev.bind (equal_ev hr.turn) ?_))
          refine Ev.congr (fun k => ?_) (law_j3 hg hR hr)
          simp
        · exact Ev.congr (fun k => if_neg f0) (law_j3 hg hR hr)) (r.map turnl).length 0 (by omega)
    refine Ev.step (fun k => ?_) key
    simp only [tangramlaw11_RotCanon.j0]
    rw [if_neg (by decide)]
    rfl
  · exact Ev.congr (fun k => if_neg h0) (Ev.now _)
theorem RotCanon (a0_0 : Int) (A0_1 : Option Addr) (c0_1 : Nat) (l0_1 : List Ed) (A1 : Option Addr) (c1 : Nat) (l1 : List (List Int)) (A2 : Option Addr) (c2 : Nat) (l2 : List (List Int)) (w : World) (hr0_1 : Kd.C k59 w A0_1 l0_1.length l0_1) (hc0_1 : l0_1.length ≤ c0_1) (hr1 : Kd.C (Kd.slice 3 (Kd.int .i64)) w A1 l1.length l1) (hc1 : l1.length ≤ c1) (hr2 : Kd.C (Kd.slice 3 (Kd.int .i64)) w A2 l2.length l2) (hc2 : l2.length ≤ c2) {P0 : Prop} (g0 : P0)
    (g1 : l1.length * 24 ≤ 140737488351232 ∧ ∀ x ∈ l1, x.length * 8 ≤ 140737488351232 ∧ ∀ y ∈ x, Open.I64 y) (g2 : l2.length * 24 ≤ 140737488351232 ∧ ∀ x ∈ l2, x.length * 8 ≤ 140737488351232 ∧ ∀ y ∈ x, Open.I64 y) :
    Calls Try.prog 8 #[.agg #[.int .i64 a0_0, .slice A0_1 l0_1.length c0_1], .slice A1 l1.length c1, .slice A2 l2.length c2] w fun e w' => e = .returned (.bool true) ∧ Below w.heap.size w w' := by
  obtain ⟨k, h⟩ := (canonLaw_true a0_0 l0_1 l1 l2 ⟨g1.1, fun l hl => (g1.2 l hl).1⟩ ⟨g2.1, fun l hl => (g2.2 l hl).1⟩).rounds
  exact tangramlaw11_RotCanon.calls k a0_0 A0_1 c0_1 l0_1 A1 c1 l1 A2 c2 l2 true w hr0_1 hc0_1 hr1 hc1 hr2 hc2 h
end Go.Proofs.Ytkkhhbegeboonaa.Rot
