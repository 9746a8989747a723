/- DERIVED. Texts that OrderValid needs. -/
import Derived.Test.YtaepieadbfndnaaCOrderValidd
import Derived.Test.YtaepieadbfndnaaCOrderValidh
set_option linter.unusedVariables false
set_option linter.unusedSimpArgs false
set_option maxRecDepth 100000
namespace Go.Proofs.Ytaepieadbfndnaa
open Go.RowKit Go.Proofs.YtaepieadbfndnaaW.PrintWords Go.Proofs.YtaepieadbfndnaaW.PrintLast Go.Proofs.YtaepieadbfndnaaW.PrintMore
attribute [local go_sem] max2_int min2_int max_two min_two max_three min_three max_four min_four   -- for this text's walks alone
namespace GAll.Law
def tangramlaw24_OrderValid.f (k : Nat) (a0_0 : Int) (l0_1 : List (S41)) (l0_2 : List (List Int)) (a0_3 : Int) (l0_4 : List Int) : Option (Bool) := (tangramlaw24_awake.f).bind fun t180 => (if t180 = true then ((tangramlaw24_Large.f a0_0 l0_1).bind fun t181 => (if t181 = true then (some true) else ((tangramlaw24_valid.f k a0_0 l0_1 l0_2 a0_3 l0_4 l0_4).bind fun bt182 => ((tangramref24_Refuses.f k a0_0 l0_1 l0_2 a0_3).bind fun t184 => (if t184 = 0 then ((tangramref24_Feet.f k a0_0 l0_1 l0_2 a0_3 l0_4).bind fun bt185 => (if (bt182.1 == bt185.2) = true then (some (bt182.2 == t184)) else (some false))) else (if (bt182.1 == false) = true then (some (bt182.2 == t184)) else (some false))))))) else (some false))
theorem tangramlaw24_OrderValid.mono : ∀ a0 a1 a2 a3 a4 k, LeO (tangramlaw24_OrderValid.f k a0 a1 a2 a3 a4) (tangramlaw24_OrderValid.f (k + 1) a0 a1 a2 a3 a4) := by
 intro a0 a1 a2 a3 a4 k
 unfold tangramlaw24_OrderValid.f
 repeat' first
   | (with_reducible exact tangramlaw24_valid.mono _ _ _ _ _ _ _)
   | (with_reducible exact tangramref24_Feet.mono _ _ _ _ _ _)
   | (with_reducible exact tangramref24_Refuses.mono _ _ _ _ _)
   | (with_reducible exact LeO.refl _)
   | (with_reducible exact LeO.none _)
   | (with_reducible refine LeO.ite ?_ ?_)
   | (with_reducible refine LeO.bind ?_ (fun _ => ?_))
   | exact tangramlaw24_valid.mono _ _ _ _ _ _ _
   | exact tangramref24_Feet.mono _ _ _ _ _ _
   | exact tangramref24_Refuses.mono _ _ _ _ _
   | exact LeO.none _
   | refine LeO.ite ?_ ?_
   | refine LeO.bind ?_ (fun _ => ?_)
set_option maxHeartbeats 8000000 in
theorem tangramlaw24_OrderValid.calls (k : Nat) (a0_0 : Int) (A0_1 : Option Addr) (c0_1 : Nat) (l0_1 : List (S41)) (A0_2 : Option Addr) (c0_2 : Nat) (l0_2 : List (List Int)) (a0_3 : Int) (A0_4 : Option Addr) (c0_4 : Nat) (l0_4 : List Int) (r : Bool) (w : World) (hr0_1 : Kd.C k41 w A0_1 l0_1.length l0_1) (hc0_1 : l0_1.length ≤ c0_1) (hr0_2 : Kd.C (Kd.slice 3 (Kd.int .i64)) w A0_2 l0_2.length l0_2) (hc0_2 : l0_2.length ≤ c0_2) (hr0_4 : Kd.C (Kd.int .i64) w A0_4 l0_4.length l0_4) (hc0_4 : l0_4.length ≤ c0_4) (h : tangramlaw24_OrderValid.f k a0_0 l0_1 l0_2 a0_3 l0_4 = some r) :
  Calls Try.prog 5 #[.agg #[.int .i64 a0_0, .slice A0_1 l0_1.length c0_1, .slice A0_2 l0_2.length c0_2, .int .i64 a0_3, .slice A0_4 l0_4.length c0_4]] w fun e w' => e = .returned (.bool r) ∧ Below w.heap.size w w' := by
 have hu29 := Try.underlying29
 have hu24 := Try.underlying24
 have HR0_1 := Aside0.mk hr0_1
 have HC0_1 := Aside0.mk hc0_1
 clear hr0_1 hc0_1
 have HR0_2 := Aside0.mk hr0_2
 have HC0_2 := Aside0.mk hc0_2
 clear hr0_2 hc0_2
 have HR0_4 := Aside0.mk hr0_4
 have HC0_4 := Aside0.mk hc0_4
 clear hr0_4 hc0_4
 have HB := Aside0.mk (Below.refl w.heap.size w)
 have H : ((tangramlaw24_awake.f).bind fun t180 => (if t180 = true then ((tangramlaw24_Large.f a0_0 l0_1).bind fun t181 => (if t181 = true then (some true) else ((tangramlaw24_valid.f k a0_0 l0_1 l0_2 a0_3 l0_4 l0_4).bind fun bt182 => ((tangramref24_Refuses.f k a0_0 l0_1 l0_2 a0_3).bind fun t184 => (if t184 = 0 then ((tangramref24_Feet.f k a0_0 l0_1 l0_2 a0_3 l0_4).bind fun bt185 => (if (bt182.1 == bt185.2) = true then (some (bt182.2 == t184)) else (some false))) else (if (bt182.1 == false) = true then (some (bt182.2 == t184)) else (some false))))))) else (some false))) = some r := h
 clear h
 replace H := Option.bind_eq_some_iff.mp H
 obtain ⟨t180, A20, H⟩ := H
 have A2 := Aside0.mk A20
 clear A20
 refine Classical.byCases (p := t180 = true) (fun c3 => ?pc3) (fun c3 => ?nc3)
 case' pc3 =>
  subst c3
  rw [if_pos rfl] at H
  replace H := Option.bind_eq_some_iff.mp H
  obtain ⟨t181, A40, H⟩ := H
  have A4 := Aside0.mk A40
  clear A40
  refine Classical.byCases (p := t181 = true) (fun c5 => ?pc5) (fun c5 => ?nc5)
  case' pc5 =>
   subst c5
   rw [if_pos rfl] at H
   obtain rfl := Option.some.inj H
  case' nc5 =>
   replace c5 := Bool.eq_false_iff.mpr c5
   subst c5
   rw [if_neg (show ¬ (false = true) by decide)] at H
   replace H := Option.bind_eq_some_iff.mp H
   obtain ⟨⟨t182, t183⟩, A100, H⟩ := H
   have A10 := Aside0.mk A100
   clear A100
   replace H := Option.bind_eq_some_iff.mp H
   obtain ⟨t184, A110, H⟩ := H
   have A11 := Aside0.mk A110
   clear A110
   refine Classical.byCases (p := t184 = 0) (fun c12 => ?pc12) (fun c12 => ?nc12)
   case' pc12 =>
    rw [if_pos c12] at H
    have c12b0 : (t184 == 0) = true := beq_iff_eq.mpr c12
    have c12b1 : (t184 != 0) = false := bne_eq_false_iff_eq.mpr c12
    clear c12
    replace H := Option.bind_eq_some_iff.mp H
    obtain ⟨⟨t185, t188⟩, A130, H⟩ := H
    have A13 := Aside0.mk A130
    clear A130
    refine Classical.byCases (p := (t182 == t188) = true) (fun c14 => ?pc14) (fun c14 => ?nc14)
    case' pc14 =>
     rw [if_pos c14] at H
     have c14b0 : (t182 == t188) = true := c14
     (try (have c14b1 : decide (t182 = t188) = true := by simpa using c14))
     (try (have c14b2 : (t182 == t188) = true := by simpa using c14))
     clear c14
     obtain rfl := Option.some.inj H
    case' nc14 =>
     rw [if_neg c14] at H
     have c14b0 : (t182 == t188) = false := by simpa using c14
     (try (have c14b1 : decide (t182 = t188) = false := by simpa using c14))
     (try (have c14b2 : (t182 == t188) = false := by simpa using c14))
     (try (have c14b3 : ¬ (t182 = t188) := by simpa using c14))
     clear c14
     obtain rfl := Option.some.inj H
   case' nc12 =>
    rw [if_neg c12] at H
    have c12b0 : (t184 == 0) = false := beq_eq_false_iff_ne.mpr c12
    have c12b1 : (t184 != 0) = true := bne_iff_ne.mpr c12
    refine Classical.byCases (p := (t182 == false) = true) (fun c35 => ?pc35) (fun c35 => ?nc35)
    case' pc35 =>
     rw [if_pos c35] at H
     have c35b0 : (t182 == false) = true := c35
     (try (have c35b1 : decide (t182 = false) = true := by simpa using c35))
     (try (have c35b2 : (t182 == false) = true := by simpa using c35))
     clear c35
     obtain rfl := Option.some.inj H
    case' nc35 =>
     rw [if_neg c35] at H
     have c35b0 : (t182 == false) = false := by simpa using c35
     (try (have c35b1 : decide (t182 = false) = false := by simpa using c35))
     (try (have c35b2 : (t182 == false) = false := by simpa using c35))
     (try (have c35b3 : ¬ (t182 = false) := by simpa using c35))
     clear c35
     obtain rfl := Option.some.inj H
 case' nc3 =>
  replace c3 := Bool.eq_false_iff.mpr c3
  subst c3
  rw [if_neg (show ¬ (false = true) by decide)] at H
  obtain rfl := Option.some.inj H
 all_goals
  go_enter Try.func5, Try.ntmps5
  go_wp2_with (first | ((with_reducible refine gate_dst (N := 1) rfl ?_); refine bx9 (N := 1) (cs := #[.int .i64 a0_0, .slice A0_1 l0_1.length c0_1, .slice A0_2 l0_2.length c0_2, .int .i64 a0_3, .slice A0_4 l0_4.length c0_4]) (t := 29) ?_; intro gb179 hg w15 hbox hb; have BK179 := Aside0.mk (hbox); have GW179 := gw9 HB hg; have GE179 := gw9 HB hg; replace HB := bs9 HB hb; clear hb hbox hg) | ((with_reducible refine gate_callee (f := 9) rfl ?_); refine gL9 (some 7) Try.func9 #[] ?_; (with_reducible refine (tangramlaw24_awake.calls _ _ A2.out).mono ?_); rintro e w16 ⟨rfl, hb⟩; refine ⟨_, rfl, ?_⟩; replace BK179 := bb9 BK179 hb; replace HB := bs9 HB hb; (try clear hb); have hcz17_0 := cz9 BK179 0; have hcz17_1 := cz9 BK179 1; have hcz17_2 := cz9 BK179 2; have hcz17_3 := cz9 BK179 3; have hcz17_4 := cz9 BK179 4; have hfz17_0 := blk_frozen BK179.out 0; have hfz17_1 := blk_frozen BK179.out 1; have hfz17_2 := blk_frozen BK179.out 2; have hfz17_3 := blk_frozen BK179.out 3; have hfz17_4 := blk_frozen BK179.out 4) | ((with_reducible refine gate_callee (f := 10) rfl ?_); refine gL9 (some 11) Try.func10 #[.agg #[.int .i64 a0_0, .slice A0_1 l0_1.length c0_1]] ?_; (with_reducible refine (tangramlaw24_Large.calls a0_0 _ _ l0_1 _ _ ?side1 ?side2 A4.out).mono ?_); (case side1 => exact cb9 HR0_1 HB); (case side2 => exact HC0_1.out); rintro e w18 ⟨rfl, hb⟩; refine ⟨_, rfl, ?_⟩; replace BK179 := bb9 BK179 hb; replace HB := bs9 HB hb; (try clear hb); have hcz19_0 := cz9 BK179 0; have hcz19_1 := cz9 BK179 1; have hcz19_2 := cz9 BK179 2; have hcz19_3 := cz9 BK179 3; have hcz19_4 := cz9 BK179 4; have hfz19_0 := blk_frozen BK179.out 0; have hfz19_1 := blk_frozen BK179.out 1; have hfz19_2 := blk_frozen BK179.out 2; have hfz19_3 := blk_frozen BK179.out 3; have hfz19_4 := blk_frozen BK179.out 4) | ((with_reducible refine gate_callee (f := 23) rfl ?_); refine gL9 (some 16) Try.func23 #[.agg #[.int .i64 a0_0, .slice A0_1 l0_1.length c0_1, .slice A0_2 l0_2.length c0_2, .int .i64 a0_3, .slice A0_4 l0_4.length c0_4], .slice A0_4 l0_4.length c0_4] ?_; (with_reducible refine (tangramlaw24_valid.calls k a0_0 _ _ l0_1 _ _ l0_2 a0_3 _ _ l0_4 _ _ l0_4 t182 t183 _ ?side1 ?side2 ?side3 ?side4 ?side5 ?side6 ?side7 ?side8 A10.out).mono ?_); (case side1 => exact cb9 HR0_1 HB); (case side2 => exact HC0_1.out); (case side3 => exact cb9 HR0_2 HB); (case side4 => exact HC0_2.out); (case side5 => exact cb9 HR0_4 HB); (case side6 => exact HC0_4.out); (case side7 => exact cb9 HR0_4 HB); (case side8 => exact HC0_4.out); rintro e w20 ⟨rfl, hb⟩; refine ⟨_, rfl, ?_⟩; replace BK179 := bb9 BK179 hb; replace HB := bs9 HB hb; (try clear hb); have hcz21_0 := cz9 BK179 0; have hcz21_1 := cz9 BK179 1; have hcz21_2 := cz9 BK179 2; have hcz21_3 := cz9 BK179 3; have hcz21_4 := cz9 BK179 4; have hfz21_0 := blk_frozen BK179.out 0; have hfz21_1 := blk_frozen BK179.out 1; have hfz21_2 := blk_frozen BK179.out 2; have hfz21_3 := blk_frozen BK179.out 3; have hfz21_4 := blk_frozen BK179.out 4) | ((with_reducible refine gate_callee (f := 24) rfl ?_); refine gL9 (some 25) Try.func24 #[.agg #[.int .i64 a0_0, .slice A0_1 l0_1.length c0_1], .slice A0_2 l0_2.length c0_2, .int .i64 a0_3] ?_; (with_reducible refine (tangramref24_Refuses.calls k a0_0 _ _ l0_1 _ _ l0_2 a0_3 t184 _ ?side1 ?side2 ?side3 ?side4 A11.out).mono ?_); (case side1 => exact cb9 HR0_1 HB); (case side2 => exact HC0_1.out); (case side3 => exact cb9 HR0_2 HB); (case side4 => exact HC0_2.out); rintro e w22 ⟨rfl, hb⟩; refine ⟨_, rfl, ?_⟩; replace BK179 := bb9 BK179 hb; replace HB := bs9 HB hb; (try clear hb); have hcz23_0 := cz9 BK179 0; have hcz23_1 := cz9 BK179 1; have hcz23_2 := cz9 BK179 2; have hcz23_3 := cz9 BK179 3; have hcz23_4 := cz9 BK179 4; have hfz23_0 := blk_frozen BK179.out 0; have hfz23_1 := blk_frozen BK179.out 1; have hfz23_2 := blk_frozen BK179.out 2; have hfz23_3 := blk_frozen BK179.out 3; have hfz23_4 := blk_frozen BK179.out 4) | ((with_reducible refine gate_callee (f := 25) rfl ?_); refine gL9 (some 37) Try.func25 #[.agg #[.int .i64 a0_0, .slice A0_1 l0_1.length c0_1], .slice A0_2 l0_2.length c0_2, .int .i64 a0_3, .slice A0_4 l0_4.length c0_4] ?_; (with_reducible refine (tangramref24_Feet.calls k a0_0 _ _ l0_1 _ _ l0_2 a0_3 _ _ l0_4 t185 t188 _ ?side1 ?side2 ?side3 ?side4 ?side5 ?side6 A13.out).mono ?_); (case side1 => exact cb9 HR0_1 HB); (case side2 => exact HC0_1.out); (case side3 => exact cb9 HR0_2 HB); (case side4 => exact HC0_2.out); (case side5 => exact cb9 HR0_4 HB); (case side6 => exact HC0_4.out); rintro e w24 ⟨v186, rfl, ho0, hb⟩; refine ⟨_, rfl, ?_⟩; have HO187 := Aside0.mk (Kd.S_lower ho0 (sz9 HB)); replace BK179 := bb9 BK179 hb; replace HB := bs9 HB hb; (try clear hb); (try clear ho0)))
  go_ret
  exact ⟨er9, bl9 HB⟩
end GAll.Law
namespace Rot
open GAll GAll.Law Mem Ring Face Lay
theorem orderValid_ev (n : Int) (l : List Ed) (r : List (List Int)) (root : Int) (lst : List Int) (hl : l.length < 8796093022208) (hs : Small r) (hlst : lst.length < 17592186044416) : Ev (fun k => tangramlaw24_OrderValid.f k n l r root lst) true := by
 unfold tangramlaw24_OrderValid.f
 have haw : ∀ {g : Bool → Option Bool}, (tangramlaw24_awake.f).bind g = g true := fun {g} => rfl
 have hlg : ∀ {g : Bool → Option Bool}, (tangramlaw24_Large.f n l).bind g = g (decide (n > 600)) := fun {g} => rfl
 by_cases hb : n > 600
 ·refine Ev.congr (fun k => ?_) (Ev.now _)
  rw [haw, if_pos rfl, hlg, decide_eq_true hb, if_pos rfl]
 refine Ev.congr (fun k => by rw [haw, if_pos rfl, hlg, decide_eq_false hb, if_neg (by decide)]) ?_
 obtain ⟨code, e1, h⟩ := refuse n l r root hs
 rcases h with ⟨hc, h⟩ | ⟨rfl, N, q, rfl, rfl, ht⟩
 ·refine Ev.bind (lvalid_ev hl hs lst hlst (valid_no hc h (by omega) lst)) (Ev.bind e1 (Ev.congr (fun k => ?_) (Ev.now _)))
  rw [if_neg hc]
  show (if (false == false) = true then some (code == code) else some false) = some true
  simp
 ·refine Ev.bind (lvalid_ev hl hs lst hlst (ht.valid lst)) (Ev.bind e1 (Ev.congr (fun k => if_pos rfl) (Ev.bind (ht.feet lst) (Ev.congr (fun k => ?_) (Ev.now _)))))
  have e : (covA N l r q lst).isSome = (tangramref24_Feet.ans (covA N l r q lst)).2 := by cases covA N l r q lst <;> rfl
  rw [if_pos (by rw [e]; exact beq_self_eq_true _)]
  rfl
theorem OrderValid (a0_0 : Int) (A0_1 : Option Addr) (c0_1 : Nat) (l0_1 : List Ed) (A0_2 : Option Addr) (c0_2 : Nat) (l0_2 : List (List Int)) (a0_3 : Int) (A0_4 : Option Addr) (c0_4 : Nat) (l0_4 : List Int) (w : World) (hr0_1 : Kd.C k41 w A0_1 l0_1.length l0_1) (hc0_1 : l0_1.length ≤ c0_1) (hr0_2 : Kd.C (Kd.slice 3 (Kd.int .i64)) w A0_2 l0_2.length l0_2) (hc0_2 : l0_2.length ≤ c0_2) (hr0_4 : Kd.C (Kd.int .i64) w A0_4 l0_4.length l0_4) (hc0_4 : l0_4.length ≤ c0_4)
  (g0 : (Open.I64 a0_0 ∧ l0_1.length * 16 ≤ 140737488351232 ∧ ∀ x ∈ l0_1, Open.I64 x.f0 ∧ Open.I64 x.f1) ∧ (l0_2.length * 24 ≤ 140737488351232 ∧ ∀ x ∈ l0_2, x.length * 8 ≤ 140737488351232 ∧ ∀ y ∈ x, Open.I64 y) ∧ Open.I64 a0_3 ∧ l0_4.length * 8 ≤ 140737488351232 ∧ ∀ x ∈ l0_4, Open.I64 x) :
  Calls Try.prog 5 #[.agg #[.int .i64 a0_0, .slice A0_1 l0_1.length c0_1, .slice A0_2 l0_2.length c0_2, .int .i64 a0_3, .slice A0_4 l0_4.length c0_4]] w fun e w' => e = .returned (.bool true) ∧ Below w.heap.size w w' := by
 obtain ⟨k, hk⟩ := (orderValid_ev a0_0 l0_1 l0_2 a0_3 l0_4 (by omega) ⟨g0.2.1.1, fun x hx => (g0.2.1.2 x hx).1⟩ (by omega)).rounds
 exact tangramlaw24_OrderValid.calls k a0_0 A0_1 c0_1 l0_1 A0_2 c0_2 l0_2 a0_3 A0_4 c0_4 l0_4 true w hr0_1 hc0_1 hr0_2 hc0_2 hr0_4 hc0_4 hk
end Rot
end Go.Proofs.Ytaepieadbfndnaa
