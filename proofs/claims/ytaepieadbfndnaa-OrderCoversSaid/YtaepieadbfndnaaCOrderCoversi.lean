/- DERIVED. Texts that OrderCovers needs. -/
import Derived.Test.YtaepieadbfndnaaCOrderCoversd
import Derived.Test.YtaepieadbfndnaaCOrderCoversh
set_option linter.unusedVariables false
set_option linter.unusedSimpArgs false
set_option maxRecDepth 100000
set_option maxHeartbeats 64000000
namespace Go.Proofs.Ytaepieadbfndnaa
open Go.RowKit Go.Proofs.YtaepieadbfndnaaW.PrintWords Go.Proofs.YtaepieadbfndnaaW.PrintLast Go.Proofs.YtaepieadbfndnaaW.PrintMore
attribute [local go_sem] max2_int min2_int max_two min_two max_three min_three max_four min_four   -- for this text's walks alone
namespace GAll.Law
def tangramlaw24_OrderCovers.f (k : Nat) (a0_0 : Int) (l0_1 : List (S41)) (l0_2 : List (List Int)) (a0_3 : Int) (l0_4 : List Int) : Option (Bool) := (tangramlaw24_awake.f).bind fun t190 => (if t190 = true then ((tangramlaw24_Large.f a0_0 l0_1).bind fun t191 => (if t191 = true then (some true) else ((tangramlaw24_covers.f k a0_0 l0_1 l0_2 a0_3 l0_4 l0_4).bind fun bt192 => ((tangramref24_Refuses.f k a0_0 l0_1 l0_2 a0_3).bind fun t196 => (if t196 = 0 then ((tangramref24_Feet.f k a0_0 l0_1 l0_2 a0_3 l0_4).bind fun bt197 => (if bt197.2 = true then (if bt192.2 = t196 then ((tangramref01_SameLists.f k bt192.1 bt197.1).bind fun t201 => (some t201)) else (some false)) else (if bt192.2 = 2 then ((tangramref01_SameLists.f k bt192.1 ([] : List (List Int))).bind fun t202 => (some t202)) else (some false)))) else (if bt192.2 = t196 then ((tangramref01_SameLists.f k bt192.1 ([] : List (List Int))).bind fun t203 => (some t203)) else (some false))))))) else (some false))
theorem tangramlaw24_OrderCovers.mono : ∀ a0 a1 a2 a3 a4 k, LeO (tangramlaw24_OrderCovers.f k a0 a1 a2 a3 a4) (tangramlaw24_OrderCovers.f (k + 1) a0 a1 a2 a3 a4) := by
 intro a0 a1 a2 a3 a4 k
 unfold tangramlaw24_OrderCovers.f
 repeat' first
   | (with_reducible exact tangramlaw24_covers.mono _ _ _ _ _ _ _)
   | (with_reducible exact tangramref01_SameLists.mono _ _ _)
   | (with_reducible exact tangramref24_Feet.mono _ _ _ _ _ _)
   | (with_reducible exact tangramref24_Refuses.mono _ _ _ _ _)
   | (with_reducible exact LeO.refl _)
   | (with_reducible exact LeO.none _)
   | (with_reducible refine LeO.ite ?_ ?_)
   | (with_reducible refine LeO.bind ?_ (fun _ => ?_))
theorem tangramlaw24_OrderCovers.calls (k : Nat) (a0_0 : Int) (A0_1 : Option Addr) (c0_1 : Nat) (l0_1 : List (S41)) (A0_2 : Option Addr) (c0_2 : Nat) (l0_2 : List (List Int)) (a0_3 : Int) (A0_4 : Option Addr) (c0_4 : Nat) (l0_4 : List Int) (r : Bool) (w : World) (hr0_1 : Kd.C k41 w A0_1 l0_1.length l0_1) (hc0_1 : l0_1.length ≤ c0_1) (hr0_2 : Kd.C (Kd.slice 3 (Kd.int .i64)) w A0_2 l0_2.length l0_2) (hc0_2 : l0_2.length ≤ c0_2) (hr0_4 : Kd.C (Kd.int .i64) w A0_4 l0_4.length l0_4) (hc0_4 : l0_4.length ≤ c0_4) (h : tangramlaw24_OrderCovers.f k a0_0 l0_1 l0_2 a0_3 l0_4 = some r) :
  Calls Try.prog 6 #[.agg #[.int .i64 a0_0, .slice A0_1 l0_1.length c0_1, .slice A0_2 l0_2.length c0_2, .int .i64 a0_3, .slice A0_4 l0_4.length c0_4]] w fun e w' => e = .returned (.bool r) ∧ Below w.heap.size w w' := by
 have hu29 := Try.underlying29
 have hu24 := Try.underlying24
 have HR0_1 := Aside0.mk hr0_1
 have HC0_1 := Aside0.mk hc0_1
 clear hr0_1 hc0_1
 have HR0_2 := Aside0.mk hr0_2
 have HC0_2 := Aside0.mk hc0_2
 clear hr0_2 hc0_2
 have HR0_4 := Aside0.mk hr0_4
 have HC0_4 := Aside0.mk hc0_4
 clear hr0_4 hc0_4
 have HB := Aside0.mk (Below.refl w.heap.size w)
 have H : ((tangramlaw24_awake.f).bind fun t190 => (if t190 = true then ((tangramlaw24_Large.f a0_0 l0_1).bind fun t191 => (if t191 = true then (some true) else ((tangramlaw24_covers.f k a0_0 l0_1 l0_2 a0_3 l0_4 l0_4).bind fun bt192 => ((tangramref24_Refuses.f k a0_0 l0_1 l0_2 a0_3).bind fun t196 => (if t196 = 0 then ((tangramref24_Feet.f k a0_0 l0_1 l0_2 a0_3 l0_4).bind fun bt197 => (if bt197.2 = true then (if bt192.2 = t196 then ((tangramref01_SameLists.f k bt192.1 bt197.1).bind fun t201 => (some t201)) else (some false)) else (if bt192.2 = 2 then ((tangramref01_SameLists.f k bt192.1 ([] : List (List Int))).bind fun t202 => (some t202)) else (some false)))) else (if bt192.2 = t196 then ((tangramref01_SameLists.f k bt192.1 ([] : List (List Int))).bind fun t203 => (some t203)) else (some false))))))) else (some false))) = some r := h
 clear h
 replace H := Option.bind_eq_some_iff.mp H
 obtain ⟨t190, A20, H⟩ := H
 have A2 := Aside0.mk A20
 clear A20
 refine Classical.byCases (p := t190 = true) (fun c3 => ?pc3) (fun c3 => ?nc3)
 case' pc3 =>
  subst c3
  rw [if_pos rfl] at H
  replace H := Option.bind_eq_some_iff.mp H
  obtain ⟨t191, A40, H⟩ := H
  have A4 := Aside0.mk A40
  clear A40
  refine Classical.byCases (p := t191 = true) (fun c5 => ?pc5) (fun c5 => ?nc5)
  case' pc5 =>
   subst c5
   rw [if_pos rfl] at H
   obtain rfl := Option.some.inj H
  case' nc5 =>
   replace c5 := Bool.eq_false_iff.mpr c5
   subst c5
   rw [if_neg (show ¬ (false = true) by decide)] at H
   replace H := Option.bind_eq_some_iff.mp H
   obtain ⟨⟨t192, t195⟩, A100, H⟩ := H
   have A10 := Aside0.mk A100
   clear A100
   replace H := Option.bind_eq_some_iff.mp H
   obtain ⟨t196, A110, H⟩ := H
   have A11 := Aside0.mk A110
   clear A110
   refine Classical.byCases (p := t196 = 0) (fun c12 => ?pc12) (fun c12 => ?nc12)
   case' pc12 =>
    rw [if_pos c12] at H
    have c12b0 : (t196 == 0) = true := beq_iff_eq.mpr c12
    have c12b1 : (t196 != 0) = false := bne_eq_false_iff_eq.mpr c12
    clear c12
    replace H := Option.bind_eq_some_iff.mp H
    obtain ⟨⟨t197, t200⟩, A130, H⟩ := H
    have A13 := Aside0.mk A130
    clear A130
    refine Classical.byCases (p := t200 = true) (fun c14 => ?pc14) (fun c14 => ?nc14)
    case' pc14 =>
     subst c14
     rw [if_pos rfl] at H
     refine Classical.byCases (p := t195 = t196) (fun c15 => ?pc15) (fun c15 => ?nc15)
     case' pc15 =>
      rw [if_pos c15] at H
      have c15b0 : (t195 == t196) = true := beq_iff_eq.mpr c15
      have c15b1 : (t195 != t196) = false := bne_eq_false_iff_eq.mpr c15
      clear c15
      replace H := Option.bind_eq_some_iff.mp H
      obtain ⟨t201, A160, H⟩ := H
      have A16 := Aside0.mk A160
      clear A160
      obtain rfl := Option.some.inj H
     case' nc15 =>
      rw [if_neg c15] at H
      have c15b0 : (t195 == t196) = false := beq_eq_false_iff_ne.mpr c15
      have c15b1 : (t195 != t196) = true := bne_iff_ne.mpr c15
      obtain rfl := Option.some.inj H
    case' nc14 =>
     replace c14 := Bool.eq_false_iff.mpr c14
     subst c14
     rw [if_neg (show ¬ (false = true) by decide)] at H
     refine Classical.byCases (p := t195 = 2) (fun c39 => ?pc39) (fun c39 => ?nc39)
     case' pc39 =>
      rw [if_pos c39] at H
      have c39b0 : (t195 == 2) = true := beq_iff_eq.mpr c39
      have c39b1 : (t195 != 2) = false := bne_eq_false_iff_eq.mpr c39
      clear c39
      replace H := Option.bind_eq_some_iff.mp H
      obtain ⟨t202, A400, H⟩ := H
      have A40 := Aside0.mk A400
      clear A400
      obtain rfl := Option.some.inj H
     case' nc39 =>
      rw [if_neg c39] at H
      have c39b0 : (t195 == 2) = false := beq_eq_false_iff_ne.mpr c39
      have c39b1 : (t195 != 2) = true := bne_iff_ne.mpr c39
      obtain rfl := Option.some.inj H
   case' nc12 =>
    rw [if_neg c12] at H
    have c12b0 : (t196 == 0) = false := beq_eq_false_iff_ne.mpr c12
    have c12b1 : (t196 != 0) = true := bne_iff_ne.mpr c12
    refine Classical.byCases (p := t195 = t196) (fun c62 => ?pc62) (fun c62 => ?nc62)
    case' pc62 =>
     rw [if_pos c62] at H
     have c62b0 : (t195 == t196) = true := beq_iff_eq.mpr c62
     have c62b1 : (t195 != t196) = false := bne_eq_false_iff_eq.mpr c62
     clear c62
     replace H := Option.bind_eq_some_iff.mp H
     obtain ⟨t203, A630, H⟩ := H
     have A63 := Aside0.mk A630
     clear A630
     obtain rfl := Option.some.inj H
    case' nc62 =>
     rw [if_neg c62] at H
     have c62b0 : (t195 == t196) = false := beq_eq_false_iff_ne.mpr c62
     have c62b1 : (t195 != t196) = true := bne_iff_ne.mpr c62
     obtain rfl := Option.some.inj H
 case' nc3 =>
  replace c3 := Bool.eq_false_iff.mpr c3
  subst c3
  rw [if_neg (show ¬ (false = true) by decide)] at H
  obtain rfl := Option.some.inj H
 all_goals
  go_enter Try.func6, Try.ntmps6
  go_wp2_with (first | ((with_reducible refine gate_dst (N := 1) rfl ?_); refine bx9 (N := 1) (cs := #[.int .i64 a0_0, .slice A0_1 l0_1.length c0_1, .slice A0_2 l0_2.length c0_2, .int .i64 a0_3, .slice A0_4 l0_4.length c0_4]) (t := 29) ?_; intro gb189 hg w17 hbox hb; have BK189 := Aside0.mk (hbox); have GW189 := gw9 HB hg; have GE189 := gw9 HB hg; replace HB := bs9 HB hb; clear hb hbox hg) | ((with_reducible refine gate_callee (f := 9) rfl ?_); refine gL9 (some 9) Try.func9 #[] ?_; (with_reducible refine (tangramlaw24_awake.calls _ _ A2.out).mono ?_); rintro e w18 ⟨rfl, hb⟩; refine ⟨_, rfl, ?_⟩; replace BK189 := bb9 BK189 hb; replace HB := bs9 HB hb; (try clear hb); have hcz19_0 := cz9 BK189 0; have hcz19_1 := cz9 BK189 1; have hcz19_2 := cz9 BK189 2; have hcz19_3 := cz9 BK189 3; have hcz19_4 := cz9 BK189 4; have hfz19_0 := blk_frozen BK189.out 0; have hfz19_1 := blk_frozen BK189.out 1; have hfz19_2 := blk_frozen BK189.out 2; have hfz19_3 := blk_frozen BK189.out 3; have hfz19_4 := blk_frozen BK189.out 4) | ((with_reducible refine gate_callee (f := 10) rfl ?_); refine gL9 (some 13) Try.func10 #[.agg #[.int .i64 a0_0, .slice A0_1 l0_1.length c0_1]] ?_; (with_reducible refine (tangramlaw24_Large.calls a0_0 _ _ l0_1 _ _ ?side1 ?side2 A4.out).mono ?_); (case side1 => exact cb9 HR0_1 HB); (case side2 => exact HC0_1.out); rintro e w20 ⟨rfl, hb⟩; refine ⟨_, rfl, ?_⟩; replace BK189 := bb9 BK189 hb; replace HB := bs9 HB hb; (try clear hb); have hcz21_0 := cz9 BK189 0; have hcz21_1 := cz9 BK189 1; have hcz21_2 := cz9 BK189 2; have hcz21_3 := cz9 BK189 3; have hcz21_4 := cz9 BK189 4; have hfz21_0 := blk_frozen BK189.out 0; have hfz21_1 := blk_frozen BK189.out 1; have hfz21_2 := blk_frozen BK189.out 2; have hfz21_3 := blk_frozen BK189.out 3; have hfz21_4 := blk_frozen BK189.out 4) | ((with_reducible refine gate_callee (f := 12) rfl ?_); refine gL9 (some 18) Try.func12 #[.agg #[.int .i64 a0_0, .slice A0_1 l0_1.length c0_1, .slice A0_2 l0_2.length c0_2, .int .i64 a0_3, .slice A0_4 l0_4.length c0_4], .slice A0_4 l0_4.length c0_4] ?_; (with_reducible refine (tangramlaw24_covers.calls k a0_0 _ _ l0_1 _ _ l0_2 a0_3 _ _ l0_4 _ _ l0_4 t192 t195 _ ?side1 ?side2 ?side3 ?side4 ?side5 ?side6 ?side7 ?side8 A10.out).mono ?_); (case side1 => exact cb9 HR0_1 HB); (case side2 => exact HC0_1.out); (case side3 => exact cb9 HR0_2 HB); (case side4 => exact HC0_2.out); (case side5 => exact cb9 HR0_4 HB); (case side6 => exact HC0_4.out); (case side7 => exact cb9 HR0_4 HB); (case side8 => exact HC0_4.out); rintro e w22 ⟨v193, rfl, ho0, hb⟩; refine ⟨_, rfl, ?_⟩; have HO194 := Aside0.mk (Kd.S_lower ho0 (sz9 HB)); replace BK189 := bb9 BK189 hb; replace HB := bs9 HB hb; (try clear hb); (try clear ho0); have hcz23_0 := cz9 BK189 0; have hcz23_1 := cz9 BK189 1; have hcz23_2 := cz9 BK189 2; have hcz23_3 := cz9 BK189 3; have hcz23_4 := cz9 BK189 4; have hfz23_0 := blk_frozen BK189.out 0; have hfz23_1 := blk_frozen BK189.out 1; have hfz23_2 := blk_frozen BK189.out 2; have hfz23_3 := blk_frozen BK189.out 3; have hfz23_4 := blk_frozen BK189.out 4) | ((with_reducible refine gate_callee (f := 24) rfl ?_); refine gL9 (some 27) Try.func24 #[.agg #[.int .i64 a0_0, .slice A0_1 l0_1.length c0_1], .slice A0_2 l0_2.length c0_2, .int .i64 a0_3] ?_; (with_reducible refine (tangramref24_Refuses.calls k a0_0 _ _ l0_1 _ _ l0_2 a0_3 t196 _ ?side1 ?side2 ?side3 ?side4 A11.out).mono ?_); (case side1 => exact cb9 HR0_1 HB); (case side2 => exact HC0_1.out); (case side3 => exact cb9 HR0_2 HB); (case side4 => exact HC0_2.out); rintro e w24 ⟨rfl, hb⟩; refine ⟨_, rfl, ?_⟩; replace HO194 := Aside0.mk (Kd.S_below (by (with_reducible repeat (first | apply Kd.S_alloc | apply Kd.S_drewN | apply Kd.S_drew)); exact HO194.out) hb); replace BK189 := bb9 BK189 hb; replace HB := bs9 HB hb; (try clear hb); have hcz25_0 := cz9 BK189 0; have hcz25_1 := cz9 BK189 1; have hcz25_2 := cz9 BK189 2; have hcz25_3 := cz9 BK189 3; have hcz25_4 := cz9 BK189 4; have hfz25_0 := blk_frozen BK189.out 0; have hfz25_1 := blk_frozen BK189.out 1; have hfz25_2 := blk_frozen BK189.out 2; have hfz25_3 := blk_frozen BK189.out 3; have hfz25_4 := blk_frozen BK189.out 4) | ((with_reducible refine gate_callee (f := 25) rfl ?_); refine gL9 (some 39) Try.func25 #[.agg #[.int .i64 a0_0, .slice A0_1 l0_1.length c0_1], .slice A0_2 l0_2.length c0_2, .int .i64 a0_3, .slice A0_4 l0_4.length c0_4] ?_; (with_reducible refine (tangramref24_Feet.calls k a0_0 _ _ l0_1 _ _ l0_2 a0_3 _ _ l0_4 t197 _ _ ?side1 ?side2 ?side3 ?side4 ?side5 ?side6 A13.out).mono ?_); (case side1 => exact cb9 HR0_1 HB); (case side2 => exact HC0_1.out); (case side3 => exact cb9 HR0_2 HB); (case side4 => exact HC0_2.out); (case side5 => exact cb9 HR0_4 HB); (case side6 => exact HC0_4.out); rintro e w26 ⟨v198, rfl, ho0, hb⟩; refine ⟨_, rfl, ?_⟩; have HO199 := Aside0.mk (Kd.S_lower (Kd.S_new' ho0 (Kd.S_lt (by (with_reducible repeat (first | apply Kd.S_alloc | apply Kd.S_drewN | apply Kd.S_drew)); exact HO194.out))) (sz9 HB)); replace HO194 := Aside0.mk (Kd.S_elder' (by (with_reducible repeat (first | apply Kd.S_alloc | apply Kd.S_drewN | apply Kd.S_drew)); exact HO194.out) (Kd.S_base ho0) hb); replace BK189 := bb9 BK189 hb; replace HB := bs9 HB hb; (try clear hb); (try clear ho0); obtain ⟨Ao27, co27, eo27⟩ := Kd.S_slice HO194.out; subst eo27; obtain ⟨Ao28, co28, eo28⟩ := Kd.S_slice HO199.out; subst eo28) | (go_at_call 22; have q_ := A16; clear q_; (with_reducible refine (tangramref01_SameLists.calls k _ _ t192 _ _ t197 t201 _ ?side1 ?side2 ?side3 ?side4 A16.out).mono ?_); (case side1 => repeat (first | exact (Kd.S_reads' HO194.out).2.2 | (with_reducible refine Kd.C_alloc ?_ _) | (with_reducible refine Kd.C_drewN ?_ _) | (with_reducible refine Kd.C_drew ?_))); (case side2 => exact (Kd.S_reads' HO194.out).2.1); (case side3 => repeat (first | exact (Kd.S_reads' HO199.out).2.2 | (with_reducible refine Kd.C_alloc ?_ _) | (with_reducible refine Kd.C_drewN ?_ _) | (with_reducible refine Kd.C_drew ?_))); (case side4 => exact (Kd.S_reads' HO199.out).2.1); rintro e w' ⟨rfl, ⟨nd, rfl⟩⟩) | (go_at_call 22; have q_ := A40; clear q_; (refine (tangramref01_SameLists.calls k _ _ t192 _ _ ([] : List (List Int)) t202 _ ?side1 ?side2 ?side3 ?side4 A40.out).mono ?_); (case side1 => repeat (first | exact (Kd.S_reads' HO194.out).2.2 | (with_reducible refine Kd.C_alloc ?_ _) | (with_reducible refine Kd.C_drewN ?_ _) | (with_reducible refine Kd.C_drew ?_))); (case side2 => exact (Kd.S_reads' HO194.out).2.1); (case side3 => exact Kd.C_nil _ _); (case side4 => exact Nat.le_refl _); rintro e w' ⟨rfl, ⟨nd, rfl⟩⟩) | (go_at_call 22; have q_ := A63; clear q_; obtain ⟨Ao27, co27, eo27⟩ := Kd.S_slice HO194.out; subst eo27; (refine (tangramref01_SameLists.calls k _ _ t192 _ _ ([] : List (List Int)) t203 _ ?side1 ?side2 ?side3 ?side4 A63.out).mono ?_); (case side1 => repeat (first | exact (Kd.S_reads' HO194.out).2.2 | (with_reducible refine Kd.C_alloc ?_ _) | (with_reducible refine Kd.C_drewN ?_ _) | (with_reducible refine Kd.C_drew ?_))); (case side2 => exact (Kd.S_reads' HO194.out).2.1); (case side3 => exact Kd.C_nil _ _); (case side4 => exact Nat.le_refl _); rintro e w' ⟨rfl, ⟨nd, rfl⟩⟩))
  go_ret
  exact ⟨er9, bl9 HB⟩
end GAll.Law
namespace Rot
open GAll GAll.Law Mem Ring Face Lay
theorem orderCovers_ev (n : Int) (l : List Ed) (r : List (List Int)) (root : Int) (lst : List Int) (hl : l.length < 8796093022208) (hs : Small r) (hlst : lst.length < 17592186044416) : Ev (fun k => tangramlaw24_OrderCovers.f k n l r root lst) true := by
 unfold tangramlaw24_OrderCovers.f
 have haw : ∀ {g : Bool → Option Bool}, (tangramlaw24_awake.f).bind g = g true := fun {g} => rfl
 have hlg : ∀ {g : Bool → Option Bool}, (tangramlaw24_Large.f n l).bind g = g (decide (n > 600)) := fun {g} => rfl
 by_cases hb : n > 600
 ·refine Ev.congr (fun k => ?_) (Ev.now _)
  rw [haw, if_pos rfl, hlg, decide_eq_true hb, if_pos rfl]
 refine Ev.congr (fun k => by rw [haw, if_pos rfl, hlg, decide_eq_false hb, if_neg (by decide)]) ?_
 obtain ⟨code, e1, h⟩ := refuse n l r root hs
 rcases h with ⟨hc, h⟩ | ⟨rfl, N, q, rfl, rfl, ht⟩
 ·refine Ev.bind (lcovers_ev hl hs lst hlst (covers_no hc h (by omega) lst)) (Ev.bind e1 (Ev.congr (fun k => ?_) (Ev.bind (f := fun _ t => some t) (lists_same [] (by simp) (fun x hx => by cases hx)) (Ev.now _))))
  rw [if_neg hc, if_pos rfl]
 ·refine Ev.bind (lcovers_ev hl hs lst hlst (ht.covers lst)) (Ev.bind e1 (Ev.congr (fun k => if_pos rfl) (Ev.bind (ht.feet lst) ?_)))
  cases hc : covA N l r q lst with
  | none =>
   refine Ev.congr (fun k => ?_) (Ev.bind (f := fun _ t => some t) (lists_same [] (by simp) (fun x hx => by cases hx)) (Ev.now _))
   rw [if_neg (by decide), if_pos (by decide)]
   rfl
  | some o =>
   obtain ⟨g1, g2⟩ := cov_small ht hc
   refine Ev.congr (fun k => ?_) (Ev.bind (f := fun _ t => some t) (lists_same o g1 g2) (Ev.now _))
   rw [if_pos (by rfl), if_pos (by rfl)]
   rfl
theorem OrderCovers (a0_0 : Int) (A0_1 : Option Addr) (c0_1 : Nat) (l0_1 : List Ed) (A0_2 : Option Addr) (c0_2 : Nat) (l0_2 : List (List Int)) (a0_3 : Int) (A0_4 : Option Addr) (c0_4 : Nat) (l0_4 : List Int) (w : World) (hr0_1 : Kd.C k41 w A0_1 l0_1.length l0_1) (hc0_1 : l0_1.length ≤ c0_1) (hr0_2 : Kd.C (Kd.slice 3 (Kd.int .i64)) w A0_2 l0_2.length l0_2) (hc0_2 : l0_2.length ≤ c0_2) (hr0_4 : Kd.C (Kd.int .i64) w A0_4 l0_4.length l0_4) (hc0_4 : l0_4.length ≤ c0_4)
  (g0 : (Open.I64 a0_0 ∧ l0_1.length * 16 ≤ 140737488351232 ∧ ∀ x ∈ l0_1, Open.I64 x.f0 ∧ Open.I64 x.f1) ∧ (l0_2.length * 24 ≤ 140737488351232 ∧ ∀ x ∈ l0_2, x.length * 8 ≤ 140737488351232 ∧ ∀ y ∈ x, Open.I64 y) ∧ Open.I64 a0_3 ∧ l0_4.length * 8 ≤ 140737488351232 ∧ ∀ x ∈ l0_4, Open.I64 x) :
  Calls Try.prog 6 #[.agg #[.int .i64 a0_0, .slice A0_1 l0_1.length c0_1, .slice A0_2 l0_2.length c0_2, .int .i64 a0_3, .slice A0_4 l0_4.length c0_4]] w fun e w' => e = .returned (.bool true) ∧ Below w.heap.size w w' := by
 obtain ⟨k, hk⟩ := (orderCovers_ev a0_0 l0_1 l0_2 a0_3 l0_4 (by omega) ⟨g0.2.1.1, fun x hx => (g0.2.1.2 x hx).1⟩ (by omega)).rounds
 exact tangramlaw24_OrderCovers.calls k a0_0 A0_1 c0_1 l0_1 A0_2 c0_2 l0_2 a0_3 A0_4 c0_4 l0_4 true w hr0_1 hc0_1 hr0_2 hc0_2 hr0_4 hc0_4 hk
end Rot
end Go.Proofs.Ytaepieadbfndnaa
