/- DERIVED. The walk of tangramlaw05.tells: what a Sets tells is what the document's list tells. -/
import Derived.Test.YtoajoklpbfehiaaRefSets
import Derived.Test.YtoajoklpbfehiaaSetsNil
namespace Go.Proofs.Ytoajoklpbfehiaa.Sets
open Go.RowKit Go.Proofs.YtoajoklpbfehiaaW.PrintWords Go.Proofs.YtoajoklpbfehiaaW.PrintLast Go.Proofs.YtoajoklpbfehiaaW.PrintMore Go.Proofs.Ytoajoklpbfehiaa.GAll Go.Proofs.Ytoajoklpbfehiaa.PureR
set_option linter.unusedVariables false
set_option linter.unusedSimpArgs false
/-- a Sets, or none; what blocks are its own; by number the least -/
def Sx (pv : Value) (own : Nat → Prop) (m : List Nat) (w : World) : Prop :=
  (∃ p bP bS, pv = .pointer (some ⟨p, 0, none⟩) ∧ own = Own p bP bS ∧ At w p bP bS m) ∨ (pv = .pointer none ∧ own = (fun _ => False) ∧ m = [])
def SNow (pv : Value) (own : Nat → Prop) (m : List Nat) (w w' : World) : Prop := Sx pv own m w' ∧ Frame own w w'
/-- a list of numbers that no method of the Sets writes -/
def Stay (own : Nat → Prop) (w : World) (A : Option Addr) (xs : List Int) : Prop := ∀ w', Frame own w w' → Kd.C (Kd.int .i64) w' A xs.length xs
theorem Stay.frame {own : Nat → Prop} {w w' : World} {A : Option Addr} {xs : List Int} (h : Stay own w A xs) (f : Frame own w w') : Stay own w' A xs := fun w2 f2 => h w2 (f.trans f2)
theorem Stay.now {own : Nat → Prop} {w : World} {A : Option Addr} {xs : List Int} (h : Stay own w A xs) : Kd.C (Kd.int .i64) w A xs.length xs := h w (Frame.refl _ _)
theorem At.framed {w w' : World} {p bP bS : Nat} {m : List Nat} {S : Nat → Prop} (h : At w p bP bS m) (f : Frame S w w') (hs : ∀ k, Own p bP bS k → ¬ S k) : At w' p bP bS m := h.frame f hs
theorem Sx.framed {pv : Value} {own : Nat → Prop} {m : List Nat} {w w' : World} {S : Nat → Prop} (h : Sx pv own m w) (f : Frame S w w') (hs : ∀ k, own k → ¬ S k) : Sx pv own m w' := by
  rcases h with ⟨p, bP, bS, h1, h2, h3⟩ | h
  · subst h2
    exact .inl ⟨p, bP, bS, h1, rfl, h3.frame f hs⟩
  · exact .inr h
theorem Sx.hi {pv : Value} {own : Nat → Prop} {m : List Nat} {w : World} (h : Sx pv own m w) : ∀ k, own k → k < w.heap.size := by
  rcases h with ⟨p, bP, bS, h1, rfl, h3⟩ | ⟨_, rfl, _⟩
  · intro k hk
    have := h3.hi
    unfold Own at hk
    omega
  · intro k hk; exact hk.elim
theorem SNow.go {pv : Value} {own : Nat → Prop} {m m' : List Nat} {a b c : World} (h : SNow pv own m a b) (k : SNow pv own m' b c) : SNow pv own m' a c := ⟨k.1, h.2.trans k.2⟩
theorem SNow.drawn0 {pv : Value} {own : Nat → Prop} {m : List Nat} {a b c : World} (h : SNow pv own m a b) (d : Drawn0 b c) : SNow pv own m a c := by
  obtain ⟨n, rfl⟩ := d
  exact ⟨h.1.framed ((Frame.refl (fun _ => False) _).drewN n) (fun _ _ e => e), h.2.drewN n⟩
theorem ok_none (a : Int) : ok [] a = false := by simp [ok]
section
variable {pv : Value} {own : Nat → Prop} {m : List Nat} {w W : World}
theorem SNow.least (h : SNow pv own m w W) (a : Int) : Calls Try.prog 13 #[pv, .int .i64 a] W fun e w' => e = .returned (.int .i64 (Sets.leastOf m a)) ∧ SNow pv own m w w' := by
  rcases h.1 with ⟨p, bP, bS, rfl, rfl, P, S, hs⟩ | ⟨rfl, h2, rfl⟩
  · exact (least_calls p bP bS m P S a W hs).mono fun e w' ⟨h1, h2⟩ => ⟨h1, h.go ⟨.inl ⟨p, bP, bS, rfl, rfl, h2.1⟩, h2.2⟩⟩
  · refine (least_nil a W).mono fun e w' ⟨h1, h2⟩ => ⟨?_, h2 ▸ h⟩
    rw [h1]; unfold Sets.leastOf; rw [ok_none]; rfl
theorem SNow.size_ (h : SNow pv own m w W) (a : Int) : Calls Try.prog 26 #[pv, .int .i64 a] W fun e w' => e = .returned (.int .i64 (Sets.sizeOf m a)) ∧ SNow pv own m w w' := by
  rcases h.1 with ⟨p, bP, bS, rfl, rfl, P, S, hs⟩ | ⟨rfl, h2, rfl⟩
  · exact (size_calls p bP bS m P S a W hs).mono fun e w' ⟨h1, h2⟩ => ⟨h1, h.go ⟨.inl ⟨p, bP, bS, rfl, rfl, h2.1⟩, h2.2⟩⟩
  · refine (size_nil a W).mono fun e w' ⟨h1, h2⟩ => ⟨?_, h2 ▸ h⟩
    rw [h1]; unfold Sets.sizeOf; rw [ok_none]; rfl
theorem SNow.same_ (h : SNow pv own m w W) (a b : Int) : Calls Try.prog 25 #[pv, .int .i64 a, .int .i64 b] W fun e w' => e = .returned (.bool (sameOf m a b)) ∧ SNow pv own m w w' := by
  rcases h.1 with ⟨p, bP, bS, rfl, rfl, P, S, hs⟩ | ⟨rfl, h2, rfl⟩
  · exact (same_calls p bP bS m P S a b W hs).mono fun e w' ⟨h1, h2⟩ => ⟨h1, h.go ⟨.inl ⟨p, bP, bS, rfl, rfl, h2.1⟩, h2.2⟩⟩
  · refine (same_nil a b W).mono fun e w' h0 => ⟨?_, h.drawn0 h0.2⟩
    rw [h0.1]; unfold sameOf; rw [ok_none]; rfl
theorem SNow.count_ (h : SNow pv own m w W) : Calls Try.prog 12 #[pv] W fun e w' => e = .returned (.int .i64 ((sets m : Nat) : Int)) ∧ W = w' := by
  rcases h.1 with ⟨p, bP, bS, rfl, rfl, P, S, hs⟩ | ⟨rfl, h2, rfl⟩
  · exact count_calls p bP bS m P S W hs
  · exact count_nil W
theorem SNow.join_ (h : SNow pv own m w W) (a b : Int) : Calls Try.prog 17 #[pv, .int .i64 a, .int .i64 b] W fun e w' => e = .returned (.bool (joinOf m a b).2) ∧ SNow pv own (joinOf m a b).1 w w' := by
  rcases h.1 with ⟨p, bP, bS, rfl, rfl, P, S, hs⟩ | ⟨rfl, h2, rfl⟩
  · exact (join_calls p bP bS m P S a b W hs).mono fun e w' ⟨h1, h2⟩ => ⟨h1, h.go ⟨.inl ⟨p, bP, bS, rfl, rfl, h2.1⟩, h2.2⟩⟩
  · have e0 : joinOf [] a b = ([], false) := joinOf_no (by rw [ok_none]; rfl)
    refine (join_nil a b W).mono fun e w' h0 => ?_
    rw [e0]
    exact ⟨h0.1, h0.2 ▸ h⟩
theorem SNow.groups_ (h : SNow pv own m w W) (hl : m.length ≤ 9000000) : Calls Try.prog 23 #[pv] W fun e w' => ∃ v, e = .returned v ∧ Kd.R (Kd.slice 3 (Kd.int .i64)) 34 w' W.heap.size (fun _ => True) v ((groupsOf m).map ints) ∧ SNow pv own m w w' := by
  rcases h.1 with ⟨p, bP, bS, rfl, rfl, P, S, hs⟩ | ⟨rfl, h2, rfl⟩
  · refine (groups_calls p bP bS m P S W hs).mono fun e w' ⟨B, bo, vs, h1, h2, h3, h4⟩ => ⟨_, h1, ?_, h.go ⟨.inl ⟨p, bP, bS, rfl, rfl, h4.1⟩, h4.2⟩⟩
    have := numTo_le m m.length
    have h5 := h3.rows (base := W.heap.size) (ok := fun _ => True) h2 (by rw [groupsOf_length]; omega) (fun _ _ => trivial)
    rw [groupsOf_length] at h5
    exact h5
  · refine (groups_nil W).mono fun e w' ⟨h1, h2⟩ => ⟨_, h1, Kd.R_nil _ _ _ _ _, h2 ▸ h⟩
variable {A : Option Addr}
theorem SNow.rleast (h : SNow pv own m w W) (hm : Stay own w A (ints m)) {c : Nat} (hc : (ints m).length ≤ c) (a : Int) : Calls Try.prog 38 #[.slice A (ints m).length c, .int .i64 a] W fun e w' => e = .returned (.int .i64 (Sets.leastOf m a)) ∧ SNow pv own m w w' :=
  (tangramref05_Least.calls A c (ints m) a _ W (hm W h.2) hc (least_ref m a)).mono fun e w' ⟨h1, h2⟩ => ⟨h1, h.drawn0 h2⟩
theorem SNow.rsize (h : SNow pv own m w W) (hm : Stay own w A (ints m)) {c : Nat} (hc : (ints m).length ≤ c) (hn : m.length ≤ 9000000) (a : Int) : Calls Try.prog 39 #[.slice A (ints m).length c, .int .i64 a] W fun e w' => e = .returned (.int .i64 (Sets.sizeOf m a)) ∧ SNow pv own m w w' := by
  obtain ⟨k, hk⟩ := size_ref hn a
  exact (tangramref05_Size.calls k A c (ints m) a _ W (hm W h.2) hc hk).mono fun e w' ⟨h1, h2⟩ => ⟨h1, h.drawn0 h2⟩
theorem SNow.rsame (h : SNow pv own m w W) (hm : Stay own w A (ints m)) {c : Nat} (hc : (ints m).length ≤ c) (a b : Int) : Calls Try.prog 40 #[.slice A (ints m).length c, .int .i64 a, .int .i64 b] W fun e w' => e = .returned (.bool (sameOf m a b)) ∧ SNow pv own m w w' :=
  (tangramref05_Same.calls A c (ints m) a b _ W (hm W h.2) hc (same_ref m a b)).mono fun e w' ⟨h1, h2⟩ => ⟨h1, h.drawn0 h2⟩
theorem SNow.rcount (h : SNow pv own m w W) (hm : Stay own w A (ints m)) {c : Nat} (hc : (ints m).length ≤ c) (hn : m.length ≤ 9000000) : Calls Try.prog 41 #[.slice A (ints m).length c] W fun e w' => e = .returned (.int .i64 ((sets m : Nat) : Int)) ∧ SNow pv own m w w' := by
  obtain ⟨k, hk⟩ := count_ref hn
  exact (tangramref05_Count.calls k A c (ints m) _ W (hm W h.2) hc hk).mono fun e w' ⟨h1, h2⟩ => ⟨h1, h.drawn0 h2⟩
end
set_option maxHeartbeats 2000000 in
set_option maxRecDepth 100000 in
theorem tells_calls (pv : Value) (own : Nat → Prop) (m : List Nat) (Am : Option Addr) (cm : Nat) (An : Option Addr) (cn : Nat) (xs : List Int) (w : World) (h : Sx pv own m w) (hn : m.length ≤ 9000000)
    (hm : Stay own w Am (ints m)) (hcm : (ints m).length ≤ cm) (hx : Stay own w An xs) (hxl : xs.length ≤ 100) :
    Calls Try.prog 20 #[pv, .slice Am (ints m).length cm, .slice An xs.length cn] w fun e w' => e = .returned (.bool true) ∧ SNow pv own m w w' := by
  have H0 : Aside0 (SNow pv own m w w) := ⟨h, Frame.refl _ _⟩
  have HM := Aside0.mk hm
  have HX := Aside0.mk hx
  have HCM := Aside0.mk hcm
  have HN := Aside0.mk hn
  clear h hm hx hcm hn
  go_enter Try.func20, Try.ntmps20
  go_wp2_with fail
  go_loopw [13] (fun v wr => ∃ i : Nat, v = .int .i64 (i : Int) ∧ i ≤ xs.length ∧ Aside0 (SNow pv own m w wr)) (fun v _ => xs.length - (intOf v).toNat)
  case atStart => exact ⟨0, rfl, by omega, H0⟩
  case round =>
    clear H0
    obtain ⟨i, rfl, hi, H⟩ := hrel
    by_cases hlt : i < xs.length
    · obtain ⟨ad, eA, hr⟩ := Kd.at_int (HX.out wr H.out.2) (i : Int) (by omega) (by omega)
      subst eA
      rw [Int.toNat_natCast] at hr
      obtain ⟨a, ha⟩ : ∃ a, a = rd xs (i : Int) := ⟨_, rfl⟩
      rw [← ha] at hr
      clear ha
      go_wp2_with fail
      refine (H.out.least a).mono ?_
      rintro e w2 ⟨rfl, h2⟩
      have H2 := Aside0.mk h2
      clear h2 H hr
      go_wp2_with fail
      refine (H2.out.rleast HM.out HCM.out a).mono ?_
      rintro e w3 ⟨rfl, h3⟩
      have H3 := Aside0.mk h3
      clear h3 H2
      go_wp2_with fail
      refine (H3.out.size_ a).mono ?_
      rintro e w4 ⟨rfl, h4⟩
      have H4 := Aside0.mk h4
      clear h4 H3
      go_wp2_with fail
      refine (H4.out.rsize HM.out HCM.out HN.out a).mono ?_
      rintro e w5 ⟨rfl, h5⟩
      have H5 := Aside0.mk h5
      clear h5 H4
      go_wp2_with fail
      go_loopw [35] (fun v wr => ∃ j : Nat, v = .int .i64 (j : Int) ∧ j ≤ xs.length ∧ Aside0 (SNow pv own m w wr)) (fun v _ => xs.length - (intOf v).toNat)
      case atStart => exact ⟨0, rfl, by omega, H5⟩
      case round =>
        clear H5
        obtain ⟨j, rfl, hj, H⟩ := hrel
        by_cases hlt2 : j < xs.length
        · obtain ⟨ad2, eA2, hr⟩ := Kd.at_int (HX.out wr H.out.2) (j : Int) (by omega) (by omega)
          injection eA2 with eA2
          subst eA2
          rw [Int.toNat_natCast] at hr
          obtain ⟨b, hb⟩ : ∃ b, b = rd xs (j : Int) := ⟨_, rfl⟩
          rw [← hb] at hr
          clear hb
          go_wp2_with fail
          refine (H.out.same_ a b).mono ?_
          rintro e w6 ⟨rfl, h6⟩
          have H6 := Aside0.mk h6
          clear h6 H hr
          go_wp2_with fail
          refine (H6.out.rsame HM.out HCM.out a b).mono ?_
          rintro e w7 ⟨rfl, h7⟩
          have H7 := Aside0.mk h7
          clear h7 H6
          go_wp2_with fail
          go_roundw
          case rel => exact ⟨j + 1, by go_num, by omega, H7⟩
          case measure => simp [intOf]; omega
        · obtain rfl : j = xs.length := by omega
          go_wp2_with fail
          go_roundw
          case rel => exact ⟨i + 1, by go_num, by omega, H⟩
          case measure => simp [intOf]; omega
    · obtain rfl : i = xs.length := by omega
      go_wp2_with fail
      refine (H.out.count_).mono ?_
      rintro e w2 ⟨rfl, rfl⟩
      go_wp2_with fail
      refine (H.out.rcount HM.out HCM.out HN.out).mono ?_
      rintro e w3 ⟨rfl, h3⟩
      have H3 := Aside0.mk h3
      clear h3 H
      go_wp2_with fail
      go_ret
      exact ⟨rfl, H3.out⟩
end Go.Proofs.Ytoajoklpbfehiaa.Sets
