/- DERIVED. The walk of the reference's Of (tangramref05.Of): passes over the edges till nothing changes. Over contracts of its Valid and New. -/
import Derived.Test.YtoajoklpbfehiaaSetsPart
import Derived.Test.YtoajoklpbfehiaaSetsGroups
namespace Go.Proofs.Ytoajoklpbfehiaa.Sets
open Go.RowKit Go.Proofs.YtoajoklpbfehiaaW.PrintWords Go.Proofs.YtoajoklpbfehiaaW.PrintLast Go.Proofs.YtoajoklpbfehiaaW.PrintMore
set_option linter.unusedVariables false
set_option linter.unusedSimpArgs false

/-- a row of numbers of the call's own, with room behind it -/
structure RowG (w : World) (g cap : Nat) (l : List Nat) : Prop where
  ex : ∃ cur, w.heap[g]? = some (.cells cur 3 (0, 0)) ∧ cur.size = cap ∧ cur.toList.take l.length = iv l
  le : l.length ≤ cap
theorem iv_get (l : List Nat) (i : Nat) (h : i < l.length) : (iv l)[i]? = some (.int .i64 ((gt l i : Nat) : Int)) := by
  simp [iv, gt, List.getD_eq_getElem?_getD, h]
theorem RowG.cell {w : World} {g cap : Nat} {l : List Nat} (h : RowG w g cap l) {i : Nat} (hi : i < l.length) : w.cell? ⟨g, i, none⟩ = some (.int .i64 ((gt l i : Nat) : Int)) := by
  obtain ⟨cur, h1, h2, h3⟩ := h.ex
  have e : cur[i]? = (cur.toList.take l.length)[i]? := by rw [List.getElem?_take_of_lt hi]; simp
  simp only [World.cell?, h1, Option.isSome_none, Bool.false_eq_true, if_false]
  rw [e, h3, iv_get l i hi]
theorem RowG.free {w : World} {g cap : Nat} {l : List Nat} (h : RowG w g cap l) (i : Nat) : w.frozen? ⟨g, i, none⟩ = false := by
  obtain ⟨cur, h1, _⟩ := h.ex
  exact blk_free h1 i
theorem RowG.lt {w : World} {g cap : Nat} {l : List Nat} (h : RowG w g cap l) : g < w.heap.size := by
  obtain ⟨cur, h1, _⟩ := h.ex
  exact blk_lt h1
theorem RowG.frame {w w' : World} {g cap : Nat} {l : List Nat} (h : RowG w g cap l) (hb : w'.heap[g]? = w.heap[g]?) : RowG w' g cap l := by
  obtain ⟨cur, h1, h2⟩ := h.ex
  exact ⟨⟨cur, hb.trans h1, h2⟩, h.le⟩
theorem RowG.set {w : World} {g cap : Nat} {l : List Nat} (h : RowG w g cap l) (i x : Nat) (hi : i < l.length) : RowG (w.setCell ⟨g, i, none⟩ (.int .i64 (x : Int))) g cap (l.set i x) := by
  obtain ⟨cur, h1, h2, h3⟩ := h.ex
  refine ⟨⟨_, blk_setCell h1 _, by simpa using h2, ?_⟩, by simpa using h.le⟩
  rw [List.length_set, Array.toList_setIfInBounds, List.take_set, h3]
  simp [iv, List.map_set]
theorem RowG.of_own {w : World} {base : Nat} {ok : Nat → Prop} {v : Value} {l : List Nat} (h : Kd.R (Kd.int .i64) 3 w base ok v (l.map fun (x : Nat) => (x : Int))) (hl : 0 < l.length) : ∃ g cap, v = .slice (some ⟨g, 0, none⟩) l.length cap ∧ base ≤ g ∧ cap ≤ 9223372036854775807 ∧ RowG w g cap l := by
  obtain ⟨_, inner, ho, hr⟩ := h
  have he : inner = encs (Value.int .i64) (l.map fun (x : Nat) => (x : Int)) := Kd.reps_encs hr
  obtain ⟨h1, ⟨rfl, hn⟩ | ⟨g, cap, cur, rfl, hb, hh, hc, hm, hs, ht⟩⟩ := ho
  · rw [List.length_map] at hn; omega
  · refine ⟨g, cap, by simp, hb, by simpa [maxLen] using hm, ⟨⟨cur, hh, by simpa [Kd.int, Kd.scalar] using hs, ?_⟩, by simpa using hc⟩⟩
    have hsz : (Kd.int .i64).sz = 1 := rfl
    rw [hsz, Nat.mul_one, List.length_map, he] at ht
    rw [ht]; simp [encs, iv]
def total (l : List Nat) : Nat := l.sum
theorem total_set {l : List Nat} {i x : Nat} (hi : i < l.length) (h : x < gt l i) : total (l.set i x) < total l := by
  unfold total
  induction l generalizing i with
  | nil => simp at hi
  | cons a l ih =>
    cases i with
    | zero => simp [gt] at h ⊢; omega
    | succ i =>
      have := ih (i := i) (by simpa using hi) (by simpa [gt] using h)
      simp; omega
/-- what holds all the time: a number of its own set, no greater -/
def Good (n : Nat) (E : Nat → Nat → Prop) (l : List Nat) : Prop := l.length = n ∧ (∀ i, i < n → gt l i ≤ i) ∧ ∀ i, i < n → Conn E i (gt l i)
theorem Good.set {n : Nat} {E : Nat → Nat → Prop} {l : List Nat} (h : Good n E l) {u v : Nat} (hu : u < n) (hv : v < n) (hc : Conn E u v) (hlt : gt l v < gt l u) : Good n E (l.set u (gt l v)) := by
  obtain ⟨h1, h2, h3⟩ := h
  refine ⟨by simp [h1], fun i hi => ?_, fun i hi => ?_⟩
  · rw [getD_set]; split
    · rename_i c; obtain ⟨rfl, _⟩ := c
      have := h2 u hi; omega
    · exact h2 i hi
  · rw [getD_set]; split
    · rename_i c; obtain ⟨rfl, _⟩ := c
      exact hc.trans (h3 v hv)
    · exact h3 i hi
theorem Good.range (n : Nat) (E : Nat → Nat → Prop) : Good n E (List.range n) :=
  ⟨by simp, fun i hi => by rw [range_get hi]; exact Nat.le_refl _, fun i hi => by rw [range_get hi]; exact .refl _⟩
/-- behind a pass without a change -/
theorem Good.done {n : Nat} {es : List (Int × Int)} {l : List Nat} (h : Good n (EP n es) l) (hst : ∀ a b, EP n es a b → gt l a = gt l b) : l = joinAll (List.range n) es :=
  Part.unique (E := EP n es) (F := EP n es) ⟨h.1, fun a b e => ⟨e.1, e.2.1⟩, h.2.1, hst, h.2.2⟩ (joinAll_part n es) (fun _ _ => .one) (fun _ _ => .one)

def RefYes (n : Int) (A : Option Addr) (l c : Nat) (w : World) : Prop := ∀ w', Below w.heap.size w w' →
  Calls Try.prog 15 #[.agg #[.int .i64 n, .slice A l c]] w' fun e w'' => e = .returned (.bool true) ∧ Below w'.heap.size w' w''
def RefNo (n : Int) (A : Option Addr) (l c : Nat) (w : World) : Prop := ∀ w', Below w.heap.size w w' →
  Calls Try.prog 15 #[.agg #[.int .i64 n, .slice A l c]] w' fun e w'' => e = .returned (.bool false) ∧ Below w'.heap.size w' w''
def RefNew (n : Nat) : Prop := ∀ w',
  Calls Try.prog 18 #[.int .i64 (n : Int)] w' fun e w'' => ∃ v, e = .returned (.tuple #[v, .int .i64 0]) ∧ Kd.R (Kd.int .i64) 3 w'' w'.heap.size (fun _ => True) v ((List.range n).map fun (x : Nat) => (x : Int)) ∧ Below w'.heap.size w' w''

set_option maxHeartbeats 1000000 in
theorem refOf_no (n : Int) (A : Option Addr) (l c : Nat) (w : World) (hv : RefNo n A l c w) :
    Calls Try.prog 27 #[.agg #[.int .i64 n, .slice A l c]] w fun e w' => e = .returned (.tuple #[.slice none 0 0, .int .i64 0, .int .i64 1]) ∧ Below w.heap.size w w' := by
  have B0 := (Below.refl w.heap.size w).alloc (Nat.le_refl _) (.cells #[.int .i64 n, .slice A l c] 31 (0, 0))
  have HV := Aside0.mk (hv _ B0)
  have HB := Aside0.mk B0
  clear hv B0
  go_enter Try.func27, Try.ntmps27
  go_wp2_with (go_at_call 15; refine (HV.out).mono ?_; rintro e w' ⟨rfl, hb⟩; have HB2 := Aside0.mk (HB.out.trans (hb.mono (by simp))); clear hb)
  go_ret3
  exact ⟨rfl, HB2.out⟩

set_option maxHeartbeats 2000000 in
set_option maxRecDepth 100000 in
theorem refOf_pos (n : Nat) (A : Option Addr) (c : Nat) (es : List (Int × Int)) (w : World) (hv : RefYes n A es.length c w) (hnew : RefNew n) (hn : n ≤ 1048576) (hpos : 0 < n) (he : Pairs w A es) (hl : es.length ≤ 4194304)
    (hin : ∀ i, i < es.length → 0 ≤ (pe es i).1 ∧ (pe es i).1 < n ∧ 0 ≤ (pe es i).2 ∧ (pe es i).2 < n) :
    Calls Try.prog 27 #[.agg #[.int .i64 (n : Int), .slice A es.length c]] w fun e w' => ∃ bo, e = .returned (.tuple #[.slice (some ⟨bo, 0, none⟩) n n, .int .i64 (((numTo (joinAll (List.range n) es) n).2 : Nat) : Int), .int .i64 0]) ∧ w.heap.size ≤ bo ∧ RowAt w' bo (numTo (joinAll (List.range n) es) n).1 ∧ Below w.heap.size w w' := by
  have B0 := (Below.refl w.heap.size w).alloc (Nat.le_refl _) (.cells #[.int .i64 (n : Int), .slice A es.length c] 31 (0, 0))
  have HV := Aside0.mk (hv _ B0)
  have HB := Aside0.mk B0
  have HX := Aside0.mk (heap_last w (.cells #[.int .i64 (n : Int), .slice A es.length c] 31 (0, 0)))
  have HE := Aside0.mk he
  have HNEW := Aside0.mk hnew
  have HIN := Aside0.mk hin
  clear hv B0 he hnew hin
  go_enter Try.func27, Try.ntmps27
  go_wp2_with fail
  refine (HV.out).mono ?_
  rintro e w2 ⟨rfl, hb⟩
  have HB2 := Aside0.mk (HB.out.trans (hb.mono (by simp)))
  have HX2 := Aside0.mk ((hb.block w.heap.size (by simp)).trans HX.out)
  clear hb HB HX HV
  have x0 : w2.cell? ⟨w.heap.size, 0, none⟩ = some (.int .i64 (n : Int)) := (blk_cell HX2.out 0).trans rfl
  go_wp2_with fail
  refine (HNEW.out _).mono ?_
  rintro e w3 ⟨v, rfl, hr, hb⟩
  obtain ⟨g, cap, hv, hg, hcap, hrow⟩ := RowG.of_own hr (by simpa using hpos)
  rw [List.length_range] at hv
  subst hv
  have hsz := HB2.out.size
  have HB3 := Aside0.mk (HB2.out.trans (hb.mono hsz))
  have HX3 := Aside0.mk ((hb.block w.heap.size (blk_lt HX2.out)).trans HX2.out)
  have HR3 := Aside0.mk hrow
  have hgl : w.heap.size < g := by have := blk_lt HX2.out; omega
  clear hb hr hrow x0 hsz hg HX2 HB2
  go_wp2
  obtain ⟨K0, hK0⟩ : ∃ K0, K0 = total (List.range n) + 1 := ⟨_, rfl⟩
  have HK0 := Aside0.mk hK0
  clear hK0
  go_loopg [7] K0 (fun kq v wr => ∃ (l : List Nat) (ch : Bool), v = .bool ch ∧ Aside0 (Good n (EP n es) l) ∧ Aside0 (total l + (if ch = true then 1 else 0) ≤ kq) ∧ Aside0 (ch = false → l = joinAll (List.range n) es) ∧ Aside0 (RowG wr g cap l) ∧ Aside0 (wr.heap[w.heap.size]? = some (.cells #[.int .i64 (n : Int), .slice A es.length c] 31 (0, 0))) ∧ Aside0 (Below w.heap.size w wr))
  case atStart => exact ⟨List.range n, true, rfl, ⟨Good.range n _⟩, ⟨by rw [HK0.out]; simp⟩, ⟨by simp⟩, HR3, HX3, HB3⟩
  case round =>
    clear HR3 HX3 HB3
    obtain ⟨l, ch, rfl, HG, HT, HD, HR, HX, HB⟩ := hrel
    have x0 : wr.cell? ⟨w.heap.size, 0, none⟩ = some (.int .i64 (n : Int)) := (blk_cell HX.out 0).trans rfl
    have x1 : wr.cell? ⟨w.heap.size, 1, none⟩ = some (.slice A es.length c) := (blk_cell HX.out 1).trans rfl
    cases ch with
    | false =>
      have hd := HD.out rfl
      have HJ := Aside0.mk hd
      have mk1 := print_make (P := Try.prog) 34 3 .i64 8 Try.underlying34 info_int (by decide) n (by omega)
      rw [made_nv, ← numRow_zero l] at mk1
      have hgk : g < wr.heap.size := HR.out.lt
      clear hd HD HT x1
      go_wp2
      clear mk1 x0
      have HO1 : Aside0 (RowAt (wr.alloc (.cells (nv (numRow l n 0)) 3 (0, 0))) wr.heap.size (numRow l n 0)) := ⟨heap_last _ _⟩
      have HR1 : Aside0 (RowG (wr.alloc (.cells (nv (numRow l n 0)) 3 (0, 0))) g cap l) := ⟨HR.out.frame (Below.heap_alloc _ _ _ hgk)⟩
      have HX1 : Aside0 ((wr.alloc (.cells (nv (numRow l n 0)) 3 (0, 0))).heap[w.heap.size]? = some (.cells #[.int .i64 (n : Int), .slice A es.length c] 31 (0, 0))) := ⟨heap_old HX.out _⟩
      have HB1 : Aside0 (Below w.heap.size w (wr.alloc (.cells (nv (numRow l n 0)) 3 (0, 0)))) := ⟨HB.out.alloc HB.out.size _⟩
      have hbo := HB.out.size
      generalize wr.alloc (.cells (nv (numRow l n 0)) 3 (0, 0)) = w1 at HO1 HR1 HX1 HB1 ⊢
      obtain ⟨bo, hbo2⟩ : ∃ b, b = wr.heap.size := ⟨_, rfl⟩
      rw [← hbo2] at HO1 hbo hgk ⊢
      clear HR HX HB hbo2
      go_loopw [12, 13] (fun cv v wq => ∃ i : Nat, v = .int .i64 (i : Int) ∧ i ≤ n ∧ cv = .int .i64 (((numTo l i).2 : Nat) : Int) ∧ Aside0 (RowAt wq bo (numRow l n i)) ∧ Aside0 (RowG wq g cap l) ∧ Aside0 (wq.heap[w.heap.size]? = some (.cells #[.int .i64 (n : Int), .slice A es.length c] 31 (0, 0))) ∧ Aside0 (Below w.heap.size w wq)) (fun _ v _ => n - (intOf v).toNat)
      case atStart => exact ⟨0, rfl, by omega, rfl, HO1, HR1, HX1, HB1⟩
      case round =>
        clear HO1 HR1 HX1 HB1
        obtain ⟨i, rfl, hi, rfl, HO, HR, HX, HB⟩ := hrel
        have x0 : wr.cell? ⟨w.heap.size, 0, none⟩ = some (.int .i64 (n : Int)) := (blk_cell HX.out 0).trans rfl
        have HN := Aside0.mk (numRow_length l hi)
        have HL := Aside0.mk HG.out.1
        have hcl := numTo_le l i
        by_cases hlt : i < n
        · have c0 := HR.out.cell (i := i) (by rw [HL.out]; exact hlt)
          have c1 := nv_cell HO.out (i := i) (by rw [HN.out]; exact hlt)
          have f1 := blk_free HO.out i
          have hle := HG.out.2.1 i hlt
          have hmx : gt l i < n := by omega
          have c2 := nv_cell HO.out (i := gt l i) (by rw [HN.out]; exact hmx)
          by_cases hold : gt l i < i
          · have ht : (((gt l i : Nat) : Int) == (i : Int)) = false := by simp only [beq_eq_false_iff_ne]; omega
            go_wp2
            go_roundw
            case rel =>
              refine ⟨i + 1, by go_num, by omega, by rw [numTo_old hold], ⟨?_⟩, ⟨HR.out.frame (Below.heap_setCell _ _ _ _ (by simp; omega))⟩, ⟨heap_setCell_ne HX.out (by omega)⟩, ⟨HB.out.setCell (by simpa using hbo) _⟩⟩
              have h3 : RowAt _ _ _ := blk_set_nv (i := i) (x := gt (numRow l n i) (gt l i)) HO.out
              rw [numRow_old l hlt hold] at h3
              exact h3
            case measure => simp [intOf]; omega
          · have ht : (((gt l i : Nat) : Int) == (i : Int)) = true := by simp only [beq_iff_eq]; omega
            go_wp2
            go_roundw
            case rel =>
              refine ⟨i + 1, by go_num, by omega, by rw [numTo_new hold]; go_num, ⟨?_⟩, ⟨HR.out.frame (Below.heap_setCell _ _ _ _ (by simp; omega))⟩, ⟨heap_setCell_ne HX.out (by omega)⟩, ⟨HB.out.setCell (by simpa using hbo) _⟩⟩
              have h3 : RowAt _ _ _ := blk_set_nv (i := i) (x := (numTo l i).2) HO.out
              rw [numRow_new l hlt hold] at h3
              exact h3
            case measure => simp [intOf]; omega
        · obtain rfl : i = n := by omega
          go_wp2
          go_ret3
          have h3 := HO.out
          rw [numRow_self] at h3
          rw [← HJ.out]
          exact ⟨bo, rfl, hbo, h3, HB.out⟩
    | true =>
      have HT1 : Aside0 (total l + 1 ≤ gk) := ⟨by have := HT.out; simpa using this⟩
      clear HT HD
      obtain ⟨wo, hwo⟩ : ∃ wo : World, wo = wr := ⟨_, rfl⟩
      have HG0 := HG
      go_wp2
      go_loopw [7, 8] (fun cv v wq => ∃ (i : Nat) (l' : List Nat) (ch : Bool), v = .int .i64 (i : Int) ∧ cv = .bool ch ∧ i ≤ es.length ∧ Aside0 (Good n (EP n es) l') ∧ Aside0 (total l' + (if ch = true then 1 else 0) ≤ total l) ∧ Aside0 (ch = false → ∀ j, j < i → gt l' (pe es j).1.toNat = gt l' (pe es j).2.toNat) ∧ Aside0 (RowG wq g cap l') ∧ Aside0 (wq.heap[w.heap.size]? = some (.cells #[.int .i64 (n : Int), .slice A es.length c] 31 (0, 0))) ∧ Aside0 (Below w.heap.size w wq)) (fun _ v _ => es.length - (intOf v).toNat)
      case atStart => exact ⟨0, l, false, rfl, rfl, by omega, HG, ⟨by simp⟩, ⟨fun _ j hj => absurd hj (by omega)⟩, HR, HX, HB⟩
      case round =>
        clear HG HR HX HB x0 x1
        obtain ⟨i, l', ch, rfl, rfl, hi, HG, HT, HS, HR, HX, HB⟩ := hrel
        have x1 : wr.cell? ⟨w.heap.size, 1, none⟩ = some (.slice A es.length c) := (blk_cell HX.out 1).trans rfl
        by_cases hlt : i < es.length
        · obtain ⟨ad, eA, hc1, hc2⟩ := (HE.out.below HB.out) i hlt
          subst eA
          obtain ⟨a1, a2, b1, b2⟩ := HIN.out i hlt
          obtain ⟨u, hu⟩ := Int.eq_ofNat_of_zero_le a1
          obtain ⟨v, hv⟩ := Int.eq_ofNat_of_zero_le b1
          have HU := Aside0.mk hu
          have HVv := Aside0.mk hv
          rw [hu] at hc1 a2
          rw [hv] at hc2 b2
          have hun : u < n := by omega
          have hvn : v < n := by omega
          clear a1 a2 b1 b2 hu hv
          have HL := Aside0.mk HG.out.1
          have hcu := HR.out.cell (i := u) (by rw [HL.out]; exact hun)
          have hcv := HR.out.cell (i := v) (by rw [HL.out]; exact hvn)
          have hfu := HR.out.free u
          have hfv := HR.out.free v
          have CE : Aside0 (Conn (EP n es) u v) := ⟨.one ⟨hun, hvn, by rw [← HU.out, ← HVv.out]; unfold pe; rw [List.getD_eq_getElem?_getD, List.getElem?_eq_getElem hlt]; exact List.getElem_mem hlt⟩⟩
          rcases Nat.lt_trichotomy (gt l' u) (gt l' v) with hlo | heq | hhi
          · have hd1 : decide (gt l' v < gt l' u) = false := decide_eq_false (by omega)
            have hd2 : decide (gt l' u < gt l' v) = true := decide_eq_true (by omega)
            go_wp2
            repeat (go_quiet (fail); try go_wp2)
            go_roundw
            case rel =>
              refine ⟨i + 1, l'.set v (gt l' u), true, by go_num, rfl, by omega, ⟨HG.out.set hvn hun CE.out.symm hlo⟩, ⟨?_⟩, ⟨fun e => by cases e⟩, ⟨(HR.out.set v (gt l' u) (by rw [HL.out]; exact hvn)).frame rfl⟩, ⟨heap_setCell_ne HX.out (by omega)⟩, ⟨by first | exact pw_below_drewN (HB.out.setCell (p := ⟨g, v, none⟩) (Nat.le_of_lt hgl) _) _ | exact (HB.out.setCell (p := ⟨g, v, none⟩) (Nat.le_of_lt hgl) _).drew | exact pw_below_drewN ((pw_below_drewN HB.out _).setCell (p := ⟨g, u, none⟩) (Nat.le_of_lt hgl) _) _⟩⟩
              have h1 := total_set (l := l') (i := v) (x := gt l' u) (by rw [HL.out]; exact hvn) hlo
              have h2 := HT.out
              simp only [if_true]; omega
            case measure => simp [intOf]; omega
          · have hd1 : decide (gt l' v < gt l' u) = false := decide_eq_false (by omega)
            have hd2 : decide (gt l' u < gt l' v) = false := decide_eq_false (by omega)
            have HEQ := Aside0.mk heq
            clear heq
            go_wp2
            repeat (go_quiet (fail); try go_wp2)
            go_roundw
            case rel =>
              refine ⟨i + 1, l', ch, by go_num, rfl, by omega, HG, HT, ⟨fun e j hj => ?_⟩, ⟨HR.out.frame rfl⟩, ⟨HX.out⟩, ⟨by first | exact pw_below_drewN HB.out _ | exact HB.out.drew⟩⟩
              rcases Nat.lt_succ_iff_lt_or_eq.1 hj with h | rfl
              · exact HS.out e j h
              · rw [HU.out, HVv.out]; exact HEQ.out
            case measure => simp [intOf]; omega
          · have hd1 : decide (gt l' v < gt l' u) = true := decide_eq_true (by omega)
            have hd2 : decide (gt l' u < gt l' v) = false := decide_eq_false (by omega)
            have hne : u ≠ v := by intro e; subst e; omega
            have HR2 := Aside0.mk (HR.out.set u (gt l' v) (by rw [HL.out]; exact hun))
            have k1 := HR2.out.cell (i := u) (by rw [List.length_set, HL.out]; exact hun)
            have k2 := HR2.out.cell (i := v) (by rw [List.length_set, HL.out]; exact hvn)
            rw [getD_set, if_pos ⟨rfl, by rw [HL.out]; exact hun⟩] at k1
            rw [getD_set, if_neg (by simp [hne])] at k2
            have hd3 : decide (gt l' v < gt l' v) = false := decide_eq_false (by omega)
            go_wp2
            repeat (go_quiet (fail); try go_wp2)
            go_roundw
            case rel =>
              refine ⟨i + 1, l'.set u (gt l' v), true, by go_num, rfl, by omega, ⟨HG.out.set hun hvn CE.out hhi⟩, ⟨?_⟩, ⟨fun e => by cases e⟩, ⟨(HR.out.set u (gt l' v) (by rw [HL.out]; exact hun)).frame rfl⟩, ⟨heap_setCell_ne HX.out (by omega)⟩, ⟨by first | exact pw_below_drewN (HB.out.setCell (p := ⟨g, u, none⟩) (Nat.le_of_lt hgl) _) _ | exact (HB.out.setCell (p := ⟨g, u, none⟩) (Nat.le_of_lt hgl) _).drew | exact pw_below_drewN ((pw_below_drewN HB.out _).setCell (p := ⟨g, u, none⟩) (Nat.le_of_lt hgl) _) _⟩⟩
              have h1 := total_set (l := l') (i := u) (x := gt l' v) (by rw [HL.out]; exact hun) hhi
              have h2 := HT.out
              simp only [if_true]; omega
            case measure => simp [intOf]; omega
        · obtain rfl : i = es.length := by omega
          go_wp2
          repeat (go_quiet (fail); try go_wp2)
          have hgk1 := HT1.out
          go_roundg (gk - 1)
          case measure => omega
          case rel =>
            refine ⟨l', ch, rfl, HG, ⟨by have := HT.out; omega⟩, ⟨fun e => HG.out.done (fun a b hab => ?_)⟩, HR, HX, HB⟩
            obtain ⟨ha, hb, hm⟩ := hab
            obtain ⟨j, hj, hje⟩ := List.getElem_of_mem hm
            have h3 := HS.out e j hj
            have h4 : pe es j = ((a : Int), (b : Int)) := by unfold pe; rw [List.getD_eq_getElem?_getD, List.getElem?_eq_getElem hj]; exact hje
            rw [h4] at h3
            simpa using h3

set_option maxHeartbeats 1000000 in
theorem refOf_zero (A : Option Addr) (c : Nat) (w : World) (hv : RefYes 0 A 0 c w) (hnew : RefNew 0) :
    Calls Try.prog 27 #[.agg #[.int .i64 0, .slice A 0 c]] w fun e w' => ∃ bo, e = .returned (.tuple #[.slice (some ⟨bo, 0, none⟩) 0 0, .int .i64 0, .int .i64 0]) ∧ w.heap.size ≤ bo ∧ RowAt w' bo [] ∧ Below w.heap.size w w' := by
  have B0 := (Below.refl w.heap.size w).alloc (Nat.le_refl _) (.cells #[.int .i64 0, .slice A 0 c] 31 (0, 0))
  have HV := Aside0.mk (hv _ B0)
  have HB := Aside0.mk B0
  have HX := Aside0.mk (heap_last w (.cells #[.int .i64 0, .slice A 0 c] 31 (0, 0)))
  have HNEW := Aside0.mk hnew
  clear hv B0 hnew
  go_enter Try.func27, Try.ntmps27
  go_wp2_with fail
  refine (HV.out).mono ?_
  rintro e w2 ⟨rfl, hb⟩
  have HB2 := Aside0.mk (HB.out.trans (hb.mono (by simp)))
  have HX2 := Aside0.mk ((hb.block w.heap.size (by simp)).trans HX.out)
  clear hb HB HX HV
  have x0 : w2.cell? ⟨w.heap.size, 0, none⟩ = some (.int .i64 0) := (blk_cell HX2.out 0).trans rfl
  go_wp2_with fail
  refine (HNEW.out _).mono ?_
  rintro e w3 ⟨v, rfl, hr, hb⟩
  obtain ⟨A3, c3, hv⟩ := Kd.R_slice hr
  subst hv
  have hsz := HB2.out.size
  have HB3 := Aside0.mk (HB2.out.trans (hb.mono hsz))
  have HX3 := Aside0.mk ((hb.block w.heap.size (blk_lt HX2.out)).trans HX2.out)
  clear hb hr x0 hsz HX2 HB2
  go_wp2
  go_loopg [7] 1 (fun kq v wr => ∃ (ch : Bool), v = .bool ch ∧ Aside0 ((if ch = true then 1 else 0) ≤ kq) ∧ Aside0 (wr.heap[w.heap.size]? = some (.cells #[.int .i64 0, .slice A 0 c] 31 (0, 0))) ∧ Aside0 (Below w.heap.size w wr))
  case atStart => exact ⟨true, rfl, ⟨by simp⟩, HX3, HB3⟩
  case round =>
    clear HX3 HB3
    obtain ⟨ch, rfl, HT, HX, HB⟩ := hrel
    have x0 : wr.cell? ⟨w.heap.size, 0, none⟩ = some (.int .i64 0) := (blk_cell HX.out 0).trans rfl
    have x1 : wr.cell? ⟨w.heap.size, 1, none⟩ = some (.slice A 0 c) := (blk_cell HX.out 1).trans rfl
    cases ch with
    | false =>
      have mk1 : ∀ W : World, (Instr.makeSlice 34 (.int .i64 0) (.int .i64 0)).run Try.prog W = .ok (.slice (some ⟨W.heap.size, 0, none⟩) 0 0) (W.alloc (.cells (nv []) 3 (0, 0))) := by
        have h := print_make (P := Try.prog) 34 3 .i64 8 Try.underlying34 info_int (by decide) 0 (by omega)
        rw [made_nv] at h
        exact h
      go_wp2
      refine wp_loop_rounds 1 ?_
      rw [rounds_succ]
      have x2 := World.cell?_alloc_past (w := wr) (.cells (nv []) 3 (0, 0)) w.heap.size 0 (blk_lt HX.out)
      rw [x0] at x2
      go_wp2
      go_ret3
      exact ⟨wr.heap.size, rfl, HB.out.size, heap_last _ _, HB.out.alloc HB.out.size _⟩
    | true =>
      have HT1 : Aside0 (1 ≤ gk) := ⟨by have := HT.out; simpa using this⟩
      clear HT
      go_wp2
      refine wp_loop_rounds 1 ?_
      rw [rounds_succ]
      go_wp2
      have hgk1 := HT1.out
      go_roundg (gk - 1)
      case measure => omega
      case rel => exact ⟨false, rfl, ⟨by simp⟩, HX, HB⟩
end Go.Proofs.Ytoajoklpbfehiaa.Sets
