/- DERIVED. Texts of this seat, one behind the other: lemmas and walks that the statement RotMemory needs. No condition. -/
import Derived.Test.YtkkhhbegeboonaaCRotMemoryc
import Derived.Test.YtkkhhbegeboonaaCRotMemoryb
import Derived.SizedLaws
import Derived.ChangeSlices
import Derived.ProofKit
import Derived.OpenShut
import Derived.ChangeOld
import Derived.Deep.Slices
namespace Go.Proofs.Ytkkhhbegeboonaa.Pile
open Go.RowKit Go.Proofs.YtkkhhbegeboonaaW.PrintWords Go.Proofs.YtkkhhbegeboonaaW.PrintLast Go.Proofs.YtkkhhbegeboonaaW.PrintMore Go.Proofs.Ytkkhhbegeboonaa.Mem
set_option linter.unusedVariables false
set_option linter.unusedSimpArgs false
theorem one_raw (v : Value) (h : v.oneCell' = true) (W : World) (base : Nat) (ok : Nat → Prop) : (Kd.raw 1).M W base ok [v] [v] := by
 refine ⟨rfl, rfl, fun u hu => ?_⟩
 rw [List.mem_singleton] at hu
 rw [hu]
 exact h
theorem va_old (G : List Value) (v : Value) {j : Nat} (h : j < G.length) : va (G ++ [v]) j = va G j := by unfold va; simp [List.getD_eq_getElem?_getD, List.getElem?_append_left h]
theorem va_new (G : List Value) (v : Value) : va (G ++ [v]) G.length = v := by unfold va; simp [List.getD_eq_getElem?_getD]
theorem raw_at {w : World} {base : Nat} {ok : Nat → Prop} {A : Option Addr} {n c : Nat} {G : List Value} (h : Kd.R (Kd.raw 1) 28 w base ok (.slice A n c) (ones G)) {j : Nat} (hj : j < G.length) : ∃ g, A = some ⟨g, 0, none⟩ ∧ w.cell? ⟨g, j, none⟩ = some (va G j) := by
 obtain ⟨e1, e2, hC⟩ := Kd.R_reads' h
 obtain ⟨ad, e3, h3⟩ := hC.2.2 (by rw [ones_length]; omega)
 subst e3
 obtain ⟨g, rfl⟩ := Kd.R_head h
 have hv : (ones G)[j]? = some [va G j] := by unfold ones; rw [List.getElem?_map, va_of hj]; rfl
 obtain ⟨cs, hcs, ⟨rfl, _, _⟩, hcell⟩ := h3 j _ hv
 have := hcell 0 _ rfl
 rw [show (Kd.raw 1).sz = 1 from rfl, Nat.mul_one, Nat.add_zero, add_plain] at this
 exact ⟨g, rfl, this⟩
def Gr (w : World) (SA : Nat) (T : List Value) (N : Nat → Nat) (i : Nat) (v : Value) (x : Int) : Prop :=
 ∃ g cc, v = .slice (some ⟨g, 0, none⟩) (N i + 1) cc ∧ w.cell? ⟨g, N i, none⟩ = some (.int .i64 x) ∧ (∃ cells, w.heap[g]? = some (.cells cells 3 (0, 0))) ∧ ((va T i).ownBlock = some g ∨ SA ≤ g)
theorem Gr.move {w w' : World} {SA : Nat} {T : List Value} {N : Nat → Nat} {i : Nat} {v : Value} {x : Int} (h : Gr w SA T N i v x) (hm : ∀ g cells, w.heap[g]? = some (.cells cells 3 (0, 0)) → ((va T i).ownBlock = some g ∨ SA ≤ g) → w'.heap[g]? = w.heap[g]?) : Gr w' SA T N i v x := by
 obtain ⟨g, cc, e, h1, ⟨cells, h2⟩, h3⟩ := h
 have := hm g cells h2 h3
 exact ⟨g, cc, e, (World.cell?_of_block this).trans h1, ⟨cells, this.trans h2⟩, h3⟩
theorem Ext.typed {w : World} {S0 : Nat} {v0 v : Value} {n : Nat} (h : Ext w S0 v0 v n) {g : Nat} (hg : v.ownBlock = some g) : ∃ cells, w.heap[g]? = some (.cells cells 3 (0, 0)) := by
 obtain ⟨⟨xs, h1⟩, _⟩ := h
 exact own_typed h1 g hg
set_option maxHeartbeats 4000000 in
set_option maxRecDepth 100000 in
theorem apart_calls (A : Option Addr) (n c : Nat) (T : List Value) (N : Nat → Nat) (V : Nat → Nat → Int) (lo hi : Nat) (w : World) (hG : Grid w lo hi A T N V) (hT : T.length = n) (hn : n ≤ 1000000000000) (hN : ∀ j, j < n → N j ≤ 16000000000000) (hhi : hi ≤ w.heap.size) :
  Calls Try.prog 31 #[.slice A n c] w fun e w' => e = .returned (.bool true) ∧ Mem.Frame (InP T) w w' := by
 have HTA := Aside0.mk hT
 have HNB := Aside0.mk hN
 have HHI := Aside0.mk hhi
 have HF : Aside0 (Mem.Frame (InP T) w w) := ⟨Mem.Frame.refl _ _⟩
 have HAV : Aside0 (∃ V, Grid w lo hi A T N V ∧ ∀ a i, a < 0 → i < N a → V a i = -1000 - (a : Int)) := ⟨V, hG, fun a i h => absurd h (by omega)⟩
 clear hG hT hN hhi
 go_enter Try.func31, Try.ntmps31
 go_wp2_with fail
 go_loopw [16] (fun y ws => ∃ (j : Nat), y = .int .i64 (j : Int) ∧ j ≤ n ∧ Aside0 (Mem.Frame (InP T) w ws) ∧ Aside0 (∃ V, Grid ws lo hi A T N V ∧ ∀ a i, a < j → i < N a → V a i = -1000 - (a : Int))) (fun y _ => n - (intOf y).toNat)
 case atStart => exact ⟨0, rfl, by omega, HF, HAV⟩
 case round =>
  clear HF HAV
  obtain ⟨j, rfl, hj, HF, HAV⟩ := hrel
  by_cases hlt : j < n
  ·obtain ⟨V, hGr, hV⟩ := HAV.out
   obtain ⟨go, B, cB, rfl, hva, hx1⟩ := hGr.row (j := j) (by rw [HTA.out]; exact hlt)
   have HVA := Aside0.mk hva
   obtain ⟨L, hL⟩ : ∃ L, L = N j := ⟨_, rfl⟩
   have HLL := Aside0.mk hL
   have hLb : L ≤ 16000000000000 := by rw [hL]; exact HNB.out j hlt
   rw [← hL] at hx1
   have HAI : Aside0 (∃ V, Grid wr lo hi (some ⟨go, 0, none⟩) T N V ∧ (∀ a i, a < j → i < N a → V a i = -1000 - (a : Int)) ∧ ∀ i, i < 0 → V j i = -1000 - (j : Int)) := ⟨V, hGr, hV, fun i h => absurd h (by omega)⟩
   clear hGr hV hva hL HAV
   go_wp2_with fail
   clear hx1
   go_loopw [23] (fun y ws => ∃ (i : Nat), y = .int .i64 (i : Int) ∧ i ≤ L ∧ Aside0 (Mem.Frame (InP T) w ws) ∧ Aside0 (∃ V, Grid ws lo hi (some ⟨go, 0, none⟩) T N V ∧ (∀ a i, a < j → i < N a → V a i = -1000 - (a : Int)) ∧ ∀ i', i' < i → V j i' = -1000 - (j : Int))) (fun y _ => L - (intOf y).toNat)
   case atStart => exact ⟨0, rfl, by omega, HF, HAI⟩
   case round =>
    clear HF HAI
    obtain ⟨i, rfl, hi', HF, HAI⟩ := hrel
    by_cases hil : i < L
    ·obtain ⟨V, hGr, hV, hV2⟩ := HAI.out
     obtain ⟨x, hxx⟩ : ∃ x, x = -1000 - (j : Int) := ⟨_, rfl⟩
     have r1 : IntKind.i64.wrap (-1000 - (j : Int)) = x := by rw [IntWalk.i64_in _ (by omega)]; exact hxx.symm
     obtain ⟨g, c2, e2, z0, f0, hIn, hG2⟩ := hGr.put (j := j) (i := i) (by rw [HTA.out]; exact hlt) (by rw [← HLL.out]; exact hil) x
     rw [HVA.out] at e2
     injection e2 with e4 _ e5
     subst e4 e5
     have HF2 := Aside0.mk (HF.out.setCell (p := ⟨g, i, none⟩) hIn (.int .i64 x))
     have HAI2 : Aside0 (∃ V, Grid (wr.setCell ⟨g, i, none⟩ (.int .i64 x)) lo hi (some ⟨go, 0, none⟩) T N V ∧ (∀ a i, a < j → i < N a → V a i = -1000 - (a : Int)) ∧ ∀ i', i' < i + 1 → V j i' = -1000 - (j : Int)) :=
      ⟨_, hG2, fun a i2 h1 h2 => by rw [upd_ne _ _ (.inl (by omega))]; exact hV a i2 h1 h2, fun i2 h2 => by
       by_cases e7 : i2 = i
       ·rw [e7, upd_at, hxx]
       ·rw [upd_ne _ _ (.inr e7)]; exact hV2 i2 (by omega)⟩
     clear hGr hV hV2 hG2 hIn HF HAI hxx
     go_wp2_with fail
     clear z0 f0 r1
     go_roundw
     case rel => exact ⟨i + 1, by go_num, by omega, HF2, HAI2⟩
     case measure => simp [intOf]; omega
    ·obtain rfl : L = i := by omega
     obtain ⟨V, hGr, hV, hV2⟩ := HAI.out
     have HAV2 : Aside0 (∃ V, Grid wr lo hi (some ⟨go, 0, none⟩) T N V ∧ ∀ a i, a < j + 1 → i < N a → V a i = -1000 - (a : Int)) := ⟨V, hGr, fun a i2 h1 h2 => by
      rcases Nat.lt_succ_iff_lt_or_eq.1 h1 with h3 | h3
      ·exact hV a i2 h3 h2
      ·rw [h3] at h2 ⊢; exact hV2 i2 (by rw [HLL.out]; exact h2)⟩
     clear hGr hV hV2 HAI
     go_wp2_with fail
     go_roundw
     case rel => exact ⟨j + 1, by go_num, by omega, HF, HAV2⟩
     case measure => simp [intOf]; omega
  ·obtain rfl : n = j := by omega
   have HGR : Aside0 (Grid wr lo hi A T N (fun a _ => -1000 - (a : Int))) := by
    obtain ⟨V, hGr, hV⟩ := HAV.out
    exact ⟨hGr.congr (fun a i h1 h2 => (hV a i (by rw [← HTA.out]; exact h1) h2).symm)⟩
   clear HAV hj hlt
   obtain ⟨SA, hSA⟩ : ∃ SA, SA = wr.heap.size := ⟨_, rfl⟩
   have HSA : Aside0 (w.heap.size ≤ SA ∧ hi ≤ SA) := ⟨by have := HF.out.size; have := HHI.out; omega⟩
   have HSW : Aside0 (SA ≤ wr.heap.size) := ⟨Nat.le_of_eq hSA⟩
   have HGS : Aside0 (∃ G : List Value, G.length = 0 ∧ Kd.R (Kd.raw 1) 28 wr SA (fun _ => True) (.slice none 0 0) (ones G) ∧ ∀ i, i < 0 → Gr wr SA T N i (va G i) (5000 + (i : Int))) := ⟨[], rfl, Kd.R_nil _ _ _ _ _, fun i h => absurd h (by omega)⟩
   clear hSA
   go_wp2_with fail
   go_loopw [6, 35] (fun v y ws => ∃ (j : Nat) (Ag : Option Addr) (cg : Nat), v = .slice Ag j cg ∧ y = .int .i64 (j : Int) ∧ j ≤ n ∧ Aside0 (Mem.Frame (InP T) w ws) ∧ Aside0 (Grid ws lo hi A T N (fun a _ => -1000 - (a : Int))) ∧ Aside0 (SA ≤ ws.heap.size) ∧ Aside0 (∃ G : List Value, G.length = j ∧ Kd.R (Kd.raw 1) 28 ws SA (fun _ => True) (.slice Ag j cg) (ones G) ∧ ∀ i, i < j → Gr ws SA T N i (va G i) (5000 + (i : Int)))) (fun _ y _ => n - (intOf y).toNat)
   case atStart => exact ⟨0, none, 0, rfl, rfl, by omega, HF, HGR, HSW, HGS⟩
   case round =>
    clear HF HGR HSW HGS
    obtain ⟨j, Ag, cg, rfl, rfl, hj, HF, HGR, HSW, HGS⟩ := hrel
    by_cases hlt : j < n
    ·obtain ⟨go, B, cB, rfl, hva, hx1⟩ := HGR.out.row (j := j) (by rw [HTA.out]; exact hlt)
     have HVA := Aside0.mk hva
     obtain ⟨L, hL⟩ : ∃ L, L = N j := ⟨_, rfl⟩
     have HLL := Aside0.mk hL
     have hLb : L ≤ 16000000000000 := by rw [hL]; exact HNB.out j hlt
     rw [← hL] at hx1
     obtain ⟨W0, hW0⟩ : ∃ W0, W0 = wr := ⟨_, rfl⟩
     obtain ⟨S0, hS0⟩ : ∃ S0, S0 = W0.heap.size := ⟨_, rfl⟩
     have HS0 : Aside0 (S0 = W0.heap.size ∧ SA ≤ S0) := ⟨hS0, by rw [hS0, hW0]; exact HSW.out⟩
     have HJT : Aside0 (j < T.length) := ⟨by rw [HTA.out]; exact hlt⟩
     have HEX : Aside0 (Ext wr S0 (va T j) (.slice B L cB) L) := ⟨by
      have := Ext.start HGR.out.pile S0 HJT.out
      rw [hL]
      rw [hva] at this ⊢
      exact this⟩
     have HFI : Aside0 (Mem.Frame (fun k => (va T j).ownBlock = some k ∨ S0 ≤ k) W0 wr) := ⟨by rw [hW0]; exact Mem.Frame.refl _ _⟩
     have HGI := HGR
     rw [← hW0] at HGS HF
     clear hva hL hW0 hS0 HSW HGR
     go_wp2_with fail
     clear hx1
     go_loopw [9, 10] (fun v y ws => ∃ (i M : Nat) (B : Option Addr) (d : Nat), v = .slice B M d ∧ y = .int .i64 (i : Int) ∧ i ≤ 32 ∧ Aside0 (M = L + i) ∧ Aside0 (Mem.Frame (fun k => (va T j).ownBlock = some k ∨ S0 ≤ k) W0 ws) ∧ Aside0 (Grid ws lo hi (some ⟨go, 0, none⟩) T N (fun a _ => -1000 - (a : Int))) ∧ Aside0 (Ext ws S0 (va T j) (.slice B M d) M)) (fun _ y _ => 32 - (intOf y).toNat)
     case atStart => exact ⟨0, L, B, cB, rfl, rfl, by omega, ⟨by omega⟩, HFI, HGI, HEX⟩
     case round =>
      clear HFI HGI HEX
      obtain ⟨i, M, B2, d, rfl, rfl, hi', HMQ, HFI, HGI, HEX⟩ := hrel
      by_cases hil : i < 32
      ·have s1 : decide ((i : Int) < 32) = true := decide_eq_true (by omega)
       have HMM : Aside0 (M ≤ 16000000000032 ∧ L ≤ M) := ⟨by have := HMQ.out; omega⟩
       go_wp2_with ((with_reducible refine gate_builtin (b := .append) (xs := #[.tmp 45, .tmp 46]) rfl ?_); at_builtin; refine Pile.append (W := wr) rfl (.tmp 45) (.tmp 46) 28 rfl Try.underlying28 info_int S0 j (.slice B2 M d) M (-7) rfl rfl HGI.out.pile HJT.out (by rw [← HLL.out]; exact HMM.out.2) HEX.out (by have := HS0.out; have := HSA.out; omega) (by have := HS0.out.1; have := HFI.out.size; omega) (by have := HMM.out.1; omega) ?_)
       intro B3 d3 w7 hP hE hFr _ _
       have HFI2 : Aside0 (Mem.Frame (fun k => (va T j).ownBlock = some k ∨ S0 ≤ k) W0 w7) := ⟨HFI.out.trans hFr⟩
       have HGI2 : Aside0 (Grid w7 lo hi (some ⟨go, 0, none⟩) T N (fun a _ => -1000 - (a : Int))) := ⟨HGI.out.outer_frame hP hFr (fun g eg h => by
        have hf := HGI.out.far g eg
        rcases h with h | h
        ·exact hf.1 ⟨j, HJT.out, h⟩
        ·have := HS0.out; have := HSA.out; omega)⟩
       have HEX2 := Aside0.mk hE
       clear hP hE hFr HFI HGI HEX
       go_wp2_with fail
       clear s1
       go_roundw
       case rel => exact ⟨i + 1, M + 1, B3, d3, rfl, by go_num, by omega, ⟨by have := HMQ.out; omega⟩, HFI2, HGI2, HEX2⟩
       case measure => simp [intOf]; omega
      ·obtain rfl : i = 32 := by omega
       obtain ⟨x5, hx5⟩ : ∃ x5, x5 = 5000 + (j : Int) := ⟨_, rfl⟩
       have r1 : IntKind.i64.wrap (5000 + (j : Int)) = x5 := by rw [IntWalk.i64_in _ (by omega)]; exact hx5.symm
       have HX5 := Aside0.mk hx5
       obtain ⟨S1, hS1⟩ : ∃ S1, S1 = wr.heap.size := ⟨_, rfl⟩
       have HS1 : Aside0 (S1 = wr.heap.size ∧ S0 ≤ S1 ∧ SA ≤ S1 ∧ hi ≤ S1) := ⟨by have := HFI.out.size; have := HS0.out; have := HSA.out; omega⟩
       have HLB := Aside0.mk hLb
       have HE0 : Aside0 (Ext wr S1 (va T j) (.slice B L cB) L) := ⟨by
        have := Ext.start HGI.out.pile S1 HJT.out
        rw [HLL.out]
        rw [HVA.out] at this ⊢
        exact this⟩
       clear hx5 hS1 HEX
       go_wp2_with ((with_reducible refine gate_builtin (b := .append) (xs := #[.tmp 49, .tmp 52]) rfl ?_); at_builtin; refine Pile.append (W := wr) rfl (.tmp 49) (.tmp 52) 28 rfl Try.underlying28 info_int S1 j (.slice B L cB) L x5 rfl rfl HGI.out.pile HJT.out (by rw [← HLL.out]; exact Nat.le_refl _) HE0.out HS1.out.2.2.2 (by have := HS1.out.1; omega) (by have := HLB.out; omega) ?_)
       intro B3 d3 w7 hP hE hFr hcl hBn
       obtain ⟨G, hGl, hGR, hGG⟩ := HGS.out
       have hF7 : Mem.Frame (fun k => (va T j).ownBlock = some k ∨ S0 ≤ k) W0 w7 := HFI.out.trans (hFr.mono (fun k _ h => by rcases h with h | h; exact .inl h; exact .inr (by have := HS1.out; omega)))
       have hst : ∀ k, SA ≤ k → k < W0.heap.size → w7.heap[k]? = W0.heap[k]? := fun k h1 h2 => hF7.block k h2 (fun h => by
        rcases h with h | h
        ·have := (HGI.out.pile.inP ⟨j, HJT.out, h⟩).2.1; have := HSA.out; omega
        ·have := HS0.out; omega)
       have hGR7 : Kd.R (Kd.raw 1) 28 w7 SA (fun _ => True) (.slice Ag j cg) (ones G) := Kd.R_mono (Kd.R_step (Kd.R_bound hGR) (fun k hk _ => hst k hk.2.1 hk.2.2.1)) (fun _ _ => trivial)
       have hGG7 : ∀ i, i < j → Gr w7 SA T N i (va G i) (5000 + (i : Int)) := fun i hi2 => (hGG i hi2).move (fun g cells hg h => hF7.block g (lt_of hg) (fun q => by
        rcases q with q | q
        ·rcases h with h | h
         ·have := HGI.out.pile.apart i j g (by have := HJT.out; omega) HJT.out h q; omega
         ·have := (HGI.out.pile.inP ⟨j, HJT.out, q⟩).2.1; have := HSA.out; omega
        ·have := lt_of hg; have := HS0.out; omega))
       have hG7 : Grid w7 lo hi (some ⟨go, 0, none⟩) T N (fun a _ => -1000 - (a : Int)) := HGI.out.outer_frame hP hFr (fun g eg h => by
        have hf := HGI.out.far g eg
        rcases h with h | h
        ·exact hf.1 ⟨j, HJT.out, h⟩
        ·have := HS1.out; omega)
       have hFw : Mem.Frame (InP T) w w7 := ⟨hF7.os.trans HF.out.os, hF7.tape.trans HF.out.tape, hF7.output.trans HF.out.output, Nat.le_trans HF.out.size hF7.size, fun q hq hs => (hF7.block q (Nat.lt_of_lt_of_le hq HF.out.size) (fun h => by
        rcases h with h | h
        ·exact hs ⟨j, HJT.out, h⟩
        ·have := HS0.out; have := HSA.out; omega)).trans (HF.out.block q hq hs)⟩
       have hSW7 : SA ≤ w7.heap.size := Nat.le_trans (by have := HS1.out; omega) hFr.size
       have hGN : Gr w7 SA T N j (.slice B3 (L + 1) d3) (5000 + (j : Int)) := by
        cases B3 with
        | none => exact absurd rfl hBn
        | some b3 =>
         obtain ⟨e1, e2⟩ := hcl b3.block rfl
         obtain ⟨cells, hty⟩ := hE.typed (g := b3.block) rfl
         refine ⟨b3.block, d3, by rw [e1, HLL.out], by rw [← HLL.out, ← HX5.out]; exact e2, ⟨cells, hty⟩, ?_⟩
         rcases hE.2 b3.block rfl with h | h
         ·exact .inl h
         ·exact .inr (by have := HS1.out; omega)
       have HGR7 := Aside0.mk hGR7
       have HGG7 := Aside0.mk hGG7
       have HG7 := Aside0.mk hG7
       have HFw := Aside0.mk hFw
       have HSW7 := Aside0.mk hSW7
       have HGN := Aside0.mk hGN
       have HGL := Aside0.mk hGl
       have HBW : Aside0 (Below SA w7 w7) := ⟨Below.refl _ _⟩
       have hjb : (j + 1) * 24 ≤ 140737488355328 := by omega
       have HJB : Aside0 (((ones G).length + 1) * 24 ≤ 140737488355328) := ⟨by rw [ones_length, hGl]; exact hjb⟩
       have HOL : Aside0 ((ones G).length = j) := ⟨by rw [ones_length, hGl]⟩
       clear hP hE hFr hcl hBn hGl hGR hGG hF7 hst hGR7 hGG7 hG7 hFw hSW7 hGN HFI HGI HE0 HS1 hjb HF HGS r1
       go_wp2_with ((with_reducible refine gate_builtin (b := .append) (xs := #[.tmp 48, .tmp 54]) rfl ?_); at_builtin; refine Kd.R_append (Kd.raw 1) (w0 := w7) (W := w7) SA rfl (.tmp 48) (.tmp 54) 25 28 (.slice none 0 0) 24 rfl Try.underlying25 info_ints rfl (by decide) (by omega) (.slice Ag j cg) (ones G) [.slice B3 (L + 1) d3] [.slice B3 (L + 1) d3] (fun _ => True) (fun _ => False) rfl rfl (one_raw _ rfl _ _ _) (fun _ hk => hk.elim) (fun _ _ => trivial) HGR7.out HBW.out HSW7.out HJB.out ?_)
       intro v4 w8 hR8 hb8 hg8 _
       rw [← ones_snoc] at hR8
       obtain ⟨Ag2, cg2, rfl⟩ := Kd.R_slice hR8
       have e9 : (ones (G ++ [.slice B3 (L + 1) d3])).length = j + 1 := by rw [ones_length, List.length_append, HGL.out]; rfl
       rw [e9] at hR8 ⊢
       have hne : ∀ k cells, w7.heap[k]? = some (.cells cells 3 (0, 0)) → some k ≠ (Value.slice Ag j cg).ownBlock := fun k cells hk => Kd.R_ne HGR7.out hk (by decide)
       have hlo : ∀ k, k < SA → some k ≠ (Value.slice Ag j cg).ownBlock := fun k hk e => by have := Kd.R_base HGR7.out k e.symm; omega
       have HF2 : Aside0 (Mem.Frame (InP T) w w8) := ⟨⟨hg8.os.trans HFw.out.os, hg8.tape.trans HFw.out.tape, hg8.output.trans HFw.out.output, Nat.le_trans HFw.out.size hg8.size, fun q hq hs => (hg8.block q (Nat.lt_of_lt_of_le hq HFw.out.size) (hlo q (by have := HSA.out.1; omega))).trans (HFw.out.block q hq hs)⟩⟩
       have HGR2 : Aside0 (Grid w8 lo hi (some ⟨go, 0, none⟩) T N (fun a _ => -1000 - (a : Int))) := ⟨HG7.out.frame (P := fun k => SA ≤ k) ⟨hg8.os, hg8.tape, hg8.output, hg8.size, fun k hk hs => hg8.block k hk (hlo k (by omega))⟩ (fun k _ h1 h2 => by have := HSA.out; omega)⟩
       have HSW2 : Aside0 (SA ≤ w8.heap.size) := ⟨Nat.le_trans HSW7.out hg8.size⟩
       have HGS2 : Aside0 (∃ G : List Value, G.length = j + 1 ∧ Kd.R (Kd.raw 1) 28 w8 SA (fun _ => True) (.slice Ag2 (j + 1) cg2) (ones G) ∧ ∀ i, i < j + 1 → Gr w8 SA T N i (va G i) (5000 + (i : Int))) := ⟨_, by rw [← ones_length]; exact e9, hR8, fun i hi2 => by
        have hm : ∀ g cells, w7.heap[g]? = some (.cells cells 3 (0, 0)) → ((va T i).ownBlock = some g ∨ SA ≤ g) → w8.heap[g]? = w7.heap[g]? := fun g cells hg _ => hg8.block g (lt_of hg) (hne g cells hg)
        rcases Nat.lt_succ_iff_lt_or_eq.1 hi2 with h | h
        ·rw [va_old _ _ (by rw [HGL.out]; exact h)]
         exact (HGG7.out i h).move hm
        ·subst h
         have e10 := va_new G (.slice B3 (L + 1) d3)
         rw [HGL.out] at e10
         rw [e10]
         exact HGN.out.move hm⟩
       clear hR8 hb8 hg8 e9 hne hlo HGR7 HGG7 HG7 HFw HSW7 HGN HGL HBW HJB HOL HX5 HLB
       go_wp2_with fail
       go_roundw
       case rel => exact ⟨j + 1, Ag2, cg2, rfl, by go_num, by omega, HF2, HGR2, HSW2, HGS2⟩
       case measure => simp [intOf]; omega
    ·obtain rfl : n = j := by omega
     clear hj hlt
     go_wp2_with fail
     go_loopw [59] (fun y ws => ∃ (j : Nat), y = .int .i64 (j : Int) ∧ j ≤ n ∧ Aside0 (Mem.Frame (InP T) w ws) ∧ Aside0 (Grid ws lo hi A T N (fun a _ => -1000 - (a : Int))) ∧ Aside0 (∃ G : List Value, G.length = n ∧ Kd.R (Kd.raw 1) 28 ws SA (fun _ => True) (.slice Ag n cg) (ones G) ∧ ∀ i, i < n → Gr ws SA T N i (va G i) (5000 + (i : Int)))) (fun y _ => n - (intOf y).toNat)
     case atStart => exact ⟨0, rfl, by omega, HF, HGR, HGS⟩
     case round =>
      clear HF HGR HGS
      obtain ⟨j, rfl, hj, HF, HGR, HGS⟩ := hrel
      by_cases hlt : j < n
      ·obtain ⟨go, B, cB, rfl, hva, hx1⟩ := HGR.out.row (j := j) (by rw [HTA.out]; exact hlt)
       have HVA := Aside0.mk hva
       obtain ⟨L, hL⟩ : ∃ L, L = N j := ⟨_, rfl⟩
       have HLL := Aside0.mk hL
       have hLb : L ≤ 16000000000000 := by rw [hL]; exact HNB.out j hlt
       rw [← hL] at hx1
       clear hva hL
       go_wp2_with fail
       clear hx1
       go_loopw [66] (fun y ws => ∃ (i : Nat), y = .int .i64 (i : Int) ∧ i ≤ L ∧ Aside0 (Mem.Frame (InP T) w ws) ∧ Aside0 (Grid ws lo hi (some ⟨go, 0, none⟩) T N (fun a _ => -1000 - (a : Int))) ∧ Aside0 (∃ G : List Value, G.length = n ∧ Kd.R (Kd.raw 1) 28 ws SA (fun _ => True) (.slice Ag n cg) (ones G) ∧ ∀ i, i < n → Gr ws SA T N i (va G i) (5000 + (i : Int)))) (fun y _ => L - (intOf y).toNat)
       case atStart => exact ⟨0, rfl, by omega, HF, HGR, HGS⟩
       case round =>
        clear HF HGR HGS
        obtain ⟨i, rfl, hi', HF, HGR, HGS⟩ := hrel
        by_cases hil : i < L
        ·obtain ⟨x, hxx⟩ : ∃ x, x = -1000 - (j : Int) := ⟨_, rfl⟩
         have r1 : IntKind.i64.wrap (-1000 - (j : Int)) = x := by rw [IntWalk.i64_in _ (by omega)]; exact hxx.symm
         have t0 : (x != x) = false := bne_eq_false_iff_eq.2 rfl
         obtain ⟨g, c2, e2, z0, _⟩ := (HGR.out.pile.rows j (by rw [HTA.out]; exact hlt)).at (i := i) (by rw [← HLL.out]; exact hil)
         rw [HVA.out] at e2
         injection e2 with e4 _ e5
         subst e4 e5
         rw [← hxx] at z0
         clear hxx
         go_wp2_with fail
         clear z0 r1 t0
         go_roundw
         case rel => exact ⟨i + 1, by go_num, by omega, HF, HGR, HGS⟩
         case measure => simp [intOf]; omega
        ·obtain rfl : L = i := by omega
         obtain ⟨G, hGl, hGR, hGG⟩ := HGS.out
         obtain ⟨gg, rfl, hy⟩ := raw_at hGR (j := j) (by omega)
         obtain ⟨g, cc, e1, z0, _, _⟩ := hGG j hlt
         rw [e1, ← HLL.out] at hy
         rw [← HLL.out] at z0
         obtain ⟨x, hxx⟩ : ∃ x, x = 5000 + (j : Int) := ⟨_, rfl⟩
         have r1 : IntKind.i64.wrap (5000 + (j : Int)) = x := by rw [IntWalk.i64_in _ (by omega)]; exact hxx.symm
         have t0 : (x != x) = false := bne_eq_false_iff_eq.2 rfl
         rw [← hxx] at z0
         clear hGl hGR hGG e1 hxx
         go_wp2_with fail
         clear hy z0 r1 t0
         go_roundw
         case rel => exact ⟨j + 1, by go_num, by omega, HF, HGR, HGS⟩
         case measure => simp [intOf]; omega
      ·obtain rfl : n = j := by omega
       go_wp2_with fail
       go_ret
       exact ⟨by simp, HF.out⟩
end Go.Proofs.Ytkkhhbegeboonaa.Pile
namespace Go.Proofs.Ytkkhhbegeboonaa.Pile
open Go.RowKit Go.Proofs.YtkkhhbegeboonaaW.PrintWords Go.Proofs.YtkkhhbegeboonaaW.PrintLast Go.Proofs.YtkkhhbegeboonaaW.PrintMore Go.Proofs.Ytkkhhbegeboonaa.Mem
set_option linter.unusedVariables false
set_option linter.unusedSimpArgs false
theorem rows_run {P : Program} {W : World} (base : Nat) (t : TypeId) (ty : TypeId)
  (ht : P.underlying t = some (.slice 28)) (hinfo : (P.info? 28).map (fun i => (i.zero, i.size, i.bytes)) = some (some (.slice none 0 0), 1, 24))
  (v : Value) (xs ys : List (List Value)) (A : Option Addr) (m c : Nat) (ok : Nat → Prop)
  (HO : Kd.R (Kd.raw 1) 28 W base ok v xs) (HR : Kd.C (Kd.raw 1) W A m ys) (hfresh : ∀ k, W.heap.size ≤ k → ok k)
  (hbase : base ≤ W.heap.size) (hl : (xs.length + m) * 24 ≤ 140737488355328) :
  ∃ v1 w1, (Builtin.append_ #[t, t] ty #[v, .slice A m c]).run P W = .ok v1 w1 ∧ Kd.R (Kd.raw 1) 28 w1 base ok v1 (xs ++ ys) ∧ W.grownBy w1 v.ownBlock := by
 obtain ⟨o, ho⟩ : ∃ o : Oper, o = { dst := some 0, op := .call { callee := .builtin .append, args := #[.const v, .const (.slice A m c)], argTypes := #[t, t] }, type := ty, pos := "", after := #[], guard := none } := ⟨_, rfl⟩
 obtain ⟨a, ha⟩ : ∃ a : Act, a = { tmps := #[undef], defers := [] } := ⟨_, rfl⟩
 have h := Kd.R_append_rows (Kd.raw 1) (P := P) (Rr := (Kd.raw 1).K W) (w0 := W) (o := o) (a := a) (ops := #[]) (rest := []) (Q := fun ex a' w' => ex = .normal ∧ ∃ v1, a'.tmps = #[v1] ∧ Kd.R (Kd.raw 1) 28 w' base ok v1 (xs ++ ys) ∧ W.grownBy w' v.ownBlock) base (by rw [ho]) (.const v) (.const (.slice A m c)) t 28 (.slice none 0 0) 24 (by rw [ho]) ht hinfo rfl (by decide) (by omega) v xs ys A m c ok (fun _ => False) rfl rfl HO HR (fun _ _ h => h) (fun _ h => h.elim) hfresh (Below.refl _ _) hbase hl (fun v1 w1 h1 _ h3 _ => ⟨rfl, v1, by rw [ha, ho]; rfl, h1, h3⟩)
 unfold wpList at h
 have hw : Region.wanted o (yielded #[] a.tmps) = true := by rw [ho]; rfl
 rw [if_pos hw] at h
 rcases h with h | ⟨_, h⟩
 ·unfold Oper.wp execOp at h
  rw [ho] at h
  have e1 : a.eval (.const v) = v := rfl
  have e2 : a.eval (.const (.slice A m c)) = .slice A m c := rfl
  simp only [resolve, invoke, builtin, Sem.run_bind, Sem.run_pure, Result.andThen_ok, List.map_toArray, List.map_cons, List.map_nil, e1, e2] at h
  cases hrun : (Builtin.append_ #[t, t] ty #[v, .slice A m c]).run P W with
  | ok v1 w1 =>
   rw [hrun] at h
   simp only [Result.andThen_ok] at h
   obtain ⟨_, v2, e3, h4, h5⟩ := h
   have e4 : v1 = v2 := by
    rw [ha] at e3
    have : (#[v1] : Array Value) = #[v2] := e3
    simpa using this
   subst e4
   exact ⟨v1, w1, rfl, h4, h5⟩
  | halt x w1 =>
   rw [hrun] at h
   exfalso
   cases x <;> first | exact h | (obtain ⟨e3, _⟩ := h; cases e3)
 ·exfalso
  obtain ⟨_, _, e3, _⟩ := h
  cases e3
theorem append_types {P : Program} {t t2 e : TypeId} {i0 : TypeInfo} (ht : P.underlying t = some (.slice e)) (ht2 : P.underlying t2 = some (.slice e)) (hi : P.info? e = some i0) (ty : TypeId) (A : Option Addr) (n c : Nat) (y : Value) (W : World) :
  (Builtin.append_ #[t, t2] ty #[.slice A n c, y]).run P W = (Builtin.append_ #[t, t] ty #[.slice A n c, y]).run P W := by
 unfold Builtin.append_
 simp [run_underlying ht, run_underlying ht2, sizeOf, typeInfo, hi]
section
variable {P : Program} {ops : Array Oper} {rest : List Oper} {o : Oper} {a : Act} {Q : Exit → Act → World → Prop}
theorem raw_rows {W : World} (hgd : o.guard = none) (s x : Operand) (t t2 : TypeId)
  (ho : o.op = .call { callee := .builtin .append, args := #[s, x], argTypes := #[t, t2] })
  (ht : P.underlying t = some (.slice 28)) (ht2 : P.underlying t2 = some (.slice 28)) (hinfo : (P.info? 28).map (fun i => (i.zero, i.size, i.bytes)) = some (some (.slice none 0 0), 1, 24))
  (base : Nat) (A : Option Addr) (n c : Nat) (T T2 : List Value) (A2 : Option Addr) (m c2 : Nat) (ok : Nat → Prop) (hok : ∀ k, W.heap.size ≤ k → ok k) (hs : a.eval s = .slice A n c) (hx : a.eval x = .slice A2 m c2)
  (HO : Kd.R (Kd.raw 1) 28 W base ok (.slice A n c) (ones T)) (HR : Kd.C (Kd.raw 1) W A2 m (ones T2)) (hbase : base ≤ W.heap.size) (hn : T.length = n) (hl : (n + m) * 24 ≤ 140737488355328)
  (h : ∀ A1 c1 w1, Kd.R (Kd.raw 1) 28 w1 base ok (.slice A1 (n + m) c1) (ones (T ++ T2)) → W.grownBy w1 (Value.slice A n c).ownBlock → wpList P ops Q rest (a.put o.dst (.slice A1 (n + m) c1)) w1) :
  wpList P ops Q (o :: rest) a W := by
 obtain ⟨v1, w1, hr1, h1, hg⟩ := rows_run (P := P) base t o.type ht hinfo (.slice A n c) (ones T) (ones T2) A2 m c2 ok HO HR hok hbase (by rw [ones_length, hn]; exact hl)
 rw [← ones_app] at h1
 obtain ⟨A1, c1, rfl⟩ := Kd.R_slice h1
 have hm : T2.length = m := by have := HR.1; rw [ones_length] at this; exact this
 have e : (ones (T ++ T2)).length = n + m := by rw [ones_length, List.length_append, hn, hm]
 rw [e] at h1 hr1
 obtain ⟨i0, hi, _⟩ := Option.map_eq_some_iff.1 hinfo
 rw [← append_types ht ht2 hi] at hr1
 refine wpList_plain hgd fun K hK => ?_
 unfold Oper.wp execOp
 simp only [ho, resolve, invoke, builtin, Sem.run_bind, Sem.run_pure, Result.andThen_ok, List.map_toArray, List.map_cons, List.map_nil, hs, hx, hr1]
 exact hK _ _ (h A1 c1 w1 h1 hg)
end
end Go.Proofs.Ytkkhhbegeboonaa.Pile
namespace Go.Proofs.Ytkkhhbegeboonaa.Mark
open Go.RowKit Go.Proofs.YtkkhhbegeboonaaW.PrintWords Go.Proofs.YtkkhhbegeboonaaW.PrintLast Go.Proofs.YtkkhhbegeboonaaW.PrintMore Go.Proofs.Ytkkhhbegeboonaa.Mem
set_option linter.unusedVariables false
set_option linter.unusedSimpArgs false
def Mine (A : Option Addr) (k : Nat) : Prop := ∃ a, A = some a ∧ k = a.block
theorem frame_grown {S : Nat → Prop} {a b c : World} (h : Mem.Frame S a b) {row : Option Nat} (hg : b.grownBy c row) (hr : ∀ k, row = some k → S k ∨ a.heap.size ≤ k) : Mem.Frame S a c :=
 ⟨hg.os.trans h.os, hg.tape.trans h.tape, hg.output.trans h.output, Nat.le_trans h.size hg.size, fun k hk hs => (hg.block k (Nat.lt_of_lt_of_le hk h.size) (fun e => by
  rcases hr k e.symm with q | q
  ·exact hs q
  ·omega)).trans (h.block k hk hs)⟩
end Go.Proofs.Ytkkhhbegeboonaa.Mark
namespace Go.Proofs.Ytkkhhbegeboonaa.Own
open Go.RowKit Go.Proofs.YtkkhhbegeboonaaW.PrintWords Go.Proofs.YtkkhhbegeboonaaW.PrintLast Go.Proofs.YtkkhhbegeboonaaW.PrintMore Go.Proofs.Ytkkhhbegeboonaa.Mem Go.Proofs.Ytkkhhbegeboonaa.Mark
set_option linter.unusedVariables false
set_option linter.unusedSimpArgs false
def tb (T : List (Nat × Nat)) (j : Nat) : Nat × Nat := T.getD j (0, 0)
theorem tb_last (T : List (Nat × Nat)) (p : Nat × Nat) : tb (T ++ [p]) T.length = p := by unfold tb; simp [List.getD_eq_getElem?_getD]
theorem tb_old (T : List (Nat × Nat)) (p : Nat × Nat) {j : Nat} (h : j < T.length) : tb (T ++ [p]) j = tb T j := by unfold tb; simp [List.getD_eq_getElem?_getD, List.getElem?_append_left h]
def sl (T : List (Nat × Nat)) (j n : Nat) : Value := .slice (some ⟨(tb T j).1, 0, none⟩) n (tb T j).2
def vals (r : List (List Int)) (T : List (Nat × Nat)) (d : Nat) : List (List Value) := (List.range T.length).map fun j => [sl T j ((gl r j).length + d)]
theorem vals_length (r : List (List Int)) (T : List (Nat × Nat)) (d : Nat) : (vals r T d).length = T.length := by unfold vals; simp
theorem vals_snoc (r : List (List Int)) (T : List (Nat × Nat)) (d b c : Nat) : vals r (T ++ [(b, c)]) d = vals r T d ++ [[.slice (some ⟨b, 0, none⟩) ((gl r T.length).length + d) c]] := by
 unfold vals
 rw [List.length_append, List.length_singleton, List.range_succ, List.map_append]
 congr 1
 ·refine List.map_congr_left fun j hj => ?_
  rw [List.mem_range] at hj
  unfold sl
  rw [tb_old _ _ hj]
 ·simp only [List.map_cons, List.map_nil]
  unfold sl
  rw [tb_last]
structure Tab (w : World) (base : Nat) (r : List (List Int)) (T : List (Nat × Nat)) : Prop where
 rows : ∀ j, j < T.length → Kd.R (Kd.int .i64) 3 w base (fun _ => True) (sl T j ((gl r j).length + 2)) (gl r j ++ [-71, -72])
 rise : ∀ i j, i < j → j < T.length → (tb T i).1 < (tb T j).1
theorem Tab.nil (w : World) (base : Nat) (r : List (List Int)) : Tab w base r [] := ⟨fun j h => absurd h (by simp), fun i j _ h => absurd h (by simp)⟩
theorem Tab.lt {w : World} {base : Nat} {r : List (List Int)} {T : List (Nat × Nat)} (h : Tab w base r T) {j : Nat} (hj : j < T.length) : base ≤ (tb T j).1 ∧ (tb T j).1 < w.heap.size := by
 have a := h.rows j hj
 exact ⟨Kd.R_base a _ (by simp [sl, Value.ownBlock]), Kd.R_lt a _ (by simp [sl, Value.ownBlock])⟩
theorem Tab.below {w w1 : World} {base : Nat} {r : List (List Int)} {T : List (Nat × Nat)} (h : Tab w base r T) (hb : Below w.heap.size w w1) : Tab w1 base r T :=
 ⟨fun j hj => Kd.R_below (h.rows j hj) hb, h.rise⟩
theorem Tab.grown {w w1 : World} {base : Nat} {r : List (List Int)} {T : List (Nat × Nat)} (h : Tab w base r T) {v : Value} (hty : ∀ k, v.ownBlock = some k → ∃ cells, w.heap[k]? = some (.cells cells 28 (0, 0))) (hg : w.grownBy w1 v.ownBlock) : Tab w1 base r T :=
 ⟨fun j hj => Kd.R_over' (h.rows j hj) hty (by decide) hg, h.rise⟩
theorem Tab.snoc {w : World} {base b c N : Nat} {r : List (List Int)} {T : List (Nat × Nat)} (h : Tab w base r T) (hN : ∀ j, j < T.length → (tb T j).1 < N) (hb : N ≤ b) (hR : Kd.R (Kd.int .i64) 3 w base (fun _ => True) (.slice (some ⟨b, 0, none⟩) ((gl r T.length).length + 2) c) (gl r T.length ++ [-71, -72])) : Tab w base r (T ++ [(b, c)]) := by
 refine ⟨fun j hj => ?_, fun i j hij hj => ?_⟩
 ·rw [List.length_append, List.length_singleton] at hj
  rcases Nat.lt_succ_iff_lt_or_eq.1 hj with g | rfl
  ·have := h.rows j g
   unfold sl at this ⊢
   rw [tb_old _ _ g]
   exact this
  ·unfold sl
   rw [tb_last]
   exact hR
 ·rw [List.length_append, List.length_singleton] at hj
  rcases Nat.lt_succ_iff_lt_or_eq.1 hj with g | rfl
  ·rw [tb_old _ _ g, tb_old _ _ (by omega)]
   exact h.rise i j hij g
  ·rw [tb_last, tb_old _ _ hij]
   have := hN i hij
   show (tb T i).1 < b
   omega
theorem Tab.reads {w : World} {base : Nat} {r : List (List Int)} {T : List (Nat × Nat)} (h : Tab w base r T) (hl : T.length = r.length) {A : Option Addr} {c : Nat} {ok : Nat → Prop} (hR : Kd.R (Kd.raw 1) 28 w base ok (.slice A T.length c) (vals r T 0)) : Kd.C KR w A r.length r ∧ r.length ≤ c := by
 obtain ⟨e1, e2, hC⟩ := Kd.R_reads' hR
 rw [vals_length] at hC
 rw [hl] at hC e2
 refine ⟨⟨rfl, hC.2.1, fun hp => ?_⟩, e2⟩
 obtain ⟨ad, e3, h3⟩ := hC.2.2 hp
 refine ⟨ad, e3, fun j p hj => ?_⟩
 have hjl : j < r.length := (List.getElem?_eq_some_iff.1 hj).1
 obtain rfl : gl r j = p := by unfold gl; rw [List.getD_eq_getElem?_getD, hj]; rfl
 have hv : (vals r T 0)[j]? = some [sl T j ((gl r j).length + 0)] := by
  unfold vals
  rw [List.getElem?_map, List.getElem?_range (by omega)]; rfl
 obtain ⟨cs, hcs, hK, hcell⟩ := h3 j _ hv
 obtain ⟨rfl, _, _⟩ := hK
 have hrow := h.rows j (by omega)
 obtain ⟨f1, f2, f3⟩ := Kd.R_reads' hrow
 refine ⟨_, rfl, ⟨some ⟨(tb T j).1, 0, none⟩, (tb T j).2, rfl, by omega, ?_⟩, hcell⟩
 have hx : (gl r j ++ [-71, -72]).length = (gl r j).length + 2 := by simp
 have := Kd.C_take (m := (gl r j).length) f3 (by omega)
 rw [List.take_left] at this
 exact this
theorem two_lit (W : World) (base : Nat) (hb : base ≤ W.heap.size) (x y : Int) : Kd.C (Kd.int .i64) (W.alloc (.cells #[.int .i64 x, .int .i64 y] 3 (0, 0))) (some ⟨W.heap.size, 0, none⟩) 2 [x, y] := by
 have h : IRow (W.alloc (.cells #[.int .i64 x, .int .i64 y] 3 (0, 0))) W.heap.size [x, y] := heap_last W _
 exact (Kd.R_reads' (h.own (base := base) (ok := fun _ => True) hb (by simp) trivial)).2.2
theorem slice_own (g n c a : Nat) (ha : a ≤ c) (W : World) : (Instr.slice 28 (.slice (some ⟨g, 0, none⟩) n c) none (some (.int .i64 (a : Int))) none).run Try.prog W = .ok (.slice (some ⟨g, 0, none⟩) a c) W := by
 rw [slice_to _ n c a ha W]
 split
 ·rfl
 ·rfl
theorem raw_one (v : Value) (h : v.oneCell' = true) (W : World) (base : Nat) (ok : Nat → Prop) : (Kd.raw 1).M W base ok [v] [v] := by
 refine ⟨rfl, rfl, fun u hu => ?_⟩
 rw [List.mem_singleton] at hu
 rw [hu]
 exact h
structure Lst (w : World) (lo hi : Nat) (A : Option Addr) (c : Nat) (xs : List Int) : Prop where
 R : Kd.R (Kd.int .i64) 3 w lo (fun k => lo ≤ k ∧ k < hi) (.slice A xs.length c) xs
theorem Lst.of {w : World} {lo : Nat} {A : Option Addr} {c : Nat} {xs : List Int} {ok : Nat → Prop} (h : Kd.R (Kd.int .i64) 3 w lo ok (.slice A xs.length c) xs) : Lst w lo w.heap.size A c xs :=
 ⟨Kd.R_mono (Kd.R_bound h) (fun k hk => ⟨hk.2.1, hk.2.2.1⟩)⟩
section
variable {w w' : World} {lo hi : Nat} {A : Option Addr} {c : Nat} {xs : List Int}
theorem Lst.frame {P : Nat → Prop} (h : Lst w lo hi A c xs) (f : Mem.Frame P w w') (hP : ∀ k, lo ≤ k → k < hi → ¬ P k) : Lst w' lo hi A c xs := ⟨Kd.R_step h.R (fun k hk hlt => f.block k hlt (hP k hk.1 hk.2))⟩
theorem Lst.reads (h : Lst w lo hi A c xs) : Kd.C (Kd.int .i64) w A xs.length xs ∧ xs.length ≤ c := ⟨(Kd.R_reads' h.R).2.2, (Kd.R_reads' h.R).2.1⟩
theorem Lst.own (h : Lst w lo hi A c xs) : Kd.R (Kd.int .i64) 3 w lo (fun _ => True) (.slice A xs.length c) xs := Kd.R_mono h.R (fun _ _ => trivial)
end
def InT (T : List (Nat × Nat)) (k : Nat) : Prop := ∃ j, j < T.length ∧ k = (tb T j).1
def RowsT (w : World) (base : Nat) (r : List (List Int)) (T : List (Nat × Nat)) : Prop := ∀ j, j < T.length → ∃ ys : List Int, ys.length = (gl r j).length + 2 ∧ Kd.R (Kd.int .i64) 3 w base (fun k => k = (tb T j).1) (sl T j ((gl r j).length + 2)) ys
theorem RowsT.frame {P : Nat → Prop} {w w' : World} {base : Nat} {r : List (List Int)} {T : List (Nat × Nat)} (h : RowsT w base r T) (f : Mem.Frame P w w') (hP : ∀ k, InT T k → ¬ P k) : RowsT w' base r T := fun j hj => by
 obtain ⟨ys, h1, h2⟩ := h j hj
 exact ⟨ys, h1, Kd.R_step h2 (fun k hk hlt => f.block k hlt (hP k ⟨j, hj, hk⟩))⟩
theorem RowsT.put {w : World} {base : Nat} {r : List (List Int)} {T : List (Nat × Nat)} (h : RowsT w base r T) (hd : ∀ i j, i < j → j < T.length → (tb T i).1 < (tb T j).1) {j i : Nat} (hj : j < T.length) (hi : i < (gl r j).length + 2) (x : Int) :
  RowsT (w.setCell ⟨(tb T j).1, i, none⟩ (.int .i64 x)) base r T ∧ (∃ y, w.cell? ⟨(tb T j).1, i, none⟩ = some (.int .i64 y)) ∧ w.frozen? ⟨(tb T j).1, i, none⟩ = false := by
 obtain ⟨ys, h1, h2⟩ := h j hj
 have h2' := h2
 unfold sl at h2'
 rw [← h1] at h2'
 have h3 := Kd.R_put h2' (i : Int) x
 rw [Int.toNat_natCast] at h3
 obtain ⟨ad, eD, z⟩ := Kd.at_int (Kd.R_reads' h2').2.2 (i : Int) (by omega) (by omega)
 injection eD with eD
 subst eD
 rw [Int.toNat_natCast, add_plain] at z
 obtain ⟨g, cap, e1, _, _, cells, hcell⟩ := Kd.R_form h2' (by omega)
 have e2 : (tb T j).1 = g := by
  injection e1 with e1 _ _
  injection e1 with e1
  injection e1
 refine ⟨fun q hq => ?_, ⟨_, z⟩, heap_free (by rw [e2]; exact hcell) i⟩
 by_cases e : q = j
 ·subst e
  refine ⟨ys.set i x, by rw [List.length_set]; exact h1, ?_⟩
  have h4 := h3.1
  rw [h1] at h4
  exact h4
 ·obtain ⟨zs, g1, g2⟩ := h q hq
  refine ⟨zs, g1, Kd.R_far (p := ⟨(tb T j).1, i, none⟩) g2 (fun k hk => ?_) _⟩
  show k ≠ (tb T j).1
  rw [hk]
  rcases Nat.lt_or_gt_of_ne e with c | c
  ·have := hd q j c hj; omega
  ·have := hd j q c hq; omega
theorem whole_at {w : World} {base : Nat} {r : List (List Int)} {T : List (Nat × Nat)} {A : Option Addr} {n c d : Nat} {ok : Nat → Prop} (h : Kd.R (Kd.raw 1) 28 w base ok (.slice A n c) (vals r T d)) {j : Nat} (hj : j < T.length) : ∃ ad, A = some ad ∧ w.cell? (ad.add j) = some (sl T j ((gl r j).length + d)) := by
 obtain ⟨e1, e2, hC⟩ := Kd.R_reads' h
 rw [vals_length] at e1
 subst e1
 obtain ⟨ad, e3, h3⟩ := hC.2.2 (by rw [vals_length]; omega)
 have hv : (vals r T d)[j]? = some [sl T j ((gl r j).length + d)] := by
  unfold vals
  rw [List.getElem?_map, List.getElem?_range hj]; rfl
 obtain ⟨cs, hcs, ⟨rfl, _, _⟩, hcell⟩ := h3 j _ hv
 have := hcell 0 _ rfl
 rw [show (Kd.raw 1).sz = 1 from rfl, Nat.mul_one, Nat.add_zero] at this
 exact ⟨ad, e3, this⟩
theorem row_full {w : World} {base : Nat} {r : List (List Int)} {T : List (Nat × Nat)} (h : Tab w base r T) {j : Nat} (hj : j < T.length) : (gl r j).length + 2 ≤ (tb T j).2 ∧ Kd.C (Kd.int .i64) w (some ⟨(tb T j).1, 0, none⟩) ((gl r j).length + 2) (gl r j ++ [-71, -72]) ∧ Kd.C (Kd.int .i64) w (some ⟨(tb T j).1, 0, none⟩) (gl r j).length (gl r j) := by
 obtain ⟨f1, f2, f3⟩ := Kd.R_reads' (h.rows j hj)
 have hx : (gl r j ++ [-71, -72]).length = (gl r j).length + 2 := by simp
 have f4 := Kd.C_take (m := (gl r j).length) f3 (by omega)
 rw [List.take_left] at f4
 rw [hx] at f3
 exact ⟨f2, f3, f4⟩
theorem Kd.C_at2 {w : World} {g : Nat} {n : Nat} {xs : List Int} (h : (Kd.int .i64).C w (some ⟨g, 0, none⟩) n xs) (i : Nat) (hi : i < n) : w.cell? ⟨g, i, none⟩ = some (.int .i64 (gi xs i)) := by
 obtain ⟨_, e, y⟩ := Kd.at_int h (i : Int) (by omega) (by omega)
 injection e with e
 subst e
 rw [gi_rd, Int.toNat_natCast, add_plain] at y
 exact y
theorem gi_end (row : List Int) (x y : Int) : gi (row ++ [x, y]) row.length = x ∧ gi (row ++ [x, y]) (row.length + 1) = y := by
 unfold gi
 constructor
 ·simp [List.getD_eq_getElem?_getD]
 ·simp [List.getD_eq_getElem?_getD, List.getElem?_append_right]
theorem Tab.apart {w : World} {base : Nat} {r : List (List Int)} {T : List (Nat × Nat)} {ok : Nat → Prop} {v : Value} {xs : List (List Value)} (h : Tab w base r T) (hR : Kd.R (Kd.raw 1) 28 w base ok v xs) : Kd.R (Kd.raw 1) 28 w base (fun k => base ≤ k ∧ k < w.heap.size ∧ ¬ InT T k) v xs := by
 refine Kd.R_mono (Kd.R_bound hR) (fun k hk => ⟨hk.2.1, hk.2.2.1, fun ⟨j, hj, e⟩ => ?_⟩)
 obtain ⟨_, _, _, q, hq, cells, hc⟩ := hk
 obtain ⟨c2, hc2⟩ := Kd.R_typed (h.rows j hj) k (by rw [e]; rfl)
 rw [hc] at hc2
 injection hc2 with hc2
 injection hc2 with _ h3 _
 have hq2 : q = 28 := by simpa [Kd.raw] using hq
 rw [hq2] at h3
 exact absurd h3 (by decide)
end Go.Proofs.Ytkkhhbegeboonaa.Own
namespace Go.Proofs.Ytkkhhbegeboonaa.Open
open Go.RowKit Go.Proofs.YtkkhhbegeboonaaW.PrintWords Go.Proofs.YtkkhhbegeboonaaW.PrintLast Go.Proofs.YtkkhhbegeboonaaW.PrintMore Go.ChangeShapes Go.WideShapes Go.Deep
set_option linter.unusedVariables false
set_option linter.unusedSimpArgs false
def I64 (n : Int) : Prop := -9223372036854775808 ≤ n ∧ n ≤ 9223372036854775807
def Opens {α : Type} (P : Program) (t : TypeId) (d : Kd α) (good : α → Prop) : Prop :=
 ∀ {H : Type} (enc : TypeId × Value → H) (w : World) (fuel : Nat) (cs : List Value) (x : DataW H × List MemPlace),
  DataW.trod enc P w 0 (fun _ => true) true fuel t cs = some x → (x.1.weights P t).all (· ≤ reachBytes) = true → ∃ v, d.K w v cs ∧ good v
section
variable {P : Program} {α β : Type}
theorem opens_int {t : TypeId} (ht : P.underlying t = some (.int .i64)) : Opens P t (Kd.int .i64) I64 := by
 intro H enc w fuel cs x h _
 obtain ⟨n, rfl, _, hw⟩ := DataW.trod_int ht h
 refine ⟨n, rfl, ?_⟩
 have hmin : IntKind.i64.min = -9223372036854775808 := rfl
 have hmax : IntKind.i64.max = 9223372036854775807 := rfl
 simp only [Lit.wf, Bool.and_eq_true, decide_eq_true_eq] at hw
 unfold I64; omega
theorem weightsAll_mem {H : Type} {e : TypeId} {l : List (DataW H)} (h : (DataW.weightsAll P e l).all (· ≤ reachBytes) = true) {d : DataW H} (hd : d ∈ l) : (d.weights P e).all (· ≤ reachBytes) = true := by
 induction l with
 | nil => cases hd
 | cons a l ih =>
  unfold DataW.weightsAll at h
  rw [List.all_append, Bool.and_eq_true] at h
  rcases List.mem_cons.1 hd with rfl | hd
  ·exact h.1
  ·exact ih h.2 hd
theorem opens_slice {t e : TypeId} {d : Kd α} {good : α → Prop} {B : Nat} (ht : P.underlying t = some (.slice e)) (hc : P.cellsOf e = d.sz) (hB : P.bytesOf e = B) (ho : Opens P e d good) (dflt : α) :
  Opens P t (Kd.slice e d) (fun xs => xs.length * B ≤ 140737488351232 ∧ ∀ x ∈ xs, good x) := by
 intro H enc w fuel cs x h hwt
 rcases open_slice ht h with ⟨rfl, rfl⟩ | ⟨a, len, cap, m, n, D, Pl, rfl, hb, hl, hm, hmm, rfl, hx⟩
 ·exact ⟨[], ⟨none, 0, rfl, Nat.le_refl _, rfl, by simp, fun h => absurd h (by simp)⟩, by simp, by simp⟩
 ·simp only [if_true] at hmm
  subst hmm
  unfold DataW.weights at hwt
  rw [ht] at hwt
  simp only [List.all_cons, List.all_append, Bool.and_eq_true, decide_eq_true_eq, List.length_map, List.length_range, hB] at hwt
  obtain ⟨hw1, hw2, _⟩ := hwt
  have each : ∀ i, i < len → ∃ v : α × List Value, v.2.length = d.sz ∧ d.K w v.1 v.2 ∧ good v.1 ∧ ∀ k u, v.2[k]? = some u → w.cell? (a.add (i * d.sz + k)) = some u := by
   intro i hi
   obtain ⟨cs', h1, h2⟩ := hx i (by omega)
   rw [hc] at h1
   obtain ⟨_, hlen, hcell⟩ := World.cells?_some h1
   obtain ⟨v, hv, hg⟩ := ho enc w n cs' _ h2 (weightsAll_mem hw2 (List.mem_map.2 ⟨i, List.mem_range.2 hi, rfl⟩))
   refine ⟨(v, cs'), hlen, hv, hg, fun k u hk => ?_⟩
   have hk2 : k < d.sz := by
    have hk3 : k < cs'.length := (List.getElem?_eq_some_iff.1 hk).1
    omega
   have := hcell k hk2
   rw [Go.Deep.add_add] at this
   rw [this]; exact hk
  haveI : Inhabited (α × List Value) := ⟨(dflt, [])⟩
  obtain ⟨q, hq⟩ := choose_lt each
  have hlen : ((List.range len).map fun i => (q i).1).length = len := by simp
  have hget : ∀ j p, ((List.range len).map fun i => (q i).1)[j]? = some p → j < len ∧ p = (q j).1 := by
   intro j p hj
   rw [List.getElem?_map] at hj
   by_cases hjl : j < len
   ·rw [List.getElem?_range hjl] at hj
    exact ⟨hjl, by simpa using hj.symm⟩
   ·rw [List.getElem?_eq_none (by simp; omega)] at hj; simp at hj
  refine ⟨(List.range len).map fun i => (q i).1, ⟨some a, m, by rw [hlen], by rw [hlen]; exact hl, by rw [hlen], ?_, fun _ => ⟨a, rfl, fun j p hj => ?_⟩⟩, ?_, ?_⟩
  ·rw [hlen]; unfold maxLen at hm; omega
  ·obtain ⟨hjl, rfl⟩ := hget j p hj
   exact ⟨(q j).2, (hq j hjl).1, (hq j hjl).2.1, (hq j hjl).2.2.2⟩
  ·rw [hlen]
   have h5 : len * B ≤ (len + (m - len)) * B := Nat.mul_le_mul_right _ (by omega)
   have h6 : reachBytes = 140737488351232 := rfl
   omega
  ·intro v hv
   obtain ⟨i, hi, rfl⟩ := List.mem_map.1 hv
   exact (hq i (List.mem_range.1 hi)).2.2.1
theorem opens_two {t : TypeId} {f0 f1 : Field} {a : Kd α} {b : Kd β} {ga : α → Prop} {gb : β → Prop} (ht : P.underlying t = some (.struct #[f0, f1])) (h0 : Opens P f0.type a ga) (h1 : Opens P f1.type b gb)
  (o0 : f0.offset = 0) (o1 : f1.offset = a.sz) (c0 : P.cellsOf f0.type = a.sz) (c1 : P.cellsOf f1.type = b.sz) (ct : P.cellsOf t = a.sz + b.sz) : Opens P t (Kd.pair a b) (fun x => ga x.1 ∧ gb x.2) := by
 intro H enc w fuel cs x h hwt
 obtain ⟨xs, n, _, rfl, hcl, hxl, hf⟩ := DataW.trod_struct ht h
 match xs, hxl with
 | [y0, y1], _ =>
  have g0 := hf 0 f0 rfl
  have g1 := hf 1 f1 rfl
  rw [o0, c0] at g0
  rw [o1, c1] at g1
  unfold DataW.weights at hwt
  rw [ht] at hwt
  simp only [List.map_cons, List.map_nil, DataW.weightsEach, List.all_append, Bool.and_eq_true] at hwt
  obtain ⟨hw0, hw1, _⟩ := hwt
  rw [List.drop_zero] at g0
  obtain ⟨v0, k0, q0⟩ := h0 enc w n _ y0 g0 hw0
  obtain ⟨v1, k1, q1⟩ := h1 enc w n _ y1 g1 hw1
  refine ⟨(v0, v1), ⟨_, _, ?_, k0, k1⟩, q0, q1⟩
  rw [List.take_of_length_le (l := cs.drop a.sz) (by rw [List.length_drop]; omega), List.take_append_drop]
theorem opens_iso {t : TypeId} {d : Kd α} {good : α → Prop} {f : β → α} (g : α → β) (hg : ∀ x, f (g x) = x) (h : Opens P t d good) : Opens P t (Kd.iso d f) (fun y => good (f y)) := by
 intro H enc w fuel cs x hx hw
 obtain ⟨v, k, q⟩ := h enc w fuel cs x hx hw
 exact ⟨g v, by show d.K w (f (g v)) cs; rw [hg]; exact k, by show good (f (g v)); rw [hg]; exact q⟩
theorem open_arg {H : Type} {enc : TypeId × Value → H} {w : World} {t : TypeId} {d : Kd α} {good : α → Prop} {v : Value} {dd : DataW H} {ps : List MemPlace} (ho : Opens P t d good) (h : DataW.Trod enc P w 0 (fun _ => true) true t v dd ps)
  (hw : (dd.weights P t).all (· ≤ reachBytes) = true) : ∃ x, d.K w x v.cells.toList ∧ good x := by
 obtain ⟨fuel, hf⟩ := h
 exact ho enc w fuel _ _ hf hw
theorem weight_at {H : Type} {ts : List TypeId} {ds : List (DataW H)} (h : (DataW.weightsEach P ts ds).all (· ≤ reachBytes) = true) : ∀ {j : Nat} {t : TypeId} {d : DataW H}, ts[j]? = some t → ds[j]? = some d → (d.weights P t).all (· ≤ reachBytes) = true := by
 induction ts generalizing ds with
 | nil => intro j t d ht; simp at ht
 | cons a ts ih =>
  cases ds with
  | nil => intro j t d _ hd; simp at hd
  | cons b ds =>
   unfold DataW.weightsEach at h
   rw [List.all_append, Bool.and_eq_true] at h
   intro j t d ht hd
   cases j with
   | zero =>
    obtain rfl : a = t := by simpa using ht
    obtain rfl : b = d := by simpa using hd
    exact h.1
   | succ j => exact ih h.2 (by simpa using ht) (by simpa using hd)
theorem of_slice {w : World} {e : Nat} {d : Kd α} {xs : List α} {A : Option Addr} {n c : Nat} (h : (Kd.slice e d).K w xs [.slice A n c]) : n = xs.length ∧ xs.length ≤ c ∧ d.C w A xs.length xs := by
 obtain ⟨A', c', he, hl, hc⟩ := h
 simp only [List.cons.injEq, Value.slice.injEq, and_true] at he
 obtain ⟨rfl, rfl, rfl⟩ := he
 exact ⟨rfl, hl, hc⟩
end
end Go.Proofs.Ytkkhhbegeboonaa.Open
namespace Go.Proofs.Ytkkhhbegeboonaa.GAll
open Go.RowKit Go.Proofs.YtkkhhbegeboonaaW.PrintWords Go.Proofs.YtkkhhbegeboonaaW.PrintLast Go.Proofs.YtkkhhbegeboonaaW.PrintMore
attribute [local go_sem] max2_int min2_int max_two min_two max_three min_three max_four min_four   -- for this text's walks alone
set_option linter.unusedVariables false
set_option linter.unusedSimpArgs false
theorem simple_Valid.pairs {w : World} {A : Option Addr} {l : List S59} (h : Kd.C k59 w A l.length l) : Mem.Pairs w A (l.map fun x => (x.f0, x.f1)) := by
 intro i hi
 rw [List.length_map] at hi
 obtain ⟨ad, e, h1, h2⟩ := at_T59 h (i : Int) (by omega) (by omega)
 have e2 : Mem.pe (l.map fun x => (x.f0, x.f1)) i = ((rd_T59 l (i : Int)).f0, (rd_T59 l (i : Int)).f1) := by
  unfold Mem.pe rd_T59
  simp [List.getD_eq_getElem?_getD, hi]
 rw [e2]
 exact ⟨ad, e, h1, h2⟩
def simple_Valid.f (k : Nat) (a0_0 : Int) (l0_1 : List S59) : Option Bool := some (ValH.goodB a0_0 (l0_1.map fun x => (x.f0, x.f1)))
theorem simple_Valid.mono : ∀ a0 a1 k, LeO (simple_Valid.f k a0 a1) (simple_Valid.f (k + 1) a0 a1) := fun _ _ _ => LeO.refl _
theorem simple_Valid.calls (k : Nat) (a0_0 : Int) (A0_1 : Option Addr) (c0_1 : Nat) (l0_1 : List (S59)) (r : Bool) (w : World) (hr0_1 : Kd.C k59 w A0_1 l0_1.length l0_1) (hc0_1 : l0_1.length ≤ c0_1) (h : simple_Valid.f k a0_0 l0_1 = some r) :
  Calls Try.prog 44 #[.agg #[.int .i64 a0_0, .slice A0_1 l0_1.length c0_1]] w fun e w' => e = .returned (.bool r) ∧ Below w.heap.size w w' := by
 obtain rfl : ValH.goodB a0_0 (l0_1.map fun x => (x.f0, x.f1)) = r := by simpa [simple_Valid.f] using h
 have key := ValH.simple_calls a0_0 A0_1 c0_1 (l0_1.map fun x => (x.f0, x.f1)) w (simple_Valid.pairs hr0_1) (by rw [List.length_map]; exact hc0_1)
 rw [List.length_map] at key
 exact key
end Go.Proofs.Ytkkhhbegeboonaa.GAll
namespace Go.Proofs.Ytkkhhbegeboonaa.GAll
open Go.RowKit Go.Proofs.YtkkhhbegeboonaaW.PrintWords Go.Proofs.YtkkhhbegeboonaaW.PrintLast Go.Proofs.YtkkhhbegeboonaaW.PrintMore
attribute [local go_sem] max2_int min2_int max_two min_two max_three min_three max_four min_four   -- for this text's walks alone
set_option linter.unusedVariables false
set_option linter.unusedSimpArgs false
def simple_Degrees.l0 : Nat → List Int → List (S59) → Int → Int → Option (List Int × Int)
 | 0, _, _, _, _ => none
 | k + 1, x4, x14, x15, x16 => if x16 < x15 then (if 0 ≤ x16 then (if x16 < (x14.length : Int) then (if 0 ≤ ((rd_T59 x14 x16).f0) then (if ((rd_T59 x14 x16).f0) < (x4.length : Int) then ((some (x4.set (((rd_T59 x14 x16).f0) : Int).toNat (wrap64 ((rd x4 ((rd_T59 x14 x16).f0)) + 1)) : List Int)).bind fun y109 => (if 0 ≤ ((rd_T59 x14 x16).f1) then (if ((rd_T59 x14 x16).f1) < (x4.length : Int) then (simple_Degrees.l0 k (y109.set (((rd_T59 x14 x16).f1) : Int).toNat (wrap64 ((rd y109 ((rd_T59 x14 x16).f1)) + 1))) x14 x15 (wrap64 (x16 + 1))) else (none)) else (none))) else (none)) else (none)) else (none)) else (none)) else (some (x4, 0))
def simple_Degrees.f (k : Nat) (a0_0 : Int) (l0_1 : List (S59)) : Option (List Int × Int) := (simple_Valid.f k a0_0 l0_1).bind fun t102 => (if t102 = true then (if 0 ≤ a0_0 then (if (a0_0 : Int).toNat ≤ 35184372088832 then (simple_Degrees.l0 k (List.replicate (a0_0 : Int).toNat 0) l0_1 (l0_1.length : Int) 0) else (none)) else (none)) else (some (([] : List Int), 1)))
theorem simple_Degrees.mono_l : ∀ k, (∀ y0 y1 y2 y3, LeO (simple_Degrees.l0 k y0 y1 y2 y3) (simple_Degrees.l0 (k + 1) y0 y1 y2 y3))
 | 0 => fun _ _ _ _ r h => by simp [simple_Degrees.l0] at h
 | k + 1 => by
  have ih0 := simple_Degrees.mono_l k
  ·intro y0 y1 y2 y3
   unfold simple_Degrees.l0
   repeat' first
   | (with_reducible exact ih0 _ _ _ _)
   | (with_reducible exact simple_Valid.mono _ _ _)
   | (with_reducible exact LeO.refl _)
   | (with_reducible exact LeO.none _)
   | (with_reducible refine LeO.ite ?_ ?_)
   | (with_reducible refine LeO.bind ?_ (fun _ => ?_))
   | exact ih0 _ _ _ _
   | exact simple_Valid.mono _ _ _
   | exact LeO.none _
   | refine LeO.ite ?_ ?_
   | refine LeO.bind ?_ (fun _ => ?_)
theorem simple_Degrees.mono : ∀ a0 a1 k, LeO (simple_Degrees.f k a0 a1) (simple_Degrees.f (k + 1) a0 a1) := by
 intro a0 a1 k
 have ih0 := simple_Degrees.mono_l k
 unfold simple_Degrees.f
 repeat' first
   | (with_reducible exact ih0 _ _ _ _)
   | (with_reducible exact simple_Valid.mono _ _ _)
   | (with_reducible exact LeO.refl _)
   | (with_reducible exact LeO.none _)
   | (with_reducible refine LeO.ite ?_ ?_)
   | (with_reducible refine LeO.bind ?_ (fun _ => ?_))
   | exact ih0 _ _ _ _
   | exact simple_Valid.mono _ _ _
   | exact LeO.none _
   | refine LeO.ite ?_ ?_
   | refine LeO.bind ?_ (fun _ => ?_)
set_option maxHeartbeats 8000000 in
set_option maxRecDepth 100000 in
theorem simple_Degrees.calls (k : Nat) (a0_0 : Int) (A0_1 : Option Addr) (c0_1 : Nat) (l0_1 : List (S59)) (r1 : List Int) (r2 : Int) (w : World) (hr0_1 : Kd.C k59 w A0_1 l0_1.length l0_1) (hc0_1 : l0_1.length ≤ c0_1) (h : simple_Degrees.f k a0_0 l0_1 = some (r1, r2)) :
  Calls Try.prog 45 #[.agg #[.int .i64 a0_0, .slice A0_1 l0_1.length c0_1]] w fun e w' => ∃ v0_ : Value, e = .returned (.tuple #[v0_, .int .i64 r2]) ∧ Kd.R (Kd.int .i64) 3 w' w.heap.size (fun _ => True) v0_ r1 ∧ Below w.heap.size w w' := by
 have hu24 := Try.underlying24
 have hu59 := Try.underlying59
 have HR0_1 := Aside0.mk hr0_1
 have HC0_1 := Aside0.mk hc0_1
 clear hr0_1 hc0_1
 have HB := Aside0.mk (Below.refl w.heap.size w)
 have H : ((simple_Valid.f k a0_0 l0_1).bind fun t102 => (if t102 = true then (if 0 ≤ a0_0 then (if (a0_0 : Int).toNat ≤ 35184372088832 then (simple_Degrees.l0 k (List.replicate (a0_0 : Int).toNat 0) l0_1 (l0_1.length : Int) 0) else (none)) else (none)) else (some (([] : List Int), 1)))) = some (r1, r2) := h
 clear h
 replace H := Option.bind_eq_some_iff.mp H
 obtain ⟨t102, A20, H⟩ := H
 replace H : (if t102 = true then (if 0 ≤ a0_0 then (if (a0_0 : Int).toNat ≤ 35184372088832 then (simple_Degrees.l0 k (List.replicate (a0_0 : Int).toNat 0) l0_1 (l0_1.length : Int) 0) else (none)) else (none)) else (some (([] : List Int), 1))) = some (r1, r2) := H
 have A2 := Aside0.mk A20
 clear A20
 by_cases c3 : t102 = true
 ·subst c3
  have H1 : (if 0 ≤ a0_0 then (if (a0_0 : Int).toNat ≤ 35184372088832 then (simple_Degrees.l0 k (List.replicate (a0_0 : Int).toNat 0) l0_1 (l0_1.length : Int) 0) else (none)) else (none)) = some (r1, r2) := by rw [if_pos rfl] at H; exact H
  clear H
  have H := H1
  clear H1
  by_cases c4 : 0 ≤ a0_0
  ·rw [if_pos c4] at H
   have c4b0 := eq_true c4
   have c4b1 : decide (0 ≤ a0_0) = true := decide_eq_true c4
   clear c4
   by_cases c5 : (a0_0 : Int).toNat ≤ 35184372088832
   ·rw [if_pos c5] at H
    have c5b0 := eq_true c5
    have c5b1 : decide ((a0_0 : Int).toNat ≤ 35184372088832) = true := decide_eq_true c5
    clear c5
    obtain ⟨y103, hy103⟩ : ∃ y_ : List Int, y_ = (List.replicate (a0_0 : Int).toNat 0) := ⟨_, rfl⟩
    replace H : (simple_Degrees.l0 k y103 l0_1 (l0_1.length : Int) 0) = some (r1, r2) := by first | (rw [hy103]; with_reducible exact H) | (have H2_ := (Option.bind_some _ _).symm.trans H; rw [hy103]; with_reducible exact H2_) | (have H2_ := (Option.bind_some _ _).symm.trans H; with_reducible exact H2_) | with_reducible exact H | (rw [hy103]; exact H) | exact H
    have Ny103 := Aside0.mk hy103
    clear hy103
    have H' := Aside0.mk H
    clear H
    go_enter Try.func45, Try.ntmps45
    go_wp2_with (first | ((with_reducible refine gate_dst (N := 1) rfl ?_); refine box_event ?hg (N := 1) ?hd (cs := #[.int .i64 a0_0, .slice A0_1 l0_1.length c0_1]) (t := 24) ?hr ?_; (case hd => rfl); (case hg => rfl); (case hr => first | (go_simp; done) | (go_simp; rfl)); intro gb101 hg w6 hbox hb; have n0_ := Aside0.mk (below_step (by repeat (first | (with_reducible first | exact HB.out | apply below_alloc | apply pw_below_drewN | apply below_drew1) | exact HB.out)) hb); have n1_ := Aside0.mk (hbox); have n2_ := Aside0.mk ((by rw [hg]; exact (below_size (by repeat (first | (with_reducible first | exact HB.out | apply below_alloc | apply pw_below_drewN | apply below_drew1) | exact HB.out))) : w.heap.size ≤ gb101)); have n3_ := Aside0.mk ((by rw [hg]; exact (below_size (by repeat (first | (with_reducible first | exact HB.out | apply below_alloc | apply pw_below_drewN | apply below_drew1) | exact HB.out))) : w.heap.size ≤ gb101)); clear HB; have HB := n0_; have BK101 := n1_; have GW101 := n2_; have GE101 := n3_; clear n0_ n1_ n2_ n3_; clear hb hbox hg; have hcz7_0 : w6.cell? ⟨gb101, 0, none⟩ = some (.int .i64 a0_0) := (blk_cell BK101.out 0).trans rfl; have hcz7_1 : w6.cell? ⟨gb101, 1, none⟩ = some (.slice A0_1 l0_1.length c0_1) := (blk_cell BK101.out 1).trans rfl; have hfz7_0 := blk_frozen BK101.out 0; have hfz7_1 := blk_frozen BK101.out 1) | ((with_reducible refine gate_callee (f := 44) rfl ?_); refine goesL_ (some 8) rfl rfl Try.func44 (by kernel_rfl) rfl #[.agg #[.int .i64 a0_0, .slice A0_1 l0_1.length c0_1]] rfl (by (try simp only [List.map_toArray, List.map_cons, List.map_nil]); first | done | rfl | (simp only [List.length_drop, List.length_take]; rfl)) ?_; (with_reducible refine (simple_Valid.calls k a0_0 _ _ l0_1 true _ ?side1 ?side2 A2.out).mono ?_); (case side1 => repeat (first | exact (Kd.C_below HR0_1.out HB.out) | (with_reducible refine Kd.C_alloc ?_ _) | (with_reducible refine Kd.C_drewN ?_ _) | (with_reducible refine Kd.C_drew ?_))); (case side2 => exact HC0_1.out); rintro e w8 ⟨rfl, hb⟩; refine ⟨_, rfl, ?_⟩; have n0_ := Aside0.mk (blk_below (g := gb101) (o := .cells #[.int .i64 a0_0, .slice A0_1 l0_1.length c0_1] 24 (0, 0)) (by (with_reducible repeat (first | refine blk_drewN ?_ _ | refine blk_drew ?_ | refine blk_alloc ?_ _)); exact BK101.out) hb); have n1_ := Aside0.mk (below_step (by repeat (first | (with_reducible first | exact HB.out | apply below_alloc | apply pw_below_drewN | apply below_drew1 | refine below_set ?_ GE101.out) | exact HB.out)) hb); clear BK101; clear HB; have BK101 := n0_; have HB := n1_; clear n0_ n1_; (try clear hb); (try clear hb2); (try clear hk); (try clear hi); have hcz9_0 : w8.cell? ⟨gb101, 0, none⟩ = some (.int .i64 a0_0) := (blk_cell BK101.out 0).trans rfl; have hcz9_1 : w8.cell? ⟨gb101, 1, none⟩ = some (.slice A0_1 l0_1.length c0_1) := (blk_cell BK101.out 1).trans rfl; have hfz9_0 := blk_frozen BK101.out 0; have hfz9_1 := blk_frozen BK101.out 1) | ((with_reducible refine gate_dst (N := 12) rfl ?_); refine Kd.R_make (Kd.int .i64) _ 3 rfl (N := 12) rfl 28 _ _ rfl a0_0 rfl rfl Try.underlying28 (.int .i64 0) 8 info3 rfl (by decide) (by omega) 0 (ok := fun _ => True) (okp := fun _ => True) rfl (fun _ hk => hk) trivial (of_decide_eq_true (by first | (with_reducible assumption) | assumption)) (Nat.le_trans (Nat.mul_le_mul_right _ (of_decide_eq_true (by first | (with_reducible assumption) | assumption) : a0_0.toNat ≤ 35184372088832)) (by omega)) (Below.refl _ _) (Nat.le_refl _) ?_; intro v104 w10 ho11 hb hg_ hnew_; clear hg_ hnew_; (first | rw [← Ny103.out] at ho11 | (simp only [Int.reduceToNat] at ho11; rw [← Ny103.out] at ho11)); have n0_ := Aside0.mk (Kd.R_lower ho11 (below_size (by repeat (first | (with_reducible first | exact HB.out | apply below_alloc | apply pw_below_drewN | apply below_drew1 | refine below_set ?_ GE101.out) | exact HB.out)))); have n1_ := Aside0.mk (blk_below (g := gb101) (o := .cells #[.int .i64 a0_0, .slice A0_1 l0_1.length c0_1] 24 (0, 0)) (by (with_reducible repeat (first | refine blk_drewN ?_ _ | refine blk_drew ?_ | refine blk_alloc ?_ _)); exact BK101.out) hb); have n2_ := Aside0.mk (below_step (by repeat (first | (with_reducible first | exact HB.out | apply below_alloc | apply pw_below_drewN | apply below_drew1 | refine below_set ?_ GE101.out) | exact HB.out)) hb); clear BK101; clear HB; have HO105 := n0_; have BK101 := n1_; have HB := n2_; clear n0_ n1_ n2_; clear hb ho11; have hcz12_0 : w10.cell? ⟨gb101, 0, none⟩ = some (.int .i64 a0_0) := (blk_cell BK101.out 0).trans rfl; have hcz12_1 : w10.cell? ⟨gb101, 1, none⟩ = some (.slice A0_1 l0_1.length c0_1) := (blk_cell BK101.out 1).trans rfl; have hfz12_0 := blk_frozen BK101.out 0; have hfz12_1 := blk_frozen BK101.out 1))
    go_loopg [16] k (fun kq v16 w' => ∃ (x4_1 : List Int) (x16_1 : Int), v16 = .int .i64 x16_1 ∧ Aside0 (simple_Degrees.l0 kq x4_1 l0_1 (l0_1.length : Int) x16_1 = some (r1, r2)) ∧ Aside0 (kq ≤ k) ∧ Aside0 (Kd.R (Kd.int .i64) 3 w' w.heap.size (fun _ => True) v104 x4_1) ∧ Aside0 (w'.heap[gb101]? = some (.cells #[.int .i64 a0_0, (.slice A0_1 l0_1.length c0_1)] 24 (0, 0))) ∧ Aside0 (Below w.heap.size w w'))
    case atStart => exact ⟨(y103), (0), (by first | rfl | (simp; done) | (simp [*]; done)), H', ⟨Nat.le_refl _⟩, ⟨by (with_reducible repeat (first | apply Kd.R_alloc | apply Kd.R_drewN | apply Kd.R_drew)); exact HO105.out⟩, ⟨by (with_reducible repeat (first | refine blk_drewN ?_ _ | refine blk_drew ?_ | refine blk_alloc ?_ _)); exact BK101.out⟩, ⟨by repeat (first | (with_reducible first | exact HB.out | apply below_alloc | apply pw_below_drewN | apply below_drew1 | refine below_set ?_ GE101.out) | exact HB.out)⟩⟩
    case round =>
     clear H'
     try clear p2
     try clear c3
     try clear c4
     try clear c4b0
     try clear c4b1
     try clear c5
     try clear c5b0
     try clear c5b1
     try clear hcz12_0
     try clear hcz12_1
     try clear hcz7_0
     try clear hcz7_1
     try clear hcz9_0
     try clear hcz9_1
     try clear hfz12_0
     try clear hfz12_1
     try clear hfz7_0
     try clear hfz7_1
     try clear hfz9_0
     try clear hfz9_1
     obtain ⟨x4_1, x16_1, rfl, HA, HK1, HO_4, BK101, HB⟩ := hrel
     cases gk with
     | zero => exact absurd HA.out (by simp [simple_Degrees.l0])
     | succ k1 =>
      have H := HA.out
      clear HA
      simp only [simple_Degrees.l0] at H
      by_cases c13 : x16_1 < (l0_1.length : Int)
      ·rw [if_pos c13] at H
       have c13b0 : decide (x16_1 < (l0_1.length : Int)) = true := decide_eq_true c13
       clear c13
       by_cases c14 : 0 ≤ x16_1
       ·rw [if_pos c14] at H
        have c14b0 : decide (0 ≤ x16_1) = true := decide_eq_true c14
        clear c14
        by_cases c15 : x16_1 < (l0_1.length : Int)
        ·rw [if_pos c15] at H
         have c15b0 : decide (x16_1 < (l0_1.length : Int)) = true := decide_eq_true c15
         clear c15
         by_cases c16 : 0 ≤ ((rd_T59 l0_1 x16_1).f0)
         ·rw [if_pos c16] at H
          have c16b0 : decide (0 ≤ ((rd_T59 l0_1 x16_1).f0)) = true := decide_eq_true c16
          clear c16
          by_cases c17 : ((rd_T59 l0_1 x16_1).f0) < (x4_1.length : Int)
          ·rw [if_pos c17] at H
           have c17b0 : decide (((rd_T59 l0_1 x16_1).f0) < (x4_1.length : Int)) = true := decide_eq_true c17
           clear c17
           obtain ⟨y109, hy109⟩ : ∃ y_ : List Int, y_ = (x4_1.set (((rd_T59 l0_1 x16_1).f0) : Int).toNat (wrap64 ((rd x4_1 ((rd_T59 l0_1 x16_1).f0)) + 1))) := ⟨_, rfl⟩
           replace H : (if 0 ≤ ((rd_T59 l0_1 x16_1).f1) then (if ((rd_T59 l0_1 x16_1).f1) < (x4_1.length : Int) then (simple_Degrees.l0 k1 (y109.set (((rd_T59 l0_1 x16_1).f1) : Int).toNat (wrap64 ((rd y109 ((rd_T59 l0_1 x16_1).f1)) + 1))) l0_1 (l0_1.length : Int) (wrap64 (x16_1 + 1))) else (none)) else (none)) = some (r1, r2) := by first | (rw [hy109]; with_reducible exact H) | (have H2_ := (Option.bind_some _ _).symm.trans H; rw [hy109]; with_reducible exact H2_) | (have H2_ := (Option.bind_some _ _).symm.trans H; with_reducible exact H2_) | with_reducible exact H | (rw [hy109]; exact H) | exact H
           have Ny109 := Aside0.mk hy109
           clear hy109
           by_cases c19 : 0 ≤ ((rd_T59 l0_1 x16_1).f1)
           ·rw [if_pos c19] at H
            have c19b0 : decide (0 ≤ ((rd_T59 l0_1 x16_1).f1)) = true := decide_eq_true c19
            clear c19
            by_cases c20 : ((rd_T59 l0_1 x16_1).f1) < (x4_1.length : Int)
            ·rw [if_pos c20] at H
             have c20b0 : decide (((rd_T59 l0_1 x16_1).f1) < (x4_1.length : Int)) = true := decide_eq_true c20
             clear c20
             obtain ⟨y111, hy111⟩ : ∃ y_ : List Int, y_ = (y109.set (((rd_T59 l0_1 x16_1).f1) : Int).toNat (wrap64 ((rd y109 ((rd_T59 l0_1 x16_1).f1)) + 1))) := ⟨_, rfl⟩
             replace H : (simple_Degrees.l0 k1 y111 l0_1 (l0_1.length : Int) (wrap64 (x16_1 + 1))) = some (r1, r2) := by first | (rw [hy111]; with_reducible exact H) | (have H2_ := (Option.bind_some _ _).symm.trans H; rw [hy111]; with_reducible exact H2_) | (have H2_ := (Option.bind_some _ _).symm.trans H; with_reducible exact H2_) | with_reducible exact H | (rw [hy111]; exact H) | exact H
             have Ny111 := Aside0.mk hy111
             clear hy111
             have H' := Aside0.mk H
             clear H
             have p106 : 0 ≤ (x16_1 : Int) := of_decide_eq_true (by first | (with_reducible assumption) | assumption)
             have q106 : x16_1 < (l0_1.length : Int) := of_decide_eq_true (by first | (with_reducible assumption) | assumption)
             obtain ⟨ad106, e106, hx106_0, hx106_1⟩ := at_T59 HR0_1.out x16_1 p106 q106
             cases e106
             replace hx106_0 := (HB.out.cell (World.block_lt_of_cell? w _ hx106_0)).trans hx106_0
             replace hx106_1 := (HB.out.cell (World.block_lt_of_cell? w _ hx106_1)).trans hx106_1
             replace p106 := eq_true p106
             replace q106 := eq_true q106
             go_wp2_with (first | ((with_reducible refine gate_dst (N := 6) rfl ?_); refine box_event ?hg (N := 6) ?hd (cs := #[.int .i64 0, .int .i64 0]) (t := 59) ?hr ?_; (case hd => rfl); (case hg => rfl); (case hr => first | (go_simp; done) | (go_simp; rfl)); intro gb107 hg w22 hbox hb; have n0_ := Aside0.mk (Kd.R_below (by (with_reducible repeat (first | apply Kd.R_alloc | apply Kd.R_drewN | apply Kd.R_drew)); exact HO_4.out) hb); have n1_ := Aside0.mk (blk_below (g := gb101) (o := .cells #[.int .i64 a0_0, .slice (some ad106) l0_1.length c0_1] 24 (0, 0)) (by (with_reducible repeat (first | refine blk_drewN ?_ _ | refine blk_drew ?_ | refine blk_alloc ?_ _)); exact BK101.out) hb); have n2_ := Aside0.mk (below_step (by repeat (first | (with_reducible first | exact HB.out | apply below_alloc | apply pw_below_drewN | apply below_drew1 | refine below_set ?_ GE101.out) | exact HB.out)) hb); have n3_ := Aside0.mk (hbox); have n4_ := Aside0.mk ((by rw [hg]; exact (below_size (by repeat (first | (with_reducible first | exact HB.out | apply below_alloc | apply pw_below_drewN | apply below_drew1 | refine below_set ?_ GE101.out) | exact HB.out))) : w.heap.size ≤ gb107)); have n5_ := Aside0.mk ((by rw [hg]; exact (below_size (by repeat (first | (with_reducible first | exact HB.out | apply below_alloc | apply pw_below_drewN | apply below_drew1 | refine below_set ?_ GE101.out) | exact HB.out))) : w.heap.size ≤ gb107)); have n6_ := Aside0.mk ((by rw [hg]; exact Nat.ne_of_lt (blk_lt (g := gb101) (o := .cells #[.int .i64 a0_0, .slice (some ad106) l0_1.length c0_1] 24 (0, 0)) (by (with_reducible repeat (first | refine blk_drewN ?_ _ | refine blk_drew ?_ | refine blk_alloc ?_ _)); exact BK101.out)) : gb101 ≠ gb107)); have n7_ := Aside0.mk ((by rw [hg]; exact Nat.ne_of_gt (blk_lt (g := gb101) (o := .cells #[.int .i64 a0_0, .slice (some ad106) l0_1.length c0_1] 24 (0, 0)) (by (with_reducible repeat (first | refine blk_drewN ?_ _ | refine blk_drew ?_ | refine blk_alloc ?_ _)); exact BK101.out)) : gb107 ≠ gb101)); clear HO_4; clear BK101; clear HB; have HO_4 := n0_; have BK101 := n1_; have HB := n2_; have BK107 := n3_; have GW107 := n4_; have GE107 := n5_; have NB101_107 := n6_; have NB107_101 := n7_; clear n0_ n1_ n2_ n3_ n4_ n5_ n6_ n7_; clear hb hbox hg; have hnb23 := NB107_101.out; have hnc23 := NB101_107.out; have hcz24_0 : w22.cell? ⟨gb107, 0, none⟩ = some (.int .i64 0) := (blk_cell BK107.out 0).trans rfl; have hcz24_1 : w22.cell? ⟨gb107, 1, none⟩ = some (.int .i64 0) := (blk_cell BK107.out 1).trans rfl; have hfz24_0 := blk_frozen BK107.out 0; have hfz24_1 := blk_frozen BK107.out 1) | ((with_reducible refine gate_store (t := 59) (p := 6) rfl ?_); refine store_event (t := 59) (p := 6) (v := ?vo_w25) (w1 := ((w22.setCell ⟨gb107, 0, none⟩ (.int .i64 ((rd_T59 l0_1 x16_1).f0))).setCell ⟨gb107, 1, none⟩ (.int .i64 ((rd_T59 l0_1 x16_1).f1)))) ?hg ?ho ?hn ?hr ?_; (case ho => rfl); (case hg => rfl); (case hn => rfl); (case hr => first | (go_simp; done) | (go_simp; rfl)); intro w25 hw; have n0_ : Aside0 (Kd.R (Kd.int .i64) 3 w25 w.heap.size (fun _ => True) v104 x4_1) := ⟨(by rw [hw]; exact (by (with_reducible repeat (first | apply Kd.R_alloc | apply Kd.R_drewN | apply Kd.R_drew)); exact Kd.R_mono (Kd.R_far (p := ⟨gb107, 1, none⟩) (Kd.R_far (p := ⟨gb107, 0, none⟩) (Kd.R_types HO_4.out BK107.out (by decide)) (fun _ hk => hk.2) (.int .i64 ((rd_T59 l0_1 x16_1).f0))) (fun _ hk => hk.2) (.int .i64 ((rd_T59 l0_1 x16_1).f1))) (fun _ hk => trivial)))⟩; have n1_ : Aside0 (w25.heap[gb101]? = some (.cells #[.int .i64 a0_0, .slice (some ad106) l0_1.length c0_1] 24 (0, 0))) := ⟨(by rw [hw]; exact (by (with_reducible repeat (first | refine blk_drewN ?_ _ | refine blk_drew ?_ | refine blk_alloc ?_ _)); refine blk_far ?_ NB101_107.out _; (with_reducible repeat (first | refine blk_drewN ?_ _ | refine blk_drew ?_ | refine blk_alloc ?_ _)); refine blk_far ?_ NB101_107.out _; (with_reducible repeat (first | refine blk_drewN ?_ _ | refine blk_drew ?_ | refine blk_alloc ?_ _)); exact BK101.out))⟩; have n2_ : Aside0 (w25.heap[gb107]? = some (.cells #[.int .i64 ((rd_T59 l0_1 x16_1).f0), .int .i64 ((rd_T59 l0_1 x16_1).f1)] 59 (0, 0))) := ⟨(by rw [hw]; exact (by (with_reducible repeat (first | refine blk_drewN ?_ _ | refine blk_drew ?_ | refine blk_alloc ?_ _)); refine blk_put (cs := #[.int .i64 ((rd_T59 l0_1 x16_1).f0), .int .i64 0]) ?_ 1 _ rfl; (with_reducible repeat (first | refine blk_drewN ?_ _ | refine blk_drew ?_ | refine blk_alloc ?_ _)); refine blk_put (cs := #[.int .i64 0, .int .i64 0]) ?_ 0 _ rfl; (with_reducible repeat (first | refine blk_drewN ?_ _ | refine blk_drew ?_ | refine blk_alloc ?_ _)); exact BK107.out))⟩; have n3_ : Aside0 (Below w.heap.size w w25) := ⟨(by rw [hw]; exact (by repeat (first | (with_reducible first | exact HB.out | apply below_alloc | apply pw_below_drewN | apply below_drew1 | refine below_set ?_ GE101.out | refine below_set ?_ GE107.out) | exact HB.out)))⟩; clear hw; clear HO_4; clear BK101; clear BK107; clear HB; have HO_4 := n0_; have BK101 := n1_; have BK107 := n2_; have HB := n3_; clear n0_ n1_ n2_ n3_; have hcz26_0 : w25.cell? ⟨gb107, 0, none⟩ = some (.int .i64 ((rd_T59 l0_1 x16_1).f0)) := (blk_cell BK107.out 0).trans rfl; have hcz26_1 : w25.cell? ⟨gb107, 1, none⟩ = some (.int .i64 ((rd_T59 l0_1 x16_1).f1)) := (blk_cell BK107.out 1).trans rfl; have hfz26_0 := blk_frozen BK107.out 0; have hfz26_1 := blk_frozen BK107.out 1; obtain ⟨Ao27, co27, eo27⟩ := Kd.R_slice HO_4.out; subst eo27; have p108 : 0 ≤ (((rd_T59 l0_1 x16_1).f0) : Int) := of_decide_eq_true (by first | (with_reducible assumption) | assumption); have q108 : ((rd_T59 l0_1 x16_1).f0) < (x4_1.length : Int) := of_decide_eq_true (by first | (with_reducible assumption) | assumption); obtain ⟨ad108, e108, hx108_0⟩ := Kd.at_int (Kd.R_reads' HO_4.out).2.2 ((rd_T59 l0_1 x16_1).f0) p108 q108; cases e108; replace p108 := eq_true p108; replace q108 := eq_true q108; have p18 : 0 ≤ (((rd_T59 l0_1 x16_1).f0) : Int) := of_decide_eq_true (by first | (with_reducible assumption) | assumption); have q18 : (((rd_T59 l0_1 x16_1).f0) : Int) < ((x4_1.length : Int) : Int) := of_decide_eq_true (by first | (with_reducible assumption) | assumption); obtain ⟨go18, co18, eo18, gb18, gl18, cl18, HG18⟩ := Kd.R_form HO_4.out (by omega); (first | cases eo18 | (injection eo18 with ea_ en_ ec_; (first | subst ea_ | (injection ea_ with ea_; subst ea_)); subst ec_; clear en_)); have GB18 := Aside0.mk gb18; have GG18 := Aside0.mk HG18; clear gb18 gl18 HG18; (first | simp only [add_plain] at hx108_0 | skip); obtain ⟨hx18_0, hf18_0⟩ := Kd.R_celln 0 HO_4.out (((rd_T59 l0_1 x16_1).f0) : Int) p18 q18; replace p18 := eq_true p18; replace q18 := eq_true q18; obtain ⟨hy28_, hz28_⟩ := Kd.R_celln 0 HO_4.out (((rd_T59 l0_1 x16_1).f0) : Int) (of_decide_eq_true (by first | (with_reducible assumption) | assumption)) (of_decide_eq_true (by first | (with_reducible assumption) | assumption)); have HP28 := Kd.R_putg HO_4.out (((rd_T59 l0_1 x16_1).f0) : Int) (wrap64 ((rd x4_1 ((rd_T59 l0_1 x16_1).f0)) + 1))) | ((with_reducible refine gate_store (t := 3) (p := 26) rfl ?_); refine store_event (t := 3) (p := 26) (v := ?vo_w29) (w1 := (w25.setCell ⟨go18, (((rd_T59 l0_1 x16_1).f0) : Int).toNat, none⟩ (.int .i64 (wrap64 ((rd x4_1 ((rd_T59 l0_1 x16_1).f0)) + 1))))) ?hg ?ho ?hn ?hr ?_; (case ho => rfl); (case hg => rfl); (case hn => rfl); (case hr => first | (go_simp; done) | (go_simp; rfl)); intro w29 hw; have hg : w25.grownBy w29 (some go18) := (by rw [hw]; exact HP28.2); have hp_ : Kd.R (Kd.int .i64) 3 w29 w.heap.size (fun _ => True) (.slice (some ⟨go18, 0, none⟩) x4_1.length co27) y109 := (by rw [hw, Ny109.out]; exact HP28.1); clear HP28; have n0_ := Aside0.mk (hp_); have n1_ := Aside0.mk (blk_grown (g := gb101) (o := .cells #[.int .i64 a0_0, .slice (some ad106) l0_1.length c0_1] 24 (0, 0)) (by (with_reducible repeat (first | refine blk_drewN ?_ _ | refine blk_drew ?_ | refine blk_alloc ?_ _)); exact BK101.out) hg (Kd.R_ne HO_4.out BK101.out (by decide))); have n2_ := Aside0.mk (blk_grown (g := gb107) (o := .cells #[.int .i64 ((rd_T59 l0_1 x16_1).f0), .int .i64 ((rd_T59 l0_1 x16_1).f1)] 59 (0, 0)) (by (with_reducible repeat (first | refine blk_drewN ?_ _ | refine blk_drew ?_ | refine blk_alloc ?_ _)); exact BK107.out) hg (Kd.R_ne HO_4.out BK107.out (by decide))); have n3_ := Aside0.mk ((by rw [hw]; exact below_set (HB.out) GB18.out : Below w.heap.size w w29)); clear HO_4; clear BK101; clear BK107; clear HB; have HO_4 := n0_; have BK101 := n1_; have BK107 := n2_; have HB := n3_; clear n0_ n1_ n2_ n3_; clear hg hw hp_; have hcz30_0 : w29.cell? ⟨gb107, 0, none⟩ = some (.int .i64 ((rd_T59 l0_1 x16_1).f0)) := (blk_cell BK107.out 0).trans rfl; have hcz30_1 : w29.cell? ⟨gb107, 1, none⟩ = some (.int .i64 ((rd_T59 l0_1 x16_1).f1)) := (blk_cell BK107.out 1).trans rfl; have hfz30_0 := blk_frozen BK107.out 0; have hfz30_1 := blk_frozen BK107.out 1; have p110 : 0 ≤ (((rd_T59 l0_1 x16_1).f1) : Int) := of_decide_eq_true (by first | (with_reducible assumption) | assumption); have q110 : ((rd_T59 l0_1 x16_1).f1) < (y109.length : Int) := (by have h_ : (((rd_T59 l0_1 x16_1).f1) : Int) < ((x4_1.length : Int) : Int) := of_decide_eq_true (by first | (with_reducible assumption) | assumption); first | (have e_ := (Kd.R_reads' HO_4.out).1; omega) | simpa only [Ny109.out, List.length_set] using h_); have ql110 : ((((rd_T59 l0_1 x16_1).f1) : Int) < ((x4_1.length : Int) : Int)) = True := eq_true (of_decide_eq_true (by first | (with_reducible assumption) | assumption)); obtain ⟨ad110, e110, hx110_0⟩ := Kd.at_int (Kd.R_reads' HO_4.out).2.2 ((rd_T59 l0_1 x16_1).f1) p110 q110; obtain rfl : (⟨go18, 0, none⟩ : Addr) = ad110 := (by injection e110); (first | simp only [add_plain] at hx110_0 | simp only [add_at] at hx110_0 | simp only [Addr.add, Nat.zero_add] at hx110_0 | skip); replace p110 := eq_true p110; replace q110 := eq_true q110; have p21 : 0 ≤ (((rd_T59 l0_1 x16_1).f1) : Int) := of_decide_eq_true (by first | (with_reducible assumption) | assumption); have q21 : (((rd_T59 l0_1 x16_1).f1) : Int) < ((x4_1.length : Int) : Int) := of_decide_eq_true (by first | (with_reducible assumption) | assumption); obtain ⟨hx21_0, hf21_0⟩ := Kd.R_celln 0 HO_4.out (((rd_T59 l0_1 x16_1).f1) : Int) p21 q21; replace p21 := eq_true p21; replace q21 := eq_true q21; obtain ⟨hy31_, hz31_⟩ := Kd.R_celln 0 HO_4.out (((rd_T59 l0_1 x16_1).f1) : Int) (of_decide_eq_true (by first | (with_reducible assumption) | assumption)) (of_decide_eq_true (by first | (with_reducible assumption) | assumption)); have HP31 := Kd.R_putg HO_4.out (((rd_T59 l0_1 x16_1).f1) : Int) (wrap64 ((rd y109 ((rd_T59 l0_1 x16_1).f1)) + 1))) | ((with_reducible refine gate_store (t := 3) (p := 33) rfl ?_); refine store_event (t := 3) (p := 33) (v := ?vo_w32) (w1 := (w29.setCell ⟨go18, (((rd_T59 l0_1 x16_1).f1) : Int).toNat, none⟩ (.int .i64 (wrap64 ((rd y109 ((rd_T59 l0_1 x16_1).f1)) + 1))))) ?hg ?ho ?hn ?hr ?_; (case ho => rfl); (case hg => rfl); (case hn => rfl); (case hr => first | (go_simp; done) | (go_simp; rfl)); intro w32 hw; have hg : w29.grownBy w32 (some go18) := (by rw [hw]; exact HP31.2); have hp_ : Kd.R (Kd.int .i64) 3 w32 w.heap.size (fun _ => True) (.slice (some ⟨go18, 0, none⟩) x4_1.length co27) y111 := (by rw [hw, Ny111.out]; exact HP31.1); clear HP31; have n0_ := Aside0.mk (hp_); have n1_ := Aside0.mk (blk_grown (g := gb101) (o := .cells #[.int .i64 a0_0, .slice (some ad106) l0_1.length c0_1] 24 (0, 0)) (by (with_reducible repeat (first | refine blk_drewN ?_ _ | refine blk_drew ?_ | refine blk_alloc ?_ _)); exact BK101.out) hg (Kd.R_ne HO_4.out BK101.out (by decide))); have n2_ := Aside0.mk (blk_grown (g := gb107) (o := .cells #[.int .i64 ((rd_T59 l0_1 x16_1).f0), .int .i64 ((rd_T59 l0_1 x16_1).f1)] 59 (0, 0)) (by (with_reducible repeat (first | refine blk_drewN ?_ _ | refine blk_drew ?_ | refine blk_alloc ?_ _)); exact BK107.out) hg (Kd.R_ne HO_4.out BK107.out (by decide))); have n3_ := Aside0.mk ((by rw [hw]; exact below_set (HB.out) GB18.out : Below w.heap.size w w32)); clear HO_4; clear BK101; clear BK107; clear HB; have HO_4 := n0_; have BK101 := n1_; have BK107 := n2_; have HB := n3_; clear n0_ n1_ n2_ n3_; clear hg hw hp_))
             go_roundg k1
             case measure => have := HK1.out; omega
             case rel => exact ⟨(y111), (wrap64 (x16_1 + 1)), (by first | rfl | (simp; done) | (simp [*]; done)), H', ⟨by have := HK1.out; omega⟩, ⟨by (with_reducible repeat (first | apply Kd.R_alloc | apply Kd.R_drewN | apply Kd.R_drew)); exact HO_4.out⟩, ⟨by (with_reducible repeat (first | refine blk_drewN ?_ _ | refine blk_drew ?_ | refine blk_alloc ?_ _)); exact BK101.out⟩, ⟨by repeat (first | (with_reducible first | exact HB.out | apply below_alloc | apply pw_below_drewN | apply below_drew1 | refine below_set ?_ GE101.out | refine below_set ?_ GE107.out) | exact HB.out)⟩⟩
            ·rw [if_neg c20] at H
             exact absurd H (by simp)
           ·rw [if_neg c19] at H
            exact absurd H (by simp)
          ·rw [if_neg c17] at H
           exact absurd H (by simp)
         ·rw [if_neg c16] at H
          exact absurd H (by simp)
        ·rw [if_neg c15] at H
         exact absurd H (by simp)
       ·rw [if_neg c14] at H
        exact absurd H (by simp)
      ·rw [if_neg c13] at H
       have c13b0 : decide (x16_1 < (l0_1.length : Int)) = false := decide_eq_false c13
       clear c13
       simp only [Option.some.injEq, Prod.mk.injEq] at H
       obtain ⟨rfl, rfl⟩ := H
       go_wp2
       go_ret2
       exact ⟨_, by first | rfl | (simp [errW_none, errW_some] <;> rfl) | (simp [*, errW_none, errW_some] <;> rfl), by (with_reducible repeat (first | apply Kd.R_alloc | apply Kd.R_drewN | apply Kd.R_drew)); exact HO_4.out, by repeat (first | (with_reducible first | exact HB.out | apply below_alloc | apply pw_below_drewN | apply below_drew1 | refine below_set ?_ GE101.out) | exact HB.out)⟩
   ·rw [if_neg c5] at H
    exact absurd H (by simp)
  ·rw [if_neg c4] at H
   exact absurd H (by simp)
 ·replace c3 := Bool.eq_false_iff.mpr c3
  subst c3
  have H1 : (some (([] : List Int), 1)) = some (r1, r2) := by rw [if_neg (show ¬ (false = true) by decide)] at H; exact H
  clear H
  have H := H1
  clear H1
  simp only [Option.some.injEq, Prod.mk.injEq] at H
  obtain ⟨rfl, rfl⟩ := H
  go_enter Try.func45, Try.ntmps45
  go_wp2_with (first | ((with_reducible refine gate_dst (N := 1) rfl ?_); refine box_event ?hg (N := 1) ?hd (cs := #[.int .i64 a0_0, .slice A0_1 l0_1.length c0_1]) (t := 24) ?hr ?_; (case hd => rfl); (case hg => rfl); (case hr => first | (go_simp; done) | (go_simp; rfl)); intro gb101 hg w33 hbox hb; have n0_ := Aside0.mk (below_step (by repeat (first | (with_reducible first | exact HB.out | apply below_alloc | apply pw_below_drewN | apply below_drew1) | exact HB.out)) hb); have n1_ := Aside0.mk (hbox); have n2_ := Aside0.mk ((by rw [hg]; exact (below_size (by repeat (first | (with_reducible first | exact HB.out | apply below_alloc | apply pw_below_drewN | apply below_drew1) | exact HB.out))) : w.heap.size ≤ gb101)); have n3_ := Aside0.mk ((by rw [hg]; exact (below_size (by repeat (first | (with_reducible first | exact HB.out | apply below_alloc | apply pw_below_drewN | apply below_drew1) | exact HB.out))) : w.heap.size ≤ gb101)); clear HB; have HB := n0_; have BK101 := n1_; have GW101 := n2_; have GE101 := n3_; clear n0_ n1_ n2_ n3_; clear hb hbox hg; have hcz34_0 : w33.cell? ⟨gb101, 0, none⟩ = some (.int .i64 a0_0) := (blk_cell BK101.out 0).trans rfl; have hcz34_1 : w33.cell? ⟨gb101, 1, none⟩ = some (.slice A0_1 l0_1.length c0_1) := (blk_cell BK101.out 1).trans rfl; have hfz34_0 := blk_frozen BK101.out 0; have hfz34_1 := blk_frozen BK101.out 1) | ((with_reducible refine gate_callee (f := 44) rfl ?_); refine goesL_ (some 8) rfl rfl Try.func44 (by kernel_rfl) rfl #[.agg #[.int .i64 a0_0, .slice A0_1 l0_1.length c0_1]] rfl (by (try simp only [List.map_toArray, List.map_cons, List.map_nil]); first | done | rfl | (simp only [List.length_drop, List.length_take]; rfl)) ?_; (with_reducible refine (simple_Valid.calls k a0_0 _ _ l0_1 false _ ?side1 ?side2 A2.out).mono ?_); (case side1 => repeat (first | exact (Kd.C_below HR0_1.out HB.out) | (with_reducible refine Kd.C_alloc ?_ _) | (with_reducible refine Kd.C_drewN ?_ _) | (with_reducible refine Kd.C_drew ?_))); (case side2 => exact HC0_1.out); rintro e w35 ⟨rfl, hb⟩; refine ⟨_, rfl, ?_⟩; have n0_ := Aside0.mk (blk_below (g := gb101) (o := .cells #[.int .i64 a0_0, .slice A0_1 l0_1.length c0_1] 24 (0, 0)) (by (with_reducible repeat (first | refine blk_drewN ?_ _ | refine blk_drew ?_ | refine blk_alloc ?_ _)); exact BK101.out) hb); have n1_ := Aside0.mk (below_step (by repeat (first | (with_reducible first | exact HB.out | apply below_alloc | apply pw_below_drewN | apply below_drew1 | refine below_set ?_ GE101.out) | exact HB.out)) hb); clear BK101; clear HB; have BK101 := n0_; have HB := n1_; clear n0_ n1_; (try clear hb); (try clear hb2); (try clear hk); (try clear hi)))
  go_ret2
  exact ⟨_, by first | rfl | (simp [errW_none, errW_some] <;> rfl) | (simp [*, errW_none, errW_some] <;> rfl), by first | exact Kd.R_nil _ _ _ _ _ | exact Kd.N_nil _ _ _ _ _ | exact Kd.V_nil _ _ _ _ _ | exact Kd.Q_nil _ _ _ _ _ | exact Kd.S_nil _ _ _ _ _, by repeat (first | (with_reducible first | exact HB.out | apply below_alloc | apply pw_below_drewN | apply below_drew1 | refine below_set ?_ GE101.out) | exact HB.out)⟩
end Go.Proofs.Ytkkhhbegeboonaa.GAll
namespace Go.Proofs.Ytkkhhbegeboonaa.GAll
open Go.RowKit Go.Proofs.YtkkhhbegeboonaaW.PrintWords Go.Proofs.YtkkhhbegeboonaaW.PrintLast Go.Proofs.YtkkhhbegeboonaaW.PrintMore
attribute [local go_sem] max2_int min2_int max_two min_two max_three min_three max_four min_four   -- for this text's walks alone
set_option linter.unusedVariables false
set_option linter.unusedSimpArgs false
theorem rot_Check.pairs {w : World} {A : Option Addr} {l : List S59} (h : Kd.C k59 w A l.length l) : Mem.Pairs w A (l.map fun x => (x.f0, x.f1)) := by
 intro i hi
 rw [List.length_map] at hi
 obtain ⟨ad, e, h1, h2⟩ := at_T59 h (i : Int) (by omega) (by omega)
 have e2 : Mem.pe (l.map fun x => (x.f0, x.f1)) i = ((rd_T59 l (i : Int)).f0, (rd_T59 l (i : Int)).f1) := by
  unfold Mem.pe rd_T59
  simp [List.getD_eq_getElem?_getD, hi]
 rw [e2]
 exact ⟨ad, e, h1, h2⟩
def rot_Check.told (n : Int) (l : List S59) (r : List (List Int)) (d : List Int × Int) : Option (Int × Int) :=
 if 0 ≤ n ∧ n ≤ 1048576 ∧ l.length ≤ 4194304 ∧ (d.1.length : Int) = n ∧ d.2 = 0 then some (Rot.rows (Rot.froms (l.map fun x => (x.f0, x.f1))) d.1 0 r (List.replicate (2 * l.length) false)) else none
def rot_Check.f (k : Nat) (a0_0 : Int) (l0_1 : List S59) (l1 : List (List Int)) : Option (Int × Int) := (simple_Valid.f k a0_0 l0_1).bind fun t => if t = true then (if (l1.length : Int) = a0_0 then (simple_Degrees.f k a0_0 l0_1).bind fun d => rot_Check.told a0_0 l0_1 l1 d else some (0, 110)) else some (0, 1)
theorem rot_Check.mono : ∀ a0 a1 a2 k, LeO (rot_Check.f k a0 a1 a2) (rot_Check.f (k + 1) a0 a1 a2) := by
 intro a0 a1 a2 k
 unfold rot_Check.f
 refine LeO.bind (simple_Valid.mono _ _ _) (fun t => ?_)
 refine LeO.ite ?_ (LeO.refl _)
 refine LeO.ite ?_ (LeO.refl _)
 exact LeO.bind (simple_Degrees.mono _ _ _) (fun _ => LeO.refl _)
set_option maxHeartbeats 1000000 in
set_option maxRecDepth 100000 in
theorem rot_Check.calls (k : Nat) (a0_0 : Int) (A0_1 : Option Addr) (c0_1 : Nat) (l0_1 : List (S59)) (A1 : Option Addr) (c1 : Nat) (l1 : List (List Int)) (r1 : Int) (r2 : Int) (w : World) (hr0_1 : Kd.C k59 w A0_1 l0_1.length l0_1) (hc0_1 : l0_1.length ≤ c0_1) (hr1 : Kd.C (Kd.slice 3 (Kd.int .i64)) w A1 l1.length l1) (hc1 : l1.length ≤ c1) (h : rot_Check.f k a0_0 l0_1 l1 = some (r1, r2)) :
  Calls Try.prog 15 #[.agg #[.int .i64 a0_0, .slice A0_1 l0_1.length c0_1], .slice A1 l1.length c1] w fun e w' => e = .returned (.tuple #[.int .i64 r1, .int .i64 r2]) ∧ Below w.heap.size w w' := by
 obtain ⟨t, ht, h⟩ := Option.bind_eq_some_iff.mp h
 have hv : Rot.ValidSays t a0_0 A0_1 l0_1.length c0_1 w := fun W hW => simple_Valid.calls k a0_0 A0_1 c0_1 l0_1 t W (Kd.C_below hr0_1 hW) hc0_1 ht
 cases t with
 | false =>
  rw [if_neg (by decide)] at h
  obtain ⟨rfl, rfl⟩ : 0 = r1 ∧ 1 = r2 := by simpa using h
  exact Rot.checkCall (0, 1) a0_0 A0_1 l0_1.length c0_1 A1 l1.length c1 w (.inr (by decide)) (fun w' hw' => Rot.check_invalid a0_0 A0_1 l0_1.length c0_1 A1 l1.length c1 w' (fun W hW => hv W (hw'.trans (hW.mono hw'.size))))
 | true =>
  rw [if_pos rfl] at h
  by_cases hm : (l1.length : Int) = a0_0
  ·rw [if_pos hm] at h
   obtain ⟨d, hd, h⟩ := Option.bind_eq_some_iff.mp h
   unfold rot_Check.told at h
   by_cases hf : 0 ≤ a0_0 ∧ a0_0 ≤ 1048576 ∧ l0_1.length ≤ 4194304 ∧ (d.1.length : Int) = a0_0 ∧ d.2 = 0
   ·rw [if_pos hf] at h
    obtain ⟨h0, h1, h2, h3, h4⟩ := hf
    obtain ⟨n, rfl⟩ := Int.eq_ofNat_of_zero_le h0
    obtain ⟨ds, e0⟩ := d
    simp only at h3 h4 h
    subst h4
    have hds : Rot.DegreesSays ds (n : Int) A0_1 l0_1.length c0_1 w := fun W hW => simple_Degrees.calls k n A0_1 c0_1 l0_1 ds 0 W (Kd.C_below hr0_1 hW) hc0_1 hd
    have hlm : (l0_1.map fun x => (x.f0, x.f1)).length = l0_1.length := List.length_map ..
    have hp := rot_Check.pairs hr0_1
    obtain ⟨es, hes⟩ : ∃ es, es = l0_1.map fun x => (x.f0, x.f1) := ⟨_, rfl⟩
    rw [← hes] at h hlm hp
    rw [← hlm] at hv hds h h2 ⊢
    obtain ⟨res, hres⟩ : ∃ res, res = Rot.rows (Rot.froms es) ds 0 l1 (List.replicate (2 * es.length) false) := ⟨_, rfl⟩
    have hz := Rot.rows_zero (Rot.froms es) ds l1 0 (List.replicate (2 * es.length) false)
    rw [← hres] at h hz
    have hres2 : res = (r1, r2) := by simpa using h
    have key := Rot.checkCall res (n : Int) A0_1 es.length c0_1 A1 l1.length c1 w hz (fun w' hw' => by
     rw [hres]
     exact Rot.check_rows n A0_1 c0_1 es A1 c1 l1 ds w' (fun W hW => hv W (hw'.trans (hW.mono hw'.size))) (fun W hW => hds W (hw'.trans (hW.mono hw'.size))) (hp.below hw') h2 (by omega) (Kd.C_below hr1 hw') (by omega) (by omega))
    rw [hres2] at key
    exact key
   ·rw [if_neg hf] at h; cases h
  ·rw [if_neg hm] at h
   obtain ⟨rfl, rfl⟩ : 0 = r1 ∧ 110 = r2 := by simpa using h
   by_cases hn : 0 ≤ a0_0
   ·obtain ⟨n, rfl⟩ := Int.eq_ofNat_of_zero_le hn
    exact Rot.checkCall (0, 110) (n : Int) A0_1 l0_1.length c0_1 A1 l1.length c1 w (.inr (by decide)) (fun w' hw' => Rot.check_length n A0_1 l0_1.length c0_1 A1 l1.length c1 w' (fun W hW => hv W (hw'.trans (hW.mono hw'.size))) (by omega))
   ·exact absurd ((ValH.goodB_iff _ _).1 (by simpa [simple_Valid.f] using ht)).1 hn
end Go.Proofs.Ytkkhhbegeboonaa.GAll
namespace Go.Proofs.Ytkkhhbegeboonaa.GAll
open Go.RowKit Go.Proofs.YtkkhhbegeboonaaW.PrintWords Go.Proofs.YtkkhhbegeboonaaW.PrintLast Go.Proofs.YtkkhhbegeboonaaW.PrintMore
attribute [local go_sem] max2_int min2_int max_two min_two max_three min_three max_four min_four   -- for this text's walks alone
set_option linter.unusedVariables false
set_option linter.unusedSimpArgs false
mutual
def rot_Next.l0 : Nat → List Int → List (List Int) → Int → Int → Option (List Int × Int)
 | 0, _, _, _, _ => none
 | k + 1, x8, x27, x28, x29 => if x29 < x28 then (if 0 ≤ x29 then (if x29 < (x27.length : Int) then (rot_Next.l1 k x8 (rd_L5 x27 x29) x27 x28 x29 (rd_L5 x27 x29) ((rd_L5 x27 x29).length : Int) 0) else (none)) else (none)) else (some (x8, 0))
def rot_Next.l1 : Nat → List Int → List Int → List (List Int) → Int → Int → List Int → Int → Int → Option (List Int × Int)
 | 0, _, _, _, _, _, _, _, _ => none
 | k + 1, x8, x10, x27, x28, x29, x33, x34, x35 => if x35 < x34 then (if 0 ≤ x35 then (if x35 < (x33.length : Int) then (if (x10.length : Int) = 0 then (none) else (if 0 ≤ (Int.tmod (wrap64 (x35 + 1)) (x10.length : Int)) then (if (Int.tmod (wrap64 (x35 + 1)) (x10.length : Int)) < (x10.length : Int) then (if 0 ≤ (rd x33 x35) then (if (rd x33 x35) < (x8.length : Int) then (rot_Next.l1 k (x8.set ((rd x33 x35) : Int).toNat (rd x10 (Int.tmod (wrap64 (x35 + 1)) (x10.length : Int)))) x10 x27 x28 x29 x33 x34 (wrap64 (x35 + 1))) else (none)) else (none)) else (none)) else (none))) else (none)) else (none)) else (rot_Next.l0 k x8 x27 x28 (wrap64 (x29 + 1)))
end
def rot_Next.f (k : Nat) (a0_0 : Int) (l0_1 : List (S59)) (l1 : List (List Int)) : Option (List Int × Int) := (rot_Check.f k a0_0 l0_1 l1).bind fun bt113 => (if bt113.2 = 0 then (if 0 ≤ (wrap64 (2 * (l0_1.length : Int))) then (if (wrap64 (2 * (l0_1.length : Int)) : Int).toNat ≤ 35184372088832 then (rot_Next.l0 k (List.replicate (wrap64 (2 * (l0_1.length : Int)) : Int).toNat 0) l1 (l1.length : Int) 0) else (none)) else (none)) else (some (([] : List Int), bt113.2)))
theorem rot_Next.mono_l : ∀ k, (∀ y0 y1 y2 y3, LeO (rot_Next.l0 k y0 y1 y2 y3) (rot_Next.l0 (k + 1) y0 y1 y2 y3)) ∧ (∀ y0 y1 y2 y3 y4 y5 y6 y7, LeO (rot_Next.l1 k y0 y1 y2 y3 y4 y5 y6 y7) (rot_Next.l1 (k + 1) y0 y1 y2 y3 y4 y5 y6 y7))
 | 0 => ⟨fun _ _ _ _ r h => by simp [rot_Next.l0] at h, fun _ _ _ _ _ _ _ _ r h => by simp [rot_Next.l1] at h⟩
 | k + 1 => by
  obtain ⟨ih0, ih1⟩ := rot_Next.mono_l k
  refine ⟨?_, ?_⟩
  ·intro y0 y1 y2 y3
   unfold rot_Next.l0
   repeat' first
   | (with_reducible exact ih0 _ _ _ _)
   | (with_reducible exact ih1 _ _ _ _ _ _ _ _)
   | (with_reducible exact rot_Check.mono _ _ _ _)
   | (with_reducible exact LeO.refl _)
   | (with_reducible exact LeO.none _)
   | (with_reducible refine LeO.ite ?_ ?_)
   | (with_reducible refine LeO.bind ?_ (fun _ => ?_))
   | exact ih0 _ _ _ _
   | exact ih1 _ _ _ _ _ _ _ _
   | exact rot_Check.mono _ _ _ _
   | exact LeO.none _
   | refine LeO.ite ?_ ?_
   | refine LeO.bind ?_ (fun _ => ?_)
  ·intro y0 y1 y2 y3 y4 y5 y6 y7
   unfold rot_Next.l1
   repeat' first
   | (with_reducible exact ih0 _ _ _ _)
   | (with_reducible exact ih1 _ _ _ _ _ _ _ _)
   | (with_reducible exact rot_Check.mono _ _ _ _)
   | (with_reducible exact LeO.refl _)
   | (with_reducible exact LeO.none _)
   | (with_reducible refine LeO.ite ?_ ?_)
   | (with_reducible refine LeO.bind ?_ (fun _ => ?_))
   | exact ih0 _ _ _ _
   | exact ih1 _ _ _ _ _ _ _ _
   | exact rot_Check.mono _ _ _ _
   | exact LeO.none _
   | refine LeO.ite ?_ ?_
   | refine LeO.bind ?_ (fun _ => ?_)
theorem rot_Next.mono : ∀ a0 a1 a2 k, LeO (rot_Next.f k a0 a1 a2) (rot_Next.f (k + 1) a0 a1 a2) := by
 intro a0 a1 a2 k
 obtain ⟨ih0, ih1⟩ := rot_Next.mono_l k
 unfold rot_Next.f
 repeat' first
   | (with_reducible exact ih0 _ _ _ _)
   | (with_reducible exact ih1 _ _ _ _ _ _ _ _)
   | (with_reducible exact rot_Check.mono _ _ _ _)
   | (with_reducible exact LeO.refl _)
   | (with_reducible exact LeO.none _)
   | (with_reducible refine LeO.ite ?_ ?_)
   | (with_reducible refine LeO.bind ?_ (fun _ => ?_))
   | exact ih0 _ _ _ _
   | exact ih1 _ _ _ _ _ _ _ _
   | exact rot_Check.mono _ _ _ _
   | exact LeO.none _
   | refine LeO.ite ?_ ?_
   | refine LeO.bind ?_ (fun _ => ?_)
set_option maxHeartbeats 8000000 in
set_option maxRecDepth 100000 in
theorem rot_Next.calls (k : Nat) (a0_0 : Int) (A0_1 : Option Addr) (c0_1 : Nat) (l0_1 : List (S59)) (A1 : Option Addr) (c1 : Nat) (l1 : List (List Int)) (r1 : List Int) (r2 : Int) (w : World) (hr0_1 : Kd.C k59 w A0_1 l0_1.length l0_1) (hc0_1 : l0_1.length ≤ c0_1) (hr1 : Kd.C (Kd.slice 3 (Kd.int .i64)) w A1 l1.length l1) (hc1 : l1.length ≤ c1) (h : rot_Next.f k a0_0 l0_1 l1 = some (r1, r2)) :
  Calls Try.prog 12 #[.agg #[.int .i64 a0_0, .slice A0_1 l0_1.length c0_1], .slice A1 l1.length c1] w fun e w' => ∃ v0_ : Value, e = .returned (.tuple #[v0_, .int .i64 r2]) ∧ Kd.R (Kd.int .i64) 3 w' w.heap.size (fun _ => True) v0_ r1 ∧ Below w.heap.size w w' := by
 have hu24 := Try.underlying24
 have HR0_1 := Aside0.mk hr0_1
 have HC0_1 := Aside0.mk hc0_1
 clear hr0_1 hc0_1
 have HR1 := Aside0.mk hr1
 have HC1 := Aside0.mk hc1
 clear hr1 hc1
 have HB := Aside0.mk (Below.refl w.heap.size w)
 have H : ((rot_Check.f k a0_0 l0_1 l1).bind fun bt113 => (if bt113.2 = 0 then (if 0 ≤ (wrap64 (2 * (l0_1.length : Int))) then (if (wrap64 (2 * (l0_1.length : Int)) : Int).toNat ≤ 35184372088832 then (rot_Next.l0 k (List.replicate (wrap64 (2 * (l0_1.length : Int)) : Int).toNat 0) l1 (l1.length : Int) 0) else (none)) else (none)) else (some (([] : List Int), bt113.2)))) = some (r1, r2) := h
 clear h
 replace H := Option.bind_eq_some_iff.mp H
 obtain ⟨⟨t113, t114⟩, A30, H⟩ := H
 replace H : (if t114 = 0 then (if 0 ≤ (wrap64 (2 * (l0_1.length : Int))) then (if (wrap64 (2 * (l0_1.length : Int)) : Int).toNat ≤ 35184372088832 then (rot_Next.l0 k (List.replicate (wrap64 (2 * (l0_1.length : Int)) : Int).toNat 0) l1 (l1.length : Int) 0) else (none)) else (none)) else (some (([] : List Int), t114))) = some (r1, r2) := H
 have A3 := Aside0.mk A30
 clear A30
 by_cases c4 : t114 = 0
 ·rw [if_pos c4] at H
  have c4b0 : (t114 == 0) = true := beq_iff_eq.mpr c4
  have c4b1 : (t114 != 0) = false := bne_eq_false_iff_eq.mpr c4
  clear c4
  obtain ⟨ji5, hji5⟩ : ∃ j_ : Int, (wrap64 (2 * (l0_1.length : Int))) = j_ := ⟨_, rfl⟩
  replace H : (if 0 ≤ (ji5) then (if (ji5 : Int).toNat ≤ 35184372088832 then (rot_Next.l0 k (List.replicate (ji5 : Int).toNat 0) l1 (l1.length : Int) 0) else (none)) else (none)) = some (r1, r2) := by first | (rw [hji5] at H; exact H) | (simp only [hji5] at H ⊢; exact H)
  (try rw [hji5] at A3)
  have hji5w : (IntKind.i64.wrap (2 * (l0_1.length : Int))) = ji5 := (i64_w _).trans hji5
  by_cases c6 : 0 ≤ (ji5)
  ·rw [if_pos c6] at H
   have c6b0 := eq_true c6
   have c6b1 : decide (0 ≤ (ji5)) = true := decide_eq_true c6
   clear c6
   by_cases c7 : (ji5 : Int).toNat ≤ 35184372088832
   ·rw [if_pos c7] at H
    have c7b0 := eq_true c7
    have c7b1 : decide ((ji5 : Int).toNat ≤ 35184372088832) = true := decide_eq_true c7
    clear c7
    obtain ⟨y115, hy115⟩ : ∃ y_ : List Int, y_ = (List.replicate (ji5 : Int).toNat 0) := ⟨_, rfl⟩
    replace H : (rot_Next.l0 k y115 l1 (l1.length : Int) 0) = some (r1, r2) := by first | (rw [hy115]; with_reducible exact H) | (have H2_ := (Option.bind_some _ _).symm.trans H; rw [hy115]; with_reducible exact H2_) | (have H2_ := (Option.bind_some _ _).symm.trans H; with_reducible exact H2_) | with_reducible exact H | (rw [hy115]; exact H) | exact H
    have Ny115 := Aside0.mk hy115
    clear hy115
    have H' := Aside0.mk H
    clear H
    go_enter Try.func12, Try.ntmps12
    go_wp2_with (first | ((with_reducible refine gate_dst (N := 2) rfl ?_); refine box_event ?hg (N := 2) ?hd (cs := #[.int .i64 a0_0, .slice A0_1 l0_1.length c0_1]) (t := 24) ?hr ?_; (case hd => rfl); (case hg => rfl); (case hr => first | (go_simp; done) | (go_simp; rfl)); intro gb112 hg w8 hbox hb; have n0_ := Aside0.mk (below_step (by repeat (first | (with_reducible first | exact HB.out | apply below_alloc | apply pw_below_drewN | apply below_drew1) | exact HB.out)) hb); have n1_ := Aside0.mk (hbox); have n2_ := Aside0.mk ((by rw [hg]; exact (below_size (by repeat (first | (with_reducible first | exact HB.out | apply below_alloc | apply pw_below_drewN | apply below_drew1) | exact HB.out))) : w.heap.size ≤ gb112)); have n3_ := Aside0.mk ((by rw [hg]; exact (below_size (by repeat (first | (with_reducible first | exact HB.out | apply below_alloc | apply pw_below_drewN | apply below_drew1) | exact HB.out))) : w.heap.size ≤ gb112)); clear HB; have HB := n0_; have BK112 := n1_; have GW112 := n2_; have GE112 := n3_; clear n0_ n1_ n2_ n3_; clear hb hbox hg; have hcz9_0 : w8.cell? ⟨gb112, 0, none⟩ = some (.int .i64 a0_0) := (blk_cell BK112.out 0).trans rfl; have hcz9_1 : w8.cell? ⟨gb112, 1, none⟩ = some (.slice A0_1 l0_1.length c0_1) := (blk_cell BK112.out 1).trans rfl; have hfz9_0 := blk_frozen BK112.out 0; have hfz9_1 := blk_frozen BK112.out 1) | ((with_reducible refine gate_callee (f := 15) rfl ?_); refine goesL_ (some 16) rfl rfl Try.func15 (by kernel_rfl) rfl #[.agg #[.int .i64 a0_0, .slice A0_1 l0_1.length c0_1], .slice A1 l1.length c1] rfl (by (try simp only [List.map_toArray, List.map_cons, List.map_nil]); first | done | rfl | (simp only [List.length_drop, List.length_take]; rfl)) ?_; (with_reducible refine (rot_Check.calls k a0_0 _ _ l0_1 _ _ l1 t113 t114 _ ?side1 ?side2 ?side3 ?side4 A3.out).mono ?_); (case side1 => repeat (first | exact (Kd.C_below HR0_1.out HB.out) | (with_reducible refine Kd.C_alloc ?_ _) | (with_reducible refine Kd.C_drewN ?_ _) | (with_reducible refine Kd.C_drew ?_))); (case side2 => exact HC0_1.out); (case side3 => repeat (first | exact (Kd.C_below HR1.out HB.out) | (with_reducible refine Kd.C_alloc ?_ _) | (with_reducible refine Kd.C_drewN ?_ _) | (with_reducible refine Kd.C_drew ?_))); (case side4 => exact HC1.out); rintro e w10 ⟨rfl, hb⟩; refine ⟨_, rfl, ?_⟩; have n0_ := Aside0.mk (blk_below (g := gb112) (o := .cells #[.int .i64 a0_0, .slice A0_1 l0_1.length c0_1] 24 (0, 0)) (by (with_reducible repeat (first | refine blk_drewN ?_ _ | refine blk_drew ?_ | refine blk_alloc ?_ _)); exact BK112.out) hb); have n1_ := Aside0.mk (below_step (by repeat (first | (with_reducible first | exact HB.out | apply below_alloc | apply pw_below_drewN | apply below_drew1 | refine below_set ?_ GE112.out) | exact HB.out)) hb); clear BK112; clear HB; have BK112 := n0_; have HB := n1_; clear n0_ n1_; (try clear hb); (try clear hb2); (try clear hk); (try clear hi); have hcz11_0 : w10.cell? ⟨gb112, 0, none⟩ = some (.int .i64 a0_0) := (blk_cell BK112.out 0).trans rfl; have hcz11_1 : w10.cell? ⟨gb112, 1, none⟩ = some (.slice A0_1 l0_1.length c0_1) := (blk_cell BK112.out 1).trans rfl; have hfz11_0 := blk_frozen BK112.out 0; have hfz11_1 := blk_frozen BK112.out 1) | ((with_reducible refine gate_dst (N := 26) rfl ?_); refine Kd.R_make (Kd.int .i64) _ 3 rfl (N := 26) rfl 28 _ _ rfl ji5 rfl rfl Try.underlying28 (.int .i64 0) 8 info3 rfl (by decide) (by omega) 0 (ok := fun _ => True) (okp := fun _ => True) rfl (fun _ hk => hk) trivial (of_decide_eq_true (by first | (with_reducible assumption) | assumption)) (Nat.le_trans (Nat.mul_le_mul_right _ (of_decide_eq_true (by first | (with_reducible assumption) | assumption) : ji5.toNat ≤ 35184372088832)) (by omega)) (Below.refl _ _) (Nat.le_refl _) ?_; intro v116 w12 ho13 hb hg_ hnew_; clear hg_ hnew_; (first | rw [← Ny115.out] at ho13 | (simp only [Int.reduceToNat] at ho13; rw [← Ny115.out] at ho13)); have n0_ := Aside0.mk (Kd.R_lower ho13 (below_size (by repeat (first | (with_reducible first | exact HB.out | apply below_alloc | apply pw_below_drewN | apply below_drew1 | refine below_set ?_ GE112.out) | exact HB.out)))); have n1_ := Aside0.mk (blk_below (g := gb112) (o := .cells #[.int .i64 a0_0, .slice A0_1 l0_1.length c0_1] 24 (0, 0)) (by (with_reducible repeat (first | refine blk_drewN ?_ _ | refine blk_drew ?_ | refine blk_alloc ?_ _)); exact BK112.out) hb); have n2_ := Aside0.mk (below_step (by repeat (first | (with_reducible first | exact HB.out | apply below_alloc | apply pw_below_drewN | apply below_drew1 | refine below_set ?_ GE112.out) | exact HB.out)) hb); clear BK112; clear HB; have HO117 := n0_; have BK112 := n1_; have HB := n2_; clear n0_ n1_ n2_; clear hb ho13))
    go_loopg [29] k (fun kq v29 w' => ∃ (x8_1 : List Int) (x29_1 : Int), v29 = .int .i64 x29_1 ∧ Aside0 (rot_Next.l0 kq x8_1 l1 (l1.length : Int) x29_1 = some (r1, r2)) ∧ Aside0 (kq ≤ k) ∧ Aside0 (Kd.R (Kd.int .i64) 3 w' w.heap.size (fun _ => True) v116 x8_1) ∧ Aside0 (w'.heap[gb112]? = some (.cells #[.int .i64 a0_0, (.slice A0_1 l0_1.length c0_1)] 24 (0, 0))) ∧ Aside0 (Below w.heap.size w w'))
    case atStart => exact ⟨(y115), (0), (by first | rfl | (simp; done) | (simp [*]; done)), H', ⟨Nat.le_refl _⟩, ⟨by (with_reducible repeat (first | apply Kd.R_alloc | apply Kd.R_drewN | apply Kd.R_drew)); exact HO117.out⟩, ⟨by (with_reducible repeat (first | refine blk_drewN ?_ _ | refine blk_drew ?_ | refine blk_alloc ?_ _)); exact BK112.out⟩, ⟨by repeat (first | (with_reducible first | exact HB.out | apply below_alloc | apply pw_below_drewN | apply below_drew1 | refine below_set ?_ GE112.out) | exact HB.out)⟩⟩
    case round =>
     clear H'
     try clear c1
     try clear p2
     try clear c4
     try clear c4b0
     try clear c4b1
     try clear c6
     try clear c6b0
     try clear c6b1
     try clear p6
     try clear c7
     try clear c7b0
     try clear c7b1
     try clear c12
     try clear hcz11_0
     try clear hcz11_1
     try clear hcz9_0
     try clear hcz9_1
     try clear hfz11_0
     try clear hfz11_1
     try clear hfz9_0
     try clear hfz9_1
     obtain ⟨x8_1, x29_1, rfl, HA, HK1, HO_8, BK112, HB⟩ := hrel
     cases gk with
     | zero => exact absurd HA.out (by simp [rot_Next.l0])
     | succ k1 =>
      have H := HA.out
      clear HA
      simp only [rot_Next.l0] at H
      by_cases c14 : x29_1 < (l1.length : Int)
      ·rw [if_pos c14] at H
       have c14b0 : decide (x29_1 < (l1.length : Int)) = true := decide_eq_true c14
       clear c14
       by_cases c15 : 0 ≤ x29_1
       ·rw [if_pos c15] at H
        have c15b0 : decide (0 ≤ x29_1) = true := decide_eq_true c15
        clear c15
        by_cases c16 : x29_1 < (l1.length : Int)
        ·rw [if_pos c16] at H
         have c16b0 : decide (x29_1 < (l1.length : Int)) = true := decide_eq_true c16
         clear c16
         have H' := Aside0.mk H
         clear H
         have p118 : 0 ≤ (x29_1 : Int) := of_decide_eq_true (by first | (with_reducible assumption) | assumption)
         have q118 : x29_1 < (l1.length : Int) := of_decide_eq_true (by first | (with_reducible assumption) | assumption)
         obtain ⟨ad118, A118_0, c118_0, e118, hx118_0, hl118_0, hi118_0⟩ := at_L5 HR1.out x29_1 p118 q118
         cases e118
         replace hx118_0 := (HB.out.cell (World.block_lt_of_cell? w _ hx118_0)).trans hx118_0
         have HR118_0 := Aside0.mk hi118_0
         have HC118_0 := Aside0.mk hl118_0
         clear hi118_0 hl118_0
         replace p118 := eq_true p118
         replace q118 := eq_true q118
         go_wp2
         go_loopg [35] k1 (fun kq v35 w' => ∃ (x8_2 : List Int) (x35_2 : Int), v35 = .int .i64 x35_2 ∧ Aside0 (rot_Next.l1 kq x8_2 (rd_L5 l1 x29_1) l1 (l1.length : Int) x29_1 (rd_L5 l1 x29_1) ((rd_L5 l1 x29_1).length : Int) x35_2 = some (r1, r2)) ∧ Aside0 (kq ≤ k1) ∧ Aside0 (Kd.R (Kd.int .i64) 3 w' w.heap.size (fun _ => True) v116 x8_2) ∧ Aside0 (w'.heap[gb112]? = some (.cells #[.int .i64 a0_0, (.slice A0_1 l0_1.length c0_1)] 24 (0, 0))) ∧ Aside0 (Below w.heap.size w w'))
         case atStart => exact ⟨(x8_1), (0), (by first | rfl | (simp; done) | (simp [*]; done)), H', ⟨Nat.le_refl _⟩, ⟨by (with_reducible repeat (first | apply Kd.R_alloc | apply Kd.R_drewN | apply Kd.R_drew)); exact HO_8.out⟩, ⟨by (with_reducible repeat (first | refine blk_drewN ?_ _ | refine blk_drew ?_ | refine blk_alloc ?_ _)); exact BK112.out⟩, ⟨by repeat (first | (with_reducible first | exact HB.out | apply below_alloc | apply pw_below_drewN | apply below_drew1 | refine below_set ?_ GE112.out) | exact HB.out)⟩⟩
         case round =>
          clear H'
          try clear c1
          try clear p1
          try clear q1
          try clear hx1
          try clear p2
          try clear c4
          try clear c4b0
          try clear c4b1
          try clear c6
          try clear c6b0
          try clear c6b1
          try clear p6
          try clear c7
          try clear c7b0
          try clear c7b1
          try clear c11
          try clear p11
          try clear q11
          try clear hx11
          try clear c12
          try clear c14
          try clear c14b0
          try clear c15
          try clear c15b0
          try clear c16
          try clear c16b0
          try clear hcz11_0
          try clear hcz11_1
          try clear hcz9_0
          try clear hcz9_1
          try clear hfz11_0
          try clear hfz11_1
          try clear hfz9_0
          try clear hfz9_1
          try clear hx118_0
          try clear p118
          try clear p2
          try clear p6
          try clear q118
          obtain ⟨x8_2, x35_2, rfl, HA, HK2, HO_8, BK112, HB⟩ := hrel
          cases gk with
          | zero => exact absurd HA.out (by simp [rot_Next.l1])
          | succ k2 =>
           have H := HA.out
           clear HA
           simp only [rot_Next.l1] at H
           by_cases c17 : x35_2 < ((rd_L5 l1 x29_1).length : Int)
           ·rw [if_pos c17] at H
            have c17b0 : decide (x35_2 < ((rd_L5 l1 x29_1).length : Int)) = true := decide_eq_true c17
            clear c17
            by_cases c18 : 0 ≤ x35_2
            ·rw [if_pos c18] at H
             have c18b0 : decide (0 ≤ x35_2) = true := decide_eq_true c18
             clear c18
             by_cases c19 : x35_2 < ((rd_L5 l1 x29_1).length : Int)
             ·rw [if_pos c19] at H
              have c19b0 : decide (x35_2 < ((rd_L5 l1 x29_1).length : Int)) = true := decide_eq_true c19
              clear c19
              by_cases c20 : ((rd_L5 l1 x29_1).length : Int) = 0
              ·rw [if_pos c20] at H
               exact absurd H (by simp)
              ·rw [if_neg c20] at H
               have c20b0 : (((rd_L5 l1 x29_1).length : Int) == 0) = false := beq_eq_false_iff_ne.mpr c20
               have c20b1 : (((rd_L5 l1 x29_1).length : Int) != 0) = true := bne_iff_ne.mpr c20
               have c20b2 : ¬ ((rd_L5 l1 x29_1) = []) := fun h_ => c20 (by rw [h_]; rfl)
               obtain ⟨ji21, hji21⟩ : ∃ j_ : Int, (Int.tmod (wrap64 (x35_2 + 1)) ((rd_L5 l1 x29_1).length : Int)) = j_ := ⟨_, rfl⟩
               replace H : (if 0 ≤ (ji21) then (if (ji21) < ((rd_L5 l1 x29_1).length : Int) then (if 0 ≤ (rd (rd_L5 l1 x29_1) x35_2) then (if (rd (rd_L5 l1 x29_1) x35_2) < (x8_2.length : Int) then (rot_Next.l1 k2 (x8_2.set ((rd (rd_L5 l1 x29_1) x35_2) : Int).toNat (rd (rd_L5 l1 x29_1) (ji21))) (rd_L5 l1 x29_1) l1 (l1.length : Int) x29_1 (rd_L5 l1 x29_1) ((rd_L5 l1 x29_1).length : Int) (wrap64 (x35_2 + 1))) else (none)) else (none)) else (none)) else (none)) = some (r1, r2) := by first | (rw [hji21] at H; exact H) | (simp only [hji21] at H ⊢; exact H)
               by_cases c22 : 0 ≤ (ji21)
               ·rw [if_pos c22] at H
                have c22b0 : decide (0 ≤ (ji21)) = true := decide_eq_true c22
                clear c22
                by_cases c23 : (ji21) < ((rd_L5 l1 x29_1).length : Int)
                ·rw [if_pos c23] at H
                 have c23b0 : decide ((ji21) < ((rd_L5 l1 x29_1).length : Int)) = true := decide_eq_true c23
                 clear c23
                 by_cases c24 : 0 ≤ (rd (rd_L5 l1 x29_1) x35_2)
                 ·rw [if_pos c24] at H
                  have c24b0 : decide (0 ≤ (rd (rd_L5 l1 x29_1) x35_2)) = true := decide_eq_true c24
                  clear c24
                  by_cases c25 : (rd (rd_L5 l1 x29_1) x35_2) < (x8_2.length : Int)
                  ·rw [if_pos c25] at H
                   have c25b0 : decide ((rd (rd_L5 l1 x29_1) x35_2) < (x8_2.length : Int)) = true := decide_eq_true c25
                   clear c25
                   obtain ⟨y121, hy121⟩ : ∃ y_ : List Int, y_ = (x8_2.set ((rd (rd_L5 l1 x29_1) x35_2) : Int).toNat (rd (rd_L5 l1 x29_1) (ji21))) := ⟨_, rfl⟩
                   replace H : (rot_Next.l1 k2 y121 (rd_L5 l1 x29_1) l1 (l1.length : Int) x29_1 (rd_L5 l1 x29_1) ((rd_L5 l1 x29_1).length : Int) (wrap64 (x35_2 + 1))) = some (r1, r2) := by first | (rw [hy121]; with_reducible exact H) | (have H2_ := (Option.bind_some _ _).symm.trans H; rw [hy121]; with_reducible exact H2_) | (have H2_ := (Option.bind_some _ _).symm.trans H; with_reducible exact H2_) | with_reducible exact H | (rw [hy121]; exact H) | exact H
                   have Ny121 := Aside0.mk hy121
                   clear hy121
                   have H' := Aside0.mk H
                   clear H
                   have p119 : 0 ≤ (x35_2 : Int) := of_decide_eq_true (by first | (with_reducible assumption) | assumption)
                   have q119 : x35_2 < ((rd_L5 l1 x29_1).length : Int) := of_decide_eq_true (by first | (with_reducible assumption) | assumption)
                   obtain ⟨ad119, e119, hx119_0⟩ := Kd.at_int HR118_0.out x35_2 p119 q119
                   cases e119
                   replace hx119_0 := (HB.out.cell (World.block_lt_of_cell? w _ hx119_0)).trans hx119_0
                   replace p119 := eq_true p119
                   replace q119 := eq_true q119
                   have p120 : 0 ≤ ((ji21) : Int) := of_decide_eq_true (by first | (with_reducible assumption) | assumption)
                   have q120 : (ji21) < ((rd_L5 l1 x29_1).length : Int) := of_decide_eq_true (by first | (with_reducible assumption) | assumption)
                   obtain ⟨ad120, e120, hx120_0⟩ := Kd.at_int HR118_0.out (ji21) p120 q120
                   obtain rfl : ad119 = ad120 := (by injection e120)
                   replace hx120_0 := (HB.out.cell (World.block_lt_of_cell? w _ hx120_0)).trans hx120_0
                   replace p120 := eq_true p120
                   replace q120 := eq_true q120
                   have p26 : 0 ≤ ((rd (rd_L5 l1 x29_1) x35_2) : Int) := of_decide_eq_true (by first | (with_reducible assumption) | assumption)
                   have q26 : ((rd (rd_L5 l1 x29_1) x35_2) : Int) < ((x8_2.length : Int) : Int) := of_decide_eq_true (by first | (with_reducible assumption) | assumption)
                   obtain ⟨go26, co26, eo26, gb26, gl26, cl26, HG26⟩ := Kd.R_form HO_8.out (by omega)
                   (first | cases eo26 | (injection eo26 with ea_ en_ ec_; (first | subst ea_ | (injection ea_ with ea_; subst ea_)); subst ec_; clear en_))
                   have GB26 := Aside0.mk gb26
                   have GG26 := Aside0.mk HG26
                   clear gb26 gl26 HG26
                   obtain ⟨hx26_0, hf26_0⟩ := Kd.R_celln 0 HO_8.out ((rd (rd_L5 l1 x29_1) x35_2) : Int) p26 q26
                   replace p26 := eq_true p26
                   replace q26 := eq_true q26
                   have HP27 := Kd.R_putg HO_8.out ((rd (rd_L5 l1 x29_1) x35_2) : Int) (rd (rd_L5 l1 x29_1) (ji21))
                   go_wp2_with (first | ((with_reducible refine gate_store (t := 3) (p := 50) rfl ?_); refine store_event (t := 3) (p := 50) (v := ?vo_w28) (w1 := (wr.setCell ⟨go26, ((rd (rd_L5 l1 x29_1) x35_2) : Int).toNat, none⟩ (.int .i64 (rd (rd_L5 l1 x29_1) (ji21))))) ?hg ?ho ?hn ?hr ?_; (case ho => rfl); (case hg => rfl); (case hn => rfl); (case hr => first | (go_simp; done) | (go_simp; rfl)); intro w28 hw; have hg : wr.grownBy w28 (some go26) := (by rw [hw]; exact HP27.2); have hp_ : Kd.R (Kd.int .i64) 3 w28 w.heap.size (fun _ => True) (.slice (some ⟨go26, 0, none⟩) x8_2.length co26) y121 := (by rw [hw, Ny121.out]; exact HP27.1); clear HP27; have n0_ := Aside0.mk (hp_); have n1_ := Aside0.mk (blk_grown (g := gb112) (o := .cells #[.int .i64 a0_0, .slice A0_1 l0_1.length c0_1] 24 (0, 0)) (by (with_reducible repeat (first | refine blk_drewN ?_ _ | refine blk_drew ?_ | refine blk_alloc ?_ _)); exact BK112.out) hg (Kd.R_ne HO_8.out BK112.out (by decide))); have n2_ := Aside0.mk ((by rw [hw]; exact below_set (HB.out) GB26.out : Below w.heap.size w w28)); clear HO_8; clear BK112; clear HB; have HO_8 := n0_; have BK112 := n1_; have HB := n2_; clear n0_ n1_ n2_; clear hg hw hp_))
                   go_roundg k2
                   case measure => have := HK1.out; have := HK2.out; omega
                   case rel => exact ⟨(y121), (wrap64 (x35_2 + 1)), (by first | rfl | (simp; done) | (simp [*]; done)), H', ⟨by have := HK1.out; have := HK2.out; omega⟩, ⟨by (with_reducible repeat (first | apply Kd.R_alloc | apply Kd.R_drewN | apply Kd.R_drew)); exact HO_8.out⟩, ⟨by (with_reducible repeat (first | refine blk_drewN ?_ _ | refine blk_drew ?_ | refine blk_alloc ?_ _)); exact BK112.out⟩, ⟨by repeat (first | (with_reducible first | exact HB.out | apply below_alloc | apply pw_below_drewN | apply below_drew1 | refine below_set ?_ GE112.out) | exact HB.out)⟩⟩
                  ·rw [if_neg c25] at H
                   exact absurd H (by simp)
                 ·rw [if_neg c24] at H
                  exact absurd H (by simp)
                ·rw [if_neg c23] at H
                 exact absurd H (by simp)
               ·rw [if_neg c22] at H
                exact absurd H (by simp)
             ·rw [if_neg c19] at H
              exact absurd H (by simp)
            ·rw [if_neg c18] at H
             exact absurd H (by simp)
           ·rw [if_neg c17] at H
            have c17b0 : decide (x35_2 < ((rd_L5 l1 x29_1).length : Int)) = false := decide_eq_false c17
            clear c17
            have H' := Aside0.mk H
            clear H
            go_wp2
            go_roundg k2
            case measure => have := HK1.out; have := HK2.out; omega
            case rel => exact ⟨(x8_2), (wrap64 (x29_1 + 1)), (by first | rfl | (simp; done) | (simp [*]; done)), H', ⟨by have := HK1.out; have := HK2.out; omega⟩, ⟨by (with_reducible repeat (first | apply Kd.R_alloc | apply Kd.R_drewN | apply Kd.R_drew)); exact HO_8.out⟩, ⟨by (with_reducible repeat (first | refine blk_drewN ?_ _ | refine blk_drew ?_ | refine blk_alloc ?_ _)); exact BK112.out⟩, ⟨by repeat (first | (with_reducible first | exact HB.out | apply below_alloc | apply pw_below_drewN | apply below_drew1 | refine below_set ?_ GE112.out) | exact HB.out)⟩⟩
        ·rw [if_neg c16] at H
         exact absurd H (by simp)
       ·rw [if_neg c15] at H
        exact absurd H (by simp)
      ·rw [if_neg c14] at H
       have c14b0 : decide (x29_1 < (l1.length : Int)) = false := decide_eq_false c14
       clear c14
       simp only [Option.some.injEq, Prod.mk.injEq] at H
       obtain ⟨rfl, rfl⟩ := H
       go_wp2
       go_ret2
       exact ⟨_, by first | rfl | (simp [errW_none, errW_some] <;> rfl) | (simp only [← hji5]; first | rfl | (simp [errW_none, errW_some] <;> rfl)) | (simp [*, errW_none, errW_some] <;> rfl), by (with_reducible repeat (first | apply Kd.R_alloc | apply Kd.R_drewN | apply Kd.R_drew)); exact HO_8.out, by repeat (first | (with_reducible first | exact HB.out | apply below_alloc | apply pw_below_drewN | apply below_drew1 | refine below_set ?_ GE112.out) | exact HB.out)⟩
   ·rw [if_neg c7] at H
    exact absurd H (by simp)
  ·rw [if_neg c6] at H
   exact absurd H (by simp)
 ·rw [if_neg c4] at H
  have c4b0 : (t114 == 0) = false := beq_eq_false_iff_ne.mpr c4
  have c4b1 : (t114 != 0) = true := bne_iff_ne.mpr c4
  simp only [Option.some.injEq, Prod.mk.injEq] at H
  obtain ⟨rfl, rfl⟩ := H
  go_enter Try.func12, Try.ntmps12
  go_wp2_with (first | ((with_reducible refine gate_dst (N := 2) rfl ?_); refine box_event ?hg (N := 2) ?hd (cs := #[.int .i64 a0_0, .slice A0_1 l0_1.length c0_1]) (t := 24) ?hr ?_; (case hd => rfl); (case hg => rfl); (case hr => first | (go_simp; done) | (go_simp; rfl)); intro gb112 hg w29 hbox hb; have n0_ := Aside0.mk (below_step (by repeat (first | (with_reducible first | exact HB.out | apply below_alloc | apply pw_below_drewN | apply below_drew1) | exact HB.out)) hb); have n1_ := Aside0.mk (hbox); have n2_ := Aside0.mk ((by rw [hg]; exact (below_size (by repeat (first | (with_reducible first | exact HB.out | apply below_alloc | apply pw_below_drewN | apply below_drew1) | exact HB.out))) : w.heap.size ≤ gb112)); have n3_ := Aside0.mk ((by rw [hg]; exact (below_size (by repeat (first | (with_reducible first | exact HB.out | apply below_alloc | apply pw_below_drewN | apply below_drew1) | exact HB.out))) : w.heap.size ≤ gb112)); clear HB; have HB := n0_; have BK112 := n1_; have GW112 := n2_; have GE112 := n3_; clear n0_ n1_ n2_ n3_; clear hb hbox hg; have hcz30_0 : w29.cell? ⟨gb112, 0, none⟩ = some (.int .i64 a0_0) := (blk_cell BK112.out 0).trans rfl; have hcz30_1 : w29.cell? ⟨gb112, 1, none⟩ = some (.slice A0_1 l0_1.length c0_1) := (blk_cell BK112.out 1).trans rfl; have hfz30_0 := blk_frozen BK112.out 0; have hfz30_1 := blk_frozen BK112.out 1) | ((with_reducible refine gate_callee (f := 15) rfl ?_); refine goesL_ (some 16) rfl rfl Try.func15 (by kernel_rfl) rfl #[.agg #[.int .i64 a0_0, .slice A0_1 l0_1.length c0_1], .slice A1 l1.length c1] rfl (by (try simp only [List.map_toArray, List.map_cons, List.map_nil]); first | done | rfl | (simp only [List.length_drop, List.length_take]; rfl)) ?_; (with_reducible refine (rot_Check.calls k a0_0 _ _ l0_1 _ _ l1 t113 t114 _ ?side1 ?side2 ?side3 ?side4 A3.out).mono ?_); (case side1 => repeat (first | exact (Kd.C_below HR0_1.out HB.out) | (with_reducible refine Kd.C_alloc ?_ _) | (with_reducible refine Kd.C_drewN ?_ _) | (with_reducible refine Kd.C_drew ?_))); (case side2 => exact HC0_1.out); (case side3 => repeat (first | exact (Kd.C_below HR1.out HB.out) | (with_reducible refine Kd.C_alloc ?_ _) | (with_reducible refine Kd.C_drewN ?_ _) | (with_reducible refine Kd.C_drew ?_))); (case side4 => exact HC1.out); rintro e w31 ⟨rfl, hb⟩; refine ⟨_, rfl, ?_⟩; have n0_ := Aside0.mk (blk_below (g := gb112) (o := .cells #[.int .i64 a0_0, .slice A0_1 l0_1.length c0_1] 24 (0, 0)) (by (with_reducible repeat (first | refine blk_drewN ?_ _ | refine blk_drew ?_ | refine blk_alloc ?_ _)); exact BK112.out) hb); have n1_ := Aside0.mk (below_step (by repeat (first | (with_reducible first | exact HB.out | apply below_alloc | apply pw_below_drewN | apply below_drew1 | refine below_set ?_ GE112.out) | exact HB.out)) hb); clear BK112; clear HB; have BK112 := n0_; have HB := n1_; clear n0_ n1_; (try clear hb); (try clear hb2); (try clear hk); (try clear hi)))
  go_ret2
  exact ⟨_, by first | rfl | (simp [errW_none, errW_some] <;> rfl) | (simp [*, errW_none, errW_some] <;> rfl), by first | exact Kd.R_nil _ _ _ _ _ | exact Kd.N_nil _ _ _ _ _ | exact Kd.V_nil _ _ _ _ _ | exact Kd.Q_nil _ _ _ _ _ | exact Kd.S_nil _ _ _ _ _, by repeat (first | (with_reducible first | exact HB.out | apply below_alloc | apply pw_below_drewN | apply below_drew1 | refine below_set ?_ GE112.out) | exact HB.out)⟩
end Go.Proofs.Ytkkhhbegeboonaa.GAll
namespace Go.Proofs.Ytkkhhbegeboonaa.GAll
open Go.RowKit Go.Proofs.YtkkhhbegeboonaaW.PrintWords Go.Proofs.YtkkhhbegeboonaaW.PrintLast Go.Proofs.YtkkhhbegeboonaaW.PrintMore
attribute [local go_sem] max2_int min2_int max_two min_two max_three min_three max_four min_four   -- for this text's walks alone
set_option linter.unusedVariables false
set_option linter.unusedSimpArgs false
def tangramref11_Alike.l0 : Nat → List Int → List Int → Int → Option (Bool)
 | 0, _, _, _ => none
 | k + 1, x0, x1, x5 => if x5 < (x0.length : Int) then (if 0 ≤ x5 then (if x5 < (x1.length : Int) then (if (rd x0 x5) = (rd x1 x5) then (tangramref11_Alike.l0 k x0 x1 (wrap64 (x5 + 1))) else (some false)) else (none)) else (none)) else (some true)
def tangramref11_Alike.f (k : Nat) (l0 : List Int) (l1 : List Int) : Option (Bool) := if (l0.length : Int) = (l1.length : Int) then (tangramref11_Alike.l0 k l0 l1 0) else (some false)
theorem tangramref11_Alike.mono_l : ∀ k, (∀ y0 y1 y2, LeO (tangramref11_Alike.l0 k y0 y1 y2) (tangramref11_Alike.l0 (k + 1) y0 y1 y2))
 | 0 => fun _ _ _ r h => by simp [tangramref11_Alike.l0] at h
 | k + 1 => by
  have ih0 := tangramref11_Alike.mono_l k
  ·intro y0 y1 y2
   unfold tangramref11_Alike.l0
   repeat' first
   | (with_reducible exact ih0 _ _ _)
   | (with_reducible exact LeO.refl _)
   | (with_reducible exact LeO.none _)
   | (with_reducible refine LeO.ite ?_ ?_)
   | (with_reducible refine LeO.bind ?_ (fun _ => ?_))
   | exact ih0 _ _ _
   | exact LeO.none _
   | refine LeO.ite ?_ ?_
   | refine LeO.bind ?_ (fun _ => ?_)
theorem tangramref11_Alike.mono : ∀ a0 a1 k, LeO (tangramref11_Alike.f k a0 a1) (tangramref11_Alike.f (k + 1) a0 a1) := by
 intro a0 a1 k
 have ih0 := tangramref11_Alike.mono_l k
 unfold tangramref11_Alike.f
 repeat' first
   | (with_reducible exact ih0 _ _ _)
   | (with_reducible exact LeO.refl _)
   | (with_reducible exact LeO.none _)
   | (with_reducible refine LeO.ite ?_ ?_)
   | (with_reducible refine LeO.bind ?_ (fun _ => ?_))
   | exact ih0 _ _ _
   | exact LeO.none _
   | refine LeO.ite ?_ ?_
   | refine LeO.bind ?_ (fun _ => ?_)
set_option maxHeartbeats 8000000 in
set_option maxRecDepth 100000 in
theorem tangramref11_Alike.calls (k : Nat) (A0 : Option Addr) (c0 : Nat) (l0 : List Int) (A1 : Option Addr) (c1 : Nat) (l1 : List Int) (r : Bool) (w : World) (hr0 : Kd.C (Kd.int .i64) w A0 l0.length l0) (hc0 : l0.length ≤ c0) (hr1 : Kd.C (Kd.int .i64) w A1 l1.length l1) (hc1 : l1.length ≤ c1) (h : tangramref11_Alike.f k l0 l1 = some r) :
  Calls Try.prog 20 #[.slice A0 l0.length c0, .slice A1 l1.length c1] w fun e w' => e = .returned (.bool r) ∧ Drawn0 w w' := by
 have HR0 := Aside0.mk hr0
 have HC0 := Aside0.mk hc0
 clear hr0 hc0
 have HR1 := Aside0.mk hr1
 have HC1 := Aside0.mk hc1
 clear hr1 hc1
 have H : (if (l0.length : Int) = (l1.length : Int) then (tangramref11_Alike.l0 k l0 l1 0) else (some false)) = some r := h
 clear h
 by_cases c3 : (l0.length : Int) = (l1.length : Int)
 ·rw [if_pos c3] at H
  have c3b0 : ((l0.length : Int) == (l1.length : Int)) = true := beq_iff_eq.mpr c3
  have c3b1 : ((l0.length : Int) != (l1.length : Int)) = false := bne_eq_false_iff_eq.mpr c3
  have c3b2 : (l0.length == l1.length) = true := by first | simpa using c3 | (simp at c3 ⊢; omega)
  clear c3
  have H' := Aside0.mk H
  clear H
  go_enter Try.func20, Try.ntmps20
  go_wp2
  repeat (go_quiet (fail); try go_wp2)
  go_loopg [5] k (fun kq v5 w' => ∃ (x5_1 : Int), v5 = .int .i64 x5_1 ∧ Aside0 (tangramref11_Alike.l0 kq l0 l1 x5_1 = some r) ∧ Aside0 (kq ≤ k) ∧ Drawn0 w w')
  case atStart => exact ⟨(0), (by first | rfl | (simp; done) | (simp [*]; done)), H', ⟨Nat.le_refl _⟩, by repeat (first | exact Drawn0.refl _ | apply Drawn0.step)⟩
  case round =>
   clear H'
   try clear c1
   try clear c2
   try clear p2
   try clear c3
   try clear c3b0
   try clear c3b1
   try clear c3b2
   obtain ⟨x5_1, rfl, HA, HK1, ⟨m1, rfl⟩⟩ := hrel
   cases gk with
   | zero => exact absurd HA.out (by simp [tangramref11_Alike.l0])
   | succ k1 =>
    have H := HA.out
    clear HA
    simp only [tangramref11_Alike.l0] at H
    by_cases c4 : x5_1 < (l0.length : Int)
    ·rw [if_pos c4] at H
     have c4b0 : decide (x5_1 < (l0.length : Int)) = true := decide_eq_true c4
     clear c4
     by_cases c5 : 0 ≤ x5_1
     ·rw [if_pos c5] at H
      have c5b0 : decide (0 ≤ x5_1) = true := decide_eq_true c5
      clear c5
      by_cases c6 : x5_1 < (l1.length : Int)
      ·rw [if_pos c6] at H
       have c6b0 : decide (x5_1 < (l1.length : Int)) = true := decide_eq_true c6
       clear c6
       by_cases c7 : (rd l0 x5_1) = (rd l1 x5_1)
       ·rw [if_pos c7] at H
        have c7b0 : ((rd l0 x5_1) == (rd l1 x5_1)) = true := beq_iff_eq.mpr c7
        have c7b1 : ((rd l0 x5_1) != (rd l1 x5_1)) = false := bne_eq_false_iff_eq.mpr c7
        clear c7
        have H' := Aside0.mk H
        clear H
        have p122 : 0 ≤ (x5_1 : Int) := of_decide_eq_true (by first | (with_reducible assumption) | assumption)
        have q122 : x5_1 < (l0.length : Int) := of_decide_eq_true (by first | (with_reducible assumption) | assumption)
        obtain ⟨ad122, e122, hx122_0⟩ := Kd.at_int HR0.out x5_1 p122 q122
        cases e122
        replace p122 := eq_true p122
        replace q122 := eq_true q122
        have p123 : 0 ≤ (x5_1 : Int) := of_decide_eq_true (by first | (with_reducible assumption) | assumption)
        have q123 : x5_1 < (l1.length : Int) := of_decide_eq_true (by first | (with_reducible assumption) | assumption)
        obtain ⟨ad123, e123, hx123_0⟩ := Kd.at_int HR1.out x5_1 p123 q123
        cases e123
        replace p123 := eq_true p123
        replace q123 := eq_true q123
        go_wp2
        repeat (go_quiet (fail); try go_wp2)
        go_roundg k1
        case measure => have := HK1.out; omega
        case rel => exact ⟨(wrap64 (x5_1 + 1)), (by first | rfl | (simp; done) | (simp [*]; done)), H', ⟨by have := HK1.out; omega⟩, by repeat (first | exact Drawn0.refl _ | apply Drawn0.step)⟩
       ·rw [if_neg c7] at H
        have c7b0 : ((rd l0 x5_1) == (rd l1 x5_1)) = false := beq_eq_false_iff_ne.mpr c7
        have c7b1 : ((rd l0 x5_1) != (rd l1 x5_1)) = true := bne_iff_ne.mpr c7
        obtain rfl := Option.some.inj H
        have p122 : 0 ≤ (x5_1 : Int) := of_decide_eq_true (by first | (with_reducible assumption) | assumption)
        have q122 : x5_1 < (l0.length : Int) := of_decide_eq_true (by first | (with_reducible assumption) | assumption)
        obtain ⟨ad122, e122, hx122_0⟩ := Kd.at_int HR0.out x5_1 p122 q122
        cases e122
        replace p122 := eq_true p122
        replace q122 := eq_true q122
        have p123 : 0 ≤ (x5_1 : Int) := of_decide_eq_true (by first | (with_reducible assumption) | assumption)
        have q123 : x5_1 < (l1.length : Int) := of_decide_eq_true (by first | (with_reducible assumption) | assumption)
        obtain ⟨ad123, e123, hx123_0⟩ := Kd.at_int HR1.out x5_1 p123 q123
        cases e123
        replace p123 := eq_true p123
        replace q123 := eq_true q123
        go_wp2
        repeat (go_quiet (fail); try go_wp2)
        go_ret
        exact ⟨by first | rfl | (simp; done) | (simp [*]; done), by repeat (first | exact Drawn0.refl _ | apply Drawn0.step)⟩
      ·rw [if_neg c6] at H
       exact absurd H (by simp)
     ·rw [if_neg c5] at H
      exact absurd H (by simp)
    ·rw [if_neg c4] at H
     have c4b0 : decide (x5_1 < (l0.length : Int)) = false := decide_eq_false c4
     clear c4
     obtain rfl := Option.some.inj H
     go_wp2
     repeat (go_quiet (fail); try go_wp2)
     go_ret
     exact ⟨by first | rfl | (simp; done) | (simp [*]; done), by repeat (first | exact Drawn0.refl _ | apply Drawn0.step)⟩
 ·rw [if_neg c3] at H
  have c3b0 : ((l0.length : Int) == (l1.length : Int)) = false := beq_eq_false_iff_ne.mpr c3
  have c3b1 : ((l0.length : Int) != (l1.length : Int)) = true := bne_iff_ne.mpr c3
  have c3b2 : (l0.length == l1.length) = false := by first | simpa using c3 | (simp at c3 ⊢; omega)
  obtain rfl := Option.some.inj H
  go_enter Try.func20, Try.ntmps20
  go_wp2
  repeat (go_quiet (fail); try go_wp2)
  go_ret
  exact ⟨by first | rfl | (simp; done) | (simp [*]; done), by repeat (first | exact Drawn0.refl _ | apply Drawn0.step)⟩
end Go.Proofs.Ytkkhhbegeboonaa.GAll
namespace Go.Proofs.Ytkkhhbegeboonaa.GAll
open Go.RowKit Go.Proofs.YtkkhhbegeboonaaW.PrintWords Go.Proofs.YtkkhhbegeboonaaW.PrintLast Go.Proofs.YtkkhhbegeboonaaW.PrintMore
attribute [local go_sem] max2_int min2_int max_two min_two max_three min_three max_four min_four   -- for this text's walks alone
set_option linter.unusedVariables false
set_option linter.unusedSimpArgs false
def tangramref11_Equal.l0 : Nat → List (List Int) → List (List Int) → Int → Option (Bool)
 | 0, _, _, _ => none
 | k + 1, x0, x1, x5 => if x5 < (x0.length : Int) then (if 0 ≤ x5 then (if x5 < (x1.length : Int) then ((tangramref11_Alike.f k (rd_L5 x0 x5) (rd_L5 x1 x5)).bind fun t126 => (if t126 = true then (tangramref11_Equal.l0 k x0 x1 (wrap64 (x5 + 1))) else (some false))) else (none)) else (none)) else (some true)
def tangramref11_Equal.f (k : Nat) (l0 : List (List Int)) (l1 : List (List Int)) : Option (Bool) := if (l0.length : Int) = (l1.length : Int) then (tangramref11_Equal.l0 k l0 l1 0) else (some false)
theorem tangramref11_Equal.mono_l : ∀ k, (∀ y0 y1 y2, LeO (tangramref11_Equal.l0 k y0 y1 y2) (tangramref11_Equal.l0 (k + 1) y0 y1 y2))
 | 0 => fun _ _ _ r h => by simp [tangramref11_Equal.l0] at h
 | k + 1 => by
  have ih0 := tangramref11_Equal.mono_l k
  ·intro y0 y1 y2
   unfold tangramref11_Equal.l0
   repeat' first
   | (with_reducible exact ih0 _ _ _)
   | (with_reducible exact tangramref11_Alike.mono _ _ _)
   | (with_reducible exact LeO.refl _)
   | (with_reducible exact LeO.none _)
   | (with_reducible refine LeO.ite ?_ ?_)
   | (with_reducible refine LeO.bind ?_ (fun _ => ?_))
   | exact ih0 _ _ _
   | exact tangramref11_Alike.mono _ _ _
   | exact LeO.none _
   | refine LeO.ite ?_ ?_
   | refine LeO.bind ?_ (fun _ => ?_)
theorem tangramref11_Equal.mono : ∀ a0 a1 k, LeO (tangramref11_Equal.f k a0 a1) (tangramref11_Equal.f (k + 1) a0 a1) := by
 intro a0 a1 k
 have ih0 := tangramref11_Equal.mono_l k
 unfold tangramref11_Equal.f
 repeat' first
   | (with_reducible exact ih0 _ _ _)
   | (with_reducible exact tangramref11_Alike.mono _ _ _)
   | (with_reducible exact LeO.refl _)
   | (with_reducible exact LeO.none _)
   | (with_reducible refine LeO.ite ?_ ?_)
   | (with_reducible refine LeO.bind ?_ (fun _ => ?_))
   | exact ih0 _ _ _
   | exact tangramref11_Alike.mono _ _ _
   | exact LeO.none _
   | refine LeO.ite ?_ ?_
   | refine LeO.bind ?_ (fun _ => ?_)
set_option maxHeartbeats 8000000 in
set_option maxRecDepth 100000 in
theorem tangramref11_Equal.calls (k : Nat) (A0 : Option Addr) (c0 : Nat) (l0 : List (List Int)) (A1 : Option Addr) (c1 : Nat) (l1 : List (List Int)) (r : Bool) (w : World) (hr0 : Kd.C (Kd.slice 3 (Kd.int .i64)) w A0 l0.length l0) (hc0 : l0.length ≤ c0) (hr1 : Kd.C (Kd.slice 3 (Kd.int .i64)) w A1 l1.length l1) (hc1 : l1.length ≤ c1) (h : tangramref11_Equal.f k l0 l1 = some r) :
  Calls Try.prog 21 #[.slice A0 l0.length c0, .slice A1 l1.length c1] w fun e w' => e = .returned (.bool r) ∧ Drawn0 w w' := by
 have HR0 := Aside0.mk hr0
 have HC0 := Aside0.mk hc0
 clear hr0 hc0
 have HR1 := Aside0.mk hr1
 have HC1 := Aside0.mk hc1
 clear hr1 hc1
 have H : (if (l0.length : Int) = (l1.length : Int) then (tangramref11_Equal.l0 k l0 l1 0) else (some false)) = some r := h
 clear h
 by_cases c3 : (l0.length : Int) = (l1.length : Int)
 ·rw [if_pos c3] at H
  have c3b0 : ((l0.length : Int) == (l1.length : Int)) = true := beq_iff_eq.mpr c3
  have c3b1 : ((l0.length : Int) != (l1.length : Int)) = false := bne_eq_false_iff_eq.mpr c3
  have c3b2 : (l0.length == l1.length) = true := by first | simpa using c3 | (simp at c3 ⊢; omega)
  clear c3
  have H' := Aside0.mk H
  clear H
  go_enter Try.func21, Try.ntmps21
  go_wp2
  repeat (go_quiet (fail); try go_wp2)
  go_loopg [5] k (fun kq v5 w' => ∃ (x5_1 : Int), v5 = .int .i64 x5_1 ∧ Aside0 (tangramref11_Equal.l0 kq l0 l1 x5_1 = some r) ∧ Aside0 (kq ≤ k) ∧ Drawn0 w w')
  case atStart => exact ⟨(0), (by first | rfl | (simp; done) | (simp [*]; done)), H', ⟨Nat.le_refl _⟩, by repeat (first | exact Drawn0.refl _ | apply Drawn0.step)⟩
  case round =>
   clear H'
   try clear c1
   try clear c2
   try clear p2
   try clear c3
   try clear c3b0
   try clear c3b1
   try clear c3b2
   obtain ⟨x5_1, rfl, HA, HK1, ⟨m1, rfl⟩⟩ := hrel
   cases gk with
   | zero => exact absurd HA.out (by simp [tangramref11_Equal.l0])
   | succ k1 =>
    have H := HA.out
    clear HA
    simp only [tangramref11_Equal.l0] at H
    by_cases c4 : x5_1 < (l0.length : Int)
    ·rw [if_pos c4] at H
     have c4b0 : decide (x5_1 < (l0.length : Int)) = true := decide_eq_true c4
     clear c4
     by_cases c5 : 0 ≤ x5_1
     ·rw [if_pos c5] at H
      have c5b0 : decide (0 ≤ x5_1) = true := decide_eq_true c5
      clear c5
      by_cases c6 : x5_1 < (l1.length : Int)
      ·rw [if_pos c6] at H
       have c6b0 : decide (x5_1 < (l1.length : Int)) = true := decide_eq_true c6
       clear c6
       replace H := Option.bind_eq_some_iff.mp H
       obtain ⟨t126, A70, H⟩ := H
       replace H : (if t126 = true then (tangramref11_Equal.l0 k1 l0 l1 (wrap64 (x5_1 + 1))) else (some false)) = some r := H
       have A7 := Aside0.mk A70
       clear A70
       by_cases c8 : t126 = true
       ·subst c8
        have H1 : (tangramref11_Equal.l0 k1 l0 l1 (wrap64 (x5_1 + 1))) = some r := by rw [if_pos rfl] at H; exact H
        clear H
        have H := H1
        clear H1
        have H' := Aside0.mk H
        clear H
        have p124 : 0 ≤ (x5_1 : Int) := of_decide_eq_true (by first | (with_reducible assumption) | assumption)
        have q124 : x5_1 < (l0.length : Int) := of_decide_eq_true (by first | (with_reducible assumption) | assumption)
        obtain ⟨ad124, A124_0, c124_0, e124, hx124_0, hl124_0, hi124_0⟩ := at_L5 HR0.out x5_1 p124 q124
        cases e124
        have HR124_0 := Aside0.mk hi124_0
        have HC124_0 := Aside0.mk hl124_0
        clear hi124_0 hl124_0
        replace p124 := eq_true p124
        replace q124 := eq_true q124
        have p125 : 0 ≤ (x5_1 : Int) := of_decide_eq_true (by first | (with_reducible assumption) | assumption)
        have q125 : x5_1 < (l1.length : Int) := of_decide_eq_true (by first | (with_reducible assumption) | assumption)
        obtain ⟨ad125, A125_0, c125_0, e125, hx125_0, hl125_0, hi125_0⟩ := at_L5 HR1.out x5_1 p125 q125
        cases e125
        have HR125_0 := Aside0.mk hi125_0
        have HC125_0 := Aside0.mk hl125_0
        clear hi125_0 hl125_0
        replace p125 := eq_true p125
        replace q125 := eq_true q125
        go_wp2_with (first | (go_at_call 20; (with_reducible refine (tangramref11_Alike.calls k1 _ _ (rd_L5 l0 x5_1) _ _ (rd_L5 l1 x5_1) true _ ?side1 ?side2 ?side3 ?side4 A7.out).mono ?_); (case side1 => repeat (first | exact HR124_0.out | (with_reducible refine Kd.C_alloc ?_ _) | (with_reducible refine Kd.C_drewN ?_ _) | (with_reducible refine Kd.C_drew ?_))); (case side2 => exact HC124_0.out); (case side3 => repeat (first | exact HR125_0.out | (with_reducible refine Kd.C_alloc ?_ _) | (with_reducible refine Kd.C_drewN ?_ _) | (with_reducible refine Kd.C_drew ?_))); (case side4 => exact HC125_0.out); rintro e w' ⟨rfl, ⟨nd, rfl⟩⟩; (try first | exact ⟨rfl, _, World.drewN_drewN _ _ _⟩ | exact ⟨rfl, _, Eq.trans (World.drewN_drewN _ _ _) (congrArg (World.drewN _) (Nat.add_assoc _ _ _))⟩)))
        repeat (go_quiet (first | (go_at_call 20; (with_reducible refine (tangramref11_Alike.calls k1 _ _ (rd_L5 l0 x5_1) _ _ (rd_L5 l1 x5_1) true _ ?side1 ?side2 ?side3 ?side4 A7.out).mono ?_); (case side1 => repeat (first | exact HR124_0.out | (with_reducible refine Kd.C_alloc ?_ _) | (with_reducible refine Kd.C_drewN ?_ _) | (with_reducible refine Kd.C_drew ?_))); (case side2 => exact HC124_0.out); (case side3 => repeat (first | exact HR125_0.out | (with_reducible refine Kd.C_alloc ?_ _) | (with_reducible refine Kd.C_drewN ?_ _) | (with_reducible refine Kd.C_drew ?_))); (case side4 => exact HC125_0.out); rintro e w' ⟨rfl, ⟨nd, rfl⟩⟩; (try first | exact ⟨rfl, _, World.drewN_drewN _ _ _⟩ | exact ⟨rfl, _, Eq.trans (World.drewN_drewN _ _ _) (congrArg (World.drewN _) (Nat.add_assoc _ _ _))⟩))); try go_wp2_with (first | (go_at_call 20; (with_reducible refine (tangramref11_Alike.calls k1 _ _ (rd_L5 l0 x5_1) _ _ (rd_L5 l1 x5_1) true _ ?side1 ?side2 ?side3 ?side4 A7.out).mono ?_); (case side1 => repeat (first | exact HR124_0.out | (with_reducible refine Kd.C_alloc ?_ _) | (with_reducible refine Kd.C_drewN ?_ _) | (with_reducible refine Kd.C_drew ?_))); (case side2 => exact HC124_0.out); (case side3 => repeat (first | exact HR125_0.out | (with_reducible refine Kd.C_alloc ?_ _) | (with_reducible refine Kd.C_drewN ?_ _) | (with_reducible refine Kd.C_drew ?_))); (case side4 => exact HC125_0.out); rintro e w' ⟨rfl, ⟨nd, rfl⟩⟩; (try first | exact ⟨rfl, _, World.drewN_drewN _ _ _⟩ | exact ⟨rfl, _, Eq.trans (World.drewN_drewN _ _ _) (congrArg (World.drewN _) (Nat.add_assoc _ _ _))⟩))))
        go_roundg k1
        case measure => have := HK1.out; omega
        case rel => exact ⟨(wrap64 (x5_1 + 1)), (by first | rfl | (simp; done) | (simp [*]; done)), H', ⟨by have := HK1.out; omega⟩, by repeat (first | exact Drawn0.refl _ | apply Drawn0.step)⟩
       ·replace c8 := Bool.eq_false_iff.mpr c8
        subst c8
        have H1 : (some false) = some r := by rw [if_neg (show ¬ (false = true) by decide)] at H; exact H
        clear H
        have H := H1
        clear H1
        obtain rfl := Option.some.inj H
        have p124 : 0 ≤ (x5_1 : Int) := of_decide_eq_true (by first | (with_reducible assumption) | assumption)
        have q124 : x5_1 < (l0.length : Int) := of_decide_eq_true (by first | (with_reducible assumption) | assumption)
        obtain ⟨ad124, A124_0, c124_0, e124, hx124_0, hl124_0, hi124_0⟩ := at_L5 HR0.out x5_1 p124 q124
        cases e124
        have HR124_0 := Aside0.mk hi124_0
        have HC124_0 := Aside0.mk hl124_0
        clear hi124_0 hl124_0
        replace p124 := eq_true p124
        replace q124 := eq_true q124
        have p125 : 0 ≤ (x5_1 : Int) := of_decide_eq_true (by first | (with_reducible assumption) | assumption)
        have q125 : x5_1 < (l1.length : Int) := of_decide_eq_true (by first | (with_reducible assumption) | assumption)
        obtain ⟨ad125, A125_0, c125_0, e125, hx125_0, hl125_0, hi125_0⟩ := at_L5 HR1.out x5_1 p125 q125
        cases e125
        have HR125_0 := Aside0.mk hi125_0
        have HC125_0 := Aside0.mk hl125_0
        clear hi125_0 hl125_0
        replace p125 := eq_true p125
        replace q125 := eq_true q125
        go_wp2_with (first | (go_at_call 20; (with_reducible refine (tangramref11_Alike.calls k1 _ _ (rd_L5 l0 x5_1) _ _ (rd_L5 l1 x5_1) false _ ?side1 ?side2 ?side3 ?side4 A7.out).mono ?_); (case side1 => repeat (first | exact HR124_0.out | (with_reducible refine Kd.C_alloc ?_ _) | (with_reducible refine Kd.C_drewN ?_ _) | (with_reducible refine Kd.C_drew ?_))); (case side2 => exact HC124_0.out); (case side3 => repeat (first | exact HR125_0.out | (with_reducible refine Kd.C_alloc ?_ _) | (with_reducible refine Kd.C_drewN ?_ _) | (with_reducible refine Kd.C_drew ?_))); (case side4 => exact HC125_0.out); rintro e w' ⟨rfl, ⟨nd, rfl⟩⟩; (try first | exact ⟨rfl, _, World.drewN_drewN _ _ _⟩ | exact ⟨rfl, _, Eq.trans (World.drewN_drewN _ _ _) (congrArg (World.drewN _) (Nat.add_assoc _ _ _))⟩)))
        repeat (go_quiet (first | (go_at_call 20; (with_reducible refine (tangramref11_Alike.calls k1 _ _ (rd_L5 l0 x5_1) _ _ (rd_L5 l1 x5_1) false _ ?side1 ?side2 ?side3 ?side4 A7.out).mono ?_); (case side1 => repeat (first | exact HR124_0.out | (with_reducible refine Kd.C_alloc ?_ _) | (with_reducible refine Kd.C_drewN ?_ _) | (with_reducible refine Kd.C_drew ?_))); (case side2 => exact HC124_0.out); (case side3 => repeat (first | exact HR125_0.out | (with_reducible refine Kd.C_alloc ?_ _) | (with_reducible refine Kd.C_drewN ?_ _) | (with_reducible refine Kd.C_drew ?_))); (case side4 => exact HC125_0.out); rintro e w' ⟨rfl, ⟨nd, rfl⟩⟩; (try first | exact ⟨rfl, _, World.drewN_drewN _ _ _⟩ | exact ⟨rfl, _, Eq.trans (World.drewN_drewN _ _ _) (congrArg (World.drewN _) (Nat.add_assoc _ _ _))⟩))); try go_wp2_with (first | (go_at_call 20; (with_reducible refine (tangramref11_Alike.calls k1 _ _ (rd_L5 l0 x5_1) _ _ (rd_L5 l1 x5_1) false _ ?side1 ?side2 ?side3 ?side4 A7.out).mono ?_); (case side1 => repeat (first | exact HR124_0.out | (with_reducible refine Kd.C_alloc ?_ _) | (with_reducible refine Kd.C_drewN ?_ _) | (with_reducible refine Kd.C_drew ?_))); (case side2 => exact HC124_0.out); (case side3 => repeat (first | exact HR125_0.out | (with_reducible refine Kd.C_alloc ?_ _) | (with_reducible refine Kd.C_drewN ?_ _) | (with_reducible refine Kd.C_drew ?_))); (case side4 => exact HC125_0.out); rintro e w' ⟨rfl, ⟨nd, rfl⟩⟩; (try first | exact ⟨rfl, _, World.drewN_drewN _ _ _⟩ | exact ⟨rfl, _, Eq.trans (World.drewN_drewN _ _ _) (congrArg (World.drewN _) (Nat.add_assoc _ _ _))⟩))))
        go_ret
        exact ⟨by first | rfl | (simp; done) | (simp [*]; done), by repeat (first | exact Drawn0.refl _ | apply Drawn0.step)⟩
      ·rw [if_neg c6] at H
       exact absurd H (by simp)
     ·rw [if_neg c5] at H
      exact absurd H (by simp)
    ·rw [if_neg c4] at H
     have c4b0 : decide (x5_1 < (l0.length : Int)) = false := decide_eq_false c4
     clear c4
     obtain rfl := Option.some.inj H
     go_wp2
     repeat (go_quiet (fail); try go_wp2)
     go_ret
     exact ⟨by first | rfl | (simp; done) | (simp [*]; done), by repeat (first | exact Drawn0.refl _ | apply Drawn0.step)⟩
 ·rw [if_neg c3] at H
  have c3b0 : ((l0.length : Int) == (l1.length : Int)) = false := beq_eq_false_iff_ne.mpr c3
  have c3b1 : ((l0.length : Int) != (l1.length : Int)) = true := bne_iff_ne.mpr c3
  have c3b2 : (l0.length == l1.length) = false := by first | simpa using c3 | (simp at c3 ⊢; omega)
  obtain rfl := Option.some.inj H
  go_enter Try.func21, Try.ntmps21
  go_wp2
  repeat (go_quiet (fail); try go_wp2)
  go_ret
  exact ⟨by first | rfl | (simp; done) | (simp [*]; done), by repeat (first | exact Drawn0.refl _ | apply Drawn0.step)⟩
end Go.Proofs.Ytkkhhbegeboonaa.GAll
namespace Go.Proofs.Ytkkhhbegeboonaa.GAll
open Go.RowKit Go.Proofs.YtkkhhbegeboonaaW.PrintWords Go.Proofs.YtkkhhbegeboonaaW.PrintLast Go.Proofs.YtkkhhbegeboonaaW.PrintMore
attribute [local go_sem] max2_int min2_int max_two min_two max_three min_three max_four min_four   -- for this text's walks alone
set_option linter.unusedVariables false
set_option linter.unusedSimpArgs false
def rot_least.l0 : Nat → List Int → Int → List Int → Int → Int → Option (Int)
 | 0, _, _, _, _, _ => none
 | k + 1, x0, x3, x6, x7, x8 => if x8 < x7 then (if 0 ≤ x8 then (if x8 < (x6.length : Int) then (if 0 ≤ x3 then (if x3 < (x0.length : Int) then (if (rd x6 x8) < (rd x0 x3) then (rot_least.l0 k x0 x8 x6 x7 (wrap64 (x8 + 1))) else (rot_least.l0 k x0 x3 x6 x7 (wrap64 (x8 + 1)))) else (none)) else (none)) else (none)) else (none)) else (some x3)
def rot_least.f (k : Nat) (l0 : List Int) : Option (Int) := rot_least.l0 k l0 0 l0 (l0.length : Int) 0
theorem rot_least.mono_l : ∀ k, (∀ y0 y1 y2 y3 y4, LeO (rot_least.l0 k y0 y1 y2 y3 y4) (rot_least.l0 (k + 1) y0 y1 y2 y3 y4))
 | 0 => fun _ _ _ _ _ r h => by simp [rot_least.l0] at h
 | k + 1 => by
  have ih0 := rot_least.mono_l k
  ·intro y0 y1 y2 y3 y4
   unfold rot_least.l0
   repeat' first
   | (with_reducible exact ih0 _ _ _ _ _)
   | (with_reducible exact LeO.refl _)
   | (with_reducible exact LeO.none _)
   | (with_reducible refine LeO.ite ?_ ?_)
   | (with_reducible refine LeO.bind ?_ (fun _ => ?_))
   | exact ih0 _ _ _ _ _
   | exact LeO.none _
   | refine LeO.ite ?_ ?_
   | refine LeO.bind ?_ (fun _ => ?_)
theorem rot_least.mono : ∀ a0 k, LeO (rot_least.f k a0) (rot_least.f (k + 1) a0) := by
 intro a0 k
 have ih0 := rot_least.mono_l k
 unfold rot_least.f
 repeat' first
   | (with_reducible exact ih0 _ _ _ _ _)
   | (with_reducible exact LeO.refl _)
   | (with_reducible exact LeO.none _)
   | (with_reducible refine LeO.ite ?_ ?_)
   | (with_reducible refine LeO.bind ?_ (fun _ => ?_))
   | exact ih0 _ _ _ _ _
   | exact LeO.none _
   | refine LeO.ite ?_ ?_
   | refine LeO.bind ?_ (fun _ => ?_)
set_option maxHeartbeats 8000000 in
set_option maxRecDepth 100000 in
theorem rot_least.calls (k : Nat) (A0 : Option Addr) (c0 : Nat) (l0 : List Int) (r : Int) (w : World) (hr0 : Kd.C (Kd.int .i64) w A0 l0.length l0) (hc0 : l0.length ≤ c0) (h : rot_least.f k l0 = some r) :
  Calls Try.prog 48 #[.slice A0 l0.length c0] w fun e w' => e = .returned (.int .i64 r) ∧ Drawn0 w w' := by
 have HR0 := Aside0.mk hr0
 have HC0 := Aside0.mk hc0
 clear hr0 hc0
 have H : (rot_least.l0 k l0 0 l0 (l0.length : Int) 0) = some r := h
 clear h
 have H' := Aside0.mk H
 clear H
 go_enter Try.func48, Try.ntmps48
 go_wp2
 go_loopg [3, 8] k (fun kq v3 v8 w' => ∃ (x3_1 : Int) (x8_1 : Int), v3 = .int .i64 x3_1 ∧ v8 = .int .i64 x8_1 ∧ Aside0 (rot_least.l0 kq l0 x3_1 l0 (l0.length : Int) x8_1 = some r) ∧ Aside0 (kq ≤ k) ∧ Drawn0 w w')
 case atStart => exact ⟨(0), (0), (by first | rfl | (simp; done) | (simp [*]; done)), (by first | rfl | (simp; done) | (simp [*]; done)), H', ⟨Nat.le_refl _⟩, by repeat (first | exact Drawn0.refl _ | apply Drawn0.step)⟩
 case round =>
  clear H'
  obtain ⟨x3_1, x8_1, rfl, rfl, HA, HK1, ⟨m1, rfl⟩⟩ := hrel
  cases gk with
  | zero => exact absurd HA.out (by simp [rot_least.l0])
  | succ k1 =>
   have H := HA.out
   clear HA
   simp only [rot_least.l0] at H
   by_cases c2 : x8_1 < (l0.length : Int)
   ·rw [if_pos c2] at H
    have c2b0 : decide (x8_1 < (l0.length : Int)) = true := decide_eq_true c2
    clear c2
    by_cases c3 : 0 ≤ x8_1
    ·rw [if_pos c3] at H
     have c3b0 : decide (0 ≤ x8_1) = true := decide_eq_true c3
     clear c3
     by_cases c4 : x8_1 < (l0.length : Int)
     ·rw [if_pos c4] at H
      have c4b0 : decide (x8_1 < (l0.length : Int)) = true := decide_eq_true c4
      clear c4
      by_cases c5 : 0 ≤ x3_1
      ·rw [if_pos c5] at H
       have c5b0 : decide (0 ≤ x3_1) = true := decide_eq_true c5
       clear c5
       by_cases c6 : x3_1 < (l0.length : Int)
       ·rw [if_pos c6] at H
        have c6b0 : decide (x3_1 < (l0.length : Int)) = true := decide_eq_true c6
        clear c6
        by_cases c7 : (rd l0 x8_1) < (rd l0 x3_1)
        ·rw [if_pos c7] at H
         have c7b0 : decide ((rd l0 x8_1) < (rd l0 x3_1)) = true := decide_eq_true c7
         clear c7
         have H' := Aside0.mk H
         clear H
         have p127 : 0 ≤ (x8_1 : Int) := of_decide_eq_true (by first | (with_reducible assumption) | assumption)
         have q127 : x8_1 < (l0.length : Int) := of_decide_eq_true (by first | (with_reducible assumption) | assumption)
         obtain ⟨ad127, e127, hx127_0⟩ := Kd.at_int HR0.out x8_1 p127 q127
         cases e127
         replace p127 := eq_true p127
         replace q127 := eq_true q127
         have p128 : 0 ≤ (x3_1 : Int) := of_decide_eq_true (by first | (with_reducible assumption) | assumption)
         have q128 : x3_1 < (l0.length : Int) := of_decide_eq_true (by first | (with_reducible assumption) | assumption)
         obtain ⟨ad128, e128, hx128_0⟩ := Kd.at_int HR0.out x3_1 p128 q128
         obtain rfl : ad127 = ad128 := (by injection e128)
         replace p128 := eq_true p128
         replace q128 := eq_true q128
         go_wp2
         go_roundg k1
         case measure => have := HK1.out; omega
         case rel => exact ⟨(x8_1), (wrap64 (x8_1 + 1)), (by first | rfl | (simp; done) | (simp [*]; done)), (by first | rfl | (simp; done) | (simp [*]; done)), H', ⟨by have := HK1.out; omega⟩, by repeat (first | exact Drawn0.refl _ | apply Drawn0.step)⟩
        ·rw [if_neg c7] at H
         have c7b0 : decide ((rd l0 x8_1) < (rd l0 x3_1)) = false := decide_eq_false c7
         clear c7
         have H' := Aside0.mk H
         clear H
         have p127 : 0 ≤ (x8_1 : Int) := of_decide_eq_true (by first | (with_reducible assumption) | assumption)
         have q127 : x8_1 < (l0.length : Int) := of_decide_eq_true (by first | (with_reducible assumption) | assumption)
         obtain ⟨ad127, e127, hx127_0⟩ := Kd.at_int HR0.out x8_1 p127 q127
         cases e127
         replace p127 := eq_true p127
         replace q127 := eq_true q127
         have p128 : 0 ≤ (x3_1 : Int) := of_decide_eq_true (by first | (with_reducible assumption) | assumption)
         have q128 : x3_1 < (l0.length : Int) := of_decide_eq_true (by first | (with_reducible assumption) | assumption)
         obtain ⟨ad128, e128, hx128_0⟩ := Kd.at_int HR0.out x3_1 p128 q128
         obtain rfl : ad127 = ad128 := (by injection e128)
         replace p128 := eq_true p128
         replace q128 := eq_true q128
         go_wp2
         go_roundg k1
         case measure => have := HK1.out; omega
         case rel => exact ⟨(x3_1), (wrap64 (x8_1 + 1)), (by first | rfl | (simp; done) | (simp [*]; done)), (by first | rfl | (simp; done) | (simp [*]; done)), H', ⟨by have := HK1.out; omega⟩, by repeat (first | exact Drawn0.refl _ | apply Drawn0.step)⟩
       ·rw [if_neg c6] at H
        exact absurd H (by simp)
      ·rw [if_neg c5] at H
       exact absurd H (by simp)
     ·rw [if_neg c4] at H
      exact absurd H (by simp)
    ·rw [if_neg c3] at H
     exact absurd H (by simp)
   ·rw [if_neg c2] at H
    have c2b0 : decide (x8_1 < (l0.length : Int)) = false := decide_eq_false c2
    clear c2
    obtain rfl := Option.some.inj H
    go_wp2
    go_ret
    exact ⟨by first | rfl | (simp; done) | (simp [*]; done), by repeat (first | exact Drawn0.refl _ | apply Drawn0.step)⟩
end Go.Proofs.Ytkkhhbegeboonaa.GAll
namespace Go.Proofs.Ytkkhhbegeboonaa.GAll
open Go.RowKit Go.Proofs.YtkkhhbegeboonaaW.PrintWords Go.Proofs.YtkkhhbegeboonaaW.PrintLast Go.Proofs.YtkkhhbegeboonaaW.PrintMore
attribute [local go_sem] max2_int min2_int max_two min_two max_three min_three max_four min_four   -- for this text's walks alone
set_option linter.unusedVariables false
set_option linter.unusedSimpArgs false
def rot_Canon.fit (k : Nat) (l0 : List (List Int)) : Bool := decide (l0.length * 24 ≤ 140737488355328) && l0.all fun l => (rot_least.f k l == some ((Rot.leastAt l : Nat) : Int)) && decide (l.length * 8 ≤ 140737488355328)
def rot_Canon.f (k : Nat) (l0 : List (List Int)) : Option (List (List Int)) := if rot_Canon.fit k l0 = true then some (l0.map Rot.turnl) else none
theorem rot_Canon.fit_mono {k : Nat} {l0 : List (List Int)} (h : rot_Canon.fit k l0 = true) : rot_Canon.fit (k + 1) l0 = true := by
 unfold rot_Canon.fit at h ⊢
 rw [Bool.and_eq_true, List.all_eq_true] at h ⊢
 refine ⟨h.1, fun l hl => ?_⟩
 have := h.2 l hl
 rw [Bool.and_eq_true, beq_iff_eq] at this ⊢
 exact ⟨rot_least.mono l k _ this.1, this.2⟩
theorem rot_Canon.mono : ∀ a0 k, LeO (rot_Canon.f k a0) (rot_Canon.f (k + 1) a0) := by
 intro a0 k r h
 unfold rot_Canon.f at h ⊢
 by_cases hf : rot_Canon.fit k a0 = true
 ·rw [if_pos hf] at h
  rw [if_pos (rot_Canon.fit_mono hf)]
  exact h
 ·rw [if_neg hf] at h; cases h
theorem rot_Canon.says {k : Nat} {l0 : List (List Int)} (h : rot_Canon.fit k l0 = true) : Rot.LeastSays l0 := by
 intro j A c W hj hC hc
 unfold rot_Canon.fit at h
 rw [Bool.and_eq_true, List.all_eq_true] at h
 have hm : Mem.gl l0 j ∈ l0 := by
  unfold Mem.gl
  rw [List.getD_eq_getElem?_getD, List.getElem?_eq_getElem hj]
  exact List.getElem_mem hj
 have := h.2 _ hm
 rw [Bool.and_eq_true, beq_iff_eq] at this
 exact (rot_least.calls k A c _ _ W hC hc this.1).mono fun e w' ⟨h1, h2⟩ => ⟨h1, h2.below⟩
theorem rot_Canon.bound {k : Nat} {l0 : List (List Int)} (h : rot_Canon.fit k l0 = true) : l0.length * 24 ≤ 140737488355328 ∧ ∀ j, j < l0.length → (Mem.gl l0 j).length * 8 ≤ 140737488355328 := by
 unfold rot_Canon.fit at h
 rw [Bool.and_eq_true, List.all_eq_true, decide_eq_true_eq] at h
 refine ⟨h.1, fun j hj => ?_⟩
 have hm : Mem.gl l0 j ∈ l0 := by
  unfold Mem.gl
  rw [List.getD_eq_getElem?_getD, List.getElem?_eq_getElem hj]
  exact List.getElem_mem hj
 have := h.2 _ hm
 rw [Bool.and_eq_true, decide_eq_true_eq] at this
 exact this.2
theorem rot_Canon.calls (k : Nat) (A0 : Option Addr) (c0 : Nat) (l0 : List (List Int)) (r : List (List Int)) (w : World) (hr0 : Kd.C (Kd.slice 3 (Kd.int .i64)) w A0 l0.length l0) (hc0 : l0.length ≤ c0) (h : rot_Canon.f k l0 = some r) :
  Calls Try.prog 25 #[.slice A0 l0.length c0] w fun e w' => ∃ v0_ : Value, e = .returned (v0_) ∧ Kd.S (Kd.slice 3 (Kd.int .i64)) 28 w' w.heap.size (fun _ => True) v0_ r ∧ Below w.heap.size w w' := by
 unfold rot_Canon.f at h
 by_cases hf : rot_Canon.fit k l0 = true
 ·rw [if_pos hf] at h
  obtain rfl : l0.map Rot.turnl = r := by simpa using h
  obtain ⟨h1, h2⟩ := rot_Canon.bound hf
  exact Rot.canon_calls A0 c0 l0 w hr0 h1 h2 (rot_Canon.says hf)
 ·rw [if_neg hf] at h; cases h
end Go.Proofs.Ytkkhhbegeboonaa.GAll
namespace Go.Proofs.Ytkkhhbegeboonaa.GAll
open Go.RowKit Go.Proofs.YtkkhhbegeboonaaW.PrintWords Go.Proofs.YtkkhhbegeboonaaW.PrintLast Go.Proofs.YtkkhhbegeboonaaW.PrintMore
attribute [local go_sem] max2_int min2_int max_two min_two max_three min_three max_four min_four   -- for this text's walks alone
set_option linter.unusedVariables false
set_option linter.unusedSimpArgs false
def tangramlaw11_tail.f  : Option (Int × (List (S59))) := some (4, (([(⟨0, 1⟩ : S59), (⟨0, 2⟩ : S59), (⟨1, 2⟩ : S59), (⟨2, 3⟩ : S59)] : List (S59))))
set_option maxHeartbeats 8000000 in
set_option maxRecDepth 100000 in
theorem tangramlaw11_tail.calls  (r1 : Int) (r2 : List (S59)) (w : World) (h : tangramlaw11_tail.f  = some (r1, r2)) :
  Calls Try.prog 32 #[] w fun e w' => ∃ v1_ : Value, e = .returned (.agg #[.int .i64 r1, v1_]) ∧ Kd.R k59 59 w' w.heap.size (fun _ => True) v1_ r2 ∧ Below w.heap.size w w' := by
 have hu24 := Try.underlying24
 have hu59 := Try.underlying59
 have HB := Aside0.mk (Below.refl w.heap.size w)
 have H : (some (4, (([(⟨0, 1⟩ : S59), (⟨0, 2⟩ : S59), (⟨1, 2⟩ : S59), (⟨2, 3⟩ : S59)] : List (S59))))) = some (r1, r2) := h
 clear h
 obtain ⟨y130, hy130⟩ : ∃ y_ : List (S59), y_ = (([(⟨0, 1⟩ : S59), (⟨0, 2⟩ : S59), (⟨1, 2⟩ : S59), (⟨2, 3⟩ : S59)] : List (S59))) := ⟨_, rfl⟩
 replace H : (some (4, y130)) = some (r1, r2) := by first | (rw [hy130]; with_reducible exact H) | (have H2_ := (Option.bind_some _ _).symm.trans H; rw [hy130]; with_reducible exact H2_) | (have H2_ := (Option.bind_some _ _).symm.trans H; with_reducible exact H2_) | with_reducible exact H | (rw [hy130]; exact H) | exact H
 have Ny130 := Aside0.mk hy130
 clear hy130
 simp only [Option.some.injEq, Prod.mk.injEq] at H
 obtain ⟨rfl, rfl⟩ := H
 go_enter Try.func32, Try.ntmps32
 go_wp2_with (first | ((with_reducible refine gate_dst (N := 0) rfl ?_); refine box_event ?hg (N := 0) ?hd (cs := #[.int .i64 0, .slice none 0 0]) (t := 24) ?hr ?_; (case hd => rfl); (case hg => rfl); (case hr => first | (go_simp; done) | (go_simp; rfl)); intro gb129 hg w1 hbox hb; have n0_ := Aside0.mk (below_step (by repeat (first | (with_reducible first | exact HB.out | apply below_alloc | apply pw_below_drewN | apply below_drew1) | exact HB.out)) hb); have n1_ := Aside0.mk (hbox); have n2_ := Aside0.mk ((by rw [hg]; exact (below_size (by repeat (first | (with_reducible first | exact HB.out | apply below_alloc | apply pw_below_drewN | apply below_drew1) | exact HB.out))) : w.heap.size ≤ gb129)); have n3_ := Aside0.mk ((by rw [hg]; exact (below_size (by repeat (first | (with_reducible first | exact HB.out | apply below_alloc | apply pw_below_drewN | apply below_drew1) | exact HB.out))) : w.heap.size ≤ gb129)); clear HB; have HB := n0_; have BK129 := n1_; have GW129 := n2_; have GE129 := n3_; clear n0_ n1_ n2_ n3_; clear hb hbox hg) | ((with_reducible refine gate_dst (N := 5) rfl ?_); refine Kd.R_lit k59 _ 59 ?hg (N := 5) ?hd (xs := ([(⟨0, 1⟩ : S59), (⟨0, 2⟩ : S59), (⟨1, 2⟩ : S59), (⟨2, 3⟩ : S59)] : List (S59))) (inner := [.int .i64 0, .int .i64 1, .int .i64 0, .int .i64 2, .int .i64 1, .int .i64 2, .int .i64 2, .int .i64 3]) (ok := fun _ => True) (okp := fun _ => True) ?hr ?hp (fun _ hk => hk) trivial (Below.refl _ _) (Nat.le_refl _) (by simp) ?_; (case hd => rfl); (case hg => rfl); (case hr => first | (go_simp; done) | (go_simp; rfl)); (case hp => exact (Reps.c2 (show Kd.M k59 _ _ _ (⟨0, 1⟩ : S59) [.int .i64 0, .int .i64 1] from (k59_mkM _ _ _ (⟨0, 1⟩ : S59) )) (Reps.c2 (show Kd.M k59 _ _ _ (⟨0, 2⟩ : S59) [.int .i64 0, .int .i64 2] from (k59_mkM _ _ _ (⟨0, 2⟩ : S59) )) (Reps.c2 (show Kd.M k59 _ _ _ (⟨1, 2⟩ : S59) [.int .i64 1, .int .i64 2] from (k59_mkM _ _ _ (⟨1, 2⟩ : S59) )) (Reps.c2 (show Kd.M k59 _ _ _ (⟨2, 3⟩ : S59) [.int .i64 2, .int .i64 3] from (k59_mkM _ _ _ (⟨2, 3⟩ : S59) )) (Reps.none _ _)))))); intro v131 w2 ho3 hb hg_ hnew_; clear hg_ hnew_; (first | rw [← Ny130.out] at ho3 | (simp only [Int.reduceToNat] at ho3; rw [← Ny130.out] at ho3)); have n0_ := Aside0.mk (Kd.R_lower ho3 (below_size (by repeat (first | (with_reducible first | exact HB.out | apply below_alloc | apply pw_below_drewN | apply below_drew1 | refine below_set ?_ GE129.out) | exact HB.out)))); have n1_ := Aside0.mk (blk_below (g := gb129) (o := .cells #[.int .i64 0, .slice none 0 0] 24 (0, 0)) (by (with_reducible repeat (first | refine blk_drewN ?_ _ | refine blk_drew ?_ | refine blk_alloc ?_ _)); exact BK129.out) hb); have n2_ := Aside0.mk (below_step (by repeat (first | (with_reducible first | exact HB.out | apply below_alloc | apply pw_below_drewN | apply below_drew1 | refine below_set ?_ GE129.out) | exact HB.out)) hb); clear BK129; clear HB; have HO132 := n0_; have BK129 := n1_; have HB := n2_; clear n0_ n1_ n2_; clear hb ho3; obtain ⟨Ao4, co4, eo4⟩ := Kd.R_slice HO132.out; subst eo4; have hcz5_0 : w2.cell? ⟨gb129, 0, none⟩ = some (.int .i64 0) := (blk_cell BK129.out 0).trans rfl; have hcz5_1 : w2.cell? ⟨gb129, 1, none⟩ = some (.slice none 0 0) := (blk_cell BK129.out 1).trans rfl; have hfz5_0 := blk_frozen BK129.out 0; have hfz5_1 := blk_frozen BK129.out 1))
 refine bodyPost_ret (results_cell_row rfl _ _ gb129 24 #[.int .i64 4, .slice Ao4 y130.length co4] (0, 0) _ rfl (by (with_reducible repeat (first | refine blk_drewN ?_ _ | refine blk_drew ?_ | refine blk_alloc ?_ _)); refine blk_put (cs := #[.int .i64 4, .slice none 0 0]) ?_ 1 _ rfl; (with_reducible repeat (first | refine blk_drewN ?_ _ | refine blk_drew ?_ | refine blk_alloc ?_ _)); refine blk_put (cs := #[.int .i64 0, .slice none 0 0]) ?_ 0 _ rfl; (with_reducible repeat (first | refine blk_drewN ?_ _ | refine blk_drew ?_ | refine blk_alloc ?_ _)); exact BK129.out) Try.underlying24 rfl (by kernel_rfl)) rfl ?_
 exact ⟨_, by first | rfl | (simp [errW_none, errW_some] <;> rfl) | (simp [*, errW_none, errW_some] <;> rfl), by (with_reducible repeat (first | apply Kd.R_alloc | apply Kd.R_drewN | apply Kd.R_drew)); exact Kd.R_mono (Kd.R_far (p := ⟨gb129, 1, none⟩) (Kd.R_far (p := ⟨gb129, 0, none⟩) (Kd.R_types HO132.out BK129.out (by decide)) (fun _ hk => hk.2) (.int .i64 4)) (fun _ hk => hk.2) (.slice Ao4 y130.length co4)) (fun _ hk => trivial), by repeat (first | (with_reducible first | exact HB.out | apply below_alloc | apply pw_below_drewN | apply below_drew1 | refine below_set ?_ GE129.out) | exact HB.out)⟩
end Go.Proofs.Ytkkhhbegeboonaa.GAll
namespace Go.Proofs.Ytkkhhbegeboonaa.GAll
open Go.RowKit Go.Proofs.YtkkhhbegeboonaaW.PrintWords Go.Proofs.YtkkhhbegeboonaaW.PrintLast Go.Proofs.YtkkhhbegeboonaaW.PrintMore
attribute [local go_sem] max2_int min2_int max_two min_two max_three min_three max_four min_four   -- for this text's walks alone
set_option linter.unusedVariables false
set_option linter.unusedSimpArgs false
theorem tangramlaw11_fixed.tail : ∀ W : World, Calls Try.prog 32 #[] W fun e w' => ∃ v, e = .returned (.agg #[.int .i64 4, v]) ∧ Kd.R k59 59 w' W.heap.size (fun _ => True) v [(⟨0, 1⟩ : S59), ⟨0, 2⟩, ⟨1, 2⟩, ⟨2, 3⟩] ∧ Below W.heap.size W w' := fun W => tangramlaw11_tail.calls 4 _ W rfl
def tangramlaw11_fixed.r : List (List Int) := [[2, 0], [1, 4], [5, 6, 3], [7]]
def tangramlaw11_fixed.q : List (List Int) := [[0, 2], [1, 4], [3, 5], [7]]
def tangramlaw11_fixed.es : List S59 := [⟨0, 1⟩, ⟨0, 2⟩, ⟨1, 2⟩, ⟨2, 3⟩]
set_option maxRecDepth 100000 in
theorem tangramlaw11_fixed.c1 : rot_Check.f 20 4 tangramlaw11_fixed.es tangramlaw11_fixed.r = some (0, 0) := by kernel_rfl
theorem tangramlaw11_fixed.c2 : rot_Check.f 20 4 tangramlaw11_fixed.es tangramlaw11_fixed.q = some (2, 113) := by kernel_rfl
theorem tangramlaw11_fixed.c3 : rot_Next.f 20 4 tangramlaw11_fixed.es tangramlaw11_fixed.r = some ([2, 4, 0, 5, 1, 6, 3, 7], 0) := by kernel_rfl
theorem tangramlaw11_fixed.c4 : tangramref11_Alike.f 20 [2, 4, 0, 5, 1, 6, 3, 7] [2, 4, 0, 5, 1, 6, 3, 7] = some true := by kernel_rfl
theorem tangramlaw11_fixed.c5 : rot_Canon.f 20 tangramlaw11_fixed.r = some [[0, 2], [1, 4], [3, 5, 6], [7]] := by kernel_rfl
theorem tangramlaw11_fixed.c6 : tangramref11_Equal.f 20 [[0, 2], [1, 4], [3, 5, 6], [7]] [[0, 2], [1, 4], [3, 5, 6], [7]] = some true := by kernel_rfl
def tangramlaw11_fixed.f : Option Bool := some true
set_option maxHeartbeats 2000000 in
set_option maxRecDepth 100000 in
theorem tangramlaw11_fixed.calls (r : Bool) (w : World) (h : tangramlaw11_fixed.f = some r) :
  Calls Try.prog 11 #[] w fun e w' => e = .returned (.bool r) ∧ Below w.heap.size w w' := by
 obtain rfl : true = r := by simpa [tangramlaw11_fixed.f] using h
 clear h
 have HR0 : Aside0 (Kd.C Mem.KR ((Mem.lits w tangramlaw11_fixed.r).alloc (.cells (Mem.outer w.heap.size tangramlaw11_fixed.r).toArray 28 (0, 0))) (some ⟨w.heap.size + 1 + 1 + 1 + 1, 0, none⟩) tangramlaw11_fixed.r.length tangramlaw11_fixed.r) := ⟨Mem.lits_reads w tangramlaw11_fixed.r (by decide) (by decide)⟩
 have HB0 := Aside0.mk (Mem.lits_all w tangramlaw11_fixed.r)
 go_enter Try.func11, Try.ntmps11
 go_wp2_with fail
 show Calls _ _ _ ((Mem.lits w tangramlaw11_fixed.r).alloc (.cells (Mem.outer w.heap.size tangramlaw11_fixed.r).toArray 28 (0, 0))) _
 generalize (Mem.lits w tangramlaw11_fixed.r).alloc (.cells (Mem.outer w.heap.size tangramlaw11_fixed.r).toArray 28 (0, 0)) = w1 at HR0 HB0 ⊢
 obtain ⟨b0, hb0⟩ : ∃ b0, b0 = w.heap.size + 1 + 1 + 1 + 1 := ⟨_, rfl⟩
 rw [← hb0] at HR0 ⊢
 clear hb0
 refine (tangramlaw11_fixed.tail w1).mono ?_
 rintro e w2 ⟨v, rfl, hR, hb⟩
 have HB2 := Aside0.mk (HB0.out.trans (hb.mono HB0.out.size))
 have HR2 := Aside0.mk (Kd.C_below HR0.out hb)
 obtain ⟨A2, c2, rfl, hc2, hC2⟩ := Kd.R_reads hR
 have HC2 := Aside0.mk hC2
 have HL2 := Aside0.mk hc2
 clear hb hR hC2 hc2 HB0 HR0
 go_wp2_with fail
 refine (rot_Check.calls 20 4 A2 c2 tangramlaw11_fixed.es (some ⟨b0, 0, none⟩) 4 tangramlaw11_fixed.r 0 0 w2 HC2.out HL2.out HR2.out (by decide) tangramlaw11_fixed.c1).mono ?_
 rintro e w3 ⟨rfl, hb⟩
 have HB3 := Aside0.mk (HB2.out.trans (hb.mono HB2.out.size))
 have HR3 := Aside0.mk (Kd.C_below HR2.out hb)
 clear hb HB2 HR2 HC2 HL2
 go_wp2_with fail
 refine (tangramlaw11_fixed.tail w3).mono ?_
 rintro e w4 ⟨v, rfl, hR, hb⟩
 have HB4 := Aside0.mk (HB3.out.trans (hb.mono HB3.out.size))
 have HR4 := Aside0.mk (Kd.C_below HR3.out hb)
 obtain ⟨A4, c4, rfl, hc4, hC4⟩ := Kd.R_reads hR
 have HQ4 : Aside0 (Kd.C Mem.KR ((Mem.lits w4 tangramlaw11_fixed.q).alloc (.cells (Mem.outer w4.heap.size tangramlaw11_fixed.q).toArray 28 (0, 0))) (some ⟨w4.heap.size + 1 + 1 + 1 + 1, 0, none⟩) tangramlaw11_fixed.q.length tangramlaw11_fixed.q) := ⟨Mem.lits_reads w4 tangramlaw11_fixed.q (by decide) (by decide)⟩
 have hb4 := Mem.lits_all w4 tangramlaw11_fixed.q
 have HB5 := Aside0.mk (HB4.out.trans (hb4.mono HB4.out.size))
 have HR5 := Aside0.mk (Kd.C_below HR4.out hb4)
 have HC5 := Aside0.mk (Kd.C_below hC4 hb4)
 have HL5 := Aside0.mk hc4
 clear hb hR hC4 hc4 HB3 HR3 hb4 HB4 HR4
 go_wp2_with fail
 show Calls _ _ _ ((Mem.lits w4 tangramlaw11_fixed.q).alloc (.cells (Mem.outer w4.heap.size tangramlaw11_fixed.q).toArray 28 (0, 0))) _
 generalize (Mem.lits w4 tangramlaw11_fixed.q).alloc (.cells (Mem.outer w4.heap.size tangramlaw11_fixed.q).toArray 28 (0, 0)) = w5 at HQ4 HB5 HR5 HC5 ⊢
 obtain ⟨b1, hb1⟩ : ∃ b1, b1 = w4.heap.size + 1 + 1 + 1 + 1 := ⟨_, rfl⟩
 rw [← hb1] at HQ4 ⊢
 clear hb1
 refine (rot_Check.calls 20 4 A4 c4 tangramlaw11_fixed.es (some ⟨b1, 0, none⟩) 4 tangramlaw11_fixed.q 2 113 w5 HC5.out HL5.out HQ4.out (by decide) tangramlaw11_fixed.c2).mono ?_
 rintro e w6 ⟨rfl, hb⟩
 have HB6 := Aside0.mk (HB5.out.trans (hb.mono HB5.out.size))
 have HR6 := Aside0.mk (Kd.C_below HR5.out hb)
 clear hb HB5 HR5 HC5 HL5 HQ4
 go_wp2_with fail
 refine (tangramlaw11_fixed.tail w6).mono ?_
 rintro e w7 ⟨v, rfl, hR, hb⟩
 have HB7 := Aside0.mk (HB6.out.trans (hb.mono HB6.out.size))
 have HR7 := Aside0.mk (Kd.C_below HR6.out hb)
 obtain ⟨A7, c7, rfl, hc7, hC7⟩ := Kd.R_reads hR
 have HC7 := Aside0.mk hC7
 have HL7 := Aside0.mk hc7
 clear hb hR hC7 hc7 HB6 HR6
 go_wp2_with fail
 refine (rot_Next.calls 20 4 A7 c7 tangramlaw11_fixed.es (some ⟨b0, 0, none⟩) 4 tangramlaw11_fixed.r _ 0 w7 HC7.out HL7.out HR7.out (by decide) tangramlaw11_fixed.c3).mono ?_
 rintro e w8 ⟨v, rfl, hR, hb⟩
 have HB8 := Aside0.mk (HB7.out.trans (hb.mono HB7.out.size))
 have HR8 := Aside0.mk (Kd.C_below HR7.out hb)
 obtain ⟨A8, c8, rfl, hc8, hC8⟩ := Kd.R_reads hR
 have HIX : Aside0 (Mem.IRow (w8.alloc (.cells #[.int .i64 2, .int .i64 4, .int .i64 0, .int .i64 5, .int .i64 1, .int .i64 6, .int .i64 3, .int .i64 7] 3 (0, 0))) w8.heap.size [2, 4, 0, 5, 1, 6, 3, 7]) := ⟨Mem.heap_last w8 _⟩
 have hb9 := (Below.refl w8.heap.size w8).alloc (Nat.le_refl _) (.cells #[.int .i64 2, .int .i64 4, .int .i64 0, .int .i64 5, .int .i64 1, .int .i64 6, .int .i64 3, .int .i64 7] 3 (0, 0))
 have HB9 := Aside0.mk (HB8.out.trans (hb9.mono HB8.out.size))
 have HR9 := Aside0.mk (Kd.C_below HR8.out hb9)
 have HC9 := Aside0.mk (Kd.C_below hC8 hb9)
 have HL9 := Aside0.mk hc8
 clear hb hR hC8 hc8 HB7 HR7 HC7 HL7 hb9 HB8 HR8
 go_wp2_with fail
 generalize w8.alloc (.cells #[.int .i64 2, .int .i64 4, .int .i64 0, .int .i64 5, .int .i64 1, .int .i64 6, .int .i64 3, .int .i64 7] 3 (0, 0)) = w9 at HIX HB9 HR9 HC9 ⊢
 refine (tangramref11_Alike.calls 20 A8 c8 [2, 4, 0, 5, 1, 6, 3, 7] (some ⟨w8.heap.size, 0, none⟩) 8 [2, 4, 0, 5, 1, 6, 3, 7] true w9 HC9.out HL9.out (Mem.row_reads HIX.out (by decide)) (by decide) tangramlaw11_fixed.c4).mono ?_
 rintro e w10 ⟨rfl, hd⟩
 have hb10 := hd.below
 have HB10 := Aside0.mk (HB9.out.trans (hb10.mono HB9.out.size))
 have HR10 := Aside0.mk (Kd.C_below HR9.out hb10)
 clear hd hb10 HB9 HR9 HC9 HL9 HIX
 go_wp2_with fail
 refine (rot_Canon.calls 20 (some ⟨b0, 0, none⟩) 4 tangramlaw11_fixed.r _ w10 HR10.out (by decide) tangramlaw11_fixed.c5).mono ?_
 rintro e w11 ⟨v, rfl, hS, hb⟩
 have HB11 := Aside0.mk (HB10.out.trans (hb.mono HB10.out.size))
 obtain ⟨A11, c11, rfl, hc11, hC11⟩ := Kd.S_reads hS
 have HQ12 : Aside0 (Kd.C Mem.KR ((Mem.lits w11 [[0, 2], [1, 4], [3, 5, 6], [7]]).alloc (.cells (Mem.outer w11.heap.size [[0, 2], [1, 4], [3, 5, 6], [7]]).toArray 28 (0, 0))) (some ⟨w11.heap.size + 1 + 1 + 1 + 1, 0, none⟩) 4 [[0, 2], [1, 4], [3, 5, 6], [7]]) := ⟨Mem.lits_reads w11 [[0, 2], [1, 4], [3, 5, 6], [7]] (by decide) (by decide)⟩
 have hb12 := Mem.lits_all w11 [[0, 2], [1, 4], [3, 5, 6], [7]]
 have HB12 := Aside0.mk (HB11.out.trans (hb12.mono HB11.out.size))
 have HC12 := Aside0.mk (Kd.C_below hC11 hb12)
 have HL12 := Aside0.mk hc11
 clear hb hS hC11 hc11 HB10 HR10 hb12 HB11
 go_wp2_with fail
 show Calls _ _ _ ((Mem.lits w11 [[0, 2], [1, 4], [3, 5, 6], [7]]).alloc (.cells (Mem.outer w11.heap.size [[0, 2], [1, 4], [3, 5, 6], [7]]).toArray 28 (0, 0))) _
 generalize (Mem.lits w11 [[0, 2], [1, 4], [3, 5, 6], [7]]).alloc (.cells (Mem.outer w11.heap.size [[0, 2], [1, 4], [3, 5, 6], [7]]).toArray 28 (0, 0)) = w12 at HQ12 HB12 HC12 ⊢
 refine (tangramref11_Equal.calls 20 A11 c11 [[0, 2], [1, 4], [3, 5, 6], [7]] (some ⟨w11.heap.size + 1 + 1 + 1 + 1, 0, none⟩) 4 [[0, 2], [1, 4], [3, 5, 6], [7]] true w12 HC12.out HL12.out HQ12.out (by decide) tangramlaw11_fixed.c6).mono ?_
 rintro e w13 ⟨rfl, hd⟩
 have HB13 := Aside0.mk (HB12.out.trans (hd.below.mono HB12.out.size))
 clear hd HB12 HC12 HL12 HQ12
 go_wp2_with fail
 go_ret
 exact ⟨rfl, HB13.out⟩
end Go.Proofs.Ytkkhhbegeboonaa.GAll
namespace Go.Proofs.Ytkkhhbegeboonaa.GAll
open Go.RowKit Go.Proofs.YtkkhhbegeboonaaW.PrintWords Go.Proofs.YtkkhhbegeboonaaW.PrintLast Go.Proofs.YtkkhhbegeboonaaW.PrintMore
attribute [local go_sem] max2_int min2_int max_two min_two max_three min_three max_four min_four   -- for this text's walks alone
set_option linter.unusedVariables false
set_option linter.unusedSimpArgs false
def rot_Around.fit (l : List S59) (r : List (List Int)) : Bool := decide (l.length ≤ 4194304) && (decide (r.length ≤ 1048576) && r.all fun row => decide (row.length ≤ 8388608) && row.all fun h => decide (0 ≤ Rot.twin h) && decide (Rot.twin h < ((2 * l.length : Nat) : Int)))
def rot_Around.f (k : Nat) (a0_0 : Int) (l0_1 : List S59) (l1 : List (List Int)) : Option (List (List Int) × Int) := (rot_Check.f k a0_0 l0_1 l1).bind fun t => if t.2 = 0 then (if rot_Around.fit l0_1 l1 = true then some (Rot.aroundOf (Rot.froms (l0_1.map fun x => (x.f0, x.f1))) l1, 0) else none) else some ([], t.2)
theorem rot_Around.mono : ∀ a0 a1 a2 k, LeO (rot_Around.f k a0 a1 a2) (rot_Around.f (k + 1) a0 a1 a2) := by
 intro a0 a1 a2 k
 unfold rot_Around.f
 exact LeO.bind (rot_Check.mono _ _ _ _) (fun _ => LeO.refl _)
theorem rot_Around.at_ {l : List S59} {r : List (List Int)} (h : rot_Around.fit l r = true) : l.length ≤ 4194304 ∧ r.length ≤ 1048576 ∧ ∀ v, v < r.length → (Mem.gl r v).length ≤ 8388608 ∧ ∀ j, j < (Mem.gl r v).length → 0 ≤ Rot.twin (Mem.gi (Mem.gl r v) j) ∧ Rot.twin (Mem.gi (Mem.gl r v) j) < ((2 * l.length : Nat) : Int) := by
 unfold rot_Around.fit at h
 rw [Bool.and_eq_true, Bool.and_eq_true, List.all_eq_true, decide_eq_true_eq, decide_eq_true_eq] at h
 refine ⟨h.1, h.2.1, fun v hv => ?_⟩
 have hm : Mem.gl r v ∈ r := by
  unfold Mem.gl
  rw [List.getD_eq_getElem?_getD, List.getElem?_eq_getElem hv]
  exact List.getElem_mem hv
 have h2 := h.2.2 _ hm
 rw [Bool.and_eq_true, List.all_eq_true, decide_eq_true_eq] at h2
 refine ⟨h2.1, fun j hj => ?_⟩
 have hj2 : Mem.gi (Mem.gl r v) j ∈ Mem.gl r v := by
  unfold Mem.gi
  rw [List.getD_eq_getElem?_getD, List.getElem?_eq_getElem hj]
  exact List.getElem_mem hj
 have h3 := h2.2 _ hj2
 rw [Bool.and_eq_true, decide_eq_true_eq, decide_eq_true_eq] at h3
 exact h3
set_option maxHeartbeats 1000000 in
set_option maxRecDepth 100000 in
theorem rot_Around.calls (k : Nat) (a0_0 : Int) (A0_1 : Option Addr) (c0_1 : Nat) (l0_1 : List (S59)) (A1 : Option Addr) (c1 : Nat) (l1 : List (List Int)) (r1 : List (List Int)) (r2 : Int) (w : World) (hr0_1 : Kd.C k59 w A0_1 l0_1.length l0_1) (hc0_1 : l0_1.length ≤ c0_1) (hr1 : Kd.C (Kd.slice 3 (Kd.int .i64)) w A1 l1.length l1) (hc1 : l1.length ≤ c1) (h : rot_Around.f k a0_0 l0_1 l1 = some (r1, r2)) :
  Calls Try.prog 18 #[.agg #[.int .i64 a0_0, .slice A0_1 l0_1.length c0_1], .slice A1 l1.length c1] w fun e w' => ∃ v0_ : Value, e = .returned (.tuple #[v0_, .int .i64 r2]) ∧ Kd.S (Kd.slice 3 (Kd.int .i64)) 28 w' w.heap.size (fun _ => True) v0_ r1 ∧ Below w.heap.size w w' := by
 obtain ⟨t, ht, h⟩ := Option.bind_eq_some_iff.mp h
 obtain ⟨t1, t2⟩ := t
 have hc : ∀ W : World, Below w.heap.size w W → Calls Try.prog 15 #[.agg #[.int .i64 a0_0, .slice A0_1 l0_1.length c0_1], .slice A1 l1.length c1] W fun e w' => e = .returned (.tuple #[.int .i64 t1, .int .i64 t2]) ∧ Below W.heap.size W w' :=
  fun W hW => rot_Check.calls k a0_0 A0_1 c0_1 l0_1 A1 c1 l1 t1 t2 W (Kd.C_below hr0_1 hW) hc0_1 (Kd.C_below hr1 hW) hc1 ht
 by_cases h0 : t2 = 0
 ·subst h0
  rw [if_pos rfl] at h
  by_cases hf : rot_Around.fit l0_1 l1 = true
  ·rw [if_pos hf] at h
   obtain ⟨g1, g2, g3⟩ := rot_Around.at_ hf
   obtain ⟨rfl, rfl⟩ : Rot.aroundOf (Rot.froms (l0_1.map fun x => (x.f0, x.f1))) l1 = r1 ∧ 0 = r2 := by simpa using h
   have hlm : (l0_1.map fun x => (x.f0, x.f1)).length = l0_1.length := List.length_map ..
   have hp := rot_Check.pairs hr0_1
   obtain ⟨es, hes⟩ : ∃ es, es = l0_1.map fun x => (x.f0, x.f1) := ⟨_, rfl⟩
   rw [← hes] at hlm hp ⊢
   rw [← hlm] at hc g1 g3 ⊢
   exact Rot.around_calls t1 a0_0 A0_1 c0_1 es A1 c1 l1 w hp g1 hr1 g2 (fun v hv => (g3 v hv).1) (fun v j hv hj => (g3 v hv).2 j hj) hc
  ·rw [if_neg hf] at h; cases h
 ·rw [if_neg h0] at h
  obtain ⟨rfl, rfl⟩ : ([] : List (List Int)) = r1 ∧ t2 = r2 := by simpa using h
  refine (Rot.around_bad a0_0 A0_1 l0_1.length c0_1 A1 l1.length c1 t1 t2 h0 w hc).mono ?_
  rintro e w' ⟨rfl, hb⟩
  exact ⟨_, rfl, Kd.S_nil _ _ _ _ _, hb⟩
end Go.Proofs.Ytkkhhbegeboonaa.GAll
namespace Go.Proofs.Ytkkhhbegeboonaa.GAll
open Go.RowKit Go.Proofs.YtkkhhbegeboonaaW.PrintWords Go.Proofs.YtkkhhbegeboonaaW.PrintLast Go.Proofs.YtkkhhbegeboonaaW.PrintMore
set_option linter.unusedVariables false
set_option linter.unusedSimpArgs false
instance rot_From.dec (x : Int) : Decidable (Rot.InI x) := by unfold Rot.InI; infer_instance
def rot_From.fit (n : Int) (l : List S59) (r : List (List Int)) (d : List Int × Int) : Bool := decide (0 ≤ n ∧ n ≤ 1048576 ∧ l.length ≤ 4194304 ∧ (d.1.length : Int) = n ∧ d.2 = 0) && ((l.all fun x => decide (Rot.InI x.f0 ∧ Rot.InI x.f1)) && r.all fun row => decide (row.length * 8 ≤ 140737488351232) && row.all fun u => decide (Rot.InI u))
def rot_From.res : Except (Int × Int) (List (List Int)) → List (List Int) × Int × Int
 | .error ve => ([], ve.1, ve.2)
 | .ok o => (o, 0, 0)
def rot_From.told (n : Int) (l : List S59) (r : List (List Int)) (d : List Int × Int) : Option (List (List Int) × Int × Int) :=
 if rot_From.fit n l r d = true then some (rot_From.res (Rot.fromRows (Rot.halfOf (l.map fun x => (x.f0, x.f1))) d.1 0 r [])) else none
def rot_From.f (k : Nat) (a0_0 : Int) (l0_1 : List S59) (l1 : List (List Int)) : Option (List (List Int) × Int × Int) := (simple_Valid.f k a0_0 l0_1).bind fun t => if t = true then (if (l1.length : Int) = a0_0 then (simple_Degrees.f k a0_0 l0_1).bind fun d => rot_From.told a0_0 l0_1 l1 d else some ([], 0, 110)) else some ([], 0, 1)
theorem rot_From.mono : ∀ a0 a1 a2 k, LeO (rot_From.f k a0 a1 a2) (rot_From.f (k + 1) a0 a1 a2) := by
 intro a0 a1 a2 k
 unfold rot_From.f
 refine LeO.bind (simple_Valid.mono _ _ _) (fun t => ?_)
 refine LeO.ite ?_ (LeO.refl _)
 refine LeO.ite ?_ (LeO.refl _)
 exact LeO.bind (simple_Degrees.mono _ _ _) (fun _ => LeO.refl _)
set_option maxHeartbeats 1000000 in
set_option maxRecDepth 100000 in
theorem rot_From.calls (k : Nat) (a0_0 : Int) (A0_1 : Option Addr) (c0_1 : Nat) (l0_1 : List (S59)) (A1 : Option Addr) (c1 : Nat) (l1 : List (List Int)) (r1 : List (List Int)) (r2 : Int) (r3 : Int) (w : World) (hr0_1 : Kd.C k59 w A0_1 l0_1.length l0_1) (hc0_1 : l0_1.length ≤ c0_1) (hr1 : Kd.C (Kd.slice 3 (Kd.int .i64)) w A1 l1.length l1) (hc1 : l1.length ≤ c1) (h : rot_From.f k a0_0 l0_1 l1 = some (r1, r2, r3)) :
  Calls Try.prog 22 #[.agg #[.int .i64 a0_0, .slice A0_1 l0_1.length c0_1], .slice A1 l1.length c1] w fun e w' => ∃ v0_ : Value, e = .returned (.tuple #[v0_, .int .i64 r2, .int .i64 r3]) ∧ Kd.S (Kd.slice 3 (Kd.int .i64)) 28 w' w.heap.size (fun _ => True) v0_ r1 ∧ Below w.heap.size w w' := by
 obtain ⟨t, ht, h⟩ := Option.bind_eq_some_iff.mp h
 have hv : Rot.ValidSays t a0_0 A0_1 l0_1.length c0_1 w := fun W hW => simple_Valid.calls k a0_0 A0_1 c0_1 l0_1 t W (Kd.C_below hr0_1 hW) hc0_1 ht
 have bad : ∀ (v e : Int), e ≠ 0 → Rot.FromSays (.error (v, e)) a0_0 A0_1 l0_1.length c0_1 A1 l1.length c1 w → r1 = [] → r2 = v → r3 = e → Calls Try.prog 22 #[.agg #[.int .i64 a0_0, .slice A0_1 l0_1.length c0_1], .slice A1 l1.length c1] w fun e w' => ∃ v0_ : Value, e = .returned (.tuple #[v0_, .int .i64 r2, .int .i64 r3]) ∧ Kd.S (Kd.slice 3 (Kd.int .i64)) 28 w' w.heap.size (fun _ => True) v0_ r1 ∧ Below w.heap.size w w' := by
  rintro v e he hs rfl rfl rfl
  refine (Rot.from_fault _ _ he a0_0 A0_1 l0_1.length c0_1 A1 l1.length c1 w hs).mono ?_
  rintro z w' ⟨rfl, hb⟩
  exact ⟨_, rfl, Kd.S_nil _ _ _ _ _, hb⟩
 cases t with
 | false =>
  rw [if_neg (by decide)] at h
  obtain ⟨g1, g2, g3⟩ : [] = r1 ∧ 0 = r2 ∧ 1 = r3 := by simpa using h
  exact bad 0 1 (by decide) (fun W pg pa po hb hg ha ho h1 h2 h3 => Rot.from1_invalid a0_0 A0_1 l0_1.length c0_1 pg pa po w W hb hv hg) g1.symm g2.symm g3.symm
 | true =>
  rw [if_pos rfl] at h
  by_cases hm : (l1.length : Int) = a0_0
  ·rw [if_pos hm] at h
   obtain ⟨d, hd, h⟩ := Option.bind_eq_some_iff.mp h
   unfold rot_From.told at h
   by_cases hf : rot_From.fit a0_0 l0_1 l1 d = true
   ·rw [if_pos hf] at h
    unfold rot_From.fit at hf
    rw [Bool.and_eq_true, Bool.and_eq_true, List.all_eq_true, List.all_eq_true, decide_eq_true_eq] at hf
    obtain ⟨⟨h0, h1, h2, h3, h4⟩, h5, h6⟩ := hf
    obtain ⟨n, rfl⟩ := Int.eq_ofNat_of_zero_le h0
    obtain ⟨ds, e0⟩ := d
    simp only at h3 h4 h
    subst h4
    have hds : Rot.DegreesSays ds (n : Int) A0_1 l0_1.length c0_1 w := fun W hW => simple_Degrees.calls k n A0_1 c0_1 l0_1 ds 0 W (Kd.C_below hr0_1 hW) hc0_1 hd
    have hlm : (l0_1.map fun x => (x.f0, x.f1)).length = l0_1.length := List.length_map ..
    have hp := rot_Check.pairs hr0_1
    have hin : ∀ i, i < (l0_1.map fun x => (x.f0, x.f1)).length → Rot.InI (Mem.pe (l0_1.map fun x => (x.f0, x.f1)) i).1 ∧ Rot.InI (Mem.pe (l0_1.map fun x => (x.f0, x.f1)) i).2 := by
     intro i hi
     rw [List.length_map] at hi
     have := h5 l0_1[i] (List.getElem_mem hi)
     rw [decide_eq_true_eq] at this
     have e : Mem.pe (l0_1.map fun x => (x.f0, x.f1)) i = (l0_1[i].f0, l0_1[i].f1) := by unfold Mem.pe; simp [List.getD_eq_getElem?_getD, hi]
     rw [e]
     exact this
    have hrow : ∀ v, v < l1.length → (Mem.gl l1 v).length * 8 ≤ 140737488351232 ∧ ∀ j, j < (Mem.gl l1 v).length → Rot.InI (Mem.gi (Mem.gl l1 v) j) := by
     intro v hv2
     have e : Mem.gl l1 v = l1[v] := by unfold Mem.gl; rw [List.getD_eq_getElem?_getD, List.getElem?_eq_getElem hv2]; rfl
     have := h6 _ (List.getElem_mem hv2)
     rw [Bool.and_eq_true, List.all_eq_true, decide_eq_true_eq] at this
     rw [e]
     refine ⟨this.1, fun j hj => ?_⟩
     have e2 : Mem.gi l1[v] j = l1[v][j] := by unfold Mem.gi; rw [List.getD_eq_getElem?_getD, List.getElem?_eq_getElem hj]; rfl
     rw [e2]
     have := this.2 _ (List.getElem_mem hj)
     rw [decide_eq_true_eq] at this
     exact this
    obtain ⟨es, hes⟩ : ∃ es, es = l0_1.map fun x => (x.f0, x.f1) := ⟨_, rfl⟩
    rw [← hes] at h hlm hp hin
    have hfs : Rot.FromSays (Rot.fromRows (Rot.halfOf es) ds 0 l1 []) (n : Int) A0_1 l0_1.length c0_1 A1 l1.length c1 w := by
     rw [← hlm] at hv hds h2 ⊢
     intro W pg pa po hb hg ha ho g1 g2 g3
     exact Rot.from1_rows n A0_1 c0_1 es A1 c1 l1 ds _ pg pa po w W hb hv hds hp h2 (by omega) hr1 (by omega) (by omega) hin (fun v j hv2 hj => (hrow v hv2).2 j hj) (fun v hv2 => (hrow v hv2).1) hg ha ho g1 g2 g3
    cases hres : Rot.fromRows (Rot.halfOf es) ds 0 l1 [] with
    | error ve =>
     rw [hres] at h hfs
     obtain ⟨g1, g2, g3⟩ : [] = r1 ∧ ve.1 = r2 ∧ ve.2 = r3 := by simpa [rot_From.res] using h
     exact bad ve.1 ve.2 (Rot.fromRows_err _ _ _ _ _ _ hres) hfs g1.symm g2.symm g3.symm
    | ok o =>
     rw [hres] at h hfs
     obtain ⟨rfl, rfl, rfl⟩ : o = r1 ∧ 0 = r2 ∧ 0 = r3 := by simpa [rot_From.res] using h
     have hol := Rot.fromRows_len _ _ _ _ _ _ hres
     exact Rot.from_ok o (by simp at hol; omega) (n : Int) A0_1 l0_1.length c0_1 A1 l1.length c1 w hfs
   ·rw [if_neg hf] at h; cases h
  ·rw [if_neg hm] at h
   obtain ⟨g1, g2, g3⟩ : [] = r1 ∧ 0 = r2 ∧ 110 = r3 := by simpa using h
   exact bad 0 110 (by decide) (fun W pg pa po hb hg ha ho h1 h2 h3 => Rot.from1_length a0_0 A0_1 l0_1.length c0_1 A1 l1.length c1 pg pa po w W hb hv hg ha hm) g1.symm g2.symm g3.symm
end Go.Proofs.Ytkkhhbegeboonaa.GAll
namespace Go.Proofs.Ytkkhhbegeboonaa.GAll
open Go.RowKit Go.Proofs.YtkkhhbegeboonaaW.PrintWords Go.Proofs.YtkkhhbegeboonaaW.PrintLast Go.Proofs.YtkkhhbegeboonaaW.PrintMore
attribute [local go_sem] max2_int min2_int max_two min_two max_three min_three max_four min_four   -- for this text's walks alone
set_option linter.unusedVariables false
set_option linter.unusedSimpArgs false
def slices_Reverse_int_int.l0 : Nat → List Int → Int → Int → Option (List Int)
 | 0, _, _, _ => none
 | k + 1, x0, x2, x3 => if x2 < x3 then (if 0 ≤ x3 then (if x3 < (x0.length : Int) then (if 0 ≤ x2 then (if x2 < (x0.length : Int) then (slices_Reverse_int_int.l0 k ((x0.set (x2 : Int).toNat (rd x0 x3)).set (x3 : Int).toNat (rd x0 x2)) (wrap64 (x2 + 1)) (wrap64 (x3 - 1))) else (none)) else (none)) else (none)) else (none)) else (some x0)
def slices_Reverse_int_int.f (k : Nat) (l0 : List Int) : Option (List Int) := slices_Reverse_int_int.l0 k l0 0 (wrap64 ((l0.length : Int) - 1))
theorem slices_Reverse_int_int.mono_l : ∀ k, (∀ y0 y1 y2, LeO (slices_Reverse_int_int.l0 k y0 y1 y2) (slices_Reverse_int_int.l0 (k + 1) y0 y1 y2))
 | 0 => fun _ _ _ r h => by simp [slices_Reverse_int_int.l0] at h
 | k + 1 => by
  have ih0 := slices_Reverse_int_int.mono_l k
  ·intro y0 y1 y2
   unfold slices_Reverse_int_int.l0
   repeat' first
   | (with_reducible exact ih0 _ _ _)
   | (with_reducible exact LeO.refl _)
   | (with_reducible exact LeO.none _)
   | (with_reducible refine LeO.ite ?_ ?_)
   | (with_reducible refine LeO.bind ?_ (fun _ => ?_))
   | exact ih0 _ _ _
   | exact LeO.none _
   | refine LeO.ite ?_ ?_
   | refine LeO.bind ?_ (fun _ => ?_)
theorem slices_Reverse_int_int.mono : ∀ a0 k, LeO (slices_Reverse_int_int.f k a0) (slices_Reverse_int_int.f (k + 1) a0) := by
 intro a0 k
 have ih0 := slices_Reverse_int_int.mono_l k
 unfold slices_Reverse_int_int.f
 repeat' first
   | (with_reducible exact ih0 _ _ _)
   | (with_reducible exact LeO.refl _)
   | (with_reducible exact LeO.none _)
   | (with_reducible refine LeO.ite ?_ ?_)
   | (with_reducible refine LeO.bind ?_ (fun _ => ?_))
   | exact ih0 _ _ _
   | exact LeO.none _
   | refine LeO.ite ?_ ?_
   | refine LeO.bind ?_ (fun _ => ?_)
def slices_Reverse_int_int.T3 : Bool × List (List Nat × List Nat) := (true, [([], []), ([], []), ([], []), ([], []), ([], []), ([], []), ([4, 5], [4, 5]), ([6], [6]), ([], []), ([], []), ([8, 9], [8, 9]), ([10], [10]), ([0, 1, 0, 1, 4, 5, 6, 7, 11], [0, 1]), ([12, 7, 0, 1, 4, 5, 6, 7, 11], [7, 12]), ([2, 3, 0, 1, 2, 3, 4, 5, 6, 7, 8, 9, 10, 11, 12, 13], [2, 3]), ([14, 11, 13, 0, 1, 2, 3, 4, 5, 6, 7, 8, 9, 10, 11, 12, 13], [11, 14])])
def slices_Reverse_int_int.B3 : List Nat := [0, 0, 0, 0, 0, 0, 48, 112, 0, 0, 768, 1792, 4083, 8179, 16383, 32767]
theorem slices_Reverse_int_int.tab3 : rtab .any (opsOf Try.f51 3) = slices_Reverse_int_int.T3 := by kernel_rfl
theorem slices_Reverse_int_int.bits3 : waitsOk slices_Reverse_int_int.T3.2 slices_Reverse_int_int.B3 = true := by kernel_rfl
set_option maxHeartbeats 8000000 in
set_option maxRecDepth 100000 in
theorem slices_Reverse_int_int.calls (k : Nat) (P0_ : Nat → Prop) (u9000_ : Value) (l0 : List Int) (r : List Int) (w0 w : World) (hB : Below w0.heap.size w0 w) (ho0 : Kd.R (Kd.int .i64) 3 w w0.heap.size P0_ u9000_ l0) (h : slices_Reverse_int_int.f k l0 = some r) :
  Calls Try.prog 51 #[u9000_] w fun e w' => e = .returned (.tuple #[]) ∧ Kd.R (Kd.int .i64) 3 w' w0.heap.size (fun k_ => (P0_ k_ ∨ w.heap.size ≤ k_)) u9000_ r ∧ Below w0.heap.size w0 w' ∧ Kept w w' (fun k_ => P0_ k_) := by
 have HO0 := Aside0.mk (show Kd.R (Kd.int .i64) 3 w w0.heap.size (fun k_ => (P0_ k_ ∨ w.heap.size ≤ k_)) u9000_ l0 from Kd.R_mono ho0 (fun k_ hk => (.inl hk)))
 have HK := Aside0.mk (Kept.refl w (fun k_ => P0_ k_))
 have HW0 := Aside0.mk hB.size
 have HB := Aside0.mk hB
 clear hB
 have H : (slices_Reverse_int_int.l0 k l0 0 (wrap64 ((l0.length : Int) - 1))) = some r := h
 clear h
 have H' := Aside0.mk H
 clear H
 obtain ⟨Ao2, co2, eo2⟩ := Kd.R_slice HO0.out
 subst eo2
 go_enter Try.func51, Try.ntmps51
 go_wp2
 go_loopg [2, 3] k (fun kq v2 v3 w' => ∃ (x0_1 : List Int) (x2_1 : Int) (x3_1 : Int), v2 = .int .i64 x2_1 ∧ v3 = .int .i64 x3_1 ∧ Aside0 (slices_Reverse_int_int.l0 kq x0_1 x2_1 x3_1 = some r) ∧ Aside0 (kq ≤ k) ∧ Aside0 (Kd.R (Kd.int .i64) 3 w' w0.heap.size (fun k_ => (P0_ k_ ∨ w.heap.size ≤ k_)) (.slice Ao2 l0.length co2) x0_1) ∧ Aside0 (Kept w w' (fun k_ => P0_ k_)) ∧ Aside0 (Below w0.heap.size w0 w'))
 case atStart => exact ⟨(l0), (0), (wrap64 ((l0.length : Int) - 1)), (by first | rfl | (simp; done) | (simp [*]; done)), (by first | rfl | (simp; done) | (simp [*]; done)), H', ⟨Nat.le_refl _⟩, ⟨by (with_reducible repeat (first | apply Kd.R_alloc | apply Kd.R_drewN | apply Kd.R_drew)); exact HO0.out⟩, ⟨by repeat (first | (with_reducible first | exact HK.out | apply Kept.alloc | apply Kept.drewN | apply Kept.drew) | exact HK.out)⟩, ⟨by repeat (first | (with_reducible first | exact HB.out | apply below_alloc | apply pw_below_drewN | apply below_drew1) | exact HB.out)⟩⟩
 case round =>
  clear H'
  try clear p2
  obtain ⟨x0_1, x2_1, x3_1, rfl, rfl, HA, HK1, HO_0, HK, HB⟩ := hrel
  have hl0_1 := (Kd.R_reads' HO_0.out).1
  rw [hl0_1] at HO_0
  (try simp only [hl0_1])
  cases gk with
  | zero => exact absurd HA.out (by simp [slices_Reverse_int_int.l0])
  | succ k1 =>
   have H := HA.out
   clear HA
   simp only [slices_Reverse_int_int.l0] at H
   by_cases c3 : x2_1 < x3_1
   ·rw [if_pos c3] at H
    have c3b0 : decide (x2_1 < x3_1) = true := decide_eq_true c3
    clear c3
    by_cases c4 : 0 ≤ x3_1
    ·rw [if_pos c4] at H
     have c4b0 : decide (0 ≤ x3_1) = true := decide_eq_true c4
     clear c4
     by_cases c5 : x3_1 < (x0_1.length : Int)
     ·rw [if_pos c5] at H
      have c5b0 : decide (x3_1 < (x0_1.length : Int)) = true := decide_eq_true c5
      clear c5
      by_cases c6 : 0 ≤ x2_1
      ·rw [if_pos c6] at H
       have c6b0 : decide (0 ≤ x2_1) = true := decide_eq_true c6
       clear c6
       by_cases c7 : x2_1 < (x0_1.length : Int)
       ·rw [if_pos c7] at H
        have c7b0 : decide (x2_1 < (x0_1.length : Int)) = true := decide_eq_true c7
        clear c7
        obtain ⟨y186, hy186⟩ : ∃ y_ : List Int, y_ = (x0_1.set (x2_1 : Int).toNat (rd x0_1 x3_1)) := ⟨_, rfl⟩
        replace H : (slices_Reverse_int_int.l0 k1 (y186.set (x3_1 : Int).toNat (rd x0_1 x2_1)) (wrap64 (x2_1 + 1)) (wrap64 (x3_1 - 1))) = some r := by first | (rw [hy186]; with_reducible exact H) | (have H2_ := (Option.bind_some _ _).symm.trans H; rw [hy186]; with_reducible exact H2_) | (have H2_ := (Option.bind_some _ _).symm.trans H; with_reducible exact H2_) | with_reducible exact H | (rw [hy186]; exact H) | exact H
        have Ny186 := Aside0.mk hy186
        clear hy186
        obtain ⟨y187, hy187⟩ : ∃ y_ : List Int, y_ = (y186.set (x3_1 : Int).toNat (rd x0_1 x2_1)) := ⟨_, rfl⟩
        replace H : (slices_Reverse_int_int.l0 k1 y187 (wrap64 (x2_1 + 1)) (wrap64 (x3_1 - 1))) = some r := by first | (rw [hy187]; with_reducible exact H) | (have H2_ := (Option.bind_some _ _).symm.trans H; rw [hy187]; with_reducible exact H2_) | (have H2_ := (Option.bind_some _ _).symm.trans H; with_reducible exact H2_) | with_reducible exact H | (rw [hy187]; exact H) | exact H
        have Ny187 := Aside0.mk hy187
        clear hy187
        have H' := Aside0.mk H
        clear H
        try go_wp2
        have n0_ := Aside0.mk (Kd.R_drew HO_0.out)
        have n1_ := Aside0.mk (Kept.drew HK.out)
        have n2_ := Aside0.mk (below_drew1 HB.out)
        clear HO_0
        clear HK
        clear HB
        have HO_0 := n0_
        have HK := n1_
        have HB := n2_
        clear n0_ n1_ n2_
        have p184 : 0 ≤ (x3_1 : Int) := of_decide_eq_true (by first | (with_reducible assumption) | assumption)
        have q184 : x3_1 < (x0_1.length : Int) := of_decide_eq_true (by first | (with_reducible assumption) | assumption)
        obtain ⟨ad184, e184, hx184_0⟩ := Kd.at_int (Kd.R_reads' HO_0.out).2.2 x3_1 p184 q184
        cases e184
        replace p184 := eq_true p184
        replace q184 := eq_true q184
        have p185 : 0 ≤ (x2_1 : Int) := of_decide_eq_true (by first | (with_reducible assumption) | assumption)
        have q185 : x2_1 < (x0_1.length : Int) := of_decide_eq_true (by first | (with_reducible assumption) | assumption)
        obtain ⟨ad185, e185, hx185_0⟩ := Kd.at_int (Kd.R_reads' HO_0.out).2.2 x2_1 p185 q185
        obtain rfl : ad184 = ad185 := (by injection e185)
        replace p185 := eq_true p185
        replace q185 := eq_true q185
        have p8 : 0 ≤ (x2_1 : Int) := of_decide_eq_true (by first | (with_reducible assumption) | assumption)
        have q8 : (x2_1 : Int) < ((x0_1.length : Int) : Int) := of_decide_eq_true (by first | (with_reducible assumption) | assumption)
        obtain ⟨go8, co8, eo8, gb8, gl8, cl8, HG8⟩ := Kd.R_form HO_0.out (by omega)
        (first | cases eo8 | (injection eo8 with ea_ en_ ec_; (first | subst ea_ | (injection ea_ with ea_; subst ea_)); subst ec_; clear en_))
        have GB8 := Aside0.mk gb8
        have GG8 := Aside0.mk HG8
        clear gb8 gl8 HG8
        have HMgo8 := Aside0.mk (show (P0_ go8 ∨ w.heap.size ≤ go8) from (HO_0.out.1 _ rfl))
        (first | simp only [add_plain] at hx184_0 | skip)
        (first | simp only [add_plain] at hx185_0 | skip)
        obtain ⟨hx8_0, hf8_0⟩ := Kd.R_celln 0 HO_0.out (x2_1 : Int) p8 q8
        replace p8 := eq_true p8
        replace q8 := eq_true q8
        have HP11 := Kd.R_putn HO_0.out (x2_1 : Int) (rd x0_1 x3_1)
        rw [← Ny186.out] at HP11
        have HQ11 := Aside0.mk HP11
        clear HP11
        have p9 : 0 ≤ (x3_1 : Int) := of_decide_eq_true (by first | (with_reducible assumption) | assumption)
        have q9 : (x3_1 : Int) < ((x0_1.length : Int) : Int) := of_decide_eq_true (by first | (with_reducible assumption) | assumption)
        obtain ⟨hx9_0, hf9_0⟩ := Kd.R_celln 0 HQ11.out (x3_1 : Int) p9 q9
        replace p9 := eq_true p9
        replace q9 := eq_true q9
        have HP12 := Kd.R_putn HQ11.out (x3_1 : Int) (rd x0_1 x2_1)
        rw [← Ny187.out] at HP12
        have HQ12 := Aside0.mk HP12
        clear HP12
        refine start_ (n := 16) (S := fun w' => w'.cell? ⟨go8, (x3_1).toNat, none⟩ = some (.int .i64 (rd x0_1 x3_1)) ∧ w'.cell? ⟨go8, (x2_1).toNat, none⟩ = some (.int .i64 (rd x0_1 x2_1))) (ds := [13, 15]) #[false, false, false, false, false, false, false, false, false, false, false, false, false, false, false, false] (by kernel_rfl) rfl rfl ⟨hx184_0, hx185_0⟩ (fun hHeld => ?_); refine with_tabW slices_Reverse_int_int.tab3 slices_Reverse_int_int.bits3 (fun HT_ HW_ => ?_)
        generalize wr.drew = w10 at HO_0 HK HB GG8 HQ11 HQ12 hf8_0 hf9_0 hx184_0 hx185_0 hx8_0 hx9_0 hHeld ⊢
        refine pure_ (i := 0) (N := some 14) (v := ?_) (a' := ?_) #[true, false, false, false, false, false, false, false, false, false, false, false, false, false, false, false] rfl rfl (any_of HT_.out (by kernel_rfl)) (fun _ _ _ h => h) (Or.inl ⟨by rfl, ?_⟩) ?_ ?_
        rotate_left
        ·intro w'
         go_simp
         with_reducible rfl
        rotate_left
        ·simp only [Act.put, List.setIfInBounds_toArray, List.set_cons_zero, List.set_cons_succ, i64_w, i32_w]
         rfl
        refine pure_ (i := 1) (N := some 15) (v := ?_) (a' := ?_) #[true, true, false, false, false, false, false, false, false, false, false, false, false, false, false, false] rfl rfl (any_of HT_.out (by kernel_rfl)) (fun _ _ _ h => h) (Or.inl ⟨by rfl, ?_⟩) ?_ ?_
        rotate_left
        ·intro w'
         go_simp
         with_reducible rfl
        rotate_left
        ·simp only [Act.put, List.setIfInBounds_toArray, List.set_cons_zero, List.set_cons_succ, i64_w, i32_w]
         rfl
        refine pure_ (i := 2) (N := some 16) (v := ?_) (a' := ?_) #[true, true, true, false, false, false, false, false, false, false, false, false, false, false, false, false] rfl rfl (any_of HT_.out (by kernel_rfl)) (fun _ _ _ h => h) (Or.inl ⟨by rfl, ?_⟩) ?_ ?_
        rotate_left
        ·intro w'
         go_simp
         with_reducible rfl
        rotate_left
        ·simp only [Act.put, List.setIfInBounds_toArray, List.set_cons_zero, List.set_cons_succ, i64_w, i32_w]
         rfl
        refine pure_ (i := 3) (N := some 17) (v := ?_) (a' := ?_) #[true, true, true, true, false, false, false, false, false, false, false, false, false, false, false, false] rfl rfl (any_of HT_.out (by kernel_rfl)) (fun _ _ _ h => h) (Or.inl ⟨by rfl, ?_⟩) ?_ ?_
        rotate_left
        ·intro w'
         go_simp
         with_reducible rfl
        rotate_left
        ·simp only [Act.put, List.setIfInBounds_toArray, List.set_cons_zero, List.set_cons_succ, i64_w, i32_w]
         rfl
        refine pure_ (i := 4) (N := some 18) (v := ?_) (a' := ?_) #[true, true, true, true, true, false, false, false, false, false, false, false, false, false, false, false] rfl rfl (any_of HT_.out (by kernel_rfl)) (fun _ _ _ h => h) (Or.inl ⟨by rfl, ?_⟩) ?_ ?_
        rotate_left
        ·intro w'
         go_simp
         with_reducible rfl
        rotate_left
        ·simp only [Act.put, List.setIfInBounds_toArray, List.set_cons_zero, List.set_cons_succ, i64_w, i32_w]
         rfl
        refine pure_ (i := 5) (N := some 19) (v := ?_) (a' := ?_) #[true, true, true, true, true, true, false, false, false, false, false, false, false, false, false, false] rfl rfl (any_of HT_.out (by kernel_rfl)) (fun _ _ _ h => h) (Or.inl ⟨by rfl, ?_⟩) ?_ ?_
        rotate_left
        ·intro w'
         go_simp
         with_reducible rfl
        rotate_left
        ·simp only [Act.put, List.setIfInBounds_toArray, List.set_cons_zero, List.set_cons_succ, i64_w, i32_w]
         rfl
        refine pure_ (i := 6) (N := some 20) (v := ?_) (a' := ?_) #[true, true, true, true, true, true, true, false, false, false, false, false, false, false, false, false] rfl rfl (any_of HT_.out (by kernel_rfl)) (fun _ _ _ h => h) (Or.inl ⟨by rfl, ?_⟩) ?_ ?_
        rotate_left
        ·intro w'
         go_simp
         with_reducible rfl
        rotate_left
        ·simp only [Act.put, List.setIfInBounds_toArray, List.set_cons_zero, List.set_cons_succ, i64_w, i32_w]
         rfl
        refine pure_ (i := 8) (N := some 22) (v := ?_) (a' := ?_) #[true, true, true, true, true, true, true, false, true, false, false, false, false, false, false, false] rfl rfl (any_of HT_.out (by kernel_rfl)) (fun _ _ _ h => h) (Or.inl ⟨by rfl, ?_⟩) ?_ ?_
        rotate_left
        ·intro w'
         go_simp
         with_reducible rfl
        rotate_left
        ·simp only [Act.put, List.setIfInBounds_toArray, List.set_cons_zero, List.set_cons_succ, i64_w, i32_w]
         rfl
        refine pure_ (i := 9) (N := some 23) (v := ?_) (a' := ?_) #[true, true, true, true, true, true, true, false, true, true, false, false, false, false, false, false] rfl rfl (any_of HT_.out (by kernel_rfl)) (fun _ _ _ h => h) (Or.inl ⟨by rfl, ?_⟩) ?_ ?_
        rotate_left
        ·intro w'
         go_simp
         with_reducible rfl
        rotate_left
        ·simp only [Act.put, List.setIfInBounds_toArray, List.set_cons_zero, List.set_cons_succ, i64_w, i32_w]
         rfl
        refine pure_ (i := 10) (N := some 24) (v := ?_) (a' := ?_) #[true, true, true, true, true, true, true, false, true, true, true, false, false, false, false, false] rfl rfl (any_of HT_.out (by kernel_rfl)) (fun _ _ _ h => h) (Or.inl ⟨by rfl, ?_⟩) ?_ ?_
        rotate_left
        ·intro w'
         go_simp
         with_reducible rfl
        rotate_left
        ·simp only [Act.put, List.setIfInBounds_toArray, List.set_cons_zero, List.set_cons_succ, i64_w, i32_w]
         rfl
        refine take_ (i := 7) (N := some 21) (v := ?_) (a' := ?_) #[true, true, true, true, true, true, true, true, true, true, true, false, false, false, false, false] rfl rfl (take_ofW HT_.out HW_.out (by kernel_rfl)) (fun _ _ _ h => h) (Or.inl ⟨by rfl, ?_⟩) hHeld ?_ ?_
        rotate_left
        ·rintro w' ⟨s0, s1⟩
         go_simp
         with_reducible rfl
        rotate_left
        ·simp only [Act.put, List.setIfInBounds_toArray, List.set_cons_zero, List.set_cons_succ, i64_w, i32_w]
         rfl
        refine take_ (i := 11) (N := some 25) (v := ?_) (a' := ?_) #[true, true, true, true, true, true, true, true, true, true, true, true, false, false, false, false] rfl rfl (take_ofW HT_.out HW_.out (by kernel_rfl)) (fun _ _ _ h => h) (Or.inl ⟨by rfl, ?_⟩) hHeld ?_ ?_
        rotate_left
        ·rintro w' ⟨s0, s1⟩
         go_simp
         with_reducible rfl
        rotate_left
        ·simp only [Act.put, List.setIfInBounds_toArray, List.set_cons_zero, List.set_cons_succ, i64_w, i32_w]
         rfl
        refine pure_ (i := 12) (N := some 26) (v := ?_) (a' := ?_) #[true, true, true, true, true, true, true, true, true, true, true, true, true, false, false, false] rfl rfl (any_of HT_.out (by kernel_rfl)) (fun _ _ _ h => h) (Or.inl ⟨by rfl, ?_⟩) ?_ ?_
        rotate_left
        ·intro w'
         go_simp
         with_reducible rfl
        rotate_left
        ·simp only [Act.put, List.setIfInBounds_toArray, List.set_cons_zero, List.set_cons_succ, i64_w, i32_w]
         rfl
        refine last_ (i := 13) (N := none) #[true, true, true, true, true, true, true, true, true, true, true, true, true, true, false, false] rfl rfl (one_of HT_.out (by kernel_rfl)) (by decide) (fun K hK => ?_)
        refine skip_ (w1 := ?_) (by rfl) rfl ?_ ?_
        rotate_left
        ·go_simp
         rfl
        refine hK.out _ _ ?_
        clear hK K
        refine pure_ (i := 14) (N := some 27) (v := ?_) (a' := ?_) #[true, true, true, true, true, true, true, true, true, true, true, true, true, true, true, false] rfl rfl (any_of HT_.out (by kernel_rfl)) (fun _ _ _ h => h) (Or.inl ⟨by rfl, ?_⟩) ?_ ?_
        rotate_left
        ·intro w'
         go_simp
         with_reducible rfl
        rotate_left
        ·simp only [Act.put, List.setIfInBounds_toArray, List.set_cons_zero, List.set_cons_succ, i64_w, i32_w]
         rfl
        refine last_ (i := 15) (N := none) #[true, true, true, true, true, true, true, true, true, true, true, true, true, true, true, true] rfl rfl (one_of HT_.out (by kernel_rfl)) (by decide) (fun K hK => ?_)
        refine skip_ (w1 := ?_) (by rfl) rfl ?_ ?_
        rotate_left
        ·go_simp
         rfl
        refine hK.out _ _ ?_
        clear hK K
        refine done_ (done_of HT_.out (by kernel_rfl)) ?_
        try go_wp2
        (try simp only [← hl0_1])
        go_roundg k1
        case measure => have := HK1.out; omega
        case rel => exact ⟨(y187), (wrap64 (x2_1 + 1)), (wrap64 (x3_1 - 1)), (by first | rfl | (simp; done) | (simp [*]; done)), (by first | rfl | (simp; done) | (simp [*]; done)), H', ⟨by have := HK1.out; omega⟩, ⟨by (try simp only [hl0_1]); (with_reducible repeat (first | apply Kd.R_alloc | apply Kd.R_drewN | apply Kd.R_drew)); exact HQ12.out⟩, ⟨by repeat (first | (with_reducible first | exact HK.out | apply Kept.alloc | apply Kept.drewN | apply Kept.drew | refine Kept.setCell ?_ HMgo8.out _ | refine Kept.setCell ?_ HMgo8.out _) | exact HK.out)⟩, ⟨by repeat (first | (with_reducible first | exact HB.out | apply below_alloc | apply pw_below_drewN | apply below_drew1 | refine below_set ?_ GB8.out | refine below_set ?_ GB8.out) | exact HB.out)⟩⟩
       ·rw [if_neg c7] at H
        exact absurd H (by simp)
      ·rw [if_neg c6] at H
       exact absurd H (by simp)
     ·rw [if_neg c5] at H
      exact absurd H (by simp)
    ·rw [if_neg c4] at H
     exact absurd H (by simp)
   ·rw [if_neg c3] at H
    have c3b0 : decide (x2_1 < x3_1) = false := decide_eq_false c3
    clear c3
    obtain rfl := Option.some.inj H
    go_wp2
    first | go_end0 | ((try simp only [Exit.inBlock, Exit.then]); refine bodyPost_ret (results_none rfl _ _ _) rfl ?_)
    exact ⟨by first | rfl | (simp [errW_none, errW_some] <;> rfl) | (simp [*, errW_none, errW_some] <;> rfl), (by first | exact (by (with_reducible repeat (first | apply Kd.R_alloc | apply Kd.R_drewN | apply Kd.R_drew)); exact HO_0.out) | (simp only [hl0_1]; exact (by (with_reducible repeat (first | apply Kd.R_alloc | apply Kd.R_drewN | apply Kd.R_drew)); exact HO_0.out))), by repeat (first | (with_reducible first | exact HB.out | apply below_alloc | apply pw_below_drewN | apply below_drew1) | exact HB.out), by repeat (first | (with_reducible first | exact HK.out | apply Kept.alloc | apply Kept.drewN | apply Kept.drew) | exact HK.out)⟩
end Go.Proofs.Ytkkhhbegeboonaa.GAll
namespace Go.Proofs.Ytkkhhbegeboonaa.GAll
open Go.RowKit Go.Proofs.YtkkhhbegeboonaaW.PrintWords Go.Proofs.YtkkhhbegeboonaaW.PrintLast Go.Proofs.YtkkhhbegeboonaaW.PrintMore
attribute [local go_sem] max2_int min2_int max_two min_two max_three min_three max_four min_four   -- for this text's walks alone
set_option linter.unusedVariables false
set_option linter.unusedSimpArgs false
def rot_Mirror.fit (k : Nat) (l0 : List (List Int)) : Bool := decide (l0.length * 24 ≤ 140737488355328) && l0.all fun l => (rot_least.f k l.reverse == some ((Rot.leastAt l.reverse : Nat) : Int)) && ((slices_Reverse_int_int.f k l == some l.reverse) && decide (l.length * 8 ≤ 140737488355328))
def rot_Mirror.f (k : Nat) (l0 : List (List Int)) : Option (List (List Int)) := if rot_Mirror.fit k l0 = true then some ((l0.map List.reverse).map Rot.turnl) else none
theorem rot_Mirror.fit_mono {k : Nat} {l0 : List (List Int)} (h : rot_Mirror.fit k l0 = true) : rot_Mirror.fit (k + 1) l0 = true := by
 unfold rot_Mirror.fit at h ⊢
 rw [Bool.and_eq_true, List.all_eq_true] at h ⊢
 refine ⟨h.1, fun l hl => ?_⟩
 have := h.2 l hl
 rw [Bool.and_eq_true, Bool.and_eq_true, beq_iff_eq, beq_iff_eq] at this ⊢
 exact ⟨rot_least.mono _ k _ this.1, slices_Reverse_int_int.mono _ k _ this.2.1, this.2.2⟩
theorem rot_Mirror.mono : ∀ a0 k, LeO (rot_Mirror.f k a0) (rot_Mirror.f (k + 1) a0) := by
 intro a0 k r h
 unfold rot_Mirror.f at h ⊢
 by_cases hf : rot_Mirror.fit k a0 = true
 ·rw [if_pos hf] at h
  rw [if_pos (rot_Mirror.fit_mono hf)]
  exact h
 ·rw [if_neg hf] at h; cases h
theorem rot_Mirror.at_ {k : Nat} {l0 : List (List Int)} (h : rot_Mirror.fit k l0 = true) : l0.length * 24 ≤ 140737488355328 ∧ ∀ j, j < l0.length → rot_least.f k (Mem.gl l0 j).reverse = some ((Rot.leastAt (Mem.gl l0 j).reverse : Nat) : Int) ∧ slices_Reverse_int_int.f k (Mem.gl l0 j) = some (Mem.gl l0 j).reverse ∧ (Mem.gl l0 j).length * 8 ≤ 140737488355328 := by
 unfold rot_Mirror.fit at h
 rw [Bool.and_eq_true, List.all_eq_true, decide_eq_true_eq] at h
 refine ⟨h.1, fun j hj => ?_⟩
 have hm : Mem.gl l0 j ∈ l0 := by
  unfold Mem.gl
  rw [List.getD_eq_getElem?_getD, List.getElem?_eq_getElem hj]
  exact List.getElem_mem hj
 have := h.2 _ hm
 rw [Bool.and_eq_true, Bool.and_eq_true, beq_iff_eq, beq_iff_eq, decide_eq_true_eq] at this
 exact this
theorem rot_Mirror.least {k : Nat} {l0 : List (List Int)} (h : rot_Mirror.fit k l0 = true) : Rot.LeastSays (l0.map List.reverse) := by
 intro j A c W hj hC hc
 rw [List.length_map] at hj
 have e : Mem.gl (l0.map List.reverse) j = (Mem.gl l0 j).reverse := by unfold Mem.gl; simp [List.getD_eq_getElem?_getD, hj]
 rw [e] at hC hc ⊢
 exact (rot_least.calls k A c _ _ W hC hc ((rot_Mirror.at_ h).2 j hj).1).mono fun e w' ⟨h1, h2⟩ => ⟨h1, h2.below⟩
theorem rot_Mirror.rev {k : Nat} {l0 : List (List Int)} (h : rot_Mirror.fit k l0 = true) : Rot.ReverseSays l0 := by
 intro j v W0 W hj hB hR
 refine (slices_Reverse_int_int.calls k (fun q => v.ownBlock = some q) v (Mem.gl l0 j) (Mem.gl l0 j).reverse W0 W hB hR ((rot_Mirror.at_ h).2 j hj).2.1).mono fun e w' ⟨h1, h2, h3, h4⟩ => ⟨h1, ?_, h4.1, fun b hb hn => h4.2 b hb hn, h3⟩
 have := Kd.own_of_R h2
 rw [List.length_reverse] at this
 exact this
theorem rot_Mirror.calls (k : Nat) (A0 : Option Addr) (c0 : Nat) (l0 : List (List Int)) (r : List (List Int)) (w : World) (hr0 : Kd.C (Kd.slice 3 (Kd.int .i64)) w A0 l0.length l0) (hc0 : l0.length ≤ c0) (h : rot_Mirror.f k l0 = some r) :
  Calls Try.prog 27 #[.slice A0 l0.length c0] w fun e w' => ∃ v0_ : Value, e = .returned (v0_) ∧ Kd.S (Kd.slice 3 (Kd.int .i64)) 28 w' w.heap.size (fun _ => True) v0_ r ∧ Below w.heap.size w w' := by
 unfold rot_Mirror.f at h
 by_cases hf : rot_Mirror.fit k l0 = true
 ·rw [if_pos hf] at h
  obtain rfl : (l0.map List.reverse).map Rot.turnl = r := by simpa using h
  obtain ⟨h1, h2⟩ := rot_Mirror.at_ hf
  exact Rot.mirror_calls A0 c0 l0 w hr0 h1 (fun j hj => (h2 j hj).2.2) (rot_Mirror.rev hf) (rot_Mirror.least hf)
 ·rw [if_neg hf] at h; cases h
end Go.Proofs.Ytkkhhbegeboonaa.GAll
namespace Go.Proofs.Ytkkhhbegeboonaa.GAll
open Go.RowKit Go.Proofs.YtkkhhbegeboonaaW.PrintWords Go.Proofs.YtkkhhbegeboonaaW.PrintLast Go.Proofs.YtkkhhbegeboonaaW.PrintMore
attribute [local go_sem] max2_int min2_int max_two min_two max_three min_three max_four min_four   -- for this text's walks alone
set_option linter.unusedVariables false
set_option linter.unusedSimpArgs false
def tangramref11_Turned.l0 : Nat → List Int → Int → List Int → Int → Option (List Int)
 | 0, _, _, _, _ => none
 | k + 1, x0, x1, x5, x6 => if x6 < (x0.length : Int) then (if (x0.length : Int) = 0 then (none) else (if 0 ≤ (Int.tmod (wrap64 (x1 + x6)) (x0.length : Int)) then (if (Int.tmod (wrap64 (x1 + x6)) (x0.length : Int)) < (x0.length : Int) then (if x5.length < 17592186044416 then (tangramref11_Turned.l0 k x0 x1 (x5 ++ [rd x0 (Int.tmod (wrap64 (x1 + x6)) (x0.length : Int))]) (wrap64 (x6 + 1))) else (none)) else (none)) else (none))) else (some x5)
def tangramref11_Turned.f (k : Nat) (l0 : List Int) (a1 : Int) : Option (List Int) := tangramref11_Turned.l0 k l0 a1 ([] : List Int) 0
theorem tangramref11_Turned.mono_l : ∀ k, (∀ y0 y1 y2 y3, LeO (tangramref11_Turned.l0 k y0 y1 y2 y3) (tangramref11_Turned.l0 (k + 1) y0 y1 y2 y3))
 | 0 => fun _ _ _ _ r h => by simp [tangramref11_Turned.l0] at h
 | k + 1 => by
  have ih0 := tangramref11_Turned.mono_l k
  ·intro y0 y1 y2 y3
   unfold tangramref11_Turned.l0
   repeat' first
   | (with_reducible exact ih0 _ _ _ _)
   | (with_reducible exact LeO.refl _)
   | (with_reducible exact LeO.none _)
   | (with_reducible refine LeO.ite ?_ ?_)
   | (with_reducible refine LeO.bind ?_ (fun _ => ?_))
   | exact ih0 _ _ _ _
   | exact LeO.none _
   | refine LeO.ite ?_ ?_
   | refine LeO.bind ?_ (fun _ => ?_)
theorem tangramref11_Turned.mono : ∀ a0 a1 k, LeO (tangramref11_Turned.f k a0 a1) (tangramref11_Turned.f (k + 1) a0 a1) := by
 intro a0 a1 k
 have ih0 := tangramref11_Turned.mono_l k
 unfold tangramref11_Turned.f
 repeat' first
   | (with_reducible exact ih0 _ _ _ _)
   | (with_reducible exact LeO.refl _)
   | (with_reducible exact LeO.none _)
   | (with_reducible refine LeO.ite ?_ ?_)
   | (with_reducible refine LeO.bind ?_ (fun _ => ?_))
   | exact ih0 _ _ _ _
   | exact LeO.none _
   | refine LeO.ite ?_ ?_
   | refine LeO.bind ?_ (fun _ => ?_)
set_option maxHeartbeats 8000000 in
set_option maxRecDepth 100000 in
theorem tangramref11_Turned.calls (k : Nat) (A0 : Option Addr) (c0 : Nat) (l0 : List Int) (a1 : Int) (r : List Int) (w : World) (hr0 : Kd.C (Kd.int .i64) w A0 l0.length l0) (hc0 : l0.length ≤ c0) (h : tangramref11_Turned.f k l0 a1 = some r) :
  Calls Try.prog 49 #[.slice A0 l0.length c0, .int .i64 a1] w fun e w' => ∃ v0_ : Value, e = .returned (v0_) ∧ Kd.R (Kd.int .i64) 3 w' w.heap.size (fun _ => True) v0_ r ∧ Below w.heap.size w w' := by
 have HR0 := Aside0.mk hr0
 have HC0 := Aside0.mk hc0
 clear hr0 hc0
 have HB := Aside0.mk (Below.refl w.heap.size w)
 have H : (tangramref11_Turned.l0 k l0 a1 ([] : List Int) 0) = some r := h
 clear h
 have H' := Aside0.mk H
 clear H
 go_enter Try.func49, Try.ntmps49
 go_wp2
 go_loopg [5, 6] k (fun kq v5 v6 w' => ∃ (x5_1 : List Int) (x6_1 : Int), v6 = .int .i64 x6_1 ∧ Aside0 (tangramref11_Turned.l0 kq l0 a1 x5_1 x6_1 = some r) ∧ Aside0 (kq ≤ k) ∧ Aside0 (Kd.R (Kd.int .i64) 3 w' w.heap.size (fun _ => True) v5 x5_1) ∧ Aside0 (Below w.heap.size w w'))
 case atStart => exact ⟨(([] : List Int)), (0), (by first | rfl | (simp; done) | (simp [*]; done)), H', ⟨Nat.le_refl _⟩, ⟨by first | exact Kd.R_nil _ _ _ _ _ | exact Kd.N_nil _ _ _ _ _ | exact Kd.V_nil _ _ _ _ _ | exact Kd.Q_nil _ _ _ _ _ | exact Kd.S_nil _ _ _ _ _⟩, ⟨by repeat (first | (with_reducible first | exact HB.out | apply below_alloc | apply pw_below_drewN | apply below_drew1) | exact HB.out)⟩⟩
 case round =>
  clear H'
  try clear p2
  obtain ⟨x5_1, x6_1, rfl, HA, HK1, HO_5, HB⟩ := hrel
  cases gk with
  | zero => exact absurd HA.out (by simp [tangramref11_Turned.l0])
  | succ k1 =>
   have H := HA.out
   clear HA
   simp only [tangramref11_Turned.l0] at H
   by_cases c3 : x6_1 < (l0.length : Int)
   ·rw [if_pos c3] at H
    have c3b0 : decide (x6_1 < (l0.length : Int)) = true := decide_eq_true c3
    clear c3
    by_cases c4 : (l0.length : Int) = 0
    ·rw [if_pos c4] at H
     exact absurd H (by simp)
    ·rw [if_neg c4] at H
     have c4b0 : ((l0.length : Int) == 0) = false := beq_eq_false_iff_ne.mpr c4
     have c4b1 : ((l0.length : Int) != 0) = true := bne_iff_ne.mpr c4
     have c4b2 : ¬ (l0 = []) := fun h_ => c4 (by rw [h_]; rfl)
     obtain ⟨ji5, hji5⟩ : ∃ j_ : Int, (Int.tmod (wrap64 (a1 + x6_1)) (l0.length : Int)) = j_ := ⟨_, rfl⟩
     replace H : (if 0 ≤ (ji5) then (if (ji5) < (l0.length : Int) then (if x5_1.length < 17592186044416 then (tangramref11_Turned.l0 k1 l0 a1 (x5_1 ++ [rd l0 (ji5)]) (wrap64 (x6_1 + 1))) else (none)) else (none)) else (none)) = some r := by first | (rw [hji5] at H; exact H) | (simp only [hji5] at H ⊢; exact H)
     by_cases c6 : 0 ≤ (ji5)
     ·rw [if_pos c6] at H
      have c6b0 : decide (0 ≤ (ji5)) = true := decide_eq_true c6
      clear c6
      by_cases c7 : (ji5) < (l0.length : Int)
      ·rw [if_pos c7] at H
       have c7b0 : decide ((ji5) < (l0.length : Int)) = true := decide_eq_true c7
       clear c7
       by_cases c8 : x5_1.length < 17592186044416
       ·rw [if_pos c8] at H
        have LMc8 := Aside0.mk c8
        clear c8
        obtain ⟨y169, hy169⟩ : ∃ y_ : List Int, y_ = (x5_1 ++ [rd l0 (ji5)]) := ⟨_, rfl⟩
        replace H : (tangramref11_Turned.l0 k1 l0 a1 y169 (wrap64 (x6_1 + 1))) = some r := by first | (rw [hy169]; with_reducible exact H) | (have H2_ := (Option.bind_some _ _).symm.trans H; rw [hy169]; with_reducible exact H2_) | (have H2_ := (Option.bind_some _ _).symm.trans H; with_reducible exact H2_) | with_reducible exact H | (rw [hy169]; exact H) | exact H
        have Ny169 := Aside0.mk hy169
        clear hy169
        have H' := Aside0.mk H
        clear H
        have p168 : 0 ≤ ((ji5) : Int) := of_decide_eq_true (by first | (with_reducible assumption) | assumption)
        have q168 : (ji5) < (l0.length : Int) := of_decide_eq_true (by first | (with_reducible assumption) | assumption)
        obtain ⟨ad168, e168, hx168_0⟩ := Kd.at_int HR0.out (ji5) p168 q168
        cases e168
        replace hx168_0 := (HB.out.cell (World.block_lt_of_cell? w _ hx168_0)).trans hx168_0
        replace p168 := eq_true p168
        replace q168 := eq_true q168
        go_wp2_with (first | ((with_reducible refine gate_builtin (b := .append) (xs := #[.tmp 13, .tmp 23]) rfl ?_); at_builtin; refine Kd.R_append (Kd.int .i64) (w0 := w) w.heap.size rfl (.tmp 13) (.tmp 23) 28 3 (.int .i64 0) 8 rfl Try.underlying28 info3 rfl (by decide) (by omega) u5 x5_1 (rd l0 (ji5)) [.int .i64 (rd l0 (ji5))] (fun _ => True) (fun _ => False) rfl rfl ?aP (fun _ hk => hk.elim) ?aF ?aO ?aB ?aS ?aL ?_; (case aP => exact rfl); (case aB => exact (by repeat (first | (with_reducible first | exact HB.out | apply below_alloc | apply pw_below_drewN | apply below_drew1) | exact HB.out))); (case aF => exact (fun _ _ => trivial)); (case aO => exact (by (with_reducible repeat (first | apply Kd.R_alloc | apply Kd.R_drewN | apply Kd.R_drew)); exact HO_5.out)); (case aS => exact (below_size (by repeat (first | (with_reducible first | exact HB.out | apply below_alloc | apply pw_below_drewN | apply below_drew1) | exact HB.out)))); (case aL => have := LMc8.out; omega); intro v170 w9 ho hb hg hat; rw [← Ny169.out] at ho; have n0_ := Aside0.mk (hb); have n1_ := Aside0.mk (ho); clear HB; clear HO_5; have HB := n0_; have HO171 := n1_; clear n0_ n1_; clear ho hb hg hat))
        go_roundg k1
        case measure => have := HK1.out; omega
        case rel => exact ⟨(y169), (wrap64 (x6_1 + 1)), (by first | rfl | (simp; done) | (simp [*]; done)), H', ⟨by have := HK1.out; omega⟩, ⟨by (with_reducible repeat (first | apply Kd.R_alloc | apply Kd.R_drewN | apply Kd.R_drew)); exact HO171.out⟩, ⟨by repeat (first | (with_reducible first | exact HB.out | apply below_alloc | apply pw_below_drewN | apply below_drew1) | exact HB.out)⟩⟩
       ·rw [if_neg c8] at H
        exact absurd H (by simp)
      ·rw [if_neg c7] at H
       exact absurd H (by simp)
     ·rw [if_neg c6] at H
      exact absurd H (by simp)
   ·rw [if_neg c3] at H
    have c3b0 : decide (x6_1 < (l0.length : Int)) = false := decide_eq_false c3
    clear c3
    obtain rfl := Option.some.inj H
    go_wp2
    go_ret
    exact ⟨_, by first | rfl | (simp [errW_none, errW_some] <;> rfl) | (simp [*, errW_none, errW_some] <;> rfl), by (with_reducible repeat (first | apply Kd.R_alloc | apply Kd.R_drewN | apply Kd.R_drew)); exact HO_5.out, by repeat (first | (with_reducible first | exact HB.out | apply below_alloc | apply pw_below_drewN | apply below_drew1) | exact HB.out)⟩
end Go.Proofs.Ytkkhhbegeboonaa.GAll
namespace Go.Proofs.Ytkkhhbegeboonaa.GAll
open Go.RowKit Go.Proofs.YtkkhhbegeboonaaW.PrintWords Go.Proofs.YtkkhhbegeboonaaW.PrintLast Go.Proofs.YtkkhhbegeboonaaW.PrintMore
attribute [local go_sem] max2_int min2_int max_two min_two max_three min_three max_four min_four   -- for this text's walks alone
set_option linter.unusedVariables false
set_option linter.unusedSimpArgs false
mutual
def tangramref11_Canon.l0 : Nat → List (List Int) → List (List Int) → Int → Option ((List (List Int)))
 | 0, _, _, _ => none
 | k + 1, x0, x3, x4 => if x4 < (x0.length : Int) then (tangramref11_Canon.l1 k x0 x3 x4 0 0) else (some x3)
def tangramref11_Canon.l1 : Nat → List (List Int) → List (List Int) → Int → Int → Int → Option ((List (List Int)))
 | 0, _, _, _, _, _ => none
 | k + 1, x0, x3, x4, x5, x6 => if 0 ≤ x4 then (if x4 < (x0.length : Int) then (if x6 < ((rd_L5 x0 x4).length : Int) then (if 0 ≤ x6 then (if 0 ≤ x5 then (if x5 < ((rd_L5 x0 x4).length : Int) then (if (rd (rd_L5 x0 x4) x6) < (rd (rd_L5 x0 x4) x5) then (tangramref11_Canon.l1 k x0 x3 x4 x6 (wrap64 (x6 + 1))) else (tangramref11_Canon.l1 k x0 x3 x4 x5 (wrap64 (x6 + 1)))) else (none)) else (none)) else (none)) else ((tangramref11_Turned.f k (rd_L5 x0 x4) x5).bind fun t178 => (if x3.length < 5864062014805 then (tangramref11_Canon.l0 k x0 (x3 ++ [t178]) (wrap64 (x4 + 1))) else (none)))) else (none)) else (none)
end
def tangramref11_Canon.f (k : Nat) (l0 : List (List Int)) : Option ((List (List Int))) := tangramref11_Canon.l0 k l0 ([] : List (List Int)) 0
theorem tangramref11_Canon.mono_l : ∀ k, (∀ y0 y1 y2, LeO (tangramref11_Canon.l0 k y0 y1 y2) (tangramref11_Canon.l0 (k + 1) y0 y1 y2)) ∧ (∀ y0 y1 y2 y3 y4, LeO (tangramref11_Canon.l1 k y0 y1 y2 y3 y4) (tangramref11_Canon.l1 (k + 1) y0 y1 y2 y3 y4))
 | 0 => ⟨fun _ _ _ r h => by simp [tangramref11_Canon.l0] at h, fun _ _ _ _ _ r h => by simp [tangramref11_Canon.l1] at h⟩
 | k + 1 => by
  obtain ⟨ih0, ih1⟩ := tangramref11_Canon.mono_l k
  refine ⟨?_, ?_⟩
  ·intro y0 y1 y2
   unfold tangramref11_Canon.l0
   repeat' first
   | (with_reducible exact ih0 _ _ _)
   | (with_reducible exact ih1 _ _ _ _ _)
   | (with_reducible exact tangramref11_Turned.mono _ _ _)
   | (with_reducible exact LeO.refl _)
   | (with_reducible exact LeO.none _)
   | (with_reducible refine LeO.ite ?_ ?_)
   | (with_reducible refine LeO.bind ?_ (fun _ => ?_))
   | exact ih0 _ _ _
   | exact ih1 _ _ _ _ _
   | exact tangramref11_Turned.mono _ _ _
   | exact LeO.none _
   | refine LeO.ite ?_ ?_
   | refine LeO.bind ?_ (fun _ => ?_)
  ·intro y0 y1 y2 y3 y4
   unfold tangramref11_Canon.l1
   repeat' first
   | (with_reducible exact ih0 _ _ _)
   | (with_reducible exact ih1 _ _ _ _ _)
   | (with_reducible exact tangramref11_Turned.mono _ _ _)
   | (with_reducible exact LeO.refl _)
   | (with_reducible exact LeO.none _)
   | (with_reducible refine LeO.ite ?_ ?_)
   | (with_reducible refine LeO.bind ?_ (fun _ => ?_))
   | exact ih0 _ _ _
   | exact ih1 _ _ _ _ _
   | exact tangramref11_Turned.mono _ _ _
   | exact LeO.none _
   | refine LeO.ite ?_ ?_
   | refine LeO.bind ?_ (fun _ => ?_)
theorem tangramref11_Canon.mono : ∀ a0 k, LeO (tangramref11_Canon.f k a0) (tangramref11_Canon.f (k + 1) a0) := by
 intro a0 k
 obtain ⟨ih0, ih1⟩ := tangramref11_Canon.mono_l k
 unfold tangramref11_Canon.f
 repeat' first
   | (with_reducible exact ih0 _ _ _)
   | (with_reducible exact ih1 _ _ _ _ _)
   | (with_reducible exact tangramref11_Turned.mono _ _ _)
   | (with_reducible exact LeO.refl _)
   | (with_reducible exact LeO.none _)
   | (with_reducible refine LeO.ite ?_ ?_)
   | (with_reducible refine LeO.bind ?_ (fun _ => ?_))
   | exact ih0 _ _ _
   | exact ih1 _ _ _ _ _
   | exact tangramref11_Turned.mono _ _ _
   | exact LeO.none _
   | refine LeO.ite ?_ ?_
   | refine LeO.bind ?_ (fun _ => ?_)
set_option maxHeartbeats 8000000 in
set_option maxRecDepth 100000 in
theorem tangramref11_Canon.calls (k : Nat) (A0 : Option Addr) (c0 : Nat) (l0 : List (List Int)) (r : List (List Int)) (w : World) (hr0 : Kd.C (Kd.slice 3 (Kd.int .i64)) w A0 l0.length l0) (hc0 : l0.length ≤ c0) (h : tangramref11_Canon.f k l0 = some r) :
  Calls Try.prog 26 #[.slice A0 l0.length c0] w fun e w' => ∃ v0_ : Value, e = .returned (v0_) ∧ Kd.S (Kd.slice 3 (Kd.int .i64)) 28 w' w.heap.size (fun _ => True) v0_ r ∧ Below w.heap.size w w' := by
 have HR0 := Aside0.mk hr0
 have HC0 := Aside0.mk hc0
 clear hr0 hc0
 have HB := Aside0.mk (Below.refl w.heap.size w)
 have H : (tangramref11_Canon.l0 k l0 ([] : List (List Int)) 0) = some r := h
 clear h
 have H' := Aside0.mk H
 clear H
 go_enter Try.func26, Try.ntmps26
 go_wp2
 repeat (go_quiet (fail); try go_wp2)
 go_loopg [3, 4] k (fun kq v3 v4 w' => ∃ (x3_1 : List (List Int)) (x4_1 : Int), v4 = .int .i64 x4_1 ∧ Aside0 (tangramref11_Canon.l0 kq l0 x3_1 x4_1 = some r) ∧ Aside0 (kq ≤ k) ∧ Aside0 (Kd.S (Kd.slice 3 (Kd.int .i64)) 28 w' w.heap.size (fun _ => True) v3 x3_1) ∧ Aside0 (Below w.heap.size w w'))
 case atStart => exact ⟨(([] : List (List Int))), (0), (by first | rfl | (simp; done) | (simp [*]; done)), H', ⟨Nat.le_refl _⟩, ⟨by first | exact Kd.S_nil _ _ _ _ _ | exact Kd.N_nil _ _ _ _ _ | exact Kd.V_nil _ _ _ _ _ | exact Kd.Q_nil _ _ _ _ _ | exact Kd.R_nil _ _ _ _ _⟩, ⟨by repeat (first | (with_reducible first | exact HB.out | apply below_alloc | apply pw_below_drewN | apply below_drew1) | exact HB.out)⟩⟩
 case round =>
  clear H'
  obtain ⟨x3_1, x4_1, rfl, HA, HK1, HO_3, HB⟩ := hrel
  cases gk with
  | zero => exact absurd HA.out (by simp [tangramref11_Canon.l0])
  | succ k1 =>
   have H := HA.out
   clear HA
   simp only [tangramref11_Canon.l0] at H
   by_cases c2 : x4_1 < (l0.length : Int)
   ·rw [if_pos c2] at H
    have c2b0 : decide (x4_1 < (l0.length : Int)) = true := decide_eq_true c2
    clear c2
    have H' := Aside0.mk H
    clear H
    go_wp2
    repeat (go_quiet (fail); try go_wp2)
    go_loopg [5, 6] k1 (fun kq v5 v6 w' => ∃ (x5_2 : Int) (x6_2 : Int), v5 = .int .i64 x5_2 ∧ v6 = .int .i64 x6_2 ∧ Aside0 (tangramref11_Canon.l1 kq l0 x3_1 x4_1 x5_2 x6_2 = some r) ∧ Aside0 (kq ≤ k1) ∧ Aside0 (Kd.S (Kd.slice 3 (Kd.int .i64)) 28 w' w.heap.size (fun _ => True) u3 x3_1) ∧ Aside0 (Below w.heap.size w w'))
    case atStart => exact ⟨(0), (0), (by first | rfl | (simp; done) | (simp [*]; done)), (by first | rfl | (simp; done) | (simp [*]; done)), H', ⟨Nat.le_refl _⟩, ⟨by (with_reducible repeat (first | apply Kd.S_alloc | apply Kd.S_drewN | apply Kd.S_drew)); exact HO_3.out⟩, ⟨by repeat (first | (with_reducible first | exact HB.out | apply below_alloc | apply pw_below_drewN | apply below_drew1) | exact HB.out)⟩⟩
    case round =>
     clear H'
     try clear c2
     try clear c2b0
     try clear p2
     obtain ⟨x5_2, x6_2, rfl, rfl, HA, HK2, HO_3, HB⟩ := hrel
     cases gk with
     | zero => exact absurd HA.out (by simp [tangramref11_Canon.l1])
     | succ k2 =>
      have H := HA.out
      clear HA
      simp only [tangramref11_Canon.l1] at H
      by_cases c3 : 0 ≤ x4_1
      ·rw [if_pos c3] at H
       have c3b0 : decide (0 ≤ x4_1) = true := decide_eq_true c3
       clear c3
       by_cases c4 : x4_1 < (l0.length : Int)
       ·rw [if_pos c4] at H
        have c4b0 : decide (x4_1 < (l0.length : Int)) = true := decide_eq_true c4
        clear c4
        by_cases c5 : x6_2 < ((rd_L5 l0 x4_1).length : Int)
        ·rw [if_pos c5] at H
         have c5b0 : decide (x6_2 < ((rd_L5 l0 x4_1).length : Int)) = true := decide_eq_true c5
         clear c5
         by_cases c6 : 0 ≤ x6_2
         ·rw [if_pos c6] at H
          have c6b0 : decide (0 ≤ x6_2) = true := decide_eq_true c6
          clear c6
          by_cases c7 : 0 ≤ x5_2
          ·rw [if_pos c7] at H
           have c7b0 : decide (0 ≤ x5_2) = true := decide_eq_true c7
           clear c7
           by_cases c8 : x5_2 < ((rd_L5 l0 x4_1).length : Int)
           ·rw [if_pos c8] at H
            have c8b0 : decide (x5_2 < ((rd_L5 l0 x4_1).length : Int)) = true := decide_eq_true c8
            clear c8
            by_cases c9 : (rd (rd_L5 l0 x4_1) x6_2) < (rd (rd_L5 l0 x4_1) x5_2)
            ·rw [if_pos c9] at H
             have c9b0 : decide ((rd (rd_L5 l0 x4_1) x6_2) < (rd (rd_L5 l0 x4_1) x5_2)) = true := decide_eq_true c9
             clear c9
             have H' := Aside0.mk H
             clear H
             have p172 : 0 ≤ (x4_1 : Int) := of_decide_eq_true (by first | (with_reducible assumption) | assumption)
             have q172 : x4_1 < (l0.length : Int) := of_decide_eq_true (by first | (with_reducible assumption) | assumption)
             obtain ⟨ad172, A172_0, c172_0, e172, hx172_0, hl172_0, hi172_0⟩ := at_L5 HR0.out x4_1 p172 q172
             cases e172
             replace hx172_0 := (HB.out.cell (World.block_lt_of_cell? w _ hx172_0)).trans hx172_0
             have HR172_0 := Aside0.mk hi172_0
             have HC172_0 := Aside0.mk hl172_0
             clear hi172_0 hl172_0
             replace p172 := eq_true p172
             replace q172 := eq_true q172
             have p173 : 0 ≤ (x4_1 : Int) := of_decide_eq_true (by first | (with_reducible assumption) | assumption)
             have q173 : x4_1 < (l0.length : Int) := of_decide_eq_true (by first | (with_reducible assumption) | assumption)
             obtain ⟨ad173, A173_0, c173_0, e173, hx173_0, hl173_0, hi173_0⟩ := at_L5 HR0.out x4_1 p173 q173
             obtain rfl : ad172 = ad173 := (by injection e173)
             replace hx173_0 := (HB.out.cell (World.block_lt_of_cell? w _ hx173_0)).trans hx173_0
             have HR173_0 := Aside0.mk hi173_0
             have HC173_0 := Aside0.mk hl173_0
             clear hi173_0 hl173_0
             replace p173 := eq_true p173
             replace q173 := eq_true q173
             have ea_ := Option.some.inj (hx172_0.symm.trans hx173_0)
             injection ea_ with ea_ en_ ec_
             subst ea_
             subst ec_
             clear en_
             have p174 : 0 ≤ (x6_2 : Int) := of_decide_eq_true (by first | (with_reducible assumption) | assumption)
             have q174 : x6_2 < ((rd_L5 l0 x4_1).length : Int) := of_decide_eq_true (by first | (with_reducible assumption) | assumption)
             obtain ⟨ad174, e174, hx174_0⟩ := Kd.at_int HR173_0.out x6_2 p174 q174
             cases e174
             replace hx174_0 := (HB.out.cell (World.block_lt_of_cell? w _ hx174_0)).trans hx174_0
             replace p174 := eq_true p174
             replace q174 := eq_true q174
             have p175 : 0 ≤ (x4_1 : Int) := of_decide_eq_true (by first | (with_reducible assumption) | assumption)
             have q175 : x4_1 < (l0.length : Int) := of_decide_eq_true (by first | (with_reducible assumption) | assumption)
             obtain ⟨ad175, A175_0, c175_0, e175, hx175_0, hl175_0, hi175_0⟩ := at_L5 HR0.out x4_1 p175 q175
             obtain rfl : ad172 = ad175 := (by injection e175)
             replace hx175_0 := (HB.out.cell (World.block_lt_of_cell? w _ hx175_0)).trans hx175_0
             have HR175_0 := Aside0.mk hi175_0
             have HC175_0 := Aside0.mk hl175_0
             clear hi175_0 hl175_0
             replace p175 := eq_true p175
             replace q175 := eq_true q175
             have ea_ := Option.some.inj (hx172_0.symm.trans hx175_0)
             injection ea_ with ea_ en_ ec_
             subst ea_
             subst ec_
             clear en_
             have p176 : 0 ≤ (x5_2 : Int) := of_decide_eq_true (by first | (with_reducible assumption) | assumption)
             have q176 : x5_2 < ((rd_L5 l0 x4_1).length : Int) := of_decide_eq_true (by first | (with_reducible assumption) | assumption)
             obtain ⟨ad176, e176, hx176_0⟩ := Kd.at_int HR175_0.out x5_2 p176 q176
             cases e176
             replace hx176_0 := (HB.out.cell (World.block_lt_of_cell? w _ hx176_0)).trans hx176_0
             replace p176 := eq_true p176
             replace q176 := eq_true q176
             go_wp2
             repeat (go_quiet (fail); try go_wp2)
             go_roundg k2
             case measure => have := HK1.out; have := HK2.out; omega
             case rel => exact ⟨(x6_2), (wrap64 (x6_2 + 1)), (by first | rfl | (simp; done) | (simp [*]; done)), (by first | rfl | (simp; done) | (simp [*]; done)), H', ⟨by have := HK1.out; have := HK2.out; omega⟩, ⟨by (with_reducible repeat (first | apply Kd.S_alloc | apply Kd.S_drewN | apply Kd.S_drew)); exact HO_3.out⟩, ⟨by repeat (first | (with_reducible first | exact HB.out | apply below_alloc | apply pw_below_drewN | apply below_drew1) | exact HB.out)⟩⟩
            ·rw [if_neg c9] at H
             have c9b0 : decide ((rd (rd_L5 l0 x4_1) x6_2) < (rd (rd_L5 l0 x4_1) x5_2)) = false := decide_eq_false c9
             clear c9
             have H' := Aside0.mk H
             clear H
             have p172 : 0 ≤ (x4_1 : Int) := of_decide_eq_true (by first | (with_reducible assumption) | assumption)
             have q172 : x4_1 < (l0.length : Int) := of_decide_eq_true (by first | (with_reducible assumption) | assumption)
             obtain ⟨ad172, A172_0, c172_0, e172, hx172_0, hl172_0, hi172_0⟩ := at_L5 HR0.out x4_1 p172 q172
             cases e172
             replace hx172_0 := (HB.out.cell (World.block_lt_of_cell? w _ hx172_0)).trans hx172_0
             have HR172_0 := Aside0.mk hi172_0
             have HC172_0 := Aside0.mk hl172_0
             clear hi172_0 hl172_0
             replace p172 := eq_true p172
             replace q172 := eq_true q172
             have p173 : 0 ≤ (x4_1 : Int) := of_decide_eq_true (by first | (with_reducible assumption) | assumption)
             have q173 : x4_1 < (l0.length : Int) := of_decide_eq_true (by first | (with_reducible assumption) | assumption)
             obtain ⟨ad173, A173_0, c173_0, e173, hx173_0, hl173_0, hi173_0⟩ := at_L5 HR0.out x4_1 p173 q173
             obtain rfl : ad172 = ad173 := (by injection e173)
             replace hx173_0 := (HB.out.cell (World.block_lt_of_cell? w _ hx173_0)).trans hx173_0
             have HR173_0 := Aside0.mk hi173_0
             have HC173_0 := Aside0.mk hl173_0
             clear hi173_0 hl173_0
             replace p173 := eq_true p173
             replace q173 := eq_true q173
             have ea_ := Option.some.inj (hx172_0.symm.trans hx173_0)
             injection ea_ with ea_ en_ ec_
             subst ea_
             subst ec_
             clear en_
             have p174 : 0 ≤ (x6_2 : Int) := of_decide_eq_true (by first | (with_reducible assumption) | assumption)
             have q174 : x6_2 < ((rd_L5 l0 x4_1).length : Int) := of_decide_eq_true (by first | (with_reducible assumption) | assumption)
             obtain ⟨ad174, e174, hx174_0⟩ := Kd.at_int HR173_0.out x6_2 p174 q174
             cases e174
             replace hx174_0 := (HB.out.cell (World.block_lt_of_cell? w _ hx174_0)).trans hx174_0
             replace p174 := eq_true p174
             replace q174 := eq_true q174
             have p175 : 0 ≤ (x4_1 : Int) := of_decide_eq_true (by first | (with_reducible assumption) | assumption)
             have q175 : x4_1 < (l0.length : Int) := of_decide_eq_true (by first | (with_reducible assumption) | assumption)
             obtain ⟨ad175, A175_0, c175_0, e175, hx175_0, hl175_0, hi175_0⟩ := at_L5 HR0.out x4_1 p175 q175
             obtain rfl : ad172 = ad175 := (by injection e175)
             replace hx175_0 := (HB.out.cell (World.block_lt_of_cell? w _ hx175_0)).trans hx175_0
             have HR175_0 := Aside0.mk hi175_0
             have HC175_0 := Aside0.mk hl175_0
             clear hi175_0 hl175_0
             replace p175 := eq_true p175
             replace q175 := eq_true q175
             have ea_ := Option.some.inj (hx172_0.symm.trans hx175_0)
             injection ea_ with ea_ en_ ec_
             subst ea_
             subst ec_
             clear en_
             have p176 : 0 ≤ (x5_2 : Int) := of_decide_eq_true (by first | (with_reducible assumption) | assumption)
             have q176 : x5_2 < ((rd_L5 l0 x4_1).length : Int) := of_decide_eq_true (by first | (with_reducible assumption) | assumption)
             obtain ⟨ad176, e176, hx176_0⟩ := Kd.at_int HR175_0.out x5_2 p176 q176
             cases e176
             replace hx176_0 := (HB.out.cell (World.block_lt_of_cell? w _ hx176_0)).trans hx176_0
             replace p176 := eq_true p176
             replace q176 := eq_true q176
             go_wp2
             repeat (go_quiet (fail); try go_wp2)
             go_roundg k2
             case measure => have := HK1.out; have := HK2.out; omega
             case rel => exact ⟨(x5_2), (wrap64 (x6_2 + 1)), (by first | rfl | (simp; done) | (simp [*]; done)), (by first | rfl | (simp; done) | (simp [*]; done)), H', ⟨by have := HK1.out; have := HK2.out; omega⟩, ⟨by (with_reducible repeat (first | apply Kd.S_alloc | apply Kd.S_drewN | apply Kd.S_drew)); exact HO_3.out⟩, ⟨by repeat (first | (with_reducible first | exact HB.out | apply below_alloc | apply pw_below_drewN | apply below_drew1) | exact HB.out)⟩⟩
           ·rw [if_neg c8] at H
            exact absurd H (by simp)
          ·rw [if_neg c7] at H
           exact absurd H (by simp)
         ·rw [if_neg c6] at H
          exact absurd H (by simp)
        ·rw [if_neg c5] at H
         have c5b0 : decide (x6_2 < ((rd_L5 l0 x4_1).length : Int)) = false := decide_eq_false c5
         clear c5
         replace H := Option.bind_eq_some_iff.mp H
         obtain ⟨t178, A100, H⟩ := H
         replace H : (if x3_1.length < 5864062014805 then (tangramref11_Canon.l0 k2 l0 (x3_1 ++ [t178]) (wrap64 (x4_1 + 1))) else (none)) = some r := H
         have A10 := Aside0.mk A100
         clear A100
         by_cases c11 : x3_1.length < 5864062014805
         ·rw [if_pos c11] at H
          have LMc11 := Aside0.mk c11
          clear c11
          obtain ⟨y181, hy181⟩ : ∃ y_ : List (List Int), y_ = (x3_1 ++ [t178]) := ⟨_, rfl⟩
          replace H : (tangramref11_Canon.l0 k2 l0 y181 (wrap64 (x4_1 + 1))) = some r := by first | (rw [hy181]; with_reducible exact H) | (have H2_ := (Option.bind_some _ _).symm.trans H; rw [hy181]; with_reducible exact H2_) | (have H2_ := (Option.bind_some _ _).symm.trans H; with_reducible exact H2_) | with_reducible exact H | (rw [hy181]; exact H) | exact H
          have Ny181 := Aside0.mk hy181
          clear hy181
          have H' := Aside0.mk H
          clear H
          have p172 : 0 ≤ (x4_1 : Int) := of_decide_eq_true (by first | (with_reducible assumption) | assumption)
          have q172 : x4_1 < (l0.length : Int) := of_decide_eq_true (by first | (with_reducible assumption) | assumption)
          obtain ⟨ad172, A172_0, c172_0, e172, hx172_0, hl172_0, hi172_0⟩ := at_L5 HR0.out x4_1 p172 q172
          cases e172
          replace hx172_0 := (HB.out.cell (World.block_lt_of_cell? w _ hx172_0)).trans hx172_0
          have HR172_0 := Aside0.mk hi172_0
          have HC172_0 := Aside0.mk hl172_0
          clear hi172_0 hl172_0
          replace p172 := eq_true p172
          replace q172 := eq_true q172
          have p177 : 0 ≤ (x4_1 : Int) := of_decide_eq_true (by first | (with_reducible assumption) | assumption)
          have q177 : x4_1 < (l0.length : Int) := of_decide_eq_true (by first | (with_reducible assumption) | assumption)
          obtain ⟨ad177, A177_0, c177_0, e177, hx177_0, hl177_0, hi177_0⟩ := at_L5 HR0.out x4_1 p177 q177
          obtain rfl : ad172 = ad177 := (by injection e177)
          replace hx177_0 := (HB.out.cell (World.block_lt_of_cell? w _ hx177_0)).trans hx177_0
          have HR177_0 := Aside0.mk hi177_0
          have HC177_0 := Aside0.mk hl177_0
          clear hi177_0 hl177_0
          replace p177 := eq_true p177
          replace q177 := eq_true q177
          have ea_ := Option.some.inj (hx172_0.symm.trans hx177_0)
          injection ea_ with ea_ en_ ec_
          subst ea_
          subst ec_
          clear en_
          go_wp2_with (first | (go_at_call 49; (with_reducible refine (tangramref11_Turned.calls k2 _ _ (rd_L5 l0 x4_1) x5_2 t178 _ ?side1 ?side2 A10.out).mono ?_); (case side1 => repeat (first | exact (Kd.C_below HR177_0.out HB.out) | (with_reducible refine Kd.C_alloc ?_ _) | (with_reducible refine Kd.C_drewN ?_ _) | (with_reducible refine Kd.C_drew ?_))); (case side2 => exact HC177_0.out); rintro e w12 ⟨v179, rfl, ho0, hb⟩; have n0_ := Aside0.mk (Kd.S_elder' (by (with_reducible repeat (first | apply Kd.S_alloc | apply Kd.S_drewN | apply Kd.S_drew)); exact HO_3.out) (Kd.R_base ho0) hb); have n1_ := Aside0.mk (Kd.R_lower ho0 (below_size (by repeat (first | (with_reducible first | exact HB.out | apply below_alloc | apply pw_below_drewN | apply below_drew1) | exact HB.out)))); have n2_ := Aside0.mk (below_step (by repeat (first | (with_reducible first | exact HB.out | apply below_alloc | apply pw_below_drewN | apply below_drew1) | exact HB.out)) hb); clear HO_3; clear HB; have HO_3 := n0_; have HO180 := n1_; have HB := n2_; clear n0_ n1_ n2_; (try clear hb); (try clear hb2); (try clear hk); (try clear hi); (try clear ho0); obtain ⟨Ao14, co14, eo14⟩ := Kd.R_slice HO180.out; subst eo14) | ((with_reducible refine gate_builtin (b := .append) (xs := #[.tmp 38, .tmp 45]) rfl ?_); at_builtin; refine Kd.S_append (Kd.slice 3 (Kd.int .i64)) (w0 := w) w.heap.size rfl (.tmp 38) (.tmp 45) 26 28 (.slice none 0 0) 24 rfl Try.underlying26 info28 rfl (by decide) (by omega) u3 x3_1 t178 [.slice Ao14 t178.length co14] (fun _ => True) (fun k_ => some k_ = (.slice Ao14 t178.length co14 : Value).ownBlock) rfl rfl ?aP (fun k_ hk_ => ((Kd.R_mono (ok' := fun k_ => ((fun _ => True)) k_ ∧ some k_ ≠ (u3 : Value).ownBlock) (Kd.R_apart' (HO180.out) (Kd.S_typed HO_3.out) (by decide)) (fun k_ hk => ⟨trivial, hk.2⟩))).1 k_ hk_.symm) ?aF ?aO ?aB ?aS ?aL ?_; (case aP => exact Kd.M_row (Kd.R_mono (Kd.R_tight rfl (Kd.R_mono (ok' := fun k_ => ((fun _ => True)) k_ ∧ some k_ ≠ (u3 : Value).ownBlock) (Kd.R_apart' (HO180.out) (Kd.S_typed HO_3.out) (by decide)) (fun k_ hk => ⟨trivial, hk.2⟩))) (fun _ h_ => h_))); (case aB => exact (by repeat (first | (with_reducible first | exact HB.out | apply below_alloc | apply pw_below_drewN | apply below_drew1) | exact HB.out))); (case aF => exact (fun _ _ => trivial)); (case aO => exact (by (with_reducible repeat (first | apply Kd.S_alloc | apply Kd.S_drewN | apply Kd.S_drew)); exact Kd.S_mono HO_3.out (fun k_ hk => ⟨trivial, fun e_ => hk.2 e_⟩))); (case aS => exact (below_size (by repeat (first | (with_reducible first | exact HB.out | apply below_alloc | apply pw_below_drewN | apply below_drew1) | exact HB.out)))); (case aL => have := LMc11.out; omega); intro v182 w13 ho hb hg hat; rw [← Ny181.out] at ho; have n0_ := Aside0.mk (hb); have n1_ := Aside0.mk (ho); clear HB; clear HO_3; clear HO180; have HB := n0_; have HO183 := n1_; clear n0_ n1_; clear ho hb hg hat))
          repeat (go_quiet (first | (go_at_call 49; (with_reducible refine (tangramref11_Turned.calls k2 _ _ (rd_L5 l0 x4_1) x5_2 t178 _ ?side1 ?side2 A10.out).mono ?_); (case side1 => repeat (first | exact (Kd.C_below HR177_0.out HB.out) | (with_reducible refine Kd.C_alloc ?_ _) | (with_reducible refine Kd.C_drewN ?_ _) | (with_reducible refine Kd.C_drew ?_))); (case side2 => exact HC177_0.out); rintro e w12 ⟨v179, rfl, ho0, hb⟩; have n0_ := Aside0.mk (Kd.S_elder' (by (with_reducible repeat (first | apply Kd.S_alloc | apply Kd.S_drewN | apply Kd.S_drew)); exact HO_3.out) (Kd.R_base ho0) hb); have n1_ := Aside0.mk (Kd.R_lower ho0 (below_size (by repeat (first | (with_reducible first | exact HB.out | apply below_alloc | apply pw_below_drewN | apply below_drew1) | exact HB.out)))); have n2_ := Aside0.mk (below_step (by repeat (first | (with_reducible first | exact HB.out | apply below_alloc | apply pw_below_drewN | apply below_drew1) | exact HB.out)) hb); clear HO_3; clear HB; have HO_3 := n0_; have HO180 := n1_; have HB := n2_; clear n0_ n1_ n2_; (try clear hb); (try clear hb2); (try clear hk); (try clear hi); (try clear ho0); obtain ⟨Ao14, co14, eo14⟩ := Kd.R_slice HO180.out; subst eo14) | ((with_reducible refine gate_builtin (b := .append) (xs := #[.tmp 38, .tmp 45]) rfl ?_); at_builtin; refine Kd.S_append (Kd.slice 3 (Kd.int .i64)) (w0 := w) w.heap.size rfl (.tmp 38) (.tmp 45) 26 28 (.slice none 0 0) 24 rfl Try.underlying26 info28 rfl (by decide) (by omega) u3 x3_1 t178 [.slice Ao14 t178.length co14] (fun _ => True) (fun k_ => some k_ = (.slice Ao14 t178.length co14 : Value).ownBlock) rfl rfl ?aP (fun k_ hk_ => ((Kd.R_mono (ok' := fun k_ => ((fun _ => True)) k_ ∧ some k_ ≠ (u3 : Value).ownBlock) (Kd.R_apart' (HO180.out) (Kd.S_typed HO_3.out) (by decide)) (fun k_ hk => ⟨trivial, hk.2⟩))).1 k_ hk_.symm) ?aF ?aO ?aB ?aS ?aL ?_; (case aP => exact Kd.M_row (Kd.R_mono (Kd.R_tight rfl (Kd.R_mono (ok' := fun k_ => ((fun _ => True)) k_ ∧ some k_ ≠ (u3 : Value).ownBlock) (Kd.R_apart' (HO180.out) (Kd.S_typed HO_3.out) (by decide)) (fun k_ hk => ⟨trivial, hk.2⟩))) (fun _ h_ => h_))); (case aB => exact (by repeat (first | (with_reducible first | exact HB.out | apply below_alloc | apply pw_below_drewN | apply below_drew1) | exact HB.out))); (case aF => exact (fun _ _ => trivial)); (case aO => exact (by (with_reducible repeat (first | apply Kd.S_alloc | apply Kd.S_drewN | apply Kd.S_drew)); exact Kd.S_mono HO_3.out (fun k_ hk => ⟨trivial, fun e_ => hk.2 e_⟩))); (case aS => exact (below_size (by repeat (first | (with_reducible first | exact HB.out | apply below_alloc | apply pw_below_drewN | apply below_drew1) | exact HB.out)))); (case aL => have := LMc11.out; omega); intro v182 w13 ho hb hg hat; rw [← Ny181.out] at ho; have n0_ := Aside0.mk (hb); have n1_ := Aside0.mk (ho); clear HB; clear HO_3; clear HO180; have HB := n0_; have HO183 := n1_; clear n0_ n1_; clear ho hb hg hat)); try go_wp2_with (first | (go_at_call 49; (with_reducible refine (tangramref11_Turned.calls k2 _ _ (rd_L5 l0 x4_1) x5_2 t178 _ ?side1 ?side2 A10.out).mono ?_); (case side1 => repeat (first | exact (Kd.C_below HR177_0.out HB.out) | (with_reducible refine Kd.C_alloc ?_ _) | (with_reducible refine Kd.C_drewN ?_ _) | (with_reducible refine Kd.C_drew ?_))); (case side2 => exact HC177_0.out); rintro e w12 ⟨v179, rfl, ho0, hb⟩; have n0_ := Aside0.mk (Kd.S_elder' (by (with_reducible repeat (first | apply Kd.S_alloc | apply Kd.S_drewN | apply Kd.S_drew)); exact HO_3.out) (Kd.R_base ho0) hb); have n1_ := Aside0.mk (Kd.R_lower ho0 (below_size (by repeat (first | (with_reducible first | exact HB.out | apply below_alloc | apply pw_below_drewN | apply below_drew1) | exact HB.out)))); have n2_ := Aside0.mk (below_step (by repeat (first | (with_reducible first | exact HB.out | apply below_alloc | apply pw_below_drewN | apply below_drew1) | exact HB.out)) hb); clear HO_3; clear HB; have HO_3 := n0_; have HO180 := n1_; have HB := n2_; clear n0_ n1_ n2_; (try clear hb); (try clear hb2); (try clear hk); (try clear hi); (try clear ho0); obtain ⟨Ao14, co14, eo14⟩ := Kd.R_slice HO180.out; subst eo14) | ((with_reducible refine gate_builtin (b := .append) (xs := #[.tmp 38, .tmp 45]) rfl ?_); at_builtin; refine Kd.S_append (Kd.slice 3 (Kd.int .i64)) (w0 := w) w.heap.size rfl (.tmp 38) (.tmp 45) 26 28 (.slice none 0 0) 24 rfl Try.underlying26 info28 rfl (by decide) (by omega) u3 x3_1 t178 [.slice Ao14 t178.length co14] (fun _ => True) (fun k_ => some k_ = (.slice Ao14 t178.length co14 : Value).ownBlock) rfl rfl ?aP (fun k_ hk_ => ((Kd.R_mono (ok' := fun k_ => ((fun _ => True)) k_ ∧ some k_ ≠ (u3 : Value).ownBlock) (Kd.R_apart' (HO180.out) (Kd.S_typed HO_3.out) (by decide)) (fun k_ hk => ⟨trivial, hk.2⟩))).1 k_ hk_.symm) ?aF ?aO ?aB ?aS ?aL ?_; (case aP => exact Kd.M_row (Kd.R_mono (Kd.R_tight rfl (Kd.R_mono (ok' := fun k_ => ((fun _ => True)) k_ ∧ some k_ ≠ (u3 : Value).ownBlock) (Kd.R_apart' (HO180.out) (Kd.S_typed HO_3.out) (by decide)) (fun k_ hk => ⟨trivial, hk.2⟩))) (fun _ h_ => h_))); (case aB => exact (by repeat (first | (with_reducible first | exact HB.out | apply below_alloc | apply pw_below_drewN | apply below_drew1) | exact HB.out))); (case aF => exact (fun _ _ => trivial)); (case aO => exact (by (with_reducible repeat (first | apply Kd.S_alloc | apply Kd.S_drewN | apply Kd.S_drew)); exact Kd.S_mono HO_3.out (fun k_ hk => ⟨trivial, fun e_ => hk.2 e_⟩))); (case aS => exact (below_size (by repeat (first | (with_reducible first | exact HB.out | apply below_alloc | apply pw_below_drewN | apply below_drew1) | exact HB.out)))); (case aL => have := LMc11.out; omega); intro v182 w13 ho hb hg hat; rw [← Ny181.out] at ho; have n0_ := Aside0.mk (hb); have n1_ := Aside0.mk (ho); clear HB; clear HO_3; clear HO180; have HB := n0_; have HO183 := n1_; clear n0_ n1_; clear ho hb hg hat)))
          go_roundg k2
          case measure => have := HK1.out; have := HK2.out; omega
          case rel => exact ⟨(y181), (wrap64 (x4_1 + 1)), (by first | rfl | (simp; done) | (simp [*]; done)), H', ⟨by have := HK1.out; have := HK2.out; omega⟩, ⟨by (with_reducible repeat (first | apply Kd.S_alloc | apply Kd.S_drewN | apply Kd.S_drew)); exact HO183.out⟩, ⟨by repeat (first | (with_reducible first | exact HB.out | apply below_alloc | apply pw_below_drewN | apply below_drew1) | exact HB.out)⟩⟩
         ·rw [if_neg c11] at H
          exact absurd H (by simp)
       ·rw [if_neg c4] at H
        exact absurd H (by simp)
      ·rw [if_neg c3] at H
       exact absurd H (by simp)
   ·rw [if_neg c2] at H
    have c2b0 : decide (x4_1 < (l0.length : Int)) = false := decide_eq_false c2
    clear c2
    obtain rfl := Option.some.inj H
    go_wp2
    repeat (go_quiet (fail); try go_wp2)
    go_ret
    exact ⟨_, by first | rfl | (simp [errW_none, errW_some] <;> rfl) | (simp [*, errW_none, errW_some] <;> rfl), by (with_reducible repeat (first | apply Kd.S_alloc | apply Kd.S_drewN | apply Kd.S_drew)); exact HO_3.out, by repeat (first | (with_reducible first | exact HB.out | apply below_alloc | apply pw_below_drewN | apply below_drew1) | exact HB.out)⟩
end Go.Proofs.Ytkkhhbegeboonaa.GAll
namespace Go.Proofs.Ytkkhhbegeboonaa.GAll
open Go.RowKit Go.Proofs.YtkkhhbegeboonaaW.PrintWords Go.Proofs.YtkkhhbegeboonaaW.PrintLast Go.Proofs.YtkkhhbegeboonaaW.PrintMore
attribute [local go_sem] max2_int min2_int max_two min_two max_three min_three max_four min_four   -- for this text's walks alone
set_option linter.unusedVariables false
set_option linter.unusedSimpArgs false
theorem tangramref03_Valid.pairs {w : World} {A : Option Addr} {l : List S59} (h : Kd.C k59 w A l.length l) : Mem.Pairs w A (l.map fun x => (x.f0, x.f1)) := by
 intro i hi
 rw [List.length_map] at hi
 obtain ⟨ad, e, h1, h2⟩ := at_T59 h (i : Int) (by omega) (by omega)
 have e2 : Mem.pe (l.map fun x => (x.f0, x.f1)) i = ((rd_T59 l (i : Int)).f0, (rd_T59 l (i : Int)).f1) := by
  unfold Mem.pe rd_T59
  simp [List.getD_eq_getElem?_getD, hi]
 rw [e2]
 exact ⟨ad, e, h1, h2⟩
def tangramref03_Valid.f (k : Nat) (a0_0 : Int) (l0_1 : List S59) : Option Bool := some (ValH.goodB a0_0 (l0_1.map fun x => (x.f0, x.f1)))
theorem tangramref03_Valid.mono : ∀ a0 a1 k, LeO (tangramref03_Valid.f k a0 a1) (tangramref03_Valid.f (k + 1) a0 a1) := fun _ _ _ => LeO.refl _
theorem tangramref03_Valid.calls (k : Nat) (a0_0 : Int) (A0_1 : Option Addr) (c0_1 : Nat) (l0_1 : List (S59)) (r : Bool) (w : World) (hr0_1 : Kd.C k59 w A0_1 l0_1.length l0_1) (hc0_1 : l0_1.length ≤ c0_1) (h : tangramref03_Valid.f k a0_0 l0_1 = some r) :
  Calls Try.prog 13 #[.agg #[.int .i64 a0_0, .slice A0_1 l0_1.length c0_1]] w fun e w' => e = .returned (.bool r) ∧ Below w.heap.size w w' := by
 obtain rfl : ValH.goodB a0_0 (l0_1.map fun x => (x.f0, x.f1)) = r := by simpa [tangramref03_Valid.f] using h
 have key := ValH.ref_calls a0_0 A0_1 c0_1 (l0_1.map fun x => (x.f0, x.f1)) w (tangramref03_Valid.pairs hr0_1) (by rw [List.length_map]; exact hc0_1)
 rw [List.length_map] at key
 exact key
end Go.Proofs.Ytkkhhbegeboonaa.GAll
namespace Go.Proofs.Ytkkhhbegeboonaa.GAll
open Go.RowKit Go.Proofs.YtkkhhbegeboonaaW.PrintWords Go.Proofs.YtkkhhbegeboonaaW.PrintLast Go.Proofs.YtkkhhbegeboonaaW.PrintMore
attribute [local go_sem] max2_int min2_int max_two min_two max_three min_three max_four min_four   -- for this text's walks alone
set_option linter.unusedVariables false
set_option linter.unusedSimpArgs false
def tangramref11_From.f (a0_0 : Int) (l0_1 : List (S59)) (a1 : Int) : Option (Int) := if (Int.tmod a1 2) = 0 then (if 0 ≤ (wrap64 (Int.tdiv a1 2)) then (if (wrap64 (Int.tdiv a1 2)) < (l0_1.length : Int) then (some ((rd_T59 l0_1 (wrap64 (Int.tdiv a1 2))).f0)) else (none)) else (none)) else (if 0 ≤ (wrap64 (Int.tdiv a1 2)) then (if (wrap64 (Int.tdiv a1 2)) < (l0_1.length : Int) then (some ((rd_T59 l0_1 (wrap64 (Int.tdiv a1 2))).f1)) else (none)) else (none))
set_option maxHeartbeats 8000000 in
set_option maxRecDepth 100000 in
theorem tangramref11_From.calls (a0_0 : Int) (A0_1 : Option Addr) (c0_1 : Nat) (l0_1 : List (S59)) (a1 : Int) (r : Int) (w : World) (hr0_1 : Kd.C k59 w A0_1 l0_1.length l0_1) (hc0_1 : l0_1.length ≤ c0_1) (h : tangramref11_From.f a0_0 l0_1 a1 = some r) :
  Calls Try.prog 14 #[.agg #[.int .i64 a0_0, .slice A0_1 l0_1.length c0_1], .int .i64 a1] w fun e w' => e = .returned (.int .i64 r) ∧ Below w.heap.size w w' := by
 have hu24 := Try.underlying24
 have HR0_1 := Aside0.mk hr0_1
 have HC0_1 := Aside0.mk hc0_1
 clear hr0_1 hc0_1
 have HB := Aside0.mk (Below.refl w.heap.size w)
 have H : (if (Int.tmod a1 2) = 0 then (if 0 ≤ (wrap64 (Int.tdiv a1 2)) then (if (wrap64 (Int.tdiv a1 2)) < (l0_1.length : Int) then (some ((rd_T59 l0_1 (wrap64 (Int.tdiv a1 2))).f0)) else (none)) else (none)) else (if 0 ≤ (wrap64 (Int.tdiv a1 2)) then (if (wrap64 (Int.tdiv a1 2)) < (l0_1.length : Int) then (some ((rd_T59 l0_1 (wrap64 (Int.tdiv a1 2))).f1)) else (none)) else (none))) = some r := h
 clear h
 by_cases c3 : (Int.tmod a1 2) = 0
 ·rw [if_pos c3] at H
  have c3b0 : ((Int.tmod a1 2) == 0) = true := beq_iff_eq.mpr c3
  have c3b1 : ((Int.tmod a1 2) != 0) = false := bne_eq_false_iff_eq.mpr c3
  clear c3
  obtain ⟨ji4, hji4⟩ : ∃ j_ : Int, (wrap64 (Int.tdiv a1 2)) = j_ := ⟨_, rfl⟩
  replace H : (if 0 ≤ (ji4) then (if (ji4) < (l0_1.length : Int) then (some ((rd_T59 l0_1 (ji4)).f0)) else (none)) else (none)) = some r := by first | (rw [hji4] at H; exact H) | (simp only [hji4] at H ⊢; exact H)
  have hji4w : (IntKind.i64.wrap (Int.tdiv a1 2)) = ji4 := (i64_w _).trans hji4
  by_cases c5 : 0 ≤ (ji4)
  ·rw [if_pos c5] at H
   have c5b0 : decide (0 ≤ (ji4)) = true := decide_eq_true c5
   clear c5
   by_cases c6 : (ji4) < (l0_1.length : Int)
   ·rw [if_pos c6] at H
    have c6b0 : decide ((ji4) < (l0_1.length : Int)) = true := decide_eq_true c6
    clear c6
    obtain rfl := Option.some.inj H
    go_enter Try.func14, Try.ntmps14
    go_wp2_with (first | ((with_reducible refine gate_dst (N := 2) rfl ?_); refine box_event ?hg (N := 2) ?hd (cs := #[.int .i64 a0_0, .slice A0_1 l0_1.length c0_1]) (t := 24) ?hr ?_; (case hd => rfl); (case hg => rfl); (case hr => first | (go_simp; done) | (go_simp; rfl)); intro gb133 hg w7 hbox hb; have n0_ := Aside0.mk (below_step (by repeat (first | (with_reducible first | exact HB.out | apply below_alloc | apply pw_below_drewN | apply below_drew1) | exact HB.out)) hb); have n1_ := Aside0.mk (hbox); have n2_ := Aside0.mk ((by rw [hg]; exact (below_size (by repeat (first | (with_reducible first | exact HB.out | apply below_alloc | apply pw_below_drewN | apply below_drew1) | exact HB.out))) : w.heap.size ≤ gb133)); have n3_ := Aside0.mk ((by rw [hg]; exact (below_size (by repeat (first | (with_reducible first | exact HB.out | apply below_alloc | apply pw_below_drewN | apply below_drew1) | exact HB.out))) : w.heap.size ≤ gb133)); clear HB; have HB := n0_; have BK133 := n1_; have GW133 := n2_; have GE133 := n3_; clear n0_ n1_ n2_ n3_; clear hb hbox hg; have hcz8_0 : w7.cell? ⟨gb133, 0, none⟩ = some (.int .i64 a0_0) := (blk_cell BK133.out 0).trans rfl; have hcz8_1 : w7.cell? ⟨gb133, 1, none⟩ = some (.slice A0_1 l0_1.length c0_1) := (blk_cell BK133.out 1).trans rfl; have hfz8_0 := blk_frozen BK133.out 0; have hfz8_1 := blk_frozen BK133.out 1; have p134 : 0 ≤ ((ji4) : Int) := of_decide_eq_true (by first | (with_reducible assumption) | assumption); have q134 : (ji4) < (l0_1.length : Int) := of_decide_eq_true (by first | (with_reducible assumption) | assumption); obtain ⟨ad134, e134, hx134_0, hx134_1⟩ := at_T59 HR0_1.out (ji4) p134 q134; cases e134; replace hx134_0 := (HB.out.cell (World.block_lt_of_cell? w _ hx134_0)).trans hx134_0; replace hx134_1 := (HB.out.cell (World.block_lt_of_cell? w _ hx134_1)).trans hx134_1; replace p134 := eq_true p134; replace q134 := eq_true q134))
    go_ret
    exact ⟨by first | rfl | (simp [errW_none, errW_some] <;> rfl) | (simp only [← hji4]; first | rfl | (simp [errW_none, errW_some] <;> rfl)) | (simp [*, errW_none, errW_some] <;> rfl), by repeat (first | (with_reducible first | exact HB.out | apply below_alloc | apply pw_below_drewN | apply below_drew1 | refine below_set ?_ GE133.out) | exact HB.out)⟩
   ·rw [if_neg c6] at H
    exact absurd H (by simp)
  ·rw [if_neg c5] at H
   exact absurd H (by simp)
 ·rw [if_neg c3] at H
  have c3b0 : ((Int.tmod a1 2) == 0) = false := beq_eq_false_iff_ne.mpr c3
  have c3b1 : ((Int.tmod a1 2) != 0) = true := bne_iff_ne.mpr c3
  obtain ⟨ji9, hji9⟩ : ∃ j_ : Int, (wrap64 (Int.tdiv a1 2)) = j_ := ⟨_, rfl⟩
  replace H : (if 0 ≤ (ji9) then (if (ji9) < (l0_1.length : Int) then (some ((rd_T59 l0_1 (ji9)).f1)) else (none)) else (none)) = some r := by first | (rw [hji9] at H; exact H) | (simp only [hji9] at H ⊢; exact H)
  have hji9w : (IntKind.i64.wrap (Int.tdiv a1 2)) = ji9 := (i64_w _).trans hji9
  by_cases c10 : 0 ≤ (ji9)
  ·rw [if_pos c10] at H
   have c10b0 : decide (0 ≤ (ji9)) = true := decide_eq_true c10
   clear c10
   by_cases c11 : (ji9) < (l0_1.length : Int)
   ·rw [if_pos c11] at H
    have c11b0 : decide ((ji9) < (l0_1.length : Int)) = true := decide_eq_true c11
    clear c11
    obtain rfl := Option.some.inj H
    go_enter Try.func14, Try.ntmps14
    go_wp2_with (first | ((with_reducible refine gate_dst (N := 2) rfl ?_); refine box_event ?hg (N := 2) ?hd (cs := #[.int .i64 a0_0, .slice A0_1 l0_1.length c0_1]) (t := 24) ?hr ?_; (case hd => rfl); (case hg => rfl); (case hr => first | (go_simp; done) | (go_simp; rfl)); intro gb133 hg w12 hbox hb; have n0_ := Aside0.mk (below_step (by repeat (first | (with_reducible first | exact HB.out | apply below_alloc | apply pw_below_drewN | apply below_drew1) | exact HB.out)) hb); have n1_ := Aside0.mk (hbox); have n2_ := Aside0.mk ((by rw [hg]; exact (below_size (by repeat (first | (with_reducible first | exact HB.out | apply below_alloc | apply pw_below_drewN | apply below_drew1) | exact HB.out))) : w.heap.size ≤ gb133)); have n3_ := Aside0.mk ((by rw [hg]; exact (below_size (by repeat (first | (with_reducible first | exact HB.out | apply below_alloc | apply pw_below_drewN | apply below_drew1) | exact HB.out))) : w.heap.size ≤ gb133)); clear HB; have HB := n0_; have BK133 := n1_; have GW133 := n2_; have GE133 := n3_; clear n0_ n1_ n2_ n3_; clear hb hbox hg; have hcz13_0 : w12.cell? ⟨gb133, 0, none⟩ = some (.int .i64 a0_0) := (blk_cell BK133.out 0).trans rfl; have hcz13_1 : w12.cell? ⟨gb133, 1, none⟩ = some (.slice A0_1 l0_1.length c0_1) := (blk_cell BK133.out 1).trans rfl; have hfz13_0 := blk_frozen BK133.out 0; have hfz13_1 := blk_frozen BK133.out 1; have p135 : 0 ≤ ((ji9) : Int) := of_decide_eq_true (by first | (with_reducible assumption) | assumption); have q135 : (ji9) < (l0_1.length : Int) := of_decide_eq_true (by first | (with_reducible assumption) | assumption); obtain ⟨ad135, e135, hx135_0, hx135_1⟩ := at_T59 HR0_1.out (ji9) p135 q135; cases e135; replace hx135_0 := (HB.out.cell (World.block_lt_of_cell? w _ hx135_0)).trans hx135_0; replace hx135_1 := (HB.out.cell (World.block_lt_of_cell? w _ hx135_1)).trans hx135_1; replace p135 := eq_true p135; replace q135 := eq_true q135))
    go_ret
    exact ⟨by first | rfl | (simp [errW_none, errW_some] <;> rfl) | (simp only [← hji9]; first | rfl | (simp [errW_none, errW_some] <;> rfl)) | (simp [*, errW_none, errW_some] <;> rfl), by repeat (first | (with_reducible first | exact HB.out | apply below_alloc | apply pw_below_drewN | apply below_drew1 | refine below_set ?_ GE133.out) | exact HB.out)⟩
   ·rw [if_neg c11] at H
    exact absurd H (by simp)
  ·rw [if_neg c10] at H
   exact absurd H (by simp)
end Go.Proofs.Ytkkhhbegeboonaa.GAll
