/- DERIVED. Texts that OrderCovers needs. -/
import Derived.Test.YtaepieadbfndnaaCOrderCoversd
import Derived.Test.YtaepieadbfndnaaProg
import Derived.Below
import Derived.Deep.Draws
import Derived.Deep.AppendLies
import Derived.Maps.AppendAt
import Derived.OwnWalk
import Derived.Laws.BytesArg
import Derived.Laws.MakeOwn
import Derived.Laws.OwnMore
import Derived.Deep.OwnRows
import Derived.Tactics
import Derived.Lib.ConvBytes
import Derived.Laws.Slices
import Derived.WalkKit
import Derived.KernelRfl
import Derived.RowKit3
import Derived.Deep.LoopGhost
import Derived.Deep.QuietTactic
import Derived.BigQuiet
import Derived.WideLaws
import Derived.Deep.DeepCutAuto
import Derived.Deep.CutBlock
import Derived.Deep.RegionHeld3
import Derived.Laws.Rows
import Derived.Lib.AppendStr
import Derived.ArgAppend
import Derived.Laws.IdiomCopy
import Derived.OrdersHeld
import Derived.Laws.BitsLemmas
import Derived.RowKit
import Derived.Test.YtaepieadbfndnaaCOrderCoversf
import Derived.Test.YtaepieadbfndnaaCOrderCoverse
import Derived.Test.YtaepieadbfndnaaCOrderCoversg
import Derived.Test.YtaepieadbfndnaaCOrderCoversc
import Derived.Test.YtaepieadbfndnaaCOrderCoversa
import Derived.Test.YtaepieadbfndnaaCOrderCoversb
import Derived.SizedLaws
import Derived.ChangeSlices
import Derived.ProofKit
import Derived.OpenShut
import Derived.ChangeOld
import Derived.Deep.Slices
set_option linter.unusedVariables false
set_option linter.unusedSimpArgs false
set_option maxRecDepth 100000
set_option maxHeartbeats 64000000
namespace Go.Proofs.Ytaepieadbfndnaa
open Go.RowKit Go.Proofs.YtaepieadbfndnaaW.PrintWords Go.Proofs.YtaepieadbfndnaaW.PrintLast Go.Proofs.YtaepieadbfndnaaW.PrintMore
attribute [local go_sem] max2_int min2_int max_two min_two max_three min_three max_four min_four   -- for this text's walks alone
namespace GAll.Law
def rd_L2 (xs : List (List S41)) (i : Int) : (List S41) := xs.getD i.toNat ([] : List S41)
theorem at_L2 {w : World} {A : Option Addr} {n : Nat} {xs : List (List S41)} (h : Kd.C (Kd.slice 41 k41) w A n xs) (i : Int) (h0 : 0 ≤ i) (h1 : i < n) : ∃ ad A0 c0, A = some ad ∧ w.cell? (ad.add i.toNat) = some (.slice A0 (rd_L2 xs i).length c0) ∧ (rd_L2 xs i).length ≤ c0 ∧ k41.C w A0 (rd_L2 xs i).length (rd_L2 xs i) := by
 obtain ⟨ad, c, e, _, hK, hc0⟩ := Kd.C_get h ([] : List S41) i h0 h1
 have hc : ∀ j u, c[j]? = some u → w.cell? (ad.add (i.toNat * 1 + j)) = some u := hc0
 obtain ⟨A0, c0, rfl, l0, g0⟩ := hK
 exact ⟨ad, A0, c0, e, by have hq := hc 0 _ rfl; rwa [Nat.mul_one, Nat.add_zero] at hq, l0, g0⟩
def rd_L4 (xs : List (List Int)) (i : Int) : (List Int) := xs.getD i.toNat ([] : List Int)
theorem at_L4 {w : World} {A : Option Addr} {n : Nat} {xs : List (List Int)} (h : Kd.C (Kd.slice 3 (Kd.int .i64)) w A n xs) (i : Int) (h0 : 0 ≤ i) (h1 : i < n) : ∃ ad A0 c0, A = some ad ∧ w.cell? (ad.add i.toNat) = some (.slice A0 (rd_L4 xs i).length c0) ∧ (rd_L4 xs i).length ≤ c0 ∧ (Kd.int .i64).C w A0 (rd_L4 xs i).length (rd_L4 xs i) := by
 obtain ⟨ad, c, e, _, hK, hc0⟩ := Kd.C_get h ([] : List Int) i h0 h1
 have hc : ∀ j u, c[j]? = some u → w.cell? (ad.add (i.toNat * 1 + j)) = some u := hc0
 obtain ⟨A0, c0, rfl, l0, g0⟩ := hK
 exact ⟨ad, A0, c0, e, by have hq := hc 0 _ rfl; rwa [Nat.mul_one, Nat.add_zero] at hq, l0, g0⟩
def rd_L5 (xs : List (List (List Int))) (i : Int) : (List (List Int)) := xs.getD i.toNat ([] : List (List Int))
structure S29 where
 f0 : S24
 f1 : (List (List Int))
 f2 : Int
 f3 : (List Int)
def z29 : S29 := ⟨z24, ([] : List (List Int)), (0 : Int), ([] : List Int)⟩
def k29 : Kd S29 := Kd.iso (Kd.pair k24 (Kd.pair (Kd.slice 27 (Kd.slice 3 (Kd.int .i64))) (Kd.pair (Kd.int .i64) (Kd.slice 3 (Kd.int .i64))))) (fun x : S29 => (x.f0, x.f1, x.f2, x.f3))
def rd_T29 (xs : List S29) (i : Int) : S29 := xs.getD i.toNat z29
end GAll.Law
namespace GAll.Law
theorem tangramref13_Check.pairs {w : World} {A : Option Addr} {l : List S41} (h : Kd.C k41 w A l.length l) : Mem.Pairs w A (l.map fun x => (x.f0, x.f1)) := by
 intro i hi
 rw [List.length_map] at hi
 obtain ⟨ad, e, h1, h2⟩ := at_T41 h (i : Int) (by omega) (by omega)
 have e2 : Mem.pe (l.map fun x => (x.f0, x.f1)) i = ((rd_T41 l (i : Int)).f0, (rd_T41 l (i : Int)).f1) := by
  unfold Mem.pe rd_T41
  simp [List.getD_eq_getElem?_getD, hi]
 rw [e2]
 exact ⟨ad, e, h1, h2⟩
def tangramref13_Check.fit (n : Int) (es : List (Int × Int)) (r t : List (List Int)) : Bool := ValH.goodB n es && (decide (t.length = n.toNat) && ((List.range n.toNat).all (fun v => decide ((Mem.gl t v).length = Graph.cntF (Rot.froms es) (Rot.froms es).length (v : Int))) && r.all fun row => decide (row.length * 8 ≤ 140737488351232)))
def tangramref13_Check.f (k : Nat) (a0_0 : Int) (l0_1 : List S41) (l1 : List (List Int)) : Option Int :=
 (tangramref04_Out.f k a0_0 l0_1).bind fun t => if tangramref13_Check.fit a0_0 (l0_1.map fun x => (x.f0, x.f1)) l1 t = true then some (Graph.check13 a0_0.toNat (l0_1.map fun x => (x.f0, x.f1)) l1) else none
theorem tangramref13_Check.mono : ∀ a0 a1 a2 k, LeO (tangramref13_Check.f k a0 a1 a2) (tangramref13_Check.f (k + 1) a0 a1 a2) := fun _ _ _ _ => LeO.bind (tangramref04_Out.mono _ _ _) (fun _ => LeO.refl _)
theorem tangramref13_Check.calls (k : Nat) (a0_0 : Int) (A0_1 : Option Addr) (c0_1 : Nat) (l0_1 : List (S41)) (A1 : Option Addr) (c1 : Nat) (l1 : List (List Int)) (r : Int) (w : World) (hr0_1 : Kd.C k41 w A0_1 l0_1.length l0_1) (hc0_1 : l0_1.length ≤ c0_1) (hr1 : Kd.C (Kd.slice 3 (Kd.int .i64)) w A1 l1.length l1) (hc1 : l1.length ≤ c1) (h : tangramref13_Check.f k a0_0 l0_1 l1 = some r) :
  Calls Try.prog 34 #[.agg #[.int .i64 a0_0, .slice A0_1 l0_1.length c0_1], .slice A1 l1.length c1] w fun e w' => e = .returned (.int .i64 r) ∧ Below w.heap.size w w' := by
 unfold tangramref13_Check.f at h
 obtain ⟨t, ht, h⟩ := Option.bind_eq_some_iff.mp h
 split at h
 ·rename_i hf
  unfold tangramref13_Check.fit at hf
  rw [Bool.and_eq_true, Bool.and_eq_true, Bool.and_eq_true, decide_eq_true_eq, List.all_eq_true, List.all_eq_true] at hf
  obtain ⟨hg, h2, h3, h4⟩ := hf
  obtain ⟨g1, g2, g3, _⟩ := (ValH.goodB_iff _ _).1 hg
  obtain ⟨N, rfl⟩ := Int.eq_ofNat_of_zero_le g1
  rw [Int.toNat_natCast] at h h2 h3
  have hlm : (l0_1.map fun x => (x.f0, x.f1)).length = l0_1.length := List.length_map ..
  have key := Graph.check13_calls N A0_1 c0_1 (l0_1.map fun x => (x.f0, x.f1)) A1 c1 l1 w (tangramref13_Check.pairs hr0_1) g3 (by omega) hr1 (fun v hv => by
   have hm : Mem.gl l1 v ∈ l1 := by
    unfold Mem.gl
    rw [List.getD_eq_getElem?_getD, List.getElem?_eq_getElem hv]
    exact List.getElem_mem hv
   have := of_decide_eq_true (h4 _ hm)
   omega) t h2 (fun v hv => of_decide_eq_true (h3 v (List.mem_range.2 hv))) (fun W hW => by
   rw [hlm]
   exact tangramref04_Out.calls k N A0_1 c0_1 l0_1 t W (Kd.C_below hr0_1 hW) hc0_1 ht)
  rw [hlm, Option.some.inj h] at key
  exact key
 ·cases h
def tangramref13_Faces.f (k : Nat) (l0 : List Int) : Option (List (List Int)) := if (Face.fitsB l0 && decide (l0.length % 2 = 0)) = true then some (Face.facesL (Face.stN l0)) else none
theorem tangramref13_Faces.mono : ∀ a0 k, LeO (tangramref13_Faces.f k a0) (tangramref13_Faces.f (k + 1) a0) := fun _ _ => LeO.refl _
theorem tangramref13_Faces.calls (k : Nat) (A0 : Option Addr) (c0 : Nat) (l0 : List Int) (r : List (List Int)) (w : World) (hr0 : Kd.C (Kd.int .i64) w A0 l0.length l0) (hc0 : l0.length ≤ c0) (h : tangramref13_Faces.f k l0 = some r) :
  Calls Try.prog 37 #[.slice A0 l0.length c0] w fun e w' => ∃ v0_ : Value, e = .returned (v0_) ∧ Kd.S (Kd.slice 3 (Kd.int .i64)) 27 w' w.heap.size (fun _ => True) v0_ r ∧ Below w.heap.size w w' := by
 unfold tangramref13_Faces.f at h
 split at h
 ·rename_i hf
  rw [Bool.and_eq_true, decide_eq_true_eq] at hf
  have key := Face.faces13_calls A0 c0 l0 w hr0 (Face.fits_iff.1 hf.1) hf.2
  rw [Option.some.inj h] at key
  exact key
 ·cases h
end GAll.Law
namespace GAll.Law
def tangramref13_Next.fit (m : Nat) (r : List (List Int)) : Bool := decide (m ≤ 4194304) && (decide (r.length ≤ 1048576) && r.all fun row => decide (row.length ≤ 8388608) && row.all fun h => decide (0 ≤ h ∧ h < ((2 * m : Nat) : Int)))
def tangramref13_Next.f (k : Nat) (a0_0 : Int) (l0_1 : List S41) (l1 : List (List Int)) : Option (List Int) := if tangramref13_Next.fit l0_1.length l1 = true then some (Graph.nxL l1 (2 * l0_1.length)) else none
theorem tangramref13_Next.mono : ∀ a0 a1 a2 k, LeO (tangramref13_Next.f k a0 a1 a2) (tangramref13_Next.f (k + 1) a0 a1 a2) := fun _ _ _ _ => LeO.refl _
theorem tangramref13_Next.calls (k : Nat) (a0_0 : Int) (A0_1 : Option Addr) (c0_1 : Nat) (l0_1 : List (S41)) (A1 : Option Addr) (c1 : Nat) (l1 : List (List Int)) (r : List Int) (w : World) (hr0_1 : Kd.C k41 w A0_1 l0_1.length l0_1) (hc0_1 : l0_1.length ≤ c0_1) (hr1 : Kd.C (Kd.slice 3 (Kd.int .i64)) w A1 l1.length l1) (hc1 : l1.length ≤ c1) (h : tangramref13_Next.f k a0_0 l0_1 l1 = some r) :
  Calls Try.prog 38 #[.agg #[.int .i64 a0_0, .slice A0_1 l0_1.length c0_1], .slice A1 l1.length c1] w fun e w' => ∃ v0_ : Value, e = .returned (v0_) ∧ Kd.R (Kd.int .i64) 3 w' w.heap.size (fun _ => True) v0_ r ∧ Below w.heap.size w w' := by
 unfold tangramref13_Next.f at h
 split at h
 ·rename_i hf
  unfold tangramref13_Next.fit at hf
  rw [Bool.and_eq_true, Bool.and_eq_true, List.all_eq_true, decide_eq_true_eq, decide_eq_true_eq] at hf
  obtain ⟨h1, h2, h3⟩ := hf
  have hm : ∀ v, v < l1.length → Mem.gl l1 v ∈ l1 := fun v hv => by
   unfold Mem.gl
   rw [List.getD_eq_getElem?_getD, List.getElem?_eq_getElem hv]
   exact List.getElem_mem hv
  have hrow : ∀ v, v < l1.length → (Mem.gl l1 v).length ≤ 8388608 ∧ ∀ x ∈ Mem.gl l1 v, 0 ≤ x ∧ x < ((2 * l0_1.length : Nat) : Int) := fun v hv => by
   have h4 := h3 _ (hm v hv)
   rw [Bool.and_eq_true, List.all_eq_true, decide_eq_true_eq] at h4
   exact ⟨h4.1, fun x hx => of_decide_eq_true (h4.2 x hx)⟩
  have key := Graph.next13_calls a0_0 A0_1 l0_1.length c0_1 A1 c1 l1 w hr1 h1 (fun v i hv hi => by
   refine (hrow v hv).2 _ ?_
   unfold Mem.gi
   rw [List.getD_eq_getElem?_getD, List.getElem?_eq_getElem hi]
   exact List.getElem_mem hi) (fun v hv => by have := (hrow v hv).1; omega) (by omega)
  rw [Option.some.inj h] at key
  exact key
 ·cases h
theorem tangramref13_parts.pairs {w : World} {A : Option Addr} {l : List S41} (h : Kd.C k41 w A l.length l) : Mem.Pairs w A (l.map fun x => (x.f0, x.f1)) := by
 intro i hi
 rw [List.length_map] at hi
 obtain ⟨ad, e, h1, h2⟩ := at_T41 h (i : Int) (by omega) (by omega)
 have e2 : Mem.pe (l.map fun x => (x.f0, x.f1)) i = ((rd_T41 l (i : Int)).f0, (rd_T41 l (i : Int)).f1) := by
  unfold Mem.pe rd_T41
  simp [List.getD_eq_getElem?_getD, hi]
 rw [e2]
 exact ⟨ad, e, h1, h2⟩
def tangramref13_parts.f (k : Nat) (a0_0 : Int) (l0_1 : List S41) : Option (Int × Int) :=
 if ValH.goodB a0_0 (l0_1.map fun x => (x.f0, x.f1)) = true then some (((Sets.sets (Uni.setsTo a0_0.toNat (l0_1.map fun x => (x.f0, x.f1)) l0_1.length) : Nat) : Int), ((Uni.loneF (l0_1.map fun x => (x.f0, x.f1)) a0_0.toNat : Nat) : Int)) else none
theorem tangramref13_parts.mono : ∀ a0 a1 k, LeO (tangramref13_parts.f k a0 a1) (tangramref13_parts.f (k + 1) a0 a1) := fun _ _ _ => LeO.refl _
theorem tangramref13_parts.calls (k : Nat) (a0_0 : Int) (A0_1 : Option Addr) (c0_1 : Nat) (l0_1 : List (S41)) (r1 : Int) (r2 : Int) (w : World) (hr0_1 : Kd.C k41 w A0_1 l0_1.length l0_1) (hc0_1 : l0_1.length ≤ c0_1) (h : tangramref13_parts.f k a0_0 l0_1 = some (r1, r2)) :
  Calls Try.prog 52 #[.agg #[.int .i64 a0_0, .slice A0_1 l0_1.length c0_1]] w fun e w' => e = .returned (.tuple #[.int .i64 r1, .int .i64 r2]) ∧ Below w.heap.size w w' := by
 unfold tangramref13_parts.f at h
 split at h
 ·rename_i hg
  obtain ⟨g1, g2, g3, _⟩ := (ValH.goodB_iff _ _).1 hg
  obtain ⟨N, rfl⟩ := Int.eq_ofNat_of_zero_le g1
  rw [Int.toNat_natCast] at h
  have hlm : (l0_1.map fun x => (x.f0, x.f1)).length = l0_1.length := List.length_map ..
  have key := Uni.parts13_calls N A0_1 c0_1 (l0_1.map fun x => (x.f0, x.f1)) w (tangramref13_parts.pairs hr0_1) hg
  obtain ⟨rfl, rfl⟩ := Prod.mk.inj (Option.some.inj h)
  rw [hlm] at key
  exact key
 ·cases h
end GAll.Law
namespace GAll.Law
def tangramref13_Genus.f (k : Nat) (a0_0 : Int) (l0_1 : List (S41)) (l1 : List (List Int)) : Option (Int) := (tangramref13_parts.f k a0_0 l0_1).bind fun bt148 => ((tangramref13_Next.f k a0_0 l0_1 l1).bind fun t150 => ((tangramref13_Faces.f k t150).bind fun t153 => (some (wrap64 (Int.tdiv (wrap64 ((wrap64 ((wrap64 ((wrap64 ((wrap64 (2 * bt148.1)) - bt148.2)) - a0_0)) + (l0_1.length : Int))) - (t153.length : Int))) 2)))))
theorem tangramref13_Genus.mono : ∀ a0 a1 a2 k, LeO (tangramref13_Genus.f k a0 a1 a2) (tangramref13_Genus.f (k + 1) a0 a1 a2) := by
 intro a0 a1 a2 k
 unfold tangramref13_Genus.f
 repeat' first
   | (with_reducible exact tangramref13_Faces.mono _ _)
   | (with_reducible exact tangramref13_Next.mono _ _ _ _)
   | (with_reducible exact tangramref13_parts.mono _ _ _)
   | (with_reducible exact LeO.refl _)
   | (with_reducible exact LeO.none _)
   | (with_reducible refine LeO.ite ?_ ?_)
   | (with_reducible refine LeO.bind ?_ (fun _ => ?_))
theorem tangramref13_Genus.calls (k : Nat) (a0_0 : Int) (A0_1 : Option Addr) (c0_1 : Nat) (l0_1 : List (S41)) (A1 : Option Addr) (c1 : Nat) (l1 : List (List Int)) (r : Int) (w : World) (hr0_1 : Kd.C k41 w A0_1 l0_1.length l0_1) (hc0_1 : l0_1.length ≤ c0_1) (hr1 : Kd.C (Kd.slice 3 (Kd.int .i64)) w A1 l1.length l1) (hc1 : l1.length ≤ c1) (h : tangramref13_Genus.f k a0_0 l0_1 l1 = some r) :
  Calls Try.prog 35 #[.agg #[.int .i64 a0_0, .slice A0_1 l0_1.length c0_1], .slice A1 l1.length c1] w fun e w' => e = .returned (.int .i64 r) ∧ Below w.heap.size w w' := by
 have hu24 := Try.underlying24
 have HR0_1 := Aside0.mk hr0_1
 have HC0_1 := Aside0.mk hc0_1
 clear hr0_1 hc0_1
 have HR1 := Aside0.mk hr1
 have HC1 := Aside0.mk hc1
 clear hr1 hc1
 have HB := Aside0.mk (Below.refl w.heap.size w)
 have H : ((tangramref13_parts.f k a0_0 l0_1).bind fun bt148 => ((tangramref13_Next.f k a0_0 l0_1 l1).bind fun t150 => ((tangramref13_Faces.f k t150).bind fun t153 => (some (wrap64 (Int.tdiv (wrap64 ((wrap64 ((wrap64 ((wrap64 ((wrap64 (2 * bt148.1)) - bt148.2)) - a0_0)) + (l0_1.length : Int))) - (t153.length : Int))) 2)))))) = some r := h
 clear h
 replace H := Option.bind_eq_some_iff.mp H
 obtain ⟨⟨t148, t149⟩, A30, H⟩ := H
 have A3 := Aside0.mk A30
 clear A30
 replace H := Option.bind_eq_some_iff.mp H
 obtain ⟨t150, A40, H⟩ := H
 have A4 := Aside0.mk A40
 clear A40
 replace H := Option.bind_eq_some_iff.mp H
 obtain ⟨t153, A50, H⟩ := H
 have A5 := Aside0.mk A50
 clear A50
 obtain rfl := Option.some.inj H
 go_enter Try.func35, Try.ntmps35
 go_wp2_with (first | ((with_reducible refine gate_dst (N := 2) rfl ?_); refine bx9 (N := 2) (cs := #[.int .i64 a0_0, .slice A0_1 l0_1.length c0_1]) (t := 24) ?_; intro gb147 hg w6 hbox hb; have BK147 := Aside0.mk (hbox); have GW147 := gw9 HB hg; have GE147 := gw9 HB hg; replace HB := bs9 HB hb; clear hb hbox hg; have hcz7_0 := cz9 BK147 0; have hcz7_1 := cz9 BK147 1; have hfz7_0 := blk_frozen BK147.out 0; have hfz7_1 := blk_frozen BK147.out 1) | ((with_reducible refine gate_callee (f := 52) rfl ?_); refine gL9 (some 10) Try.func52 #[.agg #[.int .i64 a0_0, .slice A0_1 l0_1.length c0_1]] ?_; (with_reducible refine (tangramref13_parts.calls k a0_0 _ _ l0_1 t148 t149 _ ?side1 ?side2 A3.out).mono ?_); (case side1 => exact cb9 HR0_1 HB); (case side2 => exact HC0_1.out); rintro e w8 ⟨rfl, hb⟩; refine ⟨_, rfl, ?_⟩; replace BK147 := bb9 BK147 hb; replace HB := bs9 HB hb; (try clear hb); have hcz9_0 := cz9 BK147 0; have hcz9_1 := cz9 BK147 1; have hfz9_0 := blk_frozen BK147.out 0; have hfz9_1 := blk_frozen BK147.out 1) | ((with_reducible refine gate_callee (f := 38) rfl ?_); refine gL9 (some 15) Try.func38 #[.agg #[.int .i64 a0_0, .slice A0_1 l0_1.length c0_1], .slice A1 l1.length c1] ?_; (with_reducible refine (tangramref13_Next.calls k a0_0 _ _ l0_1 _ _ l1 t150 _ ?side1 ?side2 ?side3 ?side4 A4.out).mono ?_); (case side1 => exact cb9 HR0_1 HB); (case side2 => exact HC0_1.out); (case side3 => exact cb9 HR1 HB); (case side4 => exact HC1.out); rintro e w10 ⟨v151, rfl, ho0, hb⟩; refine ⟨_, rfl, ?_⟩; have HO152 := Aside0.mk (Kd.R_lower ho0 (sz9 HB)); replace BK147 := bb9 BK147 hb; replace HB := bs9 HB hb; (try clear hb); (try clear ho0); obtain ⟨Ao11, co11, eo11⟩ := Kd.R_slice HO152.out; subst eo11) | ((with_reducible refine gate_callee (f := 37) rfl ?_); refine gL9 (some 16) Try.func37 #[.slice Ao11 t150.length co11] ?_; (with_reducible refine (tangramref13_Faces.calls k _ _ t150 t153 _ ?side1 ?side2 A5.out).mono ?_); (case side1 => repeat (first | exact (Kd.R_reads' HO152.out).2.2 | (with_reducible refine Kd.C_alloc ?_ _) | (with_reducible refine Kd.C_drewN ?_ _) | (with_reducible refine Kd.C_drew ?_))); (case side2 => exact (Kd.R_reads' HO152.out).2.1); rintro e w12 ⟨v154, rfl, ho0, hb⟩; refine ⟨_, rfl, ?_⟩; have HO155 := Aside0.mk (Kd.S_lower (Kd.S_new' ho0 (Kd.R_lt (ro9 HO152))) (sz9 HB)); replace HO152 := rb9 HO152 hb; replace BK147 := bb9 BK147 hb; replace HB := bs9 HB hb; (try clear hb); (try clear ho0); obtain ⟨Ao13, co13, eo13⟩ := Kd.S_slice HO155.out; subst eo13; have hcz14_0 := cz9 BK147 0; have hcz14_1 := cz9 BK147 1; have hfz14_0 := blk_frozen BK147.out 0; have hfz14_1 := blk_frozen BK147.out 1))
 go_ret
 exact ⟨er9, bl9 HB⟩
end GAll.Law
namespace GAll.Law
def tangramref13_Joined.f (k : Nat) (a0_0 : Int) (l0_1 : List (S41)) : Option (Bool) := (tangramref13_parts.f k a0_0 l0_1).bind fun bt157 => (some (bt157.1 == 1))
theorem tangramref13_Joined.mono : ∀ a0 a1 k, LeO (tangramref13_Joined.f k a0 a1) (tangramref13_Joined.f (k + 1) a0 a1) := by
 intro a0 a1 k
 unfold tangramref13_Joined.f
 repeat' first
   | (with_reducible exact tangramref13_parts.mono _ _ _)
   | (with_reducible exact LeO.refl _)
   | (with_reducible exact LeO.none _)
   | (with_reducible refine LeO.ite ?_ ?_)
   | (with_reducible refine LeO.bind ?_ (fun _ => ?_))
   | exact tangramref13_parts.mono _ _ _
   | exact LeO.none _
   | refine LeO.ite ?_ ?_
   | refine LeO.bind ?_ (fun _ => ?_)
theorem tangramref13_Joined.calls (k : Nat) (a0_0 : Int) (A0_1 : Option Addr) (c0_1 : Nat) (l0_1 : List (S41)) (r : Bool) (w : World) (hr0_1 : Kd.C k41 w A0_1 l0_1.length l0_1) (hc0_1 : l0_1.length ≤ c0_1) (h : tangramref13_Joined.f k a0_0 l0_1 = some r) :
  Calls Try.prog 36 #[.agg #[.int .i64 a0_0, .slice A0_1 l0_1.length c0_1]] w fun e w' => e = .returned (.bool r) ∧ Below w.heap.size w w' := by
 have hu24 := Try.underlying24
 have HR0_1 := Aside0.mk hr0_1
 have HC0_1 := Aside0.mk hc0_1
 clear hr0_1 hc0_1
 have HB := Aside0.mk (Below.refl w.heap.size w)
 have H : ((tangramref13_parts.f k a0_0 l0_1).bind fun bt157 => (some (bt157.1 == 1))) = some r := h
 clear h
 replace H := Option.bind_eq_some_iff.mp H
 obtain ⟨⟨t157, t158⟩, A20, H⟩ := H
 replace H : (some (t157 == 1)) = some r := H
 have A2 := Aside0.mk A20
 clear A20
 obtain rfl := Option.some.inj H
 go_enter Try.func36, Try.ntmps36
 go_wp2_with (first | ((with_reducible refine gate_dst (N := 1) rfl ?_); refine box_event ?hg (N := 1) ?hd (cs := #[.int .i64 a0_0, .slice A0_1 l0_1.length c0_1]) (t := 24) ?hr ?_; (case hd => rfl); (case hg => rfl); (case hr => first | (go_simp; done) | (go_simp; rfl)); intro gb156 hg w3 hbox hb; have n0_ := Aside0.mk (below_step (by repeat (first | (with_reducible first | exact HB.out | apply below_alloc | apply pw_below_drewN | apply below_drew1) | exact HB.out)) hb); have n1_ := Aside0.mk (hbox); have n2_ := Aside0.mk ((by rw [hg]; exact (below_size (by repeat (first | (with_reducible first | exact HB.out | apply below_alloc | apply pw_below_drewN | apply below_drew1) | exact HB.out))) : w.heap.size ≤ gb156)); have n3_ := Aside0.mk ((by rw [hg]; exact (below_size (by repeat (first | (with_reducible first | exact HB.out | apply below_alloc | apply pw_below_drewN | apply below_drew1) | exact HB.out))) : w.heap.size ≤ gb156)); clear HB; have HB := n0_; have BK156 := n1_; have GW156 := n2_; have GE156 := n3_; clear n0_ n1_ n2_ n3_; clear hb hbox hg; have hcz4_0 : w3.cell? ⟨gb156, 0, none⟩ = some (.int .i64 a0_0) := (blk_cell BK156.out 0).trans rfl; have hcz4_1 : w3.cell? ⟨gb156, 1, none⟩ = some (.slice A0_1 l0_1.length c0_1) := (blk_cell BK156.out 1).trans rfl; have hfz4_0 := blk_frozen BK156.out 0; have hfz4_1 := blk_frozen BK156.out 1) | ((with_reducible refine gate_callee (f := 52) rfl ?_); refine goesL_ (some 7) rfl rfl Try.func52 (by kernel_rfl) rfl #[.agg #[.int .i64 a0_0, .slice A0_1 l0_1.length c0_1]] rfl (by (try simp only [List.map_toArray, List.map_cons, List.map_nil]); first | done | rfl | (simp only [List.length_drop, List.length_take]; rfl)) ?_; (with_reducible refine (tangramref13_parts.calls k a0_0 _ _ l0_1 t157 t158 _ ?side1 ?side2 A2.out).mono ?_); (case side1 => repeat (first | exact (Kd.C_below HR0_1.out HB.out) | (with_reducible refine Kd.C_alloc ?_ _) | (with_reducible refine Kd.C_drewN ?_ _) | (with_reducible refine Kd.C_drew ?_))); (case side2 => exact HC0_1.out); rintro e w5 ⟨rfl, hb⟩; refine ⟨_, rfl, ?_⟩; have n0_ := Aside0.mk (blk_below (g := gb156) (o := .cells #[.int .i64 a0_0, .slice A0_1 l0_1.length c0_1] 24 (0, 0)) (by (with_reducible repeat (first | refine blk_drewN ?_ _ | refine blk_drew ?_ | refine blk_alloc ?_ _)); exact BK156.out) hb); have n1_ := Aside0.mk (below_step (by repeat (first | (with_reducible first | exact HB.out | apply below_alloc | apply pw_below_drewN | apply below_drew1 | refine below_set ?_ GE156.out) | exact HB.out)) hb); clear BK156; clear HB; have BK156 := n0_; have HB := n1_; clear n0_ n1_; (try clear hb); (try clear hb2); (try clear hk); (try clear hi)))
 go_ret
 exact ⟨by first | rfl | (simp [errW_none, errW_some] <;> rfl) | (simp [*, errW_none, errW_some] <;> rfl), by repeat (first | (with_reducible first | exact HB.out | apply below_alloc | apply pw_below_drewN | apply below_drew1 | refine below_set ?_ GE156.out) | exact HB.out)⟩
end GAll.Law
namespace Rot
open GAll GAll.Law Mem Ring Face
theorem v4_bad {n : Int} {l : List Ed} {i a b : Int} : Ev (fun k => tangramref04_Valid.j2 k i true n l a b) false := by
 refine Ev.step (f := fun _ => some false) (fun k => ?_) (Ev.now _)
 simp only [tangramref04_Valid.j2]
 rfl
theorem v4_step {n : Int} {l : List Ed} {i : Nat} {b : Bool} (hi : i < l.length) (hl : l.length ≤ 9000000) (h : PureV.Ok n l i) (H : Ev (fun k => tangramref04_Valid.l0 k ((i + 1 : Nat) : Int) n l) b) : Ev (fun k => tangramref04_Valid.l0 k (i : Int) n l) b := by
 obtain ⟨⟨h1, h2, h3⟩, h4⟩ := h
 refine Ev.step (f := fun k => tangramref04_Valid.j2 k (i : Int) false n l (PureV.rdE l (i : Nat)).f0 (PureV.rdE l (i : Nat)).f1) (fun k => ?_) (Ev.step (fun k => ?_) H)
 ·simp only [tangramref04_Valid.l0]
  change (if (i : Int) < (l.length : Int) then (if 0 ≤ (i : Int) then (if (PureV.rdE l (i : Nat)).f0 < 0 then _ else if (PureV.rdE l (i : Nat)).f0 ≥ (PureV.rdE l (i : Nat)).f1 then _ else tangramref04_Valid.j2 k _ (decide ((PureV.rdE l (i : Nat)).f1 ≥ n)) n l _ _) else _) else _) = _
  rw [if_pos (by omega), if_pos (by omega), if_neg (by omega), if_neg (by omega), decide_eq_false (by omega)]
 ·simp only [tangramref04_Valid.j2]
  rw [if_neg (by decide), PureV.wadd (by omega)]
  by_cases h0 : 0 < i
  ·have h5 := h4 h0
   have e : wrap64 ((i : Int) - 1) = ((i - 1 : Nat) : Int) := by rw [IntWalk.wrap64_in _ (by omega)]; omega
   rw [if_pos (by omega), e, if_pos (by omega), if_pos (by omega)]
   change (if (PureV.rdE l ((i - 1 : Nat) : Int)).f0 > (PureV.rdE l (i : Nat)).f0 then _ else if (PureV.rdE l ((i - 1 : Nat) : Int)).f0 = (PureV.rdE l (i : Nat)).f0 then (if (PureV.rdE l ((i - 1 : Nat) : Int)).f1 ≥ (PureV.rdE l (i : Nat)).f1 then _ else _) else _) = _
   unfold PureV.lt at h5
   rw [if_neg (by omega)]
   by_cases h6 : (PureV.rdE l ((i - 1 : Nat) : Int)).f0 = (PureV.rdE l (i : Nat)).f0
   ·rw [if_pos h6, if_neg (by omega)]
   ·rw [if_neg h6]
  ·rw [if_neg (by omega)]
theorem v4_fail {n : Int} {l : List Ed} {i : Nat} (hi : i < l.length) (hl : l.length ≤ 9000000) (h : ¬ PureV.Ok n l i) : Ev (fun k => tangramref04_Valid.l0 k (i : Int) n l) false := by
 by_cases h1 : PureV.okE n (PureV.rdE l (i : Nat))
 ·have h4 : ¬ (0 < i → PureV.lt (PureV.rdE l ((i - 1 : Nat) : Int)) (PureV.rdE l (i : Nat))) := fun q => h ⟨h1, q⟩
  have h0 : 0 < i := by
   rcases Nat.eq_zero_or_pos i with q | q
   ·exact absurd (fun (q2 : 0 < i) => by omega) h4
   ·exact q
  have h5 : ¬ PureV.lt (PureV.rdE l ((i - 1 : Nat) : Int)) (PureV.rdE l (i : Nat)) := fun q => h4 fun _ => q
  obtain ⟨a1, a2, a3⟩ := h1
  refine Ev.step (f := fun k => tangramref04_Valid.j2 k (i : Int) false n l (PureV.rdE l (i : Nat)).f0 (PureV.rdE l (i : Nat)).f1) (fun k => ?_) (Ev.step (f := fun _ => some false) (fun k => ?_) (Ev.now _))
  ·simp only [tangramref04_Valid.l0]
   change (if (i : Int) < (l.length : Int) then (if 0 ≤ (i : Int) then (if (PureV.rdE l (i : Nat)).f0 < 0 then _ else if (PureV.rdE l (i : Nat)).f0 ≥ (PureV.rdE l (i : Nat)).f1 then _ else tangramref04_Valid.j2 k _ (decide ((PureV.rdE l (i : Nat)).f1 ≥ n)) n l _ _) else _) else _) = _
   rw [if_pos (by omega), if_pos (by omega), if_neg (by omega), if_neg (by omega), decide_eq_false (by omega)]
  ·simp only [tangramref04_Valid.j2]
   have e : wrap64 ((i : Int) - 1) = ((i - 1 : Nat) : Int) := by rw [IntWalk.wrap64_in _ (by omega)]; omega
   rw [if_neg (by decide), if_pos (by omega), e, if_pos (by omega), if_pos (by omega)]
   change (if (PureV.rdE l ((i - 1 : Nat) : Int)).f0 > (PureV.rdE l (i : Nat)).f0 then _ else if (PureV.rdE l ((i - 1 : Nat) : Int)).f0 = (PureV.rdE l (i : Nat)).f0 then (if (PureV.rdE l ((i - 1 : Nat) : Int)).f1 ≥ (PureV.rdE l (i : Nat)).f1 then _ else _) else _) = _
   unfold PureV.lt at h5
   by_cases h6 : (PureV.rdE l ((i - 1 : Nat) : Int)).f0 > (PureV.rdE l (i : Nat)).f0
   ·rw [if_pos h6]
   ·rw [if_neg h6, if_pos (by omega), if_pos (by omega)]
 ·refine Ev.step (f := fun k => tangramref04_Valid.j2 k (i : Int) true n l (PureV.rdE l (i : Nat)).f0 (PureV.rdE l (i : Nat)).f1) (fun k => ?_) v4_bad
  simp only [tangramref04_Valid.l0]
  change (if (i : Int) < (l.length : Int) then (if 0 ≤ (i : Int) then (if (PureV.rdE l (i : Nat)).f0 < 0 then _ else if (PureV.rdE l (i : Nat)).f0 ≥ (PureV.rdE l (i : Nat)).f1 then _ else tangramref04_Valid.j2 k _ (decide ((PureV.rdE l (i : Nat)).f1 ≥ n)) n l _ _) else _) else _) = _
  rw [if_pos (by omega), if_pos (by omega)]
  unfold PureV.okE at h1
  by_cases a1 : (PureV.rdE l (i : Nat)).f0 < 0
  ·rw [if_pos a1]
  ·rw [if_neg a1]
   by_cases a2 : (PureV.rdE l (i : Nat)).f0 ≥ (PureV.rdE l (i : Nat)).f1
   ·rw [if_pos a2]
   ·rw [if_neg a2, decide_eq_true (by omega)]
theorem v4_loop {n : Int} {l : List Ed} (hl : l.length ≤ 9000000) (d : Nat) : ∀ i : Nat, i + d = l.length → ∃ b : Bool, Ev (fun k => tangramref04_Valid.l0 k (i : Int) n l) b ∧ (b = true ↔ ∀ j, i ≤ j → j < l.length → PureV.Ok n l j) := by
 induction d with
 | zero =>
  intro i hi
  refine ⟨true, Ev.step (f := fun _ => some true) (fun k => ?_) (Ev.now _), fun _ j h1 h2 => by omega, fun _ => rfl⟩
  simp only [tangramref04_Valid.l0]
  rw [if_neg (by omega)]
 | succ d ih =>
  intro i hi
  obtain ⟨b, hb, hiff⟩ := ih (i + 1) (by omega)
  by_cases h : PureV.Ok n l i
  ·refine ⟨b, v4_step (by omega) hl h hb, hiff.trans ⟨fun q j h1 h2 => ?_, fun q j h1 h2 => q j (by omega) h2⟩⟩
   by_cases e : j = i
   ·rw [e]; exact h
   ·exact q j (by omega) h2
  ·exact ⟨false, v4_fail (by omega) hl h, ⟨fun q => absurd q (by decide), fun q => absurd (q i (Nat.le_refl _) (by omega)) h⟩⟩
theorem valid4_ev (n : Int) (l : List Ed) : ∃ b : Bool, Ev (fun k => tangramref04_Valid.f k n l) b ∧ (b = true ↔ PureV.Good n l) := by
 have bad : ∀ {b : Bool}, b = true → Ev (fun k => tangramref04_Valid.j0 k b n l) false := fun h => by
  subst h
  refine Ev.step (f := fun _ => some false) (fun k => ?_) (Ev.now _)
  simp only [tangramref04_Valid.j0]
  rfl
 by_cases h1 : n < 0
 ·refine ⟨false, ?_, ⟨fun q => absurd q (by decide), fun q => absurd q.1 (by omega)⟩⟩
  unfold tangramref04_Valid.f
  exact Ev.congr (fun k => if_pos h1) (bad rfl)
 by_cases h2 : n > 1048576
 ·refine ⟨false, ?_, ⟨fun q => absurd q (by decide), fun q => absurd q.2.1 (by omega)⟩⟩
  unfold tangramref04_Valid.f
  exact Ev.congr (fun k => by rw [if_neg h1, if_pos h2]) (bad rfl)
 by_cases h3 : (l.length : Int) > 4194304
 ·refine ⟨false, ?_, ⟨fun q => absurd q (by decide), fun q => absurd q.2.2.1 (by omega)⟩⟩
  unfold tangramref04_Valid.f
  exact Ev.congr (fun k => by rw [if_neg h1, if_neg h2]) (bad (decide_eq_true h3))
 obtain ⟨b, hb, hiff⟩ := v4_loop (n := n) (l := l) (by omega) l.length 0 (by omega)
 refine ⟨b, ?_, hiff.trans ⟨fun q => ⟨by omega, by omega, by omega, fun j hj => q j (by omega) hj⟩, fun q j _ hj => q.2.2.2 j hj⟩⟩
 unfold tangramref04_Valid.f
 refine Ev.congr (fun k => by rw [if_neg h1, if_neg h2, decide_eq_false h3]) (Ev.step (fun k => ?_) hb)
 simp only [tangramref04_Valid.j0]
 rw [if_neg (by decide)]
 rfl
def outTo (fr : List Int) (n t : Nat) : List (List Int) := (List.range n).map fun (v : Nat) => ((List.range t).filter fun j => gi fr j == (v : Int)).map fun (j : Nat) => (j : Int)
theorem outTo_length (fr : List Int) (n t : Nat) : (outTo fr n t).length = n := by simp [outTo]
theorem gl_outTo {fr : List Int} {n t v : Nat} (hv : v < n) : gl (outTo fr n t) v = ((List.range t).filter fun j => gi fr j == (v : Int)).map fun (j : Nat) => (j : Int) := by
 unfold gl outTo
 simp [List.getD_eq_getElem?_getD, hv]
theorem outTo_zero (fr : List Int) (n : Nat) : outTo fr n 0 = List.replicate n [] := by
 apply List.ext_getElem (by simp [outTo])
 intro i h1 h2
 simp [outTo]
theorem outTo_row {fr : List Int} {n t v : Nat} (hv : v < n) : (gl (outTo fr n t) v).length ≤ t := by
 rw [gl_outTo hv, List.length_map]
 have := List.length_filter_le (fun j => gi fr j == (v : Int)) (List.range t)
 rw [List.length_range] at this
 exact this
theorem outTo_succ {fr : List Int} {n t x : Nat} (hx : gi fr t = (x : Int)) (hxn : x < n) : (outTo fr n t).set x (gl (outTo fr n t) x ++ [(t : Int)]) = outTo fr n (t + 1) := by
 apply List.ext_getElem (by simp [outTo])
 intro v h1 h2
 have hv : v < n := by simpa [outTo] using h2
 rw [List.getElem_set]
 have e2 : (outTo fr n (t + 1))[v] = ((List.range (t + 1)).filter fun j => gi fr j == (v : Int)).map fun (j : Nat) => (j : Int) := by simp [outTo]
 have e3 : ∀ h, (outTo fr n t)[v]'h = ((List.range t).filter fun j => gi fr j == (v : Int)).map fun (j : Nat) => (j : Int) := fun h => by simp [outTo]
 rw [e2, List.range_succ, List.filter_append, List.map_append]
 by_cases q : x = v
 ·subst q
  rw [if_pos rfl, gl_outTo hv, List.filter_cons_of_pos (by rw [hx]; exact beq_self_eq_true _)]
  rfl
 ·rw [if_neg q, e3, List.filter_cons_of_neg (by rw [hx]; simp; omega)]
  simp
section
variable {n : Nat} {l : List Ed} {r : List (List Int)}
theorem out_loop (hg : PureV.Good (n : Int) l) (d : Nat) : ∀ i : Nat, i + d = l.length → Ev (fun k => tangramref04_Out.l0 k (outTo (frs l) n (2 * i)) (i : Int) (n : Int) l) (outTo (frs l) n (2 * l.length)) := by
 have hll := hg.2.2.1
 induction d with
 | zero =>
  intro i hi
  obtain rfl : i = l.length := by omega
  refine Ev.step (f := fun _ => some _) (fun k => ?_) (Ev.now _)
  simp only [tangramref04_Out.l0]
  rw [if_neg (by omega)]
 | succ d ih =>
  intro i hi
  have H := ih (i + 1) (by omega)
  have hil : i < l.length := by omega
  obtain ⟨⟨a1, a2, a3⟩, _⟩ := hg.2.2.2 i hil
  obtain ⟨u, hu⟩ := Int.eq_ofNat_of_zero_le a1
  obtain ⟨v, hv⟩ := Int.eq_ofNat_of_zero_le (show 0 ≤ (PureV.rdE l (i : Nat)).f1 by omega)
  have e1 := outTo_succ (fr := frs l) (n := n) (t := 2 * i) (x := u) (by rw [frs_even hil, hu]) (by omega)
  have e2 := outTo_succ (fr := frs l) (n := n) (t := 2 * i + 1) (x := v) (by rw [frs_odd hil, hv]) (by omega)
  have l1 := outTo_row (fr := frs l) (n := n) (t := 2 * i) (v := u) (by omega)
  have l2 := outTo_row (fr := frs l) (n := n) (t := 2 * i + 1) (v := v) (by omega)
  refine Ev.step (fun k => ?_) H
  simp only [tangramref04_Out.l0]
  have w1 : wrap64 (2 * (i : Int)) = ((2 * i : Nat) : Int) := by rw [IntWalk.wrap64_in _ (by omega)]; omega
  have w2 : wrap64 (((2 * i : Nat) : Int) + 1) = ((2 * i + 1 : Nat) : Int) := by rw [IntWalk.wrap64_in _ (by omega)]; omega
  rw [if_pos (by omega), if_pos (by omega), w1, w2, PureV.wadd (by omega)]
  change (if 0 ≤ (PureV.rdE l (i : Nat)).f0 then (if (PureV.rdE l (i : Nat)).f0 < ((outTo (frs l) n (2 * i)).length : Int) then (if ((outTo (frs l) n (2 * i)).getD ((PureV.rdE l (i : Nat)).f0).toNat []).length < _ then ((some ((outTo (frs l) n (2 * i)).set ((PureV.rdE l (i : Nat)).f0).toNat ((outTo (frs l) n (2 * i)).getD ((PureV.rdE l (i : Nat)).f0).toNat [] ++ [((2 * i : Nat) : Int)]))).bind fun y => (if 0 ≤ (PureV.rdE l (i : Nat)).f1 then (if (PureV.rdE l (i : Nat)).f1 < ((outTo (frs l) n (2 * i)).length : Int) then (if (y.getD ((PureV.rdE l (i : Nat)).f1).toNat []).length < _ then tangramref04_Out.l0 k (y.set ((PureV.rdE l (i : Nat)).f1).toNat (y.getD ((PureV.rdE l (i : Nat)).f1).toNat [] ++ [((2 * i + 1 : Nat) : Int)])) _ _ _ else _) else _) else _)) else _) else _) else _) = _
  rw [hu, hv, Int.toNat_natCast, Int.toNat_natCast, outTo_length, if_pos (by omega), if_pos (by omega)]
  change (if (gl (outTo (frs l) n (2 * i)) u).length < _ then ((some ((outTo (frs l) n (2 * i)).set u (gl (outTo (frs l) n (2 * i)) u ++ [((2 * i : Nat) : Int)]))).bind fun y => _) else _) = _
  rw [if_pos (by omega), e1, Option.bind_some, if_pos (by omega), if_pos (by omega)]
  change (if (gl (outTo (frs l) n (2 * i + 1)) v).length < _ then tangramref04_Out.l0 k ((outTo (frs l) n (2 * i + 1)).set v (gl (outTo (frs l) n (2 * i + 1)) v ++ [((2 * i + 1 : Nat) : Int)])) _ _ _ else _) = _
  rw [if_pos (by omega), e2]
  rfl
theorem out_ev (hg : PureV.Good (n : Int) l) : Ev (fun k => tangramref04_Out.f k (n : Int) l) (outTo (frs l) n (2 * l.length)) := by
 have h1 := hg.2.1
 have H := out_loop hg l.length 0 (by omega)
 unfold tangramref04_Out.f
 refine Ev.congr (fun k => ?_) H
 rw [if_pos (by omega), if_pos (by omega), Int.toNat_natCast, outTo_zero]
 rfl
theorem gl_out (hg : PureV.Good (n : Int) l) {v : Nat} (hv : v < n) : gl (outTo (frs l) n (2 * l.length)) v = leaving (frs l) v := by
 rw [gl_outTo hv]
 unfold leaving
 rw [frs_length]
theorem check13_ev (hg : PureV.Good (n : Int) l) (hs : Small r) : Ev (fun k => tangramref13_Check.f k (n : Int) l r) (Graph.check13 n (ends l) r) := by
 unfold tangramref13_Check.f
 refine Ev.bind (out_ev hg) (Ev.congr (fun k => ?_) (Ev.now _))
 rw [Int.toNat_natCast, if_pos]
 ·rfl
 unfold tangramref13_Check.fit
 rw [Bool.and_eq_true, Bool.and_eq_true, Bool.and_eq_true, decide_eq_true_eq, Int.toNat_natCast, List.all_eq_true]
 refine ⟨(PureV.good_iff (n : Int) l).2 hg, outTo_length _ _ _, fun v hv => ?_, hs.all⟩
 rw [List.mem_range] at hv
 refine decide_eq_true ?_
 rw [gl_out hg hv]
 exact Graph.leaving_cntF (frs l) v
theorem next13_ev (hm : IsMap n l r) : Ev (fun k => tangramref13_Next.f k (n : Int) l r) (nxOf l r) := by
 unfold tangramref13_Next.f
 refine Ev.congr (fun k => if_pos ?_) (Ev.now _)
 obtain ⟨a, b, c⟩ := hm.rows
 unfold tangramref13_Next.fit
 rw [Bool.and_eq_true, Bool.and_eq_true, List.all_eq_true, decide_eq_true_eq, decide_eq_true_eq]
 refine ⟨a, b, fun row hrow => ?_⟩
 rw [Bool.and_eq_true, List.all_eq_true, decide_eq_true_eq]
 exact ⟨(c row hrow).1, fun x hx => decide_eq_true ((c row hrow).2 x hx)⟩
theorem stN_st (hm : IsMap n l r) : stN (nxOf l r) = stOf l r := by
 unfold stN stOf
 rw [hm.len]
theorem faces13_ev (hm : IsMap n l r) : Ev (fun k => tangramref13_Faces.f k (nxOf l r)) (facesL (stOf l r)) := by
 unfold tangramref13_Faces.f
 rw [← stN_st hm]
 refine Ev.congr (fun k => if_pos ?_) (Ev.now _)
 have h1 := hm.good.2.2.1
 rw [Bool.and_eq_true, decide_eq_true_eq, hm.len]
 refine ⟨Face.fits_iff.2 ⟨by rw [hm.len]; omega, fun i hi => ?_⟩, by omega⟩
 rw [hm.len] at hi ⊢
 have h2 := next_in hm.rot (nxOf_next hm.rot) (frs_in hm.good) (x := i) (by rw [frs_length]; exact hi)
 rw [frs_length] at h2
 exact ⟨h2.1, h2.2.1⟩
theorem setsTo_parts (n : Nat) (l : List Ed) : Sets.sets (Uni.setsTo n (ends l) l.length) = parts n l := by
 rw [parts_sets]
 rfl
theorem loneF_lone (n : Nat) (l : List Ed) : Uni.loneF (ends l) n = loneTo l n := by
 unfold Uni.loneF loneTo
 rw [ends_length]
 rfl
theorem parts13_ev (hg : PureV.Good (n : Int) l) : Ev (fun k => tangramref13_parts.f k (n : Int) l) ((parts n l : Int), (loneTo l n : Int)) := by
 unfold tangramref13_parts.f
 refine Ev.congr (fun k => (if_pos ((PureV.good_iff (n : Int) l).2 hg)).trans ?_) (Ev.now _)
 rw [Int.toNat_natCast]
 show some (((Sets.sets (Uni.setsTo n (ends l) l.length) : Nat) : Int), ((Uni.loneF (ends l) n : Nat) : Int)) = _
 rw [setsTo_parts, loneF_lone]
theorem genus13_ev (hm : IsMap n l r) : Ev (fun k => tangramref13_Genus.f k (n : Int) l r) (genus n l r) := by
 have h1 := hm.good.2.1
 have h2 := hm.good.2.2.1
 have h3 := hm.genus_eq
 have h4 := hm.genus_pos
 have h5 := lone_eq hm
 have h6 := parts_le hm.good
 have h7 := loneTo_le l n
 have h8 := hm.lists.1
 have h9 := hm.genus_bound
 unfold tangramref13_Genus.f
 refine Ev.bind (parts13_ev hm.good) (Ev.bind (next13_ev hm) (Ev.bind (faces13_ev hm) (Ev.congr (fun k => ?_) (Ev.now _))))
 simp only
 congr 1
 rw [IntWalk.wrap64_in (2 * (parts n l : Int)) (by omega), IntWalk.wrap64_in (2 * (parts n l : Int) - _) (by omega), IntWalk.wrap64_in (2 * (parts n l : Int) - _ - _) (by omega), IntWalk.wrap64_in (_ + (l.length : Int)) (by omega), IntWalk.wrap64_in (_ - ((facesL (stOf l r)).length : Int)) (by omega)]
 have e : 2 * (parts n l : Int) - (loneTo l n : Int) - (n : Int) + (l.length : Int) - ((facesL (stOf l r)).length : Int) = 2 * genus n l r := by omega
 rw [e, Int.mul_tdiv_cancel_left _ (by decide), IntWalk.wrap64_in _ (by omega)]
theorem joined_ev (hg : PureV.Good (n : Int) l) : Ev (fun k => tangramref13_Joined.f k (n : Int) l) ((parts n l : Int) == 1) := by
 unfold tangramref13_Joined.f
 exact Ev.bind (parts13_ev hg) (Ev.now _)
end
end Rot
namespace Rot
open GAll Mem Ring Face
section
variable {n : Nat} {l : List Ed} {r : List (List Int)}
theorem good_lt {n : Int} (hg : PureV.Good n l) {i : Nat} (d : Nat) (h : i + d + 1 < l.length) : PureV.lt (PureV.rdE l (i : Nat)) (PureV.rdE l ((i + d + 1 : Nat) : Int)) := by
 induction d with
 | zero =>
  have := (hg.2.2.2 (i + 0 + 1) h).2 (by omega)
  exact this
 | succ d ih =>
  have h1 := ih (by omega)
  have h2 := (hg.2.2.2 (i + (d + 1) + 1) h).2 (by omega)
  have e : i + (d + 1) + 1 - 1 = i + d + 1 := by omega
  rw [e] at h2
  unfold PureV.lt at h1 h2 ⊢
  omega
theorem good_ne {n : Int} (hg : PureV.Good n l) {i j : Nat} (hi : i < l.length) (hj : j < l.length) (e1 : (PureV.rdE l (i : Nat)).f0 = (PureV.rdE l (j : Nat)).f0) (e2 : (PureV.rdE l (i : Nat)).f1 = (PureV.rdE l (j : Nat)).f1) : i = j := by
 rcases Nat.lt_trichotomy i j with h | h | h
 ·have := good_lt hg (i := i) (j - i - 1) (by omega)
  rw [show i + (j - i - 1) + 1 = j by omega] at this
  unfold PureV.lt at this; omega
 ·exact h
 ·have := good_lt hg (i := j) (i - j - 1) (by omega)
  rw [show j + (i - j - 1) + 1 = i by omega] at this
  unfold PureV.lt at this; omega
def fr (l : List Ed) (h : Nat) : Nat := (gi (frs l) h).toNat
theorem fr_lt (hg : PureV.Good (n : Int) l) {h : Nat} (hh : h < 2 * l.length) : fr l h < n ∧ gi (frs l) h = (fr l h : Int) := by
 have := frs_range hg hh
 unfold fr
 omega
theorem twn_twn (h : Nat) : twn (twn h) = h := by unfold twn; split <;> split <;> omega
theorem ends_ne (hg : PureV.Good (n : Int) l) {h : Nat} (hh : h < 2 * l.length) : fr l h ≠ fr l (twn h) := by
 have hi : h / 2 < l.length := by omega
 obtain ⟨⟨a, b, c⟩, _⟩ := hg.2.2.2 (h / 2) hi
 have e1 := frs_even hi
 have e2 := frs_odd hi
 unfold fr
 rcases Nat.mod_two_eq_zero_or_one h with q | q
 ·have e3 : twn h = 2 * (h / 2) + 1 := by unfold twn; rw [if_pos q]; omega
  have e4 : h = 2 * (h / 2) := by omega
  rw [e3, e2, e4, show 2 * (h / 2) / 2 = h / 2 by omega, e1]
  omega
 ·have e3 : twn h = 2 * (h / 2) := by unfold twn; rw [if_neg (by omega)]; omega
  have e4 : h = 2 * (h / 2) + 1 := by omega
  rw [e3, e1, e4, show (2 * (h / 2) + 1) / 2 = h / 2 by omega, e2]
  omega
theorem half_uniq (hg : PureV.Good (n : Int) l) {h k : Nat} (hh : h < 2 * l.length) (hk : k < 2 * l.length) (e1 : fr l h = fr l k) (e2 : fr l (twn h) = fr l (twn k)) : h = k := by
 have hi : h / 2 < l.length := by omega
 have hj : k / 2 < l.length := by omega
 obtain ⟨⟨a, b, c⟩, _⟩ := hg.2.2.2 (h / 2) hi
 obtain ⟨⟨a', b', c'⟩, _⟩ := hg.2.2.2 (k / 2) hj
 have g1 := frs_even hi
 have g2 := frs_odd hi
 have g3 := frs_even hj
 have g4 := frs_odd hj
 have key : ∀ x, (x % 2 = 0 → x = 2 * (x / 2) ∧ twn x = 2 * (x / 2) + 1) ∧ (x % 2 = 1 → x = 2 * (x / 2) + 1 ∧ twn x = 2 * (x / 2)) := fun x => by unfold twn; split <;> omega
 obtain ⟨p1, p2⟩ := key h
 obtain ⟨q1, q2⟩ := key k
 unfold fr at e1 e2
 generalize h / 2 = i at *
 generalize k / 2 = j at *
 rcases Nat.mod_two_eq_zero_or_one h with p | p <;> rcases Nat.mod_two_eq_zero_or_one k with q | q
 ·obtain ⟨r1, r2⟩ := p1 p
  obtain ⟨r3, r4⟩ := q1 q
  rw [r1, r3, g1, g3] at e1
  rw [r2, r4, g2, g4] at e2
  have := good_ne hg hi hj (by omega) (by omega)
  omega
 ·obtain ⟨r1, r2⟩ := p1 p
  obtain ⟨r3, r4⟩ := q2 q
  rw [r1, r3, g1, g4] at e1
  rw [r2, r4, g2, g3] at e2
  omega
 ·obtain ⟨r1, r2⟩ := p2 p
  obtain ⟨r3, r4⟩ := q1 q
  rw [r1, r3, g2, g3] at e1
  rw [r2, r4, g1, g4] at e2
  omega
 ·obtain ⟨r1, r2⟩ := p2 p
  obtain ⟨r3, r4⟩ := q2 q
  rw [r1, r3, g2, g4] at e1
  rw [r2, r4, g1, g3] at e2
  have := good_ne hg hi hj (by omega) (by omega)
  omega
theorem nxf_lt (hm : IsMap n l r) {h : Nat} (hh : h < 2 * l.length) : nxf l r h < 2 * l.length ∧ fr l (nxf l r h) = fr l h := by
 have h2 := next_in hm.rot (nxOf_next hm.rot) (frs_in hm.good) (x := h) (by rw [frs_length]; exact hh)
 rw [frs_length] at h2
 unfold nxf fr
 rw [h2.2.2]
 exact ⟨by omega, rfl⟩
theorem stf_lt (hm : IsMap n l r) {h : Nat} (hh : h < 2 * l.length) : stf l r h < 2 * l.length ∧ fr l (stf l r h) = fr l (twn h) := by
 rw [stf_eq hh]
 exact nxf_lt hm (twn_lt hh)
theorem og_lab (hm : IsMap n l r) {s : Nat → Bool} (hs : ∀ e, e < l.length → s (fr l (2 * e)) = s (fr l (2 * e + 1))) {v w : Nat} (hv : v < n) (hw : w < n) (e : gi (ogOf n l) v = gi (ogOf n l) w) : s v = s w := by
 have hP := parT_part n l l.length
 rw [List.take_of_length_le (by rw [ends_length]; exact Nat.le_refl _)] at hP
 rw [gi_og hv, gi_og hw] at e
 have h1 := PureR.roots_inj (parT n l l.length) (hP.idem hv) (hP.idem hw) (by unfold num at e; omega)
 have hc := (hP.iff hv hw).1 h1
 have key : ∀ a b, Sets.EP n (ends l) a b → s a = s b := fun a b ⟨ha, hb, hmem⟩ => by
  obtain ⟨j, hj, ej⟩ := Sets.mem_pe hmem
  rw [ends_length] at hj
  obtain ⟨u, v', epe, hu, hv', huv, e1, e2⟩ := ends_in hm.good hj
  rw [ej] at epe
  simp only [Prod.mk.injEq] at epe
  have h2 := hs j hj
  unfold fr at h2
  rw [e1, e2, Int.toNat_natCast, Int.toNat_natCast] at h2
  rw [show a = u by omega, show b = v' by omega]
  exact h2
 have hall : ∀ {a b}, Sets.Conn (Sets.EP n (ends l)) a b → s a = s b := fun h => by
  induction h with
  | refl => rfl
  | fwd _ q ih => exact ih.trans (key _ _ q)
  | bwd _ q ih => exact ih.trans (key _ _ q).symm
 exact hall hc
theorem lone_half (hm : IsMap n l r) {h k : Nat} (hh : h < 2 * l.length) (e : nxf l r h = h) (hk : k < 2 * l.length) (ek : fr l k = fr l h) : k = h := by
 obtain ⟨hv, e1⟩ := fr_lt hm.good hh
 have e2 := (fr_lt hm.good hk).2
 have m1 : h ∈ fN (gl r (fr l h)) := (hm.row_at hv).2 ⟨hh, e1⟩
 have m2 : k ∈ fN (gl r (fr l h)) := (hm.row_at hv).2 ⟨hk, by rw [e2, ek]⟩
 have hne : gl r (fr l h) ≠ [] := hm.row_ne hv hh e1
 have h1 : Ring (nxf l r) [h] := ring_cons.2 (by unfold Lead; simp [e])
 have := Ring.sub (hm.row_ring hv hne) h1 m1 (List.mem_singleton.2 rfl) k m2
 exact List.mem_singleton.1 this
theorem stf_ne (hm : IsMap n l r) {h : Nat} (hh : h < 2 * l.length) : stf l r h ≠ h := fun e => by
 have h1 := (stf_lt hm hh).2
 rw [e] at h1
 exact ends_ne hm.good hh h1
theorem stf_two (hm : IsMap n l r) {h : Nat} (hh : h < 2 * l.length) (e : stf l r (stf l r h) = h) : stf l r h = twn h := by
 obtain ⟨h1, h2⟩ := stf_lt hm hh
 have h3 := (stf_lt hm h1).2
 rw [e] at h3
 exact half_uniq hm.good h1 (twn_lt hh) h2 (by rw [twn_twn]; exact h3.symm)
def twoB (l : List Ed) (r : List (List Int)) (e : Nat) : Bool := stf l r (2 * e) == 2 * e + 1 && stf l r (2 * e + 1) == 2 * e
theorem two_lab (hm : IsMap n l r) {e : Nat} (he : e < l.length) (h2 : twoB l r e = true) : ∀ x, x < 2 * l.length → (fr l x = fr l (2 * e) → x = 2 * e) ∧ (fr l x = fr l (2 * e + 1) → x = 2 * e + 1) := by
 unfold twoB at h2
 rw [Bool.and_eq_true, beq_iff_eq, beq_iff_eq] at h2
 obtain ⟨q1, q2⟩ := h2
 rw [stf_eq (by omega)] at q1 q2
 have t1 : twn (2 * e) = 2 * e + 1 := by unfold twn; rw [if_pos (by omega)]
 have t2 : twn (2 * e + 1) = 2 * e := by unfold twn; rw [if_neg (by omega)]; omega
 rw [t1] at q1
 rw [t2] at q2
 exact fun x hx => ⟨fun q => lone_half hm (by omega) q2 hx q, fun q => lone_half hm (by omega) q1 hx q⟩
theorem two_same (hm : IsMap n l r) {e : Nat} (he : e < l.length) (h2 : twoB l r e = true) {w : Nat} (hw : w < n) (h : gi (ogOf n l) w = gi (ogOf n l) (fr l (2 * e))) : w = fr l (2 * e) ∨ w = fr l (2 * e + 1) := by
 have hl := two_lab hm he h2
 have hs := og_lab hm (s := fun w => decide (w = fr l (2 * e) ∨ w = fr l (2 * e + 1))) (fun x hx => by
  obtain ⟨a1, a2⟩ := hl (2 * x) (by omega)
  obtain ⟨b1, b2⟩ := hl (2 * x + 1) (by omega)
  by_cases c : x = e
  ·subst c
   simp
  ·have n1 : ¬ (fr l (2 * x) = fr l (2 * e) ∨ fr l (2 * x) = fr l (2 * e + 1)) := by
    rintro (q | q)
    ·have := a1 q; omega
    ·have := a2 q; omega
   have n2 : ¬ (fr l (2 * x + 1) = fr l (2 * e) ∨ fr l (2 * x + 1) = fr l (2 * e + 1)) := by
    rintro (q | q)
    ·have := b1 q; omega
    ·have := b2 q; omega
   simp only [decide_eq_false n1, decide_eq_false n2]) hw (fr_lt hm.good (show 2 * e < 2 * l.length by omega)).1 h
 simpa using hs
theorem nodup_map_on {α β : Type} {f : α → β} : ∀ {L : List α}, L.Nodup → (∀ x ∈ L, ∀ y ∈ L, f x = f y → x = y) → (L.map f).Nodup
 | [], _, _ => List.nodup_nil
 | a :: L, h, hf => by
  rw [List.nodup_cons] at h
  rw [List.map_cons, List.nodup_cons]
  refine ⟨fun q => ?_, nodup_map_on h.2 (fun x hx y hy => hf x (List.mem_cons_of_mem _ hx) y (List.mem_cons_of_mem _ hy))⟩
  obtain ⟨y, hy, e⟩ := List.mem_map.1 q
  have := hf a (List.mem_cons_self ..) y (List.mem_cons_of_mem _ hy) e.symm
  exact h.1 (this ▸ hy)
theorem comp_lt (hm : IsMap n l r) {v : Nat} (hv : v < n) : (gi (ogOf n l) v).toNat < parts n l ∧ 0 ≤ gi (ogOf n l) v := by
 have := hm.comp.cv hv
 unfold cv at this
 omega
theorem few (hm : IsMap n l r) : lone r + ((List.range l.length).filter fun e => twoB l r e).length ≤ parts n l := by
 have hd : (((List.range n).filter fun v => (gl r v).isEmpty).map fun v => (gi (ogOf n l) v).toNat).Nodup := nodup_map_on (List.Nodup.sublist List.filter_sublist List.nodup_range) (fun x hx y hy e => by
  rw [List.mem_filter, List.mem_range] at hx hy
  by_cases c : x = y
  ·exact c
  ·have h1 := comp_lt hm hx.1
   have h2 := comp_lt hm hy.1
   have := hm.comp.two x y hx.1 hy.1 c (by omega)
   rw [List.isEmpty_iff] at hx
   exact absurd hx.2 this)
 have hd2 : (((List.range l.length).filter fun e => twoB l r e).map fun e => (gi (ogOf n l) (fr l (2 * e))).toNat).Nodup := nodup_map_on (List.Nodup.sublist List.filter_sublist List.nodup_range) (fun x hx y hy e => by
  rw [List.mem_filter, List.mem_range] at hx hy
  have f1 := (fr_lt hm.good (show 2 * x < 2 * l.length by omega)).1
  have f2 := (fr_lt hm.good (show 2 * y < 2 * l.length by omega)).1
  have h1 := comp_lt hm f1
  have h2 := comp_lt hm f2
  obtain ⟨a1, a2⟩ := two_lab hm hx.1 hx.2 (2 * y) (by omega)
  rcases two_same hm hx.1 hx.2 f2 (by omega) with q | q
  ·have := a1 q; omega
  ·have := a2 q; omega)
 have h := nodup_subset (((List.range n).filter fun v => (gl r v).isEmpty).map (fun v => (gi (ogOf n l) v).toNat) ++ ((List.range l.length).filter fun e => twoB l r e).map fun e => (gi (ogOf n l) (fr l (2 * e))).toNat) (List.range (parts n l)) (by
  rw [List.nodup_append]
  refine ⟨hd, hd2, fun a ha b hb q => ?_⟩
  obtain ⟨x, hx, rfl⟩ := List.mem_map.1 ha
  obtain ⟨e, he, rfl⟩ := List.mem_map.1 hb
  rw [List.mem_filter, List.mem_range] at hx he
  have f1 := fr_lt hm.good (show 2 * e < 2 * l.length by omega)
  have f2 := fr_lt hm.good (show 2 * e + 1 < 2 * l.length by omega)
  have h1 := comp_lt hm hx.1
  have h2 := comp_lt hm f1.1
  have h3 := List.isEmpty_iff.1 hx.2
  rcases two_same hm he.1 he.2 hx.1 (by omega) with q | q
  ·exact hm.row_ne hx.1 (show 2 * e < 2 * l.length by omega) (by rw [f1.2, q]) h3
  ·exact hm.row_ne hx.1 (show 2 * e + 1 < 2 * l.length by omega) (by rw [f2.2, q]) h3) (fun x hx => by
  rw [List.mem_range]
  rcases List.mem_append.1 hx with hx | hx
  ·obtain ⟨v, hv, rfl⟩ := List.mem_map.1 hx
   rw [List.mem_filter, List.mem_range] at hv
   exact (comp_lt hm hv.1).1
  ·obtain ⟨e, he, rfl⟩ := List.mem_map.1 hx
   rw [List.mem_filter, List.mem_range] at he
   exact (comp_lt hm (fr_lt hm.good (show 2 * e < 2 * l.length by omega)).1).1)
 rw [List.length_append, List.length_map, List.length_map, List.length_range] at h
 rw [lone_count hm, List.countP_eq_length_filter]
 exact h
theorem lone_lt (hm : IsMap n l r) (h0 : 0 < l.length) : lone r + 1 ≤ parts n l := by
 have f1 := fr_lt hm.good (show 0 < 2 * l.length by omega)
 have hd : (((List.range n).filter fun v => (gl r v).isEmpty).map fun v => (gi (ogOf n l) v).toNat).Nodup := nodup_map_on (List.Nodup.sublist List.filter_sublist List.nodup_range) (fun x hx y hy e => by
  rw [List.mem_filter, List.mem_range] at hx hy
  by_cases c : x = y
  ·exact c
  ·have h1 := comp_lt hm hx.1
   have h2 := comp_lt hm hy.1
   have := hm.comp.two x y hx.1 hy.1 c (by omega)
   rw [List.isEmpty_iff] at hx
   exact absurd hx.2 this)
 have h := nodup_subset ((gi (ogOf n l) (fr l 0)).toNat :: ((List.range n).filter fun v => (gl r v).isEmpty).map (fun v => (gi (ogOf n l) v).toNat)) (List.range (parts n l)) (by
  rw [List.nodup_cons]
  refine ⟨fun q => ?_, hd⟩
  obtain ⟨x, hx, e⟩ := List.mem_map.1 q
  rw [List.mem_filter, List.mem_range] at hx
  have h1 := comp_lt hm hx.1
  have h2 := comp_lt hm f1.1
  have h3 := List.isEmpty_iff.1 hx.2
  by_cases c : x = fr l 0
  ·exact hm.row_ne hx.1 (show 0 < 2 * l.length by omega) (by rw [f1.2, c]) h3
  ·exact hm.comp.two x (fr l 0) hx.1 f1.1 c (by omega) h3) (fun x hx => by
  rw [List.mem_range]
  rcases List.mem_cons.1 hx with rfl | hx
  ·exact (comp_lt hm f1.1).1
  ·obtain ⟨v, hv, rfl⟩ := List.mem_map.1 hx
   rw [List.mem_filter, List.mem_range] at hv
   exact (comp_lt hm hv.1).1)
 rw [List.length_cons, List.length_map, List.length_range] at h
 rw [lone_count hm, List.countP_eq_length_filter]
 exact h
theorem flat_len {F : List (List Nat)} (h : ∀ L ∈ F, 2 ≤ L.length) : 3 * F.length ≤ F.flatten.length + (F.filter fun L => L.length == 2).length := by
 induction F with
 | nil => simp
 | cons L F ih =>
  have h1 := ih (fun x hx => h x (List.mem_cons_of_mem _ hx))
  have h2 := h L (List.mem_cons_self ..)
  rw [List.flatten_cons, List.length_append, List.length_cons, List.filter_cons]
  split
  ·rename_i q
   rw [List.length_cons]
   rw [beq_iff_eq] at q
   omega
  ·rename_i q
   rw [beq_iff_eq] at q
   omega
theorem flat_all {F : List (List Nat)} (h : ∀ L ∈ F, 3 ≤ L.length) (hs : F.flatten.length ≤ 3 * F.length) : ∀ L ∈ F, L.length = 3 := by
 induction F with
 | nil => intro L hL; cases hL
 | cons L F ih =>
  have h2 := h L (List.mem_cons_self ..)
  have h3 : ∀ M ∈ F, 3 ≤ M.length := fun M hM => h M (List.mem_cons_of_mem _ hM)
  have h4 : 3 * F.length ≤ F.flatten.length := by
   clear ih hs h h2
   induction F with
   | nil => simp
   | cons M F ih =>
    have := ih (fun x hx => h3 x (List.mem_cons_of_mem _ hx))
    have := h3 M (List.mem_cons_self ..)
    rw [List.flatten_cons, List.length_append, List.length_cons]
    omega
  rw [List.flatten_cons, List.length_append, List.length_cons] at hs
  intro M hM
  rcases List.mem_cons.1 hM with rfl | hM
  ·omega
  ·exact ih h3 (by omega) M hM
theorem flat_three {F : List (List Nat)} (h : ∀ L ∈ F, L.length = 3) : F.flatten.length = 3 * F.length := by
 induction F with
 | nil => rfl
 | cons L F ih =>
  rw [List.flatten_cons, List.length_append, List.length_cons, ih (fun x hx => h x (List.mem_cons_of_mem _ hx)), h L (List.mem_cons_self ..)]
  omega
theorem face_two (hm : IsMap n l r) {F : List (List Nat)} (hF : Faces (stf l r) (2 * l.length) F) {L : List Nat} (hL : L ∈ F) : 2 ≤ L.length ∧ (L.length = 2 → ∃ e, e < l.length ∧ L.headD 0 = 2 * e ∧ twoB l r e = true) := by
 have hr := hF.dec.ring L hL
 have hin := faces_mem hm hF hL
 match L, hr, hin, hF.head L hL with
 | [], hr, _, _ => exact absurd rfl hr.1
 | [x], hr, hin, _ =>
  have h1 : stf l r x = x := by
   have := ring_cons.1 hr
   unfold Lead at this
   simpa using this
  exact absurd h1 (stf_ne hm (hin x (List.mem_singleton.2 rfl)))
 | [x, y], hr, hin, hhd =>
  refine ⟨Nat.le_refl _, fun _ => ?_⟩
  have h1 : stf l r x = y ∧ stf l r y = x := by
   have := ring_cons.1 hr
   unfold Lead at this
   simpa using this
  have hx := hin x (List.mem_cons_self ..)
  have h2 := stf_two hm hx (by rw [h1.1, h1.2])
  have h3 : x ≤ y := hhd y (by simp)
  rw [h1.1] at h2
  have h4 : x % 2 = 0 := by
   unfold twn at h2
   split at h2
   ·assumption
   ·omega
  have h5 : y = x + 1 := by
   unfold twn at h2
   rw [if_pos h4] at h2
   exact h2
  refine ⟨x / 2, by omega, by show x = _; omega, ?_⟩
  unfold twoB
  rw [show 2 * (x / 2) = x by omega, ← h5, h1.1, h1.2]
  simp
 | x :: y :: z :: L, _, _, _ => exact ⟨by simp, fun q => by simp at q⟩
theorem two_le (hm : IsMap n l r) {F : List (List Nat)} (hF : Faces (stf l r) (2 * l.length) F) : (F.filter fun L => L.length == 2).length ≤ ((List.range l.length).filter fun e => twoB l r e).length := by
 have hp : ((F.filter fun L => L.length == 2).map fun L => L.headD 0 / 2).Nodup := by
  have h1 : ((F.filter fun L => L.length == 2).map fun L => L.headD 0).Nodup := by
   rw [List.nodup_iff_pairwise_ne, List.pairwise_map]
   refine List.Pairwise.imp (fun h => Nat.ne_of_lt h) (List.Pairwise.sublist List.filter_sublist hF.rise)
  have h2 : ((F.filter fun L => L.length == 2).map fun L => L.headD 0 / 2) = (((F.filter fun L => L.length == 2).map fun L => L.headD 0).map fun x => x / 2) := by rw [List.map_map]; rfl
  rw [h2]
  refine nodup_map_on h1 (fun x hx y hy e => ?_)
  obtain ⟨L, hL, rfl⟩ := List.mem_map.1 hx
  obtain ⟨M, hM, rfl⟩ := List.mem_map.1 hy
  rw [List.mem_filter, beq_iff_eq] at hL hM
  obtain ⟨a, _, ea, _⟩ := (face_two hm hF hL.1).2 hL.2
  obtain ⟨b, _, eb, _⟩ := (face_two hm hF hM.1).2 hM.2
  omega
 have := nodup_subset _ ((List.range l.length).filter fun e => twoB l r e) hp (fun x hx => by
  obtain ⟨L, hL, rfl⟩ := List.mem_map.1 hx
  rw [List.mem_filter, beq_iff_eq] at hL
  obtain ⟨a, ha, ea, eb⟩ := (face_two hm hF hL.1).2 hL.2
  rw [List.mem_filter, List.mem_range, show L.headD 0 / 2 = a by omega]
  exact ⟨ha, eb⟩)
 rw [List.length_map] at this
 exact this
theorem flat_2m {F : List (List Nat)} (hF : Faces (stf l r) (2 * l.length) F) : F.flatten.length = 2 * l.length := by
 rw [hF.perm.length_eq, List.length_range]
theorem full_tri (hm : IsMap n l r) (h3 : 3 ≤ n) (hg : genus n l r = 0) {F : List (List Nat)} (hF : facesL (stOf l r) = F.map zN) (hFF : Faces (stf l r) (2 * l.length) F) (hl : l.length = 3 * n - 6) : parts n l = 1 ∧ ∀ L ∈ F, L.length = 3 := by
 have e1 := hm.genus_eq
 rw [hg, hF, List.length_map] at e1
 have e2 := flat_len (fun L hL => (face_two hm hFF hL).1)
 rw [flat_2m hFF] at e2
 have e3 := two_le hm hFF
 have e4 := few hm
 have e5 := lone_lt hm (by omega)
 have hc : parts n l = 1 := by omega
 refine ⟨hc, ?_⟩
 refine flat_all (fun L hL => ?_) (by rw [flat_2m hFF]; omega)
 obtain ⟨g1, g2⟩ := face_two hm hFF hL
 rcases Nat.lt_or_ge L.length 3 with q | q
 ·exfalso
  obtain ⟨e, he, _, h2⟩ := g2 (by omega)
  have same : ∀ w, w < n → w = fr l (2 * e) ∨ w = fr l (2 * e + 1) := fun w hw => two_same hm he h2 hw (by
   have h1 := comp_lt hm hw
   have h2 := comp_lt hm (fr_lt hm.good (show 2 * e < 2 * l.length by omega)).1
   omega)
  have s0 := same 0 (by omega)
  have s1 := same 1 (by omega)
  have s2 := same 2 (by omega)
  omega
 ·exact q
theorem tri_full (hm : IsMap n l r) (h3 : 3 ≤ n) (hg : genus n l r = 0) {F : List (List Nat)} (hF : facesL (stOf l r) = F.map zN) (hFF : Faces (stf l r) (2 * l.length) F) (hc : parts n l = 1) (hl : ∀ L ∈ F, L.length = 3) : l.length = 3 * n - 6 := by
 have e1 := hm.genus_eq
 rw [hg, hF, List.length_map, hc] at e1
 have e2 := flat_three hl
 rw [flat_2m hFF] at e2
 have e3 : lone r = 0 := by
  rw [lone_count hm, List.countP_eq_zero]
  intro v hv q
  rw [List.mem_range] at hv
  have h1 := List.isEmpty_iff.1 q
  obtain ⟨w, hw, hne⟩ : ∃ w, w < n ∧ v ≠ w := by
   by_cases c : v = 0
   ·exact ⟨1, by omega, by omega⟩
   ·exact ⟨0, by omega, c⟩
  have c1 := comp_lt hm hv
  have c2 := comp_lt hm hw
  exact hm.comp.two v w hv hw hne (by omega) h1
 omega
end
end Rot
namespace GAll.Law
mutual
def tangramref24_Refuses.j0 : Nat → List (List Int) → Bool → Int → List (S41) → Option (Int)
 | 0, _, _, _, _ => none
 | k + 1, x1, x38, x160000, x160001 => if x38 = true then (some 241) else ((tangramref13_Joined.f k x160000 x160001).bind fun t163 => (if t163 = true then ((tangramref13_Next.f k x160000 x160001 x1).bind fun t164 => ((tangramref13_Faces.f k t164).bind fun t167 => (tangramref24_Refuses.l0 k t167 0))) else (some 240)))
def tangramref24_Refuses.l0 : Nat → List (List Int) → Int → Option (Int)
 | 0, _, _ => none
 | k + 1, x10, x11 => if x11 < (x10.length : Int) then (if 0 ≤ x11 then (if ((rd_L4 x10 x11).length : Int) = 3 then (tangramref24_Refuses.l0 k x10 (wrap64 (x11 + 1))) else (some 240)) else (none)) else (some 0)
end
def tangramref24_Refuses.f (k : Nat) (a0_0 : Int) (l0_1 : List (S41)) (l1 : List (List Int)) (a2 : Int) : Option (Int) := (tangramref04_Valid.f k a0_0 l0_1).bind fun t160 => (if t160 = true then ((tangramref13_Check.f k a0_0 l0_1 l1).bind fun t161 => (if t161 = 0 then ((tangramref13_Genus.f k a0_0 l0_1 l1).bind fun t162 => (if t162 = 0 then (if a0_0 < 3 then (some 230) else (if a2 < 0 then (tangramref24_Refuses.j0 k l1 true a0_0 l0_1) else (tangramref24_Refuses.j0 k l1 (decide (a2 ≥ (wrap64 (2 * (l0_1.length : Int))))) a0_0 l0_1))) else (some 120))) else (some t161))) else (some 1))
theorem tangramref24_Refuses.mono_l : ∀ k, (∀ y0 y1 y2 y3, LeO (tangramref24_Refuses.j0 k y0 y1 y2 y3) (tangramref24_Refuses.j0 (k + 1) y0 y1 y2 y3)) ∧ (∀ y0 y1, LeO (tangramref24_Refuses.l0 k y0 y1) (tangramref24_Refuses.l0 (k + 1) y0 y1))
 | 0 => ⟨fun _ _ _ _ r h => by simp [tangramref24_Refuses.j0] at h, fun _ _ r h => by simp [tangramref24_Refuses.l0] at h⟩
 | k + 1 => by
  obtain ⟨ih0, ih1⟩ := tangramref24_Refuses.mono_l k
  refine ⟨?_, ?_⟩
  ·intro y0 y1 y2 y3
   unfold tangramref24_Refuses.j0
   repeat' first
   | (with_reducible exact ih0 _ _ _ _)
   | (with_reducible exact ih1 _ _)
   | (with_reducible exact tangramref04_Valid.mono _ _ _)
   | (with_reducible exact tangramref13_Check.mono _ _ _ _)
   | (with_reducible exact tangramref13_Faces.mono _ _)
   | (with_reducible exact tangramref13_Genus.mono _ _ _ _)
   | (with_reducible exact tangramref13_Joined.mono _ _ _)
   | (with_reducible exact tangramref13_Next.mono _ _ _ _)
   | (with_reducible exact LeO.refl _)
   | (with_reducible exact LeO.none _)
   | (with_reducible refine LeO.ite ?_ ?_)
   | (with_reducible refine LeO.bind ?_ (fun _ => ?_))
  ·intro y0 y1
   unfold tangramref24_Refuses.l0
   repeat' first
   | (with_reducible exact ih0 _ _ _ _)
   | (with_reducible exact ih1 _ _)
   | (with_reducible exact tangramref04_Valid.mono _ _ _)
   | (with_reducible exact tangramref13_Check.mono _ _ _ _)
   | (with_reducible exact tangramref13_Faces.mono _ _)
   | (with_reducible exact tangramref13_Genus.mono _ _ _ _)
   | (with_reducible exact tangramref13_Joined.mono _ _ _)
   | (with_reducible exact tangramref13_Next.mono _ _ _ _)
   | (with_reducible exact LeO.refl _)
   | (with_reducible exact LeO.none _)
   | (with_reducible refine LeO.ite ?_ ?_)
   | (with_reducible refine LeO.bind ?_ (fun _ => ?_))
theorem tangramref24_Refuses.mono : ∀ a0 a1 a2 a3 k, LeO (tangramref24_Refuses.f k a0 a1 a2 a3) (tangramref24_Refuses.f (k + 1) a0 a1 a2 a3) := by
 intro a0 a1 a2 a3 k
 obtain ⟨ih0, ih1⟩ := tangramref24_Refuses.mono_l k
 unfold tangramref24_Refuses.f
 repeat' first
   | (with_reducible exact ih0 _ _ _ _)
   | (with_reducible exact ih1 _ _)
   | (with_reducible exact tangramref04_Valid.mono _ _ _)
   | (with_reducible exact tangramref13_Check.mono _ _ _ _)
   | (with_reducible exact tangramref13_Faces.mono _ _)
   | (with_reducible exact tangramref13_Genus.mono _ _ _ _)
   | (with_reducible exact tangramref13_Joined.mono _ _ _)
   | (with_reducible exact tangramref13_Next.mono _ _ _ _)
   | (with_reducible exact LeO.refl _)
   | (with_reducible exact LeO.none _)
   | (with_reducible refine LeO.ite ?_ ?_)
   | (with_reducible refine LeO.bind ?_ (fun _ => ?_))
theorem tangramref24_Refuses.calls (k : Nat) (a0_0 : Int) (A0_1 : Option Addr) (c0_1 : Nat) (l0_1 : List (S41)) (A1 : Option Addr) (c1 : Nat) (l1 : List (List Int)) (a2 : Int) (r : Int) (w : World) (hr0_1 : Kd.C k41 w A0_1 l0_1.length l0_1) (hc0_1 : l0_1.length ≤ c0_1) (hr1 : Kd.C (Kd.slice 3 (Kd.int .i64)) w A1 l1.length l1) (hc1 : l1.length ≤ c1) (h : tangramref24_Refuses.f k a0_0 l0_1 l1 a2 = some r) :
  Calls Try.prog 24 #[.agg #[.int .i64 a0_0, .slice A0_1 l0_1.length c0_1], .slice A1 l1.length c1, .int .i64 a2] w fun e w' => e = .returned (.int .i64 r) ∧ Below w.heap.size w w' := by
 have hu24 := Try.underlying24
 have HR0_1 := Aside0.mk hr0_1
 have HC0_1 := Aside0.mk hc0_1
 clear hr0_1 hc0_1
 have HR1 := Aside0.mk hr1
 have HC1 := Aside0.mk hc1
 clear hr1 hc1
 have HB := Aside0.mk (Below.refl w.heap.size w)
 have H : ((tangramref04_Valid.f k a0_0 l0_1).bind fun t160 => (if t160 = true then ((tangramref13_Check.f k a0_0 l0_1 l1).bind fun t161 => (if t161 = 0 then ((tangramref13_Genus.f k a0_0 l0_1 l1).bind fun t162 => (if t162 = 0 then (if a0_0 < 3 then (some 230) else (if a2 < 0 then (tangramref24_Refuses.j0 k l1 true a0_0 l0_1) else (tangramref24_Refuses.j0 k l1 (decide (a2 ≥ (wrap64 (2 * (l0_1.length : Int))))) a0_0 l0_1))) else (some 120))) else (some t161))) else (some 1))) = some r := h
 clear h
 replace H := Option.bind_eq_some_iff.mp H
 obtain ⟨t160, A40, H⟩ := H
 have A4 := Aside0.mk A40
 clear A40
 refine Classical.byCases (p := t160 = true) (fun c5 => ?pc5) (fun c5 => ?nc5)
 case' pc5 =>
  subst c5
  rw [if_pos rfl] at H
  replace H := Option.bind_eq_some_iff.mp H
  obtain ⟨t161, A60, H⟩ := H
  have A6 := Aside0.mk A60
  clear A60
  refine Classical.byCases (p := t161 = 0) (fun c7 => ?pc7) (fun c7 => ?nc7)
  case' pc7 =>
   rw [if_pos c7] at H
   have c7b0 : (t161 == 0) = true := beq_iff_eq.mpr c7
   have c7b1 : (t161 != 0) = false := bne_eq_false_iff_eq.mpr c7
   clear c7
   replace H := Option.bind_eq_some_iff.mp H
   obtain ⟨t162, A80, H⟩ := H
   have A8 := Aside0.mk A80
   clear A80
   refine Classical.byCases (p := t162 = 0) (fun c9 => ?pc9) (fun c9 => ?nc9)
   case' pc9 =>
    rw [if_pos c9] at H
    have c9b0 : (t162 == 0) = true := beq_iff_eq.mpr c9
    have c9b1 : (t162 != 0) = false := bne_eq_false_iff_eq.mpr c9
    clear c9
    refine Classical.byCases (p := a0_0 < 3) (fun c10 => ?pc10) (fun c10 => ?nc10)
    case' pc10 =>
     rw [if_pos c10] at H
     have c10b0 : decide (a0_0 < 3) = true := decide_eq_true c10
     clear c10
     obtain rfl := Option.some.inj H
    case' nc10 =>
     rw [if_neg c10] at H
     have c10b0 : decide (a0_0 < 3) = false := decide_eq_false c10
     clear c10
     have HC19 := Aside0.mk H
     clear H
     go_enter Try.func24, Try.ntmps24
     go_upto_region 11 with (first | ((with_reducible refine gate_dst (N := 3) rfl ?_); (try (refine gate_guard (by rfl) ?_; dsimp only)); refine bx9 (N := 3) (cs := #[.int .i64 a0_0, .slice A0_1 l0_1.length c0_1]) (t := 24) ?_; intro gb159 hg w20 hbox hb; have BK159 := Aside0.mk (hbox); have GW159 := gw9 HB hg; have GE159 := gw9 HB hg; replace HB := bs9 HB hb; clear hb hbox hg; have hcz21_0 := cz9 BK159 0; have hcz21_1 := cz9 BK159 1; have hfz21_0 := blk_frozen BK159.out 0; have hfz21_1 := blk_frozen BK159.out 1) | ((with_reducible refine gate_callee (f := 33) rfl ?_); refine gL9 (some 13) Try.func33 #[.agg #[.int .i64 a0_0, .slice A0_1 l0_1.length c0_1]] ?_; (with_reducible refine (tangramref04_Valid.calls k a0_0 _ _ l0_1 true _ ?side1 ?side2 A4.out).mono ?_); (case side1 => exact cb9 HR0_1 HB); (case side2 => exact HC0_1.out); rintro e w22 ⟨rfl, hb⟩; refine ⟨_, rfl, ?_⟩; replace BK159 := bb9 BK159 hb; replace HB := bs9 HB hb; (try clear hb); have hcz23_0 := cz9 BK159 0; have hcz23_1 := cz9 BK159 1; have hfz23_0 := blk_frozen BK159.out 0; have hfz23_1 := blk_frozen BK159.out 1) | ((with_reducible refine gate_callee (f := 34) rfl ?_); refine gL9 (some 18) Try.func34 #[.agg #[.int .i64 a0_0, .slice A0_1 l0_1.length c0_1], .slice A1 l1.length c1] ?_; (with_reducible refine (tangramref13_Check.calls k a0_0 _ _ l0_1 _ _ l1 t161 _ ?side1 ?side2 ?side3 ?side4 A6.out).mono ?_); (case side1 => exact cb9 HR0_1 HB); (case side2 => exact HC0_1.out); (case side3 => exact cb9 HR1 HB); (case side4 => exact HC1.out); rintro e w24 ⟨rfl, hb⟩; refine ⟨_, rfl, ?_⟩; replace BK159 := bb9 BK159 hb; replace HB := bs9 HB hb; (try clear hb); have hcz25_0 := cz9 BK159 0; have hcz25_1 := cz9 BK159 1; have hfz25_0 := blk_frozen BK159.out 0; have hfz25_1 := blk_frozen BK159.out 1) | ((with_reducible refine gate_callee (f := 35) rfl ?_); refine gL9 (some 24) Try.func35 #[.agg #[.int .i64 a0_0, .slice A0_1 l0_1.length c0_1], .slice A1 l1.length c1] ?_; (with_reducible refine (tangramref13_Genus.calls k a0_0 _ _ l0_1 _ _ l1 t162 _ ?side1 ?side2 ?side3 ?side4 A8.out).mono ?_); (case side1 => exact cb9 HR0_1 HB); (case side2 => exact HC0_1.out); (case side3 => exact cb9 HR1 HB); (case side4 => exact HC1.out); rintro e w26 ⟨rfl, hb⟩; refine ⟨_, rfl, ?_⟩; replace BK159 := bb9 BK159 hb; replace HB := bs9 HB hb; (try clear hb); have hcz27_0 := cz9 BK159 0; have hcz27_1 := cz9 BK159 1; have hfz27_0 := blk_frozen BK159.out 0; have hfz27_1 := blk_frozen BK159.out 1))
     (try simp only [Act.put, List.setIfInBounds_toArray, List.set_cons_zero, List.set_cons_succ])
     go_cut [38] (fun v38 wc => ∃ (kq : Nat) (x38_18 : Bool), v38 = .bool x38_18 ∧ Aside0 (tangramref24_Refuses.j0 kq l1 x38_18 a0_0 l0_1 = some r) ∧ Aside0 (kq ≤ k) ∧ Aside0 (wc.heap[gb159]? = some (.cells #[.int .i64 a0_0, (.slice A0_1 l0_1.length c0_1)] 24 (0, 0))) ∧ Aside0 (Below w.heap.size w wc))
     case first =>
      have H := HC19.out
      clear HC19
      by_cases c28 : a2 < 0
      ·rw [if_pos c28] at H
       have c28b0 : decide (a2 < 0) = true := decide_eq_true c28
       clear c28
       (first | rw [c28b0] | (simp only [i64_w, i32_w]; rw [c28b0]) | skip)
       have H' := Aside0.mk H
       clear H
       go_wp2
       go_meet
       case rel => exact ⟨_, (true), an9, H', ⟨by first | omega | exact Nat.le_refl _⟩, bk9 BK159, ⟨bl9 HB⟩⟩
      ·rw [if_neg c28] at H
       have c28b0 : decide (a2 < 0) = false := decide_eq_false c28
       clear c28
       (first | rw [c28b0] | (simp only [i64_w, i32_w]; rw [c28b0]) | skip)
       have H' := Aside0.mk H
       clear H
       have hcz29_0 := cz9 BK159 0
       have hcz29_1 := cz9 BK159 1
       have hfz29_0 := blk_frozen BK159.out 0
       have hfz29_1 := blk_frozen BK159.out 1
       go_wp2
       go_meet
       case rel => exact ⟨_, (decide (a2 ≥ (wrap64 (2 * (l0_1.length : Int))))), an9, H', ⟨by first | omega | exact Nat.le_refl _⟩, bk9 BK159, ⟨bl9 HB⟩⟩
     case rest =>
      clear HC19
      try clear c1
      try clear c2
      try clear p2
      try clear c3
      try clear c5
      try clear p6
      try clear c7
      try clear c7b0
      try clear c7b1
      try clear c9
      try clear c9b0
      try clear c9b1
      try clear c10
      try clear c10b0
      try clear c24
      try clear c28
      try clear c28b0
      try clear hcz12_0
      try clear hcz12_1
      try clear hcz14_0
      try clear hcz14_1
      try clear hcz16_0
      try clear hcz16_1
      try clear hcz18_0
      try clear hcz18_1
      try clear hcz21_0
      try clear hcz21_1
      try clear hcz23_0
      try clear hcz23_1
      try clear hcz25_0
      try clear hcz25_1
      try clear hcz27_0
      try clear hcz27_1
      try clear hcz29_0
      try clear hcz29_1
      try clear hfz12_0
      try clear hfz12_1
      try clear hfz14_0
      try clear hfz14_1
      try clear hfz16_0
      try clear hfz16_1
      try clear hfz18_0
      try clear hfz18_1
      try clear hfz21_0
      try clear hfz21_1
      try clear hfz23_0
      try clear hfz23_1
      try clear hfz25_0
      try clear hfz25_1
      try clear hfz27_0
      try clear hfz27_1
      try clear hfz29_0
      try clear hfz29_1
      obtain ⟨kq, x38_18, rfl, HA, HJ18, BK159, HB⟩ := hcut
      cases kq with
      | zero => exact absurd HA.out (by simp [tangramref24_Refuses.j0])
      | succ kj18 =>
       have H := HA.out
       clear HA
       simp only [tangramref24_Refuses.j0] at H
       by_cases c30 : x38_18 = true
       ·subst c30
        rw [if_pos rfl] at H
        obtain rfl := Option.some.inj H
        go_wp2
        go_ret
        exact ⟨er9, bl9 HB⟩
       ·replace c30 := Bool.eq_false_iff.mpr c30
        subst c30
        rw [if_neg (show ¬ (false = true) by decide)] at H
        replace H := Option.bind_eq_some_iff.mp H
        obtain ⟨t163, A310, H⟩ := H
        have A31 := Aside0.mk A310
        clear A310
        by_cases c32 : t163 = true
        ·subst c32
         rw [if_pos rfl] at H
         replace H := Option.bind_eq_some_iff.mp H
         obtain ⟨t164, A330, H⟩ := H
         have A33 := Aside0.mk A330
         clear A330
         replace H := Option.bind_eq_some_iff.mp H
         obtain ⟨t167, A340, H⟩ := H
         have A34 := Aside0.mk A340
         clear A340
         have H' := Aside0.mk H
         clear H
         have hcz35_0 := cz9 BK159 0
         have hcz35_1 := cz9 BK159 1
         have hfz35_0 := blk_frozen BK159.out 0
         have hfz35_1 := blk_frozen BK159.out 1
         go_wp2_with (first | ((with_reducible refine gate_callee (f := 36) rfl ?_); refine gL9 (some 40) Try.func36 #[.agg #[.int .i64 a0_0, .slice A0_1 l0_1.length c0_1]] ?_; (with_reducible refine (tangramref13_Joined.calls kj18 a0_0 _ _ l0_1 true _ ?side1 ?side2 A31.out).mono ?_); (case side1 => exact cb9 HR0_1 HB); (case side2 => exact HC0_1.out); rintro e w36 ⟨rfl, hb⟩; refine ⟨_, rfl, ?_⟩; replace BK159 := bb9 BK159 hb; replace HB := bs9 HB hb; (try clear hb); have hcz37_0 := cz9 BK159 0; have hcz37_1 := cz9 BK159 1; have hfz37_0 := blk_frozen BK159.out 0; have hfz37_1 := blk_frozen BK159.out 1) | ((with_reducible refine gate_callee (f := 38) rfl ?_); refine gL9 (some 45) Try.func38 #[.agg #[.int .i64 a0_0, .slice A0_1 l0_1.length c0_1], .slice A1 l1.length c1] ?_; (with_reducible refine (tangramref13_Next.calls kj18 a0_0 _ _ l0_1 _ _ l1 t164 _ ?side1 ?side2 ?side3 ?side4 A33.out).mono ?_); (case side1 => exact cb9 HR0_1 HB); (case side2 => exact HC0_1.out); (case side3 => exact cb9 HR1 HB); (case side4 => exact HC1.out); rintro e w38 ⟨v165, rfl, ho0, hb⟩; refine ⟨_, rfl, ?_⟩; have HO166 := Aside0.mk (Kd.R_lower ho0 (sz9 HB)); replace BK159 := bb9 BK159 hb; replace HB := bs9 HB hb; (try clear hb); (try clear ho0); obtain ⟨Ao39, co39, eo39⟩ := Kd.R_slice HO166.out; subst eo39) | ((with_reducible refine gate_callee (f := 37) rfl ?_); refine gL9 (some 46) Try.func37 #[.slice Ao39 t164.length co39] ?_; (with_reducible refine (tangramref13_Faces.calls kj18 _ _ t164 t167 _ ?side1 ?side2 A34.out).mono ?_); (case side1 => repeat (first | exact (Kd.R_reads' HO166.out).2.2 | (with_reducible refine Kd.C_alloc ?_ _) | (with_reducible refine Kd.C_drewN ?_ _) | (with_reducible refine Kd.C_drew ?_))); (case side2 => exact (Kd.R_reads' HO166.out).2.1); rintro e w40 ⟨v168, rfl, ho0, hb⟩; refine ⟨_, rfl, ?_⟩; have HO169 := Aside0.mk (Kd.S_lower (Kd.S_new' ho0 (Kd.R_lt (ro9 HO166))) (sz9 HB)); replace HO166 := rb9 HO166 hb; replace BK159 := bb9 BK159 hb; replace HB := bs9 HB hb; (try clear hb); (try clear ho0)))
         go_loopg [11] kj18 (fun kq v11 w' => ∃ (x11_2 : Int), v11 = .int .i64 x11_2 ∧ Aside0 (tangramref24_Refuses.l0 kq t167 x11_2 = some r) ∧ Aside0 (kq ≤ kj18) ∧ Aside0 (Kd.S (Kd.slice 3 (Kd.int .i64)) 27 w' w.heap.size (fun _ => True) v168 t167) ∧ Aside0 (w'.heap[gb159]? = some (.cells #[.int .i64 a0_0, (.slice A0_1 l0_1.length c0_1)] 24 (0, 0))) ∧ Aside0 (Below w.heap.size w w'))
         case atStart => exact ⟨(0), an9, H', ⟨Nat.le_refl _⟩, ⟨by (with_reducible repeat (first | apply Kd.S_alloc | apply Kd.S_drewN | apply Kd.S_drew)); exact Kd.S_mono HO169.out (fun _ hk => trivial)⟩, bk9 BK159, ⟨bl9 HB⟩⟩
         case round =>
          clear H'
          try clear c1
          try clear c2
          try clear p2
          try clear c3
          try clear c5
          try clear p6
          try clear c7
          try clear c7b0
          try clear c7b1
          try clear c9
          try clear c9b0
          try clear c9b1
          try clear c10
          try clear c10b0
          try clear c24
          try clear c28
          try clear c28b0
          try clear c30
          try clear c32
          try clear c33
          try clear c34
          try clear c35
          try clear c36
          try clear c37
          try clear c38
          try clear hcz12_0
          try clear hcz12_1
          try clear hcz14_0
          try clear hcz14_1
          try clear hcz16_0
          try clear hcz16_1
          try clear hcz18_0
          try clear hcz18_1
          try clear hcz21_0
          try clear hcz21_1
          try clear hcz23_0
          try clear hcz23_1
          try clear hcz25_0
          try clear hcz25_1
          try clear hcz27_0
          try clear hcz27_1
          try clear hcz29_0
          try clear hcz29_1
          try clear hcz35_0
          try clear hcz35_1
          try clear hcz37_0
          try clear hcz37_1
          try clear hfz12_0
          try clear hfz12_1
          try clear hfz14_0
          try clear hfz14_1
          try clear hfz16_0
          try clear hfz16_1
          try clear hfz18_0
          try clear hfz18_1
          try clear hfz21_0
          try clear hfz21_1
          try clear hfz23_0
          try clear hfz23_1
          try clear hfz25_0
          try clear hfz25_1
          try clear hfz27_0
          try clear hfz27_1
          try clear hfz29_0
          try clear hfz29_1
          try clear hfz35_0
          try clear hfz35_1
          try clear hfz37_0
          try clear hfz37_1
          try clear p2
          try clear p6
          obtain ⟨x11_2, rfl, HA, HK2, HO_10, BK159, HB⟩ := hrel
          cases gk with
          | zero => exact absurd HA.out (by simp [tangramref24_Refuses.l0])
          | succ k2 =>
           have H := HA.out
           clear HA
           simp only [tangramref24_Refuses.l0] at H
           by_cases c41 : x11_2 < (t167.length : Int)
           ·rw [if_pos c41] at H
            have c41b0 : decide (x11_2 < (t167.length : Int)) = true := decide_eq_true c41
            clear c41
            by_cases c42 : 0 ≤ x11_2
            ·rw [if_pos c42] at H
             have c42b0 : decide (0 ≤ x11_2) = true := decide_eq_true c42
             clear c42
             by_cases c43 : ((rd_L4 t167 x11_2).length : Int) = 3
             ·rw [if_pos c43] at H
              have c43b0 : (((rd_L4 t167 x11_2).length : Int) == 3) = true := beq_iff_eq.mpr c43
              have c43b1 : (((rd_L4 t167 x11_2).length : Int) != 3) = false := bne_eq_false_iff_eq.mpr c43
              clear c43
              have H' := Aside0.mk H
              clear H
              obtain ⟨Ao44, co44, eo44⟩ := Kd.S_slice HO_10.out
              subst eo44
              have p170 : 0 ≤ (x11_2 : Int) := od9
              have q170 : x11_2 < (t167.length : Int) := od9
              obtain ⟨ad170, A170_0, c170_0, e170, hx170_0, hl170_0, hi170_0⟩ := at_L4 (Kd.S_reads' HO_10.out).2.2 x11_2 p170 q170
              cases e170
              obtain ⟨ce170, hce170, hMe170, hcc170⟩ := Kd.S_get HO_10.out [] x11_2 p170 (by first | exact q170 | exact od9 | (have e_ := (Kd.S_reads' HO_10.out).1; omega))
              obtain ⟨ve170_0, rfl, ge170_0⟩ := hMe170
              have hv170_0 := hcc170 0 _ rfl
              rw [Nat.add_zero, show ((Kd.slice 3 (Kd.int .i64))).sz = 1 from rfl, Nat.mul_one] at hv170_0
              replace hv170_0 := Option.some.inj (hv170_0.symm.trans hx170_0)
              rw [hv170_0] at ge170_0
              have HL170_0 := Aside0.mk (show Kd.R (Kd.int .i64) 3 _ _ _ _ (rd_L4 t167 x11_2) from ge170_0)
              clear hv170_0 ge170_0
              clear hcc170 hce170
              have HR170_0 := Aside0.mk hi170_0
              have HC170_0 := Aside0.mk hl170_0
              clear hi170_0 hl170_0
              replace p170 := eq_true p170
              replace q170 := eq_true q170
              go_wp2
              go_roundg k2
              case measure => have := HJ18.out; have := HK2.out; omega
              case rel => exact ⟨(wrap64 (x11_2 + 1)), an9, H', ⟨by have := HJ18.out; have := HK2.out; omega⟩, ⟨by (with_reducible repeat (first | apply Kd.S_alloc | apply Kd.S_drewN | apply Kd.S_drew)); exact HO_10.out⟩, bk9 BK159, ⟨bl9 HB⟩⟩
             ·rw [if_neg c43] at H
              have c43b0 : (((rd_L4 t167 x11_2).length : Int) == 3) = false := beq_eq_false_iff_ne.mpr c43
              have c43b1 : (((rd_L4 t167 x11_2).length : Int) != 3) = true := bne_iff_ne.mpr c43
              obtain rfl := Option.some.inj H
              obtain ⟨Ao45, co45, eo45⟩ := Kd.S_slice HO_10.out
              subst eo45
              have p170 : 0 ≤ (x11_2 : Int) := od9
              have q170 : x11_2 < (t167.length : Int) := od9
              obtain ⟨ad170, A170_0, c170_0, e170, hx170_0, hl170_0, hi170_0⟩ := at_L4 (Kd.S_reads' HO_10.out).2.2 x11_2 p170 q170
              cases e170
              obtain ⟨ce170, hce170, hMe170, hcc170⟩ := Kd.S_get HO_10.out [] x11_2 p170 (by first | exact q170 | exact od9 | (have e_ := (Kd.S_reads' HO_10.out).1; omega))
              obtain ⟨ve170_0, rfl, ge170_0⟩ := hMe170
              have hv170_0 := hcc170 0 _ rfl
              rw [Nat.add_zero, show ((Kd.slice 3 (Kd.int .i64))).sz = 1 from rfl, Nat.mul_one] at hv170_0
              replace hv170_0 := Option.some.inj (hv170_0.symm.trans hx170_0)
              rw [hv170_0] at ge170_0
              have HL170_0 := Aside0.mk (show Kd.R (Kd.int .i64) 3 _ _ _ _ (rd_L4 t167 x11_2) from ge170_0)
              clear hv170_0 ge170_0
              clear hcc170 hce170
              have HR170_0 := Aside0.mk hi170_0
              have HC170_0 := Aside0.mk hl170_0
              clear hi170_0 hl170_0
              replace p170 := eq_true p170
              replace q170 := eq_true q170
              go_wp2
              go_ret
              exact ⟨er9, bl9 HB⟩
            ·rw [if_neg c42] at H
             exact absurd H (by simp)
           ·rw [if_neg c41] at H
            have c41b0 : decide (x11_2 < (t167.length : Int)) = false := decide_eq_false c41
            clear c41
            obtain rfl := Option.some.inj H
            obtain ⟨Ao46, co46, eo46⟩ := Kd.S_slice HO_10.out
            subst eo46
            go_wp2
            go_ret
            exact ⟨er9, bl9 HB⟩
        ·replace c32 := Bool.eq_false_iff.mpr c32
         subst c32
         rw [if_neg (show ¬ (false = true) by decide)] at H
         obtain rfl := Option.some.inj H
         have hcz47_0 := cz9 BK159 0
         have hcz47_1 := cz9 BK159 1
         have hfz47_0 := blk_frozen BK159.out 0
         have hfz47_1 := blk_frozen BK159.out 1
         go_wp2_with (first | ((with_reducible refine gate_callee (f := 36) rfl ?_); refine gL9 (some 40) Try.func36 #[.agg #[.int .i64 a0_0, .slice A0_1 l0_1.length c0_1]] ?_; (with_reducible refine (tangramref13_Joined.calls kj18 a0_0 _ _ l0_1 false _ ?side1 ?side2 A31.out).mono ?_); (case side1 => exact cb9 HR0_1 HB); (case side2 => exact HC0_1.out); rintro e w48 ⟨rfl, hb⟩; refine ⟨_, rfl, ?_⟩; replace BK159 := bb9 BK159 hb; replace HB := bs9 HB hb; (try clear hb)))
         go_ret
         exact ⟨er9, bl9 HB⟩
   case' nc9 =>
    rw [if_neg c9] at H
    have c9b0 : (t162 == 0) = false := beq_eq_false_iff_ne.mpr c9
    have c9b1 : (t162 != 0) = true := bne_iff_ne.mpr c9
    obtain rfl := Option.some.inj H
  case' nc7 =>
   rw [if_neg c7] at H
   have c7b0 : (t161 == 0) = false := beq_eq_false_iff_ne.mpr c7
   have c7b1 : (t161 != 0) = true := bne_iff_ne.mpr c7
   obtain rfl := Option.some.inj H
 case' nc5 =>
  replace c5 := Bool.eq_false_iff.mpr c5
  subst c5
  rw [if_neg (show ¬ (false = true) by decide)] at H
  obtain rfl := Option.some.inj H
 all_goals
  go_enter Try.func24, Try.ntmps24
  go_wp2_with (first | ((with_reducible refine gate_dst (N := 3) rfl ?_); (try (refine gate_guard (by rfl) ?_; dsimp only)); refine bx9 (N := 3) (cs := #[.int .i64 a0_0, .slice A0_1 l0_1.length c0_1]) (t := 24) ?_; intro gb159 hg w11 hbox hb; have BK159 := Aside0.mk (hbox); have GW159 := gw9 HB hg; have GE159 := gw9 HB hg; replace HB := bs9 HB hb; clear hb hbox hg; have hcz12_0 := cz9 BK159 0; have hcz12_1 := cz9 BK159 1; have hfz12_0 := blk_frozen BK159.out 0; have hfz12_1 := blk_frozen BK159.out 1) | ((with_reducible refine gate_callee (f := 33) rfl ?_); refine gL9 (some 13) Try.func33 #[.agg #[.int .i64 a0_0, .slice A0_1 l0_1.length c0_1]] ?_; (with_reducible refine (tangramref04_Valid.calls k a0_0 _ _ l0_1 _ _ ?side1 ?side2 A4.out).mono ?_); (case side1 => exact cb9 HR0_1 HB); (case side2 => exact HC0_1.out); rintro e w13 ⟨rfl, hb⟩; refine ⟨_, rfl, ?_⟩; replace BK159 := bb9 BK159 hb; replace HB := bs9 HB hb; (try clear hb); have hcz14_0 := cz9 BK159 0; have hcz14_1 := cz9 BK159 1; have hfz14_0 := blk_frozen BK159.out 0; have hfz14_1 := blk_frozen BK159.out 1) | ((with_reducible refine gate_callee (f := 34) rfl ?_); refine gL9 (some 18) Try.func34 #[.agg #[.int .i64 a0_0, .slice A0_1 l0_1.length c0_1], .slice A1 l1.length c1] ?_; (with_reducible refine (tangramref13_Check.calls k a0_0 _ _ l0_1 _ _ l1 t161 _ ?side1 ?side2 ?side3 ?side4 A6.out).mono ?_); (case side1 => exact cb9 HR0_1 HB); (case side2 => exact HC0_1.out); (case side3 => exact cb9 HR1 HB); (case side4 => exact HC1.out); rintro e w15 ⟨rfl, hb⟩; refine ⟨_, rfl, ?_⟩; replace BK159 := bb9 BK159 hb; replace HB := bs9 HB hb; (try clear hb); have hcz16_0 := cz9 BK159 0; have hcz16_1 := cz9 BK159 1; have hfz16_0 := blk_frozen BK159.out 0; have hfz16_1 := blk_frozen BK159.out 1) | ((with_reducible refine gate_callee (f := 35) rfl ?_); refine gL9 (some 24) Try.func35 #[.agg #[.int .i64 a0_0, .slice A0_1 l0_1.length c0_1], .slice A1 l1.length c1] ?_; (with_reducible refine (tangramref13_Genus.calls k a0_0 _ _ l0_1 _ _ l1 t162 _ ?side1 ?side2 ?side3 ?side4 A8.out).mono ?_); (case side1 => exact cb9 HR0_1 HB); (case side2 => exact HC0_1.out); (case side3 => exact cb9 HR1 HB); (case side4 => exact HC1.out); rintro e w17 ⟨rfl, hb⟩; refine ⟨_, rfl, ?_⟩; replace BK159 := bb9 BK159 hb; replace HB := bs9 HB hb; (try clear hb); have hcz18_0 := cz9 BK159 0; have hcz18_1 := cz9 BK159 1; have hfz18_0 := blk_frozen BK159.out 0; have hfz18_1 := blk_frozen BK159.out 1))
  go_ret
  exact ⟨er9, bl9 HB⟩
end GAll.Law
namespace GAll.Law
def tangramref24_Outer.f (k : Nat) (a0_0 : Int) (l0_1 : List (S41)) (l1 : List (List Int)) (a2 : Int) : Option (Int × Int × Int) := (tangramref13_Next.f k a0_0 l0_1 l1).bind fun t172 => (if 0 ≤ (Go.bits .xor .i64 a2 1) then (if (Go.bits .xor .i64 a2 1) < (t172.length : Int) then ((tangramref04_From.f a0_0 l0_1 a2).bind fun t176 => ((tangramref04_To.f a0_0 l0_1 a2).bind fun t177 => ((tangramref04_To.f a0_0 l0_1 (rd t172 (Go.bits .xor .i64 a2 1))).bind fun t178 => (some (t176, t177, t178))))) else (none)) else (none))
theorem tangramref24_Outer.mono : ∀ a0 a1 a2 a3 k, LeO (tangramref24_Outer.f k a0 a1 a2 a3) (tangramref24_Outer.f (k + 1) a0 a1 a2 a3) := by
 intro a0 a1 a2 a3 k
 unfold tangramref24_Outer.f
 repeat' first
   | (with_reducible exact tangramref13_Next.mono _ _ _ _)
   | (with_reducible exact LeO.refl _)
   | (with_reducible exact LeO.none _)
   | (with_reducible refine LeO.ite ?_ ?_)
   | (with_reducible refine LeO.bind ?_ (fun _ => ?_))
def tangramref24_Outer.T3 : Bool × List (List Nat × List Nat) := (true, [([], []), ([], []), ([0, 1], [0, 1]), ([], []), ([], []), ([3, 4, 2], [3, 4]), ([], []), ([], []), ([6, 7, 5], [6, 7]), ([2, 8, 0, 1, 2], [2]), ([5, 9, 0, 1, 2, 3, 4, 5, 9], [5]), ([8, 10, 0, 1, 2, 3, 4, 5, 6, 7, 8, 9, 10], [8])])
def tangramref24_Outer.B3 : List Nat := [0, 0, 3, 0, 0, 31, 0, 0, 255, 511, 1023, 2047]
theorem tangramref24_Outer.tab3 : rtab .any (opsOf Try.f39 3) = tangramref24_Outer.T3 := by kernel_rfl
theorem tangramref24_Outer.bits3 : waitsOk tangramref24_Outer.T3.2 tangramref24_Outer.B3 = true := by kernel_rfl
theorem tangramref24_Outer.calls (k : Nat) (a0_0 : Int) (A0_1 : Option Addr) (c0_1 : Nat) (l0_1 : List (S41)) (A1 : Option Addr) (c1 : Nat) (l1 : List (List Int)) (a2 : Int) (r1 : Int) (r2 : Int) (r3 : Int) (w : World) (hr0_1 : Kd.C k41 w A0_1 l0_1.length l0_1) (hc0_1 : l0_1.length ≤ c0_1) (hr1 : Kd.C (Kd.slice 3 (Kd.int .i64)) w A1 l1.length l1) (hc1 : l1.length ≤ c1) (h : tangramref24_Outer.f k a0_0 l0_1 l1 a2 = some (r1, r2, r3)) :
  Calls Try.prog 39 #[.agg #[.int .i64 a0_0, .slice A0_1 l0_1.length c0_1], .slice A1 l1.length c1, .int .i64 a2] w fun e w' => e = .returned (.tuple #[.int .i64 r1, .int .i64 r2, .int .i64 r3]) ∧ Below w.heap.size w w' := by
 have hu24 := Try.underlying24
 have HR0_1 := Aside0.mk hr0_1
 have HC0_1 := Aside0.mk hc0_1
 clear hr0_1 hc0_1
 have HR1 := Aside0.mk hr1
 have HC1 := Aside0.mk hc1
 clear hr1 hc1
 have HB := Aside0.mk (Below.refl w.heap.size w)
 have H : ((tangramref13_Next.f k a0_0 l0_1 l1).bind fun t172 => (if 0 ≤ (Go.bits .xor .i64 a2 1) then (if (Go.bits .xor .i64 a2 1) < (t172.length : Int) then ((tangramref04_From.f a0_0 l0_1 a2).bind fun t176 => ((tangramref04_To.f a0_0 l0_1 a2).bind fun t177 => ((tangramref04_To.f a0_0 l0_1 (rd t172 (Go.bits .xor .i64 a2 1))).bind fun t178 => (some (t176, t177, t178))))) else (none)) else (none))) = some (r1, r2, r3) := h
 clear h
 replace H := Option.bind_eq_some_iff.mp H
 obtain ⟨t172, A40, H⟩ := H
 have A4 := Aside0.mk A40
 clear A40
 by_cases c5 : 0 ≤ (Go.bits .xor .i64 a2 1)
 ·rw [if_pos c5] at H
  have c5b0 : decide (0 ≤ (Go.bits .xor .i64 a2 1)) = true := decide_eq_true c5
  clear c5
  by_cases c6 : (Go.bits .xor .i64 a2 1) < (t172.length : Int)
  ·rw [if_pos c6] at H
   have c6b0 : decide ((Go.bits .xor .i64 a2 1) < (t172.length : Int)) = true := decide_eq_true c6
   clear c6
   replace H := Option.bind_eq_some_iff.mp H
   obtain ⟨t176, A70, H⟩ := H
   have A7 := Aside0.mk A70
   clear A70
   replace H := Option.bind_eq_some_iff.mp H
   obtain ⟨t177, A80, H⟩ := H
   have A8 := Aside0.mk A80
   clear A80
   replace H := Option.bind_eq_some_iff.mp H
   obtain ⟨t178, A90, H⟩ := H
   have A9 := Aside0.mk A90
   clear A90
   simp only [Option.some.injEq, Prod.mk.injEq] at H
   obtain ⟨rfl, rfl, rfl⟩ := H
   go_enter Try.func39, Try.ntmps39
   try go_wp2_with (first | ((with_reducible refine gate_dst (N := 3) rfl ?_); refine bx9 (N := 3) (cs := #[.int .i64 a0_0, .slice A0_1 l0_1.length c0_1]) (t := 24) ?_; intro gb171 hg w10 hbox hb; have BK171 := Aside0.mk (hbox); have GW171 := gw9 HB hg; have GE171 := gw9 HB hg; replace HB := bs9 HB hb; clear hb hbox hg; have hcz11_0 := cz9 BK171 0; have hcz11_1 := cz9 BK171 1; have hfz11_0 := blk_frozen BK171.out 0; have hfz11_1 := blk_frozen BK171.out 1) | ((with_reducible refine gate_callee (f := 38) rfl ?_); refine gL9 (some 13) Try.func38 #[.agg #[.int .i64 a0_0, .slice A0_1 l0_1.length c0_1], .slice A1 l1.length c1] ?_; (with_reducible refine (tangramref13_Next.calls k a0_0 _ _ l0_1 _ _ l1 t172 _ ?side1 ?side2 ?side3 ?side4 A4.out).mono ?_); (case side1 => exact cb9 HR0_1 HB); (case side2 => exact HC0_1.out); (case side3 => exact cb9 HR1 HB); (case side4 => exact HC1.out); rintro e w12 ⟨v173, rfl, ho0, hb⟩; refine ⟨_, rfl, ?_⟩; have HO174 := Aside0.mk (Kd.R_lower ho0 (sz9 HB)); replace BK171 := bb9 BK171 hb; replace HB := bs9 HB hb; (try clear hb); (try clear ho0); obtain ⟨Ao13, co13, eo13⟩ := Kd.R_slice HO174.out; subst eo13; have p175 : 0 ≤ ((Go.bits .xor .i64 a2 1) : Int) := od9; have q175 : (Go.bits .xor .i64 a2 1) < (t172.length : Int) := od9; obtain ⟨ad175, e175, hx175_0⟩ := Kd.at_int (Kd.R_reads' HO174.out).2.2 (Go.bits .xor .i64 a2 1) p175 q175; cases e175; replace p175 := eq_true p175; replace q175 := eq_true q175))
   replace HO174 := Aside0.mk (Kd.R_drew HO174.out)
   replace BK171 := Aside0.mk (blk_drew BK171.out)
   replace HB := Aside0.mk (below_drew1 HB.out)
   refine start_ (n := 12) (S := fun w' => w'.cell? ⟨gb171, 0, none⟩ = some (.int .i64 a0_0) ∧ w'.cell? ⟨gb171, 1, none⟩ = some (.slice A0_1 l0_1.length c0_1)) (ds := []) (bm9 12 0) (by kernel_rfl) rfl rfl (hc2 BK171) (fun hHeld => ?_); refine with_tabW tangramref24_Outer.tab3 tangramref24_Outer.bits3 (fun HT_ HW_ => ?_)
   generalize w12.drew = w14 at HO174 BK171 HB hHeld ⊢
   refine pu9 1 20 (bm9 12 2) ?_
   refine pu9 4 23 (bm9 12 18) ?_
   refine pu9 7 26 (bm9 12 146) ?_
   refine tk29 0 19 (bm9 12 147) hHeld ?_
   refine tk29 3 22 (bm9 12 155) hHeld ?_
   refine tk29 6 25 (bm9 12 219) hHeld ?_
   refine one_ (i := 2) (N := some 21) (bm9 12 223) rfl rfl (one_of HT_.out (by kernel_rfl)) (by decide) (fun K hK => ?_)
   refine gs9 Try.func51 #[.agg #[.int .i64 a0_0, .slice A0_1 l0_1.length c0_1], .int .i64 a2] ?_
   with_reducible refine (tangramref04_From.calls a0_0 _ _ l0_1 a2 t176 _ ?side1 ?side2 A7.out).mono ?_
   (case side1 => exact cb9 HR0_1 HB)
   (case side2 => exact HC0_1.out)
   rintro e w15 ⟨rfl, hb⟩
   refine ⟨_, rfl, ?_⟩
   replace HO174 := rb9 HO174 hb
   replace BK171 := bb9 BK171 hb
   replace HB := bs9 HB hb
   (try clear hb)
   refine hK.out _ _ (hc2 BK171) (fun hHeld => ?_)
   clear hK K
   refine nm9 ?_
   refine one_ (i := 5) (N := some 24) (bm9 12 255) rfl rfl (one_of HT_.out (by kernel_rfl)) (by decide) (fun K hK => ?_)
   refine gs9 Try.func42 #[.agg #[.int .i64 a0_0, .slice A0_1 l0_1.length c0_1], .int .i64 a2] ?_
   with_reducible refine (tangramref04_To.calls a0_0 _ _ l0_1 a2 t177 _ ?side1 ?side2 A8.out).mono ?_
   (case side1 => exact cb9 HR0_1 HB)
   (case side2 => exact HC0_1.out)
   rintro e w16 ⟨rfl, hb⟩
   refine ⟨_, rfl, ?_⟩
   replace HO174 := rb9 HO174 hb
   replace BK171 := bb9 BK171 hb
   replace HB := bs9 HB hb
   (try clear hb)
   refine hK.out _ _ (hc2 BK171) (fun hHeld => ?_)
   clear hK K
   refine nm9 ?_
   refine one_ (i := 8) (N := some 27) (bm9 12 511) rfl rfl (one_of HT_.out (by kernel_rfl)) (by decide) (fun K hK => ?_)
   refine gs9 Try.func42 #[.agg #[.int .i64 a0_0, .slice A0_1 l0_1.length c0_1], .int .i64 (rd t172 (Go.bits .xor .i64 a2 1))] ?_
   with_reducible refine (tangramref04_To.calls a0_0 _ _ l0_1 (rd t172 (Go.bits .xor .i64 a2 1)) t178 _ ?side1 ?side2 A9.out).mono ?_
   (case side1 => exact cb9 HR0_1 HB)
   (case side2 => exact HC0_1.out)
   rintro e w17 ⟨rfl, hb⟩
   refine ⟨_, rfl, ?_⟩
   replace HO174 := rb9 HO174 hb
   replace BK171 := bb9 BK171 hb
   replace HB := bs9 HB hb
   (try clear hb)
   refine hK.out _ _ (hc2 BK171) (fun hHeld => ?_)
   clear hK K
   refine nm9 ?_
   refine pu9 9 6 (bm9 12 1023) ?_
   refine pu9 10 7 (bm9 12 2047) ?_
   refine pu9 11 8 (bm9 12 4095) ?_
   refine done_ (done_of HT_.out (by kernel_rfl)) ?_
   try go_wp2
   go_ret3
   exact ⟨er9, bl9 HB⟩
  ·rw [if_neg c6] at H
   exact absurd H (by simp)
 ·rw [if_neg c5] at H
  exact absurd H (by simp)
end GAll.Law
namespace Rot
open GAll GAll.Law Mem Ring Face
section
variable {n : Nat} {l : List Ed} {r : List (List Int)}
theorem tri_ev (hm : IsMap n l r) (h3 : 3 ≤ n) (h : Ev (fun k => rot_Check.f k (n : Int) l r) (0, 0)) : Ev (fun k => tri_Full.f k (n : Int) l r) (decide (l.length = 3 * n - 6) && (genus n l r == 0), 0) := by
 have h1 := hm.good.2.1
 have h2 := hm.good.2.2.1
 have w : wrap64 (wrap64 (3 * (n : Int)) - 6) = ((3 * n - 6 : Nat) : Int) := by rw [IntWalk.wrap64_in (3 * (n : Int)) (by omega), IntWalk.wrap64_in _ (by omega)]; omega
 unfold tri_Full.f
 refine Ev.bind h ?_
 by_cases c : l.length = 3 * n - 6
 ·rw [decide_eq_true c, Bool.true_and]
  refine Ev.congr (fun k => ?_) (Ev.bind (f := fun _ t => some (t, 0)) (flat_ok hm h) (Ev.now _))
  rw [if_pos rfl, if_pos (by omega), w, if_pos (by omega)]
 ·rw [decide_eq_false c, Bool.false_and]
  refine Ev.congr (fun k => ?_) (Ev.now _)
  rw [if_pos rfl, if_pos (by omega), w, if_neg (by omega)]
theorem half_div {q : Nat} (hq : q ≤ 9000000) : wrap64 (Int.tdiv (q : Int) 2) = ((q / 2 : Nat) : Int) := by
 have e : Int.tdiv (q : Int) 2 = ((q / 2 : Nat) : Int) := rfl
 rw [e, IntWalk.wrap64_in _ (by omega)]
theorem ends_ev (hg : PureV.Good (n : Int) l) {q : Nat} (hq : q < 2 * l.length) : order_ends.f (n : Int) l (q : Int) = some ((fr l q : Int), (fr l (twn q) : Int)) := by
 have h2 := hg.2.2.1
 have hi : q / 2 < l.length := by omega
 have e1 := frs_even hi
 have e2 := frs_odd hi
 have f1 := (fr_lt hg hq).2
 have f2 := (fr_lt hg (twn_lt hq)).2
 unfold order_ends.f
 have e3 : Int.tmod (q : Int) 2 = ((q % 2 : Nat) : Int) := rfl
 rw [half_div (by omega), e3, if_pos (by omega), if_pos (by omega)]
 change (if ((q % 2 : Nat) : Int) = 0 then some ((PureV.rdE l ((q / 2 : Nat) : Int)).f0, (PureV.rdE l ((q / 2 : Nat) : Int)).f1) else some ((PureV.rdE l ((q / 2 : Nat) : Int)).f1, (PureV.rdE l ((q / 2 : Nat) : Int)).f0)) = _
 rw [← e1, ← e2, ← f1, ← f2]
 rcases Nat.mod_two_eq_zero_or_one q with c | c
 ·have t : twn q = 2 * (q / 2) + 1 := by unfold twn; rw [if_pos c]; omega
  have t2 : q = 2 * (q / 2) := by omega
  rw [if_pos (by omega), t, ← t2]
 ·have t : twn q = 2 * (q / 2) := by unfold twn; rw [if_neg (by omega)]; omega
  have t2 : q = 2 * (q / 2) + 1 := by omega
  rw [if_neg (by omega), t, ← t2]
theorem around_ev (hm : IsMap n l r) (h : Ev (fun k => rot_Check.f k (n : Int) l r) (0, 0)) : Ev (fun k => rot_Around.f k (n : Int) l r) (aroundOf (frs l) r, 0) := by
 unfold rot_Around.f
 refine Ev.bind h (Ev.congr (fun k => if_pos rfl) (Ev.congr (fun k => if_pos ?_) (Ev.now _)))
 obtain ⟨a, b, c⟩ := hm.rows
 unfold rot_Around.fit
 rw [Bool.and_eq_true, Bool.and_eq_true, List.all_eq_true, decide_eq_true_eq, decide_eq_true_eq]
 refine ⟨a, b, fun row hrow => ?_⟩
 rw [Bool.and_eq_true, List.all_eq_true, decide_eq_true_eq]
 refine ⟨(c row hrow).1, fun x hx => ?_⟩
 obtain ⟨x0, x1⟩ := (c row hrow).2 x hx
 obtain ⟨q, rfl⟩ := Int.eq_ofNat_of_zero_le x0
 have := Seen.tw_in (m := l.length) (q := q) a (by omega)
 rw [Bool.and_eq_true, decide_eq_true_eq, decide_eq_true_eq]
 exact this
theorem xor_twn {q : Nat} (hq : q ≤ 9000000) : Go.bits .xor .i64 (q : Int) 1 = (twn q : Int) := Seen.tw_nat hq
def thirdV (l : List Ed) (r : List (List Int)) (q : Nat) : Nat := fr l (twn (nxf l r (twn q)))
theorem look_ok (hm : IsMap n l r) (h3 : 3 ≤ n) (hg : genus n l r = 0) (hl : l.length = 3 * n - 6) {q : Nat} (hq : q < 2 * l.length) (h : Ev (fun k => rot_Check.f k (n : Int) l r) (0, 0)) :
  Ev (fun k => Peel.lookF k (n : Int) l r (q : Int)) (0, aroundOf (frs l) r, (fr l q : Int), (fr l (twn q) : Int), (thirdV l r q : Int)) := by
 have hll := hm.good.2.2.1
 have ht := twn_lt hq
 obtain ⟨hx1, hx2⟩ := nxf_lt hm ht
 unfold Peel.lookF
 refine Ev.bind h (Ev.congr (fun k => if_neg (fun q => q rfl)) ?_)
 refine Ev.bind (flat_ok hm h) (Ev.congr (fun k => if_neg (by rw [hg]; decide)) (Ev.congr (fun k => if_neg (by omega)) (Ev.congr (fun k => if_neg (by omega)) ?_)))
 refine Ev.bind (tri_ev hm h3 h) (Ev.congr (fun k => if_neg (by rw [hg, decide_eq_true hl]; decide)) ?_)
 refine Ev.bind (next_ev hm h) (Ev.congr (fun k => if_neg (fun q => q rfl)) ?_)
 refine Ev.bind (around_ev hm h) (Ev.congr (fun k => if_neg (fun q => q rfl)) ?_)
 refine Ev.congr (fun k => ?_) (Ev.now _)
 rw [ends_ev hm.good hq, Option.bind_some, xor_twn (by omega), Int.toNat_natCast, hm.nxf_eq ht, hm.len, if_pos ⟨by omega, by omega⟩, ends_ev hm.good hx1, Option.bind_some]
 rfl
theorem tri_loop {F : List (List Int)} (hl : F.length ≤ 9000000) (d : Nat) : ∀ i : Nat, i + d = F.length → ∃ c : Int, Ev (fun k => tangramref24_Refuses.l0 k F (i : Int)) c ∧ ((c = 0 ∧ ∀ j, i ≤ j → j < F.length → (gl F j).length = 3) ∨ (c = 240 ∧ ¬ ∀ j, i ≤ j → j < F.length → (gl F j).length = 3)) := by
 induction d with
 | zero =>
  intro i hi
  refine ⟨0, Ev.step (f := fun _ => some 0) (fun k => ?_) (Ev.now _), .inl ⟨rfl, fun j h1 h2 => by omega⟩⟩
  simp only [tangramref24_Refuses.l0]
  rw [if_neg (by omega)]
 | succ d ih =>
  intro i hi
  obtain ⟨c, h1, h2⟩ := ih (i + 1) (by omega)
  by_cases q : (gl F i).length = 3
  ·refine ⟨c, Ev.step (fun k => ?_) h1, ?_⟩
   ·simp only [tangramref24_Refuses.l0]
    change (if (i : Int) < (F.length : Int) then (if 0 ≤ (i : Int) then (if ((gl F i).length : Int) = 3 then _ else _) else _) else _) = _
    rw [if_pos (by omega), if_pos (by omega), if_pos (by omega), wad (by omega)]
   ·rcases h2 with ⟨e, h2⟩ | ⟨e, h2⟩
    ·refine .inl ⟨e, fun j g1 g2 => ?_⟩
     by_cases w : j = i
     ·rw [w]; exact q
     ·exact h2 j (by omega) g2
    ·exact .inr ⟨e, fun h => h2 fun j g1 g2 => h j (by omega) g2⟩
  ·refine ⟨240, Ev.step (f := fun _ => some 240) (fun k => ?_) (Ev.now _), .inr ⟨rfl, fun h => q (h i (Nat.le_refl _) (by omega))⟩⟩
   simp only [tangramref24_Refuses.l0]
   change (if (i : Int) < (F.length : Int) then (if 0 ≤ (i : Int) then (if ((gl F i).length : Int) = 3 then _ else _) else _) else _) = _
   rw [if_pos (by omega), if_pos (by omega), if_neg (by omega)]
end
structure Tri (N : Nat) (l : List Ed) (r : List (List Int)) (q : Nat) : Prop where
 map : IsMap N l r
 big : 3 ≤ N
 root : q < 2 * l.length
 flat : genus N l r = 0
 joined : parts N l = 1
 three : ∀ F : List (List Nat), facesL (stOf l r) = F.map zN → ∀ L ∈ F, L.length = 3
 edges : l.length = 3 * N - 6
theorem root_j {k : Nat} {n : Int} {l : List Ed} {r : List (List Int)} {root : Int} (hl : l.length ≤ 4194304) : (if root < 0 then tangramref24_Refuses.j0 k r true n l else tangramref24_Refuses.j0 k r (decide (root ≥ wrap64 (2 * (l.length : Int)))) n l) = tangramref24_Refuses.j0 k r (decide (root < 0 ∨ (2 * l.length : Int) ≤ root)) n l := by
 rw [IntWalk.wrap64_in _ (by omega)]
 by_cases c : root < 0
 ·rw [if_pos c, decide_eq_true (.inl c)]
 ·rw [if_neg c]
  congr 1
  by_cases d : (2 * l.length : Int) ≤ root
  ·rw [decide_eq_true (show root ≥ 2 * (l.length : Int) from d), decide_eq_true (show root < 0 ∨ (2 * l.length : Int) ≤ root from .inr d)]
  ·rw [decide_eq_false (show ¬ root ≥ 2 * (l.length : Int) from d), decide_eq_false (show ¬ (root < 0 ∨ (2 * l.length : Int) ≤ root) by omega)]
theorem refuse (n : Int) (l : List Ed) (r : List (List Int)) (root : Int) (hs : Small r) : ∃ code, Ev (fun k => tangramref24_Refuses.f k n l r root) code ∧ ((code ≠ 0 ∧ Ev (fun k => Peel.lookF k n l r root) (code, [], 0, 0, 0)) ∨ (code = 0 ∧ ∃ N q : Nat, n = N ∧ root = q ∧ Tri N l r q)) := by
 obtain ⟨b, hb, hbg⟩ := valid4_ev n l
 obtain ⟨res, c1, c2, c3, c4, c5, c6⟩ := the_check n l r
 have lookbad : res.2 ≠ 0 → Ev (fun k => Peel.lookF k n l r root) (res.2, [], 0, 0, 0) := fun h => by
  unfold Peel.lookF
  exact Ev.bind c1 (Ev.congr (fun k => if_pos h) (Ev.now _))
 cases b with
 | false =>
  have hG : ¬ PureV.Good n l := fun q => absurd (hbg.2 q) (by decide)
  have h1 := c4 hG
  refine ⟨1, ?_, .inl ⟨by decide, by have := lookbad (by omega); rw [h1] at this; exact this⟩⟩
  unfold tangramref24_Refuses.f
  exact Ev.bind hb (Ev.congr (fun k => if_neg (by decide)) (Ev.now _))
 | true =>
  have hG := hbg.1 rfl
  obtain ⟨N, rfl⟩ := Int.eq_ofNat_of_zero_le hG.1
  have hch : Graph.check13 N (ends l) r = res.2 := by
   unfold Graph.check13
   by_cases hl : r.length = N
   ·rw [if_pos hl, c6 N rfl hG hl, ends_length]
    rfl
   ·rw [if_neg hl, c5 hG (by omega)]
  have hcv := check13_ev hG hs
  rw [hch] at hcv
  have start : ∀ {x : Int}, Ev (fun k => if res.2 = 0 then ((tangramref13_Genus.f k (N : Int) l r).bind fun t341 => (if t341 = 0 then (if (N : Int) < 3 then (some 230) else (if root < 0 then (tangramref24_Refuses.j0 k r true (N : Int) l) else (tangramref24_Refuses.j0 k r (decide (root ≥ (wrap64 (2 * (l.length : Int))))) (N : Int) l))) else (some 120))) else some res.2) x → Ev (fun k => tangramref24_Refuses.f k (N : Int) l r root) x := fun h => by
   unfold tangramref24_Refuses.f
   exact Ev.bind hb (Ev.congr (fun k => if_pos rfl) (Ev.bind hcv h))
  by_cases h0 : res.2 = 0
  rotate_left
  ·exact ⟨res.2, start (Ev.congr (fun k => if_neg h0) (Ev.now _)), .inl ⟨h0, lookbad h0⟩⟩
  obtain ⟨M, e, _, hr⟩ := c3.1 h0
  obtain rfl : N = M := by omega
  have hm : IsMap N l r := ⟨hG, hr⟩
  have hck := c1
  rw [c2 h0] at hck
  have hgv := genus13_ev hm
  have hll := hG.2.2.1
  by_cases hg : genus N l r = 0
  rotate_left
  ·refine ⟨120, start (Ev.congr (fun k => if_pos h0) (Ev.bind hgv (Ev.congr (fun k => if_neg hg) (Ev.now _)))), .inl ⟨by decide, ?_⟩⟩
   unfold Peel.lookF
   exact Ev.bind hck (Ev.congr (fun k => if_neg (fun q => q rfl)) (Ev.bind (flat_ok hm hck) (Ev.congr (fun k => if_pos (beq_eq_false_iff_ne.2 hg)) (Ev.now _))))
  have look1 : ∀ {x}, Ev (fun k => if (N : Int) < 3 then some (230, [], 0, 0, 0) else if root < 0 ∨ (2 * l.length : Int) ≤ root then some (241, [], 0, 0, 0) else
    (tri_Full.f k (N : Int) l r).bind fun u => if u.2 ≠ 0 ∨ u.1 = false then some (240, [], 0, 0, 0) else
    (rot_Next.f k (N : Int) l r).bind fun x => if x.2 ≠ 0 then some (x.2, [], 0, 0, 0) else
    (rot_Around.f k (N : Int) l r).bind fun y => if y.2 ≠ 0 then some (y.2, [], 0, 0, 0) else
    (order_ends.f (N : Int) l root).bind fun p => if 0 ≤ Go.bits .xor .i64 root 1 ∧ Go.bits .xor .i64 root 1 < (x.1.length : Int) then
     (order_ends.f (N : Int) l (gi x.1 (Go.bits .xor .i64 root 1).toNat)).bind fun q => some (0, y.1, p.1, p.2, q.2) else none) x → Ev (fun k => Peel.lookF k (N : Int) l r root) x := fun h => by
   unfold Peel.lookF
   exact Ev.bind hck (Ev.congr (fun k => if_neg (fun q => q rfl)) (Ev.bind (flat_ok hm hck) (Ev.congr (fun k => if_neg (by rw [hg]; decide)) h)))
  by_cases h3 : (N : Int) < 3
  ·refine ⟨230, start (Ev.congr (fun k => if_pos h0) (Ev.bind hgv (Ev.congr (fun k => by rw [if_pos hg, if_pos h3]) (Ev.now _)))), .inl ⟨by decide, look1 (Ev.congr (fun k => if_pos h3) (Ev.now _))⟩⟩
  have start2 : ∀ {x : Int}, Ev (fun k => tangramref24_Refuses.j0 k r (decide (root < 0 ∨ (2 * l.length : Int) ≤ root)) (N : Int) l) x → Ev (fun k => tangramref24_Refuses.f k (N : Int) l r root) x := fun h => start (Ev.congr (fun k => if_pos h0) (Ev.bind hgv (Ev.congr (fun k => by rw [if_pos hg, if_neg h3, root_j hll]) h)))
  by_cases hq : root < 0 ∨ (2 * l.length : Int) ≤ root
  ·refine ⟨241, start2 ?_, .inl ⟨by decide, look1 (Ev.congr (fun k => by rw [if_neg h3, if_pos hq]) (Ev.now _))⟩⟩
   rw [decide_eq_true hq]
   refine Ev.step (f := fun _ => some 241) (fun k => ?_) (Ev.now _)
   simp only [tangramref24_Refuses.j0]
   rfl
  obtain ⟨q, rfl⟩ := Int.eq_ofNat_of_zero_le (show 0 ≤ root by omega)
  obtain ⟨F, hF, hFF⟩ := hm.faces
  have hj : ∀ {x : Int}, Ev (fun k => if ((parts N l : Int) == 1) = true then ((tangramref13_Next.f k (N : Int) l r).bind fun t343 => ((tangramref13_Faces.f k t343).bind fun t346 => (tangramref24_Refuses.l0 k t346 0))) else (some 240)) x → Ev (fun k => tangramref24_Refuses.f k (N : Int) l r (q : Int)) x := fun h => start2 (by
   rw [decide_eq_false hq]
   refine Ev.step (fun k => ?_) (Ev.bind (f := fun k t342 => if t342 = true then ((tangramref13_Next.f k (N : Int) l r).bind fun t343 => ((tangramref13_Faces.f k t343).bind fun t346 => (tangramref24_Refuses.l0 k t346 0))) else (some 240)) (joined_ev hG) h)
   simp only [tangramref24_Refuses.j0]
   rw [if_neg (by decide)])
  have look2 : l.length ≠ 3 * N - 6 → Ev (fun k => Peel.lookF k (N : Int) l r (q : Int)) (240, [], 0, 0, 0) := fun h => look1 (Ev.congr (fun k => by rw [if_neg h3, if_neg hq]) (Ev.bind (tri_ev hm (by omega) hck) (Ev.congr (fun k => if_pos (show (0 : Int) ≠ 0 ∨ (decide (l.length = 3 * N - 6) && (genus N l r == 0)) = false from .inr (by rw [decide_eq_false h]; rfl))) (Ev.now _))))
  by_cases hp : parts N l = 1
  rotate_left
  ·refine ⟨240, hj (Ev.congr (fun k => if_neg (by rw [beq_iff_eq]; omega)) (Ev.now _)), .inl ⟨by decide, look2 (fun h => hp (full_tri hm (by omega) hg hF hFF h).1)⟩⟩
  obtain ⟨c, t1, t2⟩ := tri_loop (F := facesL (stOf l r)) (by have := hm.lists.1; omega) (facesL (stOf l r)).length 0 (by omega)
  have hj2 : Ev (fun k => tangramref24_Refuses.f k (N : Int) l r (q : Int)) c := hj (Ev.congr (fun k => if_pos (by rw [beq_iff_eq]; omega)) (Ev.bind (next13_ev hm) (Ev.bind (faces13_ev hm) t1)))
  have hlen : ∀ {G : List (List Nat)}, facesL (stOf l r) = G.map zN → ((∀ j, 0 ≤ j → j < (facesL (stOf l r)).length → (gl (facesL (stOf l r)) j).length = 3) ↔ ∀ L ∈ G, L.length = 3) := fun {G} hG => by
   rw [hG]
   constructor
   ·intro h L hL
    obtain ⟨j, hj, rfl⟩ := List.getElem_of_mem hL
    have := h j (by omega) (by rw [List.length_map]; exact hj)
    unfold gl at this
    rw [List.getD_eq_getElem?_getD, List.getElem?_map, List.getElem?_eq_getElem hj] at this
    simpa [zN] using this
   ·intro h j _ hj
    rw [List.length_map] at hj
    unfold gl
    rw [List.getD_eq_getElem?_getD, List.getElem?_map, List.getElem?_eq_getElem hj]
    have := h _ (List.getElem_mem hj)
    simpa [zN] using this
  rcases t2 with ⟨rfl, t2⟩ | ⟨rfl, t2⟩
  ·have h4 := (hlen hF).1 t2
   exact ⟨0, hj2, .inr ⟨rfl, N, q, rfl, rfl, hm, by omega, by omega, hg, hp, fun G hG => (hlen hG).1 t2, tri_full hm (by omega) hg hF hFF hp h4⟩⟩
  ·exact ⟨240, hj2, .inl ⟨by decide, look2 (fun h => t2 ((hlen hF).2 (full_tri hm (by omega) hg hF hFF h).2))⟩⟩
theorem Tri.check {N : Nat} {l : List Ed} {r : List (List Int)} {q : Nat} (h : Tri N l r q) : Ev (fun k => rot_Check.f k (N : Int) l r) (0, 0) := by
 obtain ⟨res, c1, c2, c3, _⟩ := the_check (N : Int) l r
 have h0 := c3.2 ⟨N, rfl, h.map.good, h.map.rot⟩
 rw [c2 h0] at c1
 exact c1
theorem Tri.look {N : Nat} {l : List Ed} {r : List (List Int)} {q : Nat} (h : Tri N l r q) : Ev (fun k => Peel.lookF k (N : Int) l r (q : Int)) (0, aroundOf (frs l) r, (fr l q : Int), (fr l (twn q) : Int), (thirdV l r q : Int)) := look_ok h.map h.big h.flat h.edges h.root h.check
theorem from_ev {n : Nat} {l : List Ed} (hg : PureV.Good (n : Int) l) {q : Nat} (hq : q < 2 * l.length) : tangramref04_From.f (n : Int) l (q : Int) = some (fr l q : Int) := by
 have h2 := hg.2.2.1
 have hi : q / 2 < l.length := by omega
 have e1 := frs_even hi
 have e2 := frs_odd hi
 have f1 := (fr_lt hg hq).2
 unfold tangramref04_From.f
 have e3 : Int.tmod (q : Int) 2 = ((q % 2 : Nat) : Int) := rfl
 rw [half_div (by omega), e3]
 change (if ((q % 2 : Nat) : Int) = 0 then (if _ then (if _ then some (PureV.rdE l ((q / 2 : Nat) : Int)).f0 else _) else _) else (if _ then (if _ then some (PureV.rdE l ((q / 2 : Nat) : Int)).f1 else _) else _)) = _
 rw [← e1, ← e2, ← f1]
 rcases Nat.mod_two_eq_zero_or_one q with c | c
 ·have t2 : q = 2 * (q / 2) := by omega
  rw [if_pos (by omega), if_pos (by omega), if_pos (by omega), ← t2]
 ·have t2 : q = 2 * (q / 2) + 1 := by omega
  rw [if_neg (by omega), if_pos (by omega), if_pos (by omega), ← t2]
theorem to_ev {n : Nat} {l : List Ed} (hg : PureV.Good (n : Int) l) {q : Nat} (hq : q < 2 * l.length) : tangramref04_To.f (n : Int) l (q : Int) = some (fr l (twn q) : Int) := by
 have h2 := hg.2.2.1
 unfold tangramref04_To.f
 rw [xor_twn (by omega), from_ev hg (twn_lt hq)]
 rfl
theorem outer_ev {n : Nat} {l : List Ed} {r : List (List Int)} (hm : IsMap n l r) {q : Nat} (hq : q < 2 * l.length) : Ev (fun k => tangramref24_Outer.f k (n : Int) l r (q : Int)) ((fr l q : Int), (fr l (twn q) : Int), (thirdV l r q : Int)) := by
 have h2 := hm.good.2.2.1
 have ht := twn_lt hq
 obtain ⟨hx1, hx2⟩ := nxf_lt hm ht
 unfold tangramref24_Outer.f
 refine Ev.bind (next13_ev hm) (Ev.congr (fun k => ?_) (Ev.now _))
 rw [xor_twn (by omega), hm.len, if_pos (by omega), if_pos (by omega), from_ev hm.good hq, Option.bind_some, to_ev hm.good hq, Option.bind_some, gi_rd, hm.nxf_eq ht, to_ev hm.good hx1]
 rfl
end Rot
namespace Lay
open Mem Peel Feet
def pre (P : Int → Bool) : List Int → Nat
 | [] => 0
 | x :: t => if P x = true then 0 else pre P t + 1
theorem pre_le (P : Int → Bool) : ∀ sh : List Int, pre P sh ≤ sh.length
 | [] => Nat.le_refl _
 | x :: t => by
  have := pre_le P t
  unfold pre
  split
  ·omega
  ·rw [List.length_cons]; omega
theorem pre_not (P : Int → Bool) : ∀ sh : List Int, ∀ x ∈ sh.take (pre P sh), P x = false
 | [], x, h => by simp [pre] at h
 | y :: t, x, h => by
  unfold pre at h
  split at h
  ·simp at h
  ·rename_i hy
   rw [List.take_succ_cons] at h
   rcases List.mem_cons.1 h with rfl | h
   ·simpa using hy
   ·exact pre_not P t x h
theorem filter_pre (P : Int → Bool) (sh : List Int) : sh.filter P = (sh.drop (pre P sh)).filter P := by
 conv => lhs; rw [← List.take_append_drop (pre P sh) sh]
 rw [List.filter_append, List.filter_eq_nil_iff.2 (fun x hx => by rw [pre_not P sh x hx]; decide), List.nil_append]
def canon (P : Int → Bool) (cnt : Nat) (bad : Int → Bool) (v : Int) (sh : List Int) : Option (List Int × List Int) :=
 if (sh.filter P).length < 2 ∨ (sh.filter P).length ≠ cnt ∨ (sh.drop (pre P sh)).take (sh.filter P).length ≠ sh.filter P then none
 else if (((sh.filter P).take ((sh.filter P).length - 1)).drop 1).any bad = true then none
 else some (sh.filter P, sh.take (pre P sh + 1) ++ [v] ++ sh.drop (pre P sh + (sh.filter P).length - 1))
theorem gi_mem_of {l : List Int} {i : Nat} (h : i < l.length) : gi l i ∈ l := by
 unfold gi
 rw [List.getD_eq_getElem?_getD, List.getElem?_eq_getElem h]
 exact List.getElem_mem h
theorem gi_drop (l : List Int) (a i : Nat) : gi (l.drop a) i = gi l (a + i) := by
 unfold gi
 rw [List.getD_eq_getElem?_getD, List.getD_eq_getElem?_getD, List.getElem?_drop]
theorem gi_take {l : List Int} {a i : Nat} (h : i < a) : gi (l.take a) i = gi l i := by
 unfold gi
 rw [List.getD_eq_getElem?_getD, List.getD_eq_getElem?_getD, List.getElem?_take, if_pos h]
theorem gi_app_r (a b : List Int) (i : Nat) : gi (a ++ b) (a.length + i) = gi b i := by
 unfold gi
 rw [List.getD_eq_getElem?_getD, List.getD_eq_getElem?_getD, List.getElem?_append_right (by omega), show a.length + i - a.length = i by omega]
theorem filter_len_self {P : Int → Bool} {l : List Int} (h : l.length ≤ (l.filter P).length) : l.filter P = l := by
 have h1 : (l.filter P).Sublist l := List.filter_sublist
 exact h1.eq_of_length (by have := List.length_filter_le P l; omega)
theorem row_of_last {P : Int → Bool} {D : List Int} (hd : D.Nodup) {n : Nat} (hn : n = (D.filter P).length) (h0 : 0 < n) (hl : gi D (n - 1) = gi (D.filter P) (n - 1)) : D.take n = D.filter P := by
 have hnD : n ≤ D.length := by rw [hn]; exact List.length_filter_le _ _
 have e : D = D.take n ++ D.drop n := (List.take_append_drop n D).symm
 have ef : D.filter P = (D.take n).filter P ++ (D.drop n).filter P := by rw [← List.filter_append, ← e]
 have hR : (D.drop n).filter P = [] := by
  cases hr : (D.drop n).filter P with
  | nil => rfl
  | cons x t =>
   exfalso
   have hlen : (D.filter P).length = ((D.take n).filter P).length + (t.length + 1) := by rw [ef, List.length_append, hr, List.length_cons]
   have h1 : gi (D.filter P) (n - 1) = gi (x :: t) t.length := by
    rw [ef, hr, show n - 1 = ((D.take n).filter P).length + t.length by omega, gi_app_r]
   have hm : ∀ y ∈ x :: t, y ∈ D.drop n := fun y hy => by
    rw [← hr] at hy
    exact (List.mem_filter.1 hy).1
   have h2 : gi (x :: t) t.length ∈ D.drop n := hm _ (gi_mem_of (l := x :: t) (i := t.length) (by simp))
   have h3 : gi D (n - 1) ∈ D.take n := by
    have := gi_mem_of (l := D.take n) (i := n - 1) (by rw [List.length_take]; omega)
    rw [gi_take (by omega)] at this
    exact this
   rw [e, List.nodup_append] at hd
   exact hd.2.2 _ h3 _ h2 (hl.trans h1)
 rw [hR, List.append_nil] at ef
 rw [ef]
 exact (filter_len_self (by rw [← ef, List.length_take]; omega)).symm
theorem first_pre {foot sh : List Int} {P : Int → Bool} (hP : ∀ x, P x = decide (x ∈ foot)) : ∀ k, k ≤ sh.length → (pre P (sh.take k) < k → firstTo foot sh k = (pre P (sh.take k) : Int)) ∧ (k ≤ pre P (sh.take k) → firstTo foot sh k = -1)
 | 0, _ => ⟨fun h => by omega, fun _ => rfl⟩
 | k + 1, h => by
  obtain ⟨h1, h2⟩ := first_pre (sh := sh) hP k (by omega)
  have e : sh.take (k + 1) = sh.take k ++ [gi sh k] := by
   rw [List.take_succ_eq_append_getElem (by omega)]
   unfold gi
   rw [List.getD_eq_getElem?_getD, List.getElem?_eq_getElem (by omega)]
   rfl
  have hlk : (sh.take k).length = k := by rw [List.length_take]; omega
  have happ : ∀ (L : List Int) (x : Int), pre P (L ++ [x]) = if pre P L < L.length then pre P L else if P x = true then L.length else L.length + 1 := fun L x => by
   induction L with
   | nil => show pre P [x] = _; unfold pre; simp [pre]
   | cons y L ih =>
    show pre P (y :: (L ++ [x])) = _
    unfold pre
    rw [List.length_cons, ih]
    by_cases c : P y = true
    ·rw [if_pos c, if_pos c, if_pos (by omega)]
    ·rw [if_neg c, if_neg c]
     by_cases c2 : pre P L < L.length
     ·rw [if_pos c2, if_pos (show pre P L + 1 < L.length + 1 by omega)]
     ·rw [if_neg c2, if_neg (show ¬ pre P L + 1 < L.length + 1 by omega)]
      split <;> rfl
  rw [e, happ, hlk]
  unfold firstTo
  have hle := pre_le P (sh.take k)
  rw [hlk] at hle
  by_cases c : pre P (sh.take k) < k
  ·rw [if_pos c, if_neg (fun q => by rw [h1 c] at q; omega)]
   exact ⟨fun _ => h1 c, fun q => by omega⟩
  ·rw [if_neg c]
   have h3 := h2 (by omega)
   by_cases c2 : gi sh k ∈ foot
   ·rw [if_pos (by rw [hP]; exact decide_eq_true c2), if_pos ⟨c2, by rw [h3]; decide⟩]
    exact ⟨fun _ => rfl, fun q => by omega⟩
   ·rw [if_neg (by rw [hP]; simp [c2]), if_neg (fun q => c2 q.1)]
    exact ⟨fun q => by omega, fun _ => h3⟩
theorem lay_canon {ar : List (List Int)} {rk sh foot : List Int} {v : Nat} {P : Int → Bool} (hf : foot = footTo rk (gl ar v) v (gl ar v).length) (hP : ∀ x, P x = decide (x ∈ foot)) (hfn : foot.Nodup) (hs : sh.Nodup) :
  layF ar rk sh v = canon P foot.length (fun w => (gl ar w.toNat).any fun x => decide (gi rk v < gi rk x.toNat)) (v : Int) sh := by
 have hfeet : feetTo foot sh sh.length = sh.filter P := by
  unfold feetTo
  rw [List.take_length]
  exact List.filter_congr (fun x _ => (hP x).symm)
 rw [layF_eq hf hfeet.symm rfl rfl]
 unfold canon
 obtain ⟨q1, q2⟩ := first_pre (sh := sh) hP sh.length (Nat.le_refl _)
 rw [List.take_length] at q1 q2
 obtain ⟨n, hn⟩ : ∃ n, n = (sh.filter P).length := ⟨_, rfl⟩
 rw [← hn]
 have hD := filter_pre P sh
 have hpl := pre_le P sh
 by_cases c1 : n < 2
 ·rw [if_pos (.inl c1), if_pos (.inl c1)]
 have hpre : pre P sh < sh.length := by
  rcases Nat.lt_or_ge (pre P sh) sh.length with g | g
  ·exact g
  ·rw [List.drop_of_length_le g] at hD
   rw [hD] at hn
   simp at hn
   omega
 rw [q1 hpre]
 have hDn : n ≤ (sh.drop (pre P sh)).length := by rw [hn, hD]; exact List.length_filter_le _ _
 rw [List.length_drop] at hDn
 have hle : n ≤ foot.length := by
  rw [hn]
  refine Rot.nodup_subset _ _ (List.Nodup.sublist List.filter_sublist hs) (fun x hx => ?_)
  have := (List.mem_filter.1 hx).2
  rw [hP] at this
  exact of_decide_eq_true this
 have hlast : ((pre P sh : Int) + (n : Int) - 1).toNat = pre P sh + n - 1 := by omega
 rw [hlast, Int.toNat_natCast]
 have hgi : gi sh (pre P sh + n - 1) = gi (sh.drop (pre P sh)) (n - 1) := by rw [gi_drop, show pre P sh + (n - 1) = pre P sh + n - 1 by omega]
 have key : (n < 2 ∨ n < foot.length ∨ gi sh (pre P sh + n - 1) ∉ foot ∨ gi sh (pre P sh + n - 1) ≠ gi (sh.filter P) (n - 1)) ↔ (n < 2 ∨ n ≠ foot.length ∨ (sh.drop (pre P sh)).take n ≠ sh.filter P) := by
  constructor
  ·rintro (q | q | q | q)
   ·exact .inl q
   ·exact .inr (.inl (by omega))
   ·refine .inr (.inr (fun e => q ?_))
    have h1 : gi (sh.filter P) (n - 1) ∈ sh.filter P := gi_mem_of (by omega)
    rw [← e, gi_take (by omega), ← hgi] at h1
    have h2 : gi sh (pre P sh + n - 1) ∈ sh.filter P := by rw [← e]; exact h1
    have h3 := (List.mem_filter.1 h2).2
    rw [hP] at h3
    exact of_decide_eq_true h3
   ·refine .inr (.inr (fun e => q ?_))
    rw [hgi, ← gi_take (l := sh.drop (pre P sh)) (a := n) (i := n - 1) (by omega), e]
  ·rintro (q | q | q)
   ·exact .inl q
   ·exact .inr (.inl (by omega))
   ·refine Classical.byContradiction fun h => q ?_
    have h4 : gi sh (pre P sh + n - 1) = gi (sh.filter P) (n - 1) := Classical.byContradiction fun q => h (.inr (.inr (.inr q)))
    rw [hgi, hD] at h4
    rw [hD]
    exact row_of_last (List.Nodup.sublist (List.drop_sublist _ _) hs) (by rw [hn, ← hD]) (by omega) h4
 by_cases c2 : n < 2 ∨ n ≠ foot.length ∨ (sh.drop (pre P sh)).take n ≠ sh.filter P
 ·rw [if_pos (key.2 c2), if_pos c2]
 ·rw [if_neg (fun q => c2 (key.1 q)), if_neg c2]
theorem firstT_pre {F : List Bool} {P : Int → Bool} : ∀ {sh : List Int}, (∀ x ∈ sh, P x = gb F x.toNat) → firstT F sh = pre P sh
 | [], _ => rfl
 | y :: t, h => by
  unfold firstT pre
  rw [h y (List.mem_cons_self ..), firstT_pre (fun x hx => h x (List.mem_cons_of_mem _ hx))]
theorem step_canon {pl sh foot : List Int} {ad : Nat → List Int} {N k v n : Nat} {F : List Bool} {P : Int → Bool} (hF : footT pl (ad v) N k (ad v).length = (F, n)) (hP : ∀ x ∈ sh, P x = gb F x.toNat) (hPf : ∀ x ∈ sh, (P x = true ↔ x ∈ foot)) (hfn : foot.Nodup) (hfl : foot.length = n) (hs : sh.Nodup) :
  stepF pl ad N k v sh = canon P n (fun w => (ad w.toNat).any fun x => decide ((k : Int) < gi pl x.toNat)) (v : Int) sh := by
 rw [stepF_eq hF (firstT_pre hP)]
 unfold canon
 obtain ⟨m, hm⟩ : ∃ m, m = (sh.filter P).length := ⟨_, rfl⟩
 obtain ⟨D, hDD⟩ : ∃ D, D = sh.drop (pre P sh) := ⟨_, rfl⟩
 rw [← hm, ← hDD]
 have hD := filter_pre P sh
 rw [← hDD] at hD
 have hpl := pre_le P sh
 have hDl : D.length = sh.length - pre P sh := by rw [hDD, List.length_drop]
 have hDsub : ∀ x ∈ D, x ∈ sh := fun x hx => List.mem_of_mem_drop (hDD ▸ hx)
 have hDn : D.Nodup := hDD ▸ List.Nodup.sublist (List.drop_sublist _ _) hs
 have htd : ∀ q, (sh.take (pre P sh + q)).drop (pre P sh) = D.take q := fun q => by rw [hDD, List.drop_take]; congr 1; omega
 have key : ((m < 2 ∨ m ≠ n ∨ D.take m ≠ sh.filter P)) ↔ ((n < 2 ∨ sh.length < pre P sh + n) ∨ (D.take n).any (fun x => !gb F x.toNat) = true) := by
  constructor
  ·intro h
   refine Classical.byContradiction fun hc => ?_
   have c1 : ¬ n < 2 := fun q => hc (.inl (.inl q))
   have c2 : ¬ sh.length < pre P sh + n := fun q => hc (.inl (.inr q))
   have c3 : ∀ x ∈ D.take n, P x = true := fun x hx => by
    have h1 : ¬ (D.take n).any (fun x => !gb F x.toNat) = true := fun q => hc (.inr q)
    rw [List.any_eq_true] at h1
    cases hg : P x with
    | true => rfl
    | false =>
     exfalso
     refine h1 ⟨x, hx, ?_⟩
     rw [← hP x (hDsub x (List.mem_of_mem_take hx)), hg]
     rfl
   have hTl : (D.take n).length = n := by rw [List.length_take]; omega
   have e : D = D.take n ++ D.drop n := (List.take_append_drop n D).symm
   have hnd := hDn
   rw [e, List.nodup_append] at hnd
   have hfT : ∀ x ∈ foot, x ∈ D.take n := fun x hx => Rot.nodup_full (m := foot) hnd.1 (fun y hy => (hPf y (hDsub y (List.mem_of_mem_take hy))).1 (c3 y hy)) (by omega) hx
   have hmid : D.filter P = D.take n := by
    conv => lhs; rw [e]
    rw [List.filter_append, List.filter_eq_self.2 c3, List.filter_eq_nil_iff.2 (fun x hx q => ?_), List.append_nil]
    have h2 := (hPf x (hDsub x (List.mem_of_mem_drop hx))).1 q
    exact hnd.2.2 x (hfT x h2) x hx rfl
   rw [hD, hmid] at hm
   rcases h with q | q | q
   ·omega
   ·omega
   ·rw [hD, hmid] at q
    exact q (by rw [show m = n by omega])
  ·rintro ((q | q) | q)
   ·refine Classical.byContradiction fun hc => hc ?_
    by_cases c : m = n
    ·exact .inl (by omega)
    ·exact .inr (.inl c)
   ·refine Classical.byContradiction fun hc => hc ?_
    by_cases c : m = n
    ·exfalso
     have := List.length_filter_le P D
     rw [hD] at hm
     omega
    ·exact .inr (.inl c)
   ·refine Classical.byContradiction fun hc => ?_
    have c1 : m = n := Classical.byContradiction fun q => hc (.inr (.inl q))
    have c2 : D.take m = sh.filter P := Classical.byContradiction fun q => hc (.inr (.inr q))
    rw [List.any_eq_true] at q
    obtain ⟨x, hx, hb⟩ := q
    rw [← c1, c2] at hx
    have h1 := List.mem_filter.1 hx
    rw [hP x h1.1] at h1
    rw [h1.2] at hb
    cases hb
 by_cases c : m < 2 ∨ m ≠ n ∨ D.take m ≠ sh.filter P
 ·rw [if_pos c]
  rcases key.1 c with q | q
  ·rw [if_pos q]
  ·by_cases c1 : n < 2 ∨ sh.length < pre P sh + n
   ·rw [if_pos c1]
   ·rw [if_neg c1, htd, if_pos q]
 ·have hk := fun q => c (key.2 q)
  rw [if_neg c, if_neg (fun q => hk (.inl q)), htd, if_neg (fun q => hk (.inr q))]
  have c1 : m = n := Classical.byContradiction fun q => c (.inr (.inl q))
  have c2 : D.take m = sh.filter P := Classical.byContradiction fun q => c (.inr (.inr q))
  have c3 : ¬ n < 2 := fun q => hk (.inl (.inl q))
  have hmid : ((sh.filter P).take (m - 1)).drop 1 = (sh.take (pre P sh + n - 1)).drop (pre P sh + 1) := by
   rw [← c2, List.take_take, show min (m - 1) m = m - 1 by omega, ← List.drop_drop, show pre P sh + n - 1 = pre P sh + (m - 1) by omega, htd]
  rw [hmid, ← c1, c2]
end Lay
namespace Lay
open Mem Peel Feet
theorem take_gi {row : List Int} {k : Nat} (h : k < row.length) : row.take (k + 1) = row.take k ++ [gi row k] := by
 rw [List.take_succ_eq_append_getElem h]
 unfold gi
 rw [List.getD_eq_getElem?_getD, List.getElem?_eq_getElem h]
 rfl
theorem not_before {row : List Int} (hn : row.Nodup) {k : Nat} (h : k < row.length) : gi row k ∉ row.take k := fun q => by
 have h1 : (row.take (k + 1)).Nodup := List.Nodup.sublist (List.take_sublist _ _) hn
 rw [take_gi h, List.nodup_append] at h1
 exact h1.2.2 _ q _ (List.mem_singleton.2 rfl) rfl
theorem footTo_filter {rk row : List Int} {v : Nat} (hn : row.Nodup) : ∀ k, k ≤ row.length → footTo rk row v k = (row.take k).filter (fun x => decide (gi rk x.toNat < gi rk v))
 | 0, _ => by simp [footTo]
 | k + 1, h => by
  have ih := footTo_filter (rk := rk) (v := v) hn k (by omega)
  have e : footTo rk row v (k + 1) = if gi rk (gi row k).toNat < gi rk v then insK (footTo rk row v k) (gi row k) else footTo rk row v k := rfl
  rw [take_gi (by omega), List.filter_append, ← ih, e]
  by_cases c : gi rk (gi row k).toNat < gi rk v
  ·rw [if_pos c, List.filter_cons_of_pos (by exact decide_eq_true c)]
   unfold insK
   rw [if_neg (fun q => by rw [ih] at q; exact not_before hn (by omega) (List.mem_filter.1 q).1), List.filter_nil]
  ·rw [if_neg c, List.filter_cons_of_neg (by simpa using c)]
   simp
theorem footT_filter {pl row : List Int} {N K : Nat} (hr : ∀ j, j < row.length → 0 ≤ gi row j ∧ gi row j < (N : Int)) : ∀ k, k ≤ row.length → (footT pl row N K k).2 = ((row.take k).filter fun x => decide (gi pl x.toNat < (K : Int))).length ∧ ∀ x : Int, 0 ≤ x → x < (N : Int) → (gb (footT pl row N K k).1 x.toNat = true ↔ x ∈ (row.take k).filter fun x => decide (gi pl x.toNat < (K : Int)))
 | 0, _ => ⟨by simp [footT], fun x h0 h1 => by
  show gb (List.replicate N false) x.toNat = true ↔ _
  rw [Rot.gb_none]
  simp⟩
 | k + 1, h => by
  obtain ⟨h1, h2⟩ := footT_filter (pl := pl) (K := K) hr k (by omega)
  have hl := (footT_len pl row N K k).1
  obtain ⟨g0, g1⟩ := hr k (by omega)
  have e : footT pl row N K (k + 1) = if gi pl (gi row k).toNat < (K : Int) then ((footT pl row N K k).1.set (gi row k).toNat true, (footT pl row N K k).2 + 1) else footT pl row N K k := rfl
  rw [take_gi (by omega), List.filter_append, e]
  clear e
  by_cases c : gi pl (gi row k).toNat < (K : Int)
  ·rw [if_pos c, List.filter_cons_of_pos (by exact decide_eq_true c)]
   refine ⟨by rw [List.length_append]; show _ + 1 = _; rw [h1]; rfl, fun x h3 h4 => ?_⟩
   show gb ((footT pl row N K k).1.set _ true) x.toNat = true ↔ _
   rw [gb_set, List.mem_append]
   by_cases e : gi row k = x
   ·rw [if_pos ⟨by rw [e], by omega⟩]
    exact ⟨fun _ => .inr (by rw [e]; exact List.mem_cons_self ..), fun _ => rfl⟩
   ·rw [if_neg (fun q => e (by omega)), h2 x h3 h4]
    constructor
    ·exact .inl
    ·rintro (q | q)
     ·exact q
     ·simp at q
      exact absurd q.symm e
  ·rw [if_neg c, List.filter_cons_of_neg (by simpa using c), List.filter_nil, List.append_nil]
   exact ⟨h1, h2⟩
theorem canon_congr {P : Int → Bool} {n : Nat} {b1 b2 : Int → Bool} {v : Int} {sh : List Int} (h : ∀ w ∈ sh, b1 w = b2 w) : canon P n b1 v sh = canon P n b2 v sh := by
 unfold canon
 have e : (((sh.filter P).take ((sh.filter P).length - 1)).drop 1).any b1 = (((sh.filter P).take ((sh.filter P).length - 1)).drop 1).any b2 := by
  have h2 : ∀ w ∈ ((sh.filter P).take ((sh.filter P).length - 1)).drop 1, b1 w = b2 w := fun w hw => h w (List.mem_filter.1 (List.mem_of_mem_take (List.mem_of_mem_drop hw))).1
  generalize ((sh.filter P).take ((sh.filter P).length - 1)).drop 1 = L at h2
  induction L with
  | nil => rfl
  | cons a L ih => rw [List.any_cons, List.any_cons, h2 a (List.mem_cons_self ..), ih (fun w hw => h2 w (List.mem_cons_of_mem _ hw))]
 rw [e]
theorem any_perm {p q : Int → Bool} {L M : List Int} (h : L.Perm M) (hpq : ∀ x ∈ L, p x = q x) : L.any p = M.any q := by
 cases c : M.any q with
 | true =>
  rw [List.any_eq_true] at c ⊢
  obtain ⟨x, hx, hq⟩ := c
  exact ⟨x, h.mem_iff.2 hx, by rw [hpq x (h.mem_iff.2 hx)]; exact hq⟩
 | false =>
  rw [List.any_eq_false] at c ⊢
  intro x hx hp
  exact c x (h.mem_iff.1 hx) (by rw [← hpq x hx]; exact hp)
theorem lay_step {ar : List (List Int)} {ad : Nat → List Int} {rk pl sh : List Int} {N k v : Nat} (hp : ∀ w, w < N → (gl ar w).Perm (ad w)) (hn : ∀ w, w < N → (gl ar w).Nodup) (hi : ∀ w, w < N → ∀ x ∈ gl ar w, 0 ≤ x ∧ x < (N : Int))
  (hrp : ∀ x, x < N → gi rk x = gi pl x) (hv : v < N) (hk : gi rk v = (k : Int)) (hs : sh.Nodup) (hsi : ∀ x ∈ sh, 0 ≤ x ∧ x < (N : Int)) : layF ar rk sh v = stepF pl ad N k v sh := by
 obtain ⟨foot, hf⟩ : ∃ foot, foot = footTo rk (gl ar v) v (gl ar v).length := ⟨_, rfl⟩
 have hff : foot = (gl ar v).filter (fun x => decide (gi rk x.toNat < gi rk v)) := by rw [hf, footTo_filter (hn v hv) _ (Nat.le_refl _), List.take_length]
 have hfd : foot.Perm ((ad v).filter fun x => decide (gi pl x.toNat < (k : Int))) := by
  rw [hff]
  have h1 : (gl ar v).filter (fun x => decide (gi rk x.toNat < gi rk v)) = (gl ar v).filter (fun x => decide (gi pl x.toNat < (k : Int))) := List.filter_congr (fun x hx => by
   have := hi v hv x hx
   rw [hrp x.toNat (by omega), hk])
  rw [h1]
  exact (hp v hv).filter _
 have hfn : foot.Nodup := by rw [hff]; exact List.Nodup.sublist List.filter_sublist (hn v hv)
 have hadi : ∀ j, j < (ad v).length → 0 ≤ gi (ad v) j ∧ gi (ad v) j < (N : Int) := fun j hj => hi v hv _ ((hp v hv).mem_iff.2 (gi_mem_of hj))
 obtain ⟨t1, t2⟩ := footT_filter (pl := pl) (K := k) hadi _ (Nat.le_refl _)
 rw [List.take_length] at t1 t2
 obtain ⟨F, hF⟩ : ∃ F, F = footT pl (ad v) N k (ad v).length := ⟨_, rfl⟩
 rw [← hF] at t1 t2
 have hPF : ∀ x ∈ sh, decide (x ∈ foot) = gb F.1 x.toNat := fun x hx => by
  obtain ⟨h0, h1⟩ := hsi x hx
  have h2 := t2 x h0 h1
  cases c : gb F.1 x.toNat with
  | true => exact decide_eq_true (hfd.mem_iff.2 (h2.1 c))
  | false => exact decide_eq_false (fun q => by rw [h2.2 (hfd.mem_iff.1 q)] at c; cases c)
 have hfl : foot.length = F.2 := by rw [t1, hfd.length_eq]
 rw [lay_canon (P := fun x => decide (x ∈ foot)) hf (fun _ => rfl) hfn hs, step_canon (foot := foot) (F := F.1) (n := F.2) (P := fun x => decide (x ∈ foot)) (by rw [← hF]) hPF (fun x _ => decide_eq_true_iff) hfn hfl hs, hfl]
 refine canon_congr (fun w hw => ?_)
 obtain ⟨h0, h1⟩ := hsi w hw
 refine any_perm (hp w.toNat (by omega)) (fun x hx => ?_)
 have := hi w.toNat (by omega) x hx
 rw [hrp x.toNat (by omega), hk]
structure Order (N : Nat) (l : List Int) : Prop where
 len : l.length = N
 inn : ∀ j, j < N → 0 ≤ gi l j ∧ gi l j < (N : Int)
 inj : ∀ i j, i < N → j < N → gi l i = gi l j → i = j
theorem Order.nodup {N : Nat} {l : List Int} (h : Order N l) : l.Nodup := by
 rw [List.nodup_iff_pairwise_ne, List.pairwise_iff_getElem]
 intro i j hi hj hij e
 have := h.inj i j (by rw [← h.len]; exact hi) (by rw [← h.len]; exact hj) (by
  unfold gi
  rw [List.getD_eq_getElem?_getD, List.getD_eq_getElem?_getD, List.getElem?_eq_getElem hi, List.getElem?_eq_getElem hj]
  exact e)
 omega
theorem Order.all {N : Nat} {l : List Int} (h : Order N l) {v : Nat} (hv : v < N) : ∃ j, j < N ∧ gi l j = (v : Int) := by
 have hd : (l.map Int.toNat).Nodup := Rot.nodup_map_on h.nodup (fun x hx y hy e => by
  obtain ⟨i, hi, rfl⟩ := Rot.mem_gi hx
  obtain ⟨j, hj, rfl⟩ := Rot.mem_gi hy
  have := h.inn i (by rw [← h.len]; exact hi)
  have := h.inn j (by rw [← h.len]; exact hj)
  omega)
 have hm : v ∈ l.map Int.toNat := Rot.nodup_full (m := List.range N) hd (fun x hx => by
  obtain ⟨y, hy, rfl⟩ := List.mem_map.1 hx
  obtain ⟨i, hi, rfl⟩ := Rot.mem_gi hy
  have := h.inn i (by rw [← h.len]; exact hi)
  rw [List.mem_range]
  omega) (by rw [List.length_map, h.len, List.length_range]; exact Nat.le_refl _) (List.mem_range.2 hv)
 obtain ⟨y, hy, e⟩ := List.mem_map.1 hm
 obtain ⟨j, hj, rfl⟩ := Rot.mem_gi hy
 have := h.inn j (by rw [← h.len]; exact hj)
 exact ⟨j, by rw [← h.len]; exact hj, by omega⟩
theorem rankTo_some {N : Nat} {l : List Int} : ∀ k, (∃ rk, rankTo N l k = some rk ∧ rk.length = N ∧ (∀ j, j < k → 0 ≤ gi l j ∧ gi l j < (N : Int)) ∧ (∀ i j, i < k → j < k → gi l i = gi l j → i = j) ∧ (∀ j, j < k → gi rk (gi l j).toNat = (j : Int)) ∧ ∀ v : Nat, v < N → (∀ j, j < k → gi l j ≠ (v : Int)) → gi rk v = -1) ∨ (rankTo N l k = none ∧ ¬ ((∀ j, j < k → 0 ≤ gi l j ∧ gi l j < (N : Int)) ∧ ∀ i j, i < k → j < k → gi l i = gi l j → i = j))
 | 0 => .inl ⟨_, rfl, by simp, fun j h => by omega, fun i j h => by omega, fun j h => by omega, fun v hv _ => by unfold gi; simp [List.getD_eq_getElem?_getD, List.getElem?_replicate, hv]⟩
 | k + 1 => by
  rcases rankTo_some (N := N) (l := l) k with ⟨rk, e, h1, h2, h3, h4, h5⟩ | ⟨e, h⟩
  ·have e2 : rankTo N l (k + 1) = if gi l k < 0 ∨ (N : Int) ≤ gi l k ∨ 0 ≤ gi rk (gi l k).toNat then none else some (rk.set (gi l k).toNat (k : Int)) := by
    show (rankTo N l k).bind _ = _
    rw [e]
    rfl
   by_cases c : gi l k < 0 ∨ (N : Int) ≤ gi l k ∨ 0 ≤ gi rk (gi l k).toNat
   ·right
    refine ⟨by rw [e2, if_pos c], fun ⟨q1, q2⟩ => ?_⟩
    have q3 := q1 k (by omega)
    rcases c with c | c | c
    ·omega
    ·omega
    ·have := h5 (gi l k).toNat (by omega) (fun j hj q => by
      have := q2 j k (by omega) (by omega) (by omega)
      omega)
     omega
   ·left
    have c1 : 0 ≤ gi l k ∧ gi l k < (N : Int) := by omega
    have c2 : ∀ j, j < k → gi l j ≠ gi l k := fun j hj q => by
     have := h4 j hj
     rw [q] at this
     omega
    have hset : ∀ x, gi (rk.set (gi l k).toNat (k : Int)) x = if (gi l k).toNat = x ∧ x < rk.length then (k : Int) else gi rk x := fun x => gi_set _ _ _ _
    refine ⟨_, by rw [e2, if_neg c], by rw [List.length_set]; exact h1, fun j hj => ?_, fun i j hi hj q => ?_, fun j hj => ?_, fun v hv hne => ?_⟩
    ·by_cases q : j = k
     ·rw [q]; exact c1
     ·exact h2 j (by omega)
    ·by_cases qi : i = k
     ·by_cases qj : j = k
      ·omega
      ·rw [qi] at q; exact absurd q.symm (c2 j (by omega))
     ·by_cases qj : j = k
      ·rw [qj] at q; exact absurd q (c2 i (by omega))
      ·exact h3 i j (by omega) (by omega) q
    ·rw [hset]
     by_cases q : j = k
     ·rw [q, if_pos ⟨rfl, by omega⟩]
     ·have g1 := h2 j (by omega)
      have g2 := c2 j (by omega)
      rw [if_neg (fun w => by omega)]
      exact h4 j (by omega)
    ·rw [hset, if_neg (fun w => by have := hne k (by omega); omega)]
     exact h5 v hv (fun j hj => hne j (by omega))
  ·right
   refine ⟨by show (rankTo N l k).bind _ = none; rw [e]; rfl, fun ⟨q1, q2⟩ => h ⟨fun j hj => q1 j (by omega), fun i j hi hj => q2 i j (by omega) (by omega)⟩⟩
theorem Order.rank {N : Nat} {l : List Int} (h : Order N l) : ∃ rk, rankTo N l N = some rk ∧ ∀ j, j < N → gi rk (gi l j).toNat = (j : Int) := by
 rcases rankTo_some (N := N) (l := l) N with ⟨rk, e, _, _, _, h4, _⟩ | ⟨_, q⟩
 ·exact ⟨rk, e, h4⟩
 ·exact absurd ⟨h.inn, h.inj⟩ q
theorem Order.of_rank {N : Nat} {l : List Int} (hl : l.length = N) {rk : List Int} (h : rankTo N l N = some rk) : Order N l := by
 rcases rankTo_some (N := N) (l := l) N with ⟨rk, e, _, h2, h3, _, _⟩ | ⟨q, _⟩
 ·exact ⟨hl, h2, h3⟩
 ·rw [q] at h; cases h
theorem Order.place {N : Nat} {l : List Int} (h : Order N l) : ∀ k, k ≤ N → ∀ j, j < k → gi (placeTo N l k) (gi l j).toNat = (j : Int)
 | 0, _, j, hj => by omega
 | k + 1, hk, j, hj => by
  show gi ((placeTo N l k).set (gi l k).toNat (k : Int)) _ = _
  have g0 := h.inn j (by omega)
  have g1 := h.inn k (by omega)
  rw [gi_set, placeTo_length]
  by_cases q : j = k
  ·rw [q, if_pos ⟨rfl, by omega⟩]
  ·rw [if_neg (fun w => q (h.inj j k (by omega) (by omega) (by omega)))]
   exact h.place k (by omega) j (by omega)
theorem cov_feet {ar : List (List Int)} {ad : Nat → List Int} {N : Nat} {a b c : Int} {l : List Int} {ok : Bool} (h3 : 3 ≤ N) (hp : ∀ w, w < N → (gl ar w).Perm (ad w)) (hn : ∀ w, w < N → (gl ar w).Nodup) (hi : ∀ w, w < N → ∀ x ∈ gl ar w, 0 ≤ x ∧ x < (N : Int))
  (hok : ok = true ↔ Order N l) : coversF N ar a b c l = feetF N ad a b c l ok := by
 unfold coversF feetF
 by_cases hO : Order N l
 ·obtain ⟨rk, e, hrk⟩ := hO.rank
  rw [if_neg (fun q => q hO.len), e, hok.2 hO]
  show (if _ then _ else _) = _
  by_cases q : gi l 0 ≠ a ∨ gi l 1 ≠ b ∨ gi l (N - 1) ≠ c
  ·rw [if_pos q, if_pos (.inr q)]
  ·have qa : gi l 0 = a := Classical.byContradiction fun w => q (.inl w)
   have qb : gi l 1 = b := Classical.byContradiction fun w => q (.inr (.inl w))
   rw [if_neg q, if_neg (by
    rintro (w | w)
    ·cases w
    ·exact q w)]
   have hpl : ∀ x, x < N → gi rk x = gi (placeTo N l N) x := fun x hx => by
    obtain ⟨j, hj, ej⟩ := hO.all hx
    have h1 := hrk j hj
    have h2 := hO.place N (Nat.le_refl _) j hj
    rw [ej, Int.toNat_natCast] at h1 h2
    rw [h1, h2]
   have key : ∀ k, k + 2 ≤ N → laysTo ar rk N a b l k = feetT (placeTo N l N) ad N a b l k ∧ ∀ out sh, feetT (placeTo N l N) ad N a b l k = some (out, sh) → sh.Nodup ∧ ∀ x ∈ sh, ∃ j, j < k + 2 ∧ x = gi l j := by
    intro k
    induction k with
    | zero =>
     intro hk
     refine ⟨rfl, fun out sh h => ?_⟩
     obtain ⟨_, rfl⟩ := Prod.mk.inj (Option.some.inj (show some (List.replicate N [], [a, b]) = some (out, sh) from h))
     refine ⟨?_, fun x hx => ?_⟩
     ·rw [List.nodup_cons]
      refine ⟨fun w => ?_, by simp⟩
      rw [List.mem_singleton] at w
      have := hO.inj 0 1 (by omega) (by omega) (by rw [qa, qb, w])
      omega
     ·rcases List.mem_cons.1 hx with rfl | hx
      ·exact ⟨0, by omega, qa.symm⟩
      ·rw [List.mem_singleton] at hx
       exact ⟨1, by omega, by rw [hx, qb]⟩
    | succ k ih =>
     intro hk
     obtain ⟨ih1, ih2⟩ := ih (by omega)
     have hstep : ∀ out sh, feetT (placeTo N l N) ad N a b l k = some (out, sh) → layF ar rk sh (gi l (k + 2)).toNat = stepF (placeTo N l N) ad N (k + 2) (gi l (k + 2)).toNat sh := fun out sh h => by
      obtain ⟨g1, g2⟩ := ih2 out sh h
      have g3 := hO.inn (k + 2) (by omega)
      refine lay_step hp hn hi hpl (by omega) (hrk (k + 2) (by omega)) g1 (fun x hx => ?_)
      obtain ⟨j, hj, rfl⟩ := g2 x hx
      exact hO.inn j (by omega)
     refine ⟨?_, fun out sh h => ?_⟩
     ·show (laysTo ar rk N a b l k).bind _ = (feetT (placeTo N l N) ad N a b l k).bind _
      rw [ih1]
      cases hc : feetT (placeTo N l N) ad N a b l k with
      | none => rfl
      | some t =>
       show (layF ar rk t.2 _).bind _ = (stepF _ _ _ _ _ t.2).bind _
       rw [hstep t.1 t.2 hc]
     ·obtain ⟨⟨o, s⟩, e1, e2⟩ := Option.bind_eq_some_iff.1 (show (feetT (placeTo N l N) ad N a b l k).bind _ = _ from h)
      obtain ⟨⟨f, s'⟩, e3, e4⟩ := Option.bind_eq_some_iff.1 e2
      obtain ⟨_, rfl⟩ := Prod.mk.inj (Option.some.inj e4)
      obtain ⟨g1, g2⟩ := ih2 o s e1
      have g3 := hO.inn (k + 2) (by omega)
      have hvn : gi l (k + 2) ∉ s := fun w => by
       obtain ⟨j, hj, ej⟩ := g2 _ w
       have := hO.inj (k + 2) j (by omega) (by omega) ej
       omega
      have h1 := (stepF_next (P := fun x => ∃ j, j < k + 1 + 2 ∧ x = gi l j) e3 ⟨k + 2, by omega, by omega⟩ (fun x hx => by obtain ⟨j, hj, ej⟩ := g2 x hx; exact ⟨j, by omega, ej⟩)).1
      refine ⟨?_, h1⟩
      unfold stepF at e3
      simp only at e3
      split at e3
      ·cases e3
      ·rename_i c1
       split at e3
       ·cases e3
       ·split at e3
        ·cases e3
        ·obtain ⟨_, rfl⟩ := Prod.mk.inj (Option.some.inj e3)
         rw [Int.toNat_of_nonneg g3.1, List.append_assoc, List.nodup_append]
         refine ⟨List.Nodup.sublist (List.take_sublist _ _) g1, ?_, fun x hx y hy => ?_⟩
         ·rw [List.singleton_append, List.nodup_cons]
          exact ⟨fun w => hvn (List.mem_of_mem_drop w), List.Nodup.sublist (List.drop_sublist _ _) g1⟩
         ·rw [List.singleton_append] at hy
          rcases List.mem_cons.1 hy with rfl | hy
          ·exact fun w => hvn (w ▸ List.mem_of_mem_take hx)
          ·have hy2 : y ∈ s.drop (firstT (footT (placeTo N l N) (ad (gi l (k + 2)).toNat) N (k + 2) (ad (gi l (k + 2)).toNat).length).1 s + 1) := by
            have : s.drop (firstT (footT (placeTo N l N) (ad (gi l (k + 2)).toNat) N (k + 2) (ad (gi l (k + 2)).toNat).length).1 s + (footT (placeTo N l N) (ad (gi l (k + 2)).toNat) N (k + 2) (ad (gi l (k + 2)).toNat).length).2 - 1) = (s.drop (firstT (footT (placeTo N l N) (ad (gi l (k + 2)).toNat) N (k + 2) (ad (gi l (k + 2)).toNat).length).1 s + 1)).drop ((footT (placeTo N l N) (ad (gi l (k + 2)).toNat) N (k + 2) (ad (gi l (k + 2)).toNat).length).2 - 2) := by
             rw [List.drop_drop]
             congr 1
             omega
            rw [this] at hy
            exact List.mem_of_mem_drop hy
           have h2 := List.take_append_drop (firstT (footT (placeTo N l N) (ad (gi l (k + 2)).toNat) N (k + 2) (ad (gi l (k + 2)).toNat).length).1 s + 1) s
           rw [← h2, List.nodup_append] at g1
           exact g1.2.2 x hx y hy2
   rw [(key (N - 2) (by omega)).1]
 ·have h1 : ok = false := by
   cases ok with
   | false => rfl
   | true => exact absurd (hok.1 rfl) hO
  rw [if_pos (show ok = false ∨ gi l 0 ≠ a ∨ gi l 1 ≠ b ∨ gi l (N - 1) ≠ c from .inl h1)]
  split
  ·rfl
  ·rename_i hl
   have hl : l.length = N := Classical.not_not.1 hl
   cases hr : rankTo N l N with
   | none => rfl
   | some rk => exact absurd (Order.of_rank hl hr) hO
end Lay
namespace GAll.Law
theorem tangramref24_Feet.pairs {w : World} {A : Option Addr} {l : List S41} (h : Kd.C k41 w A l.length l) : Mem.Pairs w A (l.map fun x => (x.f0, x.f1)) := by
 intro i hi
 rw [List.length_map] at hi
 obtain ⟨ad, e, h1, h2⟩ := at_T41 h (i : Int) (by omega) (by omega)
 have e2 : Mem.pe (l.map fun x => (x.f0, x.f1)) i = ((rd_T41 l (i : Int)).f0, (rd_T41 l (i : Int)).f1) := by
  unfold Mem.pe rd_T41
  simp [List.getD_eq_getElem?_getD, hi]
 rw [e2]
 exact ⟨ad, e, h1, h2⟩
def tangramref24_Feet.fit (n : Int) (es : List (Int × Int)) (a b : Int) (lst : List Int) (ok : Bool) (o : List (List Int)) : Bool :=
 ValH.goodB n es && (decide (3 ≤ n ∧ (0 ≤ a ∧ a < n) ∧ 0 ≤ b ∧ b < n) && ((!ok || (decide ((lst.length : Int) = n) && lst.all fun x => decide (0 ≤ x ∧ x < n))) && (decide ((o.length : Int) = n) && o.all fun row => decide (row.length ≤ 9000000) && row.all fun h => decide (0 ≤ h ∧ h < ((2 * es.length : Nat) : Int)))))
def tangramref24_Feet.ans : Option (List (List Int)) → List (List Int) × Bool
 | none => ([], false)
 | some o => (o, true)
def tangramref24_Feet.f (k : Nat) (a0_0 : Int) (l0_1 : List S41) (l1 : List (List Int)) (a2 : Int) (l3 : List Int) : Option (List (List Int) × Bool) :=
 (tangramref24_Outer.f k a0_0 l0_1 l1 a2).bind fun t => (tangramref24_all.f k a0_0 l3).bind fun ok => (tangramref04_Out.f k a0_0 l0_1).bind fun o =>
  if tangramref24_Feet.fit a0_0 (l0_1.map fun x => (x.f0, x.f1)) t.1 t.2.1 l3 ok o = true then some (tangramref24_Feet.ans (Feet.feetF a0_0.toNat (Feet.adL o (Graph.tosL (l0_1.map fun x => (x.f0, x.f1)))) t.1 t.2.1 t.2.2 l3 ok)) else none
theorem tangramref24_Feet.mono : ∀ a0 a1 a2 a3 a4 k, LeO (tangramref24_Feet.f k a0 a1 a2 a3 a4) (tangramref24_Feet.f (k + 1) a0 a1 a2 a3 a4) := by
 intro a0 a1 a2 a3 a4 k
 unfold tangramref24_Feet.f
 exact LeO.bind (tangramref24_Outer.mono _ _ _ _ _) (fun _ => LeO.bind (tangramref24_all.mono _ _ _) (fun _ => LeO.bind (tangramref04_Out.mono _ _ _) (fun _ => LeO.refl _)))
theorem tangramref24_Feet.mem {r : List (List Int)} {v : Nat} (hv : v < r.length) : Mem.gl r v ∈ r := by
 unfold Mem.gl
 rw [List.getD_eq_getElem?_getD, List.getElem?_eq_getElem hv]
 exact List.getElem_mem hv
theorem tangramref24_Feet.memi {r : List Int} {v : Nat} (hv : v < r.length) : Mem.gi r v ∈ r := by
 unfold Mem.gi
 rw [List.getD_eq_getElem?_getD, List.getElem?_eq_getElem hv]
 exact List.getElem_mem hv
theorem tangramref24_Feet.calls (k : Nat) (a0_0 : Int) (A0_1 : Option Addr) (c0_1 : Nat) (l0_1 : List (S41)) (A1 : Option Addr) (c1 : Nat) (l1 : List (List Int)) (a2 : Int) (A3 : Option Addr) (c3 : Nat) (l3 : List Int) (r1 : List (List Int)) (r2 : Bool) (w : World) (hr0_1 : Kd.C k41 w A0_1 l0_1.length l0_1) (hc0_1 : l0_1.length ≤ c0_1) (hr1 : Kd.C (Kd.slice 3 (Kd.int .i64)) w A1 l1.length l1) (hc1 : l1.length ≤ c1) (hr3 : Kd.C (Kd.int .i64) w A3 l3.length l3) (hc3 : l3.length ≤ c3) (h : tangramref24_Feet.f k a0_0 l0_1 l1 a2 l3 = some (r1, r2)) :
  Calls Try.prog 25 #[.agg #[.int .i64 a0_0, .slice A0_1 l0_1.length c0_1], .slice A1 l1.length c1, .int .i64 a2, .slice A3 l3.length c3] w fun e w' => ∃ v0_ : Value, e = .returned (.tuple #[v0_, .bool r2]) ∧ Kd.S (Kd.slice 3 (Kd.int .i64)) 27 w' w.heap.size (fun _ => True) v0_ r1 ∧ Below w.heap.size w w' := by
 unfold tangramref24_Feet.f at h
 obtain ⟨⟨a, b, c⟩, ht, h⟩ := Option.bind_eq_some_iff.mp h
 obtain ⟨ok, hok, h⟩ := Option.bind_eq_some_iff.mp h
 obtain ⟨o, ho, h⟩ := Option.bind_eq_some_iff.mp h
 simp only at h
 split at h
 ·rename_i hf
  unfold tangramref24_Feet.fit at hf
  rw [Bool.and_eq_true, Bool.and_eq_true, Bool.and_eq_true, Bool.and_eq_true, decide_eq_true_eq, decide_eq_true_eq, List.all_eq_true] at hf
  obtain ⟨hg, ⟨h3, ha, hb⟩, hl, hol, hor⟩ := hf
  obtain ⟨g1, g2, g3, _⟩ := (ValH.goodB_iff _ _).1 hg
  obtain ⟨N, rfl⟩ := Int.eq_ofNat_of_zero_le g1
  rw [Int.toNat_natCast] at h
  have hlm : (l0_1.map fun x => (x.f0, x.f1)).length = l0_1.length := List.length_map ..
  have hp := tangramref24_Feet.pairs hr0_1
  have key := Feet.feet_calls (w := w) (N := N) (m := l0_1.length) (A := A0_1) (c0 := c0_1) (A1 := A1) (lr := l1.length) (c1 := c1) (root := a2) (a := a) (b := b) (c := c) (ok := ok) (outs := o) (tos := Graph.tosL (l0_1.map fun x => (x.f0, x.f1))) A3 c3 l3 hr3 hc3 (by omega) (by omega) ha hb (fun q => by
   rw [q] at hl
   rw [Bool.not_true, Bool.false_or, Bool.and_eq_true, decide_eq_true_eq, List.all_eq_true] at hl
   exact ⟨by omega, fun j hj => of_decide_eq_true (hl.2 _ (tangramref24_Feet.memi (by omega)))⟩) (by omega) (fun v hv => by
   have h4 := hor _ (tangramref24_Feet.mem (r := o) (v := v) (by omega))
   rw [Bool.and_eq_true, decide_eq_true_eq, List.all_eq_true] at h4
   refine ⟨h4.1, fun j hj => ?_⟩
   have h5 := of_decide_eq_true (h4.2 _ (tangramref24_Feet.memi hj))
   rw [hlm] at h5
   exact h5) (fun h hh => Graph.tos_in hg (by rw [hlm]; exact hh)) (fun W hW => tangramref24_Outer.calls k N A0_1 c0_1 l0_1 A1 c1 l1 a2 a b c W (Kd.C_below hr0_1 hW) hc0_1 (Kd.C_below hr1 hW) hc1 ht) (fun W hW => tangramref24_all.calls k N A3 c3 l3 ok W (Kd.C_below hr3 hW) hc3 hok) (fun W hW => tangramref04_Out.calls k N A0_1 c0_1 l0_1 o W (Kd.C_below hr0_1 hW) hc0_1 ho) (fun W hW h hh => by
   have h6 := Graph.to04_calls N A0_1 c0_1 (l0_1.map fun x => (x.f0, x.f1)) h W (hp.below hW) g3 (by rw [hlm]; exact hh)
   rw [hlm] at h6
   exact h6) _ rfl
  have h7 := Option.some.inj h
  cases hr : Feet.feetF N (Feet.adL o (Graph.tosL (l0_1.map fun x => (x.f0, x.f1)))) a b c l3 ok with
  | none =>
   rw [hr] at key h7
   obtain ⟨rfl, rfl⟩ := Prod.mk.inj h7
   exact key.mono fun e w' ⟨h8, h9⟩ => ⟨_, h8, Kd.S_nil _ _ _ _ _, h9⟩
  | some out =>
   rw [hr] at key h7
   obtain ⟨rfl, rfl⟩ := Prod.mk.inj h7
   exact key.mono fun e w' ⟨u, h8, h9, h10⟩ => ⟨u, h8, h9, h10⟩
 ·cases h
end GAll.Law
namespace GAll.Law
def order_Valid.f (k : Nat) (a0_0 : Int) (l0_1 : List S41) (l1 : List (List Int)) (a2 : Int) (l3 : List Int) : Option (Bool × Int) :=
 if l0_1.length ≤ 8796093022208 then (Peel.lookF k a0_0 l0_1 l1 a2).bind fun t => if t.1 ≠ 0 then some (false, t.1) else if Peel.goodT a0_0 t.2.1 t.2.2.1 t.2.2.2.1 t.2.2.2.2 = true then some ((Peel.coversF a0_0.toNat t.2.1 t.2.2.1 t.2.2.2.1 t.2.2.2.2 l3).isSome, 0) else none else none
theorem order_Valid.mono : ∀ a0 a1 a2 a3 a4 k, LeO (order_Valid.f k a0 a1 a2 a3 a4) (order_Valid.f (k + 1) a0 a1 a2 a3 a4) := by
 intro a0 a1 a2 a3 a4 k
 unfold order_Valid.f
 exact LeO.ite (LeO.bind (Peel.look_mono _ _ _ _ _) (fun _ => LeO.refl _)) (LeO.refl _)
theorem order_Valid.calls (k : Nat) (a0_0 : Int) (A0_1 : Option Addr) (c0_1 : Nat) (l0_1 : List (S41)) (A1 : Option Addr) (c1 : Nat) (l1 : List (List Int)) (a2 : Int) (A3 : Option Addr) (c3 : Nat) (l3 : List Int) (r1 : Bool) (r2 : Int) (w : World) (hr0_1 : Kd.C k41 w A0_1 l0_1.length l0_1) (hc0_1 : l0_1.length ≤ c0_1) (hr1 : Kd.C (Kd.slice 3 (Kd.int .i64)) w A1 l1.length l1) (hc1 : l1.length ≤ c1) (hr3 : Kd.C (Kd.int .i64) w A3 l3.length l3) (hc3 : l3.length ≤ c3) (h : order_Valid.f k a0_0 l0_1 l1 a2 l3 = some (r1, r2)) :
  Calls Try.prog 17 #[.agg #[.int .i64 a0_0, .slice A0_1 l0_1.length c0_1], .slice A1 l1.length c1, .int .i64 a2, .slice A3 l3.length c3] w fun e w' => e = .returned (.tuple #[.bool r1, .int .i64 r2]) ∧ Below w.heap.size w w' := by
 unfold order_Valid.f at h
 split at h
 ·rename_i hll
  obtain ⟨⟨e, ar, a, b, d⟩, ht, h⟩ := Option.bind_eq_some_iff.mp h
  simp only at h
  split at h
  ·rename_i he
   obtain ⟨rfl, rfl⟩ := Prod.mk.inj (Option.some.inj h)
   exact Peel.valid_err k a0_0 A0_1 c0_1 l0_1 A1 c1 l1 a2 w hr0_1 hc0_1 hr1 hc1 hll e ar a b d ht he _
  ·rename_i he
   split at h
   ·rename_i hg
    obtain ⟨rfl, rfl⟩ := Prod.mk.inj (Option.some.inj h)
    obtain ⟨N, rfl, h3, hal, ha, hb, hd, hok⟩ := Peel.goodT_iff hg
    obtain rfl : e = 0 := Classical.not_not.1 he
    rw [Int.toNat_natCast]
    exact Peel.valid_calls k N A0_1 c0_1 l0_1 A1 c1 l1 a2 w hr0_1 hc0_1 hr1 hc1 hll ar a b d ht hal hok ha hb h3 A3 c3 l3 hr3 hc3
   ·cases h
 ·cases h
end GAll.Law
namespace GAll.Law
def tangramlaw24_valid.f (k : Nat) (a0_0 : Int) (l0_1 : List (S41)) (l0_2 : List (List Int)) (a0_3 : Int) (l0_4 : List Int) (l1 : List Int) : Option (Bool × Int) := (tangramref04_Copy.f a0_0 l0_1).bind fun bt132 => ((tangramref13_Copy.f k l0_2).bind fun t136 => ((some (([] : List Int) : List Int)).bind fun y139 => (if y139.length + l1.length < 17592186044416 then ((order_Valid.f k bt132.1 bt132.2 t136 a0_3 (y139 ++ l1)).bind fun bt145 => (some (bt145.1, bt145.2))) else (none))))
theorem tangramlaw24_valid.mono : ∀ a0 a1 a2 a3 a4 a5 k, LeO (tangramlaw24_valid.f k a0 a1 a2 a3 a4 a5) (tangramlaw24_valid.f (k + 1) a0 a1 a2 a3 a4 a5) := by
 intro a0 a1 a2 a3 a4 a5 k
 unfold tangramlaw24_valid.f
 repeat' first
   | (with_reducible exact order_Valid.mono _ _ _ _ _ _)
   | (with_reducible exact tangramref13_Copy.mono _ _)
   | (with_reducible exact LeO.refl _)
   | (with_reducible exact LeO.none _)
   | (with_reducible refine LeO.ite ?_ ?_)
   | (with_reducible refine LeO.bind ?_ (fun _ => ?_))
def tangramlaw24_valid.T1 : Bool × List (List Nat × List Nat) := (true, [([], []), ([0], [0]), ([1], [1]), ([], []), ([3], [3]), ([4, 2], [4]), ([], []), ([6], [6]), ([], []), ([], []), ([8, 9, 5], [8, 9]), ([2, 5, 7, 10, 10], [2, 5, 7, 10]), ([11], [11]), ([12], [12]), ([12], [12]), ([13, 11, 0, 1, 2, 3, 4, 5, 6, 7, 8, 9, 10, 11, 12, 13], [13]), ([14, 15, 0, 1, 2, 3, 4, 5, 6, 7, 8, 9, 10, 11, 12, 13, 14, 15], [14])])
def tangramlaw24_valid.B1 : List Nat := [0, 1, 3, 0, 8, 31, 0, 64, 0, 0, 831, 2047, 4095, 8191, 8191, 16383, 65535]
theorem tangramlaw24_valid.tab1 : rtab .any (opsOf Try.f23 1) = tangramlaw24_valid.T1 := by kernel_rfl
theorem tangramlaw24_valid.bits1 : waitsOk tangramlaw24_valid.T1.2 tangramlaw24_valid.B1 = true := by kernel_rfl
theorem tangramlaw24_valid.calls (k : Nat) (a0_0 : Int) (A0_1 : Option Addr) (c0_1 : Nat) (l0_1 : List (S41)) (A0_2 : Option Addr) (c0_2 : Nat) (l0_2 : List (List Int)) (a0_3 : Int) (A0_4 : Option Addr) (c0_4 : Nat) (l0_4 : List Int) (A1 : Option Addr) (c1 : Nat) (l1 : List Int) (r1 : Bool) (r2 : Int) (w : World) (hr0_1 : Kd.C k41 w A0_1 l0_1.length l0_1) (hc0_1 : l0_1.length ≤ c0_1) (hr0_2 : Kd.C (Kd.slice 3 (Kd.int .i64)) w A0_2 l0_2.length l0_2) (hc0_2 : l0_2.length ≤ c0_2) (hr0_4 : Kd.C (Kd.int .i64) w A0_4 l0_4.length l0_4) (hc0_4 : l0_4.length ≤ c0_4) (hr1 : Kd.C (Kd.int .i64) w A1 l1.length l1) (hc1 : l1.length ≤ c1) (h : tangramlaw24_valid.f k a0_0 l0_1 l0_2 a0_3 l0_4 l1 = some (r1, r2)) :
  Calls Try.prog 23 #[.agg #[.int .i64 a0_0, .slice A0_1 l0_1.length c0_1, .slice A0_2 l0_2.length c0_2, .int .i64 a0_3, .slice A0_4 l0_4.length c0_4], .slice A1 l1.length c1] w fun e w' => e = .returned (.tuple #[.bool r1, .int .i64 r2]) ∧ Below w.heap.size w w' := by
 have hu29 := Try.underlying29
 have hu24 := Try.underlying24
 have HR0_1 := Aside0.mk hr0_1
 have HC0_1 := Aside0.mk hc0_1
 clear hr0_1 hc0_1
 have HR0_2 := Aside0.mk hr0_2
 have HC0_2 := Aside0.mk hc0_2
 clear hr0_2 hc0_2
 have HR0_4 := Aside0.mk hr0_4
 have HC0_4 := Aside0.mk hc0_4
 clear hr0_4 hc0_4
 have HR1 := Aside0.mk hr1
 have HC1 := Aside0.mk hc1
 clear hr1 hc1
 have HB := Aside0.mk (Below.refl w.heap.size w)
 have H : ((tangramref04_Copy.f a0_0 l0_1).bind fun bt132 => ((tangramref13_Copy.f k l0_2).bind fun t136 => ((some (([] : List Int) : List Int)).bind fun y139 => (if y139.length + l1.length < 17592186044416 then ((order_Valid.f k bt132.1 bt132.2 t136 a0_3 (y139 ++ l1)).bind fun bt145 => (some (bt145.1, bt145.2))) else (none))))) = some (r1, r2) := h
 clear h
 replace H := Option.bind_eq_some_iff.mp H
 obtain ⟨⟨t132, t133⟩, A30, H⟩ := H
 have A3 := Aside0.mk A30
 clear A30
 replace H := Option.bind_eq_some_iff.mp H
 obtain ⟨t136, A40, H⟩ := H
 have A4 := Aside0.mk A40
 clear A40
 obtain ⟨y139, hy139⟩ : ∃ y_ : List Int, y_ = (([] : List Int)) := ⟨_, rfl⟩
 replace H : (if y139.length + l1.length < 17592186044416 then ((order_Valid.f k t132 t133 t136 a0_3 (y139 ++ l1)).bind fun bt145 => (some (bt145.1, bt145.2))) else (none)) = some (r1, r2) := by first | (rw [hy139]; exact H) | exact H
 have Ny139 := Aside0.mk hy139
 clear hy139
 by_cases c5 : y139.length + l1.length < 17592186044416
 ·rw [if_pos c5] at H
  have LMc5 := Aside0.mk c5
  clear c5
  obtain ⟨y142, hy142⟩ : ∃ y_ : List Int, y_ = (y139 ++ l1) := ⟨_, rfl⟩
  replace H : ((order_Valid.f k t132 t133 t136 a0_3 y142).bind fun bt145 => (some (bt145.1, bt145.2))) = some (r1, r2) := by first | (rw [hy142]; exact H) | exact H
  have Ny142 := Aside0.mk hy142
  clear hy142
  replace H := Option.bind_eq_some_iff.mp H
  obtain ⟨⟨t145, t146⟩, A60, H⟩ := H
  have A6 := Aside0.mk A60
  clear A60
  simp only [Option.some.injEq, Prod.mk.injEq] at H
  obtain ⟨rfl, rfl⟩ := H
  go_enter Try.func23, Try.ntmps23
  try go_wp2_with (first | ((with_reducible refine gate_dst (N := 2) rfl ?_); refine bx9 (N := 2) (cs := #[.int .i64 a0_0, .slice A0_1 l0_1.length c0_1, .slice A0_2 l0_2.length c0_2, .int .i64 a0_3, .slice A0_4 l0_4.length c0_4]) (t := 29) ?_; intro gb131 hg w7 hbox hb; have BK131 := Aside0.mk (hbox); have GW131 := gw9 HB hg; have GE131 := gw9 HB hg; replace HB := bs9 HB hb; clear hb hbox hg))
  replace BK131 := Aside0.mk (blk_drew BK131.out)
  replace HB := Aside0.mk (below_drew1 HB.out)
  refine start_ (n := 17) (S := fun w' => w'.cell? ⟨gb131, 0, none⟩ = some (.int .i64 a0_0) ∧ w'.cell? ⟨gb131, 1, none⟩ = some (.slice A0_1 l0_1.length c0_1) ∧ w'.cell? ⟨gb131, 2, none⟩ = some (.slice A0_2 l0_2.length c0_2) ∧ w'.cell? ⟨gb131, 3, none⟩ = some (.int .i64 a0_3) ∧ w'.cell? ⟨gb131, 4, none⟩ = some (.slice A0_4 l0_4.length c0_4)) (ds := []) (bm9 17 0) (by kernel_rfl) rfl rfl (hc5 BK131) (fun hHeld => ?_); refine with_tabW tangramlaw24_valid.tab1 tangramlaw24_valid.bits1 (fun HT_ HW_ => ?_)
  generalize w7.drew = w8 at BK131 HB hHeld ⊢
  refine pu9 0 9 (bm9 17 1) ?_
  refine pu9 3 12 (bm9 17 9) ?_
  refine pu9 6 15 (bm9 17 73) ?_
  refine pu9 9 18 (bm9 17 585) ?_
  refine tk59 1 10 (bm9 17 587) hHeld ?_
  refine tk59 4 13 (bm9 17 603) hHeld ?_
  refine tk59 7 16 (bm9 17 731) hHeld ?_
  refine join_ (σ := Value × Value × Value) 7 (bm9 17 1023) (fun s_ => [(11, .agg #[.int .i64 t132, s_.1]), (14, s_.2.1), (17, s_.2.2)]) (fun s_ w' => (w'.cell? ⟨gb131, 0, none⟩ = some (.int .i64 a0_0) ∧ w'.cell? ⟨gb131, 1, none⟩ = some (.slice A0_1 l0_1.length c0_1) ∧ w'.cell? ⟨gb131, 2, none⟩ = some (.slice A0_2 l0_2.length c0_2) ∧ w'.cell? ⟨gb131, 3, none⟩ = some (.int .i64 a0_3) ∧ w'.cell? ⟨gb131, 4, none⟩ = some (.slice A0_4 l0_4.length c0_4)) ∧ (Kd.R k41 41 w' w.heap.size (fun _ => True) s_.1 t133) ∧ (Kd.S (Kd.slice 3 (Kd.int .i64)) 27 w' w.heap.size (fun k_ => some k_ ≠ (s_.2.2 : Value).ownBlock) s_.2.1 t136) ∧ (Kd.R (Kd.int .i64) 3 w' w.heap.size (fun _ => True) s_.2.2 y139) ∧ (w'.heap[gb131]? = some (.cells #[.int .i64 a0_0, .slice A0_1 l0_1.length c0_1, .slice A0_2 l0_2.length c0_2, .int .i64 a0_3, .slice A0_4 l0_4.length c0_4] 29 (0, 0))) ∧ (Below w.heap.size w w')) ?_ ?_
  rotate_left
  ·intro hCont
   refine two_ (i := 2) (j := 8) (Ni := some 11) (Nj := some 17) (bm9 17 735) (bm9 17 987) rfl rfl rfl rfl (two_of HT_.out (by kernel_rfl)) (by decide) (by decide) (fun K hK => ?_) (fun K hK => ?_)
   ·skip
    refine gs9 Try.func14 #[.agg #[.int .i64 a0_0, .slice A0_1 l0_1.length c0_1]] ?_
    with_reducible refine (tangramref04_Copy.calls a0_0 _ _ l0_1 t132 t133 _ ?side1 ?side2 A3.out).mono ?_
    (case side1 => exact cb9 HR0_1 HB)
    (case side2 => exact HC0_1.out)
    rintro e w9 ⟨v134, rfl, ho0, hb⟩
    refine ⟨_, rfl, ?_⟩
    have HO135 := Aside0.mk (Kd.R_lower ho0 (sz9 HB))
    replace BK131 := bb9 BK131 hb
    replace HB := bs9 HB hb
    (try clear hb)
    (try clear ho0)
    refine hK.out _ _ (hc5 BK131) (fun hHeld => ?_)
    clear hK K
    refine nm8 11 ?_
    refine two_ (i := 5) (j := 8) (Ni := some 14) (Nj := some 17) (bm9 17 767) (bm9 17 991) rfl rfl rfl rfl (two_of HT_.out (by kernel_rfl)) (by decide) (by decide) (fun K hK => ?_) (fun K hK => ?_)
    ·skip
     refine gs9 Try.func15 #[.slice A0_2 l0_2.length c0_2] ?_
     with_reducible refine (tangramref13_Copy.calls k _ _ l0_2 t136 _ ?side1 ?side2 A4.out).mono ?_
     (case side1 => exact cb9 HR0_2 HB)
     (case side2 => exact HC0_2.out)
     rintro e w10 ⟨v137, rfl, ho0, hb⟩
     refine ⟨_, rfl, ?_⟩
     have HO138 := Aside0.mk (Kd.S_lower ho0 (sz9 HB))
     replace HO135 := rb9 HO135 hb
     replace BK131 := bb9 BK131 hb
     replace HB := bs9 HB hb
     (try clear hb)
     (try clear ho0)
     refine hK.out _ _ (hc5 BK131) (fun hHeld => ?_)
     clear hK K
     refine nm8 14 ?_
     refine one_ (i := 8) (N := some 17) (bm9 17 1023) rfl rfl (one_of HT_.out (by kernel_rfl)) (by decide) (fun K hK => ?_)
     refine Kd.R_lit_step (Kd.int .i64) _ 3 ?hg (N := 17) ?hd (xs := ([] : List Int)) (inner := []) (ok := fun _ => True) (okp := fun _ => True) ?hr ?hp (fun _ hk => hk) trivial (Below.refl _ _) (Nat.le_refl _) (by simp) ?_; (case hd => rfl); (case hg => rfl); (case hr => first | (go_simp; done) | (go_simp; rfl)); (case hp => exact (Reps.none _ _))
     intro v140 w11 ho12 hb hg_ hnew_
     clear hg_ hnew_
     (first | rw [← Ny139.out] at ho12 | (simp only [Int.reduceToNat] at ho12; rw [← Ny139.out] at ho12))
     have HO141 := Aside0.mk (Kd.R_lower ho12 (sz9 HB))
     replace HO135 := rb9 HO135 hb
     replace HO138 := Aside0.mk (Kd.S_elder' (by (with_reducible repeat (first | apply Kd.S_alloc | apply Kd.S_drewN | apply Kd.S_drew)); exact HO138.out) (Kd.R_base ho12) hb)
     replace BK131 := bb9 BK131 hb
     replace HB := bs9 HB hb
     clear hb ho12
     refine hK.out _ _ (hc5 BK131) (fun hHeld => ?_)
     clear hK K
     refine nm8 17 ?_
     exact nm7 (hCont (v134, v137, v140) _ ⟨hHeld, (ro9 HO135), (by (with_reducible repeat (first | apply Kd.S_alloc | apply Kd.S_drewN | apply Kd.S_drew)); exact Kd.S_mono HO138.out (fun _ hk => hk.2)), (ro9 HO141), (by (with_reducible repeat (first | refine blk_drewN ?_ _ | refine blk_drew ?_ | refine blk_alloc ?_ _)); exact BK131.out), (bl9 HB)⟩)
    ·skip
     refine Kd.R_lit_step (Kd.int .i64) _ 3 ?hg (N := 17) ?hd (xs := ([] : List Int)) (inner := []) (ok := fun _ => True) (okp := fun _ => True) ?hr ?hp (fun _ hk => hk) trivial (Below.refl _ _) (Nat.le_refl _) (by simp) ?_; (case hd => rfl); (case hg => rfl); (case hr => first | (go_simp; done) | (go_simp; rfl)); (case hp => exact (Reps.none _ _))
     intro v140 w10 ho11 hb hg_ hnew_
     clear hg_ hnew_
     (first | rw [← Ny139.out] at ho11 | (simp only [Int.reduceToNat] at ho11; rw [← Ny139.out] at ho11))
     have HO141 := Aside0.mk (Kd.R_lower ho11 (sz9 HB))
     replace HO135 := rb9 HO135 hb
     replace BK131 := bb9 BK131 hb
     replace HB := bs9 HB hb
     clear hb ho11
     refine hK.out _ _ (hc5 BK131) (fun hHeld => ?_)
     clear hK K
     refine nm8 17 ?_
     refine one_ (i := 5) (N := some 14) (bm9 17 1023) rfl rfl (one_of HT_.out (by kernel_rfl)) (by decide) (fun K hK => ?_)
     refine gs9 Try.func15 #[.slice A0_2 l0_2.length c0_2] ?_
     with_reducible refine (tangramref13_Copy.calls k _ _ l0_2 t136 _ ?side1 ?side2 A4.out).mono ?_
     (case side1 => exact cb9 HR0_2 HB)
     (case side2 => exact HC0_2.out)
     rintro e w12 ⟨v137, rfl, ho0, hb⟩
     refine ⟨_, rfl, ?_⟩
     have HO138 := Aside0.mk (Kd.S_lower (Kd.S_new' ho0 (Kd.R_lt (ro9 HO141))) (sz9 HB))
     replace HO135 := rb9 HO135 hb
     replace HO141 := rb9 HO141 hb
     replace BK131 := bb9 BK131 hb
     replace HB := bs9 HB hb
     (try clear hb)
     (try clear ho0)
     refine hK.out _ _ (hc5 BK131) (fun hHeld => ?_)
     clear hK K
     refine nm8 14 ?_
     exact nm7 (hCont (v134, v137, v140) _ ⟨hHeld, (ro9 HO135), (by (with_reducible repeat (first | apply Kd.S_alloc | apply Kd.S_drewN | apply Kd.S_drew)); exact Kd.S_mono HO138.out (fun _ hk => hk.2)), (ro9 HO141), (by (with_reducible repeat (first | refine blk_drewN ?_ _ | refine blk_drew ?_ | refine blk_alloc ?_ _)); exact BK131.out), (bl9 HB)⟩)
   ·skip
    refine Kd.R_lit_step (Kd.int .i64) _ 3 ?hg (N := 17) ?hd (xs := ([] : List Int)) (inner := []) (ok := fun _ => True) (okp := fun _ => True) ?hr ?hp (fun _ hk => hk) trivial (Below.refl _ _) (Nat.le_refl _) (by simp) ?_; (case hd => rfl); (case hg => rfl); (case hr => first | (go_simp; done) | (go_simp; rfl)); (case hp => exact (Reps.none _ _))
    intro v140 w9 ho10 hb hg_ hnew_
    clear hg_ hnew_
    (first | rw [← Ny139.out] at ho10 | (simp only [Int.reduceToNat] at ho10; rw [← Ny139.out] at ho10))
    have HO141 := Aside0.mk (Kd.R_lower ho10 (sz9 HB))
    replace BK131 := bb9 BK131 hb
    replace HB := bs9 HB hb
    clear hb ho10
    refine hK.out _ _ (hc5 BK131) (fun hHeld => ?_)
    clear hK K
    refine nm8 17 ?_
    refine one_ (i := 2) (N := some 11) (bm9 17 991) rfl rfl (one_of HT_.out (by kernel_rfl)) (by decide) (fun K hK => ?_)
    refine gs9 Try.func14 #[.agg #[.int .i64 a0_0, .slice A0_1 l0_1.length c0_1]] ?_
    with_reducible refine (tangramref04_Copy.calls a0_0 _ _ l0_1 t132 t133 _ ?side1 ?side2 A3.out).mono ?_
    (case side1 => exact cb9 HR0_1 HB)
    (case side2 => exact HC0_1.out)
    rintro e w11 ⟨v134, rfl, ho0, hb⟩
    refine ⟨_, rfl, ?_⟩
    have HO135 := Aside0.mk (Kd.R_lower ho0 (sz9 HB))
    replace HO141 := rb9 HO141 hb
    replace BK131 := bb9 BK131 hb
    replace HB := bs9 HB hb
    (try clear hb)
    (try clear ho0)
    refine hK.out _ _ (hc5 BK131) (fun hHeld => ?_)
    clear hK K
    refine nm8 11 ?_
    refine one_ (i := 5) (N := some 14) (bm9 17 1023) rfl rfl (one_of HT_.out (by kernel_rfl)) (by decide) (fun K hK => ?_)
    refine gs9 Try.func15 #[.slice A0_2 l0_2.length c0_2] ?_
    with_reducible refine (tangramref13_Copy.calls k _ _ l0_2 t136 _ ?side1 ?side2 A4.out).mono ?_
    (case side1 => exact cb9 HR0_2 HB)
    (case side2 => exact HC0_2.out)
    rintro e w12 ⟨v137, rfl, ho0, hb⟩
    refine ⟨_, rfl, ?_⟩
    have HO138 := Aside0.mk (Kd.S_lower (Kd.S_new' ho0 (Kd.R_lt (ro9 HO141))) (sz9 HB))
    replace HO141 := rb9 HO141 hb
    replace HO135 := rb9 HO135 hb
    replace BK131 := bb9 BK131 hb
    replace HB := bs9 HB hb
    (try clear hb)
    (try clear ho0)
    refine hK.out _ _ (hc5 BK131) (fun hHeld => ?_)
    clear hK K
    refine nm8 14 ?_
    exact nm7 (hCont (v134, v137, v140) _ ⟨hHeld, (ro9 HO135), (by (with_reducible repeat (first | apply Kd.S_alloc | apply Kd.S_drewN | apply Kd.S_drew)); exact Kd.S_mono HO138.out (fun _ hk => hk.2)), (ro9 HO141), (by (with_reducible repeat (first | refine blk_drewN ?_ _ | refine blk_drew ?_ | refine blk_alloc ?_ _)); exact BK131.out), (bl9 HB)⟩)
  rintro ⟨v134, v137, v140⟩ w13 ⟨hS_, h0_, h1_, h2_, h3_, h4_⟩
  have HO135 : Aside0 (Kd.R k41 41 w13 w.heap.size (fun _ => True) v134 t133) := ⟨h0_⟩
  have HO138 : Aside0 (Kd.S (Kd.slice 3 (Kd.int .i64)) 27 w13 w.heap.size (fun k_ => some k_ ≠ (v140 : Value).ownBlock) v137 t136) := ⟨h1_⟩
  have HO141 : Aside0 (Kd.R (Kd.int .i64) 3 w13 w.heap.size (fun _ => True) v140 y139) := ⟨h2_⟩
  replace BK131 : Aside0 (w13.heap[gb131]? = some (.cells #[.int .i64 a0_0, .slice A0_1 l0_1.length c0_1, .slice A0_2 l0_2.length c0_2, .int .i64 a0_3, .slice A0_4 l0_4.length c0_4] 29 (0, 0))) := ⟨h3_⟩
  replace HB : Aside0 (Below w.heap.size w w13) := ⟨h4_⟩
  clear h0_ h3_ h2_ h1_ h4_
  have hHeld : w13.cell? ⟨gb131, 0, none⟩ = some (.int .i64 a0_0) ∧ w13.cell? ⟨gb131, 1, none⟩ = some (.slice A0_1 l0_1.length c0_1) ∧ w13.cell? ⟨gb131, 2, none⟩ = some (.slice A0_2 l0_2.length c0_2) ∧ w13.cell? ⟨gb131, 3, none⟩ = some (.int .i64 a0_3) ∧ w13.cell? ⟨gb131, 4, none⟩ = some (.slice A0_4 l0_4.length c0_4) := hS_
  refine norm_ (a' := ?_) ?_ ?_
  rotate_left
  ·simp only [putAll, Act.put, List.setIfInBounds_toArray, List.set_cons_zero, List.set_cons_succ]
   rfl
  refine one_ (i := 10) (N := some 19) (bm9 17 2047) rfl rfl (one_of HT_.out (by kernel_rfl)) (by decide) (fun K hK => ?_)
  refine Kd.R_append_rows_step (Kd.int .i64) (w0 := w) w.heap.size (by rfl) (.tmp 17) (.tmp 18) 27 3 (.int .i64 0) 8 rfl Try.underlying27 info3 rfl (by decide) (by omega) v140 y139 l1 _ _ _ (fun _ => True) (fun _ => False) rfl rfl ?aO ?aR (fun _ _ h => h) (fun _ h => h.elim) ?aF ?aB ?aS ?aL ?_
  (case aR => repeat (first | exact (Kd.C_below HR1.out HB.out) | (with_reducible refine Kd.C_alloc ?_ _) | (with_reducible refine Kd.C_drewN ?_ _) | (with_reducible refine Kd.C_drew ?_)))
  (case aB => exact (bl9 HB))
  (case aF => exact (fun _ _ => trivial))
  (case aO => exact (ro9 HO141))
  (case aS => exact (sz9 HB))
  (case aL => have := LMc5.out; omega)
  intro v143 w14 ho hb hg hat
  rw [← Ny142.out] at ho
  have HO144 := Aside0.mk (ho)
  replace BK131 := Aside0.mk (blk_grown (g := gb131) (o := .cells #[.int .i64 a0_0, .slice A0_1 l0_1.length c0_1, .slice A0_2 l0_2.length c0_2, .int .i64 a0_3, .slice A0_4 l0_4.length c0_4] 29 (0, 0)) (by (with_reducible repeat (first | refine blk_drewN ?_ _ | refine blk_drew ?_ | refine blk_alloc ?_ _)); exact BK131.out) hg (Kd.R_ne HO141.out BK131.out (by decide)))
  replace HO135 := Aside0.mk (Kd.R_over' (ro9 HO135) (Kd.R_typed (ro9 HO141)) (by decide) hg)
  replace HO138 := Aside0.mk (Kd.S_after (ok := (fun _ => True)) (by (with_reducible repeat (first | apply Kd.S_alloc | apply Kd.S_drewN | apply Kd.S_drew)); exact Kd.S_mono HO138.out (fun _ hk => ⟨trivial, hk⟩)) hg hat)
  replace HB := Aside0.mk (hb)
  clear HO141
  clear ho hb hg hat
  obtain ⟨Ao15, co15, eo15⟩ := Kd.R_slice HO135.out
  (first | subst eo15 | (injection eo15 with f1_ f2_ f3_; have f4_ := f1_.symm; have f5_ := f3_.symm; clear f1_ f2_ f3_; subst f4_; subst f5_))
  obtain ⟨Ao16, co16, eo16⟩ := Kd.S_slice HO138.out
  (first | subst eo16 | (injection eo16 with f1_ f2_ f3_; have f4_ := f1_.symm; have f5_ := f3_.symm; clear f1_ f2_ f3_; subst f4_; subst f5_))
  obtain ⟨Ao17, co17, eo17⟩ := Kd.R_slice HO144.out
  (first | subst eo17 | (injection eo17 with f1_ f2_ f3_; have f4_ := f1_.symm; have f5_ := f3_.symm; clear f1_ f2_ f3_; subst f4_; subst f5_))
  refine hK.out _ _ (hc5 BK131) (fun hHeld => ?_)
  clear hK K
  refine nm8 19 ?_
  refine one_ (i := 11) (N := some 20) (bm9 17 4095) rfl rfl (one_of HT_.out (by kernel_rfl)) (by decide) (fun K hK => ?_)
  refine gs9 Try.func17 #[.agg #[.int .i64 t132, .slice Ao15 t133.length co15], .slice Ao16 t136.length co16, .int .i64 a0_3, .slice Ao17 y142.length co17] ?_
  with_reducible refine (order_Valid.calls k t132 _ _ t133 _ _ t136 a0_3 _ _ y142 t145 t146 _ ?side1 ?side2 ?side3 ?side4 ?side5 ?side6 A6.out).mono ?_
  (case side1 => repeat (first | exact (Kd.R_reads' HO135.out).2.2 | (with_reducible refine Kd.C_alloc ?_ _) | (with_reducible refine Kd.C_drewN ?_ _) | (with_reducible refine Kd.C_drew ?_)))
  (case side2 => exact (Kd.R_reads' HO135.out).2.1)
  (case side3 => repeat (first | exact (Kd.S_reads' HO138.out).2.2 | (with_reducible refine Kd.C_alloc ?_ _) | (with_reducible refine Kd.C_drewN ?_ _) | (with_reducible refine Kd.C_drew ?_)))
  (case side4 => exact (Kd.S_reads' HO138.out).2.1)
  (case side5 => repeat (first | exact (Kd.R_reads' HO144.out).2.2 | (with_reducible refine Kd.C_alloc ?_ _) | (with_reducible refine Kd.C_drewN ?_ _) | (with_reducible refine Kd.C_drew ?_)))
  (case side6 => exact (Kd.R_reads' HO144.out).2.1)
  rintro e w18 ⟨rfl, hb⟩
  refine ⟨_, rfl, ?_⟩
  replace HO135 := rb9 HO135 hb
  replace HO138 := Aside0.mk (Kd.S_below (by (with_reducible repeat (first | apply Kd.S_alloc | apply Kd.S_drewN | apply Kd.S_drew)); exact HO138.out) hb)
  replace HO144 := rb9 HO144 hb
  replace BK131 := bb9 BK131 hb
  replace HB := bs9 HB hb
  (try clear hb)
  refine hK.out _ _ (hc5 BK131) (fun hHeld => ?_)
  clear hK K
  refine nm8 20 ?_
  refine pu9 12 8 (bm9 17 8191) ?_
  refine pu9 13 21 (bm9 17 16383) ?_
  refine pu9 14 22 (bm9 17 32767) ?_
  refine pu9 15 6 (bm9 17 65535) ?_
  refine pu9 16 7 (bm9 17 131071) ?_
  refine done_ (done_of HT_.out (by kernel_rfl)) ?_
  try go_wp2
  go_ret2
  exact ⟨er9, bl9 HB⟩
 ·rw [if_neg c5] at H
  exact absurd H (by simp)
end GAll.Law
namespace GAll.Law
def order_Covers.f (k : Nat) (a0_0 : Int) (l0_1 : List S41) (l1 : List (List Int)) (a2 : Int) (l3 : List Int) : Option (List (List Int) × Int) :=
 if l0_1.length ≤ 8796093022208 then (Peel.lookF k a0_0 l0_1 l1 a2).bind fun t => if t.1 ≠ 0 then some ([], t.1) else if Peel.goodT a0_0 t.2.1 t.2.2.1 t.2.2.2.1 t.2.2.2.2 = true then some ((Peel.coversF a0_0.toNat t.2.1 t.2.2.1 t.2.2.2.1 t.2.2.2.2 l3).getD [], Peel.covErr (Peel.coversF a0_0.toNat t.2.1 t.2.2.1 t.2.2.2.1 t.2.2.2.2 l3)) else none else none
theorem order_Covers.mono : ∀ a0 a1 a2 a3 a4 k, LeO (order_Covers.f k a0 a1 a2 a3 a4) (order_Covers.f (k + 1) a0 a1 a2 a3 a4) := by
 intro a0 a1 a2 a3 a4 k
 unfold order_Covers.f
 exact LeO.ite (LeO.bind (Peel.look_mono _ _ _ _ _) (fun _ => LeO.refl _)) (LeO.refl _)
theorem order_Covers.calls (k : Nat) (a0_0 : Int) (A0_1 : Option Addr) (c0_1 : Nat) (l0_1 : List (S41)) (A1 : Option Addr) (c1 : Nat) (l1 : List (List Int)) (a2 : Int) (A3 : Option Addr) (c3 : Nat) (l3 : List Int) (r1 : List (List Int)) (r2 : Int) (w : World) (hr0_1 : Kd.C k41 w A0_1 l0_1.length l0_1) (hc0_1 : l0_1.length ≤ c0_1) (hr1 : Kd.C (Kd.slice 3 (Kd.int .i64)) w A1 l1.length l1) (hc1 : l1.length ≤ c1) (hr3 : Kd.C (Kd.int .i64) w A3 l3.length l3) (hc3 : l3.length ≤ c3) (h : order_Covers.f k a0_0 l0_1 l1 a2 l3 = some (r1, r2)) :
  Calls Try.prog 18 #[.agg #[.int .i64 a0_0, .slice A0_1 l0_1.length c0_1], .slice A1 l1.length c1, .int .i64 a2, .slice A3 l3.length c3] w fun e w' => ∃ v0_ : Value, e = .returned (.tuple #[v0_, .int .i64 r2]) ∧ Kd.S (Kd.slice 3 (Kd.int .i64)) 27 w' w.heap.size (fun _ => True) v0_ r1 ∧ Below w.heap.size w w' := by
 unfold order_Covers.f at h
 split at h
 ·rename_i hll
  obtain ⟨⟨e, ar, a, b, d⟩, ht, h⟩ := Option.bind_eq_some_iff.mp h
  simp only at h
  split at h
  ·rename_i he
   obtain ⟨rfl, rfl⟩ := Prod.mk.inj (Option.some.inj h)
   exact (Peel.covers_err k a0_0 A0_1 c0_1 l0_1 A1 c1 l1 a2 w hr0_1 hc0_1 hr1 hc1 hll e ar a b d ht he _).mono fun e' w' ⟨h1, h2⟩ => ⟨_, h1, Kd.S_nil _ _ _ _ _, h2⟩
  ·rename_i he
   split at h
   ·rename_i hg
    obtain ⟨rfl, rfl⟩ := Prod.mk.inj (Option.some.inj h)
    obtain ⟨N, rfl, h3, hal, ha, hb, hd, hok⟩ := Peel.goodT_iff hg
    obtain rfl : e = 0 := Classical.not_not.1 he
    rw [Int.toNat_natCast]
    exact Peel.cov_calls k N A0_1 c0_1 l0_1 A1 c1 l1 a2 w hr0_1 hc0_1 hr1 hc1 hll ar a b d ht hal hok ha hb h3 A3 c3 l3 hr3 hc3
   ·cases h
 ·cases h
end GAll.Law
namespace GAll.Law
def tangramlaw24_covers.f (k : Nat) (a0_0 : Int) (l0_1 : List (S41)) (l0_2 : List (List Int)) (a0_3 : Int) (l0_4 : List Int) (l1 : List Int) : Option ((List (List Int)) × Int) := (tangramref04_Copy.f a0_0 l0_1).bind fun bt114 => ((tangramref13_Copy.f k l0_2).bind fun t118 => ((some (([] : List Int) : List Int)).bind fun y121 => (if y121.length + l1.length < 17592186044416 then ((order_Covers.f k bt114.1 bt114.2 t118 a0_3 (y121 ++ l1)).bind fun bt127 => (some (bt127.1, bt127.2))) else (none))))
theorem tangramlaw24_covers.mono : ∀ a0 a1 a2 a3 a4 a5 k, LeO (tangramlaw24_covers.f k a0 a1 a2 a3 a4 a5) (tangramlaw24_covers.f (k + 1) a0 a1 a2 a3 a4 a5) := by
 intro a0 a1 a2 a3 a4 a5 k
 unfold tangramlaw24_covers.f
 repeat' first
   | (with_reducible exact order_Covers.mono _ _ _ _ _ _)
   | (with_reducible exact tangramref13_Copy.mono _ _)
   | (with_reducible exact LeO.refl _)
   | (with_reducible exact LeO.none _)
   | (with_reducible refine LeO.ite ?_ ?_)
   | (with_reducible refine LeO.bind ?_ (fun _ => ?_))
def tangramlaw24_covers.T1 : Bool × List (List Nat × List Nat) := (true, [([], []), ([0], [0]), ([1], [1]), ([], []), ([3], [3]), ([4, 2], [4]), ([], []), ([6], [6]), ([], []), ([], []), ([8, 9, 5], [8, 9]), ([2, 5, 7, 10, 10], [2, 5, 7, 10]), ([11], [11]), ([12], [12]), ([12], [12]), ([13, 11, 0, 1, 2, 3, 4, 5, 6, 7, 8, 9, 10, 11, 12, 13], [13]), ([14, 15, 0, 1, 2, 3, 4, 5, 6, 7, 8, 9, 10, 11, 12, 13, 14, 15], [14])])
def tangramlaw24_covers.B1 : List Nat := [0, 1, 3, 0, 8, 31, 0, 64, 0, 0, 831, 2047, 4095, 8191, 8191, 16383, 65535]
theorem tangramlaw24_covers.tab1 : rtab .any (opsOf Try.f12 1) = tangramlaw24_covers.T1 := by kernel_rfl
theorem tangramlaw24_covers.bits1 : waitsOk tangramlaw24_covers.T1.2 tangramlaw24_covers.B1 = true := by kernel_rfl
theorem tangramlaw24_covers.calls (k : Nat) (a0_0 : Int) (A0_1 : Option Addr) (c0_1 : Nat) (l0_1 : List (S41)) (A0_2 : Option Addr) (c0_2 : Nat) (l0_2 : List (List Int)) (a0_3 : Int) (A0_4 : Option Addr) (c0_4 : Nat) (l0_4 : List Int) (A1 : Option Addr) (c1 : Nat) (l1 : List Int) (r1 : List (List Int)) (r2 : Int) (w : World) (hr0_1 : Kd.C k41 w A0_1 l0_1.length l0_1) (hc0_1 : l0_1.length ≤ c0_1) (hr0_2 : Kd.C (Kd.slice 3 (Kd.int .i64)) w A0_2 l0_2.length l0_2) (hc0_2 : l0_2.length ≤ c0_2) (hr0_4 : Kd.C (Kd.int .i64) w A0_4 l0_4.length l0_4) (hc0_4 : l0_4.length ≤ c0_4) (hr1 : Kd.C (Kd.int .i64) w A1 l1.length l1) (hc1 : l1.length ≤ c1) (h : tangramlaw24_covers.f k a0_0 l0_1 l0_2 a0_3 l0_4 l1 = some (r1, r2)) :
  Calls Try.prog 12 #[.agg #[.int .i64 a0_0, .slice A0_1 l0_1.length c0_1, .slice A0_2 l0_2.length c0_2, .int .i64 a0_3, .slice A0_4 l0_4.length c0_4], .slice A1 l1.length c1] w fun e w' => ∃ v0_ : Value, e = .returned (.tuple #[v0_, .int .i64 r2]) ∧ Kd.S (Kd.slice 3 (Kd.int .i64)) 27 w' w.heap.size (fun _ => True) v0_ r1 ∧ Below w.heap.size w w' := by
 have hu29 := Try.underlying29
 have hu24 := Try.underlying24
 have HR0_1 := Aside0.mk hr0_1
 have HC0_1 := Aside0.mk hc0_1
 clear hr0_1 hc0_1
 have HR0_2 := Aside0.mk hr0_2
 have HC0_2 := Aside0.mk hc0_2
 clear hr0_2 hc0_2
 have HR0_4 := Aside0.mk hr0_4
 have HC0_4 := Aside0.mk hc0_4
 clear hr0_4 hc0_4
 have HR1 := Aside0.mk hr1
 have HC1 := Aside0.mk hc1
 clear hr1 hc1
 have HB := Aside0.mk (Below.refl w.heap.size w)
 have H : ((tangramref04_Copy.f a0_0 l0_1).bind fun bt114 => ((tangramref13_Copy.f k l0_2).bind fun t118 => ((some (([] : List Int) : List Int)).bind fun y121 => (if y121.length + l1.length < 17592186044416 then ((order_Covers.f k bt114.1 bt114.2 t118 a0_3 (y121 ++ l1)).bind fun bt127 => (some (bt127.1, bt127.2))) else (none))))) = some (r1, r2) := h
 clear h
 replace H := Option.bind_eq_some_iff.mp H
 obtain ⟨⟨t114, t115⟩, A30, H⟩ := H
 have A3 := Aside0.mk A30
 clear A30
 replace H := Option.bind_eq_some_iff.mp H
 obtain ⟨t118, A40, H⟩ := H
 have A4 := Aside0.mk A40
 clear A40
 obtain ⟨y121, hy121⟩ : ∃ y_ : List Int, y_ = (([] : List Int)) := ⟨_, rfl⟩
 replace H : (if y121.length + l1.length < 17592186044416 then ((order_Covers.f k t114 t115 t118 a0_3 (y121 ++ l1)).bind fun bt127 => (some (bt127.1, bt127.2))) else (none)) = some (r1, r2) := by first | (rw [hy121]; exact H) | exact H
 have Ny121 := Aside0.mk hy121
 clear hy121
 by_cases c5 : y121.length + l1.length < 17592186044416
 ·rw [if_pos c5] at H
  have LMc5 := Aside0.mk c5
  clear c5
  obtain ⟨y124, hy124⟩ : ∃ y_ : List Int, y_ = (y121 ++ l1) := ⟨_, rfl⟩
  replace H : ((order_Covers.f k t114 t115 t118 a0_3 y124).bind fun bt127 => (some (bt127.1, bt127.2))) = some (r1, r2) := by first | (rw [hy124]; exact H) | exact H
  have Ny124 := Aside0.mk hy124
  clear hy124
  replace H := Option.bind_eq_some_iff.mp H
  obtain ⟨⟨t127, t130⟩, A60, H⟩ := H
  have A6 := Aside0.mk A60
  clear A60
  simp only [Option.some.injEq, Prod.mk.injEq] at H
  obtain ⟨rfl, rfl⟩ := H
  go_enter Try.func12, Try.ntmps12
  try go_wp2_with (first | ((with_reducible refine gate_dst (N := 2) rfl ?_); refine bx9 (N := 2) (cs := #[.int .i64 a0_0, .slice A0_1 l0_1.length c0_1, .slice A0_2 l0_2.length c0_2, .int .i64 a0_3, .slice A0_4 l0_4.length c0_4]) (t := 29) ?_; intro gb113 hg w7 hbox hb; have BK113 := Aside0.mk (hbox); have GW113 := gw9 HB hg; have GE113 := gw9 HB hg; replace HB := bs9 HB hb; clear hb hbox hg))
  replace BK113 := Aside0.mk (blk_drew BK113.out)
  replace HB := Aside0.mk (below_drew1 HB.out)
  refine start_ (n := 17) (S := fun w' => w'.cell? ⟨gb113, 0, none⟩ = some (.int .i64 a0_0) ∧ w'.cell? ⟨gb113, 1, none⟩ = some (.slice A0_1 l0_1.length c0_1) ∧ w'.cell? ⟨gb113, 2, none⟩ = some (.slice A0_2 l0_2.length c0_2) ∧ w'.cell? ⟨gb113, 3, none⟩ = some (.int .i64 a0_3) ∧ w'.cell? ⟨gb113, 4, none⟩ = some (.slice A0_4 l0_4.length c0_4)) (ds := []) (bm9 17 0) (by kernel_rfl) rfl rfl (hc5 BK113) (fun hHeld => ?_); refine with_tabW tangramlaw24_covers.tab1 tangramlaw24_covers.bits1 (fun HT_ HW_ => ?_)
  generalize w7.drew = w8 at BK113 HB hHeld ⊢
  refine pu9 0 9 (bm9 17 1) ?_
  refine pu9 3 12 (bm9 17 9) ?_
  refine pu9 6 15 (bm9 17 73) ?_
  refine pu9 9 18 (bm9 17 585) ?_
  refine tk59 1 10 (bm9 17 587) hHeld ?_
  refine tk59 4 13 (bm9 17 603) hHeld ?_
  refine tk59 7 16 (bm9 17 731) hHeld ?_
  refine join_ (σ := Value × Value × Value) 7 (bm9 17 1023) (fun s_ => [(11, .agg #[.int .i64 t114, s_.1]), (14, s_.2.1), (17, s_.2.2)]) (fun s_ w' => (w'.cell? ⟨gb113, 0, none⟩ = some (.int .i64 a0_0) ∧ w'.cell? ⟨gb113, 1, none⟩ = some (.slice A0_1 l0_1.length c0_1) ∧ w'.cell? ⟨gb113, 2, none⟩ = some (.slice A0_2 l0_2.length c0_2) ∧ w'.cell? ⟨gb113, 3, none⟩ = some (.int .i64 a0_3) ∧ w'.cell? ⟨gb113, 4, none⟩ = some (.slice A0_4 l0_4.length c0_4)) ∧ (Kd.R k41 41 w' w.heap.size (fun _ => True) s_.1 t115) ∧ (Kd.S (Kd.slice 3 (Kd.int .i64)) 27 w' w.heap.size (fun k_ => some k_ ≠ (s_.2.2 : Value).ownBlock) s_.2.1 t118) ∧ (Kd.R (Kd.int .i64) 3 w' w.heap.size (fun _ => True) s_.2.2 y121) ∧ (w'.heap[gb113]? = some (.cells #[.int .i64 a0_0, .slice A0_1 l0_1.length c0_1, .slice A0_2 l0_2.length c0_2, .int .i64 a0_3, .slice A0_4 l0_4.length c0_4] 29 (0, 0))) ∧ (Below w.heap.size w w')) ?_ ?_
  rotate_left
  ·intro hCont
   refine two_ (i := 2) (j := 8) (Ni := some 11) (Nj := some 17) (bm9 17 735) (bm9 17 987) rfl rfl rfl rfl (two_of HT_.out (by kernel_rfl)) (by decide) (by decide) (fun K hK => ?_) (fun K hK => ?_)
   ·skip
    refine gs9 Try.func14 #[.agg #[.int .i64 a0_0, .slice A0_1 l0_1.length c0_1]] ?_
    with_reducible refine (tangramref04_Copy.calls a0_0 _ _ l0_1 t114 t115 _ ?side1 ?side2 A3.out).mono ?_
    (case side1 => exact cb9 HR0_1 HB)
    (case side2 => exact HC0_1.out)
    rintro e w9 ⟨v116, rfl, ho0, hb⟩
    refine ⟨_, rfl, ?_⟩
    have HO117 := Aside0.mk (Kd.R_lower ho0 (sz9 HB))
    replace BK113 := bb9 BK113 hb
    replace HB := bs9 HB hb
    (try clear hb)
    (try clear ho0)
    refine hK.out _ _ (hc5 BK113) (fun hHeld => ?_)
    clear hK K
    refine nm8 11 ?_
    refine two_ (i := 5) (j := 8) (Ni := some 14) (Nj := some 17) (bm9 17 767) (bm9 17 991) rfl rfl rfl rfl (two_of HT_.out (by kernel_rfl)) (by decide) (by decide) (fun K hK => ?_) (fun K hK => ?_)
    ·skip
     refine gs9 Try.func15 #[.slice A0_2 l0_2.length c0_2] ?_
     with_reducible refine (tangramref13_Copy.calls k _ _ l0_2 t118 _ ?side1 ?side2 A4.out).mono ?_
     (case side1 => exact cb9 HR0_2 HB)
     (case side2 => exact HC0_2.out)
     rintro e w10 ⟨v119, rfl, ho0, hb⟩
     refine ⟨_, rfl, ?_⟩
     have HO120 := Aside0.mk (Kd.S_lower ho0 (sz9 HB))
     replace HO117 := rb9 HO117 hb
     replace BK113 := bb9 BK113 hb
     replace HB := bs9 HB hb
     (try clear hb)
     (try clear ho0)
     refine hK.out _ _ (hc5 BK113) (fun hHeld => ?_)
     clear hK K
     refine nm8 14 ?_
     refine one_ (i := 8) (N := some 17) (bm9 17 1023) rfl rfl (one_of HT_.out (by kernel_rfl)) (by decide) (fun K hK => ?_)
     refine Kd.R_lit_step (Kd.int .i64) _ 3 ?hg (N := 17) ?hd (xs := ([] : List Int)) (inner := []) (ok := fun _ => True) (okp := fun _ => True) ?hr ?hp (fun _ hk => hk) trivial (Below.refl _ _) (Nat.le_refl _) (by simp) ?_; (case hd => rfl); (case hg => rfl); (case hr => first | (go_simp; done) | (go_simp; rfl)); (case hp => exact (Reps.none _ _))
     intro v122 w11 ho12 hb hg_ hnew_
     clear hg_ hnew_
     (first | rw [← Ny121.out] at ho12 | (simp only [Int.reduceToNat] at ho12; rw [← Ny121.out] at ho12))
     have HO123 := Aside0.mk (Kd.R_lower ho12 (sz9 HB))
     replace HO117 := rb9 HO117 hb
     replace HO120 := Aside0.mk (Kd.S_elder' (by (with_reducible repeat (first | apply Kd.S_alloc | apply Kd.S_drewN | apply Kd.S_drew)); exact HO120.out) (Kd.R_base ho12) hb)
     replace BK113 := bb9 BK113 hb
     replace HB := bs9 HB hb
     clear hb ho12
     refine hK.out _ _ (hc5 BK113) (fun hHeld => ?_)
     clear hK K
     refine nm8 17 ?_
     exact nm7 (hCont (v116, v119, v122) _ ⟨hHeld, (ro9 HO117), (by (with_reducible repeat (first | apply Kd.S_alloc | apply Kd.S_drewN | apply Kd.S_drew)); exact Kd.S_mono HO120.out (fun _ hk => hk.2)), (ro9 HO123), (by (with_reducible repeat (first | refine blk_drewN ?_ _ | refine blk_drew ?_ | refine blk_alloc ?_ _)); exact BK113.out), (bl9 HB)⟩)
    ·skip
     refine Kd.R_lit_step (Kd.int .i64) _ 3 ?hg (N := 17) ?hd (xs := ([] : List Int)) (inner := []) (ok := fun _ => True) (okp := fun _ => True) ?hr ?hp (fun _ hk => hk) trivial (Below.refl _ _) (Nat.le_refl _) (by simp) ?_; (case hd => rfl); (case hg => rfl); (case hr => first | (go_simp; done) | (go_simp; rfl)); (case hp => exact (Reps.none _ _))
     intro v122 w10 ho11 hb hg_ hnew_
     clear hg_ hnew_
     (first | rw [← Ny121.out] at ho11 | (simp only [Int.reduceToNat] at ho11; rw [← Ny121.out] at ho11))
     have HO123 := Aside0.mk (Kd.R_lower ho11 (sz9 HB))
     replace HO117 := rb9 HO117 hb
     replace BK113 := bb9 BK113 hb
     replace HB := bs9 HB hb
     clear hb ho11
     refine hK.out _ _ (hc5 BK113) (fun hHeld => ?_)
     clear hK K
     refine nm8 17 ?_
     refine one_ (i := 5) (N := some 14) (bm9 17 1023) rfl rfl (one_of HT_.out (by kernel_rfl)) (by decide) (fun K hK => ?_)
     refine gs9 Try.func15 #[.slice A0_2 l0_2.length c0_2] ?_
     with_reducible refine (tangramref13_Copy.calls k _ _ l0_2 t118 _ ?side1 ?side2 A4.out).mono ?_
     (case side1 => exact cb9 HR0_2 HB)
     (case side2 => exact HC0_2.out)
     rintro e w12 ⟨v119, rfl, ho0, hb⟩
     refine ⟨_, rfl, ?_⟩
     have HO120 := Aside0.mk (Kd.S_lower (Kd.S_new' ho0 (Kd.R_lt (ro9 HO123))) (sz9 HB))
     replace HO117 := rb9 HO117 hb
     replace HO123 := rb9 HO123 hb
     replace BK113 := bb9 BK113 hb
     replace HB := bs9 HB hb
     (try clear hb)
     (try clear ho0)
     refine hK.out _ _ (hc5 BK113) (fun hHeld => ?_)
     clear hK K
     refine nm8 14 ?_
     exact nm7 (hCont (v116, v119, v122) _ ⟨hHeld, (ro9 HO117), (by (with_reducible repeat (first | apply Kd.S_alloc | apply Kd.S_drewN | apply Kd.S_drew)); exact Kd.S_mono HO120.out (fun _ hk => hk.2)), (ro9 HO123), (by (with_reducible repeat (first | refine blk_drewN ?_ _ | refine blk_drew ?_ | refine blk_alloc ?_ _)); exact BK113.out), (bl9 HB)⟩)
   ·skip
    refine Kd.R_lit_step (Kd.int .i64) _ 3 ?hg (N := 17) ?hd (xs := ([] : List Int)) (inner := []) (ok := fun _ => True) (okp := fun _ => True) ?hr ?hp (fun _ hk => hk) trivial (Below.refl _ _) (Nat.le_refl _) (by simp) ?_; (case hd => rfl); (case hg => rfl); (case hr => first | (go_simp; done) | (go_simp; rfl)); (case hp => exact (Reps.none _ _))
    intro v122 w9 ho10 hb hg_ hnew_
    clear hg_ hnew_
    (first | rw [← Ny121.out] at ho10 | (simp only [Int.reduceToNat] at ho10; rw [← Ny121.out] at ho10))
    have HO123 := Aside0.mk (Kd.R_lower ho10 (sz9 HB))
    replace BK113 := bb9 BK113 hb
    replace HB := bs9 HB hb
    clear hb ho10
    refine hK.out _ _ (hc5 BK113) (fun hHeld => ?_)
    clear hK K
    refine nm8 17 ?_
    refine one_ (i := 2) (N := some 11) (bm9 17 991) rfl rfl (one_of HT_.out (by kernel_rfl)) (by decide) (fun K hK => ?_)
    refine gs9 Try.func14 #[.agg #[.int .i64 a0_0, .slice A0_1 l0_1.length c0_1]] ?_
    with_reducible refine (tangramref04_Copy.calls a0_0 _ _ l0_1 t114 t115 _ ?side1 ?side2 A3.out).mono ?_
    (case side1 => exact cb9 HR0_1 HB)
    (case side2 => exact HC0_1.out)
    rintro e w11 ⟨v116, rfl, ho0, hb⟩
    refine ⟨_, rfl, ?_⟩
    have HO117 := Aside0.mk (Kd.R_lower ho0 (sz9 HB))
    replace HO123 := rb9 HO123 hb
    replace BK113 := bb9 BK113 hb
    replace HB := bs9 HB hb
    (try clear hb)
    (try clear ho0)
    refine hK.out _ _ (hc5 BK113) (fun hHeld => ?_)
    clear hK K
    refine nm8 11 ?_
    refine one_ (i := 5) (N := some 14) (bm9 17 1023) rfl rfl (one_of HT_.out (by kernel_rfl)) (by decide) (fun K hK => ?_)
    refine gs9 Try.func15 #[.slice A0_2 l0_2.length c0_2] ?_
    with_reducible refine (tangramref13_Copy.calls k _ _ l0_2 t118 _ ?side1 ?side2 A4.out).mono ?_
    (case side1 => exact cb9 HR0_2 HB)
    (case side2 => exact HC0_2.out)
    rintro e w12 ⟨v119, rfl, ho0, hb⟩
    refine ⟨_, rfl, ?_⟩
    have HO120 := Aside0.mk (Kd.S_lower (Kd.S_new' ho0 (Kd.R_lt (ro9 HO123))) (sz9 HB))
    replace HO123 := rb9 HO123 hb
    replace HO117 := rb9 HO117 hb
    replace BK113 := bb9 BK113 hb
    replace HB := bs9 HB hb
    (try clear hb)
    (try clear ho0)
    refine hK.out _ _ (hc5 BK113) (fun hHeld => ?_)
    clear hK K
    refine nm8 14 ?_
    exact nm7 (hCont (v116, v119, v122) _ ⟨hHeld, (ro9 HO117), (by (with_reducible repeat (first | apply Kd.S_alloc | apply Kd.S_drewN | apply Kd.S_drew)); exact Kd.S_mono HO120.out (fun _ hk => hk.2)), (ro9 HO123), (by (with_reducible repeat (first | refine blk_drewN ?_ _ | refine blk_drew ?_ | refine blk_alloc ?_ _)); exact BK113.out), (bl9 HB)⟩)
  rintro ⟨v116, v119, v122⟩ w13 ⟨hS_, h0_, h1_, h2_, h3_, h4_⟩
  have HO117 : Aside0 (Kd.R k41 41 w13 w.heap.size (fun _ => True) v116 t115) := ⟨h0_⟩
  have HO120 : Aside0 (Kd.S (Kd.slice 3 (Kd.int .i64)) 27 w13 w.heap.size (fun k_ => some k_ ≠ (v122 : Value).ownBlock) v119 t118) := ⟨h1_⟩
  have HO123 : Aside0 (Kd.R (Kd.int .i64) 3 w13 w.heap.size (fun _ => True) v122 y121) := ⟨h2_⟩
  replace BK113 : Aside0 (w13.heap[gb113]? = some (.cells #[.int .i64 a0_0, .slice A0_1 l0_1.length c0_1, .slice A0_2 l0_2.length c0_2, .int .i64 a0_3, .slice A0_4 l0_4.length c0_4] 29 (0, 0))) := ⟨h3_⟩
  replace HB : Aside0 (Below w.heap.size w w13) := ⟨h4_⟩
  clear h0_ h3_ h2_ h1_ h4_
  have hHeld : w13.cell? ⟨gb113, 0, none⟩ = some (.int .i64 a0_0) ∧ w13.cell? ⟨gb113, 1, none⟩ = some (.slice A0_1 l0_1.length c0_1) ∧ w13.cell? ⟨gb113, 2, none⟩ = some (.slice A0_2 l0_2.length c0_2) ∧ w13.cell? ⟨gb113, 3, none⟩ = some (.int .i64 a0_3) ∧ w13.cell? ⟨gb113, 4, none⟩ = some (.slice A0_4 l0_4.length c0_4) := hS_
  refine norm_ (a' := ?_) ?_ ?_
  rotate_left
  ·simp only [putAll, Act.put, List.setIfInBounds_toArray, List.set_cons_zero, List.set_cons_succ]
   rfl
  refine one_ (i := 10) (N := some 19) (bm9 17 2047) rfl rfl (one_of HT_.out (by kernel_rfl)) (by decide) (fun K hK => ?_)
  refine Kd.R_append_rows_step (Kd.int .i64) (w0 := w) w.heap.size (by rfl) (.tmp 17) (.tmp 18) 27 3 (.int .i64 0) 8 rfl Try.underlying27 info3 rfl (by decide) (by omega) v122 y121 l1 _ _ _ (fun _ => True) (fun _ => False) rfl rfl ?aO ?aR (fun _ _ h => h) (fun _ h => h.elim) ?aF ?aB ?aS ?aL ?_
  (case aR => repeat (first | exact (Kd.C_below HR1.out HB.out) | (with_reducible refine Kd.C_alloc ?_ _) | (with_reducible refine Kd.C_drewN ?_ _) | (with_reducible refine Kd.C_drew ?_)))
  (case aB => exact (bl9 HB))
  (case aF => exact (fun _ _ => trivial))
  (case aO => exact (ro9 HO123))
  (case aS => exact (sz9 HB))
  (case aL => have := LMc5.out; omega)
  intro v125 w14 ho hb hg hat
  rw [← Ny124.out] at ho
  have HO126 := Aside0.mk (ho)
  replace BK113 := Aside0.mk (blk_grown (g := gb113) (o := .cells #[.int .i64 a0_0, .slice A0_1 l0_1.length c0_1, .slice A0_2 l0_2.length c0_2, .int .i64 a0_3, .slice A0_4 l0_4.length c0_4] 29 (0, 0)) (by (with_reducible repeat (first | refine blk_drewN ?_ _ | refine blk_drew ?_ | refine blk_alloc ?_ _)); exact BK113.out) hg (Kd.R_ne HO123.out BK113.out (by decide)))
  replace HO117 := Aside0.mk (Kd.R_over' (ro9 HO117) (Kd.R_typed (ro9 HO123)) (by decide) hg)
  replace HO120 := Aside0.mk (Kd.S_after (ok := (fun _ => True)) (by (with_reducible repeat (first | apply Kd.S_alloc | apply Kd.S_drewN | apply Kd.S_drew)); exact Kd.S_mono HO120.out (fun _ hk => ⟨trivial, hk⟩)) hg hat)
  replace HB := Aside0.mk (hb)
  clear HO123
  clear ho hb hg hat
  obtain ⟨Ao15, co15, eo15⟩ := Kd.R_slice HO117.out
  (first | subst eo15 | (injection eo15 with f1_ f2_ f3_; have f4_ := f1_.symm; have f5_ := f3_.symm; clear f1_ f2_ f3_; subst f4_; subst f5_))
  obtain ⟨Ao16, co16, eo16⟩ := Kd.S_slice HO120.out
  (first | subst eo16 | (injection eo16 with f1_ f2_ f3_; have f4_ := f1_.symm; have f5_ := f3_.symm; clear f1_ f2_ f3_; subst f4_; subst f5_))
  obtain ⟨Ao17, co17, eo17⟩ := Kd.R_slice HO126.out
  (first | subst eo17 | (injection eo17 with f1_ f2_ f3_; have f4_ := f1_.symm; have f5_ := f3_.symm; clear f1_ f2_ f3_; subst f4_; subst f5_))
  refine hK.out _ _ (hc5 BK113) (fun hHeld => ?_)
  clear hK K
  refine nm8 19 ?_
  refine one_ (i := 11) (N := some 20) (bm9 17 4095) rfl rfl (one_of HT_.out (by kernel_rfl)) (by decide) (fun K hK => ?_)
  refine gs9 Try.func18 #[.agg #[.int .i64 t114, .slice Ao15 t115.length co15], .slice Ao16 t118.length co16, .int .i64 a0_3, .slice Ao17 y124.length co17] ?_
  with_reducible refine (order_Covers.calls k t114 _ _ t115 _ _ t118 a0_3 _ _ y124 t127 t130 _ ?side1 ?side2 ?side3 ?side4 ?side5 ?side6 A6.out).mono ?_
  (case side1 => repeat (first | exact (Kd.R_reads' HO117.out).2.2 | (with_reducible refine Kd.C_alloc ?_ _) | (with_reducible refine Kd.C_drewN ?_ _) | (with_reducible refine Kd.C_drew ?_)))
  (case side2 => exact (Kd.R_reads' HO117.out).2.1)
  (case side3 => repeat (first | exact (Kd.S_reads' HO120.out).2.2 | (with_reducible refine Kd.C_alloc ?_ _) | (with_reducible refine Kd.C_drewN ?_ _) | (with_reducible refine Kd.C_drew ?_)))
  (case side4 => exact (Kd.S_reads' HO120.out).2.1)
  (case side5 => repeat (first | exact (Kd.R_reads' HO126.out).2.2 | (with_reducible refine Kd.C_alloc ?_ _) | (with_reducible refine Kd.C_drewN ?_ _) | (with_reducible refine Kd.C_drew ?_)))
  (case side6 => exact (Kd.R_reads' HO126.out).2.1)
  rintro e w18 ⟨v128, rfl, ho0, hb⟩
  refine ⟨_, rfl, ?_⟩
  have HO129 := Aside0.mk (Kd.S_lower (Kd.S_new' (Kd.S_new' ho0 (Kd.S_lt (by (with_reducible repeat (first | apply Kd.S_alloc | apply Kd.S_drewN | apply Kd.S_drew)); exact HO120.out))) (Kd.R_lt (ro9 HO126))) (sz9 HB))
  replace HO117 := rb9 HO117 hb
  replace HO120 := Aside0.mk (Kd.S_elder' (by (with_reducible repeat (first | apply Kd.S_alloc | apply Kd.S_drewN | apply Kd.S_drew)); exact HO120.out) (Kd.S_base ho0) hb)
  replace HO126 := rb9 HO126 hb
  replace BK113 := bb9 BK113 hb
  replace HB := bs9 HB hb
  (try clear hb)
  (try clear ho0)
  refine hK.out _ _ (hc5 BK113) (fun hHeld => ?_)
  clear hK K
  refine nm8 20 ?_
  refine pu9 12 8 (bm9 17 8191) ?_
  refine pu9 13 21 (bm9 17 16383) ?_
  refine pu9 14 22 (bm9 17 32767) ?_
  refine pu9 15 6 (bm9 17 65535) ?_
  refine pu9 16 7 (bm9 17 131071) ?_
  refine done_ (done_of HT_.out (by kernel_rfl)) ?_
  try go_wp2
  go_ret2
  exact ⟨_, er9, by (with_reducible repeat (first | apply Kd.S_alloc | apply Kd.S_drewN | apply Kd.S_drew)); exact Kd.S_mono HO129.out (fun _ hk => trivial), bl9 HB⟩
 ·rw [if_neg c5] at H
  exact absurd H (by simp)
end GAll.Law
namespace GAll.Law
def order_Of.f (k : Nat) (a0_0 : Int) (l0_1 : List S41) (l1 : List (List Int)) (a2 : Int) : Option (List Int × Int) :=
 if l0_1.length ≤ 8796093022208 then (Peel.lookF k a0_0 l0_1 l1 a2).bind fun t => if t.1 ≠ 0 then some ([], t.1) else if Peel.goodT a0_0 t.2.1 t.2.2.1 t.2.2.2.1 t.2.2.2.2 = true then (Peel.orderF k a0_0.toNat t.2.1 t.2.2.1.toNat t.2.2.2.1.toNat t.2.2.2.2.toNat).bind fun o => some (o, 0) else none else none
theorem order_Of.mono : ∀ a0 a1 a2 a3 k, LeO (order_Of.f k a0 a1 a2 a3) (order_Of.f (k + 1) a0 a1 a2 a3) := by
 intro a0 a1 a2 a3 k
 unfold order_Of.f
 exact LeO.ite (LeO.bind (Peel.look_mono _ _ _ _ _) (fun _ => LeO.ite (LeO.refl _) (LeO.ite (LeO.bind (Peel.orderF_mono _ _ _ _ _ _) (fun _ => LeO.refl _)) (LeO.refl _)))) (LeO.refl _)
theorem order_Of.calls (k : Nat) (a0_0 : Int) (A0_1 : Option Addr) (c0_1 : Nat) (l0_1 : List (S41)) (A1 : Option Addr) (c1 : Nat) (l1 : List (List Int)) (a2 : Int) (r1 : List Int) (r2 : Int) (w : World) (hr0_1 : Kd.C k41 w A0_1 l0_1.length l0_1) (hc0_1 : l0_1.length ≤ c0_1) (hr1 : Kd.C (Kd.slice 3 (Kd.int .i64)) w A1 l1.length l1) (hc1 : l1.length ≤ c1) (h : order_Of.f k a0_0 l0_1 l1 a2 = some (r1, r2)) :
  Calls Try.prog 16 #[.agg #[.int .i64 a0_0, .slice A0_1 l0_1.length c0_1], .slice A1 l1.length c1, .int .i64 a2] w fun e w' => ∃ v0_ : Value, e = .returned (.tuple #[v0_, .int .i64 r2]) ∧ Kd.R (Kd.int .i64) 3 w' w.heap.size (fun _ => True) v0_ r1 ∧ Below w.heap.size w w' := by
 unfold order_Of.f at h
 split at h
 ·rename_i hll
  obtain ⟨⟨e, ar, a, b, d⟩, ht, h⟩ := Option.bind_eq_some_iff.mp h
  simp only at h
  split at h
  ·rename_i he
   obtain ⟨rfl, rfl⟩ := Prod.mk.inj (Option.some.inj h)
   exact (Peel.of_err k a0_0 A0_1 c0_1 l0_1 A1 c1 l1 a2 w hr0_1 hc0_1 hr1 hc1 hll e ar a b d ht he).mono fun e' w' ⟨h1, h2⟩ => ⟨_, h1, Kd.R_nil _ _ _ _ _, h2⟩
  ·rename_i he
   split at h
   ·rename_i hg
    obtain ⟨o, ho, h⟩ := Option.bind_eq_some_iff.mp h
    obtain ⟨rfl, rfl⟩ := Prod.mk.inj (Option.some.inj h)
    obtain ⟨N, rfl, h3, hal, ha, hb, hd, hok⟩ := Peel.goodT_iff hg
    obtain rfl : e = 0 := Classical.not_not.1 he
    obtain ⟨a', rfl⟩ := Int.eq_ofNat_of_zero_le ha.1
    obtain ⟨b', rfl⟩ := Int.eq_ofNat_of_zero_le hb.1
    obtain ⟨d', rfl⟩ := Int.eq_ofNat_of_zero_le hd.1
    rw [Int.toNat_natCast, Int.toNat_natCast, Int.toNat_natCast, Int.toNat_natCast] at ho
    exact Peel.of_calls k N A0_1 c0_1 l0_1 A1 c1 l1 a2 w hr0_1 hc0_1 hr1 hc1 hll ar a' b' d' ht hal hok (by omega) (by omega) (by omega) h3 k o ho
   ·cases h
 ·cases h
end GAll.Law
namespace GAll.Law
def tangramlaw24_of.f (k : Nat) (a0_0 : Int) (l0_1 : List (S41)) (l0_2 : List (List Int)) (a0_3 : Int) (l0_4 : List Int) : Option (List Int × Int) := (tangramref04_Copy.f a0_0 l0_1).bind fun bt102 => ((tangramref13_Copy.f k l0_2).bind fun t106 => ((order_Of.f k bt102.1 bt102.2 t106 a0_3).bind fun bt109 => (some (bt109.1, bt109.2))))
theorem tangramlaw24_of.mono : ∀ a0 a1 a2 a3 a4 k, LeO (tangramlaw24_of.f k a0 a1 a2 a3 a4) (tangramlaw24_of.f (k + 1) a0 a1 a2 a3 a4) := by
 intro a0 a1 a2 a3 a4 k
 unfold tangramlaw24_of.f
 repeat' first
   | (with_reducible exact order_Of.mono _ _ _ _ _)
   | (with_reducible exact tangramref13_Copy.mono _ _)
   | (with_reducible exact LeO.refl _)
   | (with_reducible exact LeO.none _)
   | (with_reducible refine LeO.ite ?_ ?_)
   | (with_reducible refine LeO.bind ?_ (fun _ => ?_))
def tangramlaw24_of.T1 : Bool × List (List Nat × List Nat) := (true, [([], []), ([0], [0]), ([1], [1]), ([], []), ([3], [3]), ([4, 2], [4]), ([], []), ([6], [6]), ([2, 5, 7, 5], [2, 5, 7]), ([8], [8]), ([9], [9]), ([9], [9]), ([10, 8, 0, 1, 2, 3, 4, 5, 6, 7, 8, 9, 10], [10]), ([11, 12, 0, 1, 2, 3, 4, 5, 6, 7, 8, 9, 10, 11, 12], [11])])
def tangramlaw24_of.B1 : List Nat := [0, 1, 3, 0, 8, 31, 0, 64, 255, 511, 1023, 1023, 2047, 8191]
theorem tangramlaw24_of.tab1 : rtab .any (opsOf Try.f11 1) = tangramlaw24_of.T1 := by kernel_rfl
theorem tangramlaw24_of.bits1 : waitsOk tangramlaw24_of.T1.2 tangramlaw24_of.B1 = true := by kernel_rfl
theorem tangramlaw24_of.calls (k : Nat) (a0_0 : Int) (A0_1 : Option Addr) (c0_1 : Nat) (l0_1 : List (S41)) (A0_2 : Option Addr) (c0_2 : Nat) (l0_2 : List (List Int)) (a0_3 : Int) (A0_4 : Option Addr) (c0_4 : Nat) (l0_4 : List Int) (r1 : List Int) (r2 : Int) (w : World) (hr0_1 : Kd.C k41 w A0_1 l0_1.length l0_1) (hc0_1 : l0_1.length ≤ c0_1) (hr0_2 : Kd.C (Kd.slice 3 (Kd.int .i64)) w A0_2 l0_2.length l0_2) (hc0_2 : l0_2.length ≤ c0_2) (hr0_4 : Kd.C (Kd.int .i64) w A0_4 l0_4.length l0_4) (hc0_4 : l0_4.length ≤ c0_4) (h : tangramlaw24_of.f k a0_0 l0_1 l0_2 a0_3 l0_4 = some (r1, r2)) :
  Calls Try.prog 11 #[.agg #[.int .i64 a0_0, .slice A0_1 l0_1.length c0_1, .slice A0_2 l0_2.length c0_2, .int .i64 a0_3, .slice A0_4 l0_4.length c0_4]] w fun e w' => ∃ v0_ : Value, e = .returned (.tuple #[v0_, .int .i64 r2]) ∧ Kd.R (Kd.int .i64) 3 w' w.heap.size (fun _ => True) v0_ r1 ∧ Below w.heap.size w w' := by
 have hu29 := Try.underlying29
 have hu24 := Try.underlying24
 have HR0_1 := Aside0.mk hr0_1
 have HC0_1 := Aside0.mk hc0_1
 clear hr0_1 hc0_1
 have HR0_2 := Aside0.mk hr0_2
 have HC0_2 := Aside0.mk hc0_2
 clear hr0_2 hc0_2
 have HR0_4 := Aside0.mk hr0_4
 have HC0_4 := Aside0.mk hc0_4
 clear hr0_4 hc0_4
 have HB := Aside0.mk (Below.refl w.heap.size w)
 have H : ((tangramref04_Copy.f a0_0 l0_1).bind fun bt102 => ((tangramref13_Copy.f k l0_2).bind fun t106 => ((order_Of.f k bt102.1 bt102.2 t106 a0_3).bind fun bt109 => (some (bt109.1, bt109.2))))) = some (r1, r2) := h
 clear h
 replace H := Option.bind_eq_some_iff.mp H
 obtain ⟨⟨t102, t103⟩, A20, H⟩ := H
 have A2 := Aside0.mk A20
 clear A20
 replace H := Option.bind_eq_some_iff.mp H
 obtain ⟨t106, A30, H⟩ := H
 have A3 := Aside0.mk A30
 clear A30
 replace H := Option.bind_eq_some_iff.mp H
 obtain ⟨⟨t109, t112⟩, A40, H⟩ := H
 have A4 := Aside0.mk A40
 clear A40
 simp only [Option.some.injEq, Prod.mk.injEq] at H
 obtain ⟨rfl, rfl⟩ := H
 go_enter Try.func11, Try.ntmps11
 try go_wp2_with (first | ((with_reducible refine gate_dst (N := 1) rfl ?_); refine bx9 (N := 1) (cs := #[.int .i64 a0_0, .slice A0_1 l0_1.length c0_1, .slice A0_2 l0_2.length c0_2, .int .i64 a0_3, .slice A0_4 l0_4.length c0_4]) (t := 29) ?_; intro gb101 hg w5 hbox hb; have BK101 := Aside0.mk (hbox); have GW101 := gw9 HB hg; have GE101 := gw9 HB hg; replace HB := bs9 HB hb; clear hb hbox hg))
 replace BK101 := Aside0.mk (blk_drew BK101.out)
 replace HB := Aside0.mk (below_drew1 HB.out)
 refine start_ (n := 14) (S := fun w' => w'.cell? ⟨gb101, 0, none⟩ = some (.int .i64 a0_0) ∧ w'.cell? ⟨gb101, 1, none⟩ = some (.slice A0_1 l0_1.length c0_1) ∧ w'.cell? ⟨gb101, 2, none⟩ = some (.slice A0_2 l0_2.length c0_2) ∧ w'.cell? ⟨gb101, 3, none⟩ = some (.int .i64 a0_3) ∧ w'.cell? ⟨gb101, 4, none⟩ = some (.slice A0_4 l0_4.length c0_4)) (ds := []) (bm9 14 0) (by kernel_rfl) rfl rfl (hc5 BK101) (fun hHeld => ?_); refine with_tabW tangramlaw24_of.tab1 tangramlaw24_of.bits1 (fun HT_ HW_ => ?_)
 generalize w5.drew = w6 at BK101 HB hHeld ⊢
 refine pu9 0 7 (bm9 14 1) ?_
 refine pu9 3 10 (bm9 14 9) ?_
 refine pu9 6 13 (bm9 14 73) ?_
 refine tk59 1 8 (bm9 14 75) hHeld ?_
 refine tk59 4 11 (bm9 14 91) hHeld ?_
 refine tk59 7 14 (bm9 14 219) hHeld ?_
 refine one_ (i := 2) (N := some 9) (bm9 14 223) rfl rfl (one_of HT_.out (by kernel_rfl)) (by decide) (fun K hK => ?_)
 refine gs9 Try.func14 #[.agg #[.int .i64 a0_0, .slice A0_1 l0_1.length c0_1]] ?_
 with_reducible refine (tangramref04_Copy.calls a0_0 _ _ l0_1 t102 t103 _ ?side1 ?side2 A2.out).mono ?_
 (case side1 => exact cb9 HR0_1 HB)
 (case side2 => exact HC0_1.out)
 rintro e w7 ⟨v104, rfl, ho0, hb⟩
 refine ⟨_, rfl, ?_⟩
 have HO105 := Aside0.mk (Kd.R_lower ho0 (sz9 HB))
 replace BK101 := bb9 BK101 hb
 replace HB := bs9 HB hb
 (try clear hb)
 (try clear ho0)
 refine hK.out _ _ (hc5 BK101) (fun hHeld => ?_)
 clear hK K
 refine nm9 ?_
 refine one_ (i := 5) (N := some 12) (bm9 14 255) rfl rfl (one_of HT_.out (by kernel_rfl)) (by decide) (fun K hK => ?_)
 refine gs9 Try.func15 #[.slice A0_2 l0_2.length c0_2] ?_
 with_reducible refine (tangramref13_Copy.calls k _ _ l0_2 t106 _ ?side1 ?side2 A3.out).mono ?_
 (case side1 => exact cb9 HR0_2 HB)
 (case side2 => exact HC0_2.out)
 rintro e w8 ⟨v107, rfl, ho0, hb⟩
 refine ⟨_, rfl, ?_⟩
 have HO108 := Aside0.mk (Kd.S_lower ho0 (sz9 HB))
 replace HO105 := rb9 HO105 hb
 replace BK101 := bb9 BK101 hb
 replace HB := bs9 HB hb
 (try clear hb)
 (try clear ho0)
 obtain ⟨Ao9, co9, eo9⟩ := Kd.R_slice HO105.out
 (first | subst eo9 | (injection eo9 with f1_ f2_ f3_; have f4_ := f1_.symm; have f5_ := f3_.symm; clear f1_ f2_ f3_; subst f4_; subst f5_))
 obtain ⟨Ao10, co10, eo10⟩ := Kd.S_slice HO108.out
 (first | subst eo10 | (injection eo10 with f1_ f2_ f3_; have f4_ := f1_.symm; have f5_ := f3_.symm; clear f1_ f2_ f3_; subst f4_; subst f5_))
 refine hK.out _ _ (hc5 BK101) (fun hHeld => ?_)
 clear hK K
 refine nm9 ?_
 refine one_ (i := 8) (N := some 15) (bm9 14 511) rfl rfl (one_of HT_.out (by kernel_rfl)) (by decide) (fun K hK => ?_)
 refine gs9 Try.func16 #[.agg #[.int .i64 t102, .slice Ao9 t103.length co9], .slice Ao10 t106.length co10, .int .i64 a0_3] ?_
 with_reducible refine (order_Of.calls k t102 _ _ t103 _ _ t106 a0_3 t109 t112 _ ?side1 ?side2 ?side3 ?side4 A4.out).mono ?_
 (case side1 => repeat (first | exact (Kd.R_reads' HO105.out).2.2 | (with_reducible refine Kd.C_alloc ?_ _) | (with_reducible refine Kd.C_drewN ?_ _) | (with_reducible refine Kd.C_drew ?_)))
 (case side2 => exact (Kd.R_reads' HO105.out).2.1)
 (case side3 => repeat (first | exact (Kd.S_reads' HO108.out).2.2 | (with_reducible refine Kd.C_alloc ?_ _) | (with_reducible refine Kd.C_drewN ?_ _) | (with_reducible refine Kd.C_drew ?_)))
 (case side4 => exact (Kd.S_reads' HO108.out).2.1)
 rintro e w11 ⟨v110, rfl, ho0, hb⟩
 refine ⟨_, rfl, ?_⟩
 have HO111 := Aside0.mk (Kd.R_lower ho0 (sz9 HB))
 replace HO105 := rb9 HO105 hb
 replace HO108 := Aside0.mk (Kd.S_elder' (by (with_reducible repeat (first | apply Kd.S_alloc | apply Kd.S_drewN | apply Kd.S_drew)); exact HO108.out) (Kd.R_base ho0) hb)
 replace BK101 := bb9 BK101 hb
 replace HB := bs9 HB hb
 (try clear hb)
 (try clear ho0)
 refine hK.out _ _ (hc5 BK101) (fun hHeld => ?_)
 clear hK K
 refine nm9 ?_
 refine pu9 9 6 (bm9 14 1023) ?_
 refine pu9 10 16 (bm9 14 2047) ?_
 refine pu9 11 17 (bm9 14 4095) ?_
 refine pu9 12 4 (bm9 14 8191) ?_
 refine pu9 13 5 (bm9 14 16383) ?_
 refine done_ (done_of HT_.out (by kernel_rfl)) ?_
 try go_wp2
 go_ret2
 exact ⟨_, er9, by (with_reducible repeat (first | apply Kd.R_alloc | apply Kd.R_drewN | apply Kd.R_drew)); exact HO111.out, bl9 HB⟩
end GAll.Law
namespace GAll.Law
def tangramlaw24_awake.r : List (List Int) := [[0, 2, 4], [1, 8, 6], [3, 7, 10], [5, 11, 9]]
def tangramlaw24_awake.es : List S41 := [⟨0, 1⟩, ⟨0, 2⟩, ⟨0, 3⟩, ⟨1, 2⟩, ⟨1, 3⟩, ⟨2, 3⟩]
def tangramlaw24_awake.l : List Int := [0, 1, 2, 3]
theorem tangramlaw24_awake.c0 : tangramlaw24_k4.f = some (4, tangramlaw24_awake.es, tangramlaw24_awake.r, 0, tangramlaw24_awake.l) := by kernel_rfl
theorem tangramlaw24_awake.c1 : tangramlaw24_of.f 60 4 tangramlaw24_awake.es tangramlaw24_awake.r 0 tangramlaw24_awake.l = some (tangramlaw24_awake.l, 0) := by kernel_rfl
theorem tangramlaw24_awake.c2 : tangramlaw24_valid.f 60 4 tangramlaw24_awake.es tangramlaw24_awake.r 0 tangramlaw24_awake.l tangramlaw24_awake.l = some (true, 0) := by kernel_rfl
theorem tangramlaw24_awake.c3 : tangramlaw24_valid.f 60 4 tangramlaw24_awake.es tangramlaw24_awake.r 0 tangramlaw24_awake.l [0, 1, 3, 2] = some (false, 0) := by kernel_rfl
theorem tangramlaw24_awake.c4 : tangramlaw24_covers.f 60 4 tangramlaw24_awake.es tangramlaw24_awake.r 0 tangramlaw24_awake.l tangramlaw24_awake.l = some ([[], [], [0, 1], [0, 2, 1]], 0) := by kernel_rfl
theorem tangramlaw24_awake.s1 : tangramref01_SameInts.f 60 tangramlaw24_awake.l tangramlaw24_awake.l = some true := by kernel_rfl
theorem tangramlaw24_awake.s2 : tangramref01_SameLists.f 60 [[], [], [0, 1], [0, 2, 1]] [[], [], [0, 1], [0, 2, 1]] = some true := by kernel_rfl
def tangramlaw24_awake.f : Option Bool := some true
theorem tangramlaw24_awake.calls (r : Bool) (w : World) (h : tangramlaw24_awake.f = some r) :
  Calls Try.prog 9 #[] w fun e w' => e = .returned (.bool r) ∧ Below w.heap.size w w' := by
 obtain rfl : true = r := by simpa [tangramlaw24_awake.f] using h
 clear h
 go_enter Try.func9, Try.ntmps9
 go_wp2_with fail
 refine (tangramlaw24_k4.calls _ _ _ _ _ w tangramlaw24_awake.c0).mono ?_
 rintro e w1 ⟨v1, v2, v4, rfl, hR, hN, hR4, hb⟩
 have HB1 := Aside0.mk hb
 obtain ⟨A, c, rfl, hc, hC⟩ := Kd.R_reads hR
 obtain ⟨A1, c1, rfl, hc1, hC1⟩ := Kd.N_reads hN
 obtain ⟨A2, c2, rfl, hc2, hC2⟩ := Kd.R_reads hR4
 have HC1 := Aside0.mk hC
 have HL := Aside0.mk hc
 have HD1 := Aside0.mk hC1
 have HL1 := Aside0.mk hc1
 have HE1 := Aside0.mk hC2
 have HL2 := Aside0.mk hc2
 clear hb hR hN hR4 hC hC1 hC2 hc hc1 hc2
 go_upto_region 2 with (fail)
 have HX1 : Aside0 ((w1.alloc (.cells #[.int .i64 4, .slice A tangramlaw24_awake.es.length c, .slice A1 tangramlaw24_awake.r.length c1, .int .i64 0, .slice A2 tangramlaw24_awake.l.length c2] 29 (0, 0))).heap[w1.heap.size]? = some (.cells #[.int .i64 4, .slice A tangramlaw24_awake.es.length c, .slice A1 tangramlaw24_awake.r.length c1, .int .i64 0, .slice A2 tangramlaw24_awake.l.length c2] 29 (0, 0))) := ⟨Mem.heap_last _ _⟩
 obtain ⟨b, hbb⟩ : ∃ b, b = w1.heap.size := ⟨_, rfl⟩
 have hb2 : Below w1.heap.size w1 (w1.alloc (.cells #[.int .i64 4, .slice A tangramlaw24_awake.es.length c, .slice A1 tangramlaw24_awake.r.length c1, .int .i64 0, .slice A2 tangramlaw24_awake.l.length c2] 29 (0, 0))) := (Below.refl _ _).alloc (Nat.le_refl _) _
 have HB2 := Aside0.mk (HB1.out.trans (hb2.mono HB1.out.size))
 have HC2 := Aside0.mk (Kd.C_below HC1.out hb2)
 have HD2 := Aside0.mk (Kd.C_below HD1.out hb2)
 have HE2 := Aside0.mk (Kd.C_below HE1.out hb2)
 rw [← hbb] at HX1 ⊢
 clear hbb hb2 HB1 HC1 HD1 HE1
 generalize w1.alloc (.cells #[.int .i64 4, .slice A tangramlaw24_awake.es.length c, .slice A1 tangramlaw24_awake.r.length c1, .int .i64 0, .slice A2 tangramlaw24_awake.l.length c2] 29 (0, 0)) = w2 at HX1 HB2 HC2 HD2 HE2 ⊢
 have HX2 := HX1
 have x0 : w2.cell? ⟨b, 0, none⟩ = some (.int .i64 4) := Mem.heap_cell HX2.out rfl
 have x1 : w2.cell? ⟨b, 1, none⟩ = some (.slice A tangramlaw24_awake.es.length c) := Mem.heap_cell HX2.out rfl
 have x2 : w2.cell? ⟨b, 2, none⟩ = some (.slice A1 tangramlaw24_awake.r.length c1) := Mem.heap_cell HX2.out rfl
 have x3 : w2.cell? ⟨b, 3, none⟩ = some (.int .i64 0) := Mem.heap_cell HX2.out rfl
 have x4 : w2.cell? ⟨b, 4, none⟩ = some (.slice A2 tangramlaw24_awake.l.length c2) := Mem.heap_cell HX2.out rfl
 go_wp2_with fail
 clear x0 x1 x2 x3 x4
 refine (tangramlaw24_of.calls 60 4 A c tangramlaw24_awake.es A1 c1 tangramlaw24_awake.r 0 A2 c2 tangramlaw24_awake.l tangramlaw24_awake.l 0 w2 HC2.out HL.out HD2.out HL1.out HE2.out HL2.out tangramlaw24_awake.c1).mono ?_
 rintro e w3 ⟨v, rfl, hR, hb⟩
 obtain ⟨Av, cv, rfl, hcv, hR⟩ := Kd.R_reads hR
 have HV3 := Aside0.mk hR
 have HVL := Aside0.mk hcv
 clear hR hcv
 have HB3 := Aside0.mk (HB2.out.trans (hb.mono HB2.out.size))
 have HX3 := Aside0.mk ((hb.block _ (Mem.lt_of HX2.out)).trans HX2.out)
 have HC3 := Aside0.mk (Kd.C_below HC2.out hb)
 have HD3 := Aside0.mk (Kd.C_below HD2.out hb)
 have HE3 := Aside0.mk (Kd.C_below HE2.out hb)
 clear HB2 HX2 HC2 HD2 HE2
 clear hb
 have x0 : w3.cell? ⟨b, 0, none⟩ = some (.int .i64 4) := Mem.heap_cell HX3.out rfl
 have x1 : w3.cell? ⟨b, 1, none⟩ = some (.slice A tangramlaw24_awake.es.length c) := Mem.heap_cell HX3.out rfl
 have x2 : w3.cell? ⟨b, 2, none⟩ = some (.slice A1 tangramlaw24_awake.r.length c1) := Mem.heap_cell HX3.out rfl
 have x3 : w3.cell? ⟨b, 3, none⟩ = some (.int .i64 0) := Mem.heap_cell HX3.out rfl
 have x4 : w3.cell? ⟨b, 4, none⟩ = some (.slice A2 tangramlaw24_awake.l.length c2) := Mem.heap_cell HX3.out rfl
 go_wp2_with fail
 clear x0 x1 x2 x3 x4
 refine (tangramlaw24_valid.calls 60 4 A c tangramlaw24_awake.es A1 c1 tangramlaw24_awake.r 0 A2 c2 tangramlaw24_awake.l A2 c2 tangramlaw24_awake.l true 0 w3 HC3.out HL.out HD3.out HL1.out HE3.out HL2.out HE3.out HL2.out tangramlaw24_awake.c2).mono ?_
 rintro e w4 ⟨rfl, hb⟩
 have HV4 := Aside0.mk (Kd.C_below HV3.out hb)
 have HB4 := Aside0.mk (HB3.out.trans (hb.mono HB3.out.size))
 have HX4 := Aside0.mk ((hb.block _ (Mem.lt_of HX3.out)).trans HX3.out)
 have HC4 := Aside0.mk (Kd.C_below HC3.out hb)
 have HD4 := Aside0.mk (Kd.C_below HD3.out hb)
 have HE4 := Aside0.mk (Kd.C_below HE3.out hb)
 clear HB3 HX3 HC3 HD3 HE3
 clear hb HV3
 have x0 : w4.cell? ⟨b, 0, none⟩ = some (.int .i64 4) := Mem.heap_cell HX4.out rfl
 have x1 : w4.cell? ⟨b, 1, none⟩ = some (.slice A tangramlaw24_awake.es.length c) := Mem.heap_cell HX4.out rfl
 have x2 : w4.cell? ⟨b, 2, none⟩ = some (.slice A1 tangramlaw24_awake.r.length c1) := Mem.heap_cell HX4.out rfl
 have x3 : w4.cell? ⟨b, 3, none⟩ = some (.int .i64 0) := Mem.heap_cell HX4.out rfl
 have x4 : w4.cell? ⟨b, 4, none⟩ = some (.slice A2 tangramlaw24_awake.l.length c2) := Mem.heap_cell HX4.out rfl
 go_wp2_with fail
 clear x0 x1 x2 x3 x4
 have hb := (Below.refl w4.heap.size w4).alloc (Nat.le_refl _) (.cells #[.int .i64 0, .int .i64 1, .int .i64 3, .int .i64 2] 3 (0, 0))
 have HIX : Aside0 (Mem.IRow (w4.alloc (.cells #[.int .i64 0, .int .i64 1, .int .i64 3, .int .i64 2] 3 (0, 0))) w4.heap.size [0, 1, 3, 2]) := ⟨Mem.heap_last w4 _⟩
 have HV5 := Aside0.mk (Kd.C_below HV4.out hb)
 have HB5 := Aside0.mk (HB4.out.trans (hb.mono HB4.out.size))
 have HX5 := Aside0.mk ((hb.block _ (Mem.lt_of HX4.out)).trans HX4.out)
 have HC5 := Aside0.mk (Kd.C_below HC4.out hb)
 have HD5 := Aside0.mk (Kd.C_below HD4.out hb)
 have HE5 := Aside0.mk (Kd.C_below HE4.out hb)
 clear HB4 HX4 HC4 HD4 HE4
 clear hb HV4
 obtain ⟨bl, hbl⟩ : ∃ bl, bl = w4.heap.size := ⟨_, rfl⟩
 rw [← hbl] at HIX ⊢
 clear hbl
 show Calls _ _ _ (w4.alloc (.cells #[.int .i64 0, .int .i64 1, .int .i64 3, .int .i64 2] 3 (0, 0))) _
 generalize w4.alloc (.cells #[.int .i64 0, .int .i64 1, .int .i64 3, .int .i64 2] 3 (0, 0)) = w5 at HIX HV5 HB5 HX5 HC5 HD5 HE5 ⊢
 refine (tangramlaw24_valid.calls 60 4 A c tangramlaw24_awake.es A1 c1 tangramlaw24_awake.r 0 A2 c2 tangramlaw24_awake.l (some ⟨bl, 0, none⟩) 4 [0, 1, 3, 2] false 0 w5 HC5.out HL.out HD5.out HL1.out HE5.out HL2.out (Mem.row_reads HIX.out (by decide)) (by decide) tangramlaw24_awake.c3).mono ?_
 rintro e w6 ⟨rfl, hb⟩
 have HV6 := Aside0.mk (Kd.C_below HV5.out hb)
 have HB6 := Aside0.mk (HB5.out.trans (hb.mono HB5.out.size))
 have HX6 := Aside0.mk ((hb.block _ (Mem.lt_of HX5.out)).trans HX5.out)
 have HC6 := Aside0.mk (Kd.C_below HC5.out hb)
 have HD6 := Aside0.mk (Kd.C_below HD5.out hb)
 have HE6 := Aside0.mk (Kd.C_below HE5.out hb)
 clear HB5 HX5 HC5 HD5 HE5
 clear hb HV5 HIX
 have x0 : w6.cell? ⟨b, 0, none⟩ = some (.int .i64 4) := Mem.heap_cell HX6.out rfl
 have x1 : w6.cell? ⟨b, 1, none⟩ = some (.slice A tangramlaw24_awake.es.length c) := Mem.heap_cell HX6.out rfl
 have x2 : w6.cell? ⟨b, 2, none⟩ = some (.slice A1 tangramlaw24_awake.r.length c1) := Mem.heap_cell HX6.out rfl
 have x3 : w6.cell? ⟨b, 3, none⟩ = some (.int .i64 0) := Mem.heap_cell HX6.out rfl
 have x4 : w6.cell? ⟨b, 4, none⟩ = some (.slice A2 tangramlaw24_awake.l.length c2) := Mem.heap_cell HX6.out rfl
 go_wp2_with fail
 clear x0 x1 x2 x3 x4
 refine (tangramlaw24_covers.calls 60 4 A c tangramlaw24_awake.es A1 c1 tangramlaw24_awake.r 0 A2 c2 tangramlaw24_awake.l A2 c2 tangramlaw24_awake.l _ _ w6 HC6.out HL.out HD6.out HL1.out HE6.out HL2.out HE6.out HL2.out tangramlaw24_awake.c4).mono ?_
 rintro e w7 ⟨v, rfl, hS, hb⟩
 obtain ⟨Af, cf, rfl, hcf, hS⟩ := Kd.S_reads hS
 have HF7 := Aside0.mk hS
 have HFL := Aside0.mk hcf
 have HV7 := Aside0.mk (Kd.C_below HV6.out hb)
 have HB7 := Aside0.mk (HB6.out.trans (hb.mono HB6.out.size))
 have HX7 := Aside0.mk ((hb.block _ (Mem.lt_of HX6.out)).trans HX6.out)
 have HC7 := Aside0.mk (Kd.C_below HC6.out hb)
 have HD7 := Aside0.mk (Kd.C_below HD6.out hb)
 have HE7 := Aside0.mk (Kd.C_below HE6.out hb)
 clear HB6 HX6 HC6 HD6 HE6
 clear hb HV6 hS hcf
 have x0 : w7.cell? ⟨b, 0, none⟩ = some (.int .i64 4) := Mem.heap_cell HX7.out rfl
 have x1 : w7.cell? ⟨b, 1, none⟩ = some (.slice A tangramlaw24_awake.es.length c) := Mem.heap_cell HX7.out rfl
 have x2 : w7.cell? ⟨b, 2, none⟩ = some (.slice A1 tangramlaw24_awake.r.length c1) := Mem.heap_cell HX7.out rfl
 have x3 : w7.cell? ⟨b, 3, none⟩ = some (.int .i64 0) := Mem.heap_cell HX7.out rfl
 have x4 : w7.cell? ⟨b, 4, none⟩ = some (.slice A2 tangramlaw24_awake.l.length c2) := Mem.heap_cell HX7.out rfl
 go_wp2_with fail
 clear x0 x1 x2 x3 x4
 refine (tangramref01_SameInts.calls 60 Av cv tangramlaw24_awake.l A2 c2 tangramlaw24_awake.l true w7 HV7.out HVL.out HE7.out HL2.out tangramlaw24_awake.s1).mono ?_
 rintro e w8 ⟨rfl, hd⟩
 have hb := hd.below
 have HF8 := Aside0.mk (Kd.C_below HF7.out hb)
 have HB8 := Aside0.mk (HB7.out.trans (hb.mono HB7.out.size))
 clear hb hd HF7 HB7 HX7 HC7 HD7 HE7 HV7
 have HQ9 : Aside0 (Kd.C Mem.KR ((Mem.lits w8 [[], [], [0, 1], [0, 2, 1]]).alloc (.cells (Mem.outer w8.heap.size [[], [], [0, 1], [0, 2, 1]]).toArray 27 (0, 0))) (some ⟨w8.heap.size + 4, 0, none⟩) 4 [[], [], [0, 1], [0, 2, 1]]) := ⟨Mem.lits_reads w8 [[], [], [0, 1], [0, 2, 1]] (by decide) (by decide)⟩
 have hb := Mem.lits_all w8 [[], [], [0, 1], [0, 2, 1]]
 have HB9 := Aside0.mk (HB8.out.trans (hb.mono HB8.out.size))
 have HF9 := Aside0.mk (Kd.C_below HF8.out hb)
 clear hb HB8 HF8
 go_wp2_with fail
 show Calls _ _ _ ((Mem.lits w8 [[], [], [0, 1], [0, 2, 1]]).alloc (.cells (Mem.outer w8.heap.size [[], [], [0, 1], [0, 2, 1]]).toArray 27 (0, 0))) _
 generalize (Mem.lits w8 [[], [], [0, 1], [0, 2, 1]]).alloc (.cells (Mem.outer w8.heap.size [[], [], [0, 1], [0, 2, 1]]).toArray 27 (0, 0)) = w9 at HQ9 HB9 HF9 ⊢
 refine (tangramref01_SameLists.calls 60 Af cf _ (some ⟨w8.heap.size + 4, 0, none⟩) 4 [[], [], [0, 1], [0, 2, 1]] true w9 HF9.out HFL.out HQ9.out (by decide) tangramlaw24_awake.s2).mono ?_
 rintro e w10 ⟨rfl, hd⟩
 have HB10 := Aside0.mk (HB9.out.trans (hd.below.mono HB9.out.size))
 clear hd HB9 HF9 HQ9
 go_wp2_with fail
 go_ret
 exact ⟨by simp, HB10.out⟩
end GAll.Law
namespace Rot
open GAll GAll.Law Mem Ring Face Lay
theorem all_loop {N : Nat} {l : List Int} (hN : N ≤ 9000000) (hl : l.length = N) (d : Nat) : ∀ (i : Nat) (S : List Bool), i + d = N → S.length = N → (∀ v : Nat, v < N → (gb S v = true ↔ ∃ j, j < i ∧ gi l j = (v : Int))) → (∀ j, j < i → 0 ≤ gi l j ∧ gi l j < (N : Int)) → (∀ a b, a < i → b < i → gi l a = gi l b → a = b) →
  ∃ b : Bool, Ev (fun k => tangramref24_all.l0 k (N : Int) l S (i : Int)) b ∧ (b = true ↔ Order N l) := by
 induction d with
 | zero =>
  intro i S hi hS hg h1 h2
  obtain rfl : i = N := by omega
  refine ⟨true, Ev.step (f := fun _ => some true) (fun k => ?_) (Ev.now _), fun _ => ⟨hl, h1, h2⟩, fun _ => rfl⟩
  simp only [tangramref24_all.l0]
  rw [if_neg (by omega)]
 | succ d ih =>
  intro i S hi hS hg h1 h2
  have bad : ¬ Order N l → (∀ k, tangramref24_all.l0 (k + 1) (N : Int) l S (i : Int) = some false) → ∃ b : Bool, Ev (fun k => tangramref24_all.l0 k (N : Int) l S (i : Int)) b ∧ (b = true ↔ Order N l) := fun h e => ⟨false, Ev.step (f := fun _ => some false) e (Ev.now _), ⟨fun q => absurd q (by decide), fun q => absurd q h⟩⟩
  by_cases c0 : gi l i < 0
  ·refine bad (fun h => by have := h.inn i (by omega); omega) (fun k => ?_)
   simp only [tangramref24_all.l0]
   rw [if_pos (by omega), if_pos (by omega), if_pos (by omega), gi_rd, if_pos c0]
  by_cases c1 : (N : Int) ≤ gi l i
  ·refine bad (fun h => by have := h.inn i (by omega); omega) (fun k => ?_)
   simp only [tangramref24_all.l0]
   rw [if_pos (by omega), if_pos (by omega), if_pos (by omega), gi_rd, if_neg c0, if_pos (by omega)]
  obtain ⟨v, hv⟩ := Int.eq_ofNat_of_zero_le (show 0 ≤ gi l i by omega)
  have hvN : v < N := by omega
  cases c2 : gb S v with
  | true =>
   obtain ⟨j, hj, ej⟩ := (hg v hvN).1 c2
   refine bad (fun h => by have := h.inj j i (by omega) (by omega) (by omega); omega) (fun k => ?_)
   simp only [tangramref24_all.l0]
   rw [if_pos (by omega), if_pos (by omega), if_pos (by omega), gi_rd, if_neg c0, if_neg (by omega), if_pos (by omega), if_pos (by omega), hv]
   change (if gb S ((v : Int).toNat) = true then _ else _) = _
   rw [Int.toNat_natCast, if_pos c2]
  | false =>
   have hnew : ∀ j, j < i → gi l j ≠ gi l i := fun j hj e => by
    have := (hg v hvN).2 ⟨j, hj, by omega⟩
    rw [c2] at this
    cases this
   obtain ⟨b, e1, e2⟩ := ih (i + 1) (S.set v true) (by omega) (by rw [List.length_set]; exact hS) (fun u hu => by
    rw [gb_set]
    by_cases q : v = u
    ·rw [if_pos ⟨q, by omega⟩]
     exact ⟨fun _ => ⟨i, by omega, by rw [hv, q]⟩, fun _ => rfl⟩
    ·rw [if_neg (fun w => q w.1), hg u hu]
     constructor
     ·rintro ⟨j, hj, ej⟩
      exact ⟨j, by omega, ej⟩
     ·rintro ⟨j, hj, ej⟩
      by_cases w : j = i
      ·rw [w, hv] at ej; omega
      ·exact ⟨j, by omega, ej⟩) (fun j hj => by
    by_cases w : j = i
    ·rw [w]; omega
    ·exact h1 j (by omega)) (fun a b ha hb e => by
    by_cases wa : a = i
    ·by_cases wb : b = i
     ·omega
     ·rw [wa] at e; exact absurd e.symm (hnew b (by omega))
    ·by_cases wb : b = i
     ·rw [wb] at e; exact absurd e (hnew a (by omega))
     ·exact h2 a b (by omega) (by omega) e)
   refine ⟨b, Ev.step (fun k => ?_) e1, e2⟩
   simp only [tangramref24_all.l0]
   rw [if_pos (by omega), if_pos (by omega), if_pos (by omega), gi_rd, if_neg c0, if_neg (by omega), if_pos (by omega), if_pos (by omega), hv, wad (by omega)]
   change (if gb S ((v : Int).toNat) = true then _ else _) = _
   rw [Int.toNat_natCast, if_neg (by rw [c2]; decide)]
theorem all_ev {N : Nat} (hN : N ≤ 9000000) (l : List Int) : ∃ b : Bool, Ev (fun k => tangramref24_all.f k (N : Int) l) b ∧ (b = true ↔ Order N l) := by
 by_cases hl : l.length = N
 ·obtain ⟨b, e1, e2⟩ := all_loop hN hl N 0 (List.replicate N false) (by omega) (by simp) (fun v hv => by
   rw [gb_none]
   exact ⟨fun q => absurd q (by decide), fun ⟨j, hj, _⟩ => by omega⟩) (fun j hj => by omega) (fun a b ha => by omega)
  refine ⟨b, ?_, e2⟩
  unfold tangramref24_all.f
  refine Ev.congr (fun k => ?_) e1
  rw [if_pos (by omega), if_pos (by omega), if_pos (by omega), Int.toNat_natCast]
  rfl
 ·refine ⟨false, ?_, ⟨fun q => absurd q (by decide), fun q => absurd q.len hl⟩⟩
  unfold tangramref24_all.f
  exact Ev.congr (fun k => if_neg (by omega)) (Ev.now _)
section
variable {n : Nat} {l : List Ed} {r : List (List Int)}
theorem row_perm (hm : IsMap n l r) {v : Nat} (hv : v < n) : (gl r v).Perm (leaving (frs l) v) := (List.perm_ext_iff_of_nodup (hm.rot.nodup v hv) (leaving_nodup _ _)).2 (fun h => by rw [hm.rot.mem v hv, mem_leaving])
theorem adL_row (hg : PureV.Good (n : Int) l) {v : Nat} (hv : v < n) : Feet.adL (outTo (frs l) n (2 * l.length)) (Graph.tosL (ends l)) v = (leaving (frs l) v).map fun h => (fr l (twn h.toNat) : Int) := by
 unfold Feet.adL
 rw [gl_out hg hv]
 refine List.map_congr_left fun h hh => ?_
 obtain ⟨h0, h1, _⟩ := leaves_iff.1 (mem_leaving.1 hh)
 rw [frs_length] at h1
 obtain ⟨q, rfl⟩ := Int.eq_ofNat_of_zero_le h0
 have h2 := hg.2.2.1
 rw [Int.toNat_natCast, (Seen.froms_tw (es := ends l) (by rw [ends_length]; exact h2) (h := q) (by rw [ends_length]; omega)).2]
 have e : Seen.tw (q : Int) = (twn q : Int) := Seen.tw_nat (by omega)
 rw [e, Int.toNat_natCast]
 exact (fr_lt hg (twn_lt (show q < 2 * l.length by omega))).2
theorem ar_row (hm : IsMap n l r) {v : Nat} (hv : v < n) : gl (aroundOf (frs l) r) v = (gl r v).map fun h => (fr l (twn h.toNat) : Int) := by
 rw [aroundOf_row (by rw [hm.rot.len]; exact hv)]
 refine List.map_congr_left fun h hh => ?_
 obtain ⟨h0, h1, _⟩ := leaves_iff.1 ((hm.rot.mem v hv h).1 hh)
 rw [frs_length] at h1
 obtain ⟨q, rfl⟩ := Int.eq_ofNat_of_zero_le h0
 have h2 := hm.good.2.2.1
 have e : twin (q : Int) = (twn q : Int) := Seen.tw_nat (by omega)
 rw [Int.toNat_natCast, e, Int.toNat_natCast]
 exact (fr_lt hm.good (twn_lt (show q < 2 * l.length by omega))).2
theorem ar_perm (hm : IsMap n l r) {v : Nat} (hv : v < n) : (gl (aroundOf (frs l) r) v).Perm (Feet.adL (outTo (frs l) n (2 * l.length)) (Graph.tosL (ends l)) v) := by
 rw [ar_row hm hv, adL_row hm.good hv]
 exact (row_perm hm hv).map _
theorem ar_nodup (hm : IsMap n l r) {v : Nat} (hv : v < n) : (gl (aroundOf (frs l) r) v).Nodup := by
 rw [ar_row hm hv]
 refine nodup_map_on (hm.rot.nodup v hv) (fun x hx y hy e => ?_)
 obtain ⟨x0, x1, x2⟩ := leaves_iff.1 ((hm.rot.mem v hv x).1 hx)
 obtain ⟨y0, y1, y2⟩ := leaves_iff.1 ((hm.rot.mem v hv y).1 hy)
 rw [frs_length] at x1 y1
 have := half_uniq hm.good (h := x.toNat) (k := y.toNat) (by omega) (by omega) (by unfold fr; rw [x2, y2]) (by omega)
 omega
theorem ar_in (hm : IsMap n l r) {v : Nat} (hv : v < n) : ∀ x ∈ gl (aroundOf (frs l) r) v, 0 ≤ x ∧ x < (n : Int) := fun x hx => by
 rw [ar_row hm hv] at hx
 obtain ⟨h, hh, rfl⟩ := List.mem_map.1 hx
 obtain ⟨h0, h1, _⟩ := leaves_iff.1 ((hm.rot.mem v hv h).1 hh)
 rw [frs_length] at h1
 have := (fr_lt hm.good (twn_lt (show h.toNat < 2 * l.length by omega))).1
 omega
theorem ar_ok (hm : IsMap n l r) : Peel.Ok n (aroundOf (frs l) r) := by
 refine ⟨fun v hv j hj => ar_in hm hv _ (Lay.gi_mem_of hj), fun v hv => ?_, by have := hm.good.2.1; omega⟩
 have h1 := ar_nodup hm hv
 have h2 := ar_in hm hv
 have h3 : ((gl (aroundOf (frs l) r) v).map Int.toNat).Nodup := nodup_map_on h1 (fun x hx y hy e => by
  have := h2 x hx
  have := h2 y hy
  omega)
 have := nodup_subset _ (List.range n) h3 (fun x hx => by
  obtain ⟨y, hy, rfl⟩ := List.mem_map.1 hx
  have := h2 y hy
  rw [List.mem_range]; omega)
 rw [List.length_map, List.length_range] at this
 have := hm.good.2.1
 omega
end
section
variable {N : Nat} {l : List Ed} {r : List (List Int)} {q : Nat}
def covA (N : Nat) (l : List Ed) (r : List (List Int)) (q : Nat) (lst : List Int) : Option (List (List Int)) := Peel.coversF N (aroundOf (frs l) r) (fr l q : Int) (fr l (twn q) : Int) (thirdV l r q : Int) lst
theorem laysTo_len {ar : List (List Int)} {rk : List Int} {N : Nat} {a b : Int} {l : List Int} : ∀ {k : Nat} {out : List (List Int)} {sh : List Int}, Peel.laysTo ar rk N a b l k = some (out, sh) → out.length = N ∧ sh.length ≤ k + 2 ∧ ∀ x ∈ out, x.length ≤ k + 2
 | 0, out, sh, h => by
  obtain ⟨rfl, rfl⟩ := Prod.mk.inj (Option.some.inj h)
  exact ⟨by simp, Nat.le_refl _, fun x hx => by rw [List.eq_of_mem_replicate hx]; exact Nat.zero_le _⟩
 | k + 1, out, sh, h => by
  unfold Peel.laysTo at h
  obtain ⟨⟨o0, s0⟩, h0, h1⟩ := Option.bind_eq_some_iff.1 h
  obtain ⟨⟨f0, s1⟩, h2, h3⟩ := Option.bind_eq_some_iff.1 h1
  obtain ⟨rfl, rfl⟩ := Prod.mk.inj (Option.some.inj h3)
  obtain ⟨e1, e2, e3⟩ := laysTo_len h0
  obtain ⟨_, e5, _⟩ := Peel.layF_next (P := fun _ => True) h2 trivial (fun _ _ => trivial)
  have e6 : f0.length ≤ s0.length := by
   simp only at h2
   rw [Peel.layF_eq rfl rfl rfl rfl] at h2
   split at h2
   ·cases h2
   ·split at h2
    ·cases h2
    ·obtain ⟨rfl, rfl⟩ := Prod.mk.inj (Option.some.inj h2)
     exact Nat.le_trans (List.length_filter_le _ _) (by rw [List.length_take]; exact Nat.min_le_right _ _)
  simp only at e2 e3 e5 ⊢
  refine ⟨by rw [List.length_set]; exact e1, by omega, fun x hx => ?_⟩
  rcases List.mem_or_eq_of_mem_set hx with g | rfl
  ·have := e3 x g; omega
  ·omega
theorem cov_small (h : Tri N l r q) {lst : List Int} {o : List (List Int)} (hc : covA N l r q lst = some o) : o.length ≤ 900000000 ∧ ∀ x ∈ o, x.length ≤ 900000000 := by
 have hn := h.map.good.2.1
 unfold covA Peel.coversF at hc
 split at hc
 ·cases hc
 ·obtain ⟨rk, _, h1⟩ := Option.bind_eq_some_iff.1 hc
  split at h1
  ·cases h1
  ·obtain ⟨⟨o1, s1⟩, h2, rfl⟩ := Option.map_eq_some_iff.1 h1
   obtain ⟨e1, e2, e3⟩ := laysTo_len h2
   have := h.big
   exact ⟨by simp only; omega, fun x hx => by have := e3 x hx; omega⟩
theorem Tri.outer (h : Tri N l r q) : fr l q < N ∧ fr l (twn q) < N ∧ thirdV l r q < N := by
 have ht := twn_lt h.root
 obtain ⟨hx1, hx2⟩ := nxf_lt h.map ht
 exact ⟨(fr_lt h.map.good h.root).1, (fr_lt h.map.good ht).1, (fr_lt h.map.good (twn_lt hx1)).1⟩
theorem Tri.good (h : Tri N l r q) : Peel.goodT (N : Int) (aroundOf (frs l) r) (fr l q : Int) (fr l (twn q) : Int) (thirdV l r q : Int) = true := by
 obtain ⟨h1, h2, h3⟩ := h.outer
 exact Peel.goodT_of h.big (by rw [aroundOf_length]; exact h.map.rot.len) (by omega) (by omega) (by omega) (ar_ok h.map)
theorem Tri.valid (h : Tri N l r q) (lst : List Int) : Ev (fun k => order_Valid.f k (N : Int) l r (q : Int) lst) ((covA N l r q lst).isSome, 0) := by
 have h1 := h.map.good.2.2.1
 unfold order_Valid.f
 refine Ev.congr (fun k => if_pos (by omega)) (Ev.bind h.look (Ev.congr (fun k => ?_) (Ev.now _)))
 rw [if_neg (fun q => q rfl), if_pos h.good]
 rfl
theorem Tri.covers (h : Tri N l r q) (lst : List Int) : Ev (fun k => order_Covers.f k (N : Int) l r (q : Int) lst) ((covA N l r q lst).getD [], Peel.covErr (covA N l r q lst)) := by
 have h1 := h.map.good.2.2.1
 unfold order_Covers.f
 refine Ev.congr (fun k => if_pos (by omega)) (Ev.bind h.look (Ev.congr (fun k => ?_) (Ev.now _)))
 rw [if_neg (fun q => q rfl), if_pos h.good]
 rfl
theorem Tri.feet (h : Tri N l r q) (lst : List Int) : Ev (fun k => tangramref24_Feet.f k (N : Int) l r (q : Int) lst) (tangramref24_Feet.ans (covA N l r q lst)) := by
 have hn := h.map.good.2.1
 have hl := h.map.good.2.2.1
 obtain ⟨h1, h2, h3⟩ := h.outer
 obtain ⟨ok, e1, e2⟩ := all_ev (N := N) (by omega) lst
 unfold tangramref24_Feet.f
 refine Ev.bind (outer_ev h.map h.root) (Ev.bind e1 (Ev.bind (out_ev h.map.good) (Ev.congr (fun k => ?_) (Ev.now _))))
 rw [if_pos, Int.toNat_natCast]
 ·show some (tangramref24_Feet.ans (Feet.feetF N (Feet.adL (outTo (frs l) N (2 * l.length)) (Graph.tosL (ends l))) _ _ _ lst ok)) = _
  rw [← cov_feet (ar := aroundOf (frs l) r) h.big (fun w hw => ar_perm h.map hw) (fun w hw => ar_nodup h.map hw) (fun w hw => ar_in h.map hw) e2]
  rfl
 ·unfold tangramref24_Feet.fit
  rw [Bool.and_eq_true, Bool.and_eq_true, Bool.and_eq_true, Bool.and_eq_true, decide_eq_true_eq, decide_eq_true_eq, List.all_eq_true]
  have hb := h.big
  refine ⟨(PureV.good_iff (N : Int) l).2 h.map.good, (show 3 ≤ (N : Int) ∧ (0 ≤ (fr l q : Int) ∧ (fr l q : Int) < N) ∧ 0 ≤ (fr l (twn q) : Int) ∧ (fr l (twn q) : Int) < N by omega), ?_, by rw [outTo_length], fun row hrow => ?_⟩
  ·cases ok with
   | false => rfl
   | true =>
    have hO := e2.1 rfl
    rw [Bool.not_true, Bool.false_or, Bool.and_eq_true, decide_eq_true_eq, List.all_eq_true]
    refine ⟨by rw [hO.len], fun x hx => ?_⟩
    obtain ⟨j, hj, rfl⟩ := mem_gi hx
    exact decide_eq_true (hO.inn j (by rw [← hO.len]; exact hj))
  ·obtain ⟨v, hv, rfl⟩ := List.getElem_of_mem hrow
   rw [outTo_length] at hv
   have e : (outTo (frs l) N (2 * l.length))[v] = leaving (frs l) v := by
    rw [← gl_out h.map.good hv]
    unfold gl
    rw [List.getD_eq_getElem?_getD, List.getElem?_eq_getElem (by rw [outTo_length]; exact hv)]
    rfl
   rw [e, Bool.and_eq_true, decide_eq_true_eq, List.all_eq_true]
   refine ⟨by rw [leaving_cnt]; have := cnt_le (frs l) (frs l).length v; have := frs_length l; omega, fun x hx => ?_⟩
   obtain ⟨a, b, _⟩ := leaves_iff.1 (mem_leaving.1 hx)
   rw [frs_length] at b
   rw [List.length_map]
   exact decide_eq_true ⟨a, by omega⟩
end
section
variable {n : Int} {l : List Ed} {r : List (List Int)} {root code : Int} (hc : code ≠ 0) (h : Ev (fun k => Peel.lookF k n l r root) (code, [], 0, 0, 0)) (hl : l.length ≤ 8796093022208)
include hc h hl
theorem covers_no (lst : List Int) : Ev (fun k => order_Covers.f k n l r root lst) ([], code) := by
 unfold order_Covers.f
 exact Ev.congr (fun k => if_pos hl) (Ev.bind h (Ev.congr (fun k => if_pos hc) (Ev.now _)))
theorem of_no : Ev (fun k => order_Of.f k n l r root) ([], code) := by
 unfold order_Of.f
 exact Ev.congr (fun k => if_pos hl) (Ev.bind h (Ev.congr (fun k => if_pos hc) (Ev.now _)))
end
section
variable {n : Int} {l : List Ed} {r : List (List Int)} {root : Int} (hl : l.length < 8796093022208) (hs : Small r) (lst0 : List Int)
include hl hs
theorem lcovers_ev {lst : List Int} (hlst : lst.length < 17592186044416) {b : List (List Int)} {e : Int} (h : Ev (fun k => order_Covers.f k n l r root lst) (b, e)) : Ev (fun k => tangramlaw24_covers.f k n l r root lst0 lst) (b, e) := by
 unfold tangramlaw24_covers.f
 refine Ev.congr (fun k => by rw [copy4_ev n l hl, Option.bind_some]) (Ev.bind (copy13_ev r hs) (Ev.congr (fun k => ?_) (Ev.bind (f := fun _ t => some (t.1, t.2)) h (Ev.now _))))
 rw [Option.bind_some, if_pos (by simpa using hlst), List.nil_append]
end
end Rot
namespace Open
open Go.ChangeShapes Go.WideShapes Go.Deep
def I64 (n : Int) : Prop := -9223372036854775808 ≤ n ∧ n ≤ 9223372036854775807
def Opens {α : Type} (P : Program) (t : TypeId) (d : Kd α) (good : α → Prop) : Prop :=
 ∀ {H : Type} (enc : TypeId × Value → H) (w : World) (fuel : Nat) (cs : List Value) (x : DataW H × List MemPlace),
  DataW.trod enc P w 0 (fun _ => true) true fuel t cs = some x → (x.1.weights P t).all (· ≤ reachBytes) = true → ∃ v, d.K w v cs ∧ good v
section
variable {P : Program} {α β : Type}
theorem opens_int {t : TypeId} (ht : P.underlying t = some (.int .i64)) : Opens P t (Kd.int .i64) I64 := by
 intro H enc w fuel cs x h _
 obtain ⟨n, rfl, _, hw⟩ := DataW.trod_int ht h
 refine ⟨n, rfl, ?_⟩
 have hmin : IntKind.i64.min = -9223372036854775808 := rfl
 have hmax : IntKind.i64.max = 9223372036854775807 := rfl
 simp only [Lit.wf, Bool.and_eq_true, decide_eq_true_eq] at hw
 unfold I64; omega
theorem weightsAll_mem {H : Type} {e : TypeId} {l : List (DataW H)} (h : (DataW.weightsAll P e l).all (· ≤ reachBytes) = true) {d : DataW H} (hd : d ∈ l) : (d.weights P e).all (· ≤ reachBytes) = true := by
 induction l with
 | nil => cases hd
 | cons a l ih =>
  unfold DataW.weightsAll at h
  rw [List.all_append, Bool.and_eq_true] at h
  rcases List.mem_cons.1 hd with rfl | hd
  ·exact h.1
  ·exact ih h.2 hd
theorem opens_slice {t e : TypeId} {d : Kd α} {good : α → Prop} {B : Nat} (ht : P.underlying t = some (.slice e)) (hc : P.cellsOf e = d.sz) (hB : P.bytesOf e = B) (ho : Opens P e d good) (dflt : α) :
  Opens P t (Kd.slice e d) (fun xs => xs.length * B ≤ 140737488351232 ∧ ∀ x ∈ xs, good x) := by
 intro H enc w fuel cs x h hwt
 rcases open_slice ht h with ⟨rfl, rfl⟩ | ⟨a, len, cap, m, n, D, Pl, rfl, hb, hl, hm, hmm, rfl, hx⟩
 ·exact ⟨[], ⟨none, 0, rfl, Nat.le_refl _, rfl, by simp, fun h => absurd h (by simp)⟩, by simp, by simp⟩
 ·simp only [if_true] at hmm
  subst hmm
  unfold DataW.weights at hwt
  rw [ht] at hwt
  simp only [List.all_cons, List.all_append, Bool.and_eq_true, decide_eq_true_eq, List.length_map, List.length_range, hB] at hwt
  obtain ⟨hw1, hw2, _⟩ := hwt
  have each : ∀ i, i < len → ∃ v : α × List Value, v.2.length = d.sz ∧ d.K w v.1 v.2 ∧ good v.1 ∧ ∀ k u, v.2[k]? = some u → w.cell? (a.add (i * d.sz + k)) = some u := by
   intro i hi
   obtain ⟨cs', h1, h2⟩ := hx i (by omega)
   rw [hc] at h1
   obtain ⟨_, hlen, hcell⟩ := World.cells?_some h1
   obtain ⟨v, hv, hg⟩ := ho enc w n cs' _ h2 (weightsAll_mem hw2 (List.mem_map.2 ⟨i, List.mem_range.2 hi, rfl⟩))
   refine ⟨(v, cs'), hlen, hv, hg, fun k u hk => ?_⟩
   have hk2 : k < d.sz := by
    have hk3 : k < cs'.length := (List.getElem?_eq_some_iff.1 hk).1
    omega
   have := hcell k hk2
   rw [Go.Deep.add_add] at this
   rw [this]; exact hk
  haveI : Inhabited (α × List Value) := ⟨(dflt, [])⟩
  obtain ⟨q, hq⟩ := choose_lt each
  have hlen : ((List.range len).map fun i => (q i).1).length = len := by simp
  have hget : ∀ j p, ((List.range len).map fun i => (q i).1)[j]? = some p → j < len ∧ p = (q j).1 := by
   intro j p hj
   rw [List.getElem?_map] at hj
   by_cases hjl : j < len
   ·rw [List.getElem?_range hjl] at hj
    exact ⟨hjl, by simpa using hj.symm⟩
   ·rw [List.getElem?_eq_none (by simp; omega)] at hj; simp at hj
  refine ⟨(List.range len).map fun i => (q i).1, ⟨some a, m, by rw [hlen], by rw [hlen]; exact hl, by rw [hlen], ?_, fun _ => ⟨a, rfl, fun j p hj => ?_⟩⟩, ?_, ?_⟩
  ·rw [hlen]; unfold maxLen at hm; omega
  ·obtain ⟨hjl, rfl⟩ := hget j p hj
   exact ⟨(q j).2, (hq j hjl).1, (hq j hjl).2.1, (hq j hjl).2.2.2⟩
  ·rw [hlen]
   have h5 : len * B ≤ (len + (m - len)) * B := Nat.mul_le_mul_right _ (by omega)
   have h6 : reachBytes = 140737488351232 := rfl
   omega
  ·intro v hv
   obtain ⟨i, hi, rfl⟩ := List.mem_map.1 hv
   exact (hq i (List.mem_range.1 hi)).2.2.1
theorem opens_two {t : TypeId} {f0 f1 : Field} {a : Kd α} {b : Kd β} {ga : α → Prop} {gb : β → Prop} (ht : P.underlying t = some (.struct #[f0, f1])) (h0 : Opens P f0.type a ga) (h1 : Opens P f1.type b gb)
  (o0 : f0.offset = 0) (o1 : f1.offset = a.sz) (c0 : P.cellsOf f0.type = a.sz) (c1 : P.cellsOf f1.type = b.sz) (ct : P.cellsOf t = a.sz + b.sz) : Opens P t (Kd.pair a b) (fun x => ga x.1 ∧ gb x.2) := by
 intro H enc w fuel cs x h hwt
 obtain ⟨xs, n, _, rfl, hcl, hxl, hf⟩ := DataW.trod_struct ht h
 match xs, hxl with
 | [y0, y1], _ =>
  have g0 := hf 0 f0 rfl
  have g1 := hf 1 f1 rfl
  rw [o0, c0] at g0
  rw [o1, c1] at g1
  unfold DataW.weights at hwt
  rw [ht] at hwt
  simp only [List.map_cons, List.map_nil, DataW.weightsEach, List.all_append, Bool.and_eq_true] at hwt
  obtain ⟨hw0, hw1, _⟩ := hwt
  rw [List.drop_zero] at g0
  obtain ⟨v0, k0, q0⟩ := h0 enc w n _ y0 g0 hw0
  obtain ⟨v1, k1, q1⟩ := h1 enc w n _ y1 g1 hw1
  refine ⟨(v0, v1), ⟨_, _, ?_, k0, k1⟩, q0, q1⟩
  rw [List.take_of_length_le (l := cs.drop a.sz) (by rw [List.length_drop]; omega), List.take_append_drop]
theorem split_four {γ : Type} (cs : List γ) (a b c d : Nat) (h : cs.length = a + b + c + d) : cs = cs.take a ++ ((cs.drop a).take b ++ ((cs.drop (a + b)).take c ++ (cs.drop (a + b + c)).take d)) := by
 have h1 : (cs.drop (a + b + c)).take d = cs.drop (a + b + c) := List.take_of_length_le (by rw [List.length_drop]; omega)
 have h2 : cs.drop (a + b) = (cs.drop (a + b)).take c ++ cs.drop (a + b + c) := by rw [← List.drop_drop (l := cs) (i := c) (j := a + b), List.take_append_drop]
 have h3 : cs.drop a = (cs.drop a).take b ++ cs.drop (a + b) := by rw [← List.drop_drop (l := cs) (i := b) (j := a), List.take_append_drop]
 rw [h1, ← h2, ← h3, List.take_append_drop]
theorem opens_four {γ δ : Type} {t : TypeId} {f0 f1 f2 f3 : Field} {a : Kd α} {b : Kd β} {c : Kd γ} {d : Kd δ} {ga : α → Prop} {gb : β → Prop} {gc : γ → Prop} {gd : δ → Prop} (ht : P.underlying t = some (.struct #[f0, f1, f2, f3])) (h0 : Opens P f0.type a ga) (h1 : Opens P f1.type b gb) (h2 : Opens P f2.type c gc) (h3 : Opens P f3.type d gd)
  (o0 : f0.offset = 0) (o1 : f1.offset = a.sz) (o2 : f2.offset = a.sz + b.sz) (o3 : f3.offset = a.sz + b.sz + c.sz) (c0 : P.cellsOf f0.type = a.sz) (c1 : P.cellsOf f1.type = b.sz) (c2 : P.cellsOf f2.type = c.sz) (c3 : P.cellsOf f3.type = d.sz) (ct : P.cellsOf t = a.sz + b.sz + c.sz + d.sz) : Opens P t (Kd.pair a (Kd.pair b (Kd.pair c d))) (fun x => ga x.1 ∧ gb x.2.1 ∧ gc x.2.2.1 ∧ gd x.2.2.2) := by
 intro H enc w fuel cs x h hwt
 obtain ⟨xs, n, _, rfl, hcl, hxl, hf⟩ := DataW.trod_struct ht h
 match xs, hxl with
 | [y0, y1, y2, y3], _ =>
  have g0 := hf 0 f0 rfl
  have g1 := hf 1 f1 rfl
  have g2 := hf 2 f2 rfl
  have g3 := hf 3 f3 rfl
  rw [o0, c0] at g0
  rw [o1, c1] at g1
  rw [o2, c2] at g2
  rw [o3, c3] at g3
  unfold DataW.weights at hwt
  rw [ht] at hwt
  simp only [List.map_cons, List.map_nil, DataW.weightsEach, List.all_append, Bool.and_eq_true] at hwt
  obtain ⟨hw0, hw1, hw2, hw3, _⟩ := hwt
  rw [List.drop_zero] at g0
  obtain ⟨v0, k0, q0⟩ := h0 enc w n _ y0 g0 hw0
  obtain ⟨v1, k1, q1⟩ := h1 enc w n _ y1 g1 hw1
  obtain ⟨v2, k2, q2⟩ := h2 enc w n _ y2 g2 hw2
  obtain ⟨v3, k3, q3⟩ := h3 enc w n _ y3 g3 hw3
  refine ⟨(v0, v1, v2, v3), ⟨_, _, ?_, k0, _, _, rfl, k1, _, _, rfl, k2, k3⟩, q0, q1, q2, q3⟩
  exact split_four cs _ _ _ _ (by omega)
theorem opens_iso {t : TypeId} {d : Kd α} {good : α → Prop} {f : β → α} (g : α → β) (hg : ∀ x, f (g x) = x) (h : Opens P t d good) : Opens P t (Kd.iso d f) (fun y => good (f y)) := by
 intro H enc w fuel cs x hx hw
 obtain ⟨v, k, q⟩ := h enc w fuel cs x hx hw
 exact ⟨g v, by show d.K w (f (g v)) cs; rw [hg]; exact k, by show good (f (g v)); rw [hg]; exact q⟩
theorem open_arg {H : Type} {enc : TypeId × Value → H} {w : World} {t : TypeId} {d : Kd α} {good : α → Prop} {v : Value} {dd : DataW H} {ps : List MemPlace} (ho : Opens P t d good) (h : DataW.Trod enc P w 0 (fun _ => true) true t v dd ps)
  (hw : (dd.weights P t).all (· ≤ reachBytes) = true) : ∃ x, d.K w x v.cells.toList ∧ good x := by
 obtain ⟨fuel, hf⟩ := h
 exact ho enc w fuel _ _ hf hw
theorem weight_at {H : Type} {ts : List TypeId} {ds : List (DataW H)} (h : (DataW.weightsEach P ts ds).all (· ≤ reachBytes) = true) : ∀ {j : Nat} {t : TypeId} {d : DataW H}, ts[j]? = some t → ds[j]? = some d → (d.weights P t).all (· ≤ reachBytes) = true := by
 induction ts generalizing ds with
 | nil => intro j t d ht; simp at ht
 | cons a ts ih =>
  cases ds with
  | nil => intro j t d _ hd; simp at hd
  | cons b ds =>
   unfold DataW.weightsEach at h
   rw [List.all_append, Bool.and_eq_true] at h
   intro j t d ht hd
   cases j with
   | zero =>
    obtain rfl : a = t := by simpa using ht
    obtain rfl : b = d := by simpa using hd
    exact h.1
   | succ j => exact ih h.2 (by simpa using ht) (by simpa using hd)
end
end Open
end Go.Proofs.Ytaepieadbfndnaa
