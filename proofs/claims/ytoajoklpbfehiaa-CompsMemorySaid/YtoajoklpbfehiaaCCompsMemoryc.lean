/- DERIVED. Texts of this seat, one behind the other: lemmas and walks that the statement CompsMemory needs. No condition. -/
import Derived.Test.YtoajoklpbfehiaaCCompsMemoryb
import Derived.Deep.Slices
import Derived.Deep.QuietTactic
import Derived.BigQuiet
import Derived.StillTailTactics
import Derived.Test.YtoajoklpbfehiaaProg
import Derived.Below
import Derived.Deep.Draws
import Derived.Deep.AppendLies
import Derived.Maps.AppendAt
import Derived.OwnWalk
import Derived.Laws.BytesArg
import Derived.Laws.MakeOwn
import Derived.Laws.OwnMore
import Derived.Deep.OwnRows
import Derived.Tactics
import Derived.Lib.ConvBytes
import Derived.Laws.Slices
import Derived.WalkKit
import Derived.KernelRfl
import Derived.RowKit3
import Derived.Deep.LoopGhost
import Derived.WideLaws
import Derived.Deep.DeepCutAuto
import Derived.Deep.CutBlock
import Derived.Deep.RegionHeld3
import Derived.Laws.Rows
import Derived.Lib.AppendStr
import Derived.ArgAppend
import Derived.Laws.IdiomCopy
import Derived.OrdersHeld
import Derived.Laws.BitsLemmas
import Derived.RowKit
import Derived.Test.YtoajoklpbfehiaaCCompsMemorya
namespace Go.Proofs.Ytoajoklpbfehiaa.Sets
open Go.RowKit Go.Proofs.YtoajoklpbfehiaaW.PrintWords Go.Proofs.YtoajoklpbfehiaaW.PrintLast Go.Proofs.YtoajoklpbfehiaaW.PrintMore
attribute [local go_sem] max2_int min2_int max_two min_two
set_option linter.unusedVariables false
set_option linter.unusedSimpArgs false
def sameOf (m : List Nat) (a b : Int) : Bool := ok m a && ok m b && (gt m a.toNat == gt m b.toNat)
set_option maxHeartbeats 1000000 in
set_option maxRecDepth 100000 in
theorem same_calls (p bP bS : Nat) (m P S : List Nat) (a b : Int) (w : World) (h : AtPS w p bP bS m P S) :
   Calls Try.prog 25 #[.pointer (some ⟨p, 0, none⟩), .int .i64 a, .int .i64 b] w fun e w' => e = .returned (.bool (sameOf m a b)) ∧ Now p bP bS m w w' := by
 have H := Aside0.mk h
 have F := Aside0.mk (Frame.refl (Own p bP bS) w)
 have h0 := h.cell0
 clear h
 cases ha : ok m a
 · have e : sameOf m a b = false := by simp [sameOf, ha]
   have E := Aside0.mk e
   have KA := Aside0.mk ha
   clear e ha
   have Q1 := Aside0.mk (fun W => has_same (p := p) (bP := bP) (bS := bS) (P := P) (S := S) KA.out W)
   go_enter Try.func25, Try.ntmps25
   go_wp2
   go_quiet ((go_at_call 32; refine Calls.quiet_of_same (Q1.out _ ?_); repeat (first | exact H.out | exact H.out.drew | exact H.out.drewN _)))
   go_wp2
   go_ret
   exact ⟨by rw [E.out]; rfl, ⟨P, S, H.out.drewN _⟩, F.out.drewN _⟩
 · cases hb : ok m b
   · have e : sameOf m a b = false := by simp [sameOf, ha, hb]
     have E := Aside0.mk e
     obtain ⟨i, rfl, hi⟩ := ok_nat ha
     have KA := Aside0.mk ha
     have KB := Aside0.mk hb
     clear e ha hb
     have Q1 := Aside0.mk (fun W => has_same (p := p) (bP := bP) (bS := bS) (P := P) (S := S) KA.out W)
     have Q2 := Aside0.mk (fun W => has_same (p := p) (bP := bP) (bS := bS) (P := P) (S := S) KB.out W)
     go_enter Try.func25, Try.ntmps25
     go_wp2
     go_quiet ((go_at_call 32; (first | (with_reducible refine Calls.quiet_of_same (Q1.out _ ?_)) | (with_reducible refine Calls.quiet_of_same (Q2.out _ ?_))); repeat (first | exact H.out | exact H.out.drew | exact H.out.drewN _)))
     go_wp2
     go_ret
     exact ⟨by rw [E.out]; rfl, ⟨P, S, H.out.drewN _⟩, F.out.drewN _⟩
   · obtain ⟨i, rfl, hi⟩ := ok_nat ha
     obtain ⟨j, rfl, hj⟩ := ok_nat hb
     have e : sameOf m (i : Int) (j : Int) = (gt m i == gt m j) := by simp [sameOf, ha, hb]
     have E := Aside0.mk e
     have KA := Aside0.mk ha
     have KB := Aside0.mk hb
     clear e ha hb h0
     go_enter Try.func25, Try.ntmps25
     go_wp2
     refine start_ (n := 24) (S := fun w' => w'.cell? ⟨p, 0, none⟩ = some (.slice (some ⟨bP, 0, none⟩) m.length m.length) ∧ Aside0 (At w' p bP bS m) ∧ Aside0 (Frame (Own p bP bS) w w')) (ds := []) #[false, false, false, false, false, false, false, false, false, false, false, false, false, false, false, false, false, false, false, false, false, false, false, false] (by kernel_rfl) rfl rfl ⟨H.out.drew.cell0, ⟨⟨P, S, H.out.drew⟩⟩, ⟨F.out.drew⟩⟩ (fun hHeld => ?_)
     refine pure_ (i := 0) (N := some 7) (v := ?_) (a' := ?_) #[true, false, false, false, false, false, false, false, false, false, false, false, false, false, false, false, false, false, false, false, false, false, false, false] rfl rfl (by kernel_rfl) (fun _ _ _ h => h) (Or.inl ⟨by rfl, ?_⟩) ?_ ?_
     rotate_left
     · intro w'
       go_simp
       with_reducible rfl
     rotate_left
     · simp only [Act.put, List.setIfInBounds_toArray, List.set_cons_zero, List.set_cons_succ, i64_w, i32_w]
       rfl
     refine pure_ (i := 1) (N := some 8) (v := ?_) (a' := ?_) #[true, true, false, false, false, false, false, false, false, false, false, false, false, false, false, false, false, false, false, false, false, false, false, false] rfl rfl (by kernel_rfl) (fun _ _ _ h => h) (Or.inl ⟨by rfl, ?_⟩) ?_ ?_
     rotate_left
     · intro w'
       go_simp
       with_reducible rfl
     rotate_left
     · simp only [Act.put, List.setIfInBounds_toArray, List.set_cons_zero, List.set_cons_succ, i64_w, i32_w]
       rfl
     refine one_ (i := 2) (N := some 9) #[true, true, true, false, false, false, false, false, false, false, false, false, false, false, false, false, false, false, false, false, false, false, false, false] rfl rfl (by kernel_rfl) (by decide) (fun K hK => ?_)
     obtain ⟨h0, HA, HF⟩ := hHeld
     obtain ⟨P1, S1, H1⟩ := HA.out
     refine goes_ Try.func32 (by kernel_rfl) rfl #[.pointer (some ⟨p, 0, none⟩), .int .i64 (i : Int)] (by rfl) rfl rfl (by simp only [List.map_toArray, List.map_cons, List.map_nil]; rfl) ?_
     with_reducible refine (has_calls p bP bS m P1 S1 (i : Int) _ H1).mono ?_
     rintro e w3 ⟨he, rfl⟩
     refine ⟨_, he, ?_⟩
     rw [KA.out]
     refine hK.out _ _ ⟨h0, HA, HF⟩ (fun hHeld => ?_)
     clear hK K
     refine norm_ (a' := ?_) ?_ ?_
     rotate_left
     · show Act.put _ (some 9) _ = _
       simp only [Act.put, List.setIfInBounds_toArray, List.set_cons_zero, List.set_cons_succ, i64_w, i32_w]
       rfl
     refine pure_ (i := 3) (N := some 10) (v := ?_) (a' := ?_) #[true, true, true, true, false, false, false, false, false, false, false, false, false, false, false, false, false, false, false, false, false, false, false, false] rfl rfl (by kernel_rfl) (fun _ _ _ h => h) (Or.inl ⟨by rfl, ?_⟩) ?_ ?_
     rotate_left
     · intro w'
       go_simp
       with_reducible rfl
     rotate_left
     · simp only [Act.put, List.setIfInBounds_toArray, List.set_cons_zero, List.set_cons_succ, i64_w, i32_w]
       rfl
     refine pure_ (i := 4) (N := some 11) (v := ?_) (a' := ?_) #[true, true, true, true, true, false, false, false, false, false, false, false, false, false, false, false, false, false, false, false, false, false, false, false] rfl rfl (by kernel_rfl) (fun _ _ _ h => h) (Or.inl ⟨by rfl, ?_⟩) ?_ ?_
     rotate_left
     · intro w'
       go_simp
       with_reducible rfl
     rotate_left
     · simp only [Act.put, List.setIfInBounds_toArray, List.set_cons_zero, List.set_cons_succ, i64_w, i32_w]
       rfl
     refine pure_ (i := 5) (N := some 12) (v := ?_) (a' := ?_) #[true, true, true, true, true, true, false, false, false, false, false, false, false, false, false, false, false, false, false, false, false, false, false, false] rfl rfl (by kernel_rfl) (fun _ _ _ h => h) (Or.inl ⟨by rfl, ?_⟩) ?_ ?_
     rotate_left
     · intro w'
       go_simp
       with_reducible rfl
     rotate_left
     · simp only [Act.put, List.setIfInBounds_toArray, List.set_cons_zero, List.set_cons_succ, i64_w, i32_w]
       rfl
     refine one_ (i := 6) (N := some 13) #[true, true, true, true, true, true, true, false, false, false, false, false, false, false, false, false, false, false, false, false, false, false, false, false] rfl rfl (by kernel_rfl) (by decide) (fun K hK => ?_)
     obtain ⟨h0, HA, HF⟩ := hHeld
     obtain ⟨P1, S1, H1⟩ := HA.out
     refine goes_ Try.func32 (by kernel_rfl) rfl #[.pointer (some ⟨p, 0, none⟩), .int .i64 (j : Int)] (by rfl) rfl rfl (by simp only [List.map_toArray, List.map_cons, List.map_nil]; rfl) ?_
     with_reducible refine (has_calls p bP bS m P1 S1 (j : Int) _ H1).mono ?_
     rintro e w3 ⟨he, rfl⟩
     refine ⟨_, he, ?_⟩
     rw [KB.out]
     refine hK.out _ _ ⟨h0, HA, HF⟩ (fun hHeld => ?_)
     clear hK K
     refine norm_ (a' := ?_) ?_ ?_
     rotate_left
     · show Act.put _ (some 13) _ = _
       simp only [Act.put, List.setIfInBounds_toArray, List.set_cons_zero, List.set_cons_succ, i64_w, i32_w]
       rfl
     refine pure_ (i := 7) (N := some 14) (v := ?_) (a' := ?_) #[true, true, true, true, true, true, true, true, false, false, false, false, false, false, false, false, false, false, false, false, false, false, false, false] rfl rfl (by kernel_rfl) (fun _ _ _ h => h) (Or.inl ⟨by rfl, ?_⟩) ?_ ?_
     rotate_left
     · intro w'
       go_simp
       with_reducible rfl
     rotate_left
     · simp only [Act.put, List.setIfInBounds_toArray, List.set_cons_zero, List.set_cons_succ, i64_w, i32_w]
       rfl
     refine pure_ (i := 8) (N := some 15) (v := ?_) (a' := ?_) #[true, true, true, true, true, true, true, true, true, false, false, false, false, false, false, false, false, false, false, false, false, false, false, false] rfl rfl (by kernel_rfl) (fun _ _ _ h => h) (Or.inl ⟨by rfl, ?_⟩) ?_ ?_
     rotate_left
     · intro w'
       go_simp
       with_reducible rfl
     rotate_left
     · simp only [Act.put, List.setIfInBounds_toArray, List.set_cons_zero, List.set_cons_succ, i64_w, i32_w]
       rfl
     refine pure_ (i := 9) (N := some 16) (v := ?_) (a' := ?_) #[true, true, true, true, true, true, true, true, true, true, false, false, false, false, false, false, false, false, false, false, false, false, false, false] rfl rfl (by kernel_rfl) (fun _ _ _ h => h) (Or.inl ⟨by rfl, ?_⟩) ?_ ?_
     rotate_left
     · intro w'
       go_simp
       with_reducible rfl
     rotate_left
     · simp only [Act.put, List.setIfInBounds_toArray, List.set_cons_zero, List.set_cons_succ, i64_w, i32_w]
       rfl
     refine pure_ (i := 10) (N := some 17) (v := ?_) (a' := ?_) #[true, true, true, true, true, true, true, true, true, true, true, false, false, false, false, false, false, false, false, false, false, false, false, false] rfl rfl (by kernel_rfl) (fun _ _ _ h => h) (Or.inl ⟨by rfl, ?_⟩) ?_ ?_
     rotate_left
     · intro w'
       go_simp
       with_reducible rfl
     rotate_left
     · simp only [Act.put, List.setIfInBounds_toArray, List.set_cons_zero, List.set_cons_succ, i64_w, i32_w]
       rfl
     refine pure_ (i := 11) (N := some 18) (v := ?_) (a' := ?_) #[true, true, true, true, true, true, true, true, true, true, true, true, false, false, false, false, false, false, false, false, false, false, false, false] rfl rfl (by kernel_rfl) (fun _ _ _ h => h) (Or.inl ⟨by rfl, ?_⟩) ?_ ?_
     rotate_left
     · intro w'
       go_simp
       with_reducible rfl
     rotate_left
     · simp only [Act.put, List.setIfInBounds_toArray, List.set_cons_zero, List.set_cons_succ, i64_w, i32_w]
       rfl
     refine pure_ (i := 13) (N := some 20) (v := ?_) (a' := ?_) #[true, true, true, true, true, true, true, true, true, true, true, true, false, true, false, false, false, false, false, false, false, false, false, false] rfl rfl (by kernel_rfl) (fun _ _ _ h => h) (Or.inl ⟨by rfl, ?_⟩) ?_ ?_
     rotate_left
     · intro w'
       go_simp
       with_reducible rfl
     rotate_left
     · simp only [Act.put, List.setIfInBounds_toArray, List.set_cons_zero, List.set_cons_succ, i64_w, i32_w]
       rfl
     refine pure_ (i := 15) (N := some 22) (v := ?_) (a' := ?_) #[true, true, true, true, true, true, true, true, true, true, true, true, false, true, false, true, false, false, false, false, false, false, false, false] rfl rfl (by kernel_rfl) (fun _ _ _ h => h) (Or.inl ⟨by rfl, ?_⟩) ?_ ?_
     rotate_left
     · intro w'
       go_simp
       with_reducible rfl
     rotate_left
     · simp only [Act.put, List.setIfInBounds_toArray, List.set_cons_zero, List.set_cons_succ, i64_w, i32_w]
       rfl
     refine pure_ (i := 16) (N := some 23) (v := ?_) (a' := ?_) #[true, true, true, true, true, true, true, true, true, true, true, true, false, true, false, true, true, false, false, false, false, false, false, false] rfl rfl (by kernel_rfl) (fun _ _ _ h => h) (Or.inl ⟨by rfl, ?_⟩) ?_ ?_
     rotate_left
     · intro w'
       go_simp
       with_reducible rfl
     rotate_left
     · simp only [Act.put, List.setIfInBounds_toArray, List.set_cons_zero, List.set_cons_succ, i64_w, i32_w]
       rfl
     refine pure_ (i := 17) (N := some 24) (v := ?_) (a' := ?_) #[true, true, true, true, true, true, true, true, true, true, true, true, false, true, false, true, true, true, false, false, false, false, false, false] rfl rfl (by kernel_rfl) (fun _ _ _ h => h) (Or.inl ⟨by rfl, ?_⟩) ?_ ?_
     rotate_left
     · intro w'
       go_simp
       with_reducible rfl
     rotate_left
     · simp only [Act.put, List.setIfInBounds_toArray, List.set_cons_zero, List.set_cons_succ, i64_w, i32_w]
       rfl
     refine pure_ (i := 19) (N := some 26) (v := ?_) (a' := ?_) #[true, true, true, true, true, true, true, true, true, true, true, true, false, true, false, true, true, true, false, true, false, false, false, false] rfl rfl (by kernel_rfl) (fun _ _ _ h => h) (Or.inl ⟨by rfl, ?_⟩) ?_ ?_
     rotate_left
     · intro w'
       go_simp
       with_reducible rfl
     rotate_left
     · simp only [Act.put, List.setIfInBounds_toArray, List.set_cons_zero, List.set_cons_succ, i64_w, i32_w]
       rfl
     refine take_ (i := 12) (N := some 19) (v := ?_) (a' := ?_) #[true, true, true, true, true, true, true, true, true, true, true, true, true, true, false, true, true, true, false, true, false, false, false, false] rfl rfl (by kernel_rfl) (fun _ _ _ h => h) (Or.inl ⟨by rfl, ?_⟩) hHeld ?_ ?_
     rotate_left
     · rintro w' ⟨s0, s1, s2⟩
       go_simp
       with_reducible rfl
     rotate_left
     · simp only [Act.put, List.setIfInBounds_toArray, List.set_cons_zero, List.set_cons_succ, i64_w, i32_w]
       rfl
     refine take_ (i := 18) (N := some 25) (v := ?_) (a' := ?_) #[true, true, true, true, true, true, true, true, true, true, true, true, true, true, false, true, true, true, true, true, false, false, false, false] rfl rfl (by kernel_rfl) (fun _ _ _ h => h) (Or.inl ⟨by rfl, ?_⟩) hHeld ?_ ?_
     rotate_left
     · rintro w' ⟨s0, s1, s2⟩
       go_simp
       with_reducible rfl
     rotate_left
     · simp only [Act.put, List.setIfInBounds_toArray, List.set_cons_zero, List.set_cons_succ, i64_w, i32_w]
       rfl
     refine one_ (i := 14) (N := some 21) #[true, true, true, true, true, true, true, true, true, true, true, true, true, true, true, true, true, true, true, true, false, false, false, false] rfl rfl (by kernel_rfl) (by decide) (fun K hK => ?_)
     obtain ⟨h0, HA, HF⟩ := hHeld
     obtain ⟨P1, S1, H1⟩ := HA.out
     refine goes_ Try.func33 (by kernel_rfl) rfl #[.slice (some ⟨bP, 0, none⟩) m.length m.length, .int .i64 (i : Int)] (by rfl) rfl rfl (by simp only [List.map_toArray, List.map_cons, List.map_nil]; rfl) ?_
     with_reducible refine (root_calls bP m.length m.length i _ P1 m _ H1.par H1.rep hi rfl H1.small).mono ?_
     rintro e w3 ⟨rfl, hc⟩
     refine ⟨_, rfl, ?_⟩
     obtain ⟨Q, h1, h2⟩ := H1.climbed hc
     clear hc
     refine hK.out _ _ ⟨h1.cell0, ⟨⟨Q, S1, h1⟩⟩, ⟨HF.out.trans h2⟩⟩ (fun hHeld => ?_)
     clear hK K
     refine norm_ (a' := ?_) ?_ ?_
     rotate_left
     · show Act.put _ (some 21) _ = _
       simp only [Act.put, List.setIfInBounds_toArray, List.set_cons_zero, List.set_cons_succ, i64_w, i32_w]
       rfl
     refine one_ (i := 20) (N := some 27) #[true, true, true, true, true, true, true, true, true, true, true, true, true, true, true, true, true, true, true, true, true, false, false, false] rfl rfl (by kernel_rfl) (by decide) (fun K hK => ?_)
     obtain ⟨h0, HA, HF⟩ := hHeld
     obtain ⟨P1, S1, H1⟩ := HA.out
     refine goes_ Try.func33 (by kernel_rfl) rfl #[.slice (some ⟨bP, 0, none⟩) m.length m.length, .int .i64 (j : Int)] (by rfl) rfl rfl (by simp only [List.map_toArray, List.map_cons, List.map_nil]; rfl) ?_
     with_reducible refine (root_calls bP m.length m.length j _ P1 m _ H1.par H1.rep hj rfl H1.small).mono ?_
     rintro e w3 ⟨rfl, hc⟩
     refine ⟨_, rfl, ?_⟩
     obtain ⟨Q, h1, h2⟩ := H1.climbed hc
     clear hc
     refine hK.out _ _ ⟨h1.cell0, ⟨⟨Q, S1, h1⟩⟩, ⟨HF.out.trans h2⟩⟩ (fun hHeld => ?_)
     clear hK K
     refine norm_ (a' := ?_) ?_ ?_
     rotate_left
     · show Act.put _ (some 27) _ = _
       simp only [Act.put, List.setIfInBounds_toArray, List.set_cons_zero, List.set_cons_succ, i64_w, i32_w]
       rfl
     refine pure_ (i := 21) (N := some 28) (v := ?_) (a' := ?_) #[true, true, true, true, true, true, true, true, true, true, true, true, true, true, true, true, true, true, true, true, true, true, false, false] rfl rfl (by kernel_rfl) (fun _ _ _ h => h) (Or.inl ⟨by rfl, ?_⟩) ?_ ?_
     rotate_left
     · intro w'
       go_simp
       with_reducible rfl
     rotate_left
     · simp only [Act.put, List.setIfInBounds_toArray, List.set_cons_zero, List.set_cons_succ, i64_w, i32_w]
       rfl
     refine pure_ (i := 22) (N := some 29) (v := ?_) (a' := ?_) #[true, true, true, true, true, true, true, true, true, true, true, true, true, true, true, true, true, true, true, true, true, true, true, false] rfl rfl (by kernel_rfl) (fun _ _ _ h => h) (Or.inl ⟨by rfl, ?_⟩) ?_ ?_
     rotate_left
     · intro w'
       go_simp
       with_reducible rfl
     rotate_left
     · simp only [Act.put, List.setIfInBounds_toArray, List.set_cons_zero, List.set_cons_succ, i64_w, i32_w]
       rfl
     refine pure_ (i := 23) (N := some 6) (v := ?_) (a' := ?_) #[true, true, true, true, true, true, true, true, true, true, true, true, true, true, true, true, true, true, true, true, true, true, true, true] rfl rfl (by kernel_rfl) (fun _ _ _ h => h) (Or.inl ⟨by rfl, ?_⟩) ?_ ?_
     rotate_left
     · intro w'
       go_simp
       with_reducible rfl
     rotate_left
     · simp only [Act.put, List.setIfInBounds_toArray, List.set_cons_zero, List.set_cons_succ, i64_w, i32_w]
       rfl
     refine done_ (by kernel_rfl) ?_
     obtain ⟨_, HA, HF⟩ := hHeld
     go_wp2
     go_ret
     exact ⟨by rw [E.out, ← beq_cast]; rfl, HA.out, HF.out⟩
def sizeOf (m : List Nat) (a : Int) : Int := if ok m a then ((many m (gt m a.toNat) : Nat) : Int) else 0
set_option maxHeartbeats 1000000 in
set_option maxRecDepth 100000 in
theorem size_calls (p bP bS : Nat) (m P S : List Nat) (a : Int) (w : World) (h : AtPS w p bP bS m P S) :
   Calls Try.prog 26 #[.pointer (some ⟨p, 0, none⟩), .int .i64 a] w fun e w' => e = .returned (.int .i64 (sizeOf m a)) ∧ Now p bP bS m w w' := by
 have H := Aside0.mk h
 clear h
 cases hk : ok m a
 · have e : sizeOf m a = 0 := by simp [sizeOf, hk]
   have E := Aside0.mk e
   have K := Aside0.mk hk
   clear e hk
   go_enter Try.func26, Try.ntmps26
   go_wp2_with (go_at_call 32; refine (has_calls _ _ _ _ _ _ _ _ H.out).mono ?_; rw [K.out]; rintro e w' ⟨rfl, rfl⟩)
   go_ret
   exact ⟨by rw [E.out]; rfl, ⟨P, S, H.out⟩, Frame.refl _ _⟩
 · obtain ⟨i, rfl, hi⟩ := ok_nat hk
   have e : sizeOf m (i : Int) = ((many m (gt m i) : Nat) : Int) := by simp [sizeOf, hk]
   have E := Aside0.mk e
   have K := Aside0.mk hk
   have hml := H.out.rep.ml hi
   have hr : gt m i < m.length := by omega
   have hm := H.out.small
   clear e hk hml
   go_enter Try.func26, Try.ntmps26
   go_wp2_with (go_at_call 32; refine (has_calls _ _ _ _ _ _ _ _ H.out).mono ?_; rw [K.out]; rintro e w' ⟨rfl, rfl⟩)
   refine start_ (n := 13) (S := fun w' => w'.cell? ⟨p, 0, none⟩ = some (.slice (some ⟨bP, 0, none⟩) m.length m.length) ∧ w'.cell? ⟨p, 1, none⟩ = some (.slice (some ⟨bS, 0, none⟩) m.length m.length) ∧ w'.cell? ⟨bS, gt m i, none⟩ = some (.int .i64 ((many m (gt m i) : Nat) : Int)) ∧ Aside0 (At w' p bP bS m) ∧ Aside0 (Frame (Own p bP bS) w w')) (ds := []) #[false, false, false, false, false, false, false, false, false, false, false, false, false] (by kernel_rfl) rfl rfl ⟨H.out.drew.cell0, H.out.drew.cell1, H.out.drew.cellS hi, ⟨⟨P, S, H.out.drew⟩⟩, ⟨(Frame.refl _ _).drew⟩⟩ (fun hHeld => ?_)
   refine pure_ (i := 0) (N := some 9) (v := ?_) (a' := ?_) #[true, false, false, false, false, false, false, false, false, false, false, false, false] rfl rfl (by kernel_rfl) (fun _ _ _ h => h) (Or.inl ⟨by rfl, ?_⟩) ?_ ?_
   rotate_left
   · intro w'
     go_simp
     with_reducible rfl
   rotate_left
   · simp only [Act.put, List.setIfInBounds_toArray, List.set_cons_zero, List.set_cons_succ, i64_w, i32_w]
     rfl
   refine pure_ (i := 1) (N := some 10) (v := ?_) (a' := ?_) #[true, true, false, false, false, false, false, false, false, false, false, false, false] rfl rfl (by kernel_rfl) (fun _ _ _ h => h) (Or.inl ⟨by rfl, ?_⟩) ?_ ?_
   rotate_left
   · intro w'
     go_simp
     with_reducible rfl
   rotate_left
   · simp only [Act.put, List.setIfInBounds_toArray, List.set_cons_zero, List.set_cons_succ, i64_w, i32_w]
     rfl
   refine pure_ (i := 2) (N := some 11) (v := ?_) (a' := ?_) #[true, true, true, false, false, false, false, false, false, false, false, false, false] rfl rfl (by kernel_rfl) (fun _ _ _ h => h) (Or.inl ⟨by rfl, ?_⟩) ?_ ?_
   rotate_left
   · intro w'
     go_simp
     with_reducible rfl
   rotate_left
   · simp only [Act.put, List.setIfInBounds_toArray, List.set_cons_zero, List.set_cons_succ, i64_w, i32_w]
     rfl
   refine pure_ (i := 4) (N := some 13) (v := ?_) (a' := ?_) #[true, true, true, false, true, false, false, false, false, false, false, false, false] rfl rfl (by kernel_rfl) (fun _ _ _ h => h) (Or.inl ⟨by rfl, ?_⟩) ?_ ?_
   rotate_left
   · intro w'
     go_simp
     with_reducible rfl
   rotate_left
   · simp only [Act.put, List.setIfInBounds_toArray, List.set_cons_zero, List.set_cons_succ, i64_w, i32_w]
     rfl
   refine pure_ (i := 5) (N := some 14) (v := ?_) (a' := ?_) #[true, true, true, false, true, true, false, false, false, false, false, false, false] rfl rfl (by kernel_rfl) (fun _ _ _ h => h) (Or.inl ⟨by rfl, ?_⟩) ?_ ?_
   rotate_left
   · intro w'
     go_simp
     with_reducible rfl
   rotate_left
   · simp only [Act.put, List.setIfInBounds_toArray, List.set_cons_zero, List.set_cons_succ, i64_w, i32_w]
     rfl
   refine pure_ (i := 6) (N := some 15) (v := ?_) (a' := ?_) #[true, true, true, false, true, true, true, false, false, false, false, false, false] rfl rfl (by kernel_rfl) (fun _ _ _ h => h) (Or.inl ⟨by rfl, ?_⟩) ?_ ?_
   rotate_left
   · intro w'
     go_simp
     with_reducible rfl
   rotate_left
   · simp only [Act.put, List.setIfInBounds_toArray, List.set_cons_zero, List.set_cons_succ, i64_w, i32_w]
     rfl
   refine pure_ (i := 8) (N := some 17) (v := ?_) (a' := ?_) #[true, true, true, false, true, true, true, false, true, false, false, false, false] rfl rfl (by kernel_rfl) (fun _ _ _ h => h) (Or.inl ⟨by rfl, ?_⟩) ?_ ?_
   rotate_left
   · intro w'
     go_simp
     with_reducible rfl
   rotate_left
   · simp only [Act.put, List.setIfInBounds_toArray, List.set_cons_zero, List.set_cons_succ, i64_w, i32_w]
     rfl
   refine take_ (i := 3) (N := some 12) (v := ?_) (a' := ?_) #[true, true, true, true, true, true, true, false, true, false, false, false, false] rfl rfl (by kernel_rfl) (fun _ _ _ h => h) (Or.inl ⟨by rfl, ?_⟩) hHeld ?_ ?_
   rotate_left
   · rintro w' ⟨s0, s1, s2, s3, s4⟩
     go_simp
     with_reducible rfl
   rotate_left
   · simp only [Act.put, List.setIfInBounds_toArray, List.set_cons_zero, List.set_cons_succ, i64_w, i32_w]
     rfl
   refine take_ (i := 7) (N := some 16) (v := ?_) (a' := ?_) #[true, true, true, true, true, true, true, true, true, false, false, false, false] rfl rfl (by kernel_rfl) (fun _ _ _ h => h) (Or.inl ⟨by rfl, ?_⟩) hHeld ?_ ?_
   rotate_left
   · rintro w' ⟨s0, s1, s2, s3, s4⟩
     go_simp
     with_reducible rfl
   rotate_left
   · simp only [Act.put, List.setIfInBounds_toArray, List.set_cons_zero, List.set_cons_succ, i64_w, i32_w]
     rfl
   refine one_ (i := 9) (N := some 18) #[true, true, true, true, true, true, true, true, true, true, false, false, false] rfl rfl (by kernel_rfl) (by decide) (fun K hK => ?_)
   obtain ⟨h0, h9, h8, HA, HF⟩ := hHeld
   obtain ⟨P1, S1, H1⟩ := HA.out
   refine goes_ Try.func33 (by kernel_rfl) rfl #[.slice (some ⟨bP, 0, none⟩) m.length m.length, .int .i64 (i : Int)] (by rfl) rfl rfl (by simp only [List.map_toArray, List.map_cons, List.map_nil]; rfl) ?_
   with_reducible refine (root_calls bP m.length m.length i _ P1 m _ H1.par H1.rep hi rfl H1.small).mono ?_
   rintro e w3 ⟨rfl, hc⟩
   refine ⟨_, rfl, ?_⟩
   obtain ⟨Q, h1, h2⟩ := H1.climbed hc
   clear hc
   refine hK.out _ _ ⟨h1.cell0, h1.cell1, h1.cellS hi, ⟨⟨Q, S1, h1⟩⟩, ⟨HF.out.trans h2⟩⟩ (fun hHeld => ?_)
   clear hK K
   refine norm_ (a' := ?_) ?_ ?_
   rotate_left
   · show Act.put _ (some 18) _ = _
     simp only [Act.put, List.setIfInBounds_toArray, List.set_cons_zero, List.set_cons_succ, i64_w, i32_w]
     rfl
   refine pure_ (i := 10) (N := some 19) (v := ?_) (a' := ?_) #[true, true, true, true, true, true, true, true, true, true, true, false, false] rfl rfl (by kernel_rfl) (fun _ _ _ h => h) (Or.inl ⟨by rfl, ?_⟩) ?_ ?_
   rotate_left
   · intro w'
     go_simp
     with_reducible rfl
   rotate_left
   · simp only [Act.put, List.setIfInBounds_toArray, List.set_cons_zero, List.set_cons_succ, i64_w, i32_w]
     rfl
   refine take_ (i := 11) (N := some 20) (v := ?_) (a' := ?_) #[true, true, true, true, true, true, true, true, true, true, true, true, false] rfl rfl (by kernel_rfl) (fun _ _ _ h => h) (Or.inl ⟨by rfl, ?_⟩) hHeld ?_ ?_
   rotate_left
   · rintro w' ⟨s0, s1, s2, s3, s4⟩
     go_simp
     with_reducible rfl
   rotate_left
   · simp only [Act.put, List.setIfInBounds_toArray, List.set_cons_zero, List.set_cons_succ, i64_w, i32_w]
     rfl
   refine pure_ (i := 12) (N := some 4) (v := ?_) (a' := ?_) #[true, true, true, true, true, true, true, true, true, true, true, true, true] rfl rfl (by kernel_rfl) (fun _ _ _ h => h) (Or.inl ⟨by rfl, ?_⟩) ?_ ?_
   rotate_left
   · intro w'
     go_simp
     with_reducible rfl
   rotate_left
   · simp only [Act.put, List.setIfInBounds_toArray, List.set_cons_zero, List.set_cons_succ, i64_w, i32_w]
     rfl
   refine done_ (by kernel_rfl) ?_
   obtain ⟨_, _, _, HA, HF⟩ := hHeld
   go_wp2
   go_ret
   exact ⟨by rw [E.out]; rfl, HA.out, HF.out⟩
def joinOf (m : List Nat) (a b : Int) : List Nat × Bool :=
 if (ok m a && ok m b && (gt m a.toNat != gt m b.toNat)) = true then (glue (min (gt m a.toNat) (gt m b.toNat)) (max (gt m a.toNat) (gt m b.toNat)) m, true) else (m, false)
end Go.Proofs.Ytoajoklpbfehiaa.Sets
namespace Go.Proofs.Ytoajoklpbfehiaa.Sets
open Go.RowKit Go.Proofs.YtoajoklpbfehiaaW.PrintWords Go.Proofs.YtoajoklpbfehiaaW.PrintLast Go.Proofs.YtoajoklpbfehiaaW.PrintMore
attribute [local go_sem] max2_int min2_int max_two min_two
set_option linter.unusedVariables false
set_option linter.unusedSimpArgs false
theorem joinOf_no {m : List Nat} {a b : Int} (h : (ok m a && ok m b && (gt m a.toNat != gt m b.toNat)) = false) : joinOf m a b = (m, false) := by
 unfold joinOf; rw [h]; rfl
set_option maxHeartbeats 1000000 in
set_option maxRecDepth 100000 in
theorem join_no (p bP bS : Nat) (m P S : List Nat) (a b : Int) (w : World) (h : AtPS w p bP bS m P S) (hno : (ok m a && ok m b) = false) :
   Calls Try.prog 17 #[.pointer (some ⟨p, 0, none⟩), .int .i64 a, .int .i64 b] w fun e w' => e = .returned (.bool (joinOf m a b).2) ∧ Now p bP bS (joinOf m a b).1 w w' := by
 have H := Aside0.mk h
 clear h
 rw [joinOf_no (by rw [hno]; rfl)]
 cases ha : ok m a
 · have Q1 := Aside0.mk (fun W => has_keep (p := p) (bP := bP) (bS := bS) (P := P) (S := S) ha W)
   clear ha hno
   go_enter Try.func17, Try.ntmps17
   go_wp2_with (go_at_call 32; refine (Q1.out _ H.out).mono ?_; rintro e w' ⟨rfl, rfl⟩)
   go_ret
   exact ⟨rfl, ⟨P, S, H.out⟩, Frame.refl _ _⟩
 · have hb : ok m b = false := by rw [ha] at hno; simpa using hno
   obtain ⟨i, rfl, hi⟩ := ok_nat ha
   have Q1 := Aside0.mk (fun W => has_keep (p := p) (bP := bP) (bS := bS) (P := P) (S := S) ha W)
   have Q2 := Aside0.mk (fun W => has_keep (p := p) (bP := bP) (bS := bS) (P := P) (S := S) hb W)
   clear ha hb hno
   go_enter Try.func17, Try.ntmps17
   go_wp2_with (go_at_call 32; (first | (with_reducible refine (Q1.out _ H.out).mono ?_) | (with_reducible refine (Q2.out _ H.out).mono ?_)); rintro e w' ⟨rfl, rfl⟩)
   go_ret
   exact ⟨rfl, ⟨P, S, H.out⟩, Frame.refl _ _⟩
set_option maxHeartbeats 1000000 in
set_option maxRecDepth 100000 in
theorem join_same (p bP bS : Nat) (m P S : List Nat) (i j : Nat) (w : World) (h : AtPS w p bP bS m P S) (hi : i < m.length) (hj : j < m.length) (hs : gt m i = gt m j) :
   Calls Try.prog 17 #[.pointer (some ⟨p, 0, none⟩), .int .i64 (i : Int), .int .i64 (j : Int)] w fun e w' => e = .returned (.bool (joinOf m i j).2) ∧ Now p bP bS (joinOf m i j).1 w w' := by
 have H := Aside0.mk h
 clear h
 rw [joinOf_no (by simp [hs])]
 have Q1 := Aside0.mk (fun W => has_keep (p := p) (bP := bP) (bS := bS) (P := P) (S := S) (ok_of hi) W)
 have Q2 := Aside0.mk (fun W => has_keep (p := p) (bP := bP) (bS := bS) (P := P) (S := S) (ok_of hj) W)
 have ht : ((gt m i : Int) == (gt m j : Int)) = true := by rw [hs]; simp
 clear hs
 go_enter Try.func17, Try.ntmps17
 go_wp2_with (go_at_call 32; (first | (with_reducible refine (Q1.out _ H.out).mono ?_) | (with_reducible refine (Q2.out _ H.out).mono ?_)); rintro e w' ⟨rfl, rfl⟩)
 refine start_ (n := 14) (S := fun w' => w'.cell? ⟨p, 0, none⟩ = some (.slice (some ⟨bP, 0, none⟩) m.length m.length) ∧ Aside0 (At w' p bP bS m) ∧ Aside0 (Frame (Own p bP bS) w w')) (ds := []) #[false, false, false, false, false, false, false, false, false, false, false, false, false, false] (by kernel_rfl) rfl rfl ⟨H.out.drew.cell0, ⟨⟨P, S, H.out.drew⟩⟩, ⟨(Frame.refl _ _).drew⟩⟩ (fun hHeld => ?_)
 refine pure_ (i := 0) (N := some 19) (v := ?_) (a' := ?_) #[true, false, false, false, false, false, false, false, false, false, false, false, false, false] rfl rfl (by kernel_rfl) (fun _ _ _ h => h) (Or.inl ⟨by rfl, ?_⟩) ?_ ?_
 rotate_left
 · intro w'
   go_simp
   with_reducible rfl
 rotate_left
 · simp only [Act.put, List.setIfInBounds_toArray, List.set_cons_zero, List.set_cons_succ, i64_w, i32_w]
   rfl
 refine pure_ (i := 1) (N := some 20) (v := ?_) (a' := ?_) #[true, true, false, false, false, false, false, false, false, false, false, false, false, false] rfl rfl (by kernel_rfl) (fun _ _ _ h => h) (Or.inl ⟨by rfl, ?_⟩) ?_ ?_
 rotate_left
 · intro w'
   go_simp
   with_reducible rfl
 rotate_left
 · simp only [Act.put, List.setIfInBounds_toArray, List.set_cons_zero, List.set_cons_succ, i64_w, i32_w]
   rfl
 refine pure_ (i := 2) (N := some 21) (v := ?_) (a' := ?_) #[true, true, true, false, false, false, false, false, false, false, false, false, false, false] rfl rfl (by kernel_rfl) (fun _ _ _ h => h) (Or.inl ⟨by rfl, ?_⟩) ?_ ?_
 rotate_left
 · intro w'
   go_simp
   with_reducible rfl
 rotate_left
 · simp only [Act.put, List.setIfInBounds_toArray, List.set_cons_zero, List.set_cons_succ, i64_w, i32_w]
   rfl
 refine pure_ (i := 4) (N := some 23) (v := ?_) (a' := ?_) #[true, true, true, false, true, false, false, false, false, false, false, false, false, false] rfl rfl (by kernel_rfl) (fun _ _ _ h => h) (Or.inl ⟨by rfl, ?_⟩) ?_ ?_
 rotate_left
 · intro w'
   go_simp
   with_reducible rfl
 rotate_left
 · simp only [Act.put, List.setIfInBounds_toArray, List.set_cons_zero, List.set_cons_succ, i64_w, i32_w]
   rfl
 refine pure_ (i := 6) (N := some 25) (v := ?_) (a' := ?_) #[true, true, true, false, true, false, true, false, false, false, false, false, false, false] rfl rfl (by kernel_rfl) (fun _ _ _ h => h) (Or.inl ⟨by rfl, ?_⟩) ?_ ?_
 rotate_left
 · intro w'
   go_simp
   with_reducible rfl
 rotate_left
 · simp only [Act.put, List.setIfInBounds_toArray, List.set_cons_zero, List.set_cons_succ, i64_w, i32_w]
   rfl
 refine pure_ (i := 7) (N := some 26) (v := ?_) (a' := ?_) #[true, true, true, false, true, false, true, true, false, false, false, false, false, false] rfl rfl (by kernel_rfl) (fun _ _ _ h => h) (Or.inl ⟨by rfl, ?_⟩) ?_ ?_
 rotate_left
 · intro w'
   go_simp
   with_reducible rfl
 rotate_left
 · simp only [Act.put, List.setIfInBounds_toArray, List.set_cons_zero, List.set_cons_succ, i64_w, i32_w]
   rfl
 refine pure_ (i := 8) (N := some 27) (v := ?_) (a' := ?_) #[true, true, true, false, true, false, true, true, true, false, false, false, false, false] rfl rfl (by kernel_rfl) (fun _ _ _ h => h) (Or.inl ⟨by rfl, ?_⟩) ?_ ?_
 rotate_left
 · intro w'
   go_simp
   with_reducible rfl
 rotate_left
 · simp only [Act.put, List.setIfInBounds_toArray, List.set_cons_zero, List.set_cons_succ, i64_w, i32_w]
   rfl
 refine pure_ (i := 10) (N := some 29) (v := ?_) (a' := ?_) #[true, true, true, false, true, false, true, true, true, false, true, false, false, false] rfl rfl (by kernel_rfl) (fun _ _ _ h => h) (Or.inl ⟨by rfl, ?_⟩) ?_ ?_
 rotate_left
 · intro w'
   go_simp
   with_reducible rfl
 rotate_left
 · simp only [Act.put, List.setIfInBounds_toArray, List.set_cons_zero, List.set_cons_succ, i64_w, i32_w]
   rfl
 refine take_ (i := 3) (N := some 22) (v := ?_) (a' := ?_) #[true, true, true, true, true, false, true, true, true, false, true, false, false, false] rfl rfl (by kernel_rfl) (fun _ _ _ h => h) (Or.inl ⟨by rfl, ?_⟩) hHeld ?_ ?_
 rotate_left
 · rintro w' ⟨s0, s1, s2⟩
   go_simp
   with_reducible rfl
 rotate_left
 · simp only [Act.put, List.setIfInBounds_toArray, List.set_cons_zero, List.set_cons_succ, i64_w, i32_w]
   rfl
 refine take_ (i := 9) (N := some 28) (v := ?_) (a' := ?_) #[true, true, true, true, true, false, true, true, true, true, true, false, false, false] rfl rfl (by kernel_rfl) (fun _ _ _ h => h) (Or.inl ⟨by rfl, ?_⟩) hHeld ?_ ?_
 rotate_left
 · rintro w' ⟨s0, s1, s2⟩
   go_simp
   with_reducible rfl
 rotate_left
 · simp only [Act.put, List.setIfInBounds_toArray, List.set_cons_zero, List.set_cons_succ, i64_w, i32_w]
   rfl
 refine one_ (i := 5) (N := some 24) #[true, true, true, true, true, true, true, true, true, true, true, false, false, false] rfl rfl (by kernel_rfl) (by decide) (fun K hK => ?_)
 obtain ⟨h0, HA, HF⟩ := hHeld
 obtain ⟨P1, S1, H1⟩ := HA.out
 refine goes_ Try.func33 (by kernel_rfl) rfl #[.slice (some ⟨bP, 0, none⟩) m.length m.length, .int .i64 (i : Int)] (by rfl) rfl rfl (by simp only [List.map_toArray, List.map_cons, List.map_nil]; rfl) ?_
 with_reducible refine (root_calls bP m.length m.length i _ P1 m _ H1.par H1.rep hi rfl H1.small).mono ?_
 rintro e w3 ⟨rfl, hc⟩
 refine ⟨_, rfl, ?_⟩
 obtain ⟨Q, h1, h2⟩ := H1.climbed hc
 clear hc
 refine hK.out _ _ ⟨h1.cell0, ⟨⟨Q, S1, h1⟩⟩, ⟨HF.out.trans h2⟩⟩ (fun hHeld => ?_)
 clear hK K
 refine norm_ (a' := ?_) ?_ ?_
 rotate_left
 · show Act.put _ (some 24) _ = _
   simp only [Act.put, List.setIfInBounds_toArray, List.set_cons_zero, List.set_cons_succ, i64_w, i32_w]
   rfl
 refine one_ (i := 11) (N := some 30) #[true, true, true, true, true, true, true, true, true, true, true, true, false, false] rfl rfl (by kernel_rfl) (by decide) (fun K hK => ?_)
 obtain ⟨h0, HA, HF⟩ := hHeld
 obtain ⟨P1, S1, H1⟩ := HA.out
 refine goes_ Try.func33 (by kernel_rfl) rfl #[.slice (some ⟨bP, 0, none⟩) m.length m.length, .int .i64 (j : Int)] (by rfl) rfl rfl (by simp only [List.map_toArray, List.map_cons, List.map_nil]; rfl) ?_
 with_reducible refine (root_calls bP m.length m.length j _ P1 m _ H1.par H1.rep hj rfl H1.small).mono ?_
 rintro e w3 ⟨rfl, hc⟩
 refine ⟨_, rfl, ?_⟩
 obtain ⟨Q, h1, h2⟩ := H1.climbed hc
 clear hc
 refine hK.out _ _ ⟨h1.cell0, ⟨⟨Q, S1, h1⟩⟩, ⟨HF.out.trans h2⟩⟩ (fun hHeld => ?_)
 clear hK K
 refine norm_ (a' := ?_) ?_ ?_
 rotate_left
 · show Act.put _ (some 30) _ = _
   simp only [Act.put, List.setIfInBounds_toArray, List.set_cons_zero, List.set_cons_succ, i64_w, i32_w]
   rfl
 refine pure_ (i := 12) (N := some 7) (v := ?_) (a' := ?_) #[true, true, true, true, true, true, true, true, true, true, true, true, true, false] rfl rfl (by kernel_rfl) (fun _ _ _ h => h) (Or.inl ⟨by rfl, ?_⟩) ?_ ?_
 rotate_left
 · intro w'
   go_simp
   with_reducible rfl
 rotate_left
 · simp only [Act.put, List.setIfInBounds_toArray, List.set_cons_zero, List.set_cons_succ, i64_w, i32_w]
   rfl
 refine pure_ (i := 13) (N := some 8) (v := ?_) (a' := ?_) #[true, true, true, true, true, true, true, true, true, true, true, true, true, true] rfl rfl (by kernel_rfl) (fun _ _ _ h => h) (Or.inl ⟨by rfl, ?_⟩) ?_ ?_
 rotate_left
 · intro w'
   go_simp
   with_reducible rfl
 rotate_left
 · simp only [Act.put, List.setIfInBounds_toArray, List.set_cons_zero, List.set_cons_succ, i64_w, i32_w]
   rfl
 refine done_ (by kernel_rfl) ?_
 obtain ⟨_, HA, HF⟩ := hHeld
 go_wp2
 go_ret
 exact ⟨rfl, HA.out, HF.out⟩
structure MidPS (w : World) (p bP bS n : Nat) (P S : List Nat) (c : Nat) : Prop where
 obj : w.heap[p]? = some (.cells #[.slice (some ⟨bP, 0, none⟩) n n, .slice (some ⟨bS, 0, none⟩) n n, .int .i64 (c : Int)] 68 (0, 0))
 par : w.heap[bP]? = some (.cells (nv P) 3 (0, 0))
 siz : w.heap[bS]? = some (.cells (nv S) 3 (0, 0))
 ne1 : p ≠ bP
 ne2 : p ≠ bS
 ne3 : bP ≠ bS
theorem heap_setCell_ne {w : World} {b i k : Nat} {v : Value} {o : Obj} (h : w.heap[k]? = some o) (hk : k ≠ b) : (w.setCell ⟨b, i, none⟩ v).heap[k]? = some o := by
 rw [Below.heap_setCell _ _ _ _ hk]; exact h
theorem AtPS.mid {w : World} {p bP bS : Nat} {m P S : List Nat} (h : AtPS w p bP bS m P S) : MidPS w p bP bS m.length P S (sets m) := ⟨h.obj, h.par, h.siz, h.ne1, h.ne2, h.ne3⟩
theorem MidPS.drew {w : World} {p bP bS n c : Nat} {P S : List Nat} (h : MidPS w p bP bS n P S c) : MidPS w.drew p bP bS n P S c := ⟨h.obj, h.par, h.siz, h.ne1, h.ne2, h.ne3⟩
theorem MidPS.setPar {w : World} {p bP bS n c : Nat} {P S : List Nat} (h : MidPS w p bP bS n P S c) (i x : Nat) : MidPS (w.setCell ⟨bP, i, none⟩ (.int .i64 (x : Int))) p bP bS n (P.set i x) S c :=
 ⟨heap_setCell_ne h.obj h.ne1, blk_set_nv h.par, heap_setCell_ne h.siz (Ne.symm h.ne3), h.ne1, h.ne2, h.ne3⟩
theorem MidPS.setSiz {w : World} {p bP bS n c : Nat} {P S : List Nat} (h : MidPS w p bP bS n P S c) (i x : Nat) : MidPS (w.setCell ⟨bS, i, none⟩ (.int .i64 (x : Int))) p bP bS n P (S.set i x) c :=
 ⟨heap_setCell_ne h.obj h.ne2, heap_setCell_ne h.par h.ne3, blk_set_nv h.siz, h.ne1, h.ne2, h.ne3⟩
theorem MidPS.setCount {w : World} {p bP bS n c : Nat} {P S : List Nat} (h : MidPS w p bP bS n P S c) (x : Nat) : MidPS (w.setCell ⟨p, 2, none⟩ (.int .i64 (x : Int))) p bP bS n P S x :=
 ⟨by rw [blk_setCell h.obj]; rfl, heap_setCell_ne h.par (Ne.symm h.ne1), heap_setCell_ne h.siz (Ne.symm h.ne2), h.ne1, h.ne2, h.ne3⟩
theorem MidPS.cell0 {w : World} {p bP bS n c : Nat} {P S : List Nat} (h : MidPS w p bP bS n P S c) : w.cell? ⟨p, 0, none⟩ = some (.slice (some ⟨bP, 0, none⟩) n n) := (blk_cell h.obj 0).trans rfl
theorem MidPS.cell1 {w : World} {p bP bS n c : Nat} {P S : List Nat} (h : MidPS w p bP bS n P S c) : w.cell? ⟨p, 1, none⟩ = some (.slice (some ⟨bS, 0, none⟩) n n) := (blk_cell h.obj 1).trans rfl
theorem MidPS.cell2 {w : World} {p bP bS n c : Nat} {P S : List Nat} (h : MidPS w p bP bS n P S c) : w.cell? ⟨p, 2, none⟩ = some (.int .i64 (c : Int)) := (blk_cell h.obj 2).trans rfl
set_option maxHeartbeats 1000000 in
set_option maxRecDepth 100000 in
theorem join_lt (p bP bS : Nat) (m P S : List Nat) (i j : Nat) (w : World) (h : AtPS w p bP bS m P S) (hi : i < m.length) (hj : j < m.length) (hlt : gt m i < gt m j) :
   Calls Try.prog 17 #[.pointer (some ⟨p, 0, none⟩), .int .i64 (i : Int), .int .i64 (j : Int)] w fun e w' => e = .returned (.bool true) ∧ Now p bP bS (glue (gt m i) (gt m j) m) w w' := by
 have H := Aside0.mk h
 have Q1 := Aside0.mk (fun W => has_keep (p := p) (bP := bP) (bS := bS) (P := P) (S := S) (ok_of hi) W)
 have Q2 := Aside0.mk (fun W => has_keep (p := p) (bP := bP) (bS := bS) (P := P) (S := S) (ok_of hj) W)
 have ht : ((gt m i : Int) == (gt m j : Int)) = false := by simp only [beq_eq_false_iff_ne]; omega
 have HL := Aside0.mk (h.rep.mm hi)
 have HH := Aside0.mk (h.rep.mm hj)
 have hlo : gt m i < m.length := by have := h.rep.ml hi; omega
 have hhi : gt m j < m.length := by have := h.rep.ml hj; omega
 have hsm := h.small
 clear h
 go_enter Try.func17, Try.ntmps17
 go_wp2_with (go_at_call 32; (first | (with_reducible refine (Q1.out _ H.out).mono ?_) | (with_reducible refine (Q2.out _ H.out).mono ?_)); rintro e w' ⟨rfl, rfl⟩)
 refine start_ (n := 14) (S := fun w' => w'.cell? ⟨p, 0, none⟩ = some (.slice (some ⟨bP, 0, none⟩) m.length m.length) ∧ Aside0 (At w' p bP bS m) ∧ Aside0 (Frame (Own p bP bS) w w')) (ds := []) #[false, false, false, false, false, false, false, false, false, false, false, false, false, false] (by kernel_rfl) rfl rfl ⟨H.out.drew.cell0, ⟨⟨P, S, H.out.drew⟩⟩, ⟨(Frame.refl _ _).drew⟩⟩ (fun hHeld => ?_)
 refine pure_ (i := 0) (N := some 19) (v := ?_) (a' := ?_) #[true, false, false, false, false, false, false, false, false, false, false, false, false, false] rfl rfl (by kernel_rfl) (fun _ _ _ h => h) (Or.inl ⟨by rfl, ?_⟩) ?_ ?_
 rotate_left
 · intro w'
   go_simp
   with_reducible rfl
 rotate_left
 · simp only [Act.put, List.setIfInBounds_toArray, List.set_cons_zero, List.set_cons_succ, i64_w, i32_w]
   rfl
 refine pure_ (i := 1) (N := some 20) (v := ?_) (a' := ?_) #[true, true, false, false, false, false, false, false, false, false, false, false, false, false] rfl rfl (by kernel_rfl) (fun _ _ _ h => h) (Or.inl ⟨by rfl, ?_⟩) ?_ ?_
 rotate_left
 · intro w'
   go_simp
   with_reducible rfl
 rotate_left
 · simp only [Act.put, List.setIfInBounds_toArray, List.set_cons_zero, List.set_cons_succ, i64_w, i32_w]
   rfl
 refine pure_ (i := 2) (N := some 21) (v := ?_) (a' := ?_) #[true, true, true, false, false, false, false, false, false, false, false, false, false, false] rfl rfl (by kernel_rfl) (fun _ _ _ h => h) (Or.inl ⟨by rfl, ?_⟩) ?_ ?_
 rotate_left
 · intro w'
   go_simp
   with_reducible rfl
 rotate_left
 · simp only [Act.put, List.setIfInBounds_toArray, List.set_cons_zero, List.set_cons_succ, i64_w, i32_w]
   rfl
 refine pure_ (i := 4) (N := some 23) (v := ?_) (a' := ?_) #[true, true, true, false, true, false, false, false, false, false, false, false, false, false] rfl rfl (by kernel_rfl) (fun _ _ _ h => h) (Or.inl ⟨by rfl, ?_⟩) ?_ ?_
 rotate_left
 · intro w'
   go_simp
   with_reducible rfl
 rotate_left
 · simp only [Act.put, List.setIfInBounds_toArray, List.set_cons_zero, List.set_cons_succ, i64_w, i32_w]
   rfl
 refine pure_ (i := 6) (N := some 25) (v := ?_) (a' := ?_) #[true, true, true, false, true, false, true, false, false, false, false, false, false, false] rfl rfl (by kernel_rfl) (fun _ _ _ h => h) (Or.inl ⟨by rfl, ?_⟩) ?_ ?_
 rotate_left
 · intro w'
   go_simp
   with_reducible rfl
 rotate_left
 · simp only [Act.put, List.setIfInBounds_toArray, List.set_cons_zero, List.set_cons_succ, i64_w, i32_w]
   rfl
 refine pure_ (i := 7) (N := some 26) (v := ?_) (a' := ?_) #[true, true, true, false, true, false, true, true, false, false, false, false, false, false] rfl rfl (by kernel_rfl) (fun _ _ _ h => h) (Or.inl ⟨by rfl, ?_⟩) ?_ ?_
 rotate_left
 · intro w'
   go_simp
   with_reducible rfl
 rotate_left
 · simp only [Act.put, List.setIfInBounds_toArray, List.set_cons_zero, List.set_cons_succ, i64_w, i32_w]
   rfl
 refine pure_ (i := 8) (N := some 27) (v := ?_) (a' := ?_) #[true, true, true, false, true, false, true, true, true, false, false, false, false, false] rfl rfl (by kernel_rfl) (fun _ _ _ h => h) (Or.inl ⟨by rfl, ?_⟩) ?_ ?_
 rotate_left
 · intro w'
   go_simp
   with_reducible rfl
 rotate_left
 · simp only [Act.put, List.setIfInBounds_toArray, List.set_cons_zero, List.set_cons_succ, i64_w, i32_w]
   rfl
 refine pure_ (i := 10) (N := some 29) (v := ?_) (a' := ?_) #[true, true, true, false, true, false, true, true, true, false, true, false, false, false] rfl rfl (by kernel_rfl) (fun _ _ _ h => h) (Or.inl ⟨by rfl, ?_⟩) ?_ ?_
 rotate_left
 · intro w'
   go_simp
   with_reducible rfl
 rotate_left
 · simp only [Act.put, List.setIfInBounds_toArray, List.set_cons_zero, List.set_cons_succ, i64_w, i32_w]
   rfl
 refine take_ (i := 3) (N := some 22) (v := ?_) (a' := ?_) #[true, true, true, true, true, false, true, true, true, false, true, false, false, false] rfl rfl (by kernel_rfl) (fun _ _ _ h => h) (Or.inl ⟨by rfl, ?_⟩) hHeld ?_ ?_
 rotate_left
 · rintro w' ⟨s0, s1, s2⟩
   go_simp
   with_reducible rfl
 rotate_left
 · simp only [Act.put, List.setIfInBounds_toArray, List.set_cons_zero, List.set_cons_succ, i64_w, i32_w]
   rfl
 refine take_ (i := 9) (N := some 28) (v := ?_) (a' := ?_) #[true, true, true, true, true, false, true, true, true, true, true, false, false, false] rfl rfl (by kernel_rfl) (fun _ _ _ h => h) (Or.inl ⟨by rfl, ?_⟩) hHeld ?_ ?_
 rotate_left
 · rintro w' ⟨s0, s1, s2⟩
   go_simp
   with_reducible rfl
 rotate_left
 · simp only [Act.put, List.setIfInBounds_toArray, List.set_cons_zero, List.set_cons_succ, i64_w, i32_w]
   rfl
 refine one_ (i := 5) (N := some 24) #[true, true, true, true, true, true, true, true, true, true, true, false, false, false] rfl rfl (by kernel_rfl) (by decide) (fun K hK => ?_)
 obtain ⟨h0, HA, HF⟩ := hHeld
 obtain ⟨P1, S1, H1⟩ := HA.out
 refine goes_ Try.func33 (by kernel_rfl) rfl #[.slice (some ⟨bP, 0, none⟩) m.length m.length, .int .i64 (i : Int)] (by rfl) rfl rfl (by simp only [List.map_toArray, List.map_cons, List.map_nil]; rfl) ?_
 with_reducible refine (root_calls bP m.length m.length i _ P1 m _ H1.par H1.rep hi rfl H1.small).mono ?_
 rintro e w3 ⟨rfl, hc⟩
 refine ⟨_, rfl, ?_⟩
 obtain ⟨Q, h1, h2⟩ := H1.climbed hc
 clear hc
 refine hK.out _ _ ⟨h1.cell0, ⟨⟨Q, S1, h1⟩⟩, ⟨HF.out.trans h2⟩⟩ (fun hHeld => ?_)
 clear hK K
 refine norm_ (a' := ?_) ?_ ?_
 rotate_left
 · show Act.put _ (some 24) _ = _
   simp only [Act.put, List.setIfInBounds_toArray, List.set_cons_zero, List.set_cons_succ, i64_w, i32_w]
   rfl
 refine one_ (i := 11) (N := some 30) #[true, true, true, true, true, true, true, true, true, true, true, true, false, false] rfl rfl (by kernel_rfl) (by decide) (fun K hK => ?_)
 obtain ⟨h0, HA, HF⟩ := hHeld
 obtain ⟨P1, S1, H1⟩ := HA.out
 refine goes_ Try.func33 (by kernel_rfl) rfl #[.slice (some ⟨bP, 0, none⟩) m.length m.length, .int .i64 (j : Int)] (by rfl) rfl rfl (by simp only [List.map_toArray, List.map_cons, List.map_nil]; rfl) ?_
 with_reducible refine (root_calls bP m.length m.length j _ P1 m _ H1.par H1.rep hj rfl H1.small).mono ?_
 rintro e w3 ⟨rfl, hc⟩
 refine ⟨_, rfl, ?_⟩
 obtain ⟨Q, h1, h2⟩ := H1.climbed hc
 clear hc
 refine hK.out _ _ ⟨h1.cell0, ⟨⟨Q, S1, h1⟩⟩, ⟨HF.out.trans h2⟩⟩ (fun hHeld => ?_)
 clear hK K
 refine norm_ (a' := ?_) ?_ ?_
 rotate_left
 · show Act.put _ (some 30) _ = _
   simp only [Act.put, List.setIfInBounds_toArray, List.set_cons_zero, List.set_cons_succ, i64_w, i32_w]
   rfl
 refine pure_ (i := 12) (N := some 7) (v := ?_) (a' := ?_) #[true, true, true, true, true, true, true, true, true, true, true, true, true, false] rfl rfl (by kernel_rfl) (fun _ _ _ h => h) (Or.inl ⟨by rfl, ?_⟩) ?_ ?_
 rotate_left
 · intro w'
   go_simp
   with_reducible rfl
 rotate_left
 · simp only [Act.put, List.setIfInBounds_toArray, List.set_cons_zero, List.set_cons_succ, i64_w, i32_w]
   rfl
 refine pure_ (i := 13) (N := some 8) (v := ?_) (a' := ?_) #[true, true, true, true, true, true, true, true, true, true, true, true, true, true] rfl rfl (by kernel_rfl) (fun _ _ _ h => h) (Or.inl ⟨by rfl, ?_⟩) ?_ ?_
 rotate_left
 · intro w'
   go_simp
   with_reducible rfl
 rotate_left
 · simp only [Act.put, List.setIfInBounds_toArray, List.set_cons_zero, List.set_cons_succ, i64_w, i32_w]
   rfl
 refine done_ (by kernel_rfl) ?_
 obtain ⟨h0, HA, HF⟩ := hHeld
 obtain ⟨P1, S1, H1⟩ := HA.out
 have H2 := Aside0.mk H1
 clear H1 HA H Q1 Q2
 have hf := blk_free H2.out.par (gt m j)
 have hol := nv_cell H2.out.par (i := gt m j) (by have := H2.out.rep.len; omega)
 have hpair := many_pair m (r := gt m i) (s := gt m j) (by omega)
 have HG := Aside0.mk (sets_glue H2.out.rep hhi hlt HL.out HH.out)
 have hsets := sets_le m
 go_wp2
 have M1 := Aside0.mk (H2.out.mid.setPar (gt m j) (gt m i))
 have hwr : IntKind.i64.wrap ((many m (gt m i) : Int) + (many m (gt m j) : Int)) = (many m (gt m i) : Int) + (many m (gt m j) : Int) := IntWalk.i64_in _ (by omega)
 refine start_ (n := 17) (S := fun w' => w'.cell? ⟨p, 1, none⟩ = some (.slice (some ⟨bS, 0, none⟩) m.length m.length) ∧ w'.cell? ⟨bS, gt m i, none⟩ = some (.int .i64 ((many m (gt m i) : Nat) : Int)) ∧ w'.cell? ⟨bS, gt m j, none⟩ = some (.int .i64 ((many m (gt m j) : Nat) : Int)) ∧ w'.frozen? ⟨bS, gt m i, none⟩ = false) (ds := [16]) #[false, false, false, false, false, false, false, false, false, false, false, false, false, false, false, false, false] (by kernel_rfl) rfl rfl ⟨M1.out.drew.cell1, by rw [nv_cell M1.out.drew.siz (by have := H2.out.sized.len; omega), H2.out.sized.size _ hlo HL.out], by rw [nv_cell M1.out.drew.siz (by have := H2.out.sized.len; omega), H2.out.sized.size _ hhi HH.out], blk_free M1.out.drew.siz _⟩ (fun hHeld => ?_)
 refine pure_ (i := 0) (N := some 47) (v := ?_) (a' := ?_) #[true, false, false, false, false, false, false, false, false, false, false, false, false, false, false, false, false] rfl rfl (by kernel_rfl) (fun _ _ _ h => h) (Or.inl ⟨by rfl, ?_⟩) ?_ ?_
 rotate_left
 · intro w'
   go_simp
   with_reducible rfl
 rotate_left
 · simp only [Act.put, List.setIfInBounds_toArray, List.set_cons_zero, List.set_cons_succ, i64_w, i32_w]
   rfl
 refine pure_ (i := 1) (N := some 48) (v := ?_) (a' := ?_) #[true, true, false, false, false, false, false, false, false, false, false, false, false, false, false, false, false] rfl rfl (by kernel_rfl) (fun _ _ _ h => h) (Or.inl ⟨by rfl, ?_⟩) ?_ ?_
 rotate_left
 · intro w'
   go_simp
   with_reducible rfl
 rotate_left
 · simp only [Act.put, List.setIfInBounds_toArray, List.set_cons_zero, List.set_cons_succ, i64_w, i32_w]
   rfl
 refine pure_ (i := 2) (N := some 49) (v := ?_) (a' := ?_) #[true, true, true, false, false, false, false, false, false, false, false, false, false, false, false, false, false] rfl rfl (by kernel_rfl) (fun _ _ _ h => h) (Or.inl ⟨by rfl, ?_⟩) ?_ ?_
 rotate_left
 · intro w'
   go_simp
   with_reducible rfl
 rotate_left
 · simp only [Act.put, List.setIfInBounds_toArray, List.set_cons_zero, List.set_cons_succ, i64_w, i32_w]
   rfl
 refine pure_ (i := 4) (N := some 51) (v := ?_) (a' := ?_) #[true, true, true, false, true, false, false, false, false, false, false, false, false, false, false, false, false] rfl rfl (by kernel_rfl) (fun _ _ _ h => h) (Or.inl ⟨by rfl, ?_⟩) ?_ ?_
 rotate_left
 · intro w'
   go_simp
   with_reducible rfl
 rotate_left
 · simp only [Act.put, List.setIfInBounds_toArray, List.set_cons_zero, List.set_cons_succ, i64_w, i32_w]
   rfl
 refine pure_ (i := 7) (N := some 54) (v := ?_) (a' := ?_) #[true, true, true, false, true, false, false, true, false, false, false, false, false, false, false, false, false] rfl rfl (by kernel_rfl) (fun _ _ _ h => h) (Or.inl ⟨by rfl, ?_⟩) ?_ ?_
 rotate_left
 · intro w'
   go_simp
   with_reducible rfl
 rotate_left
 · simp only [Act.put, List.setIfInBounds_toArray, List.set_cons_zero, List.set_cons_succ, i64_w, i32_w]
   rfl
 refine pure_ (i := 8) (N := some 55) (v := ?_) (a' := ?_) #[true, true, true, false, true, false, false, true, true, false, false, false, false, false, false, false, false] rfl rfl (by kernel_rfl) (fun _ _ _ h => h) (Or.inl ⟨by rfl, ?_⟩) ?_ ?_
 rotate_left
 · intro w'
   go_simp
   with_reducible rfl
 rotate_left
 · simp only [Act.put, List.setIfInBounds_toArray, List.set_cons_zero, List.set_cons_succ, i64_w, i32_w]
   rfl
 refine pure_ (i := 9) (N := some 56) (v := ?_) (a' := ?_) #[true, true, true, false, true, false, false, true, true, true, false, false, false, false, false, false, false] rfl rfl (by kernel_rfl) (fun _ _ _ h => h) (Or.inl ⟨by rfl, ?_⟩) ?_ ?_
 rotate_left
 · intro w'
   go_simp
   with_reducible rfl
 rotate_left
 · simp only [Act.put, List.setIfInBounds_toArray, List.set_cons_zero, List.set_cons_succ, i64_w, i32_w]
   rfl
 refine pure_ (i := 11) (N := some 58) (v := ?_) (a' := ?_) #[true, true, true, false, true, false, false, true, true, true, false, true, false, false, false, false, false] rfl rfl (by kernel_rfl) (fun _ _ _ h => h) (Or.inl ⟨by rfl, ?_⟩) ?_ ?_
 rotate_left
 · intro w'
   go_simp
   with_reducible rfl
 rotate_left
 · simp only [Act.put, List.setIfInBounds_toArray, List.set_cons_zero, List.set_cons_succ, i64_w, i32_w]
   rfl
 refine take_ (i := 3) (N := some 50) (v := ?_) (a' := ?_) #[true, true, true, true, true, false, false, true, true, true, false, true, false, false, false, false, false] rfl rfl (by kernel_rfl) (fun _ _ _ h => h) (Or.inl ⟨by rfl, ?_⟩) hHeld ?_ ?_
 rotate_left
 · rintro w' ⟨s0, s1, s2, s3⟩
   go_simp
   with_reducible rfl
 rotate_left
 · simp only [Act.put, List.setIfInBounds_toArray, List.set_cons_zero, List.set_cons_succ, i64_w, i32_w]
   rfl
 refine pure_ (i := 5) (N := some 52) (v := ?_) (a' := ?_) #[true, true, true, true, true, true, false, true, true, true, false, true, false, false, false, false, false] rfl rfl (by kernel_rfl) (fun _ _ _ h => h) (Or.inl ⟨by rfl, ?_⟩) ?_ ?_
 rotate_left
 · intro w'
   go_simp
   with_reducible rfl
 rotate_left
 · simp only [Act.put, List.setIfInBounds_toArray, List.set_cons_zero, List.set_cons_succ, i64_w, i32_w]
   rfl
 refine take_ (i := 6) (N := some 53) (v := ?_) (a' := ?_) #[true, true, true, true, true, true, true, true, true, true, false, true, false, false, false, false, false] rfl rfl (by kernel_rfl) (fun _ _ _ h => h) (Or.inl ⟨by rfl, ?_⟩) hHeld ?_ ?_
 rotate_left
 · rintro w' ⟨s0, s1, s2, s3⟩
   go_simp
   with_reducible rfl
 rotate_left
 · simp only [Act.put, List.setIfInBounds_toArray, List.set_cons_zero, List.set_cons_succ, i64_w, i32_w]
   rfl
 refine take_ (i := 10) (N := some 57) (v := ?_) (a' := ?_) #[true, true, true, true, true, true, true, true, true, true, true, true, false, false, false, false, false] rfl rfl (by kernel_rfl) (fun _ _ _ h => h) (Or.inl ⟨by rfl, ?_⟩) hHeld ?_ ?_
 rotate_left
 · rintro w' ⟨s0, s1, s2, s3⟩
   go_simp
   with_reducible rfl
 rotate_left
 · simp only [Act.put, List.setIfInBounds_toArray, List.set_cons_zero, List.set_cons_succ, i64_w, i32_w]
   rfl
 refine pure_ (i := 12) (N := some 59) (v := ?_) (a' := ?_) #[true, true, true, true, true, true, true, true, true, true, true, true, true, false, false, false, false] rfl rfl (by kernel_rfl) (fun _ _ _ h => h) (Or.inl ⟨by rfl, ?_⟩) ?_ ?_
 rotate_left
 · intro w'
   go_simp
   with_reducible rfl
 rotate_left
 · simp only [Act.put, List.setIfInBounds_toArray, List.set_cons_zero, List.set_cons_succ, i64_w, i32_w]
   rfl
 refine take_ (i := 13) (N := some 60) (v := ?_) (a' := ?_) #[true, true, true, true, true, true, true, true, true, true, true, true, true, true, false, false, false] rfl rfl (by kernel_rfl) (fun _ _ _ h => h) (Or.inl ⟨by rfl, ?_⟩) hHeld ?_ ?_
 rotate_left
 · rintro w' ⟨s0, s1, s2, s3⟩
   go_simp
   with_reducible rfl
 rotate_left
 · simp only [Act.put, List.setIfInBounds_toArray, List.set_cons_zero, List.set_cons_succ, i64_w, i32_w]
   rfl
 refine pure_ (i := 14) (N := some 61) (v := ?_) (a' := ?_) #[true, true, true, true, true, true, true, true, true, true, true, true, true, true, true, false, false] rfl rfl (by kernel_rfl) (fun _ _ _ h => h) (Or.inl ⟨by rfl, ?_⟩) ?_ ?_
 rotate_left
 · intro w'
   go_simp
   with_reducible rfl
 rotate_left
 · simp only [Act.put, List.setIfInBounds_toArray, List.set_cons_zero, List.set_cons_succ, i64_w, i32_w]
   rfl
 refine pure_ (i := 15) (N := some 62) (v := ?_) (a' := ?_) #[true, true, true, true, true, true, true, true, true, true, true, true, true, true, true, true, false] rfl rfl (by kernel_rfl) (fun _ _ _ h => h) (Or.inl ⟨by rfl, ?_⟩) ?_ ?_
 rotate_left
 · intro w'
   go_simp
   with_reducible rfl
 rotate_left
 · simp only [Act.put, List.setIfInBounds_toArray, List.set_cons_zero, List.set_cons_succ, i64_w, i32_w]
   rfl
 refine last_ (i := 16) (N := none) #[true, true, true, true, true, true, true, true, true, true, true, true, true, true, true, true, true] rfl rfl (by kernel_rfl) (by decide) (fun K hK => ?_)
 obtain ⟨h3, h4, h5, h6⟩ := hHeld
 refine skip_ (w1 := ?_) (by rfl) rfl ?_ ?_
 rotate_left
 · go_simp
   rfl
 refine hK.out _ _ ?_
 clear hK K
 refine done_ (by kernel_rfl) ?_
 have M2 := Aside0.mk (M1.out.setSiz (gt m i) (many m (gt m i) + many m (gt m j))).drew
 clear hwr
 have e3 : (many m (gt m i) : Int) + (many m (gt m j) : Int) = ((many m (gt m i) + many m (gt m j) : Nat) : Int) := by omega
 rw [e3]
 have F2 := Aside0.mk (((HF.out.setCell (p := ⟨bP, gt m j, none⟩) (.inr (.inl rfl)) (.int .i64 ((gt m i : Nat) : Int)))).setCell (p := ⟨bS, gt m i, none⟩) (.inr (.inr rfl)) (.int .i64 ((many m (gt m i) + many m (gt m j) : Nat) : Int))).drew
 generalize (((w3.setCell ⟨bP, gt m j, none⟩ (.int .i64 ((gt m i : Nat) : Int)))).setCell ⟨bS, gt m i, none⟩ (.int .i64 ((many m (gt m i) + many m (gt m j) : Nat) : Int))).drew = w5 at M2 F2 ⊢
 clear e3
 have h9 := M2.out.cell2
 have h10 := blk_free M2.out.obj 2
 go_wp2
 go_ret
 have hg := HG.out
 have e4 : (sets m : Int) - 1 = ((sets (glue (gt m i) (gt m j) m) : Nat) : Int) := by omega
 have M3 := M2.out.setCount (sets (glue (gt m i) (gt m j) m))
 rw [← e4] at M3
 refine ⟨rfl, ⟨_, _, ⟨?_, M3.par, M3.siz, M3.ne1, M3.ne2, M3.ne3, ?_, H2.out.rep.glue hhi hlt HL.out HH.out, ?_⟩⟩, ?_⟩
 · rw [glue_length]; exact M3.obj
 · rw [glue_length]; exact hsm
 · have := H2.out.sized.glue hhi hlt HL.out HH.out
   rwa [H2.out.sized.size _ hlo HL.out, H2.out.sized.size _ hhi HH.out] at this
 · exact F2.out.setCell (p := ⟨p, 2, none⟩) (.inl rfl) _
set_option maxHeartbeats 1000000 in
set_option maxRecDepth 100000 in
theorem join_gt (p bP bS : Nat) (m P S : List Nat) (i j : Nat) (w : World) (h : AtPS w p bP bS m P S) (hi : i < m.length) (hj : j < m.length) (hlt : gt m j < gt m i) :
   Calls Try.prog 17 #[.pointer (some ⟨p, 0, none⟩), .int .i64 (i : Int), .int .i64 (j : Int)] w fun e w' => e = .returned (.bool true) ∧ Now p bP bS (glue (gt m j) (gt m i) m) w w' := by
 have H := Aside0.mk h
 have Q1 := Aside0.mk (fun W => has_keep (p := p) (bP := bP) (bS := bS) (P := P) (S := S) (ok_of hi) W)
 have Q2 := Aside0.mk (fun W => has_keep (p := p) (bP := bP) (bS := bS) (P := P) (S := S) (ok_of hj) W)
 have ht : ((gt m i : Int) == (gt m j : Int)) = false := by simp only [beq_eq_false_iff_ne]; omega
 have HL := Aside0.mk (h.rep.mm hj)
 have HH := Aside0.mk (h.rep.mm hi)
 have hlo : gt m j < m.length := by have := h.rep.ml hj; omega
 have hhi : gt m i < m.length := by have := h.rep.ml hi; omega
 have hsm := h.small
 clear h
 go_enter Try.func17, Try.ntmps17
 go_wp2_with (go_at_call 32; (first | (with_reducible refine (Q1.out _ H.out).mono ?_) | (with_reducible refine (Q2.out _ H.out).mono ?_)); rintro e w' ⟨rfl, rfl⟩)
 refine start_ (n := 14) (S := fun w' => w'.cell? ⟨p, 0, none⟩ = some (.slice (some ⟨bP, 0, none⟩) m.length m.length) ∧ Aside0 (At w' p bP bS m) ∧ Aside0 (Frame (Own p bP bS) w w')) (ds := []) #[false, false, false, false, false, false, false, false, false, false, false, false, false, false] (by kernel_rfl) rfl rfl ⟨H.out.drew.cell0, ⟨⟨P, S, H.out.drew⟩⟩, ⟨(Frame.refl _ _).drew⟩⟩ (fun hHeld => ?_)
 refine pure_ (i := 0) (N := some 19) (v := ?_) (a' := ?_) #[true, false, false, false, false, false, false, false, false, false, false, false, false, false] rfl rfl (by kernel_rfl) (fun _ _ _ h => h) (Or.inl ⟨by rfl, ?_⟩) ?_ ?_
 rotate_left
 · intro w'
   go_simp
   with_reducible rfl
 rotate_left
 · simp only [Act.put, List.setIfInBounds_toArray, List.set_cons_zero, List.set_cons_succ, i64_w, i32_w]
   rfl
 refine pure_ (i := 1) (N := some 20) (v := ?_) (a' := ?_) #[true, true, false, false, false, false, false, false, false, false, false, false, false, false] rfl rfl (by kernel_rfl) (fun _ _ _ h => h) (Or.inl ⟨by rfl, ?_⟩) ?_ ?_
 rotate_left
 · intro w'
   go_simp
   with_reducible rfl
 rotate_left
 · simp only [Act.put, List.setIfInBounds_toArray, List.set_cons_zero, List.set_cons_succ, i64_w, i32_w]
   rfl
 refine pure_ (i := 2) (N := some 21) (v := ?_) (a' := ?_) #[true, true, true, false, false, false, false, false, false, false, false, false, false, false] rfl rfl (by kernel_rfl) (fun _ _ _ h => h) (Or.inl ⟨by rfl, ?_⟩) ?_ ?_
 rotate_left
 · intro w'
   go_simp
   with_reducible rfl
 rotate_left
 · simp only [Act.put, List.setIfInBounds_toArray, List.set_cons_zero, List.set_cons_succ, i64_w, i32_w]
   rfl
 refine pure_ (i := 4) (N := some 23) (v := ?_) (a' := ?_) #[true, true, true, false, true, false, false, false, false, false, false, false, false, false] rfl rfl (by kernel_rfl) (fun _ _ _ h => h) (Or.inl ⟨by rfl, ?_⟩) ?_ ?_
 rotate_left
 · intro w'
   go_simp
   with_reducible rfl
 rotate_left
 · simp only [Act.put, List.setIfInBounds_toArray, List.set_cons_zero, List.set_cons_succ, i64_w, i32_w]
   rfl
 refine pure_ (i := 6) (N := some 25) (v := ?_) (a' := ?_) #[true, true, true, false, true, false, true, false, false, false, false, false, false, false] rfl rfl (by kernel_rfl) (fun _ _ _ h => h) (Or.inl ⟨by rfl, ?_⟩) ?_ ?_
 rotate_left
 · intro w'
   go_simp
   with_reducible rfl
 rotate_left
 · simp only [Act.put, List.setIfInBounds_toArray, List.set_cons_zero, List.set_cons_succ, i64_w, i32_w]
   rfl
 refine pure_ (i := 7) (N := some 26) (v := ?_) (a' := ?_) #[true, true, true, false, true, false, true, true, false, false, false, false, false, false] rfl rfl (by kernel_rfl) (fun _ _ _ h => h) (Or.inl ⟨by rfl, ?_⟩) ?_ ?_
 rotate_left
 · intro w'
   go_simp
   with_reducible rfl
 rotate_left
 · simp only [Act.put, List.setIfInBounds_toArray, List.set_cons_zero, List.set_cons_succ, i64_w, i32_w]
   rfl
 refine pure_ (i := 8) (N := some 27) (v := ?_) (a' := ?_) #[true, true, true, false, true, false, true, true, true, false, false, false, false, false] rfl rfl (by kernel_rfl) (fun _ _ _ h => h) (Or.inl ⟨by rfl, ?_⟩) ?_ ?_
 rotate_left
 · intro w'
   go_simp
   with_reducible rfl
 rotate_left
 · simp only [Act.put, List.setIfInBounds_toArray, List.set_cons_zero, List.set_cons_succ, i64_w, i32_w]
   rfl
 refine pure_ (i := 10) (N := some 29) (v := ?_) (a' := ?_) #[true, true, true, false, true, false, true, true, true, false, true, false, false, false] rfl rfl (by kernel_rfl) (fun _ _ _ h => h) (Or.inl ⟨by rfl, ?_⟩) ?_ ?_
 rotate_left
 · intro w'
   go_simp
   with_reducible rfl
 rotate_left
 · simp only [Act.put, List.setIfInBounds_toArray, List.set_cons_zero, List.set_cons_succ, i64_w, i32_w]
   rfl
 refine take_ (i := 3) (N := some 22) (v := ?_) (a' := ?_) #[true, true, true, true, true, false, true, true, true, false, true, false, false, false] rfl rfl (by kernel_rfl) (fun _ _ _ h => h) (Or.inl ⟨by rfl, ?_⟩) hHeld ?_ ?_
 rotate_left
 · rintro w' ⟨s0, s1, s2⟩
   go_simp
   with_reducible rfl
 rotate_left
 · simp only [Act.put, List.setIfInBounds_toArray, List.set_cons_zero, List.set_cons_succ, i64_w, i32_w]
   rfl
 refine take_ (i := 9) (N := some 28) (v := ?_) (a' := ?_) #[true, true, true, true, true, false, true, true, true, true, true, false, false, false] rfl rfl (by kernel_rfl) (fun _ _ _ h => h) (Or.inl ⟨by rfl, ?_⟩) hHeld ?_ ?_
 rotate_left
 · rintro w' ⟨s0, s1, s2⟩
   go_simp
   with_reducible rfl
 rotate_left
 · simp only [Act.put, List.setIfInBounds_toArray, List.set_cons_zero, List.set_cons_succ, i64_w, i32_w]
   rfl
 refine one_ (i := 5) (N := some 24) #[true, true, true, true, true, true, true, true, true, true, true, false, false, false] rfl rfl (by kernel_rfl) (by decide) (fun K hK => ?_)
 obtain ⟨h0, HA, HF⟩ := hHeld
 obtain ⟨P1, S1, H1⟩ := HA.out
 refine goes_ Try.func33 (by kernel_rfl) rfl #[.slice (some ⟨bP, 0, none⟩) m.length m.length, .int .i64 (i : Int)] (by rfl) rfl rfl (by simp only [List.map_toArray, List.map_cons, List.map_nil]; rfl) ?_
 with_reducible refine (root_calls bP m.length m.length i _ P1 m _ H1.par H1.rep hi rfl H1.small).mono ?_
 rintro e w3 ⟨rfl, hc⟩
 refine ⟨_, rfl, ?_⟩
 obtain ⟨Q, h1, h2⟩ := H1.climbed hc
 clear hc
 refine hK.out _ _ ⟨h1.cell0, ⟨⟨Q, S1, h1⟩⟩, ⟨HF.out.trans h2⟩⟩ (fun hHeld => ?_)
 clear hK K
 refine norm_ (a' := ?_) ?_ ?_
 rotate_left
 · show Act.put _ (some 24) _ = _
   simp only [Act.put, List.setIfInBounds_toArray, List.set_cons_zero, List.set_cons_succ, i64_w, i32_w]
   rfl
 refine one_ (i := 11) (N := some 30) #[true, true, true, true, true, true, true, true, true, true, true, true, false, false] rfl rfl (by kernel_rfl) (by decide) (fun K hK => ?_)
 obtain ⟨h0, HA, HF⟩ := hHeld
 obtain ⟨P1, S1, H1⟩ := HA.out
 refine goes_ Try.func33 (by kernel_rfl) rfl #[.slice (some ⟨bP, 0, none⟩) m.length m.length, .int .i64 (j : Int)] (by rfl) rfl rfl (by simp only [List.map_toArray, List.map_cons, List.map_nil]; rfl) ?_
 with_reducible refine (root_calls bP m.length m.length j _ P1 m _ H1.par H1.rep hj rfl H1.small).mono ?_
 rintro e w3 ⟨rfl, hc⟩
 refine ⟨_, rfl, ?_⟩
 obtain ⟨Q, h1, h2⟩ := H1.climbed hc
 clear hc
 refine hK.out _ _ ⟨h1.cell0, ⟨⟨Q, S1, h1⟩⟩, ⟨HF.out.trans h2⟩⟩ (fun hHeld => ?_)
 clear hK K
 refine norm_ (a' := ?_) ?_ ?_
 rotate_left
 · show Act.put _ (some 30) _ = _
   simp only [Act.put, List.setIfInBounds_toArray, List.set_cons_zero, List.set_cons_succ, i64_w, i32_w]
   rfl
 refine pure_ (i := 12) (N := some 7) (v := ?_) (a' := ?_) #[true, true, true, true, true, true, true, true, true, true, true, true, true, false] rfl rfl (by kernel_rfl) (fun _ _ _ h => h) (Or.inl ⟨by rfl, ?_⟩) ?_ ?_
 rotate_left
 · intro w'
   go_simp
   with_reducible rfl
 rotate_left
 · simp only [Act.put, List.setIfInBounds_toArray, List.set_cons_zero, List.set_cons_succ, i64_w, i32_w]
   rfl
 refine pure_ (i := 13) (N := some 8) (v := ?_) (a' := ?_) #[true, true, true, true, true, true, true, true, true, true, true, true, true, true] rfl rfl (by kernel_rfl) (fun _ _ _ h => h) (Or.inl ⟨by rfl, ?_⟩) ?_ ?_
 rotate_left
 · intro w'
   go_simp
   with_reducible rfl
 rotate_left
 · simp only [Act.put, List.setIfInBounds_toArray, List.set_cons_zero, List.set_cons_succ, i64_w, i32_w]
   rfl
 refine done_ (by kernel_rfl) ?_
 obtain ⟨h0, HA, HF⟩ := hHeld
 obtain ⟨P1, S1, H1⟩ := HA.out
 have H2 := Aside0.mk H1
 clear H1 HA H Q1 Q2
 have hf := blk_free H2.out.par (gt m i)
 have hol := nv_cell H2.out.par (i := gt m i) (by have := H2.out.rep.len; omega)
 have hpair := many_pair m (r := gt m j) (s := gt m i) (by omega)
 have HG := Aside0.mk (sets_glue H2.out.rep hhi hlt HL.out HH.out)
 have hsets := sets_le m
 go_wp2
 have M1 := Aside0.mk (H2.out.mid.setPar (gt m i) (gt m j))
 have hwr : IntKind.i64.wrap ((many m (gt m j) : Int) + (many m (gt m i) : Int)) = (many m (gt m j) : Int) + (many m (gt m i) : Int) := IntWalk.i64_in _ (by omega)
 refine start_ (n := 17) (S := fun w' => w'.cell? ⟨p, 1, none⟩ = some (.slice (some ⟨bS, 0, none⟩) m.length m.length) ∧ w'.cell? ⟨bS, gt m j, none⟩ = some (.int .i64 ((many m (gt m j) : Nat) : Int)) ∧ w'.cell? ⟨bS, gt m i, none⟩ = some (.int .i64 ((many m (gt m i) : Nat) : Int)) ∧ w'.frozen? ⟨bS, gt m j, none⟩ = false) (ds := [16]) #[false, false, false, false, false, false, false, false, false, false, false, false, false, false, false, false, false] (by kernel_rfl) rfl rfl ⟨M1.out.drew.cell1, by rw [nv_cell M1.out.drew.siz (by have := H2.out.sized.len; omega), H2.out.sized.size _ hlo HL.out], by rw [nv_cell M1.out.drew.siz (by have := H2.out.sized.len; omega), H2.out.sized.size _ hhi HH.out], blk_free M1.out.drew.siz _⟩ (fun hHeld => ?_)
 refine pure_ (i := 0) (N := some 47) (v := ?_) (a' := ?_) #[true, false, false, false, false, false, false, false, false, false, false, false, false, false, false, false, false] rfl rfl (by kernel_rfl) (fun _ _ _ h => h) (Or.inl ⟨by rfl, ?_⟩) ?_ ?_
 rotate_left
 · intro w'
   go_simp
   with_reducible rfl
 rotate_left
 · simp only [Act.put, List.setIfInBounds_toArray, List.set_cons_zero, List.set_cons_succ, i64_w, i32_w]
   rfl
 refine pure_ (i := 1) (N := some 48) (v := ?_) (a' := ?_) #[true, true, false, false, false, false, false, false, false, false, false, false, false, false, false, false, false] rfl rfl (by kernel_rfl) (fun _ _ _ h => h) (Or.inl ⟨by rfl, ?_⟩) ?_ ?_
 rotate_left
 · intro w'
   go_simp
   with_reducible rfl
 rotate_left
 · simp only [Act.put, List.setIfInBounds_toArray, List.set_cons_zero, List.set_cons_succ, i64_w, i32_w]
   rfl
 refine pure_ (i := 2) (N := some 49) (v := ?_) (a' := ?_) #[true, true, true, false, false, false, false, false, false, false, false, false, false, false, false, false, false] rfl rfl (by kernel_rfl) (fun _ _ _ h => h) (Or.inl ⟨by rfl, ?_⟩) ?_ ?_
 rotate_left
 · intro w'
   go_simp
   with_reducible rfl
 rotate_left
 · simp only [Act.put, List.setIfInBounds_toArray, List.set_cons_zero, List.set_cons_succ, i64_w, i32_w]
   rfl
 refine pure_ (i := 4) (N := some 51) (v := ?_) (a' := ?_) #[true, true, true, false, true, false, false, false, false, false, false, false, false, false, false, false, false] rfl rfl (by kernel_rfl) (fun _ _ _ h => h) (Or.inl ⟨by rfl, ?_⟩) ?_ ?_
 rotate_left
 · intro w'
   go_simp
   with_reducible rfl
 rotate_left
 · simp only [Act.put, List.setIfInBounds_toArray, List.set_cons_zero, List.set_cons_succ, i64_w, i32_w]
   rfl
 refine pure_ (i := 7) (N := some 54) (v := ?_) (a' := ?_) #[true, true, true, false, true, false, false, true, false, false, false, false, false, false, false, false, false] rfl rfl (by kernel_rfl) (fun _ _ _ h => h) (Or.inl ⟨by rfl, ?_⟩) ?_ ?_
 rotate_left
 · intro w'
   go_simp
   with_reducible rfl
 rotate_left
 · simp only [Act.put, List.setIfInBounds_toArray, List.set_cons_zero, List.set_cons_succ, i64_w, i32_w]
   rfl
 refine pure_ (i := 8) (N := some 55) (v := ?_) (a' := ?_) #[true, true, true, false, true, false, false, true, true, false, false, false, false, false, false, false, false] rfl rfl (by kernel_rfl) (fun _ _ _ h => h) (Or.inl ⟨by rfl, ?_⟩) ?_ ?_
 rotate_left
 · intro w'
   go_simp
   with_reducible rfl
 rotate_left
 · simp only [Act.put, List.setIfInBounds_toArray, List.set_cons_zero, List.set_cons_succ, i64_w, i32_w]
   rfl
 refine pure_ (i := 9) (N := some 56) (v := ?_) (a' := ?_) #[true, true, true, false, true, false, false, true, true, true, false, false, false, false, false, false, false] rfl rfl (by kernel_rfl) (fun _ _ _ h => h) (Or.inl ⟨by rfl, ?_⟩) ?_ ?_
 rotate_left
 · intro w'
   go_simp
   with_reducible rfl
 rotate_left
 · simp only [Act.put, List.setIfInBounds_toArray, List.set_cons_zero, List.set_cons_succ, i64_w, i32_w]
   rfl
 refine pure_ (i := 11) (N := some 58) (v := ?_) (a' := ?_) #[true, true, true, false, true, false, false, true, true, true, false, true, false, false, false, false, false] rfl rfl (by kernel_rfl) (fun _ _ _ h => h) (Or.inl ⟨by rfl, ?_⟩) ?_ ?_
 rotate_left
 · intro w'
   go_simp
   with_reducible rfl
 rotate_left
 · simp only [Act.put, List.setIfInBounds_toArray, List.set_cons_zero, List.set_cons_succ, i64_w, i32_w]
   rfl
 refine take_ (i := 3) (N := some 50) (v := ?_) (a' := ?_) #[true, true, true, true, true, false, false, true, true, true, false, true, false, false, false, false, false] rfl rfl (by kernel_rfl) (fun _ _ _ h => h) (Or.inl ⟨by rfl, ?_⟩) hHeld ?_ ?_
 rotate_left
 · rintro w' ⟨s0, s1, s2, s3⟩
   go_simp
   with_reducible rfl
 rotate_left
 · simp only [Act.put, List.setIfInBounds_toArray, List.set_cons_zero, List.set_cons_succ, i64_w, i32_w]
   rfl
 refine pure_ (i := 5) (N := some 52) (v := ?_) (a' := ?_) #[true, true, true, true, true, true, false, true, true, true, false, true, false, false, false, false, false] rfl rfl (by kernel_rfl) (fun _ _ _ h => h) (Or.inl ⟨by rfl, ?_⟩) ?_ ?_
 rotate_left
 · intro w'
   go_simp
   with_reducible rfl
 rotate_left
 · simp only [Act.put, List.setIfInBounds_toArray, List.set_cons_zero, List.set_cons_succ, i64_w, i32_w]
   rfl
 refine take_ (i := 6) (N := some 53) (v := ?_) (a' := ?_) #[true, true, true, true, true, true, true, true, true, true, false, true, false, false, false, false, false] rfl rfl (by kernel_rfl) (fun _ _ _ h => h) (Or.inl ⟨by rfl, ?_⟩) hHeld ?_ ?_
 rotate_left
 · rintro w' ⟨s0, s1, s2, s3⟩
   go_simp
   with_reducible rfl
 rotate_left
 · simp only [Act.put, List.setIfInBounds_toArray, List.set_cons_zero, List.set_cons_succ, i64_w, i32_w]
   rfl
 refine take_ (i := 10) (N := some 57) (v := ?_) (a' := ?_) #[true, true, true, true, true, true, true, true, true, true, true, true, false, false, false, false, false] rfl rfl (by kernel_rfl) (fun _ _ _ h => h) (Or.inl ⟨by rfl, ?_⟩) hHeld ?_ ?_
 rotate_left
 · rintro w' ⟨s0, s1, s2, s3⟩
   go_simp
   with_reducible rfl
 rotate_left
 · simp only [Act.put, List.setIfInBounds_toArray, List.set_cons_zero, List.set_cons_succ, i64_w, i32_w]
   rfl
 refine pure_ (i := 12) (N := some 59) (v := ?_) (a' := ?_) #[true, true, true, true, true, true, true, true, true, true, true, true, true, false, false, false, false] rfl rfl (by kernel_rfl) (fun _ _ _ h => h) (Or.inl ⟨by rfl, ?_⟩) ?_ ?_
 rotate_left
 · intro w'
   go_simp
   with_reducible rfl
 rotate_left
 · simp only [Act.put, List.setIfInBounds_toArray, List.set_cons_zero, List.set_cons_succ, i64_w, i32_w]
   rfl
 refine take_ (i := 13) (N := some 60) (v := ?_) (a' := ?_) #[true, true, true, true, true, true, true, true, true, true, true, true, true, true, false, false, false] rfl rfl (by kernel_rfl) (fun _ _ _ h => h) (Or.inl ⟨by rfl, ?_⟩) hHeld ?_ ?_
 rotate_left
 · rintro w' ⟨s0, s1, s2, s3⟩
   go_simp
   with_reducible rfl
 rotate_left
 · simp only [Act.put, List.setIfInBounds_toArray, List.set_cons_zero, List.set_cons_succ, i64_w, i32_w]
   rfl
 refine pure_ (i := 14) (N := some 61) (v := ?_) (a' := ?_) #[true, true, true, true, true, true, true, true, true, true, true, true, true, true, true, false, false] rfl rfl (by kernel_rfl) (fun _ _ _ h => h) (Or.inl ⟨by rfl, ?_⟩) ?_ ?_
 rotate_left
 · intro w'
   go_simp
   with_reducible rfl
 rotate_left
 · simp only [Act.put, List.setIfInBounds_toArray, List.set_cons_zero, List.set_cons_succ, i64_w, i32_w]
   rfl
 refine pure_ (i := 15) (N := some 62) (v := ?_) (a' := ?_) #[true, true, true, true, true, true, true, true, true, true, true, true, true, true, true, true, false] rfl rfl (by kernel_rfl) (fun _ _ _ h => h) (Or.inl ⟨by rfl, ?_⟩) ?_ ?_
 rotate_left
 · intro w'
   go_simp
   with_reducible rfl
 rotate_left
 · simp only [Act.put, List.setIfInBounds_toArray, List.set_cons_zero, List.set_cons_succ, i64_w, i32_w]
   rfl
 refine last_ (i := 16) (N := none) #[true, true, true, true, true, true, true, true, true, true, true, true, true, true, true, true, true] rfl rfl (by kernel_rfl) (by decide) (fun K hK => ?_)
 obtain ⟨h3, h4, h5, h6⟩ := hHeld
 refine skip_ (w1 := ?_) (by rfl) rfl ?_ ?_
 rotate_left
 · go_simp
   rfl
 refine hK.out _ _ ?_
 clear hK K
 refine done_ (by kernel_rfl) ?_
 have M2 := Aside0.mk (M1.out.setSiz (gt m j) (many m (gt m j) + many m (gt m i))).drew
 clear hwr
 have e3 : (many m (gt m j) : Int) + (many m (gt m i) : Int) = ((many m (gt m j) + many m (gt m i) : Nat) : Int) := by omega
 rw [e3]
 have F2 := Aside0.mk (((HF.out.setCell (p := ⟨bP, gt m i, none⟩) (.inr (.inl rfl)) (.int .i64 ((gt m j : Nat) : Int)))).setCell (p := ⟨bS, gt m j, none⟩) (.inr (.inr rfl)) (.int .i64 ((many m (gt m j) + many m (gt m i) : Nat) : Int))).drew
 generalize (((w3.setCell ⟨bP, gt m i, none⟩ (.int .i64 ((gt m j : Nat) : Int)))).setCell ⟨bS, gt m j, none⟩ (.int .i64 ((many m (gt m j) + many m (gt m i) : Nat) : Int))).drew = w5 at M2 F2 ⊢
 clear e3
 have h9 := M2.out.cell2
 have h10 := blk_free M2.out.obj 2
 go_wp2
 go_ret
 have hg := HG.out
 have e4 : (sets m : Int) - 1 = ((sets (glue (gt m j) (gt m i) m) : Nat) : Int) := by omega
 have M3 := M2.out.setCount (sets (glue (gt m j) (gt m i) m))
 rw [← e4] at M3
 refine ⟨rfl, ⟨_, _, ⟨?_, M3.par, M3.siz, M3.ne1, M3.ne2, M3.ne3, ?_, H2.out.rep.glue hhi hlt HL.out HH.out, ?_⟩⟩, ?_⟩
 · rw [glue_length]; exact M3.obj
 · rw [glue_length]; exact hsm
 · have := H2.out.sized.glue hhi hlt HL.out HH.out
   rwa [H2.out.sized.size _ hlo HL.out, H2.out.sized.size _ hhi HH.out] at this
 · exact F2.out.setCell (p := ⟨p, 2, none⟩) (.inl rfl) _
theorem join_calls (p bP bS : Nat) (m P S : List Nat) (a b : Int) (w : World) (h : AtPS w p bP bS m P S) :
   Calls Try.prog 17 #[.pointer (some ⟨p, 0, none⟩), .int .i64 a, .int .i64 b] w fun e w' => e = .returned (.bool (joinOf m a b).2) ∧ Now p bP bS (joinOf m a b).1 w w' := by
 cases hk : ok m a && ok m b
 · exact join_no p bP bS m P S a b w h hk
 · rw [Bool.and_eq_true] at hk
   obtain ⟨i, rfl, hi⟩ := ok_nat hk.1
   obtain ⟨j, rfl, hj⟩ := ok_nat hk.2
   rcases Nat.lt_trichotomy (gt m i) (gt m j) with hlt | heq | hgt
   · have e : joinOf m i j = (glue (gt m i) (gt m j) m, true) := by
       unfold joinOf
       rw [if_pos (by simp [hk.1, hk.2]; omega)]
       simp only [Int.toNat_natCast]
       rw [Nat.min_eq_left (by omega), Nat.max_eq_right (by omega)]
     rw [e]; exact join_lt p bP bS m P S i j w h hi hj hlt
   · exact join_same p bP bS m P S i j w h hi hj heq
   · have e : joinOf m i j = (glue (gt m j) (gt m i) m, true) := by
       unfold joinOf
       rw [if_pos (by simp [hk.1, hk.2]; omega)]
       simp only [Int.toNat_natCast]
       rw [Nat.min_eq_right (by omega), Nat.max_eq_left (by omega)]
     rw [e]; exact join_gt p bP bS m P S i j w h hi hj hgt
end Go.Proofs.Ytoajoklpbfehiaa.Sets
namespace Go.Proofs.Ytoajoklpbfehiaa.Sets
open Go.RowKit Go.Proofs.YtoajoklpbfehiaaW.PrintWords Go.Proofs.YtoajoklpbfehiaaW.PrintLast Go.Proofs.YtoajoklpbfehiaaW.PrintMore
set_option linter.unusedVariables false
set_option linter.unusedSimpArgs false
theorem info_int : (Try.prog.info? 3).map (fun i => (i.zero, i.size, i.bytes)) = some (some (.int .i64 0), 1, 8) := by kernel_rfl
theorem made_nv (n : Nat) : madeCells #[.int .i64 0] n = nv (List.replicate n 0) := by
 apply Array.ext
 · simp [madeCells, nv]
 · intro i h1 h2
   simp [madeCells, nv, Nat.mod_one]
theorem heap_last (w : World) (o : Obj) : (w.alloc o).heap[w.heap.size]? = some o := by
 show (w.heap.push o)[w.heap.size]? = _
 simp
theorem heap_old {w : World} {k : Nat} {o : Obj} (h : w.heap[k]? = some o) (o' : Obj) : (w.alloc o').heap[k]? = some o := by
 rw [Below.heap_alloc _ _ _ (blk_lt h)]; exact h
def upTo (k n : Nat) : List Nat := List.range k ++ List.replicate (n - k) 0
def onesTo (k n : Nat) : List Nat := List.replicate k 1 ++ List.replicate (n - k) 0
theorem upTo_zero (n : Nat) : upTo 0 n = List.replicate n 0 := by simp [upTo]
theorem onesTo_zero (n : Nat) : onesTo 0 n = List.replicate n 0 := by simp [onesTo]
theorem upTo_self (n : Nat) : upTo n n = List.range n := by simp [upTo]
theorem onesTo_self (n : Nat) : onesTo n n = List.replicate n 1 := by simp [onesTo]
theorem upTo_length {k n : Nat} (h : k ≤ n) : (upTo k n).length = n := by simp [upTo]; omega
theorem onesTo_length {k n : Nat} (h : k ≤ n) : (onesTo k n).length = n := by simp [onesTo]; omega
theorem set_end {α : Type} (l : List α) (z x : α) (k n : Nat) (hl : l.length = k) (h : k < n) : (l ++ List.replicate (n - k) z).set k x = l ++ [x] ++ List.replicate (n - (k + 1)) z := by
 obtain ⟨d, hd⟩ : ∃ d, n - k = d + 1 := ⟨n - k - 1, by omega⟩
 have hd2 : n - (k + 1) = d := by omega
 rw [hd, hd2, List.replicate_succ, List.set_append_right _ _ (by omega), hl, Nat.sub_self, List.set_cons_zero, List.append_assoc]; rfl
theorem upTo_set {k n : Nat} (h : k < n) : (upTo k n).set k k = upTo (k + 1) n := by
 unfold upTo; rw [set_end _ _ _ _ _ (by simp) h, List.range_succ]
theorem onesTo_set {k n : Nat} (h : k < n) : (onesTo k n).set k 1 = onesTo (k + 1) n := by
 unfold onesTo; rw [set_end _ _ _ _ _ (by simp) h, List.replicate_succ']
theorem new_start (w : World) (n x y : Nat) (hxy : (x = w.heap.size ∧ y = w.heap.size + 1) ∨ (x = w.heap.size + 1 ∧ y = w.heap.size)) :
   MidPS (((w.alloc (.cells (madeCells #[.int .i64 0] n) 3 (0, 0))).alloc (.cells (madeCells #[.int .i64 0] n) 3 (0, 0))).alloc (.cells #[.slice (some ⟨x, 0, none⟩) n n, .slice (some ⟨y, 0, none⟩) n n, .int .i64 (n : Int)] 68 (0, 0))).drew (w.heap.size + 1 + 1) x y n (upTo 0 n) (onesTo 0 n) n ∧
   Below w.heap.size w (((w.alloc (.cells (madeCells #[.int .i64 0] n) 3 (0, 0))).alloc (.cells (madeCells #[.int .i64 0] n) 3 (0, 0))).alloc (.cells #[.slice (some ⟨x, 0, none⟩) n n, .slice (some ⟨y, 0, none⟩) n n, .int .i64 (n : Int)] 68 (0, 0))).drew := by
 rw [upTo_zero, onesTo_zero]
 have e1 := heap_last w (.cells (nv (List.replicate n 0)) 3 (0, 0))
 have e2 := heap_last (w.alloc (.cells (nv (List.replicate n 0)) 3 (0, 0))) (.cells (nv (List.replicate n 0)) 3 (0, 0))
 rw [made_nv]
 have e3 := heap_last ((w.alloc (.cells (nv (List.replicate n 0)) 3 (0, 0))).alloc (.cells (nv (List.replicate n 0)) 3 (0, 0))) (.cells #[.slice (some ⟨x, 0, none⟩) n n, .slice (some ⟨y, 0, none⟩) n n, .int .i64 (n : Int)] 68 (0, 0))
 have s1 : (w.alloc (.cells (nv (List.replicate n 0)) 3 (0, 0))).heap.size = w.heap.size + 1 := by simp
 have s2 : ((w.alloc (.cells (nv (List.replicate n 0)) 3 (0, 0))).alloc (.cells (nv (List.replicate n 0)) 3 (0, 0))).heap.size = w.heap.size + 1 + 1 := by simp
 rw [s1] at e2
 rw [s2] at e3
 refine ⟨⟨e3, ?_, ?_, by omega, by omega, by omega⟩, ?_⟩
 · rcases hxy with ⟨rfl, rfl⟩ | ⟨rfl, rfl⟩
   · exact heap_old (heap_old e1 _) _
   · exact heap_old e2 _
 · rcases hxy with ⟨rfl, rfl⟩ | ⟨rfl, rfl⟩
   · exact heap_old e2 _
   · exact heap_old (heap_old e1 _) _
 · exact ((((Below.refl _ _).alloc (Nat.le_refl _) _).alloc (by omega) _).alloc (by omega) _).drew
set_option maxHeartbeats 1000000 in
set_option maxRecDepth 100000 in
theorem new_yes (n : Nat) (w : World) (h : n ≤ 1048576) :
   Calls Try.prog 10 #[.int .i64 (n : Int)] w fun e w' => ∃ p bP bS, e = .returned (.tuple #[.pointer (some ⟨p, 0, none⟩), .int .i64 0]) ∧ w.heap.size ≤ p ∧ w.heap.size ≤ bP ∧ w.heap.size ≤ bS ∧ At w' p bP bS (List.range n) ∧ Below w.heap.size w w' := by
 have h0 : ¬ (n : Int) < 0 := by omega
 have h1 : ¬ (n : Int) > 1048576 := by omega
 have hle : (n : Int) ≤ 1048576 := by omega
 have mk1 := print_make (P := Try.prog) 66 3 .i64 8 Try.underlying66 info_int (by decide) n (by omega)
 have mk2 := print_make (P := Try.prog) 34 3 .i64 8 Try.underlying34 info_int (by decide) n (by omega)
 go_enter Try.func10, Try.ntmps10
 go_wp2
 go_region
 · obtain ⟨M0, F0⟩ := new_start w n (w.heap.size) (w.heap.size + 1) (.inl ⟨rfl, rfl⟩)
   generalize (((w.alloc (.cells (madeCells #[.int .i64 0] n) 3 (0, 0))).alloc (.cells (madeCells #[.int .i64 0] n) 3 (0, 0))).alloc (.cells #[.slice (some ⟨w.heap.size, 0, none⟩) n n, .slice (some ⟨w.heap.size + 1, 0, none⟩) n n, .int .i64 (n : Int)] 68 (0, 0))).drew = w1 at M0 F0 ⊢
   have M := Aside0.mk M0
   have F := Aside0.mk F0
   clear M0 F0 mk1 mk2
   go_wp2
   go_loopw [20] (fun v wr => ∃ i : Nat, v = .int .i64 (i : Int) ∧ i ≤ n ∧ Aside0 (MidPS wr (w.heap.size + 1 + 1) (w.heap.size) (w.heap.size + 1) n (upTo i n) (onesTo i n) n) ∧ Aside0 (Below w.heap.size w wr)) (fun v _ => n - (intOf v).toNat)
   case atStart => exact ⟨0, rfl, by omega, M, F⟩
   case round =>
     clear M F
     obtain ⟨i, rfl, hi, M, F⟩ := hrel
     by_cases hlt : i < n
     · have hlen := upTo_length hi
       have hlen2 := onesTo_length hi
       have M1 := Aside0.mk (M.out.setPar i i)
       have c1 := nv_cell M.out.par (i := i) (by omega)
       have f1 := blk_free M.out.par i
       have c2 := nv_cell M1.out.siz (i := i) (by omega)
       have f2 := blk_free M1.out.siz i
       have HL := Aside0.mk hlen
       have HL2 := Aside0.mk hlen2
       clear hlen hlen2
       go_wp2
       refine start_ (n := 15) (S := fun w' => w'.cell? ⟨w.heap.size + 1 + 1, 0, none⟩ = some (.slice (some ⟨w.heap.size, 0, none⟩) n n) ∧ w'.cell? ⟨w.heap.size + 1 + 1, 1, none⟩ = some (.slice (some ⟨w.heap.size + 1, 0, none⟩) n n)) (ds := [12, 14]) #[false, false, false, false, false, false, false, false, false, false, false, false, false, false, false] (by kernel_rfl) rfl rfl ⟨M.out.drew.cell0, M.out.drew.cell1⟩ (fun hHeld => ?_)
       refine pure_ (i := 0) (N := some 23) (v := ?_) (a' := ?_) #[true, false, false, false, false, false, false, false, false, false, false, false, false, false, false] rfl rfl (by kernel_rfl) (fun _ _ _ h => h) (Or.inl ⟨by rfl, ?_⟩) ?_ ?_
       rotate_left
       · intro w'
         go_simp
         with_reducible rfl
       rotate_left
       · simp only [Act.put, List.setIfInBounds_toArray, List.set_cons_zero, List.set_cons_succ, i64_w, i32_w]
         rfl
       refine pure_ (i := 1) (N := some 24) (v := ?_) (a' := ?_) #[true, true, false, false, false, false, false, false, false, false, false, false, false, false, false] rfl rfl (by kernel_rfl) (fun _ _ _ h => h) (Or.inl ⟨by rfl, ?_⟩) ?_ ?_
       rotate_left
       · intro w'
         go_simp
         with_reducible rfl
       rotate_left
       · simp only [Act.put, List.setIfInBounds_toArray, List.set_cons_zero, List.set_cons_succ, i64_w, i32_w]
         rfl
       refine pure_ (i := 2) (N := some 25) (v := ?_) (a' := ?_) #[true, true, true, false, false, false, false, false, false, false, false, false, false, false, false] rfl rfl (by kernel_rfl) (fun _ _ _ h => h) (Or.inl ⟨by rfl, ?_⟩) ?_ ?_
       rotate_left
       · intro w'
         go_simp
         with_reducible rfl
       rotate_left
       · simp only [Act.put, List.setIfInBounds_toArray, List.set_cons_zero, List.set_cons_succ, i64_w, i32_w]
         rfl
       refine pure_ (i := 4) (N := some 27) (v := ?_) (a' := ?_) #[true, true, true, false, true, false, false, false, false, false, false, false, false, false, false] rfl rfl (by kernel_rfl) (fun _ _ _ h => h) (Or.inl ⟨by rfl, ?_⟩) ?_ ?_
       rotate_left
       · intro w'
         go_simp
         with_reducible rfl
       rotate_left
       · simp only [Act.put, List.setIfInBounds_toArray, List.set_cons_zero, List.set_cons_succ, i64_w, i32_w]
         rfl
       refine pure_ (i := 5) (N := some 28) (v := ?_) (a' := ?_) #[true, true, true, false, true, true, false, false, false, false, false, false, false, false, false] rfl rfl (by kernel_rfl) (fun _ _ _ h => h) (Or.inl ⟨by rfl, ?_⟩) ?_ ?_
       rotate_left
       · intro w'
         go_simp
         with_reducible rfl
       rotate_left
       · simp only [Act.put, List.setIfInBounds_toArray, List.set_cons_zero, List.set_cons_succ, i64_w, i32_w]
         rfl
       refine pure_ (i := 6) (N := some 29) (v := ?_) (a' := ?_) #[true, true, true, false, true, true, true, false, false, false, false, false, false, false, false] rfl rfl (by kernel_rfl) (fun _ _ _ h => h) (Or.inl ⟨by rfl, ?_⟩) ?_ ?_
       rotate_left
       · intro w'
         go_simp
         with_reducible rfl
       rotate_left
       · simp only [Act.put, List.setIfInBounds_toArray, List.set_cons_zero, List.set_cons_succ, i64_w, i32_w]
         rfl
       refine pure_ (i := 7) (N := some 30) (v := ?_) (a' := ?_) #[true, true, true, false, true, true, true, true, false, false, false, false, false, false, false] rfl rfl (by kernel_rfl) (fun _ _ _ h => h) (Or.inl ⟨by rfl, ?_⟩) ?_ ?_
       rotate_left
       · intro w'
         go_simp
         with_reducible rfl
       rotate_left
       · simp only [Act.put, List.setIfInBounds_toArray, List.set_cons_zero, List.set_cons_succ, i64_w, i32_w]
         rfl
       refine pure_ (i := 9) (N := some 32) (v := ?_) (a' := ?_) #[true, true, true, false, true, true, true, true, false, true, false, false, false, false, false] rfl rfl (by kernel_rfl) (fun _ _ _ h => h) (Or.inl ⟨by rfl, ?_⟩) ?_ ?_
       rotate_left
       · intro w'
         go_simp
         with_reducible rfl
       rotate_left
       · simp only [Act.put, List.setIfInBounds_toArray, List.set_cons_zero, List.set_cons_succ, i64_w, i32_w]
         rfl
       refine pure_ (i := 10) (N := some 33) (v := ?_) (a' := ?_) #[true, true, true, false, true, true, true, true, false, true, true, false, false, false, false] rfl rfl (by kernel_rfl) (fun _ _ _ h => h) (Or.inl ⟨by rfl, ?_⟩) ?_ ?_
       rotate_left
       · intro w'
         go_simp
         with_reducible rfl
       rotate_left
       · simp only [Act.put, List.setIfInBounds_toArray, List.set_cons_zero, List.set_cons_succ, i64_w, i32_w]
         rfl
       refine take_ (i := 3) (N := some 26) (v := ?_) (a' := ?_) #[true, true, true, true, true, true, true, true, false, true, true, false, false, false, false] rfl rfl (by kernel_rfl) (fun _ _ _ h => h) (Or.inl ⟨by rfl, ?_⟩) hHeld ?_ ?_
       rotate_left
       · rintro w' ⟨s0, s1⟩
         go_simp
         with_reducible rfl
       rotate_left
       · simp only [Act.put, List.setIfInBounds_toArray, List.set_cons_zero, List.set_cons_succ, i64_w, i32_w]
         rfl
       refine take_ (i := 8) (N := some 31) (v := ?_) (a' := ?_) #[true, true, true, true, true, true, true, true, true, true, true, false, false, false, false] rfl rfl (by kernel_rfl) (fun _ _ _ h => h) (Or.inl ⟨by rfl, ?_⟩) hHeld ?_ ?_
       rotate_left
       · rintro w' ⟨s0, s1⟩
         go_simp
         with_reducible rfl
       rotate_left
       · simp only [Act.put, List.setIfInBounds_toArray, List.set_cons_zero, List.set_cons_succ, i64_w, i32_w]
         rfl
       refine pure_ (i := 11) (N := some 34) (v := ?_) (a' := ?_) #[true, true, true, true, true, true, true, true, true, true, true, true, false, false, false] rfl rfl (by kernel_rfl) (fun _ _ _ h => h) (Or.inl ⟨by rfl, ?_⟩) ?_ ?_
       rotate_left
       · intro w'
         go_simp
         with_reducible rfl
       rotate_left
       · simp only [Act.put, List.setIfInBounds_toArray, List.set_cons_zero, List.set_cons_succ, i64_w, i32_w]
         rfl
       refine last_ (i := 12) (N := none) #[true, true, true, true, true, true, true, true, true, true, true, true, true, false, false] rfl rfl (by kernel_rfl) (by decide) (fun K hK => ?_)
       refine skip_ (w1 := ?_) (by rfl) rfl ?_ ?_
       rotate_left
       · go_simp
         rfl
       refine hK.out _ _ ?_
       clear hK K
       refine pure_ (i := 13) (N := some 35) (v := ?_) (a' := ?_) #[true, true, true, true, true, true, true, true, true, true, true, true, true, true, false] rfl rfl (by kernel_rfl) (fun _ _ _ h => h) (Or.inl ⟨by rfl, ?_⟩) ?_ ?_
       rotate_left
       · intro w'
         go_simp
         with_reducible rfl
       rotate_left
       · simp only [Act.put, List.setIfInBounds_toArray, List.set_cons_zero, List.set_cons_succ, i64_w, i32_w]
         rfl
       refine last_ (i := 14) (N := none) #[true, true, true, true, true, true, true, true, true, true, true, true, true, true, true] rfl rfl (by kernel_rfl) (by decide) (fun K hK => ?_)
       refine skip_ (w1 := ?_) (by rfl) rfl ?_ ?_
       rotate_left
       · go_simp
         rfl
       refine hK.out _ _ ?_
       clear hK K
       refine done_ (by kernel_rfl) ?_
       go_wp2
       go_roundw
       case rel =>
         refine ⟨i + 1, by go_num, by omega, ⟨?_⟩, ⟨((F.out.setCell (p := ⟨w.heap.size, i, none⟩) (by simp) _).setCell (p := ⟨w.heap.size + 1, i, none⟩) (by simp) _).drew⟩⟩
         have h2 := (M1.out.setSiz i 1).drew
         rw [upTo_set hlt, onesTo_set hlt] at h2
         exact h2
       case measure => simp [intOf]; omega
     · obtain rfl : i = n := by omega
       go_wp2
       go_ret2
       have h2 := M.out
       rw [upTo_self, onesTo_self] at h2
       refine ⟨_, _, _, rfl, by omega, ?_, ?_, ⟨List.range i, List.replicate i 1, ⟨?_, h2.par, h2.siz, h2.ne1, h2.ne2, h2.ne3, ?_, Rep.range i, Sized.ones i⟩⟩, F.out⟩
       · exact Nat.le_refl _
       · omega
       · rw [List.length_range, sets_range]; exact h2.obj
       · rw [List.length_range]; exact h
 · obtain ⟨M0, F0⟩ := new_start w n (w.heap.size + 1) (w.heap.size) (.inr ⟨rfl, rfl⟩)
   generalize (((w.alloc (.cells (madeCells #[.int .i64 0] n) 3 (0, 0))).alloc (.cells (madeCells #[.int .i64 0] n) 3 (0, 0))).alloc (.cells #[.slice (some ⟨w.heap.size + 1, 0, none⟩) n n, .slice (some ⟨w.heap.size, 0, none⟩) n n, .int .i64 (n : Int)] 68 (0, 0))).drew = w1 at M0 F0 ⊢
   have M := Aside0.mk M0
   have F := Aside0.mk F0
   clear M0 F0 mk1 mk2
   go_wp2
   go_loopw [20] (fun v wr => ∃ i : Nat, v = .int .i64 (i : Int) ∧ i ≤ n ∧ Aside0 (MidPS wr (w.heap.size + 1 + 1) (w.heap.size + 1) (w.heap.size) n (upTo i n) (onesTo i n) n) ∧ Aside0 (Below w.heap.size w wr)) (fun v _ => n - (intOf v).toNat)
   case atStart => exact ⟨0, rfl, by omega, M, F⟩
   case round =>
     clear M F
     obtain ⟨i, rfl, hi, M, F⟩ := hrel
     by_cases hlt : i < n
     · have hlen := upTo_length hi
       have hlen2 := onesTo_length hi
       have M1 := Aside0.mk (M.out.setPar i i)
       have c1 := nv_cell M.out.par (i := i) (by omega)
       have f1 := blk_free M.out.par i
       have c2 := nv_cell M1.out.siz (i := i) (by omega)
       have f2 := blk_free M1.out.siz i
       have HL := Aside0.mk hlen
       have HL2 := Aside0.mk hlen2
       clear hlen hlen2
       go_wp2
       refine start_ (n := 15) (S := fun w' => w'.cell? ⟨w.heap.size + 1 + 1, 0, none⟩ = some (.slice (some ⟨w.heap.size + 1, 0, none⟩) n n) ∧ w'.cell? ⟨w.heap.size + 1 + 1, 1, none⟩ = some (.slice (some ⟨w.heap.size, 0, none⟩) n n)) (ds := [12, 14]) #[false, false, false, false, false, false, false, false, false, false, false, false, false, false, false] (by kernel_rfl) rfl rfl ⟨M.out.drew.cell0, M.out.drew.cell1⟩ (fun hHeld => ?_)
       refine pure_ (i := 0) (N := some 23) (v := ?_) (a' := ?_) #[true, false, false, false, false, false, false, false, false, false, false, false, false, false, false] rfl rfl (by kernel_rfl) (fun _ _ _ h => h) (Or.inl ⟨by rfl, ?_⟩) ?_ ?_
       rotate_left
       · intro w'
         go_simp
         with_reducible rfl
       rotate_left
       · simp only [Act.put, List.setIfInBounds_toArray, List.set_cons_zero, List.set_cons_succ, i64_w, i32_w]
         rfl
       refine pure_ (i := 1) (N := some 24) (v := ?_) (a' := ?_) #[true, true, false, false, false, false, false, false, false, false, false, false, false, false, false] rfl rfl (by kernel_rfl) (fun _ _ _ h => h) (Or.inl ⟨by rfl, ?_⟩) ?_ ?_
       rotate_left
       · intro w'
         go_simp
         with_reducible rfl
       rotate_left
       · simp only [Act.put, List.setIfInBounds_toArray, List.set_cons_zero, List.set_cons_succ, i64_w, i32_w]
         rfl
       refine pure_ (i := 2) (N := some 25) (v := ?_) (a' := ?_) #[true, true, true, false, false, false, false, false, false, false, false, false, false, false, false] rfl rfl (by kernel_rfl) (fun _ _ _ h => h) (Or.inl ⟨by rfl, ?_⟩) ?_ ?_
       rotate_left
       · intro w'
         go_simp
         with_reducible rfl
       rotate_left
       · simp only [Act.put, List.setIfInBounds_toArray, List.set_cons_zero, List.set_cons_succ, i64_w, i32_w]
         rfl
       refine pure_ (i := 4) (N := some 27) (v := ?_) (a' := ?_) #[true, true, true, false, true, false, false, false, false, false, false, false, false, false, false] rfl rfl (by kernel_rfl) (fun _ _ _ h => h) (Or.inl ⟨by rfl, ?_⟩) ?_ ?_
       rotate_left
       · intro w'
         go_simp
         with_reducible rfl
       rotate_left
       · simp only [Act.put, List.setIfInBounds_toArray, List.set_cons_zero, List.set_cons_succ, i64_w, i32_w]
         rfl
       refine pure_ (i := 5) (N := some 28) (v := ?_) (a' := ?_) #[true, true, true, false, true, true, false, false, false, false, false, false, false, false, false] rfl rfl (by kernel_rfl) (fun _ _ _ h => h) (Or.inl ⟨by rfl, ?_⟩) ?_ ?_
       rotate_left
       · intro w'
         go_simp
         with_reducible rfl
       rotate_left
       · simp only [Act.put, List.setIfInBounds_toArray, List.set_cons_zero, List.set_cons_succ, i64_w, i32_w]
         rfl
       refine pure_ (i := 6) (N := some 29) (v := ?_) (a' := ?_) #[true, true, true, false, true, true, true, false, false, false, false, false, false, false, false] rfl rfl (by kernel_rfl) (fun _ _ _ h => h) (Or.inl ⟨by rfl, ?_⟩) ?_ ?_
       rotate_left
       · intro w'
         go_simp
         with_reducible rfl
       rotate_left
       · simp only [Act.put, List.setIfInBounds_toArray, List.set_cons_zero, List.set_cons_succ, i64_w, i32_w]
         rfl
       refine pure_ (i := 7) (N := some 30) (v := ?_) (a' := ?_) #[true, true, true, false, true, true, true, true, false, false, false, false, false, false, false] rfl rfl (by kernel_rfl) (fun _ _ _ h => h) (Or.inl ⟨by rfl, ?_⟩) ?_ ?_
       rotate_left
       · intro w'
         go_simp
         with_reducible rfl
       rotate_left
       · simp only [Act.put, List.setIfInBounds_toArray, List.set_cons_zero, List.set_cons_succ, i64_w, i32_w]
         rfl
       refine pure_ (i := 9) (N := some 32) (v := ?_) (a' := ?_) #[true, true, true, false, true, true, true, true, false, true, false, false, false, false, false] rfl rfl (by kernel_rfl) (fun _ _ _ h => h) (Or.inl ⟨by rfl, ?_⟩) ?_ ?_
       rotate_left
       · intro w'
         go_simp
         with_reducible rfl
       rotate_left
       · simp only [Act.put, List.setIfInBounds_toArray, List.set_cons_zero, List.set_cons_succ, i64_w, i32_w]
         rfl
       refine pure_ (i := 10) (N := some 33) (v := ?_) (a' := ?_) #[true, true, true, false, true, true, true, true, false, true, true, false, false, false, false] rfl rfl (by kernel_rfl) (fun _ _ _ h => h) (Or.inl ⟨by rfl, ?_⟩) ?_ ?_
       rotate_left
       · intro w'
         go_simp
         with_reducible rfl
       rotate_left
       · simp only [Act.put, List.setIfInBounds_toArray, List.set_cons_zero, List.set_cons_succ, i64_w, i32_w]
         rfl
       refine take_ (i := 3) (N := some 26) (v := ?_) (a' := ?_) #[true, true, true, true, true, true, true, true, false, true, true, false, false, false, false] rfl rfl (by kernel_rfl) (fun _ _ _ h => h) (Or.inl ⟨by rfl, ?_⟩) hHeld ?_ ?_
       rotate_left
       · rintro w' ⟨s0, s1⟩
         go_simp
         with_reducible rfl
       rotate_left
       · simp only [Act.put, List.setIfInBounds_toArray, List.set_cons_zero, List.set_cons_succ, i64_w, i32_w]
         rfl
       refine take_ (i := 8) (N := some 31) (v := ?_) (a' := ?_) #[true, true, true, true, true, true, true, true, true, true, true, false, false, false, false] rfl rfl (by kernel_rfl) (fun _ _ _ h => h) (Or.inl ⟨by rfl, ?_⟩) hHeld ?_ ?_
       rotate_left
       · rintro w' ⟨s0, s1⟩
         go_simp
         with_reducible rfl
       rotate_left
       · simp only [Act.put, List.setIfInBounds_toArray, List.set_cons_zero, List.set_cons_succ, i64_w, i32_w]
         rfl
       refine pure_ (i := 11) (N := some 34) (v := ?_) (a' := ?_) #[true, true, true, true, true, true, true, true, true, true, true, true, false, false, false] rfl rfl (by kernel_rfl) (fun _ _ _ h => h) (Or.inl ⟨by rfl, ?_⟩) ?_ ?_
       rotate_left
       · intro w'
         go_simp
         with_reducible rfl
       rotate_left
       · simp only [Act.put, List.setIfInBounds_toArray, List.set_cons_zero, List.set_cons_succ, i64_w, i32_w]
         rfl
       refine last_ (i := 12) (N := none) #[true, true, true, true, true, true, true, true, true, true, true, true, true, false, false] rfl rfl (by kernel_rfl) (by decide) (fun K hK => ?_)
       refine skip_ (w1 := ?_) (by rfl) rfl ?_ ?_
       rotate_left
       · go_simp
         rfl
       refine hK.out _ _ ?_
       clear hK K
       refine pure_ (i := 13) (N := some 35) (v := ?_) (a' := ?_) #[true, true, true, true, true, true, true, true, true, true, true, true, true, true, false] rfl rfl (by kernel_rfl) (fun _ _ _ h => h) (Or.inl ⟨by rfl, ?_⟩) ?_ ?_
       rotate_left
       · intro w'
         go_simp
         with_reducible rfl
       rotate_left
       · simp only [Act.put, List.setIfInBounds_toArray, List.set_cons_zero, List.set_cons_succ, i64_w, i32_w]
         rfl
       refine last_ (i := 14) (N := none) #[true, true, true, true, true, true, true, true, true, true, true, true, true, true, true] rfl rfl (by kernel_rfl) (by decide) (fun K hK => ?_)
       refine skip_ (w1 := ?_) (by rfl) rfl ?_ ?_
       rotate_left
       · go_simp
         rfl
       refine hK.out _ _ ?_
       clear hK K
       refine done_ (by kernel_rfl) ?_
       go_wp2
       go_roundw
       case rel =>
         refine ⟨i + 1, by go_num, by omega, ⟨?_⟩, ⟨((F.out.setCell (p := ⟨w.heap.size + 1, i, none⟩) (by simp) _).setCell (p := ⟨w.heap.size, i, none⟩) (by simp) _).drew⟩⟩
         have h2 := (M1.out.setSiz i 1).drew
         rw [upTo_set hlt, onesTo_set hlt] at h2
         exact h2
       case measure => simp [intOf]; omega
     · obtain rfl : i = n := by omega
       go_wp2
       go_ret2
       have h2 := M.out
       rw [upTo_self, onesTo_self] at h2
       refine ⟨_, _, _, rfl, by omega, ?_, ?_, ⟨List.range i, List.replicate i 1, ⟨?_, h2.par, h2.siz, h2.ne1, h2.ne2, h2.ne3, ?_, Rep.range i, Sized.ones i⟩⟩, F.out⟩
       · omega
       · exact Nat.le_refl _
       · rw [List.length_range, sets_range]; exact h2.obj
       · rw [List.length_range]; exact h
end Go.Proofs.Ytoajoklpbfehiaa.Sets
namespace Go.Proofs.Ytoajoklpbfehiaa.Sets
open Go.RowKit Go.Proofs.YtoajoklpbfehiaaW.PrintWords Go.Proofs.YtoajoklpbfehiaaW.PrintLast Go.Proofs.YtoajoklpbfehiaaW.PrintMore
set_option linter.unusedVariables false
set_option linter.unusedSimpArgs false
def numTo (m : List Nat) : Nat → List Nat × Nat
 | 0 => ([], 0)
 | k + 1 => if gt m k < k then ((numTo m k).1 ++ [gt (numTo m k).1 (gt m k)], (numTo m k).2) else ((numTo m k).1 ++ [(numTo m k).2], (numTo m k).2 + 1)
theorem numTo_length (m : List Nat) (k : Nat) : (numTo m k).1.length = k := by
 induction k with
 | zero => rfl
 | succ k ih => unfold numTo; split <;> simp [ih]
theorem numTo_le (m : List Nat) (k : Nat) : (numTo m k).2 ≤ k := by
 induction k with
 | zero => simp [numTo]
 | succ k ih => unfold numTo; split <;> simp <;> omega
def numRow (m : List Nat) (n k : Nat) : List Nat := (numTo m k).1 ++ List.replicate (n - k) 0
theorem numRow_length (m : List Nat) {n k : Nat} (h : k ≤ n) : (numRow m n k).length = n := by simp [numRow, numTo_length]; omega
theorem numRow_zero (m : List Nat) (n : Nat) : numRow m n 0 = List.replicate n 0 := by simp [numRow, numTo]
theorem numRow_self (m : List Nat) (n : Nat) : numRow m n n = (numTo m n).1 := by simp [numRow]
theorem numRow_get (m : List Nat) {n k i : Nat} (hi : i < k) (h : k ≤ n) : gt (numRow m n k) i = gt (numTo m k).1 i := by
 unfold numRow gt
 simp only [List.getD_eq_getElem?_getD]
 rw [List.getElem?_append_left (by rw [numTo_length]; exact hi)]
theorem numRow_old (m : List Nat) {n k : Nat} (h : k < n) (hlt : gt m k < k) : (numRow m n k).set k (gt (numRow m n k) (gt m k)) = numRow m n (k + 1) := by
 rw [numRow_get m hlt (by omega)]
 unfold numRow
 rw [set_end _ _ _ _ _ (numTo_length m k) h]
 conv => rhs; unfold numTo
 rw [if_pos hlt]
theorem numRow_new (m : List Nat) {n k : Nat} (h : k < n) (hge : ¬ gt m k < k) : (numRow m n k).set k (numTo m k).2 = numRow m n (k + 1) := by
 unfold numRow
 rw [set_end _ _ _ _ _ (numTo_length m k) h]
 conv => rhs; unfold numTo
 rw [if_neg hge]
theorem numTo_old {m : List Nat} {k : Nat} (hlt : gt m k < k) : (numTo m (k + 1)).2 = (numTo m k).2 := by conv => lhs; unfold numTo; rw [if_pos hlt]
theorem numTo_new {m : List Nat} {k : Nat} (hge : ¬ gt m k < k) : (numTo m (k + 1)).2 = (numTo m k).2 + 1 := by conv => lhs; unfold numTo; rw [if_neg hge]
def RowAt (w : World) (b : Nat) (l : List Nat) : Prop := w.heap[b]? = some (.cells (nv l) 3 (0, 0))
theorem Frame.newCell {S : Nat → Prop} {a b : World} (h : Frame S a b) {i : Nat} (u : Value) : Frame S a (b.setCell ⟨a.heap.size, i, none⟩ u) :=
 ⟨h.os, h.tape, h.output, by simpa [World.setCell] using h.size, fun k hk hs => (Below.heap_setCell _ _ _ _ (by simp; omega)).trans (h.block k hk hs)⟩
set_option maxHeartbeats 1000000 in
set_option maxRecDepth 100000 in
theorem numbers_calls (p bP bS : Nat) (m P S : List Nat) (w : World) (h : AtPS w p bP bS m P S) :
   Calls Try.prog 35 #[.pointer (some ⟨p, 0, none⟩)] w fun e w' => ∃ bo, e = .returned (.tuple #[.slice (some ⟨bo, 0, none⟩) m.length m.length, .int .i64 (((numTo m m.length).2 : Nat) : Int)]) ∧ w.heap.size ≤ bo ∧ RowAt w' bo (numTo m m.length).1 ∧ Now p bP bS m w w' := by
 have H := Aside0.mk h
 have h0 := h.cell0
 have hs := h.small
 have mk1 := print_make (P := Try.prog) 34 3 .i64 8 Try.underlying34 info_int (by decide) m.length (by omega)
 rw [made_nv, ← numRow_zero m] at mk1
 have hp := blk_lt h.obj
 have hP := blk_lt h.par
 have hS := blk_lt h.siz
 clear h
 go_enter Try.func35, Try.ntmps35
 go_wp2
 clear mk1 h0
 have H1 : Aside0 (At (w.alloc (.cells (nv (numRow m m.length 0)) 3 (0, 0))) p bP bS m) := ⟨P, S, heap_old H.out.obj _, heap_old H.out.par _, heap_old H.out.siz _, H.out.ne1, H.out.ne2, H.out.ne3, H.out.small, H.out.rep, H.out.sized⟩
 have HO : Aside0 (RowAt (w.alloc (.cells (nv (numRow m m.length 0)) 3 (0, 0))) w.heap.size (numRow m m.length 0)) := ⟨heap_last _ _⟩
 have HF : Aside0 (Frame (Own p bP bS) w (w.alloc (.cells (nv (numRow m m.length 0)) 3 (0, 0)))) := ⟨(Frame.refl _ _).alloc _⟩
 generalize w.alloc (.cells (nv (numRow m m.length 0)) 3 (0, 0)) = w1 at H1 HO HF ⊢
 clear H
 go_loopw [5, 16] (fun c v wr => ∃ i : Nat, v = .int .i64 (i : Int) ∧ i ≤ m.length ∧ c = .int .i64 (((numTo m i).2 : Nat) : Int) ∧ Aside0 (At wr p bP bS m) ∧ Aside0 (RowAt wr w.heap.size (numRow m m.length i)) ∧ Aside0 (Frame (Own p bP bS) w wr)) (fun _ v _ => m.length - (intOf v).toNat)
 case atStart => exact ⟨0, rfl, by omega, rfl, H1, HO, HF⟩
 case round =>
   clear H1 HO HF
   obtain ⟨i, rfl, hi, rfl, HA, HO, HF⟩ := hrel
   obtain ⟨P1, S1, H1⟩ := HA.out
   have h0 := H1.cell0
   have H := Aside0.mk H1
   have hcl := numTo_le m i
   clear H1
   by_cases hlt : i < m.length
   · have hml := H.out.rep.ml hlt
     by_cases hold : gt m i < i
     · have HN := Aside0.mk (numRow_length m (n := m.length) (k := i) hi)
       go_wp2_with (go_at_call 33; refine (root_calls bP m.length m.length i _ P1 m _ H.out.par H.out.rep hlt rfl H.out.small).mono ?_; rintro e w' ⟨rfl, hc⟩; have HC := Aside0.mk (H.out.climbed hc); have HO2 := Aside0.mk (hc.choose_spec.2.2.blk HO.out (by omega)); clear hc; have c1 := nv_cell HO2.out (i := gt m i) (by rw [HN.out]; omega); have c2 := nv_cell HO2.out (i := i) (by rw [HN.out]; omega); have f1 := blk_free HO2.out i)
       obtain ⟨Q, h1, h2⟩ := HC.out
       have hb : ¬ Own p bP bS w.heap.size := by unfold Own; omega
       go_roundw
       case rel =>
         refine ⟨i + 1, by go_num, by omega, by rw [numTo_old hold], ⟨Q, S1, heap_setCell_ne h1.obj (by omega), heap_setCell_ne h1.par (by omega), heap_setCell_ne h1.siz (by omega), h1.ne1, h1.ne2, h1.ne3, h1.small, h1.rep, h1.sized⟩, ⟨?_⟩, ⟨?_⟩⟩
         · have h3 : RowAt _ _ _ := blk_set_nv (i := i) (x := gt (numRow m m.length i) (gt m i)) HO2.out
           rw [numRow_old m hlt hold] at h3
           exact h3
         · have h3 := HF.out.trans h2
           exact h3.newCell _
       case measure => simp [intOf]; omega
     · have hge : gt m i = i := by omega
       have HN := Aside0.mk (numRow_length m (n := m.length) (k := i) hi)
       go_wp2_with (go_at_call 33; refine (root_calls bP m.length m.length i _ P1 m _ H.out.par H.out.rep hlt rfl H.out.small).mono ?_; rintro e w' ⟨rfl, hc⟩; have HC := Aside0.mk (H.out.climbed hc); have HO2 := Aside0.mk (hc.choose_spec.2.2.blk HO.out (by omega)); clear hc; have c1 := nv_cell HO2.out (i := gt m i) (by rw [HN.out]; omega); have c2 := nv_cell HO2.out (i := i) (by rw [HN.out]; omega); have f1 := blk_free HO2.out i)
       obtain ⟨Q, h1, h2⟩ := HC.out
       have hb : ¬ Own p bP bS w.heap.size := by unfold Own; omega
       go_roundw
       case rel =>
         refine ⟨i + 1, by go_num, by omega, by rw [numTo_new hold]; go_num, ⟨Q, S1, heap_setCell_ne h1.obj (by omega), heap_setCell_ne h1.par (by omega), heap_setCell_ne h1.siz (by omega), h1.ne1, h1.ne2, h1.ne3, h1.small, h1.rep, h1.sized⟩, ⟨?_⟩, ⟨?_⟩⟩
         · have h3 : RowAt _ _ _ := blk_set_nv (i := i) (x := (numTo m i).2) HO2.out
           rw [numRow_new m hlt hold] at h3
           exact h3
         · have h3 := HF.out.trans h2
           exact h3.newCell _
       case measure => simp [intOf]; omega
   · obtain rfl : i = m.length := by omega
     go_wp2
     go_ret2
     have h3 := HO.out
     rw [numRow_self] at h3
     exact ⟨_, rfl, Nat.le_refl _, h3, HA.out, HF.out⟩
end Go.Proofs.Ytoajoklpbfehiaa.Sets
namespace Go.Proofs.Ytoajoklpbfehiaa.Sets
open Go.RowKit Go.Proofs.YtoajoklpbfehiaaW.PrintWords Go.Proofs.YtoajoklpbfehiaaW.PrintLast Go.Proofs.YtoajoklpbfehiaaW.PrintMore
set_option linter.unusedVariables false
set_option linter.unusedSimpArgs false
def pe (es : List (Int × Int)) (i : Nat) : Int × Int := es.getD i (0, 0)
def Pairs (w : World) (A : Option Addr) (es : List (Int × Int)) : Prop := ∀ i : Nat, i < es.length → ∃ ad, A = some ad ∧ w.cell? (ad.add (i * 2)) = some (.int .i64 (pe es i).1) ∧ w.cell? ⟨(ad.add (i * 2)).block, (ad.add (i * 2)).off + 1, none⟩ = some (.int .i64 (pe es i).2)
theorem cell_block {w : World} {a : Addr} {v : Value} (h : w.cell? a = some v) : a.block < w.heap.size := by
 unfold World.cell? at h
 by_cases hk : a.block < w.heap.size
 · exact hk
 · rw [Array.getElem?_eq_none (by omega)] at h; simp at h
theorem Pairs.below {w w' : World} {A : Option Addr} {es : List (Int × Int)} (h : Pairs w A es) (hb : Below w.heap.size w w') : Pairs w' A es := by
 intro i hi
 obtain ⟨ad, e, h1, h2⟩ := h i hi
 exact ⟨ad, e, by rw [hb.cell (cell_block h1)]; exact h1, by rw [hb.cell (cell_block h2)]; exact h2⟩
def joinAll (m : List Nat) (es : List (Int × Int)) : List Nat := es.foldl (fun m e => (joinOf m e.1 e.2).1) m
theorem joinOf_length (m : List Nat) (a b : Int) : (joinOf m a b).1.length = m.length := by
 unfold joinOf; split
 · exact glue_length _ _ _
 · rfl
theorem joinAll_length (es : List (Int × Int)) : ∀ m : List Nat, (joinAll m es).length = m.length := by
 induction es with
 | nil => intro m; rfl
 | cons e es ih => intro m; unfold joinAll at ih ⊢; rw [List.foldl_cons, ih, joinOf_length]
theorem joinAll_take (m : List Nat) (es : List (Int × Int)) {k : Nat} (h : k < es.length) : joinAll m (es.take (k + 1)) = (joinOf (joinAll m (es.take k)) (pe es k).1 (pe es k).2).1 := by
 unfold joinAll
 rw [List.take_succ_eq_append_getElem h, List.foldl_append]
 simp [pe, List.getD_eq_getElem?_getD, h]
theorem Now.at_ {p bP bS : Nat} {m : List Nat} {w w' : World} (h : Now p bP bS m w w') : At w' p bP bS m := h.1
def SaysYes (n : Int) (A : Option Addr) (l c : Nat) (w : World) : Prop := ∀ w', Below w.heap.size w w' →
 Calls Try.prog 34 #[.agg #[.int .i64 n, .slice A l c]] w' fun e w'' => e = .returned (.bool true) ∧ Below w'.heap.size w' w''
def SaysNo (n : Int) (A : Option Addr) (l c : Nat) (w : World) : Prop := ∀ w', Below w.heap.size w w' →
 Calls Try.prog 34 #[.agg #[.int .i64 n, .slice A l c]] w' fun e w'' => e = .returned (.bool false) ∧ Below w'.heap.size w' w''
set_option maxHeartbeats 1000000 in
set_option maxRecDepth 100000 in
theorem of_no (n : Int) (A : Option Addr) (l c : Nat) (w : World) (hv : SaysNo n A l c w) :
   Calls Try.prog 14 #[.agg #[.int .i64 n, .slice A l c]] w fun e w' => e = .returned (.tuple #[.slice none 0 0, .int .i64 0, .int .i64 1]) ∧ Below w.heap.size w w' := by
 have B0 := (Below.refl w.heap.size w).alloc (Nat.le_refl _) (.cells #[.int .i64 n, .slice A l c] 31 (0, 0))
 have HV := Aside0.mk (hv _ B0)
 have HB := Aside0.mk B0
 clear hv B0
 go_enter Try.func14, Try.ntmps14
 go_wp2_with (go_at_call 34; refine (HV.out).mono ?_; rintro e w' ⟨rfl, hb⟩; have HB2 := Aside0.mk (HB.out.trans (hb.mono (by simp))); clear hb)
 go_ret3
 exact ⟨rfl, HB2.out⟩
set_option maxHeartbeats 1000000 in
set_option maxRecDepth 100000 in
theorem of_yes (n : Nat) (A : Option Addr) (c : Nat) (es : List (Int × Int)) (w : World) (hv : SaysYes n A es.length c w) (hn : n ≤ 1048576) (he : Pairs w A es) (hl : es.length ≤ 9223372036854775807) :
   Calls Try.prog 14 #[.agg #[.int .i64 (n : Int), .slice A es.length c]] w fun e w' => ∃ bo, e = .returned (.tuple #[.slice (some ⟨bo, 0, none⟩) n n, .int .i64 (((numTo (joinAll (List.range n) es) n).2 : Nat) : Int), .int .i64 0]) ∧ w.heap.size ≤ bo ∧ RowAt w' bo (numTo (joinAll (List.range n) es) n).1 ∧ Below w.heap.size w w' := by
 have B0 := (Below.refl w.heap.size w).alloc (Nat.le_refl _) (.cells #[.int .i64 (n : Int), .slice A es.length c] 31 (0, 0))
 have HV := Aside0.mk (hv _ B0)
 have HB := Aside0.mk B0
 have HX := Aside0.mk (heap_last w (.cells #[.int .i64 (n : Int), .slice A es.length c] 31 (0, 0)))
 have HE := Aside0.mk he
 clear hv B0 he
 go_enter Try.func14, Try.ntmps14
 go_wp2_with fail
 refine (HV.out).mono ?_
 rintro e w2 ⟨rfl, hb⟩
 have HB2 := Aside0.mk (HB.out.trans (hb.mono (by simp)))
 have HX2 := Aside0.mk ((hb.block w.heap.size (by simp)).trans HX.out)
 clear hb HB HX HV
 have x0 : w2.cell? ⟨w.heap.size, 0, none⟩ = some (.int .i64 (n : Int)) := (blk_cell HX2.out 0).trans rfl
 go_wp2_with fail
 refine (new_yes n _ hn).mono ?_
 rintro e w3 ⟨p, bP, bS, rfl, hp1, hp2, hp3, hat, hb⟩
 have hsz := HB2.out.size
 have HB3 := Aside0.mk (HB2.out.trans (hb.mono hsz))
 have HX3 := Aside0.mk ((hb.block w.heap.size (blk_lt HX2.out)).trans HX2.out)
 have HPb : Aside0 (w.heap.size ≤ p ∧ w.heap.size ≤ bP ∧ w.heap.size ≤ bS) := ⟨by omega⟩
 have HA := Aside0.mk hat
 clear hb hat hp1 hp2 hp3 x0 hsz HX2 HB2
 have x1 : w3.cell? ⟨w.heap.size, 1, none⟩ = some (.slice A es.length c) := (blk_cell HX3.out 1).trans rfl
 go_wp2
 clear x1 HX3
 go_loopw [23] (fun v wr => ∃ i : Nat, v = .int .i64 (i : Int) ∧ i ≤ es.length ∧ Aside0 (At wr p bP bS (joinAll (List.range n) (es.take i))) ∧ Aside0 (Below w.heap.size w wr)) (fun v _ => es.length - (intOf v).toNat)
 case atStart => exact ⟨0, rfl, by omega, HA, HB3⟩
 case round =>
   clear HA HB3
   obtain ⟨i, rfl, hi, HA, HB⟩ := hrel
   by_cases hlt : i < es.length
   · obtain ⟨ad, eA, hc1, hc2⟩ := (HE.out.below HB.out) i hlt
     subst eA
     go_wp2_with fail
     obtain ⟨P1, S1, H1⟩ := HA.out
     have hpb := HPb.out
     have hsz := HB.out.size
     have H2 : AtPS (wr.alloc (.cells #[.int .i64 (pe es i).1, .int .i64 (pe es i).2] 33 (0, 0))) p bP bS (joinAll (List.range n) (es.take i)) P1 S1 := ⟨heap_old H1.obj _, heap_old H1.par _, heap_old H1.siz _, H1.ne1, H1.ne2, H1.ne3, H1.small, H1.rep, H1.sized⟩
     have hF : Frame (Own p bP bS) wr (wr.alloc (.cells #[.int .i64 (pe es i).1, .int .i64 (pe es i).2] 33 (0, 0))) := (Frame.refl _ _).alloc _
     have H3 := Aside0.mk H2
     have HF := Aside0.mk hF
     clear H1 H2 hF
     refine (join_calls p bP bS _ P1 S1 _ _ _ H3.out).mono ?_
     rintro e w5 ⟨rfl, hA, hF⟩
     have HA2 := Aside0.mk hA
     have HB2 := Aside0.mk (HB.out.trans ((HF.out.trans hF).below hsz (fun k hk => by unfold Own at hk; omega)))
     have hlen := joinAll_take (List.range n) es hlt
     rw [← hlen] at HA2
     clear hA hF hlen
     go_wp2
     go_roundw
     case rel => exact ⟨i + 1, by go_num, by omega, HA2, HB2⟩
     case measure => simp [intOf]; omega
   · obtain rfl : i = es.length := by omega
     obtain ⟨P1, S1, H1⟩ := HA.out
     have H := Aside0.mk H1
     have hpb := HPb.out
     have hsz := HB.out.size
     clear H1
     go_wp2_with fail
     refine (numbers_calls p bP bS _ P1 S1 _ H.out).mono ?_
     rintro e w5 ⟨bo, rfl, hbo, hrow, hA, hF⟩
     rw [List.take_length, joinAll_length, List.length_range] at hrow ⊢
     have HR := Aside0.mk hrow
     have HB2 := Aside0.mk (HB.out.trans (hF.below hsz (fun k hk => by unfold Own at hk; omega)))
     clear hrow hA hF
     go_wp2
     go_ret3
     exact ⟨bo, rfl, by omega, HR.out, HB2.out⟩
end Go.Proofs.Ytoajoklpbfehiaa.Sets
namespace Go.Proofs.Ytoajoklpbfehiaa.Sets
set_option linter.unusedVariables false
inductive Conn (E : Nat → Nat → Prop) : Nat → Nat → Prop where
 | refl (a : Nat) : Conn E a a
 | fwd {a b c : Nat} : Conn E a b → E b c → Conn E a c
 | bwd {a b c : Nat} : Conn E a b → E c b → Conn E a c
theorem Conn.trans {E : Nat → Nat → Prop} {a b c : Nat} (h : Conn E a b) (k : Conn E b c) : Conn E a c := by
 induction k with
 | refl => exact h
 | fwd _ e ih => exact .fwd ih e
 | bwd _ e ih => exact .bwd ih e
theorem Conn.one {E : Nat → Nat → Prop} {a b : Nat} (e : E a b) : Conn E a b := .fwd (.refl a) e
theorem Conn.symm {E : Nat → Nat → Prop} {a b : Nat} (h : Conn E a b) : Conn E b a := by
 induction h with
 | refl => exact .refl _
 | fwd _ e ih => exact (Conn.bwd (.refl _) e).trans ih
 | bwd _ e ih => exact (Conn.fwd (.refl _) e).trans ih
theorem Conn.mono {E F : Nat → Nat → Prop} (hEF : ∀ a b, E a b → Conn F a b) {a b : Nat} (h : Conn E a b) : Conn F a b := by
 induction h with
 | refl => exact .refl _
 | fwd _ e ih => exact ih.trans (hEF _ _ e)
 | bwd _ e ih => exact ih.trans (hEF _ _ e).symm
structure Part (n : Nat) (E : Nat → Nat → Prop) (m : List Nat) : Prop where
 len : m.length = n
 inn : ∀ a b, E a b → a < n ∧ b < n
 le : ∀ i, i < n → gt m i ≤ i
 edge : ∀ a b, E a b → gt m a = gt m b
 conn : ∀ i, i < n → Conn E i (gt m i)
theorem Part.const {n : Nat} {E : Nat → Nat → Prop} {m : List Nat} (h : Part n E m) {a b : Nat} (c : Conn E a b) : gt m a = gt m b := by
 induction c with
 | refl => rfl
 | fwd _ e ih => exact ih.trans (h.edge _ _ e)
 | bwd _ e ih => exact ih.trans (h.edge _ _ e).symm
theorem Part.lt {n : Nat} {E : Nat → Nat → Prop} {m : List Nat} (h : Part n E m) {i : Nat} (hi : i < n) : gt m i < n := by have := h.le i hi; omega
theorem Part.iff {n : Nat} {E : Nat → Nat → Prop} {m : List Nat} (h : Part n E m) {i j : Nat} (hi : i < n) (hj : j < n) : gt m i = gt m j ↔ Conn E i j :=
 ⟨fun e => (h.conn i hi).trans (by rw [e]; exact (h.conn j hj).symm), fun c => h.const c⟩
theorem list_ext_gt {l m : List Nat} (hl : l.length = m.length) (h : ∀ i, i < l.length → gt l i = gt m i) : l = m := by
 apply List.ext_getElem hl
 intro i h1 h2
 have := h i h1
 simpa [gt, List.getD_eq_getElem?_getD, h1, h2] using this
theorem Part.unique {n : Nat} {E F : Nat → Nat → Prop} {m m' : List Nat} (h : Part n E m) (k : Part n F m') (hEF : ∀ a b, E a b → Conn F a b) (hFE : ∀ a b, F a b → Conn E a b) : m = m' := by
 refine list_ext_gt (h.len.trans k.len.symm) (fun i hi => ?_)
 rw [h.len] at hi
 have h1 := k.const ((h.conn i hi).mono hEF)
 have h2 := h.const ((k.conn i hi).mono hFE)
 have h3 := k.le _ (h.lt hi)
 have h4 := h.le _ (k.lt hi)
 omega
theorem Part.congr {n : Nat} {E F : Nat → Nat → Prop} {m : List Nat} (h : Part n E m) (hin : ∀ a b, F a b → a < n ∧ b < n) (hEF : ∀ a b, E a b → Conn F a b) (hFE : ∀ a b, F a b → Conn E a b) : Part n F m :=
 ⟨h.len, hin, h.le, fun a b f => h.const (hFE a b f), fun i hi => (h.conn i hi).mono hEF⟩
theorem Part.range (n : Nat) : Part n (fun _ _ => False) (List.range n) :=
 ⟨by simp, fun _ _ h => h.elim, fun i hi => by rw [range_get hi]; exact Nat.le_refl _, fun _ _ h => h.elim, fun i hi => by rw [range_get hi]; exact .refl _⟩
theorem Part.glue {n : Nat} {E : Nat → Nat → Prop} {m : List Nat} (h : Part n E m) {a b lo hi : Nat} (ha : a < n) (hb : b < n) (hlt : lo < hi) (hor : (gt m a = lo ∧ gt m b = hi) ∨ (gt m a = hi ∧ gt m b = lo)) :
   Part n (fun x y => E x y ∨ (x = a ∧ y = b)) (Sets.glue lo hi m) := by
 have hl := h.len
 have g : ∀ i, i < n → gt (Sets.glue lo hi m) i = if gt m i = hi then lo else gt m i := fun i hi' => glue_get _ _ _ (by omega)
 have cab : Conn (fun x y => E x y ∨ (x = a ∧ y = b)) a b := .one (.inr ⟨rfl, rfl⟩)
 have up : ∀ x y, E x y → Conn (fun x y => E x y ∨ (x = a ∧ y = b)) x y := fun x y e => .one (.inl e)
 have clh : Conn (fun x y => E x y ∨ (x = a ∧ y = b)) hi lo := by
   have c1 := (h.conn a ha).mono up
   have c2 := (h.conn b hb).mono up
   rcases hor with ⟨e1, e2⟩ | ⟨e1, e2⟩
   · rw [e1] at c1; rw [e2] at c2; exact (c2.symm.trans cab.symm).trans c1
   · rw [e1] at c1; rw [e2] at c2; exact (c1.symm.trans cab).trans c2
 refine ⟨by rw [glue_length]; exact hl, ?_, ?_, ?_, ?_⟩
 · rintro x y (e | ⟨rfl, rfl⟩)
   · exact h.inn x y e
   · exact ⟨ha, hb⟩
 · intro i hi'
   rw [g i hi']
   have := h.le i hi'
   split <;> omega
 · rintro x y (e | ⟨rfl, rfl⟩)
   · have := h.inn x y e
     rw [g x this.1, g y this.2, h.edge x y e]
   · rw [g x ha, g y hb]
     rcases hor with ⟨e1, e2⟩ | ⟨e1, e2⟩
     · rw [e1, e2, if_neg (by omega), if_pos rfl]
     · rw [e1, e2, if_pos rfl, if_neg (by omega)]
 · intro i hi'
   have c := (h.conn i hi').mono up
   rw [g i hi']
   split
   · rename_i e; rw [e] at c; exact c.trans clh
   · exact c
end Go.Proofs.Ytoajoklpbfehiaa.Sets
namespace Go.Proofs.Ytoajoklpbfehiaa.Sets
set_option linter.unusedVariables false
def EP (n : Nat) (es : List (Int × Int)) (a b : Nat) : Prop := a < n ∧ b < n ∧ ((a : Int), (b : Int)) ∈ es
theorem ok_iff {m : List Nat} {a : Int} : ok m a = true ↔ 0 ≤ a ∧ a < (m.length : Int) := by
 simp only [ok, Bool.and_eq_true, decide_eq_true_eq]
theorem joinOf_same {m : List Nat} {a b : Nat} (h : gt m a = gt m b) : joinOf m a b = (m, false) := by
 unfold joinOf; rw [if_neg (by simp [h])]
theorem joinOf_out {m : List Nat} {a b : Int} (h : ¬ (ok m a = true ∧ ok m b = true)) : joinOf m a b = (m, false) := by
 unfold joinOf; rw [if_neg (by simp only [Bool.and_eq_true]; exact fun e => h e.1)]
theorem joinOf_two {m : List Nat} {a b : Nat} (ha : a < m.length) (hb : b < m.length) (h : gt m a ≠ gt m b) : joinOf m a b = (glue (min (gt m a) (gt m b)) (max (gt m a) (gt m b)) m, true) := by
 unfold joinOf; rw [if_pos (by simp [ok_of ha, ok_of hb, h])]; simp
theorem joinOf_part {n : Nat} {E : Nat → Nat → Prop} {m : List Nat} (h : Part n E m) (a b : Int) : Part n (fun x y => E x y ∨ (x < n ∧ y < n ∧ (x : Int) = a ∧ (y : Int) = b)) (joinOf m a b).1 := by
 have hl := h.len
 by_cases hk : ok m a = true ∧ ok m b = true
 · obtain ⟨i, rfl, hi⟩ := ok_nat hk.1
   obtain ⟨j, rfl, hj⟩ := ok_nat hk.2
   rw [hl] at hi hj
   by_cases he : gt m i = gt m j
   · rw [joinOf_same he]
     refine h.congr ?_ (fun a b e => .one (.inl e)) ?_
     · rintro x y (e | ⟨hx, hy, _⟩)
       · exact h.inn x y e
       · exact ⟨hx, hy⟩
     · rintro x y (e | ⟨hx, hy, ex, ey⟩)
       · exact .one e
       · obtain rfl : x = i := by omega
         obtain rfl : y = j := by omega
         exact (h.iff hi hj).1 he
   · rw [joinOf_two (by omega) (by omega) he]
     have hg := h.glue (a := i) (b := j) (lo := min (gt m i) (gt m j)) (hi := max (gt m i) (gt m j)) hi hj (by omega) (by omega)
     refine hg.congr ?_ ?_ ?_
     · rintro x y (e | ⟨hx, hy, _⟩)
       · exact h.inn x y e
       · exact ⟨hx, hy⟩
     · rintro x y (e | ⟨rfl, rfl⟩)
       · exact .one (.inl e)
       · exact .one (.inr ⟨hi, hj, rfl, rfl⟩)
     · rintro x y (e | ⟨hx, hy, ex, ey⟩)
       · exact .one (.inl e)
       · exact .one (.inr ⟨by omega, by omega⟩)
 · rw [joinOf_out hk]
   refine h.congr ?_ (fun a b e => .one (.inl e)) ?_
   · rintro x y (e | ⟨hx, hy, _⟩)
     · exact h.inn x y e
     · exact ⟨hx, hy⟩
   · rintro x y (e | ⟨hx, hy, ex, ey⟩)
     · exact .one e
     · exact absurd ⟨ok_iff.2 (by omega), ok_iff.2 (by omega)⟩ hk
theorem joinAll_part_from {n : Nat} (es : List (Int × Int)) : ∀ {E : Nat → Nat → Prop} {m : List Nat}, Part n E m → Part n (fun x y => E x y ∨ EP n es x y) (joinAll m es) := by
 induction es with
 | nil =>
   intro E m h
   exact h.congr (fun a b e => e.elim (h.inn a b) (fun e => by simp [EP] at e)) (fun a b e => .one (.inl e)) (fun a b e => e.elim .one (fun e => by simp [EP] at e))
 | cons e es ih =>
   intro E m h
   have h1 := ih (joinOf_part h e.1 e.2)
   refine h1.congr ?_ ?_ ?_
   · rintro x y (e | ⟨hx, hy, _⟩)
     · exact h.inn x y e
     · exact ⟨hx, hy⟩
   · rintro x y ((e' | ⟨hx, hy, ex, ey⟩) | ⟨hx, hy, hm⟩)
     · exact .one (.inl e')
     · exact .one (.inr ⟨hx, hy, by rw [ex, ey]; exact List.mem_cons_self ..⟩)
     · exact .one (.inr ⟨hx, hy, List.mem_cons_of_mem _ hm⟩)
   · rintro x y (e' | ⟨hx, hy, hm⟩)
     · exact .one (.inl (.inl e'))
     · rcases List.mem_cons.1 hm with he | hm
       · exact .one (.inl (.inr ⟨hx, hy, by rw [← he], by rw [← he]⟩))
       · exact .one (.inr ⟨hx, hy, hm⟩)
theorem joinAll_part (n : Nat) (es : List (Int × Int)) : Part n (EP n es) (joinAll (List.range n) es) := by
 have h := joinAll_part_from es (Part.range n)
 exact h.congr (fun a b e => ⟨e.1, e.2.1⟩) (fun a b e => e.elim (fun e => e.elim) .one) (fun a b e => .one (.inr e))
end Go.Proofs.Ytoajoklpbfehiaa.Sets
namespace Go.Proofs.Ytoajoklpbfehiaa.Sets
open Go.RowKit Go.Proofs.YtoajoklpbfehiaaW.PrintWords Go.Proofs.YtoajoklpbfehiaaW.PrintLast Go.Proofs.YtoajoklpbfehiaaW.PrintMore
set_option linter.unusedVariables false
set_option linter.unusedSimpArgs false
def gl (gs : List (List Nat)) (j : Nat) : List Nat := gs.getD j []
def va (vs : List Value) (j : Nat) : Value := vs.getD j (.slice none 0 0)
theorem gl_set (gs : List (List Nat)) (i j : Nat) (x : List Nat) : gl (gs.set i x) j = if i = j ∧ j < gs.length then x else gl gs j := by
 unfold gl
 simp only [List.getD_eq_getElem?_getD, List.getElem?_set]
 by_cases h : i = j
 · subst h
   by_cases h2 : i < gs.length <;> simp [h2]
 · simp [h]
theorem va_set (gs : List Value) (i j : Nat) (x : Value) : va (gs.set i x) j = if i = j ∧ j < gs.length then x else va gs j := by
 unfold va
 simp only [List.getD_eq_getElem?_getD, List.getElem?_set]
 by_cases h : i = j
 · subst h
   by_cases h2 : i < gs.length <;> simp [h2]
 · simp [h]
def iv (l : List Nat) : List Value := l.map fun (x : Nat) => Value.int .i64 (x : Int)
structure GRows (w : World) (B bo : Nat) (vs : List Value) (gs : List (List Nat)) : Prop where
 len : vs.length = gs.length
 out : w.heap[bo]? = some (.cells vs.toArray 34 (0, 0))
 own : ∀ j, j < gs.length → w.ownsRow B 3 1 (va vs j) (gl gs j).length (iv (gl gs j))
 apart : ∀ i j, i < gs.length → j < gs.length → i ≠ j → ∀ k, (va vs i).ownBlock = some k → (va vs j).ownBlock ≠ some k
 lt : bo < B
 base : B ≤ w.heap.size
theorem own_lt {w : World} {B e s n : Nat} {v : Value} {xs : List Value} (h : w.ownsRow B e s v n xs) {k : Nat} (hk : v.ownBlock = some k) : B ≤ k ∧ k < w.heap.size := h.lt k hk
theorem own_form {w : World} {base e size n : Nat} {v : Value} {xs : List Value} (h : w.ownsRow base e size v n xs) : ∃ A c, v = .slice A n c := by
 rcases h.2 with ⟨rfl, rfl⟩ | ⟨g, cap, cur, rfl, _⟩
 · exact ⟨none, 0, rfl⟩
 · exact ⟨_, _, rfl⟩
theorem own_move' {w w1 : World} {base : Nat} {e : TypeId} {size n : Nat} {v : Value} {xs : List Value} (h : w.ownsRow base e size v n xs) (hm : ∀ k, v.ownBlock = some k → w1.heap[k]? = w.heap[k]?) : w1.ownsRow base e size v n xs := own_move h hm
theorem GRows.frame {w w' : World} {B bo : Nat} {vs : List Value} {gs : List (List Nat)} (h : GRows w B bo vs gs) (hs : w.heap.size ≤ w'.heap.size) (hb : ∀ k, B ≤ k → k < w.heap.size → w'.heap[k]? = w.heap[k]?) (ho : w'.heap[bo]? = w.heap[bo]?) : GRows w' B bo vs gs :=
 ⟨h.len, ho.trans h.out, fun j hj => own_move' (h.own j hj) (fun k hk => hb k (own_lt (h.own j hj) hk).1 (own_lt (h.own j hj) hk).2), h.apart, h.lt, Nat.le_trans h.base hs⟩
theorem GRows.alloc {w : World} {B bo : Nat} {vs : List Value} {gs : List (List Nat)} (h : GRows w B bo vs gs) (o : Obj) : GRows (w.alloc o) B bo vs gs :=
 h.frame (by simp) (fun k _ hk => Below.heap_alloc _ _ _ hk) (Below.heap_alloc _ _ _ (blk_lt h.out))
theorem GRows.cell {w : World} {B bo : Nat} {vs : List Value} {gs : List (List Nat)} (h : GRows w B bo vs gs) {j : Nat} (hj : j < gs.length) : w.cell? ⟨bo, j, none⟩ = some (va vs j) := by
 have hl := h.len
 simp [World.cell?, h.out, va, List.getD_eq_getElem?_getD, show j < vs.length by omega]
theorem GRows.put {w w1 : World} {B bo : Nat} {vs : List Value} {gs : List (List Nat)} (h : GRows w B bo vs gs) {k : Nat} (hk : k < gs.length) {v' : Value} {a : Nat}
   (hown : w1.ownsRow B 3 1 v' ((gl gs k).length + 1) (iv (gl gs k) ++ [.int .i64 (a : Int)])) (hg : w.grownBy w1 (va vs k).ownBlock) (hat : v'.ownBlock = (va vs k).ownBlock ∨ v'.ownBlock = some w.heap.size) :
   GRows (w1.setCell ⟨bo, k, none⟩ v') B bo (vs.set k v') (gs.set k (gl gs k ++ [a])) := by
 have hl := h.len
 have hlt := h.lt
 have hne : ∀ q, (va vs k).ownBlock = some q → q ≠ bo := fun q hq e => by have := (own_lt (h.own k hk) hq).1; omega
 have ho1 : w1.heap[bo]? = some (.cells vs.toArray 34 (0, 0)) := (hg.block bo (blk_lt h.out) (fun e => hne bo e.symm rfl)).trans h.out
 refine ⟨by simp [h.len], ?_, ?_, ?_, h.lt, by have := h.base; have := hg.size; simp [World.setCell]; omega⟩
 · rw [blk_setCell ho1]; simp
 · intro j hj
   rw [List.length_set] at hj
   rw [gl_set, va_set]
   by_cases hkj : k = j
   · subst hkj
     rw [if_pos ⟨rfl, by omega⟩, if_pos ⟨rfl, hj⟩]
     have e1 : iv (gl gs k ++ [a]) = iv (gl gs k) ++ [.int .i64 (a : Int)] := by simp [iv]
     rw [List.length_append, List.length_singleton, e1]
     exact own_move' hown (fun q hq => Below.heap_setCell _ _ _ _ (fun e => by have := (own_lt hown hq).1; simp at e; omega))
   · rw [if_neg (by simp [hkj]), if_neg (by simp [hkj])]
     refine own_move' (h.own j hj) (fun q hq => ?_)
     have hq2 := own_lt (h.own j hj) hq
     rw [Below.heap_setCell _ _ _ _ (fun e => by simp at e; omega)]
     exact hg.block q hq2.2 (fun e => h.apart k j hk hj hkj q e.symm hq)
 · intro i j hi hj hij q hq
   rw [List.length_set] at hi hj
   rw [va_set] at hq
   rw [va_set]
   by_cases hki : k = i
   · subst hki
     rw [if_pos ⟨rfl, by omega⟩] at hq
     rw [if_neg (by simp [hij])]
     intro hq2
     rcases hat with e | e
     · exact h.apart k j hi hj hij q (e ▸ hq) hq2
     · have := (own_lt (h.own j hj) hq2).2
       rw [hq] at e
       simp at e; omega
   · rw [if_neg (by simp [hki])] at hq
     by_cases hkj : k = j
     · subst hkj
       rw [if_pos ⟨rfl, by omega⟩]
       intro hq2
       rcases hat with e | e
       · exact h.apart i k hi hj hij q hq (e ▸ hq2)
       · have := (own_lt (h.own i hi) hq).2
         rw [hq2] at e
         simp at e; omega
     · rw [if_neg (by simp [hkj])]
       exact h.apart i j hi hj hij q hq
def grpTo (nums : List Nat) (c : Nat) : Nat → List (List Nat)
 | 0 => List.replicate c []
 | k + 1 => (grpTo nums c k).set (gt nums k) (gl (grpTo nums c k) (gt nums k) ++ [k])
theorem grpTo_length (nums : List Nat) (c k : Nat) : (grpTo nums c k).length = c := by
 induction k with
 | zero => simp [grpTo]
 | succ k ih => simp [grpTo, ih]
theorem grpTo_le (nums : List Nat) (c k : Nat) : ∀ j, (gl (grpTo nums c k) j).length ≤ k := by
 induction k with
 | zero => intro j; unfold grpTo gl; rw [List.getD_eq_getElem?_getD, List.getElem?_replicate]; split <;> simp
 | succ k ih =>
   intro j
   unfold grpTo
   rw [gl_set]; split
   · rw [List.length_append, List.length_singleton]; exact Nat.succ_le_succ (ih _)
   · exact Nat.le_succ_of_le (ih j)
theorem gt_snoc_lt {l : List Nat} {x i : Nat} (h : i < l.length) : gt (l ++ [x]) i = gt l i := by
 unfold gt; simp only [List.getD_eq_getElem?_getD]; rw [List.getElem?_append_left h]
theorem gt_snoc_eq {l : List Nat} {x i : Nat} (h : i = l.length) : gt (l ++ [x]) i = x := by
 subst h
 unfold gt; simp
theorem numTo_lt (m : List Nat) : ∀ (k i : Nat), i < k → gt (numTo m k).1 i < (numTo m k).2 := by
 intro k
 induction k with
 | zero => intro i h; omega
 | succ k ih =>
   intro i hi
   have hl := numTo_length m k
   by_cases hlt : gt m k < k
   · have e : numTo m (k + 1) = ((numTo m k).1 ++ [gt (numTo m k).1 (gt m k)], (numTo m k).2) := by conv => lhs; unfold numTo; rw [if_pos hlt]
     rw [e]
     show gt ((numTo m k).1 ++ [gt (numTo m k).1 (gt m k)]) i < (numTo m k).2
     by_cases hik : i < k
     · rw [gt_snoc_lt (by omega)]; exact ih i hik
     · rw [gt_snoc_eq (by omega)]; exact ih _ hlt
   · have e : numTo m (k + 1) = ((numTo m k).1 ++ [(numTo m k).2], (numTo m k).2 + 1) := by conv => lhs; unfold numTo; rw [if_neg hlt]
     rw [e]
     show gt ((numTo m k).1 ++ [(numTo m k).2]) i < (numTo m k).2 + 1
     by_cases hik : i < k
     · rw [gt_snoc_lt (by omega)]; have := ih i hik; omega
     · rw [gt_snoc_eq (by omega)]; omega
theorem info_ints : (Try.prog.info? 34).map (fun i => (i.zero, i.size, i.bytes)) = some (some (.slice none 0 0), 1, 24) := by kernel_rfl
theorem made_nil (n : Nat) : madeCells #[.slice none 0 0] n = Array.replicate n (Value.slice none 0 0) := by
 apply Array.ext
 · simp [madeCells]
 · intro i h1 h2
   simp [madeCells, Nat.mod_one]
theorem GRows.start {w : World} (n : Nat) : GRows (w.alloc (.cells (Array.replicate n (Value.slice none 0 0)) 34 (0, 0))) (w.heap.size + 1) w.heap.size (List.replicate n (.slice none 0 0)) (List.replicate n []) := by
 have g : ∀ j, va (List.replicate n (.slice none 0 0)) j = .slice none 0 0 := fun j => by unfold va; rw [List.getD_eq_getElem?_getD, List.getElem?_replicate]; split <;> rfl
 have g2 : ∀ j, gl (List.replicate n []) j = [] := fun j => by unfold gl; rw [List.getD_eq_getElem?_getD, List.getElem?_replicate]; split <;> rfl
 refine ⟨by simp, by simpa using heap_last w (.cells (Array.replicate n (Value.slice none 0 0)) 34 (0, 0)), fun j _ => ?_, fun i j _ _ _ k hk => ?_, by omega, by simp⟩
 · rw [g, g2]; exact World.ownsRow_nil _ _ _ _
 · rw [g] at hk; simp [Value.ownBlock] at hk
def groupsOf (m : List Nat) : List (List Nat) := grpTo (numTo m m.length).1 (numTo m m.length).2 m.length
set_option maxHeartbeats 1000000 in
set_option maxRecDepth 100000 in
theorem groups_calls (p bP bS : Nat) (m P S : List Nat) (w : World) (h : AtPS w p bP bS m P S) :
   Calls Try.prog 23 #[.pointer (some ⟨p, 0, none⟩)] w fun e w' => ∃ (B bo : Nat) (vs : List Value), e = .returned (.slice (some ⟨bo, 0, none⟩) (numTo m m.length).2 (numTo m m.length).2) ∧ w.heap.size ≤ bo ∧ GRows w' B bo vs (groupsOf m) ∧ Now p bP bS m w w' := by
 have H := Aside0.mk h
 have hs := h.small
 have hc := numTo_le m m.length
 clear h
 go_enter Try.func23, Try.ntmps23
 go_wp2_with fail
 refine (numbers_calls p bP bS m P S _ H.out).mono ?_
 rintro e w1 ⟨bn, rfl, hbn, hrow, hN⟩
 have hp := blk_lt H.out.obj
 have hP := blk_lt H.out.par
 have hS := blk_lt H.out.siz
 have HO := Aside0.mk hrow
 have HN := Aside0.mk hN
 have mk1 := print_make_of (P := Try.prog) 51 34 (.slice none 0 0) 24 Try.underlying51 info_ints rfl (by decide) (numTo m m.length).2 (by omega)
 rw [made_nil] at mk1
 have hrl := blk_lt hrow
 have hsz := hN.2.size
 clear hrow hN H
 go_wp2
 clear mk1
 obtain ⟨nums, hnums⟩ : ∃ l, l = (numTo m m.length).1 := ⟨_, rfl⟩
 obtain ⟨c, hcc⟩ : ∃ c, c = (numTo m m.length).2 := ⟨_, rfl⟩
 have hnl : nums.length = m.length := by rw [hnums, numTo_length]
 have hng : ∀ i, i < m.length → gt nums i < c := fun i hi => by rw [hnums, hcc]; exact numTo_lt m _ i hi
 have HNL := Aside0.mk hnl
 have HNG := Aside0.mk hng
 have hgr : groupsOf m = grpTo nums c m.length := by rw [hnums, hcc]; rfl
 have HGR := Aside0.mk hgr
 have HCC := Aside0.mk hcc
 rw [← hnums] at HO
 rw [← hcc] at hc ⊢
 clear hnl hng hnums hcc hgr
 have HG0 := Aside0.mk (GRows.start (w := w1) c)
 have HO0 : Aside0 (RowAt (w1.alloc (.cells (Array.replicate c (Value.slice none 0 0)) 34 (0, 0))) bn nums) := ⟨heap_old HO.out _⟩
 have HN0 : Aside0 (Now p bP bS m w (w1.alloc (.cells (Array.replicate c (Value.slice none 0 0)) 34 (0, 0)))) := ⟨by
   obtain ⟨P', S', h1⟩ := HN.out.1
   exact ⟨P', S', heap_old h1.obj _, heap_old h1.par _, heap_old h1.siz _, h1.ne1, h1.ne2, h1.ne3, h1.small, h1.rep, h1.sized⟩, HN.out.2.alloc _⟩
 have hbo : w.heap.size ≤ w1.heap.size := hsz
 generalize w1.alloc (.cells (Array.replicate c (Value.slice none 0 0)) 34 (0, 0)) = w2 at HG0 HO0 HN0 ⊢
 obtain ⟨bo, hbo2⟩ : ∃ b, b = w1.heap.size := ⟨_, rfl⟩
 rw [← hbo2] at HG0 hrl hbo ⊢
 clear HO HN hsz hbo2
 obtain ⟨i0, hi0, hz0, hz1, hz2⟩ := info_parts info_int
 go_loopw [19] (fun v wr => ∃ (i : Nat) (vs : List Value), v = .int .i64 (i : Int) ∧ i ≤ m.length ∧ Aside0 (GRows wr (bo + 1) bo vs (grpTo nums c i)) ∧ Aside0 (RowAt wr bn nums) ∧ Aside0 (Now p bP bS m w wr)) (fun v _ => m.length - (intOf v).toNat)
 case atStart => exact ⟨0, _, rfl, by omega, HG0, HO0, HN0⟩
 case round =>
   clear HG0 HO0 HN0
   obtain ⟨i, vs, rfl, hi, HG, HO, HN⟩ := hrel
   by_cases hlt : i < m.length
   · have hk := HNG.out i hlt
     have hgl := grpTo_length nums c i
     have c1 := nv_cell HO.out (i := i) (by rw [HNL.out]; exact hlt)
     have c2 := HG.out.cell (j := gt nums i) (by omega)
     have HG1 := Aside0.mk (HG.out.alloc (.cells #[.int .i64 (i : Int)] 3 (0, 0)))
     have hle := grpTo_le nums c i (gt nums i)
     have HGL := Aside0.mk hgl
     clear hgl
     go_wp2_with (at_builtin; refine wpList_append_own_at _ rfl _ _ 34 rfl (bo + 1) 3 i0 (.int .i64 0) 1 8 Try.underlying34 hi0 hz0 hz1 hz2 rfl (by decide) _ _ _ rfl (HG1.out.own (gt nums i) (by rw [HGL.out]; exact hk)) ⟨wr.heap.size, 0, none⟩ 1 1 [.int .i64 (i : Int)] rfl rfl ?c1 ?c2 ?c3 ?c4 ?c5 ?_)
     case c1 =>
       intro j u hj
       obtain rfl : j = 0 := by
         rcases j with _ | j
         · rfl
         · simp at hj
       obtain rfl : u = .int .i64 (i : Int) := by simpa using hj.symm
       exact (blk_cell (heap_last wr (.cells #[.int .i64 (i : Int)] 3 (0, 0))) 0).trans rfl
     case c2 => intro u hu; simp at hu; subst hu; rfl
     case c3 => unfold maxLen; omega
     case c4 => omega
     case c5 => exact HG1.out.base
     intro v' w3 hown hgrow _ hat
     obtain ⟨A', c', rfl⟩ := own_form hown
     have HG2 := Aside0.mk (HG1.out.put (by rw [HGL.out]; exact hk) hown hgrow (by simpa using hat))
     have hb3 : w3.heap[bo]? = some (.cells vs.toArray 34 (0, 0)) := (hgrow.block bo (blk_lt HG1.out.out) (fun e => by have := (own_lt (HG1.out.own _ (by rw [HGL.out]; exact hk)) e.symm).1; omega)).trans HG1.out.out
     have hn3 : RowAt w3 bn nums := (hgrow.block bn (by have := blk_lt HO.out; simp; omega) (fun e => by have := (own_lt (HG1.out.own _ (by rw [HGL.out]; exact hk)) e.symm).1; omega)).trans (heap_old HO.out _)
     have hN3 : Now p bP bS m w w3 := by
       obtain ⟨P', S', h1⟩ := HN.out.1
       have e1 : ∀ k, k < w.heap.size → some k ≠ (va vs (gt nums i)).ownBlock := fun k hk2 e => by have := (own_lt (HG1.out.own _ (by rw [HGL.out]; exact hk)) e.symm).1; omega
       have e2 : ∀ {k : Nat} {o : Obj}, k < w.heap.size → wr.heap[k]? = some o → w3.heap[k]? = some o := fun hk2 ho => (hgrow.block _ (by have := HN.out.2.size; simp; omega) (e1 _ hk2)).trans (heap_old ho _)
       exact ⟨⟨P', S', e2 hp h1.obj, e2 hP h1.par, e2 hS h1.siz, h1.ne1, h1.ne2, h1.ne3, h1.small, h1.rep, h1.sized⟩,
         ⟨hgrow.os.trans HN.out.2.os, hgrow.tape.trans HN.out.2.tape, hgrow.output.trans HN.out.2.output, Nat.le_trans HN.out.2.size (by have := hgrow.size; simp at this; omega),
           fun k hk2 hs2 => (hgrow.block k (by have := HN.out.2.size; simp; omega) (e1 k hk2)).trans ((Below.heap_alloc _ _ _ (by have := HN.out.2.size; omega)).trans (HN.out.2.block k hk2 hs2))⟩⟩
     have hcl : w3.cell? ⟨bo, gt nums i, none⟩ = some (va vs (gt nums i)) := by
       have := HG.out.len
       simp [World.cell?, hb3, va, List.getD_eq_getElem?_getD, show gt nums i < vs.length by rw [this, HGL.out]; exact hk]
     have hfr : w3.frozen? ⟨bo, gt nums i, none⟩ = false := by simp [World.frozen?, hb3]
     have HN3 : Aside0 (Now p bP bS m w (w3.setCell ⟨bo, gt nums i, none⟩ (.slice A' ((gl (grpTo nums c i) (gt nums i)).length + 1) c'))) := ⟨by
       obtain ⟨P', S', h1⟩ := hN3.1
       exact ⟨P', S', heap_setCell_ne h1.obj (by omega), heap_setCell_ne h1.par (by omega), heap_setCell_ne h1.siz (by omega), h1.ne1, h1.ne2, h1.ne3, h1.small, h1.rep, h1.sized⟩,
       ⟨hN3.2.os, hN3.2.tape, hN3.2.output, by have := hN3.2.size; simpa [World.setCell] using this, fun k hk2 hs2 => (Below.heap_setCell _ _ _ _ (by simp; omega)).trans (hN3.2.block k hk2 hs2)⟩⟩
     have HO3 : Aside0 (RowAt (w3.setCell ⟨bo, gt nums i, none⟩ (.slice A' ((gl (grpTo nums c i) (gt nums i)).length + 1) c')) bn nums) := ⟨heap_setCell_ne hn3 (by omega)⟩
     clear hown hgrow hat hb3 hn3 hN3 HG1 HG HO HN c1 c2
     go_wp2
     go_roundw
     case rel => exact ⟨i + 1, _, by go_num, by omega, HG2, HO3, HN3⟩
     case measure => simp [intOf]; omega
   · obtain rfl : i = m.length := by omega
     go_wp2
     go_ret
     exact ⟨bo + 1, bo, vs, by rw [← HCC.out]; rfl, hbo, by rw [HGR.out]; exact HG.out, HN.out⟩
end Go.Proofs.Ytoajoklpbfehiaa.Sets
namespace Go.Proofs.Ytoajoklpbfehiaa.Sets
open Go.RowKit Go.Proofs.YtoajoklpbfehiaaW.PrintWords Go.Proofs.YtoajoklpbfehiaaW.PrintLast Go.Proofs.YtoajoklpbfehiaaW.PrintMore
set_option linter.unusedVariables false
set_option linter.unusedSimpArgs false
structure RowG (w : World) (g cap : Nat) (l : List Nat) : Prop where
 ex : ∃ cur, w.heap[g]? = some (.cells cur 3 (0, 0)) ∧ cur.size = cap ∧ cur.toList.take l.length = iv l
 le : l.length ≤ cap
theorem iv_get (l : List Nat) (i : Nat) (h : i < l.length) : (iv l)[i]? = some (.int .i64 ((gt l i : Nat) : Int)) := by
 simp [iv, gt, List.getD_eq_getElem?_getD, h]
theorem RowG.cell {w : World} {g cap : Nat} {l : List Nat} (h : RowG w g cap l) {i : Nat} (hi : i < l.length) : w.cell? ⟨g, i, none⟩ = some (.int .i64 ((gt l i : Nat) : Int)) := by
 obtain ⟨cur, h1, h2, h3⟩ := h.ex
 have e : cur[i]? = (cur.toList.take l.length)[i]? := by rw [List.getElem?_take_of_lt hi]; simp
 simp only [World.cell?, h1, Option.isSome_none, Bool.false_eq_true, if_false]
 rw [e, h3, iv_get l i hi]
theorem RowG.free {w : World} {g cap : Nat} {l : List Nat} (h : RowG w g cap l) (i : Nat) : w.frozen? ⟨g, i, none⟩ = false := by
 obtain ⟨cur, h1, _⟩ := h.ex
 exact blk_free h1 i
theorem RowG.lt {w : World} {g cap : Nat} {l : List Nat} (h : RowG w g cap l) : g < w.heap.size := by
 obtain ⟨cur, h1, _⟩ := h.ex
 exact blk_lt h1
theorem RowG.frame {w w' : World} {g cap : Nat} {l : List Nat} (h : RowG w g cap l) (hb : w'.heap[g]? = w.heap[g]?) : RowG w' g cap l := by
 obtain ⟨cur, h1, h2⟩ := h.ex
 exact ⟨⟨cur, hb.trans h1, h2⟩, h.le⟩
theorem RowG.set {w : World} {g cap : Nat} {l : List Nat} (h : RowG w g cap l) (i x : Nat) (hi : i < l.length) : RowG (w.setCell ⟨g, i, none⟩ (.int .i64 (x : Int))) g cap (l.set i x) := by
 obtain ⟨cur, h1, h2, h3⟩ := h.ex
 refine ⟨⟨_, blk_setCell h1 _, by simpa using h2, ?_⟩, by simpa using h.le⟩
 rw [List.length_set, Array.toList_setIfInBounds, List.take_set, h3]
 simp [iv, List.map_set]
theorem RowG.of_own {w : World} {base : Nat} {ok : Nat → Prop} {v : Value} {l : List Nat} (h : Kd.R (Kd.int .i64) 3 w base ok v (l.map fun (x : Nat) => (x : Int))) (hl : 0 < l.length) : ∃ g cap, v = .slice (some ⟨g, 0, none⟩) l.length cap ∧ base ≤ g ∧ cap ≤ 9223372036854775807 ∧ RowG w g cap l := by
 obtain ⟨_, inner, ho, hr⟩ := h
 have he : inner = encs (Value.int .i64) (l.map fun (x : Nat) => (x : Int)) := Kd.reps_encs hr
 obtain ⟨h1, ⟨rfl, hn⟩ | ⟨g, cap, cur, rfl, hb, hh, hc, hm, hs, ht⟩⟩ := ho
 · rw [List.length_map] at hn; omega
 · refine ⟨g, cap, by simp, hb, by simpa [maxLen] using hm, ⟨⟨cur, hh, by simpa [Kd.int, Kd.scalar] using hs, ?_⟩, by simpa using hc⟩⟩
   have hsz : (Kd.int .i64).sz = 1 := rfl
   rw [hsz, Nat.mul_one, List.length_map, he] at ht
   rw [ht]; simp [encs, iv]
def total (l : List Nat) : Nat := l.sum
theorem total_set {l : List Nat} {i x : Nat} (hi : i < l.length) (h : x < gt l i) : total (l.set i x) < total l := by
 unfold total
 induction l generalizing i with
 | nil => simp at hi
 | cons a l ih =>
   cases i with
   | zero => simp [gt] at h ⊢; omega
   | succ i =>
     have := ih (i := i) (by simpa using hi) (by simpa [gt] using h)
     simp; omega
def Good (n : Nat) (E : Nat → Nat → Prop) (l : List Nat) : Prop := l.length = n ∧ (∀ i, i < n → gt l i ≤ i) ∧ ∀ i, i < n → Conn E i (gt l i)
theorem Good.set {n : Nat} {E : Nat → Nat → Prop} {l : List Nat} (h : Good n E l) {u v : Nat} (hu : u < n) (hv : v < n) (hc : Conn E u v) (hlt : gt l v < gt l u) : Good n E (l.set u (gt l v)) := by
 obtain ⟨h1, h2, h3⟩ := h
 refine ⟨by simp [h1], fun i hi => ?_, fun i hi => ?_⟩
 · rw [getD_set]; split
   · rename_i c; obtain ⟨rfl, _⟩ := c
     have := h2 u hi; omega
   · exact h2 i hi
 · rw [getD_set]; split
   · rename_i c; obtain ⟨rfl, _⟩ := c
     exact hc.trans (h3 v hv)
   · exact h3 i hi
theorem Good.range (n : Nat) (E : Nat → Nat → Prop) : Good n E (List.range n) :=
 ⟨by simp, fun i hi => by rw [range_get hi]; exact Nat.le_refl _, fun i hi => by rw [range_get hi]; exact .refl _⟩
theorem Good.done {n : Nat} {es : List (Int × Int)} {l : List Nat} (h : Good n (EP n es) l) (hst : ∀ a b, EP n es a b → gt l a = gt l b) : l = joinAll (List.range n) es :=
 Part.unique (E := EP n es) (F := EP n es) ⟨h.1, fun a b e => ⟨e.1, e.2.1⟩, h.2.1, hst, h.2.2⟩ (joinAll_part n es) (fun _ _ => .one) (fun _ _ => .one)
def RefYes (n : Int) (A : Option Addr) (l c : Nat) (w : World) : Prop := ∀ w', Below w.heap.size w w' →
 Calls Try.prog 15 #[.agg #[.int .i64 n, .slice A l c]] w' fun e w'' => e = .returned (.bool true) ∧ Below w'.heap.size w' w''
def RefNo (n : Int) (A : Option Addr) (l c : Nat) (w : World) : Prop := ∀ w', Below w.heap.size w w' →
 Calls Try.prog 15 #[.agg #[.int .i64 n, .slice A l c]] w' fun e w'' => e = .returned (.bool false) ∧ Below w'.heap.size w' w''
def RefNew (n : Nat) : Prop := ∀ w',
 Calls Try.prog 18 #[.int .i64 (n : Int)] w' fun e w'' => ∃ v, e = .returned (.tuple #[v, .int .i64 0]) ∧ Kd.R (Kd.int .i64) 3 w'' w'.heap.size (fun _ => True) v ((List.range n).map fun (x : Nat) => (x : Int)) ∧ Below w'.heap.size w' w''
set_option maxHeartbeats 1000000 in
set_option maxRecDepth 100000 in
theorem refOf_no (n : Int) (A : Option Addr) (l c : Nat) (w : World) (hv : RefNo n A l c w) :
   Calls Try.prog 27 #[.agg #[.int .i64 n, .slice A l c]] w fun e w' => e = .returned (.tuple #[.slice none 0 0, .int .i64 0, .int .i64 1]) ∧ Below w.heap.size w w' := by
 have B0 := (Below.refl w.heap.size w).alloc (Nat.le_refl _) (.cells #[.int .i64 n, .slice A l c] 31 (0, 0))
 have HV := Aside0.mk (hv _ B0)
 have HB := Aside0.mk B0
 clear hv B0
 go_enter Try.func27, Try.ntmps27
 go_wp2_with (go_at_call 15; refine (HV.out).mono ?_; rintro e w' ⟨rfl, hb⟩; have HB2 := Aside0.mk (HB.out.trans (hb.mono (by simp))); clear hb)
 go_ret3
 exact ⟨rfl, HB2.out⟩
set_option maxHeartbeats 2000000 in
set_option maxRecDepth 100000 in
theorem refOf_pos (n : Nat) (A : Option Addr) (c : Nat) (es : List (Int × Int)) (w : World) (hv : RefYes n A es.length c w) (hnew : RefNew n) (hn : n ≤ 1048576) (hpos : 0 < n) (he : Pairs w A es) (hl : es.length ≤ 4194304)
   (hin : ∀ i, i < es.length → 0 ≤ (pe es i).1 ∧ (pe es i).1 < n ∧ 0 ≤ (pe es i).2 ∧ (pe es i).2 < n) :
   Calls Try.prog 27 #[.agg #[.int .i64 (n : Int), .slice A es.length c]] w fun e w' => ∃ bo, e = .returned (.tuple #[.slice (some ⟨bo, 0, none⟩) n n, .int .i64 (((numTo (joinAll (List.range n) es) n).2 : Nat) : Int), .int .i64 0]) ∧ w.heap.size ≤ bo ∧ RowAt w' bo (numTo (joinAll (List.range n) es) n).1 ∧ Below w.heap.size w w' := by
 have B0 := (Below.refl w.heap.size w).alloc (Nat.le_refl _) (.cells #[.int .i64 (n : Int), .slice A es.length c] 31 (0, 0))
 have HV := Aside0.mk (hv _ B0)
 have HB := Aside0.mk B0
 have HX := Aside0.mk (heap_last w (.cells #[.int .i64 (n : Int), .slice A es.length c] 31 (0, 0)))
 have HE := Aside0.mk he
 have HNEW := Aside0.mk hnew
 have HIN := Aside0.mk hin
 clear hv B0 he hnew hin
 go_enter Try.func27, Try.ntmps27
 go_wp2_with fail
 refine (HV.out).mono ?_
 rintro e w2 ⟨rfl, hb⟩
 have HB2 := Aside0.mk (HB.out.trans (hb.mono (by simp)))
 have HX2 := Aside0.mk ((hb.block w.heap.size (by simp)).trans HX.out)
 clear hb HB HX HV
 have x0 : w2.cell? ⟨w.heap.size, 0, none⟩ = some (.int .i64 (n : Int)) := (blk_cell HX2.out 0).trans rfl
 go_wp2_with fail
 refine (HNEW.out _).mono ?_
 rintro e w3 ⟨v, rfl, hr, hb⟩
 obtain ⟨g, cap, hv, hg, hcap, hrow⟩ := RowG.of_own hr (by simpa using hpos)
 rw [List.length_range] at hv
 subst hv
 have hsz := HB2.out.size
 have HB3 := Aside0.mk (HB2.out.trans (hb.mono hsz))
 have HX3 := Aside0.mk ((hb.block w.heap.size (blk_lt HX2.out)).trans HX2.out)
 have HR3 := Aside0.mk hrow
 have hgl : w.heap.size < g := by have := blk_lt HX2.out; omega
 clear hb hr hrow x0 hsz hg HX2 HB2
 go_wp2
 obtain ⟨K0, hK0⟩ : ∃ K0, K0 = total (List.range n) + 1 := ⟨_, rfl⟩
 have HK0 := Aside0.mk hK0
 clear hK0
 go_loopg [7] K0 (fun kq v wr => ∃ (l : List Nat) (ch : Bool), v = .bool ch ∧ Aside0 (Good n (EP n es) l) ∧ Aside0 (total l + (if ch = true then 1 else 0) ≤ kq) ∧ Aside0 (ch = false → l = joinAll (List.range n) es) ∧ Aside0 (RowG wr g cap l) ∧ Aside0 (wr.heap[w.heap.size]? = some (.cells #[.int .i64 (n : Int), .slice A es.length c] 31 (0, 0))) ∧ Aside0 (Below w.heap.size w wr))
 case atStart => exact ⟨List.range n, true, rfl, ⟨Good.range n _⟩, ⟨by rw [HK0.out]; simp⟩, ⟨by simp⟩, HR3, HX3, HB3⟩
 case round =>
   clear HR3 HX3 HB3
   obtain ⟨l, ch, rfl, HG, HT, HD, HR, HX, HB⟩ := hrel
   have x0 : wr.cell? ⟨w.heap.size, 0, none⟩ = some (.int .i64 (n : Int)) := (blk_cell HX.out 0).trans rfl
   have x1 : wr.cell? ⟨w.heap.size, 1, none⟩ = some (.slice A es.length c) := (blk_cell HX.out 1).trans rfl
   cases ch with
   | false =>
     have hd := HD.out rfl
     have HJ := Aside0.mk hd
     have mk1 := print_make (P := Try.prog) 34 3 .i64 8 Try.underlying34 info_int (by decide) n (by omega)
     rw [made_nv, ← numRow_zero l] at mk1
     have hgk : g < wr.heap.size := HR.out.lt
     clear hd HD HT x1
     go_wp2
     clear mk1 x0
     have HO1 : Aside0 (RowAt (wr.alloc (.cells (nv (numRow l n 0)) 3 (0, 0))) wr.heap.size (numRow l n 0)) := ⟨heap_last _ _⟩
     have HR1 : Aside0 (RowG (wr.alloc (.cells (nv (numRow l n 0)) 3 (0, 0))) g cap l) := ⟨HR.out.frame (Below.heap_alloc _ _ _ hgk)⟩
     have HX1 : Aside0 ((wr.alloc (.cells (nv (numRow l n 0)) 3 (0, 0))).heap[w.heap.size]? = some (.cells #[.int .i64 (n : Int), .slice A es.length c] 31 (0, 0))) := ⟨heap_old HX.out _⟩
     have HB1 : Aside0 (Below w.heap.size w (wr.alloc (.cells (nv (numRow l n 0)) 3 (0, 0)))) := ⟨HB.out.alloc HB.out.size _⟩
     have hbo := HB.out.size
     generalize wr.alloc (.cells (nv (numRow l n 0)) 3 (0, 0)) = w1 at HO1 HR1 HX1 HB1 ⊢
     obtain ⟨bo, hbo2⟩ : ∃ b, b = wr.heap.size := ⟨_, rfl⟩
     rw [← hbo2] at HO1 hbo hgk ⊢
     clear HR HX HB hbo2
     go_loopw [12, 13] (fun cv v wq => ∃ i : Nat, v = .int .i64 (i : Int) ∧ i ≤ n ∧ cv = .int .i64 (((numTo l i).2 : Nat) : Int) ∧ Aside0 (RowAt wq bo (numRow l n i)) ∧ Aside0 (RowG wq g cap l) ∧ Aside0 (wq.heap[w.heap.size]? = some (.cells #[.int .i64 (n : Int), .slice A es.length c] 31 (0, 0))) ∧ Aside0 (Below w.heap.size w wq)) (fun _ v _ => n - (intOf v).toNat)
     case atStart => exact ⟨0, rfl, by omega, rfl, HO1, HR1, HX1, HB1⟩
     case round =>
       clear HO1 HR1 HX1 HB1
       obtain ⟨i, rfl, hi, rfl, HO, HR, HX, HB⟩ := hrel
       have x0 : wr.cell? ⟨w.heap.size, 0, none⟩ = some (.int .i64 (n : Int)) := (blk_cell HX.out 0).trans rfl
       have HN := Aside0.mk (numRow_length l hi)
       have HL := Aside0.mk HG.out.1
       have hcl := numTo_le l i
       by_cases hlt : i < n
       · have c0 := HR.out.cell (i := i) (by rw [HL.out]; exact hlt)
         have c1 := nv_cell HO.out (i := i) (by rw [HN.out]; exact hlt)
         have f1 := blk_free HO.out i
         have hle := HG.out.2.1 i hlt
         have hmx : gt l i < n := by omega
         have c2 := nv_cell HO.out (i := gt l i) (by rw [HN.out]; exact hmx)
         by_cases hold : gt l i < i
         · have ht : (((gt l i : Nat) : Int) == (i : Int)) = false := by simp only [beq_eq_false_iff_ne]; omega
           go_wp2
           go_roundw
           case rel =>
             refine ⟨i + 1, by go_num, by omega, by rw [numTo_old hold], ⟨?_⟩, ⟨HR.out.frame (Below.heap_setCell _ _ _ _ (by simp; omega))⟩, ⟨heap_setCell_ne HX.out (by omega)⟩, ⟨HB.out.setCell (by simpa using hbo) _⟩⟩
             have h3 : RowAt _ _ _ := blk_set_nv (i := i) (x := gt (numRow l n i) (gt l i)) HO.out
             rw [numRow_old l hlt hold] at h3
             exact h3
           case measure => simp [intOf]; omega
         · have ht : (((gt l i : Nat) : Int) == (i : Int)) = true := by simp only [beq_iff_eq]; omega
           go_wp2
           go_roundw
           case rel =>
             refine ⟨i + 1, by go_num, by omega, by rw [numTo_new hold]; go_num, ⟨?_⟩, ⟨HR.out.frame (Below.heap_setCell _ _ _ _ (by simp; omega))⟩, ⟨heap_setCell_ne HX.out (by omega)⟩, ⟨HB.out.setCell (by simpa using hbo) _⟩⟩
             have h3 : RowAt _ _ _ := blk_set_nv (i := i) (x := (numTo l i).2) HO.out
             rw [numRow_new l hlt hold] at h3
             exact h3
           case measure => simp [intOf]; omega
       · obtain rfl : i = n := by omega
         go_wp2
         go_ret3
         have h3 := HO.out
         rw [numRow_self] at h3
         rw [← HJ.out]
         exact ⟨bo, rfl, hbo, h3, HB.out⟩
   | true =>
     have HT1 : Aside0 (total l + 1 ≤ gk) := ⟨by have := HT.out; simpa using this⟩
     clear HT HD
     obtain ⟨wo, hwo⟩ : ∃ wo : World, wo = wr := ⟨_, rfl⟩
     have HG0 := HG
     go_wp2
     go_loopw [7, 8] (fun cv v wq => ∃ (i : Nat) (l' : List Nat) (ch : Bool), v = .int .i64 (i : Int) ∧ cv = .bool ch ∧ i ≤ es.length ∧ Aside0 (Good n (EP n es) l') ∧ Aside0 (total l' + (if ch = true then 1 else 0) ≤ total l) ∧ Aside0 (ch = false → ∀ j, j < i → gt l' (pe es j).1.toNat = gt l' (pe es j).2.toNat) ∧ Aside0 (RowG wq g cap l') ∧ Aside0 (wq.heap[w.heap.size]? = some (.cells #[.int .i64 (n : Int), .slice A es.length c] 31 (0, 0))) ∧ Aside0 (Below w.heap.size w wq)) (fun _ v _ => es.length - (intOf v).toNat)
     case atStart => exact ⟨0, l, false, rfl, rfl, by omega, HG, ⟨by simp⟩, ⟨fun _ j hj => absurd hj (by omega)⟩, HR, HX, HB⟩
     case round =>
       clear HG HR HX HB x0 x1
       obtain ⟨i, l', ch, rfl, rfl, hi, HG, HT, HS, HR, HX, HB⟩ := hrel
       have x1 : wr.cell? ⟨w.heap.size, 1, none⟩ = some (.slice A es.length c) := (blk_cell HX.out 1).trans rfl
       by_cases hlt : i < es.length
       · obtain ⟨ad, eA, hc1, hc2⟩ := (HE.out.below HB.out) i hlt
         subst eA
         obtain ⟨a1, a2, b1, b2⟩ := HIN.out i hlt
         obtain ⟨u, hu⟩ := Int.eq_ofNat_of_zero_le a1
         obtain ⟨v, hv⟩ := Int.eq_ofNat_of_zero_le b1
         have HU := Aside0.mk hu
         have HVv := Aside0.mk hv
         rw [hu] at hc1 a2
         rw [hv] at hc2 b2
         have hun : u < n := by omega
         have hvn : v < n := by omega
         clear a1 a2 b1 b2 hu hv
         have HL := Aside0.mk HG.out.1
         have hcu := HR.out.cell (i := u) (by rw [HL.out]; exact hun)
         have hcv := HR.out.cell (i := v) (by rw [HL.out]; exact hvn)
         have hfu := HR.out.free u
         have hfv := HR.out.free v
         have CE : Aside0 (Conn (EP n es) u v) := ⟨.one ⟨hun, hvn, by rw [← HU.out, ← HVv.out]; unfold pe; rw [List.getD_eq_getElem?_getD, List.getElem?_eq_getElem hlt]; exact List.getElem_mem hlt⟩⟩
         rcases Nat.lt_trichotomy (gt l' u) (gt l' v) with hlo | heq | hhi
         · have hd1 : decide (gt l' v < gt l' u) = false := decide_eq_false (by omega)
           have hd2 : decide (gt l' u < gt l' v) = true := decide_eq_true (by omega)
           go_wp2
           repeat (go_quiet (fail); try go_wp2)
           go_roundw
           case rel =>
             refine ⟨i + 1, l'.set v (gt l' u), true, by go_num, rfl, by omega, ⟨HG.out.set hvn hun CE.out.symm hlo⟩, ⟨?_⟩, ⟨fun e => by cases e⟩, ⟨(HR.out.set v (gt l' u) (by rw [HL.out]; exact hvn)).frame rfl⟩, ⟨heap_setCell_ne HX.out (by omega)⟩, ⟨by first | exact pw_below_drewN (HB.out.setCell (p := ⟨g, v, none⟩) (Nat.le_of_lt hgl) _) _ | exact (HB.out.setCell (p := ⟨g, v, none⟩) (Nat.le_of_lt hgl) _).drew | exact pw_below_drewN ((pw_below_drewN HB.out _).setCell (p := ⟨g, u, none⟩) (Nat.le_of_lt hgl) _) _⟩⟩
             have h1 := total_set (l := l') (i := v) (x := gt l' u) (by rw [HL.out]; exact hvn) hlo
             have h2 := HT.out
             simp only [if_true]; omega
           case measure => simp [intOf]; omega
         · have hd1 : decide (gt l' v < gt l' u) = false := decide_eq_false (by omega)
           have hd2 : decide (gt l' u < gt l' v) = false := decide_eq_false (by omega)
           have HEQ := Aside0.mk heq
           clear heq
           go_wp2
           repeat (go_quiet (fail); try go_wp2)
           go_roundw
           case rel =>
             refine ⟨i + 1, l', ch, by go_num, rfl, by omega, HG, HT, ⟨fun e j hj => ?_⟩, ⟨HR.out.frame rfl⟩, ⟨HX.out⟩, ⟨by first | exact pw_below_drewN HB.out _ | exact HB.out.drew⟩⟩
             rcases Nat.lt_succ_iff_lt_or_eq.1 hj with h | rfl
             · exact HS.out e j h
             · rw [HU.out, HVv.out]; exact HEQ.out
           case measure => simp [intOf]; omega
         · have hd1 : decide (gt l' v < gt l' u) = true := decide_eq_true (by omega)
           have hd2 : decide (gt l' u < gt l' v) = false := decide_eq_false (by omega)
           have hne : u ≠ v := by intro e; subst e; omega
           have HR2 := Aside0.mk (HR.out.set u (gt l' v) (by rw [HL.out]; exact hun))
           have k1 := HR2.out.cell (i := u) (by rw [List.length_set, HL.out]; exact hun)
           have k2 := HR2.out.cell (i := v) (by rw [List.length_set, HL.out]; exact hvn)
           rw [getD_set, if_pos ⟨rfl, by rw [HL.out]; exact hun⟩] at k1
           rw [getD_set, if_neg (by simp [hne])] at k2
           have hd3 : decide (gt l' v < gt l' v) = false := decide_eq_false (by omega)
           go_wp2
           repeat (go_quiet (fail); try go_wp2)
           go_roundw
           case rel =>
             refine ⟨i + 1, l'.set u (gt l' v), true, by go_num, rfl, by omega, ⟨HG.out.set hun hvn CE.out hhi⟩, ⟨?_⟩, ⟨fun e => by cases e⟩, ⟨(HR.out.set u (gt l' v) (by rw [HL.out]; exact hun)).frame rfl⟩, ⟨heap_setCell_ne HX.out (by omega)⟩, ⟨by first | exact pw_below_drewN (HB.out.setCell (p := ⟨g, u, none⟩) (Nat.le_of_lt hgl) _) _ | exact (HB.out.setCell (p := ⟨g, u, none⟩) (Nat.le_of_lt hgl) _).drew | exact pw_below_drewN ((pw_below_drewN HB.out _).setCell (p := ⟨g, u, none⟩) (Nat.le_of_lt hgl) _) _⟩⟩
             have h1 := total_set (l := l') (i := u) (x := gt l' v) (by rw [HL.out]; exact hun) hhi
             have h2 := HT.out
             simp only [if_true]; omega
           case measure => simp [intOf]; omega
       · obtain rfl : i = es.length := by omega
         go_wp2
         repeat (go_quiet (fail); try go_wp2)
         have hgk1 := HT1.out
         go_roundg (gk - 1)
         case measure => omega
         case rel =>
           refine ⟨l', ch, rfl, HG, ⟨by have := HT.out; omega⟩, ⟨fun e => HG.out.done (fun a b hab => ?_)⟩, HR, HX, HB⟩
           obtain ⟨ha, hb, hm⟩ := hab
           obtain ⟨j, hj, hje⟩ := List.getElem_of_mem hm
           have h3 := HS.out e j hj
           have h4 : pe es j = ((a : Int), (b : Int)) := by unfold pe; rw [List.getD_eq_getElem?_getD, List.getElem?_eq_getElem hj]; exact hje
           rw [h4] at h3
           simpa using h3
set_option maxHeartbeats 1000000 in
set_option maxRecDepth 100000 in
theorem refOf_zero (A : Option Addr) (c : Nat) (w : World) (hv : RefYes 0 A 0 c w) (hnew : RefNew 0) :
   Calls Try.prog 27 #[.agg #[.int .i64 0, .slice A 0 c]] w fun e w' => ∃ bo, e = .returned (.tuple #[.slice (some ⟨bo, 0, none⟩) 0 0, .int .i64 0, .int .i64 0]) ∧ w.heap.size ≤ bo ∧ RowAt w' bo [] ∧ Below w.heap.size w w' := by
 have B0 := (Below.refl w.heap.size w).alloc (Nat.le_refl _) (.cells #[.int .i64 0, .slice A 0 c] 31 (0, 0))
 have HV := Aside0.mk (hv _ B0)
 have HB := Aside0.mk B0
 have HX := Aside0.mk (heap_last w (.cells #[.int .i64 0, .slice A 0 c] 31 (0, 0)))
 have HNEW := Aside0.mk hnew
 clear hv B0 hnew
 go_enter Try.func27, Try.ntmps27
 go_wp2_with fail
 refine (HV.out).mono ?_
 rintro e w2 ⟨rfl, hb⟩
 have HB2 := Aside0.mk (HB.out.trans (hb.mono (by simp)))
 have HX2 := Aside0.mk ((hb.block w.heap.size (by simp)).trans HX.out)
 clear hb HB HX HV
 have x0 : w2.cell? ⟨w.heap.size, 0, none⟩ = some (.int .i64 0) := (blk_cell HX2.out 0).trans rfl
 go_wp2_with fail
 refine (HNEW.out _).mono ?_
 rintro e w3 ⟨v, rfl, hr, hb⟩
 obtain ⟨A3, c3, hv⟩ := Kd.R_slice hr
 subst hv
 have hsz := HB2.out.size
 have HB3 := Aside0.mk (HB2.out.trans (hb.mono hsz))
 have HX3 := Aside0.mk ((hb.block w.heap.size (blk_lt HX2.out)).trans HX2.out)
 clear hb hr x0 hsz HX2 HB2
 go_wp2
 go_loopg [7] 1 (fun kq v wr => ∃ (ch : Bool), v = .bool ch ∧ Aside0 ((if ch = true then 1 else 0) ≤ kq) ∧ Aside0 (wr.heap[w.heap.size]? = some (.cells #[.int .i64 0, .slice A 0 c] 31 (0, 0))) ∧ Aside0 (Below w.heap.size w wr))
 case atStart => exact ⟨true, rfl, ⟨by simp⟩, HX3, HB3⟩
 case round =>
   clear HX3 HB3
   obtain ⟨ch, rfl, HT, HX, HB⟩ := hrel
   have x0 : wr.cell? ⟨w.heap.size, 0, none⟩ = some (.int .i64 0) := (blk_cell HX.out 0).trans rfl
   have x1 : wr.cell? ⟨w.heap.size, 1, none⟩ = some (.slice A 0 c) := (blk_cell HX.out 1).trans rfl
   cases ch with
   | false =>
     have mk1 : ∀ W : World, (Instr.makeSlice 34 (.int .i64 0) (.int .i64 0)).run Try.prog W = .ok (.slice (some ⟨W.heap.size, 0, none⟩) 0 0) (W.alloc (.cells (nv []) 3 (0, 0))) := by
       have h := print_make (P := Try.prog) 34 3 .i64 8 Try.underlying34 info_int (by decide) 0 (by omega)
       rw [made_nv] at h
       exact h
     go_wp2
     refine wp_loop_rounds 1 ?_
     rw [rounds_succ]
     have x2 := World.cell?_alloc_past (w := wr) (.cells (nv []) 3 (0, 0)) w.heap.size 0 (blk_lt HX.out)
     rw [x0] at x2
     go_wp2
     go_ret3
     exact ⟨wr.heap.size, rfl, HB.out.size, heap_last _ _, HB.out.alloc HB.out.size _⟩
   | true =>
     have HT1 : Aside0 (1 ≤ gk) := ⟨by have := HT.out; simpa using this⟩
     clear HT
     go_wp2
     refine wp_loop_rounds 1 ?_
     rw [rounds_succ]
     go_wp2
     have hgk1 := HT1.out
     go_roundg (gk - 1)
     case measure => omega
     case rel => exact ⟨false, rfl, ⟨by simp⟩, HX, HB⟩
end Go.Proofs.Ytoajoklpbfehiaa.Sets
namespace Go.Proofs.Ytoajoklpbfehiaa.Sets
open Go.RowKit Go.Proofs.YtoajoklpbfehiaaW.PrintWords Go.Proofs.YtoajoklpbfehiaaW.PrintLast Go.Proofs.YtoajoklpbfehiaaW.PrintMore
set_option linter.unusedVariables false
set_option linter.unusedSimpArgs false
theorem C_le {α : Type} {d : Kd α} {w : World} {A : Option Addr} {n : Nat} {xs : List α} (h : d.C w A n xs) : n ≤ 9223372036854775807 := by
 obtain ⟨_, h2, _⟩ := h
 exact h2
theorem row_own {w : World} {b base : Nat} {l : List Nat} {ok : Nat → Prop} (h : RowAt w b l) (hb : base ≤ b) (hl : l.length ≤ 9223372036854775807) (hok : ok b) : Kd.R (Kd.int .i64) 3 w base ok (.slice (some ⟨b, 0, none⟩) l.length l.length) (l.map fun (x : Nat) => (x : Int)) := by
 refine Kd.R_of_own (enc := Value.int .i64) ⟨by simp [encs], .inr ⟨b, l.length, nv l, by simp, hb, h, by simp, by unfold maxLen; exact hl, by simp [nv], ?_⟩⟩ (fun k hk => ?_)
 · rw [List.length_map, Nat.mul_one]; simp [nv, encs, List.take_of_length_le, Function.comp_def]
 · have : b = k := by simpa [Value.ownBlock] using hk
   exact this ▸ hok
theorem Now.ex {p bP bS : Nat} {m : List Nat} {w w' : World} (h : Now p bP bS m w w') : ∃ P S, AtPS w' p bP bS m P S := h.1
theorem Now.row {p bP bS : Nat} {m : List Nat} {w w' : World} (h : Now p bP bS m w w') {b : Nat} {l : List Nat} (hr : RowAt w b l) (hb : ¬ Own p bP bS b) : RowAt w' b l := h.2.blk hr hb
theorem Now.below {p bP bS B : Nat} {m : List Nat} {w0 w w' : World} (h : Now p bP bS m w w') (h0 : Below B w0 w) (hB : B ≤ w.heap.size) (h1 : B ≤ p ∧ B ≤ bP ∧ B ≤ bS) : Below B w0 w' :=
 h0.trans (h.2.below hB (fun k hk => by unfold Own at hk; omega))
theorem AtPS.below {w w' : World} {p bP bS B : Nat} {m P S : List Nat} (h : AtPS w p bP bS m P S) (hb : Below B w w') (h1 : p < B ∧ bP < B ∧ bS < B) : AtPS w' p bP bS m P S :=
 ⟨(hb.block p h1.1).trans h.obj, (hb.block bP h1.2.1).trans h.par, (hb.block bS h1.2.2).trans h.siz, h.ne1, h.ne2, h.ne3, h.small, h.rep, h.sized⟩
theorem AtPS.all {w w' : World} {p bP bS : Nat} {m P S : List Nat} (h : AtPS w p bP bS m P S) (hb : Below w.heap.size w w') : AtPS w' p bP bS m P S := h.below hb ⟨blk_lt h.obj, blk_lt h.par, blk_lt h.siz⟩
theorem AtPS.alloc {w : World} {p bP bS : Nat} {m P S : List Nat} (h : AtPS w p bP bS m P S) (o : Obj) : AtPS (w.alloc o) p bP bS m P S := h.all ((Below.refl _ _).alloc (Nat.le_refl _) _)
def FixValid : Prop := ∀ (b : Nat) (W : World), W.cell? ⟨b, 0, none⟩ = some (.int .i64 0) → W.cell? ⟨b, 1, none⟩ = some (.int .i64 2) →
 Calls Try.prog 34 #[.agg #[.int .i64 3, .slice (some ⟨b, 0, none⟩) 1 1]] W fun e w' => e = .returned (.bool true) ∧ Below W.heap.size W w'
def FixSame : Prop := ∀ (b c : Nat) (W : World), RowAt W b [0, 1, 0] → RowAt W c [0, 1, 0] →
 Calls Try.prog 28 #[.slice (some ⟨b, 0, none⟩) 3 3, .slice (some ⟨c, 0, none⟩) 3 3] W fun e w' => e = .returned (.bool true) ∧ Drawn0 W w'
set_option maxHeartbeats 2000000 in
set_option maxRecDepth 100000 in
theorem fixed_calls (w : World) (hv : FixValid) (hs : FixSame) :
   Calls Try.prog 11 #[] w fun e w' => e = .returned (.bool true) ∧ Below w.heap.size w w' := by
 have j1 : joinOf (List.range 5) 3 1 = ([0, 1, 2, 1, 4], true) := by decide
 have j2 : joinOf [0, 1, 2, 1, 4] 1 3 = ([0, 1, 2, 1, 4], false) := by decide
 have o1 : numTo (joinAll (List.range 3) [(0, 2)]) 3 = ([0, 1, 0], 2) := by decide
 have l1 : leastOf [0, 1, 2, 1, 4] 3 = 1 := by decide
 have c1 : sets [0, 1, 2, 1, 4] = 4 := by decide
 have s1 : sizeOf [0, 1, 2, 1, 4] 1 = 2 := by decide
 have e1 : sameOf [0, 1, 2, 1, 4] 1 3 = true := by decide
 have e2 : sameOf [0, 1, 2, 1, 4] 0 1 = false := by decide
 have L1 := Aside0.mk l1
 have C1 := Aside0.mk c1
 have Z1 := Aside0.mk s1
 have E1 := Aside0.mk e1
 have E2 := Aside0.mk e2
 clear l1 c1 s1 e1 e2
 have J1 := Aside0.mk j1
 have J2 := Aside0.mk j2
 have O1 := Aside0.mk o1
 have HV := Aside0.mk hv
 have HS := Aside0.mk hs
 clear j1 j2 o1 hv hs
 go_enter Try.func11, Try.ntmps11
 go_wp2_with fail
 refine (new_yes 5 _ (by omega)).mono ?_
 rintro e w1 ⟨p, bP, bS, rfl, hp1, hp2, hp3, hat, hb⟩
 obtain ⟨P1, S1, H1⟩ := hat
 have HP : Aside0 (w.heap.size ≤ p ∧ w.heap.size ≤ bP ∧ w.heap.size ≤ bS) := ⟨hp1, hp2, hp3⟩
 have HB1 := Aside0.mk hb
 have HA1 := Aside0.mk H1
 clear hp1 hp2 hp3 hb H1
 go_wp2_with fail
 refine (join_calls p bP bS _ P1 S1 3 1 _ HA1.out).mono ?_
 rw [J1.out]
 rintro e w2 ⟨rfl, hN⟩
 obtain ⟨P2, S2, H2⟩ := hN.1
 have HB2 := Aside0.mk (hN.below HB1.out HB1.out.size HP.out)
 have HA2 := Aside0.mk H2
 clear hN H2 HA1 HB1
 go_wp2_with fail
 refine (join_calls p bP bS _ P2 S2 1 3 _ HA2.out).mono ?_
 rw [J2.out]
 rintro e w3 ⟨rfl, hN⟩
 obtain ⟨P3, S3, H3⟩ := hN.1
 have HB3 := Aside0.mk (hN.below HB2.out HB2.out.size HP.out)
 have HA3 := Aside0.mk H3
 clear hN H3 HA2 HB2
 go_wp2_with fail
 have BX := Aside0.mk (heap_last w3 (.cells #[.int .i64 0, .int .i64 2] 33 (0, 0)))
 have yes : SaysYes 3 (some ⟨w3.heap.size, 0, none⟩) [((0 : Int), (2 : Int))].length 1 (w3.alloc (.cells #[.int .i64 0, .int .i64 2] 33 (0, 0))) := fun W hW => HV.out _ _ ((blk_cell ((hW.block _ (by simp)).trans BX.out) 0).trans rfl) ((blk_cell ((hW.block _ (by simp)).trans BX.out) 1).trans rfl)
 have prs : Pairs (w3.alloc (.cells #[.int .i64 0, .int .i64 2] 33 (0, 0))) (some ⟨w3.heap.size, 0, none⟩) [((0 : Int), (2 : Int))] := by
   intro i hi
   obtain rfl : i = 0 := by simp at hi; omega
   exact ⟨_, rfl, (blk_cell BX.out 0).trans rfl, (blk_cell BX.out 1).trans rfl⟩
 refine (of_yes 3 (some ⟨w3.heap.size, 0, none⟩) 1 [((0 : Int), (2 : Int))] _ yes (by omega) prs (by simp)).mono ?_
 rw [O1.out]
 rintro e w4 ⟨bo, rfl, hbo, hrow, hb⟩
 have HB4 := Aside0.mk ((HB3.out.alloc HB3.out.size _).trans (hb.mono (by have := HB3.out.size; simp; omega)))
 have HA4 := Aside0.mk ((HA3.out.alloc _).all hb)
 have HO4 := Aside0.mk hrow
 have hp := blk_lt HA3.out.obj
 have hP := blk_lt HA3.out.par
 have hS := blk_lt HA3.out.siz
 have hno : ¬ Own p bP bS bo := by unfold Own; simp at hbo; omega
 have hge : w.heap.size ≤ bo := by have := HB3.out.size; simp at hbo; omega
 clear yes prs BX hrow hb hbo hp hP hS HA3 HB3
 go_wp2_with fail
 refine (least_calls p bP bS _ P3 S3 3 _ HA4.out).mono ?_
 rw [L1.out]
 rintro e w5 ⟨rfl, hN⟩
 obtain ⟨P5, S5, H5⟩ := hN.1
 have HB5 := Aside0.mk (hN.below HB4.out HB4.out.size HP.out)
 have HO5 := Aside0.mk (hN.row HO4.out hno)
 have HA5 := Aside0.mk H5
 clear hN H5 HA4 HB4 HO4
 go_wp2_with fail
 refine (count_calls p bP bS _ P5 S5 _ HA5.out).mono ?_
 rw [C1.out]
 rintro e w6 ⟨rfl, rfl⟩
 go_wp2_with fail
 refine (size_calls p bP bS _ P5 S5 1 _ HA5.out).mono ?_
 rw [Z1.out]
 rintro e w7 ⟨rfl, hN⟩
 obtain ⟨P7, S7, H7⟩ := hN.1
 have HB7 := Aside0.mk (hN.below HB5.out HB5.out.size HP.out)
 have HO7 := Aside0.mk (hN.row HO5.out hno)
 have HA7 := Aside0.mk H7
 clear hN H7 HA5 HB5 HO5
 go_wp2_with fail
 refine (same_calls p bP bS _ P7 S7 1 3 _ HA7.out).mono ?_
 rw [E1.out]
 rintro e w8 ⟨rfl, hN⟩
 obtain ⟨P8, S8, H8⟩ := hN.1
 have HB8 := Aside0.mk (hN.below HB7.out HB7.out.size HP.out)
 have HO8 := Aside0.mk (hN.row HO7.out hno)
 have HA8 := Aside0.mk H8
 clear hN H8 HA7 HB7 HO7
 go_wp2_with fail
 refine (same_calls p bP bS _ P8 S8 0 1 _ HA8.out).mono ?_
 rw [E2.out]
 rintro e w9 ⟨rfl, hN⟩
 have HB9 := Aside0.mk (hN.below HB8.out HB8.out.size HP.out)
 have HO9 := Aside0.mk (hN.row HO8.out hno)
 clear hN HA8 HB8 HO8
 go_wp2_with fail
 refine (HS.out bo w9.heap.size _ (heap_old HO9.out _) (heap_last _ _)).mono ?_
 rintro e w10 ⟨rfl, ⟨nd, rfl⟩⟩
 go_wp2
 go_ret
 exact ⟨rfl, pw_below_drewN (HB9.out.alloc HB9.out.size _) _⟩
end Go.Proofs.Ytoajoklpbfehiaa.Sets
namespace Go.Proofs.Ytoajoklpbfehiaa.Mem
open Go.RowKit Go.Proofs.YtoajoklpbfehiaaW.PrintWords Go.Proofs.YtoajoklpbfehiaaW.PrintLast Go.Proofs.YtoajoklpbfehiaaW.PrintMore
set_option linter.unusedVariables false
set_option linter.unusedSimpArgs false
structure Frame (S : Nat → Prop) (w w' : World) : Prop where
 os : w'.os = w.os
 tape : w'.tape = w.tape
 output : w'.output = w.output
 size : w.heap.size ≤ w'.heap.size
 block : ∀ k, k < w.heap.size → ¬ S k → w'.heap[k]? = w.heap[k]?
theorem Frame.refl (S : Nat → Prop) (w : World) : Frame S w w := ⟨rfl, rfl, rfl, Nat.le_refl _, fun _ _ _ => rfl⟩
theorem Frame.trans {S : Nat → Prop} {a b c : World} (h : Frame S a b) (k : Frame S b c) : Frame S a c :=
 ⟨k.os.trans h.os, k.tape.trans h.tape, k.output.trans h.output, Nat.le_trans h.size k.size, fun i hi hs => (k.block i (Nat.lt_of_lt_of_le hi h.size) hs).trans (h.block i hi hs)⟩
theorem Frame.mono {S T : Nat → Prop} {a b : World} (h : Frame S a b) (hst : ∀ k, k < a.heap.size → S k → T k) : Frame T a b := ⟨h.os, h.tape, h.output, h.size, fun i hi hs => h.block i hi (fun e => hs (hst i hi e))⟩
theorem Frame.drew {S : Nat → Prop} {a b : World} (h : Frame S a b) : Frame S a b.drew := ⟨h.os, h.tape, h.output, h.size, h.block⟩
theorem Frame.drewN {S : Nat → Prop} {a b : World} (h : Frame S a b) (n : Nat) : Frame S a (b.drewN n) := ⟨h.os, h.tape, h.output, h.size, h.block⟩
theorem Frame.setCell {S : Nat → Prop} {a b : World} (h : Frame S a b) {p : Addr} (hp : S p.block) (u : Value) : Frame S a (b.setCell p u) :=
 h.trans ⟨rfl, rfl, rfl, by simp [World.setCell], fun k _ hs => Below.heap_setCell _ _ _ _ (fun e => hs (e ▸ hp))⟩
theorem Frame.alloc {S : Nat → Prop} {a b : World} (h : Frame S a b) (o : Obj) : Frame S a (b.alloc o) :=
 h.trans ⟨rfl, rfl, rfl, by simp, fun k hk _ => Below.heap_alloc _ _ _ hk⟩
theorem Frame.below {S : Nat → Prop} {a b : World} (h : Frame S a b) {B : Nat} (hB : B ≤ a.heap.size) (hS : ∀ k, S k → B ≤ k) : Below B a b :=
 ⟨h.os, h.tape, h.output, h.size, fun k hk => h.block k (by omega) (fun e => by have := hS k e; omega)⟩
theorem Frame.of_below {S : Nat → Prop} {a b : World} (h : Below a.heap.size a b) : Frame S a b := ⟨h.os, h.tape, h.output, h.size, fun k hk _ => h.block k hk⟩
theorem Frame.blk {S : Nat → Prop} {a b : World} (h : Frame S a b) {k : Nat} {o : Obj} (hk : a.heap[k]? = some o) (hs : ¬ S k) : b.heap[k]? = some o := by
 rw [h.block k (by rw [Array.getElem?_eq_some_iff] at hk; exact hk.1) hs]; exact hk
theorem Frame.grown {S : Nat → Prop} {a b c : World} (h : Frame S a b) {row : Option Nat} (hg : b.grownBy c row) (hr : ∀ k, row = some k → S k) : Frame S a c :=
 h.trans ⟨hg.os, hg.tape, hg.output, hg.size, fun k hk hs => hg.block k hk (fun e => hs (hr k e.symm))⟩
theorem lt_of {w : World} {k : Nat} {o : Obj} (hk : w.heap[k]? = some o) : k < w.heap.size := by
 rw [Array.getElem?_eq_some_iff] at hk; exact hk.1
theorem heap_last (w : World) (o : Obj) : (w.alloc o).heap[w.heap.size]? = some o := by
 show (w.heap.push o)[w.heap.size]? = _
 simp
theorem heap_old {w : World} {k : Nat} {o : Obj} (h : w.heap[k]? = some o) (o' : Obj) : (w.alloc o').heap[k]? = some o := by
 rw [Below.heap_alloc _ _ _ (lt_of h)]; exact h
theorem heap_set {w : World} {b i : Nat} {c : Array Value} {T : TypeId} {f : Nat × Nat} (h : w.heap[b]? = some (.cells c T f)) (v : Value) : (w.setCell ⟨b, i, none⟩ v).heap[b]? = some (.cells (c.setIfInBounds i v) T f) := by
 simp [World.setCell, Array.getElem?_modify, h]
theorem heap_cell {w : World} {b i : Nat} {c : Array Value} {T : TypeId} {f : Nat × Nat} (h : w.heap[b]? = some (.cells c T f)) {v : Value} (hv : c[i]? = some v) : w.cell? ⟨b, i, none⟩ = some v := by
 simp [World.cell?, h, hv]
theorem heap_free {w : World} {b : Nat} {c : Array Value} {T : TypeId} (h : w.heap[b]? = some (.cells c T (0, 0))) (i : Nat) : w.frozen? ⟨b, i, none⟩ = false := by
 simp [World.frozen?, h]
theorem cell_lt {w : World} {a : Addr} {v : Value} (h : w.cell? a = some v) : a.block < w.heap.size := World.block_lt_of_cell? w a h
def gi (l : List Int) (i : Nat) : Int := l.getD i 0
theorem gi_rd (l : List Int) (i : Nat) : rd l (i : Int) = gi l i := by unfold rd gi; rw [Int.toNat_natCast]
theorem gi_of {l : List Int} {i : Nat} (h : i < l.length) : l[i]? = some (gi l i) := by
 unfold gi
 simp [List.getD_eq_getElem?_getD, h]
def IRow (w : World) (b : Nat) (l : List Int) : Prop := w.heap[b]? = some (.cells (l.map (Value.int .i64)).toArray 3 (0, 0))
theorem IRow.cell {w : World} {b : Nat} {l : List Int} (h : IRow w b l) {i : Nat} (hi : i < l.length) : w.cell? ⟨b, i, none⟩ = some (.int .i64 (gi l i)) :=
 heap_cell h (by simp [gi_of hi])
theorem IRow.free {w : World} {b : Nat} {l : List Int} (h : IRow w b l) (i : Nat) : w.frozen? ⟨b, i, none⟩ = false := heap_free h i
theorem IRow.put {w : World} {b : Nat} {l : List Int} (h : IRow w b l) (i : Nat) (x : Int) : IRow (w.setCell ⟨b, i, none⟩ (.int .i64 x)) b (l.set i x) := by
 unfold IRow
 rw [heap_set h]
 simp [List.map_set]
theorem IRow.frame {S : Nat → Prop} {w w' : World} {b : Nat} {l : List Int} (h : IRow w b l) (f : Frame S w w') (hs : ¬ S b) : IRow w' b l := f.blk h hs
theorem info_int : (Try.prog.info? 3).map (fun i => (i.zero, i.size, i.bytes)) = some (some (.int .i64 0), 1, 8) := by kernel_rfl
theorem IRow.start (w : World) (n : Nat) : IRow (w.alloc (.cells (Array.replicate n (Value.int .i64 0)) 3 (0, 0))) w.heap.size (List.replicate n 0) := by
 have h := heap_last w (.cells (Array.replicate n (Value.int .i64 0)) 3 (0, 0))
 unfold IRow
 rw [h]
 simp
theorem IRow.own {w : World} {b base : Nat} {l : List Int} {ok : Nat → Prop} (h : IRow w b l) (hb : base ≤ b) (hl : l.length ≤ 9223372036854775807) (hok : ok b) : Kd.R (Kd.int .i64) 3 w base ok (.slice (some ⟨b, 0, none⟩) l.length l.length) l := by
 refine Kd.R_of_own ⟨by simp [encs], .inr ⟨b, l.length, _, rfl, hb, h, Nat.le_refl _, by unfold maxLen; simpa using hl, by simp, ?_⟩⟩ (fun k hk => ?_)
 · simp [encs, List.take_of_length_le]
 · obtain rfl : b = k := by simpa [Value.ownBlock] using hk
   exact hok
def gb (l : List Bool) (i : Nat) : Bool := l.getD i false
theorem gb_of {l : List Bool} {i : Nat} (h : i < l.length) : l[i]? = some (gb l i) := by
 unfold gb
 simp [List.getD_eq_getElem?_getD, h]
def BRow (w : World) (b : Nat) (l : List Bool) : Prop := w.heap[b]? = some (.cells (l.map Value.bool).toArray 4 (0, 0))
theorem BRow.cell {w : World} {b : Nat} {l : List Bool} (h : BRow w b l) {i : Nat} (hi : i < l.length) : w.cell? ⟨b, i, none⟩ = some (.bool (gb l i)) :=
 heap_cell h (by simp [gb_of hi])
theorem BRow.free {w : World} {b : Nat} {l : List Bool} (h : BRow w b l) (i : Nat) : w.frozen? ⟨b, i, none⟩ = false := heap_free h i
theorem BRow.put {w : World} {b : Nat} {l : List Bool} (h : BRow w b l) (i : Nat) (x : Bool) : BRow (w.setCell ⟨b, i, none⟩ (.bool x)) b (l.set i x) := by
 unfold BRow
 rw [heap_set h]
 simp [List.map_set]
theorem BRow.frame {S : Nat → Prop} {w w' : World} {b : Nat} {l : List Bool} (h : BRow w b l) (f : Frame S w w') (hs : ¬ S b) : BRow w' b l := f.blk h hs
theorem BRow.start (w : World) (n : Nat) : BRow (w.alloc (.cells (Array.replicate n (Value.bool false)) 4 (0, 0))) w.heap.size (List.replicate n false) := by
 have h := heap_last w (.cells (Array.replicate n (Value.bool false)) 4 (0, 0))
 unfold BRow
 rw [h]
 simp
def gl (r : List (List Int)) (j : Nat) : List Int := r.getD j []
theorem gl_of {r : List (List Int)} {i : Nat} (h : i < r.length) : r[i]? = some (gl r i) := by
 unfold gl
 simp [List.getD_eq_getElem?_getD, h]
theorem gl_set (r : List (List Int)) (i j : Nat) (x : List Int) : gl (r.set i x) j = if i = j ∧ j < r.length then x else gl r j := by
 unfold gl
 simp only [List.getD_eq_getElem?_getD, List.getElem?_set]
 by_cases h : i = j
 · subst h
   by_cases h2 : i < r.length <;> simp [h2]
 · simp [h]
abbrev KR : Kd (List Int) := Kd.slice 3 (Kd.int .i64)
theorem row_at {w : World} {A : Option Addr} {r : List (List Int)} (h : Kd.C KR w A r.length r) {i : Nat} (hi : i < r.length) :
   ∃ ad B c, A = some ad ∧ w.cell? (ad.add i) = some (.slice B (gl r i).length c) ∧ (gl r i).length ≤ c ∧ Kd.C (Kd.int .i64) w B (gl r i).length (gl r i) := by
 obtain ⟨ad, cs, e, hl, ⟨B, c, hcs, hc, hr⟩, hcell⟩ := Kd.C_get h [] (i : Int) (by omega) (by omega)
 rw [Int.toNat_natCast] at hcs hcell hc hr
 refine ⟨ad, B, c, e, ?_, hc, hr⟩
 have := hcell 0 _ (by rw [hcs]; rfl)
 rw [show KR.sz = 1 from rfl, Nat.mul_one, Nat.add_zero] at this
 exact this
theorem C_le {α : Type} {d : Kd α} {w : World} {A : Option Addr} {n : Nat} {xs : List α} (h : d.C w A n xs) : n ≤ 9223372036854775807 := h.2.1
def pe (es : List (Int × Int)) (i : Nat) : Int × Int := es.getD i (0, 0)
def Pairs (w : World) (A : Option Addr) (es : List (Int × Int)) : Prop := ∀ i : Nat, i < es.length → ∃ ad, A = some ad ∧ w.cell? (ad.add (i * 2)) = some (.int .i64 (pe es i).1) ∧ w.cell? ⟨(ad.add (i * 2)).block, (ad.add (i * 2)).off + 1, none⟩ = some (.int .i64 (pe es i).2)
theorem Pairs.below {w w' : World} {A : Option Addr} {es : List (Int × Int)} (h : Pairs w A es) (hb : Below w.heap.size w w') : Pairs w' A es := by
 intro i hi
 obtain ⟨ad, e, h1, h2⟩ := h i hi
 exact ⟨ad, e, by rw [hb.cell (cell_lt h1)]; exact h1, by rw [hb.cell (cell_lt h2)]; exact h2⟩
theorem own_low {w : World} {B B' : Nat} {e : TypeId} {s n : Nat} {v : Value} {xs : List Value} (h : w.ownsRow B e s v n xs) (hb : B' ≤ B) : w.ownsRow B' e s v n xs := by
 refine ⟨h.1, ?_⟩
 rcases h.2 with h1 | ⟨g, cap, cur, h1, h2, h3⟩
 · exact .inl h1
 · exact .inr ⟨g, cap, cur, h1, by omega, h3⟩
theorem C_take {α : Type} {d : Kd α} {w : World} {A : Option Addr} {c a : Nat} {xs : List α} (h : d.C w A xs.length xs) (hc : xs.length ≤ c) (ha : a ≤ xs.length) : d.C w (if c = 0 then A else A.map (·.add (0 * d.sz))) a (xs.take a) := by
 refine ⟨by simp; omega, by have := h.2.1; omega, fun hp => ?_⟩
 obtain ⟨ad, e, hcell⟩ := h.2.2 (by omega)
 refine ⟨ad.add (0 * d.sz), by rw [if_neg (by omega), e]; rfl, fun j p hj => ?_⟩
 have hja : j < a := by
   have := (List.getElem?_eq_some_iff.1 hj).1
   simp at this; omega
 rw [List.getElem?_take, if_pos hja] at hj
 obtain ⟨cs, h1, h2, h3⟩ := hcell j p hj
 refine ⟨cs, h1, h2, fun i u hu => ?_⟩
 rw [Go.Deep.add_add]
 have := h3 i u hu
 rw [show 0 * d.sz + (j * d.sz + i) = j * d.sz + i by omega]
 exact this
def va (vs : List Value) (j : Nat) : Value := vs.getD j (.slice none 0 0)
theorem va_set (gs : List Value) (i j : Nat) (x : Value) : va (gs.set i x) j = if i = j ∧ j < gs.length then x else va gs j := by
 unfold va
 simp only [List.getD_eq_getElem?_getD, List.getElem?_set]
 by_cases h : i = j
 · subst h
   by_cases h2 : i < gs.length <;> simp [h2]
 · simp [h]
theorem va_of {vs : List Value} {j : Nat} (h : j < vs.length) : vs[j]? = some (va vs j) := by
 unfold va
 simp [List.getD_eq_getElem?_getD, h]
structure Rows2 (w : World) (B bo : Nat) (vs : List Value) (gs : List (List Int)) : Prop where
 len : vs.length = gs.length
 out : w.heap[bo]? = some (.cells vs.toArray 34 (0, 0))
 own : ∀ j, j < gs.length → w.ownsRow B 3 1 (va vs j) (gl gs j).length (encs (Value.int .i64) (gl gs j))
 col : ∃ f : Nat → Nat, ∀ j, j < gs.length → ∀ k, (va vs j).ownBlock = some k → f k = j ∧ k ≠ bo
 base : B ≤ w.heap.size
theorem Rows2.cell {w : World} {B bo : Nat} {vs : List Value} {gs : List (List Int)} (h : Rows2 w B bo vs gs) {j : Nat} (hj : j < gs.length) : w.cell? ⟨bo, j, none⟩ = some (va vs j) := by
 have hl := h.len
 exact heap_cell h.out (by simp [va_of (show j < vs.length by omega)])
theorem Rows2.free {w : World} {B bo : Nat} {vs : List Value} {gs : List (List Int)} (h : Rows2 w B bo vs gs) (j : Nat) : w.frozen? ⟨bo, j, none⟩ = false := heap_free h.out j
theorem Rows2.below {w w1 : World} {B bo : Nat} {vs : List Value} {gs : List (List Int)} (h : Rows2 w B bo vs gs) (hb : Below w.heap.size w w1) : Rows2 w1 B bo vs gs :=
 ⟨h.len, (hb.block _ (lt_of h.out)).trans h.out, fun j hj => own_move (h.own j hj) (fun k hk => hb.block k ((h.own j hj).lt k hk).2), h.col, Nat.le_trans h.base hb.size⟩
theorem Rows2.put {w w1 : World} {B bo : Nat} {vs : List Value} {gs : List (List Int)} (h : Rows2 w B bo vs gs) (hb : Below w.heap.size w w1) {k : Nat} (hk : k < gs.length) {v' : Value} {g' : List Int}
   (hown : w1.ownsRow w.heap.size 3 1 v' g'.length (encs (Value.int .i64) g')) : Rows2 (w1.setCell ⟨bo, k, none⟩ v') B bo (vs.set k v') (gs.set k g') := by
 have hl := h.len
 have hbo := lt_of h.out
 obtain ⟨f, hf⟩ := h.col
 have h1 := h.below hb
 refine ⟨by simp [h.len], ?_, ?_, ⟨fun b => if v'.ownBlock = some b then k else f b, ?_⟩, by simpa [World.setCell] using h1.base⟩
 · rw [heap_set h1.out]; simp
 · intro j hj
   rw [List.length_set] at hj
   rw [gl_set, va_set]
   by_cases hkj : k = j
   · subst hkj
     rw [if_pos ⟨rfl, by omega⟩, if_pos ⟨rfl, by omega⟩]
     exact own_low (own_move hown (fun q hq => Below.heap_setCell _ _ _ _ (fun e => by have := (hown.lt q hq).1; simp at e; omega))) h.base
   · rw [if_neg (by simp [hkj]), if_neg (by simp [hkj])]
     exact own_move (h1.own j hj) (fun q hq => Below.heap_setCell _ _ _ _ (fun e => (hf j hj q hq).2 e))
 · intro j hj q hq
   rw [List.length_set] at hj
   rw [va_set] at hq
   by_cases hkj : k = j
   · subst hkj
     rw [if_pos ⟨rfl, by omega⟩] at hq
     exact ⟨by simp [hq], fun e => by have := (hown.lt q hq).1; omega⟩
   · rw [if_neg (by simp [hkj])] at hq
     refine ⟨?_, (hf j hj q hq).2⟩
     show (if v'.ownBlock = some q then k else f q) = j
     rw [if_neg (fun e => by have h2 := (hown.lt q e).1; have h3 := ((h.own j hj).lt q hq).2; omega)]
     exact (hf j hj q hq).1
theorem info_ints : (Try.prog.info? 34).map (fun i => (i.zero, i.size, i.bytes)) = some (some (.slice none 0 0), 1, 24) := by kernel_rfl
theorem made_nil (n : Nat) : madeCells #[.slice none 0 0] n = Array.replicate n (Value.slice none 0 0) := by
 apply Array.ext
 · simp [madeCells]
 · intro i h1 h2
   simp [madeCells, Nat.mod_one]
theorem va_nil (n j : Nat) : va (List.replicate n (.slice none 0 0)) j = .slice none 0 0 := by
 unfold va
 by_cases h : j < n <;> simp [List.getD_eq_getElem?_getD, List.getElem?_replicate, h]
theorem gl_nil (n j : Nat) : gl (List.replicate n []) j = [] := by
 unfold gl
 by_cases h : j < n <;> simp [List.getD_eq_getElem?_getD, List.getElem?_replicate, h]
theorem Rows2.start (w : World) (n : Nat) : Rows2 (w.alloc (.cells (Array.replicate n (Value.slice none 0 0)) 34 (0, 0))) (w.heap.size + 1) w.heap.size (List.replicate n (.slice none 0 0)) (List.replicate n []) := by
 refine ⟨by simp, by rw [heap_last]; simp, fun j hj => ?_, ⟨fun _ => 0, fun j hj k hk => ?_⟩, by simp⟩
 · rw [va_nil, gl_nil]
   exact own_nil _ _ _ _
 · rw [va_nil] at hk
   simp [Value.ownBlock] at hk
def lits (w : World) : List (List Int) → World
 | [] => w
 | l :: t => lits (w.alloc (.cells (l.map (Value.int .i64)).toArray 3 (0, 0))) t
def outer (b : Nat) : List (List Int) → List Value
 | [] => []
 | l :: t => .slice (some ⟨b, 0, none⟩) l.length l.length :: outer (b + 1) t
end Go.Proofs.Ytoajoklpbfehiaa.Mem
namespace Go.Proofs.Ytoajoklpbfehiaa.ValH
open Go.RowKit Go.Proofs.YtoajoklpbfehiaaW.PrintWords Go.Proofs.YtoajoklpbfehiaaW.PrintLast Go.Proofs.YtoajoklpbfehiaaW.PrintMore Go.Proofs.Ytoajoklpbfehiaa.Mem
set_option linter.unusedVariables false
set_option linter.unusedSimpArgs false
abbrev P2 := Int × Int
def okP (n : Int) (p : P2) : Bool := decide (0 ≤ p.1 ∧ p.1 < p.2 ∧ p.2 < n)
def ltP (p q : P2) : Bool := decide (p.1 < q.1 ∨ (p.1 = q.1 ∧ p.2 < q.2))
def goodRest (n : Int) : List P2 → Bool
 | [] => true
 | [p] => okP n p
 | p :: q :: t => okP n p && (ltP p q && goodRest n (q :: t))
def goodB (n : Int) (es : List P2) : Bool := decide (0 ≤ n ∧ n ≤ 1048576 ∧ es.length ≤ 4194304) && goodRest n es
def OkAt (n : Int) (es : List P2) (i : Nat) : Prop := okP n (pe es i) = true ∧ (0 < i → ltP (pe es (i - 1)) (pe es i) = true)
theorem pe_succ (p : P2) (es : List P2) (i : Nat) : pe (p :: es) (i + 1) = pe es i := by unfold pe; simp
theorem pe_zero (p : P2) (es : List P2) : pe (p :: es) 0 = p := by unfold pe; simp
theorem goodRest_iff (n : Int) : ∀ es : List P2, goodRest n es = true ↔ ∀ i, i < es.length → OkAt n es i
 | [] => ⟨fun _ i h => absurd h (by simp), fun _ => rfl⟩
 | [p] => by
   constructor
   · intro h i hi
     have : i = 0 := by simpa using hi
     subst this
     exact ⟨by rw [pe_zero]; exact h, fun h => absurd h (by omega)⟩
   · intro h
     have := (h 0 (by simp)).1
     rw [pe_zero] at this
     exact this
 | p :: q :: t => by
   have ih := goodRest_iff n (q :: t)
   show (okP n p && (ltP p q && goodRest n (q :: t))) = true ↔ _
   rw [Bool.and_eq_true, Bool.and_eq_true, ih]
   constructor
   · rintro ⟨h1, h2, h3⟩ i hi
     cases i with
     | zero => exact ⟨by rw [pe_zero]; exact h1, fun h => absurd h (by omega)⟩
     | succ i =>
       have := h3 i (by simpa using hi)
       refine ⟨by rw [pe_succ]; exact this.1, fun _ => ?_⟩
       cases i with
       | zero => rw [pe_succ, pe_zero]; exact h2
       | succ i =>
         have h4 := this.2 (by omega)
         rw [Nat.add_sub_cancel] at h4 ⊢
         rw [pe_succ, pe_succ]; exact h4
   · intro h
     have h0 := h 0 (by simp)
     have h1 := h 1 (by simp)
     have h01 := h0.1
     rw [pe_zero] at h01
     refine ⟨h01, ?_, fun i hi => ?_⟩
     · have := h1.2 (by omega)
       rw [Nat.sub_self, pe_zero, pe_succ p (q :: t) 0, pe_zero] at this
       exact this
     · have h2 := h (i + 1) (by simpa using hi)
       rw [OkAt, pe_succ] at h2
       refine ⟨h2.1, fun h3 => ?_⟩
       have := h2.2 (by omega)
       rw [show i + 1 - 1 = (i - 1) + 1 by omega, pe_succ] at this
       exact this
theorem goodB_iff (n : Int) (es : List P2) : goodB n es = true ↔ 0 ≤ n ∧ n ≤ 1048576 ∧ es.length ≤ 4194304 ∧ ∀ i, i < es.length → OkAt n es i := by
 unfold goodB
 rw [Bool.and_eq_true, decide_eq_true_eq, goodRest_iff]
 constructor
 · rintro ⟨⟨a, b, c⟩, d⟩; exact ⟨a, b, c, d⟩
 · rintro ⟨a, b, c, d⟩; exact ⟨⟨a, b, c⟩, d⟩
theorem goodB_no {n : Int} {es : List P2} (h : ¬ (0 ≤ n ∧ n ≤ 1048576 ∧ es.length ≤ 4194304 ∧ ∀ i, i < es.length → OkAt n es i)) : goodB n es = false := by
 cases e : goodB n es with
 | false => rfl
 | true => exact absurd ((goodB_iff n es).1 e) h
theorem below_drewN {B : Nat} {w w' : World} (h : Below B w w') (n : Nat) : Below B w (w'.drewN n) := ⟨h.os, h.tape, h.output, h.size, h.block⟩
def cmpI (a b c d : Int) : Int := if a = c then b - d else a - c
theorem cmpI_lt {a b c d : Int} : cmpI a b c d < 0 ↔ ltP (a, b) (c, d) = true := by
 unfold cmpI ltP
 rw [decide_eq_true_eq]
 split <;> simp only <;> omega
set_option maxHeartbeats 1000000 in
set_option maxRecDepth 100000 in
theorem compare_calls (a b c d : Int) (w : World) (ha : 0 ≤ a ∧ a ≤ 1048576) (hb : 0 ≤ b ∧ b ≤ 1048576) (hc : 0 ≤ c ∧ c ≤ 1048576) (hd : 0 ≤ d ∧ d ≤ 1048576) :
   Calls Try.prog 44 #[.agg #[.int .i64 a, .int .i64 b], .agg #[.int .i64 c, .int .i64 d]] w fun e w' => e = .returned (.int .i64 (cmpI a b c d)) ∧ Below w.heap.size w w' := by
 by_cases h : a = c
 · have t : (a != c) = false := bne_eq_false_iff_eq.2 h
   have HE : Aside0 (cmpI a b c d = b - d) := ⟨by unfold cmpI; rw [if_pos h]⟩
   have q : IntKind.i64.wrap (b - d) = b - d := IntWalk.i64_in _ (by omega)
   clear h
   go_enter Try.func44, Try.ntmps44
   go_wp2_with fail
   go_ret
   exact ⟨by rw [HE.out]; first | rfl | (congr 2), ((Below.refl _ _).alloc (Nat.le_refl _) _).alloc (by simp) _⟩
 · have t : (a != c) = true := bne_iff_ne.2 h
   have HE : Aside0 (cmpI a b c d = a - c) := ⟨by unfold cmpI; rw [if_neg h]⟩
   have q : IntKind.i64.wrap (a - c) = a - c := IntWalk.i64_in _ (by omega)
   clear h
   go_enter Try.func44, Try.ntmps44
   go_wp2_with fail
   go_ret
   exact ⟨by rw [HE.out]; first | rfl | (congr 2), ((Below.refl _ _).alloc (Nat.le_refl _) _).alloc (by simp) _⟩
set_option maxHeartbeats 4000000 in
set_option maxRecDepth 100000 in
theorem simple_calls (n : Int) (A : Option Addr) (c : Nat) (es : List P2) (w : World) (he : Pairs w A es) (hc : es.length ≤ c) :
   Calls Try.prog 34 #[.agg #[.int .i64 n, .slice A es.length c]] w fun e w' => e = .returned (.bool (goodB n es)) ∧ Below w.heap.size w w' := by
 have HE := Aside0.mk he
 have HB := Aside0.mk ((Below.refl w.heap.size w).alloc (Nat.le_refl _) (.cells #[.int .i64 n, .slice A es.length c] 31 (0, 0)))
 have HX := Aside0.mk (heap_last w (.cells #[.int .i64 n, .slice A es.length c] 31 (0, 0)))
 clear he
 have x0 : (w.alloc (.cells #[.int .i64 n, .slice A es.length c] 31 (0, 0))).cell? ⟨w.heap.size, 0, none⟩ = some (.int .i64 n) := heap_cell HX.out rfl
 have x1 : (w.alloc (.cells #[.int .i64 n, .slice A es.length c] 31 (0, 0))).cell? ⟨w.heap.size, 1, none⟩ = some (.slice A es.length c) := heap_cell HX.out rfl
 by_cases h0 : 0 ≤ n ∧ n ≤ 1048576 ∧ es.length ≤ 4194304
 · obtain ⟨h0, h1, h2⟩ := h0
   have t0 : decide (n < 0) = false := decide_eq_false (by omega)
   have t1 : decide (1048576 < n) = false := decide_eq_false (by omega)
   have t2 : decide (4194304 < (es.length : Int)) = false := decide_eq_false (by omega)
   go_enter Try.func34, Try.ntmps34
   go_wp2_with fail
   obtain ⟨W0, hW0⟩ : ∃ W0, W0 = w.alloc (.cells #[.int .i64 n, .slice A es.length c] 31 (0, 0)) := ⟨_, rfl⟩
   rw [← hW0] at HB HX ⊢
   obtain ⟨bg, hbg⟩ : ∃ bg, bg = w.heap.size := ⟨_, rfl⟩
   rw [← hbg] at HX ⊢
   have HBG := Aside0.mk hbg
   clear hbg hW0 x0 x1
   have HP0 : Aside0 (∀ j, j < 0 → OkAt n es j) := ⟨fun j h => absurd h (by omega)⟩
   go_loopw [22] (fun y wr => ∃ (i : Nat), y = .int .i64 (i : Int) ∧ i ≤ es.length ∧ Aside0 (∀ j, j < i → OkAt n es j) ∧ Aside0 (Below w.heap.size w wr) ∧ Aside0 (wr.heap[bg]? = some (.cells #[.int .i64 n, .slice A es.length c] 31 (0, 0)))) (fun y _ => es.length - (intOf y).toNat)
   case atStart => exact ⟨0, rfl, by omega, HP0, HB, HX⟩
   case round =>
     clear HP0 HB HX
     obtain ⟨i, rfl, hi, HP, HB, HX⟩ := hrel
     by_cases hlt : i < es.length
     · obtain ⟨ad, eA, y1, y2⟩ := (HE.out.below HB.out) i hlt
       subst eA
       have HPR : Aside0 (0 < i → ∃ p, i = p + 1 ∧ OkAt n es p ∧ wr.cell? (ad.add (p * 2)) = some (.int .i64 (pe es p).1) ∧ wr.cell? ⟨(ad.add (p * 2)).block, (ad.add (p * 2)).off + 1, none⟩ = some (.int .i64 (pe es p).2)) := ⟨fun h => by
         obtain ⟨ad', e', z1, z2⟩ := (HE.out.below HB.out) (i - 1) (by omega)
         obtain rfl : ad = ad' := by simpa using e'
         exact ⟨i - 1, by omega, HP.out _ (by omega), z1, z2⟩⟩
       obtain ⟨u, hu⟩ : ∃ u, u = (pe es i).1 := ⟨_, rfl⟩
       obtain ⟨v, hv⟩ : ∃ v, v = (pe es i).2 := ⟨_, rfl⟩
       rw [← hu] at y1
       rw [← hv] at y2
       have HUV : Aside0 (pe es i = (u, v)) := ⟨by rw [hu, hv]⟩
       clear hu hv
       have HBAD : Aside0 (¬ OkAt n es i → goodB n es = false) := ⟨fun h => goodB_no (fun g => h (g.2.2.2 i hlt))⟩
       have HX2 := Aside0.mk (heap_old HX.out (.cells #[.int .i64 u, .int .i64 v] 33 (0, 0)))
       have HB2 := Aside0.mk (HB.out.alloc HB.out.size (.cells #[.int .i64 u, .int .i64 v] 33 (0, 0)))
       have HY2 := Aside0.mk (heap_last wr (.cells #[.int .i64 u, .int .i64 v] 33 (0, 0)))
       go_wp2_with fail
       clear y1 y2
       have x0 : (wr.alloc (.cells #[.int .i64 u, .int .i64 v] 33 (0, 0))).cell? ⟨bg, 0, none⟩ = some (.int .i64 n) := heap_cell HX2.out rfl
       have x1 : (wr.alloc (.cells #[.int .i64 u, .int .i64 v] 33 (0, 0))).cell? ⟨bg, 1, none⟩ = some (.slice (some ad) es.length c) := heap_cell HX2.out rfl
       have x2 : (wr.alloc (.cells #[.int .i64 u, .int .i64 v] 33 (0, 0))).cell? ⟨wr.heap.size, 0, none⟩ = some (.int .i64 u) := heap_cell HY2.out rfl
       have x3 : (wr.alloc (.cells #[.int .i64 u, .int .i64 v] 33 (0, 0))).cell? ⟨wr.heap.size, 1, none⟩ = some (.int .i64 v) := heap_cell HY2.out rfl
       have HBX : Aside0 (∀ b, b < wr.heap.size → (wr.alloc (.cells #[.int .i64 u, .int .i64 v] 33 (0, 0))).heap[b]? = wr.heap[b]?) := ⟨fun b hb => Below.heap_alloc _ _ _ hb⟩
       generalize wr.alloc (.cells #[.int .i64 u, .int .i64 v] 33 (0, 0)) = w2 at HX2 HB2 HY2 HBX x0 x1 x2 x3 ⊢
       obtain ⟨be, hbe⟩ : ∃ be, be = wr.heap.size := ⟨_, rfl⟩
       rw [← hbe] at x2 x3 HY2 HBX ⊢
       have HBE := Aside0.mk hbe
       clear hbe
       by_cases a0 : u < 0
       · have HG := Aside0.mk (HBAD.out (fun h => by have := h.1; rw [HUV.out] at this; unfold okP at this; rw [decide_eq_true_eq] at this; simp only at this; omega))
         have t3 : decide (u < 0) = true := decide_eq_true a0
         go_quiet (fail)
         go_wp2_with fail
         go_ret
         exact ⟨by rw [HG.out]; rfl, below_drewN HB2.out _⟩
       have t3 : decide (u < 0) = false := decide_eq_false a0
       by_cases a1 : v ≤ u
       · have HG := Aside0.mk (HBAD.out (fun h => by have := h.1; rw [HUV.out] at this; unfold okP at this; rw [decide_eq_true_eq] at this; simp only at this; omega))
         have t4 : decide (v ≤ u) = true := decide_eq_true a1
         go_quiet (fail)
         go_wp2_with fail
         go_ret
         exact ⟨by rw [HG.out]; rfl, below_drewN HB2.out _⟩
       have t4 : decide (v ≤ u) = false := decide_eq_false a1
       by_cases a2 : n ≤ v
       · have HG := Aside0.mk (HBAD.out (fun h => by have := h.1; rw [HUV.out] at this; unfold okP at this; rw [decide_eq_true_eq] at this; simp only at this; omega))
         have t5 : decide (n ≤ v) = true := decide_eq_true a2
         go_quiet (fail)
         go_wp2_with fail
         go_ret
         exact ⟨by rw [HG.out]; rfl, below_drewN HB2.out _⟩
       have t5 : decide (n ≤ v) = false := decide_eq_false a2
       have HOK : Aside0 (okP n (pe es i) = true) := ⟨by rw [HUV.out]; unfold okP; rw [decide_eq_true_eq]; simp only; omega⟩
       by_cases a3 : 0 < i
       · obtain ⟨p, hp, hop, z1, z2⟩ := HPR.out a3
         have t6 : decide (0 < (i : Int)) = true := decide_eq_true (by omega)
         obtain ⟨u', hu⟩ : ∃ u', u' = (pe es p).1 := ⟨_, rfl⟩
         obtain ⟨v', hv⟩ : ∃ v', v' = (pe es p).2 := ⟨_, rfl⟩
         rw [← hu] at z1
         rw [← hv] at z2
         have HUV' : Aside0 (pe es p = (u', v')) := ⟨by rw [hu, hv]⟩
         have hr : 0 ≤ u' ∧ u' < v' ∧ v' < n := by
           have := hop.1
           rw [HUV'.out] at this
           unfold okP at this
           simpa using this
         obtain ⟨hr0, hr1, hr2⟩ := hr
         have z1' : w2.cell? (ad.add (p * 2)) = some (.int .i64 u') := by
           rw [World.cell?, HBX.out _ (by rw [HBE.out]; exact cell_lt z1)]; exact z1
         have z2' : w2.cell? ⟨(ad.add (p * 2)).block, (ad.add (p * 2)).off + 1, none⟩ = some (.int .i64 v') := by
           rw [World.cell?, HBX.out _ (by rw [HBE.out]; exact cell_lt z2)]; exact z2
         have q1 : IntKind.i64.wrap ((i : Int) - 1) = (p : Int) := by rw [IntWalk.i64_in _ (by omega)]; omega
         have hpl : p < es.length := by omega
         have HP2 := Aside0.mk hp
         clear hu hv hop hp z1 z2
         go_still_tail 28, (by kernel_rfl)
         have HB3 : Aside0 (Below w.heap.size w w2.drew) := ⟨HB2.out.drew⟩
         have HX3 : Aside0 (w2.drew.heap[bg]? = some (.cells #[.int .i64 n, .slice (some ad) es.length c] 31 (0, 0))) := ⟨HX2.out⟩
         change wpList _ _ _ _ _ w2.drew
         generalize w2.drew = w3 at HB3 HX3 ⊢
         clear x0 x1 x2 x3 z1' z2' HB2 HX2 HY2 HBX
         by_cases hlt2 : ltP (u', v') (u, v) = true
         · have hz := cmpI_lt.2 hlt2
           have t7 : decide (0 ≤ cmpI u' v' u v) = false := decide_eq_false (by omega)
           have HP3 : Aside0 (∀ j, j < i + 1 → OkAt n es j) := ⟨fun j hj => by
             rcases Nat.lt_succ_iff_lt_or_eq.1 hj with g | rfl
             · exact HP.out j g
             · exact ⟨HOK.out, fun h => by rw [show j - 1 = p by have := HP2.out; omega, HUV.out, HUV'.out]; exact hlt2⟩⟩
           clear hz hlt2
           go_wp2_with (go_at_call 44; refine (compare_calls u' v' u v _ (by omega) (by omega) (by omega) (by omega)).mono ?_; rintro e w4 ⟨rfl, hb⟩)
           have HX4 := Aside0.mk ((hb.block _ (lt_of HX3.out)).trans HX3.out)
           have HB4 := Aside0.mk (HB3.out.trans (hb.mono HB3.out.size))
           clear hb HX3 HB3
           go_wp2_with fail
           go_roundw
           case rel => exact ⟨i + 1, by go_num, by omega, HP3, HB4, HX4⟩
           case measure => simp [intOf]; omega
         · have HG := Aside0.mk (HBAD.out (fun h => hlt2 (by
             have := h.2 a3
             rw [show i - 1 = p by have := HP2.out; omega, HUV.out, HUV'.out] at this
             exact this)))
           have hz : ¬ cmpI u' v' u v < 0 := fun h => hlt2 (cmpI_lt.1 h)
           have t7 : decide (0 ≤ cmpI u' v' u v) = true := decide_eq_true (by omega)
           clear hz hlt2
           go_wp2_with (go_at_call 44; refine (compare_calls u' v' u v _ (by omega) (by omega) (by omega) (by omega)).mono ?_; rintro e w4 ⟨rfl, hb⟩)
           have HB4 := Aside0.mk (HB3.out.trans (hb.mono HB3.out.size))
           clear hb HB3
           go_wp2_with fail
           go_ret
           exact ⟨by rw [HG.out]; rfl, HB4.out⟩
       · have t6 : decide (0 < (i : Int)) = false := decide_eq_false (by omega)
         have HP2 : Aside0 (∀ j, j < i + 1 → OkAt n es j) := ⟨fun j hj => by
           rcases Nat.lt_succ_iff_lt_or_eq.1 hj with g | rfl
           · exact HP.out j g
           · exact ⟨HOK.out, fun h => absurd h a3⟩⟩
         go_quiet (fail)
         go_wp2_with fail
         go_roundw
         case rel => exact ⟨i + 1, by go_num, by omega, HP2, ⟨below_drewN HB2.out _⟩, ⟨HX2.out⟩⟩
         case measure => simp [intOf]; omega
     · obtain rfl : i = es.length := by omega
       have HG := Aside0.mk ((goodB_iff n es).2 ⟨h0, h1, h2, HP.out⟩)
       go_wp2_with fail
       go_ret
       exact ⟨by rw [HG.out]; rfl, HB.out⟩
 · have HG := Aside0.mk (goodB_no (n := n) (es := es) (fun h => h0 ⟨h.1, h.2.1, h.2.2.1⟩))
   by_cases a0 : n < 0
   · have t0 : decide (n < 0) = true := decide_eq_true a0
     clear h0
     go_enter Try.func34, Try.ntmps34
     go_wp2_with fail
     go_ret
     exact ⟨by rw [HG.out]; rfl, HB.out⟩
   · have t0 : decide (n < 0) = false := decide_eq_false a0
     by_cases a1 : 1048576 < n
     · have t1 : decide (1048576 < n) = true := decide_eq_true a1
       clear h0
       go_enter Try.func34, Try.ntmps34
       go_wp2_with fail
       go_ret
       exact ⟨by rw [HG.out]; rfl, HB.out⟩
     · have t1 : decide (1048576 < n) = false := decide_eq_false a1
       have t2 : decide (4194304 < (es.length : Int)) = true := decide_eq_true (by omega)
       clear h0
       go_enter Try.func34, Try.ntmps34
       go_wp2_with fail
       go_ret
       exact ⟨by rw [HG.out]; rfl, HB.out⟩
set_option maxHeartbeats 1000000 in
set_option maxRecDepth 100000 in
theorem less_calls (a b c d : Int) (w : World) :
   Calls Try.prog 36 #[.agg #[.int .i64 a, .int .i64 b], .agg #[.int .i64 c, .int .i64 d]] w fun e w' => e = .returned (.bool (ltP (a, b) (c, d))) ∧ Below w.heap.size w w' := by
 by_cases h : a < c
 · have t : decide (a < c) = true := decide_eq_true h
   have HE : Aside0 (ltP (a, b) (c, d) = true) := ⟨decide_eq_true (Or.inl h)⟩
   clear h
   go_enter Try.func36, Try.ntmps36
   go_wp2_with fail
   go_ret
   exact ⟨by rw [HE.out]; rfl, ((Below.refl _ _).alloc (Nat.le_refl _) _).alloc (by simp) _⟩
 · have t : decide (a < c) = false := decide_eq_false h
   by_cases h2 : a = c
   · have t2 : (a == c) = true := beq_iff_eq.2 h2
     have HE : Aside0 (ltP (a, b) (c, d) = decide (b < d)) := ⟨by unfold ltP; rw [decide_eq_decide]; simp only; omega⟩
     clear h h2
     go_enter Try.func36, Try.ntmps36
     go_wp2_with fail
     go_ret
     exact ⟨by rw [HE.out]; rfl, ((Below.refl _ _).alloc (Nat.le_refl _) _).alloc (by simp) _⟩
   · have t2 : (a == c) = false := beq_eq_false_iff_ne.2 h2
     have HE : Aside0 (ltP (a, b) (c, d) = false) := ⟨by unfold ltP; rw [decide_eq_false_iff_not]; simp only; omega⟩
     clear h h2
     go_enter Try.func36, Try.ntmps36
     go_wp2_with fail
     go_ret
     exact ⟨by rw [HE.out]; rfl, ((Below.refl _ _).alloc (Nat.le_refl _) _).alloc (by simp) _⟩
set_option maxHeartbeats 4000000 in
set_option maxRecDepth 100000 in
theorem ref_calls (n : Int) (A : Option Addr) (c : Nat) (es : List P2) (w : World) (he : Pairs w A es) (hc : es.length ≤ c) :
   Calls Try.prog 15 #[.agg #[.int .i64 n, .slice A es.length c]] w fun e w' => e = .returned (.bool (goodB n es)) ∧ Below w.heap.size w w' := by
 have HE := Aside0.mk he
 have HB := Aside0.mk ((Below.refl w.heap.size w).alloc (Nat.le_refl _) (.cells #[.int .i64 n, .slice A es.length c] 31 (0, 0)))
 have HX := Aside0.mk (heap_last w (.cells #[.int .i64 n, .slice A es.length c] 31 (0, 0)))
 clear he
 have x0 : (w.alloc (.cells #[.int .i64 n, .slice A es.length c] 31 (0, 0))).cell? ⟨w.heap.size, 0, none⟩ = some (.int .i64 n) := heap_cell HX.out rfl
 have x1 : (w.alloc (.cells #[.int .i64 n, .slice A es.length c] 31 (0, 0))).cell? ⟨w.heap.size, 1, none⟩ = some (.slice A es.length c) := heap_cell HX.out rfl
 by_cases h0 : 0 ≤ n ∧ n ≤ 1048576 ∧ es.length ≤ 4194304
 · obtain ⟨h0, h1, h2⟩ := h0
   have t0 : decide (n < 0) = false := decide_eq_false (by omega)
   have t1 : decide (1048576 < n) = false := decide_eq_false (by omega)
   have t2 : decide (4194304 < (es.length : Int)) = false := decide_eq_false (by omega)
   go_enter Try.func15, Try.ntmps15
   go_wp2_with fail
   obtain ⟨W0, hW0⟩ : ∃ W0, W0 = w.alloc (.cells #[.int .i64 n, .slice A es.length c] 31 (0, 0)) := ⟨_, rfl⟩
   rw [← hW0] at HB HX ⊢
   obtain ⟨bg, hbg⟩ : ∃ bg, bg = w.heap.size := ⟨_, rfl⟩
   rw [← hbg] at HX ⊢
   have HBG := Aside0.mk hbg
   clear hbg hW0 x0 x1
   have HP0 : Aside0 (∀ j, j < 0 → OkAt n es j) := ⟨fun j h => absurd h (by omega)⟩
   go_loopw [3] (fun y wr => ∃ (i : Nat), y = .int .i64 (i : Int) ∧ i ≤ es.length ∧ Aside0 (∀ j, j < i → OkAt n es j) ∧ Aside0 (Below w.heap.size w wr) ∧ Aside0 (wr.heap[bg]? = some (.cells #[.int .i64 n, .slice A es.length c] 31 (0, 0)))) (fun y _ => es.length - (intOf y).toNat)
   case atStart => exact ⟨0, rfl, by omega, HP0, HB, HX⟩
   case round =>
     clear HP0 HB HX
     obtain ⟨i, rfl, hi, HP, HB, HX⟩ := hrel
     have w1 : wr.cell? ⟨bg, 1, none⟩ = some (.slice A es.length c) := heap_cell HX.out rfl
     by_cases hlt : i < es.length
     · obtain ⟨ad, eA, y1, y2⟩ := (HE.out.below HB.out) i hlt
       subst eA
       have HPR : Aside0 (0 < i → ∃ p, i = p + 1 ∧ OkAt n es p ∧ wr.cell? (ad.add (p * 2)) = some (.int .i64 (pe es p).1) ∧ wr.cell? ⟨(ad.add (p * 2)).block, (ad.add (p * 2)).off + 1, none⟩ = some (.int .i64 (pe es p).2)) := ⟨fun h => by
         obtain ⟨ad', e', z1, z2⟩ := (HE.out.below HB.out) (i - 1) (by omega)
         obtain rfl : ad = ad' := by simpa using e'
         exact ⟨i - 1, by omega, HP.out _ (by omega), z1, z2⟩⟩
       obtain ⟨u, hu⟩ : ∃ u, u = (pe es i).1 := ⟨_, rfl⟩
       obtain ⟨v, hv⟩ : ∃ v, v = (pe es i).2 := ⟨_, rfl⟩
       rw [← hu] at y1
       rw [← hv] at y2
       have HUV : Aside0 (pe es i = (u, v)) := ⟨by rw [hu, hv]⟩
       clear hu hv
       have HBAD : Aside0 (¬ OkAt n es i → goodB n es = false) := ⟨fun h => goodB_no (fun g => h (g.2.2.2 i hlt))⟩
       have HX2 := Aside0.mk (heap_old HX.out (.cells #[.int .i64 u, .int .i64 v] 33 (0, 0)))
       have HB2 := Aside0.mk (HB.out.alloc HB.out.size (.cells #[.int .i64 u, .int .i64 v] 33 (0, 0)))
       have HY2 := Aside0.mk (heap_last wr (.cells #[.int .i64 u, .int .i64 v] 33 (0, 0)))
       have x0 : (wr.alloc (.cells #[.int .i64 u, .int .i64 v] 33 (0, 0))).cell? ⟨bg, 0, none⟩ = some (.int .i64 n) := heap_cell HX2.out rfl
       have x1 : (wr.alloc (.cells #[.int .i64 u, .int .i64 v] 33 (0, 0))).cell? ⟨bg, 1, none⟩ = some (.slice (some ad) es.length c) := heap_cell HX2.out rfl
       have x2 : (wr.alloc (.cells #[.int .i64 u, .int .i64 v] 33 (0, 0))).cell? ⟨wr.heap.size, 0, none⟩ = some (.int .i64 u) := heap_cell HY2.out rfl
       have x3 : (wr.alloc (.cells #[.int .i64 u, .int .i64 v] 33 (0, 0))).cell? ⟨wr.heap.size, 1, none⟩ = some (.int .i64 v) := heap_cell HY2.out rfl
       have HBX : Aside0 (∀ b, b < wr.heap.size → (wr.alloc (.cells #[.int .i64 u, .int .i64 v] 33 (0, 0))).heap[b]? = wr.heap[b]?) := ⟨fun b hb => Below.heap_alloc _ _ _ hb⟩
       by_cases a0 : u < 0
       · have HG := Aside0.mk (HBAD.out (fun h => by have := h.1; rw [HUV.out] at this; unfold okP at this; rw [decide_eq_true_eq] at this; simp only at this; omega))
         have t3 : decide (u < 0) = true := decide_eq_true a0
         go_wp2_with fail
         go_ret
         exact ⟨by rw [HG.out]; rfl, HB2.out⟩
       have t3 : decide (u < 0) = false := decide_eq_false a0
       by_cases a1 : v ≤ u
       · have HG := Aside0.mk (HBAD.out (fun h => by have := h.1; rw [HUV.out] at this; unfold okP at this; rw [decide_eq_true_eq] at this; simp only at this; omega))
         have t4 : decide (v ≤ u) = true := decide_eq_true a1
         go_wp2_with fail
         go_ret
         exact ⟨by rw [HG.out]; rfl, HB2.out⟩
       have t4 : decide (v ≤ u) = false := decide_eq_false a1
       by_cases a2 : n ≤ v
       · have HG := Aside0.mk (HBAD.out (fun h => by have := h.1; rw [HUV.out] at this; unfold okP at this; rw [decide_eq_true_eq] at this; simp only at this; omega))
         have t5 : decide (n ≤ v) = true := decide_eq_true a2
         go_wp2_with fail
         go_ret
         exact ⟨by rw [HG.out]; rfl, HB2.out⟩
       have t5 : decide (n ≤ v) = false := decide_eq_false a2
       have HOK : Aside0 (okP n (pe es i) = true) := ⟨by rw [HUV.out]; unfold okP; rw [decide_eq_true_eq]; simp only; omega⟩
       by_cases a3 : 0 < i
       · have t6 : decide (0 < (i : Int)) = true := decide_eq_true (by omega)
         go_wp2_with fail
         clear y1 y2 w1
         generalize wr.alloc (.cells #[.int .i64 u, .int .i64 v] 33 (0, 0)) = w2 at HX2 HB2 HY2 HBX x0 x1 x2 x3 ⊢
         obtain ⟨be, hbe⟩ : ∃ be, be = wr.heap.size := ⟨_, rfl⟩
         rw [← hbe] at x2 x3 HY2 HBX ⊢
         have HBE := Aside0.mk hbe
         clear hbe
         obtain ⟨p, hp, hop, z1, z2⟩ := HPR.out a3
         obtain ⟨u', hu⟩ : ∃ u', u' = (pe es p).1 := ⟨_, rfl⟩
         obtain ⟨v', hv⟩ : ∃ v', v' = (pe es p).2 := ⟨_, rfl⟩
         rw [← hu] at z1
         rw [← hv] at z2
         have HUV' : Aside0 (pe es p = (u', v')) := ⟨by rw [hu, hv]⟩
         have hr : 0 ≤ u' ∧ u' < v' ∧ v' < n := by
           have := hop.1
           rw [HUV'.out] at this
           unfold okP at this
           simpa using this
         obtain ⟨hr0, hr1, hr2⟩ := hr
         have z1' : w2.cell? (ad.add (p * 2)) = some (.int .i64 u') := by
           rw [World.cell?, HBX.out _ (by rw [HBE.out]; exact cell_lt z1)]; exact z1
         have z2' : w2.cell? ⟨(ad.add (p * 2)).block, (ad.add (p * 2)).off + 1, none⟩ = some (.int .i64 v') := by
           rw [World.cell?, HBX.out _ (by rw [HBE.out]; exact cell_lt z2)]; exact z2
         have q1 : IntKind.i64.wrap ((i : Int) - 1) = (p : Int) := by rw [IntWalk.i64_in _ (by omega)]; omega
         have hpl : p < es.length := by omega
         have HP2 := Aside0.mk hp
         clear hu hv hop hp z1 z2
         go_still_tail 7, (by kernel_rfl)
         have HB3 : Aside0 (Below w.heap.size w w2.drew) := ⟨HB2.out.drew⟩
         have HX3 : Aside0 (w2.drew.heap[bg]? = some (.cells #[.int .i64 n, .slice (some ad) es.length c] 31 (0, 0))) := ⟨HX2.out⟩
         change wpList _ _ _ _ _ w2.drew
         generalize w2.drew = w3 at HB3 HX3 ⊢
         clear x0 x1 x2 x3 z1' z2' HB2 HX2 HY2 HBX
         by_cases hlt2 : ltP (u', v') (u, v) = true
         · have t7 := hlt2
           have HP3 : Aside0 (∀ j, j < i + 1 → OkAt n es j) := ⟨fun j hj => by
             rcases Nat.lt_succ_iff_lt_or_eq.1 hj with g | rfl
             · exact HP.out j g
             · exact ⟨HOK.out, fun h => by rw [show j - 1 = p by have := HP2.out; omega, HUV.out, HUV'.out]; exact hlt2⟩⟩
           clear hlt2
           go_wp2_with (go_at_call 36; refine (less_calls u' v' u v _).mono ?_; rintro e w4 ⟨rfl, hb⟩)
           have HX4 := Aside0.mk ((hb.block _ (lt_of HX3.out)).trans HX3.out)
           have HB4 := Aside0.mk (HB3.out.trans (hb.mono HB3.out.size))
           clear hb HX3 HB3
           go_wp2_with fail
           go_roundw
           case rel => exact ⟨i + 1, by go_num, by omega, HP3, HB4, HX4⟩
           case measure => simp [intOf]; omega
         · have HG := Aside0.mk (HBAD.out (fun h => hlt2 (by
             have := h.2 a3
             rw [show i - 1 = p by have := HP2.out; omega, HUV.out, HUV'.out] at this
             exact this)))
           have t7 : ltP (u', v') (u, v) = false := by simpa using hlt2
           clear hlt2
           go_wp2_with (go_at_call 36; refine (less_calls u' v' u v _).mono ?_; rintro e w4 ⟨rfl, hb⟩)
           have HB4 := Aside0.mk (HB3.out.trans (hb.mono HB3.out.size))
           clear hb HB3
           go_wp2_with fail
           go_ret
           exact ⟨by rw [HG.out]; rfl, HB4.out⟩
       · have t6 : decide (0 < (i : Int)) = false := decide_eq_false (by omega)
         have HP2 : Aside0 (∀ j, j < i + 1 → OkAt n es j) := ⟨fun j hj => by
           rcases Nat.lt_succ_iff_lt_or_eq.1 hj with g | rfl
           · exact HP.out j g
           · exact ⟨HOK.out, fun h => absurd h a3⟩⟩
         go_wp2_with fail
         go_roundw
         case rel => exact ⟨i + 1, by go_num, by omega, HP2, HB2, HX2⟩
         case measure => simp [intOf]; omega
     · obtain rfl : i = es.length := by omega
       have HG := Aside0.mk ((goodB_iff n es).2 ⟨h0, h1, h2, HP.out⟩)
       go_wp2_with fail
       go_ret
       exact ⟨by rw [HG.out]; rfl, HB.out⟩
 · have HG := Aside0.mk (goodB_no (n := n) (es := es) (fun h => h0 ⟨h.1, h.2.1, h.2.2.1⟩))
   by_cases a0 : n < 0
   · have t0 : decide (n < 0) = true := decide_eq_true a0
     clear h0
     go_enter Try.func15, Try.ntmps15
     go_wp2_with fail
     go_ret
     exact ⟨by rw [HG.out]; rfl, HB.out⟩
   · have t0 : decide (n < 0) = false := decide_eq_false a0
     by_cases a1 : 1048576 < n
     · have t1 : decide (1048576 < n) = true := decide_eq_true a1
       clear h0
       go_enter Try.func15, Try.ntmps15
       go_wp2_with fail
       go_ret
       exact ⟨by rw [HG.out]; rfl, HB.out⟩
     · have t1 : decide (1048576 < n) = false := decide_eq_false a1
       have t2 : decide (4194304 < (es.length : Int)) = true := decide_eq_true (by omega)
       clear h0
       go_enter Try.func15, Try.ntmps15
       go_wp2_with fail
       go_ret
       exact ⟨by rw [HG.out]; rfl, HB.out⟩
end Go.Proofs.Ytoajoklpbfehiaa.ValH
namespace Go.Proofs.Ytoajoklpbfehiaa.GAll
open Go.RowKit Go.Proofs.YtoajoklpbfehiaaW.PrintWords Go.Proofs.YtoajoklpbfehiaaW.PrintLast Go.Proofs.YtoajoklpbfehiaaW.PrintMore
attribute [local go_sem] max2_int min2_int max_two min_two max_three min_three max_four min_four   -- for this text's walks alone
set_option linter.unusedVariables false
set_option linter.unusedSimpArgs false
def errW : Option Int → Value
 | none => .nilIface
 | some c => .iface 0 (.int .i64 c)
theorem errW_none : errW none = .nilIface := rfl
theorem errW_some (c : Int) : errW (some c) = .iface 0 (.int .i64 c) := rfl
theorem info3 : (Try.prog.info? 3).map (fun i => (i.zero, i.size, i.bytes)) = some (some (.int .i64 0), 1, 8) := by kernel_rfl
structure S33 where
 f0 : Int
 f1 : Int
def z33 : S33 := ⟨(0 : Int), (0 : Int)⟩
def k33 : Kd S33 := Kd.iso (Kd.pair (Kd.int .i64) (Kd.int .i64)) (fun x : S33 => (x.f0, x.f1))
theorem k33_open {w : World} {x : S33} {cs : List Value} (h : k33.K w x cs) : cs = [.int .i64 x.f0, .int .i64 x.f1] := by
 obtain ⟨_, _, rfl, rfl, rfl⟩ := h
 exact rfl
theorem k33_mk (w : World) (x : S33)  : k33.K w x [.int .i64 x.f0, .int .i64 x.f1] := ⟨[.int .i64 x.f0], [.int .i64 x.f1], rfl, rfl, rfl⟩
def rd_T33 (xs : List S33) (i : Int) : S33 := xs.getD i.toNat z33
theorem at_T33 {w : World} {A : Option Addr} {n : Nat} {xs : List S33} (h : Kd.C k33 w A n xs) (i : Int) (h0 : 0 ≤ i) (h1 : i < n) : ∃ ad , A = some ad ∧ w.cell? (ad.add (i.toNat * 2)) = some (.int .i64 (rd_T33 xs i).f0) ∧ w.cell? ⟨(ad.add (i.toNat * 2)).block, (ad.add (i.toNat * 2)).off + 1, none⟩ = some (.int .i64 (rd_T33 xs i).f1) := by
 obtain ⟨ad, c, e, _, hK, hc0⟩ := Kd.C_get h z33 i h0 h1
 have hc : ∀ j u, c[j]? = some u → w.cell? (ad.add (i.toNat * 2 + j)) = some u := hc0
 obtain rfl := k33_open hK
 exact ⟨ad, e, hc 0 _ rfl, by rw [← add_field _ _ 1 (by omega)]; exact hc 1 _ rfl⟩
def rd_L2 (xs : List (List S33)) (i : Int) : (List S33) := xs.getD i.toNat ([] : List S33)
structure S31 where
 f0 : Int
 f1 : (List S33)
def z31 : S31 := ⟨(0 : Int), ([] : List S33)⟩
def k31 : Kd S31 := Kd.iso (Kd.pair (Kd.int .i64) (Kd.slice 33 k33)) (fun x : S31 => (x.f0, x.f1))
def rd_T31 (xs : List S31) (i : Int) : S31 := xs.getD i.toNat z31
def rd_L5 (xs : List (List Int)) (i : Int) : (List Int) := xs.getD i.toNat ([] : List Int)
theorem at_L5 {w : World} {A : Option Addr} {n : Nat} {xs : List (List Int)} (h : Kd.C (Kd.slice 3 (Kd.int .i64)) w A n xs) (i : Int) (h0 : 0 ≤ i) (h1 : i < n) : ∃ ad A0 c0, A = some ad ∧ w.cell? (ad.add i.toNat) = some (.slice A0 (rd_L5 xs i).length c0) ∧ (rd_L5 xs i).length ≤ c0 ∧ (Kd.int .i64).C w A0 (rd_L5 xs i).length (rd_L5 xs i) := by
 obtain ⟨ad, c, e, _, hK, hc0⟩ := Kd.C_get h ([] : List Int) i h0 h1
 have hc : ∀ j u, c[j]? = some u → w.cell? (ad.add (i.toNat * 1 + j)) = some u := hc0
 obtain ⟨A0, c0, rfl, l0, g0⟩ := hK
 exact ⟨ad, A0, c0, e, by have hq := hc 0 _ rfl; rwa [Nat.mul_one, Nat.add_zero] at hq, l0, g0⟩
end Go.Proofs.Ytoajoklpbfehiaa.GAll
namespace Go.Proofs.Ytoajoklpbfehiaa.EJ
open Go.RowKit Go.Proofs.YtoajoklpbfehiaaW.PrintWords Go.Proofs.YtoajoklpbfehiaaW.PrintLast Go.Proofs.YtoajoklpbfehiaaW.PrintMore Go.Proofs.Ytoajoklpbfehiaa.GAll Go.Proofs.Ytoajoklpbfehiaa.Mem
set_option linter.unusedVariables false
set_option linter.unusedSimpArgs false
abbrev Eg := S33
abbrev kE : Kd Eg := k33
theorem info_edge : (Try.prog.info? 33).map (fun i => (i.zero, i.size, i.bytes)) = some (some (.agg #[.int .i64 0, .int .i64 0]), 2, 16) := by kernel_rfl
theorem kE_M {w W : World} {base : Nat} {ok : Nat → Prop} {x : Eg} {cs : List Value} (h : kE.K w x cs) : kE.M W base ok x cs := h
theorem one_edge {w : World} {b : Nat} {x y : Int} (h : w.heap[b]? = some (.cells #[.int .i64 x, .int .i64 y] 33 (0, 0))) : Kd.C kE w (some ⟨b, 0, none⟩) 1 [⟨x, y⟩] := by
 refine ⟨rfl, by decide, fun _ => ⟨_, rfl, fun j p hj => ?_⟩⟩
 obtain rfl : j = 0 := by
   rcases j with _ | j
   · rfl
   · simp at hj
 obtain rfl : (⟨x, y⟩ : Eg) = p := by simpa using hj
 refine ⟨[.int .i64 x, .int .i64 y], rfl, ⟨[.int .i64 x], [.int .i64 y], rfl, rfl, rfl⟩, fun i u hu => ?_⟩
 rw [add_plain]
 refine heap_cell h ?_
 rw [Nat.zero_mul, Nat.zero_add, List.getElem?_toArray]
 exact hu
structure J (w0 w : World) (o : Option (Value × List Eg)) (bx : Option (Nat × Int × Int)) (gr : Option Nat) : Prop where
 old : Below w0.heap.size w0 w
 row : ∀ v l, o = some (v, l) → Kd.R kE 33 w w0.heap.size (fun _ => True) v l
 box : ∀ b x y, bx = some (b, x, y) → w.heap[b]? = some (.cells #[.int .i64 x, .int .i64 y] 33 (0, 0))
 graph : ∀ b, gr = some b → w.heap[b]? = some (.cells #[.int .i64 0, .slice none 0 0] 31 (0, 0))
 far : ∀ v l b x y, o = some (v, l) → bx = some (b, x, y) → v.ownBlock ≠ some b
 lo : ∀ b, gr = some b → w0.heap.size ≤ b
section
variable {w0 w : World} {o : Option (Value × List Eg)} {bx : Option (Nat × Int × Int)} {gr : Option Nat}
theorem J.start (w0 : World) : J w0 w0 none none none := by
 refine ⟨Below.refl _ _, ?_, ?_, ?_, ?_, ?_⟩
 · intro v l h; exact absurd h (by simp)
 · intro b x y h; exact absurd h (by simp)
 · intro b h; exact absurd h (by simp)
 · intro v l b x y h; exact absurd h (by simp)
 · intro b h; exact absurd h (by simp)
theorem J.alloc (h : J w0 w o bx gr) (ob : Obj) : J w0 (w.alloc ob) o bx gr :=
 ⟨h.old.alloc h.old.size ob, fun v l e => Kd.R_below (h.row v l e) ((Below.refl _ _).alloc (Nat.le_refl _) ob), fun b x y e => heap_old (h.box b x y e) ob, fun b e => heap_old (h.graph b e) ob, h.far, h.lo⟩
theorem J.drew (h : J w0 w o bx gr) : J w0 w.drew o bx gr := ⟨h.old.drew, fun v l e => Kd.R_below (h.row v l e) ((Below.refl _ _).drew), h.box, h.graph, h.far, h.lo⟩
theorem J.made (h : J w0 w none bx gr) (cs : Array Value) (c : Nat) (hc : c ≤ maxLen) (hs : cs.size = c * 2) : J w0 (w.alloc (.cells cs 33 (0, 0))) (some (.slice (some ⟨w.heap.size, 0, none⟩) 0 c, [])) bx gr := by
 have h1 := h.alloc (.cells cs 33 (0, 0))
 refine ⟨h1.old, fun v l e => ?_, h1.box, h1.graph, fun v l b x y e e2 e3 => ?_, h1.lo⟩
 · simp only [Option.some.injEq, Prod.mk.injEq] at e
   obtain ⟨rfl, rfl⟩ := e
   exact ⟨fun _ _ => trivial, [], World.ownsRow_made w cs c h.old.size hc hs, Reps.none _ _⟩
 · simp only [Option.some.injEq, Prod.mk.injEq] at e
   obtain ⟨rfl, rfl⟩ := e
   have := lt_of (h.box b x y e2)
   have : w.heap.size = b := by simpa [Value.ownBlock] using e3
   omega
theorem J.boxed (h : J w0 w o none gr) (x y : Int) : J w0 (w.alloc (.cells #[.int .i64 x, .int .i64 y] 33 (0, 0))) o (some (w.heap.size, x, y)) gr := by
 have h1 := h.alloc (.cells #[.int .i64 x, .int .i64 y] 33 (0, 0))
 refine ⟨h1.old, h1.row, fun b x' y' e => ?_, h1.graph, fun v l b x' y' e e2 e3 => ?_, h1.lo⟩
 · simp only [Option.some.injEq, Prod.mk.injEq] at e
   obtain ⟨rfl, rfl, rfl⟩ := e
   exact heap_last _ _
 · simp only [Option.some.injEq, Prod.mk.injEq] at e2
   obtain ⟨rfl, _, _⟩ := e2
   have := Kd.R_lt (h.row v l e) _ e3
   omega
theorem J.graphed (h : J w0 w o bx none) : J w0 (w.alloc (.cells #[.int .i64 0, .slice none 0 0] 31 (0, 0))) o bx (some w.heap.size) := by
 have h1 := h.alloc (.cells #[.int .i64 0, .slice none 0 0] 31 (0, 0))
 refine ⟨h1.old, h1.row, h1.box, fun b e => ?_, h1.far, fun b e => ?_⟩
 · simp only [Option.some.injEq] at e
   subst e
   exact heap_last _ _
 · simp only [Option.some.injEq] at e
   subst e
   exact h.old.size
theorem J.grown {w1 : World} {v v1 : Value} {l l1 : List Eg} (h : J w0 w (some (v, l)) bx gr) (hR : Kd.R kE 33 w1 w0.heap.size (fun _ => True) v1 l1) (hb : Below w0.heap.size w0 w1) (hg : w.grownBy w1 v.ownBlock) (hat : v1.ownBlock = v.ownBlock ∨ ∃ b, v1.ownBlock = some b ∧ w.heap.size ≤ b) : J w0 w1 (some (v1, l1)) bx gr := by
 refine ⟨hb, fun v' l' e => ?_, fun b x y e => ?_, fun b e => ?_, fun v' l' b x y e e2 e3 => ?_, h.lo⟩
 · simp only [Option.some.injEq, Prod.mk.injEq] at e
   obtain ⟨rfl, rfl⟩ := e
   exact hR
 · have hx := h.box b x y e
   rw [hg.block b (lt_of hx) (fun e3 => h.far v l b x y rfl e e3.symm)]
   exact hx
 · have hx := h.graph b e
   rw [hg.block b (lt_of hx) (Kd.R_ne (h.row v l rfl) hx (by decide))]
   exact hx
 · simp only [Option.some.injEq, Prod.mk.injEq] at e
   obtain ⟨rfl, rfl⟩ := e
   have hx := h.box b x y e2
   rcases hat with c | ⟨q, c, hq⟩
   · exact h.far v l b x y rfl e2 (c ▸ e3)
   · rw [e3] at c
     injection c with c
     have := lt_of hx
     omega
theorem J.cell (h : J w0 w o bx gr) {a : Addr} {v : Value} (hv : w0.cell? a = some v) : w.cell? a = some v := (h.old.cell (cell_lt hv)).trans hv
end
section
variable {P : Program} {ops : Array Oper} {o : Oper} {a : Act} {Q : Exit → Act → World → Prop} {Kc : Act → World → Prop}
theorem J.rows_step {w0 W : World} {bx : Option (Nat × Int × Int)} {gr : Option Nat} (hw : Region.wanted o (yielded ops a.tmps) = true) (s x : Operand) (t : TypeId)
   (ho : o.op = .call { callee := .builtin .append, args := #[s, x], argTypes := #[t, t] })
   (ht : P.underlying t = some (.slice 33)) (hinfo : (P.info? 33).map (fun i => (i.zero, i.size, i.bytes)) = some (some (.agg #[.int .i64 0, .int .i64 0]), 2, 16))
   (v : Value) (xs ys : List Eg) (A : Option Addr) (m c : Nat) (hs : a.eval s = v) (hx : a.eval x = .slice A m c)
   (hJ : J w0 W (some (v, xs)) bx gr) (HR : Kd.C kE W A m ys) (hl : (xs.length + m) * 16 ≤ 140737488355328)
   (h : ∀ v1 w1, J w0 w1 (some (v1, xs ++ ys)) bx gr → Kc (a.put o.dst v1) w1) :
   if Region.wanted o (yielded ops a.tmps) = true then Oper.wp P o a W Kc Q else Kc (a.put o.dst undef) W := by
 refine Kd.R_append_rows_step kE (Rr := kE.K W) (w0 := w0) w0.heap.size hw s x t 33 (.agg #[.int .i64 0, .int .i64 0]) 16 ho ht hinfo rfl (by decide) (by omega) v xs ys A m c (fun _ => True) (fun _ => False) hs hx (hJ.row _ _ rfl) HR (fun _ _ q => kE_M q) (fun _ q => q.elim) (fun _ _ => trivial) hJ.old hJ.old.size hl ?_
 intro v1 w1 hR hb hg hat
 exact h v1 w1 (hJ.grown hR hb hg hat)
end
end Go.Proofs.Ytoajoklpbfehiaa.EJ
