/- DERIVED. Texts of this seat, one behind the other: lemmas and walks that the statement CompsMemory needs. No condition. -/
import Derived.Test.YtoajoklpbfehiaaCCompsMemoryc
import Derived.Test.YtoajoklpbfehiaaCCompsMemoryd
namespace Go.Proofs.Ytoajoklpbfehiaa.EJ
open Go.RowKit Go.Proofs.YtoajoklpbfehiaaW.PrintWords Go.Proofs.YtoajoklpbfehiaaW.PrintLast Go.Proofs.YtoajoklpbfehiaaW.PrintMore Go.Proofs.Ytoajoklpbfehiaa.GAll Go.Proofs.Ytoajoklpbfehiaa.Mem Go.Proofs.Ytoajoklpbfehiaa.Pile
set_option linter.unusedVariables false
set_option linter.unusedSimpArgs false
theorem size_zeros (z : Array Value) (n : Nat) : (madeCells z n).size = n := size_madeCells z n
theorem make_cap (m : Nat) (hm : m * 16 ≤ 281474976710656) : ∃ CZ : Array Value, CZ.size = m * 2 ∧ ∀ W : World, (Instr.makeSlice 29 (.int .i64 0) (.int .i64 (m : Int))).run Try.prog W = .ok (.slice (some ⟨W.heap.size, 0, none⟩) 0 m) (W.alloc (.cells CZ 33 (0, 0))) := by
 obtain ⟨i0, hi, hzz⟩ := Option.map_eq_some_iff.1 info_edge
 simp only [Prod.mk.injEq] at hzz
 obtain ⟨hz0, hz1, hz2⟩ := hzz
 refine ⟨madeCells (Value.agg #[.int .i64 0, .int .i64 0]).cells (m * 2), size_zeros _ _, fun W => ?_⟩
 have h := run_make (P := Try.prog) W 29 33 i0 _ Try.underlying29 hi hz0 .i64 .i64 0 (m : Int) (Int.le_refl _) (by omega) (by rw [hz2]; omega) (by omega)
 rw [hz1, Int.toNat_natCast] at h
 exact h
theorem below_drewN' {k : Nat} {a b : World} (h : Below k a b) (m : Nat) : Below k a (b.drewN m) := ⟨h.os, h.tape, h.output, h.size, h.block⟩
section
variable {P : Program} {ops : Array Oper} {rest : List Oper} {o : Oper} {a : Act} {Q : Exit → Act → World → Prop}
theorem raw_rows {W : World} (hgd : o.guard = none) (s x : Operand) (t : TypeId)
   (ho : o.op = .call { callee := .builtin .append, args := #[s, x], argTypes := #[t, t] })
   (ht : P.underlying t = some (.slice 34)) (hinfo : (P.info? 34).map (fun i => (i.zero, i.size, i.bytes)) = some (some (.slice none 0 0), 1, 24))
   (base : Nat) (A : Option Addr) (n c : Nat) (T T2 : List Value) (A2 : Option Addr) (m c2 : Nat) (hs : a.eval s = .slice A n c) (hx : a.eval x = .slice A2 m c2)
   (HO : Kd.R (Kd.raw 1) 34 W base (fun _ => True) (.slice A n c) (ones T)) (HR : Kd.C (Kd.raw 1) W A2 m (ones T2)) (hbase : base ≤ W.heap.size) (hn : T.length = n) (hl : (n + m) * 24 ≤ 140737488355328)
   (h : ∀ A1 c1 w1, Kd.R (Kd.raw 1) 34 w1 base (fun _ => True) (.slice A1 (n + m) c1) (ones (T ++ T2)) → W.grownBy w1 (Value.slice A n c).ownBlock → wpList P ops Q rest (a.put o.dst (.slice A1 (n + m) c1)) w1) :
   wpList P ops Q (o :: rest) a W := by
 refine Kd.R_append_rows (Kd.raw 1) (Rr := (Kd.raw 1).K W) (w0 := W) base hgd s x t 34 (.slice none 0 0) 24 ho ht hinfo rfl (by decide) (by omega) (.slice A n c) (ones T) (ones T2) A2 m c2 (fun _ => True) (fun _ => False) hs hx HO HR (fun _ _ h => h) (fun _ h => h.elim) (fun _ _ => trivial) (Below.refl _ _) hbase (by rw [ones_length, hn]; exact hl) ?_
 intro v1 w1 hR hb hg _
 rw [← ones_app] at hR
 obtain ⟨A1, c1, rfl⟩ := Kd.R_slice hR
 have hm : T2.length = m := by have := HR.1; rw [ones_length] at this; exact this
 have e : (ones (T ++ T2)).length = n + m := by rw [ones_length, List.length_append, hn, hm]
 rw [e] at hR ⊢
 exact h A1 c1 w1 hR hg
end
theorem G_row {w : World} {B bo : Nat} {vs : List Value} {gs : List (List Nat)} (h : Sets.GRows w B bo vs gs) {j : Nat} (hj : j < gs.length) : w.ownsRow B 3 1 (va vs j) (gl (gs.map Sets.ints) j).length (encs (Value.int .i64) (gl (gs.map Sets.ints) j)) := by
 have e : gl (gs.map Sets.ints) j = Sets.ints (Sets.gl gs j) := by
   unfold gl Sets.gl
   simp [List.getD_eq_getElem?_getD, hj]
 have e2 : (Sets.ints (Sets.gl gs j)).length = (Sets.gl gs j).length := by unfold Sets.ints; simp
 rw [e, ← Sets.iv_encs, e2]
 exact h.own j hj
theorem G_heaps {w : World} {B bo : Nat} {vs : List Value} {gs : List (List Nat)} (h : Sets.GRows w B bo vs gs) : Heaps w B w.heap.size vs (gs.map Sets.ints) := by
 have hl := h.len
 refine ⟨by rw [List.length_map]; exact hl, ⟨fun j hj => ?_, fun i j k hi hj e1 e2 => ?_⟩⟩
 · have this : Kd.R (Kd.int .i64) 3 w B (fun _ => True) (va vs j) (gl (gs.map Sets.ints) j) := Kd.R_of_own (G_row h (j := j) (by omega)) (fun _ _ => trivial)
   exact (PRow.of_R (Kd.R_bound this)).mono (fun k hk => ⟨hk.2.1, hk.2.2.1⟩)
 · by_cases c : i = j
   · exact c
   · exact absurd e2 (h.apart i j (by omega) (by omega) c k e1)
theorem G_outer {w : World} {B bo : Nat} {vs : List Value} {gs : List (List Nat)} (h : Sets.GRows w B bo vs gs) : Outer w (some ⟨bo, 0, none⟩) vs := ⟨fun j hj => ⟨bo, rfl, Sets.GRows.cell h (by have := h.len; omega)⟩⟩
theorem G_below {w w' : World} {B bo : Nat} {vs : List Value} {gs : List (List Nat)} (h : Sets.GRows w B bo vs gs) (hb : Below w.heap.size w w') : Sets.GRows w' B bo vs gs := h.frame hb.size (fun k _ hk => hb.block k hk) (hb.block bo (lt_of h.out))
theorem G_frame {S : Nat → Prop} {w w' : World} {B bo : Nat} {vs : List Value} {gs : List (List Nat)} (h : Sets.GRows w B bo vs gs) (f : Mem.Frame S w w') (hs : ∀ k, S k → k < bo) : Sets.GRows w' B bo vs gs := h.frame f.size (fun k hB hk => f.block k hk (fun e => by have := hs k e; have := h.lt; omega)) (f.block bo (lt_of h.out) (fun e => by have := hs bo e; omega))
theorem inP_app {T T' : List Value} {k : Nat} (h : InP (T ++ T') k) : InP T k ∨ InP T' k := by
 obtain ⟨j, hj, e⟩ := h
 rw [List.length_append] at hj
 by_cases c : j < T.length
 · rw [va_app1 _ _ c] at e
   exact .inl ⟨j, c, e⟩
 · rw [va_app2 _ _ (by omega)] at e
   exact .inr ⟨j - T.length, by omega, e⟩
theorem edge_at {w : World} {A : Option Addr} {l : List Eg} {i : Nat} (h : Kd.C kE w A l.length l) (hi : i < l.length) : ∃ ad, A = some ad ∧ w.cell? (ad.add (i * 2)) = some (.int .i64 (rd_T33 l (i : Int)).f0) ∧ w.cell? ⟨(ad.add (i * 2)).block, (ad.add (i * 2)).off + 1, none⟩ = some (.int .i64 (rd_T33 l (i : Int)).f1) := by
 obtain ⟨ad, e, h1, h2⟩ := at_T33 h (i : Int) (by omega) (by omega)
 exact ⟨ad, e, h1, h2⟩
theorem same_lists (kk N : Nat) (A1 : Option Addr) (c1 : Nat) (A2 : Option Addr) (c2 : Nat) (gs : List (List Int)) (hN : gs.length = N) (w : World) (h1 : Kd.C KR w A1 gs.length gs) (hc1 : N ≤ c1) (h2 : Kd.C KR w A2 gs.length gs) (hc2 : N ≤ c2) (hk : tangramref01_SameLists.f kk gs gs = some true) :
   Calls Try.prog 22 #[.slice A1 N c1, .slice A2 N c2] w fun e w' => e = .returned (.bool true) ∧ Drawn0 w w' := by
 subst hN
 exact tangramref01_SameLists.calls kk A1 c1 gs A2 c2 gs true w h1 hc1 h2 hc2 hk
theorem G_reads {w : World} {B bo : Nat} {vs : List Value} {gs : List (List Nat)} (h : Sets.GRows w B bo vs gs) (hl : gs.length ≤ 9223372036854775807) : Kd.C KR w (some ⟨bo, 0, none⟩) (gs.map Sets.ints).length (gs.map Sets.ints) := by
 have := Sets.GRows.rows (base := 0) (ok := fun _ => True) h (by omega) hl (fun _ _ => trivial)
 exact (Kd.R_reads' this).2.2
theorem At_below {w w' : World} {p bP bS : Nat} {m : List Nat} (h : Sets.At w p bP bS m) (hb : Below w.heap.size w w') : Sets.At w' p bP bS m := by
 have hh := Sets.At.hi h
 exact Sets.At.frame (S := fun k => w.heap.size ≤ k) h ⟨hb.os, hb.tape, hb.output, hb.size, fun i hi _ => hb.block i hi⟩ (fun k hk e => by unfold Sets.Own at hk; omega)
theorem make_lists (m : Nat) (hm : m * 24 ≤ 281474976710656) : ∃ CZ : Array Value, CZ.size = m * 1 ∧ ∀ W : World, (Instr.makeSlice 51 (.int .i64 0) (.int .i64 (m : Int))).run Try.prog W = .ok (.slice (some ⟨W.heap.size, 0, none⟩) 0 m) (W.alloc (.cells CZ 34 (0, 0))) := by
 obtain ⟨i0, hi, hzz⟩ := Option.map_eq_some_iff.1 info_ints
 simp only [Prod.mk.injEq] at hzz
 obtain ⟨hz0, hz1, hz2⟩ := hzz
 refine ⟨madeCells (Value.slice none 0 0).cells (m * 1), size_zeros _ _, fun W => ?_⟩
 have h := run_make (P := Try.prog) W 51 34 i0 _ Try.underlying51 hi hz0 .i64 .i64 0 (m : Int) (Int.le_refl _) (by omega) (by rw [hz2]; omega) (by omega)
 rw [hz1, Int.toNat_natCast] at h
 exact h
set_option maxRecDepth 100000 in
theorem cut_edges (g n c a : Nat) (ha : a ≤ c) (W : World) : (Instr.slice 29 (.slice (some ⟨g, 0, none⟩) n c) none (some (.int .i64 (a : Int))) none).run Try.prog W = .ok (.slice (some ⟨g, 0, none⟩) a c) W := by
 rw [run_slice_h W 29 (some ⟨g, 0, none⟩) n c Try.underlying29 .i64 (a : Int) (by omega) (by omega), Int.toNat_natCast]
 have hs : ∀ W : World, (sizeOf (Try.prog.elem 29)).run Try.prog W = .ok 2 W := fun W => by kernel_rfl
 rw [hs]
 by_cases h : c = 0
 · subst h; rfl
 · show Result.ok (Value.slice (if c = 0 then some ⟨g, 0, none⟩ else (some (⟨g, 0, none⟩ : Addr)).map (·.add (0 * 2))) a c) W = _
   rw [if_neg h]; rfl
set_option maxHeartbeats 8000000 in
set_option maxRecDepth 100000 in
theorem mem_walk (k : Nat) (n : Int) (A : Option Addr) (c : Nat) (l : List Eg) (A1 : Option Addr) (c1 : Nat) (js : List (Int × Int)) (w : World) (hr : Kd.C kE w A l.length l) (hc : l.length ≤ c) (hj : Sets.Pairs w A1 js) (hjl : js.length ≤ 8796093021952) (hll : l.length ≤ 8796093021952)
   {os : List Int} {cn e : Int} (h1 : comps_Of.f k n l = some (os, cn, e)) (h2 : tangramref05_Of.f k n l = some (os, cn, e)) (h3 : tangramref01_SameInts.f k os os = some true) (hos : os.length ≤ 9000000)
   (h4 : ∀ gs : List (List Int), gs.length ≤ 3000 → (∀ x ∈ gs, x.length ≤ 3000) → ∃ kk, tangramref01_SameLists.f kk gs gs = some true) :
   Calls Try.prog 8 #[.agg #[.int .i64 n, .slice A l.length c], .slice A1 js.length c1] w fun e w' => e = .returned (.bool true) ∧ Below w.heap.size w w' := by
 have HX := Aside0.mk (heap_last w (.cells #[.int .i64 n, .slice A l.length c] 31 (0, 0)))
 have HB : Aside0 (Below w.heap.size w (w.alloc (.cells #[.int .i64 n, .slice A l.length c] 31 (0, 0)))) := ⟨(Below.refl _ _).alloc (Nat.le_refl _) _⟩
 have HRR := Aside0.mk hr
 have HRJ := Aside0.mk hj
 have HCC := Aside0.mk hc
 have H1 := Aside0.mk h1
 have H2 := Aside0.mk h2
 have H3 := Aside0.mk h3
 have H4 := Aside0.mk h4
 have HOS := Aside0.mk hos
 clear hr hj hc h1 h2 h3 h4 hos
 go_enter Try.func8, Try.ntmps8
 go_wp2_with fail
 obtain ⟨b, hb1⟩ : ∃ b, b = w.heap.size := ⟨_, rfl⟩
 rw [← hb1] at HX ⊢
 have HBL := Aside0.mk hb1
 clear hb1
 refine (tangramlaw05_fixed.calls true _ rfl).mono ?_
 rintro e1 w1 ⟨rfl, hb⟩
 have HB1 := Aside0.mk (HB.out.trans (hb.mono HB.out.size))
 have HX1 := Aside0.mk ((hb.block _ (lt_of HX.out)).trans HX.out)
 clear hb HB HX
 go_upto_region 3 with (fail)
 obtain ⟨M2, hM2⟩ : ∃ M2, M2 = l.length + 2 := ⟨_, rfl⟩
 have HM2 : Aside0 (M2 ≤ maxLen) := ⟨by unfold maxLen; omega⟩
 obtain ⟨CZ, hcz, mk1⟩ := make_cap M2 (by omega)
 have HCZ := Aside0.mk hcz
 have r1 : IntKind.i64.wrap ((l.length : Int) + 2) = (M2 : Int) := by rw [IntWalk.i64_in _ (by omega)]; omega
 have HL0 : Aside0 ((([] : List Eg).length + l.length) * 16 ≤ 140737488355328) := ⟨by simp; omega⟩
 have HL1 : Aside0 ((l.length + 1) * 16 ≤ 140737488355328) := ⟨by omega⟩
 have HG0 : Aside0 (Kd.C kE w1.drew A l.length l) := ⟨Kd.C_below HRR.out HB1.out.drew⟩
 have X0 : Aside0 (w1.drew.cell? ⟨b, 0, none⟩ = some (.int .i64 n)) := ⟨heap_cell HX1.out rfl⟩
 have X1 : Aside0 (w1.drew.cell? ⟨b, 1, none⟩ = some (.slice A l.length c)) := ⟨heap_cell HX1.out rfl⟩
 have HB0 : Aside0 (Below w.heap.size w w1.drew) := ⟨HB1.out.drew⟩
 have HX0 : Aside0 (w1.drew.heap[b]? = some (.cells #[.int .i64 n, .slice A l.length c] 31 (0, 0))) := ⟨HX1.out⟩
 have HM2Q := Aside0.mk hM2
 clear hcz hM2 HB1 HX1
 have Y0 := X0
 have Y1 := X1
 obtain ⟨w0, hw0⟩ : ∃ w0, w0 = w1.drew := ⟨_, rfl⟩
 rw [← hw0] at HG0 X0 X1 HB0 HX0
 have HW0 := Aside0.mk hw0
 clear hw0
 have HLN : Aside0 ((l ++ [(⟨77, 78⟩ : Eg)]).length = l.length + 1) := ⟨by simp⟩
 have HJ0 : Aside0 (J w0 w0 none none none) := ⟨J.start w0⟩
 refine start_ (n := 16) (S := fun w' => w'.cell? ⟨b, 0, none⟩ = some (.int .i64 n) ∧ w'.cell? ⟨b, 1, none⟩ = some (.slice A l.length c)) (ds := [15]) #[false, false, false, false, false, false, false, false, false, false, false, false, false, false, false, false] (by kernel_rfl) rfl rfl ⟨Y0.out, Y1.out⟩ (fun hHeld => ?_)
 refine pure_ (i := 0) (N := some 28) (v := ?_) (a' := ?_) #[true, false, false, false, false, false, false, false, false, false, false, false, false, false, false, false] rfl rfl (by kernel_rfl) (fun _ _ _ h => h) (Or.inl ⟨by rfl, ?_⟩) ?_ ?_
 rotate_left
 · intro w'
   go_simp
   with_reducible rfl
 rotate_left
 · simp only [Act.put, List.setIfInBounds_toArray, List.set_cons_zero, List.set_cons_succ, i64_w, i32_w]
   rfl
 refine pure_ (i := 2) (N := some 30) (v := ?_) (a' := ?_) #[true, false, true, false, false, false, false, false, false, false, false, false, false, false, false, false] rfl rfl (by kernel_rfl) (fun _ _ _ h => h) (Or.inl ⟨by rfl, ?_⟩) ?_ ?_
 rotate_left
 · intro w'
   go_simp
   with_reducible rfl
 rotate_left
 · simp only [Act.put, List.setIfInBounds_toArray, List.set_cons_zero, List.set_cons_succ, i64_w, i32_w]
   rfl
 refine pure_ (i := 7) (N := some 35) (v := ?_) (a' := ?_) #[true, false, true, false, false, false, false, true, false, false, false, false, false, false, false, false] rfl rfl (by kernel_rfl) (fun _ _ _ h => h) (Or.inl ⟨by rfl, ?_⟩) ?_ ?_
 rotate_left
 · intro w'
   go_simp
   with_reducible rfl
 rotate_left
 · simp only [Act.put, List.setIfInBounds_toArray, List.set_cons_zero, List.set_cons_succ, i64_w, i32_w]
   rfl
 refine pure_ (i := 10) (N := some 38) (v := ?_) (a' := ?_) #[true, false, true, false, false, false, false, true, false, false, true, false, false, false, false, false] rfl rfl (by kernel_rfl) (fun _ _ _ h => h) (Or.inl ⟨by rfl, ?_⟩) ?_ ?_
 rotate_left
 · intro w'
   go_simp
   with_reducible rfl
 rotate_left
 · simp only [Act.put, List.setIfInBounds_toArray, List.set_cons_zero, List.set_cons_succ, i64_w, i32_w]
   rfl
 refine take_ (i := 1) (N := some 29) (v := ?_) (a' := ?_) #[true, true, true, false, false, false, false, true, false, false, true, false, false, false, false, false] rfl rfl (by kernel_rfl) (fun _ _ _ h => h) (Or.inl ⟨by rfl, ?_⟩) hHeld ?_ ?_
 rotate_left
 · rintro w' ⟨s0, s1⟩
   go_simp
   with_reducible rfl
 rotate_left
 · simp only [Act.put, List.setIfInBounds_toArray, List.set_cons_zero, List.set_cons_succ, i64_w, i32_w]
   rfl
 refine take_ (i := 3) (N := some 31) (v := ?_) (a' := ?_) #[true, true, true, true, false, false, false, true, false, false, true, false, false, false, false, false] rfl rfl (by kernel_rfl) (fun _ _ _ h => h) (Or.inl ⟨by rfl, ?_⟩) hHeld ?_ ?_
 rotate_left
 · rintro w' ⟨s0, s1⟩
   go_simp
   with_reducible rfl
 rotate_left
 · simp only [Act.put, List.setIfInBounds_toArray, List.set_cons_zero, List.set_cons_succ, i64_w, i32_w]
   rfl
 refine pure_ (i := 4) (N := some 32) (v := ?_) (a' := ?_) #[true, true, true, true, true, false, false, true, false, false, true, false, false, false, false, false] rfl rfl (by kernel_rfl) (fun _ _ _ h => h) (Or.inl ⟨by rfl, ?_⟩) ?_ ?_
 rotate_left
 · intro w'
   go_simp
   with_reducible rfl
 rotate_left
 · simp only [Act.put, List.setIfInBounds_toArray, List.set_cons_zero, List.set_cons_succ, i64_w, i32_w]
   rfl
 refine pure_ (i := 5) (N := some 33) (v := ?_) (a' := ?_) #[true, true, true, true, true, true, false, true, false, false, true, false, false, false, false, false] rfl rfl (by kernel_rfl) (fun _ _ _ h => h) (Or.inl ⟨by rfl, ?_⟩) ?_ ?_
 rotate_left
 · intro w'
   go_simp
   with_reducible rfl
 rotate_left
 · simp only [Act.put, List.setIfInBounds_toArray, List.set_cons_zero, List.set_cons_succ, i64_w, i32_w]
   rfl
 refine take_ (i := 8) (N := some 36) (v := ?_) (a' := ?_) #[true, true, true, true, true, true, false, true, true, false, true, false, false, false, false, false] rfl rfl (by kernel_rfl) (fun _ _ _ h => h) (Or.inl ⟨by rfl, ?_⟩) hHeld ?_ ?_
 rotate_left
 · rintro w' ⟨s0, s1⟩
   go_simp
   with_reducible rfl
 rotate_left
 · simp only [Act.put, List.setIfInBounds_toArray, List.set_cons_zero, List.set_cons_succ, i64_w, i32_w]
   rfl
 refine join_ (σ := Value × Value × Nat × (Option Addr × Nat) × Nat) 1 #[true, true, true, true, true, true, true, true, true, true, true, true, true, true, true, false] (fun s => [(34, s.1), (37, s.2.1), (39, .slice (some ⟨s.2.2.1, 0, none⟩) 1 1), (40, .slice s.2.2.2.1.1 (l.length + 1) s.2.2.2.1.2), (41, .agg #[.int .i64 n, .slice s.2.2.2.1.1 (l.length + 1) s.2.2.2.1.2]), (5, .pointer (some ⟨s.2.2.2.2, 0, none⟩))]) (fun s w' => J w0 w' (some (.slice s.2.2.2.1.1 (l.length + 1) s.2.2.2.1.2, l ++ [⟨77, 78⟩])) (some (s.2.2.1, 77, 78)) (some s.2.2.2.2)) ?_ ?_
 rotate_left
 · intro hCont
   refine three_ (i := 6) (j := 11) (k := 14) (Ni := some 34) (Nj := some 39) (Nk := some 5) #[true, true, true, true, true, true, true, true, true, false, true, false, false, false, false, false] #[true, true, true, true, true, true, false, true, true, false, true, true, false, false, false, false] #[true, true, true, true, true, true, false, true, true, false, true, false, false, false, true, false] rfl rfl rfl rfl rfl rfl (by kernel_rfl) (by decide) (by decide) (by decide) (fun K hK => ?_) (fun K hK => ?_) (fun K hK => ?_)
   · skip
     refine value_ (w1 := ?_) (v := ?_) (by rfl) rfl ?_ ?_
     rotate_left 2
     · go_simp
       constructor
       · rfl
       · rfl
     obtain ⟨w6, hw6⟩ : ∃ w6, w6 = (w1.alloc (.cells CZ 33 (0, 0))).drew := ⟨_, rfl⟩
     obtain ⟨v6, hv6⟩ : ∃ v6, v6 = Value.slice (some ⟨w1.heap.size, 0, none⟩) 0 M2 := ⟨_, rfl⟩
     have HJ6 : Aside0 (J w0 w6 (some (v6, [])) none none) := ⟨by rw [hw6, hv6]; have h := HJ0.out.made CZ M2 HM2.out HCZ.out; first | exact h | (rw [HW0.out] at h ⊢; exact h)⟩
     rw [← hw6, ← hv6]
     clear hw6 hv6
     refine hK.out _ _ ⟨HJ6.out.cell X0.out, HJ6.out.cell X1.out⟩ (fun hHeld => ?_)
     clear hK K
     refine norm_ (a' := ?_) ?_ ?_
     rotate_left
     · show Act.put _ (some 34) _ = _
       simp only [Act.put, List.setIfInBounds_toArray, List.set_cons_zero, List.set_cons_succ, i64_w, i32_w]
       rfl
     refine three_ (i := 9) (j := 11) (k := 14) (Ni := some 37) (Nj := some 39) (Nk := some 5) #[true, true, true, true, true, true, true, true, true, true, true, false, false, false, false, false] #[true, true, true, true, true, true, true, true, true, false, true, true, false, false, false, false] #[true, true, true, true, true, true, true, true, true, false, true, false, false, false, true, false] rfl rfl rfl rfl rfl rfl (by kernel_rfl) (by decide) (by decide) (by decide) (fun K hK => ?_) (fun K hK => ?_) (fun K hK => ?_)
     · skip
       refine J.rows_step (w0 := w0) (W := w6) (by rfl) (.tmp 34) (.tmp 36) 29 rfl Try.underlying29 info_edge v6 [] l A l.length c rfl rfl HJ6.out (Kd.C_below HG0.out HJ6.out.old) HL0.out ?_
       intro v9 w9 hJ9
       have HJ9 : Aside0 (J w0 w9 (some (v9, l)) none none) := ⟨hJ9⟩
       clear hJ9
       refine hK.out _ _ ⟨HJ9.out.cell X0.out, HJ9.out.cell X1.out⟩ (fun hHeld => ?_)
       clear hK K
       refine norm_ (a' := ?_) ?_ ?_
       rotate_left
       · show Act.put _ (some 37) _ = _
         simp only [Act.put, List.setIfInBounds_toArray, List.set_cons_zero, List.set_cons_succ, i64_w, i32_w]
         rfl
       refine two_ (i := 11) (j := 14) (Ni := some 39) (Nj := some 5) #[true, true, true, true, true, true, true, true, true, true, true, true, false, false, false, false] #[true, true, true, true, true, true, true, true, true, true, true, false, false, false, true, false] rfl rfl rfl rfl (by kernel_rfl) (by decide) (by decide) (fun K hK => ?_) (fun K hK => ?_)
       · skip
         refine value_ (w1 := ?_) (v := ?_) (by rfl) rfl ?_ ?_
         rotate_left 2
         · go_simp
           constructor
           · rfl
           · rfl
         obtain ⟨w11, hw11⟩ : ∃ w11, w11 = w9.alloc (.cells #[.int .i64 77, .int .i64 78] 33 (0, 0)) := ⟨_, rfl⟩
         obtain ⟨b11, hb11⟩ : ∃ b11, b11 = w9.heap.size := ⟨_, rfl⟩
         have HJ11 : Aside0 (J w0 w11 (some (v9, l)) (some (b11, 77, 78)) none) := ⟨by rw [hw11, hb11]; have h := HJ9.out.boxed 77 78; first | exact h | (rw [HW0.out] at h ⊢; exact h)⟩
         rw [← hw11, ← hb11]
         clear hw11 hb11
         refine hK.out _ _ ⟨HJ11.out.cell X0.out, HJ11.out.cell X1.out⟩ (fun hHeld => ?_)
         clear hK K
         refine norm_ (a' := ?_) ?_ ?_
         rotate_left
         · show Act.put _ (some 39) _ = _
           simp only [Act.put, List.setIfInBounds_toArray, List.set_cons_zero, List.set_cons_succ, i64_w, i32_w]
           rfl
         refine two_ (i := 12) (j := 14) (Ni := some 40) (Nj := some 5) #[true, true, true, true, true, true, true, true, true, true, true, true, true, false, false, false] #[true, true, true, true, true, true, true, true, true, true, true, true, false, false, true, false] rfl rfl rfl rfl (by kernel_rfl) (by decide) (by decide) (fun K hK => ?_) (fun K hK => ?_)
         · skip
           refine J.rows_step (w0 := w0) (W := w11) (by rfl) (.tmp 37) (.tmp 39) 29 rfl Try.underlying29 info_edge v9 l [⟨77, 78⟩] (some ⟨b11, 0, none⟩) 1 1 rfl rfl HJ11.out (one_edge (HJ11.out.box _ _ _ rfl)) HL1.out ?_
           intro v12 w12 hJ12
           obtain ⟨A12, c12, rfl⟩ := Kd.R_slice (hJ12.row _ _ rfl)
           rw [HLN.out] at hJ12 ⊢
           have HJ12 : Aside0 (J w0 w12 (some (.slice A12 (l.length + 1) c12, l ++ [⟨77, 78⟩])) (some (b11, 77, 78)) none) := ⟨hJ12⟩
           clear hJ12
           refine hK.out _ _ ⟨HJ12.out.cell X0.out, HJ12.out.cell X1.out⟩ (fun hHeld => ?_)
           clear hK K
           refine norm_ (a' := ?_) ?_ ?_
           rotate_left
           · show Act.put _ (some 40) _ = _
             simp only [Act.put, List.setIfInBounds_toArray, List.set_cons_zero, List.set_cons_succ, i64_w, i32_w]
             rfl
           refine pure_ (i := 13) (N := some 41) (v := ?_) (a' := ?_) #[true, true, true, true, true, true, true, true, true, true, true, true, true, true, false, false] rfl rfl (by kernel_rfl) (fun _ _ _ h => h) (Or.inl ⟨by rfl, ?_⟩) ?_ ?_
           rotate_left
           · intro w'
             go_simp
             with_reducible rfl
           rotate_left
           · simp only [Act.put, List.setIfInBounds_toArray, List.set_cons_zero, List.set_cons_succ, i64_w, i32_w]
             rfl
           refine one_ (i := 14) (N := some 5) #[true, true, true, true, true, true, true, true, true, true, true, true, true, true, true, false] rfl rfl (by kernel_rfl) (by decide) (fun K hK => ?_)
           refine value_ (w1 := ?_) (v := ?_) (by rfl) rfl ?_ ?_
           rotate_left 2
           · go_simp
             constructor
             · rfl
             · rfl
           obtain ⟨w14, hw14⟩ : ∃ w14, w14 = w12.alloc (.cells #[.int .i64 0, .slice none 0 0] 31 (0, 0)) := ⟨_, rfl⟩
           obtain ⟨b14, hb14⟩ : ∃ b14, b14 = w12.heap.size := ⟨_, rfl⟩
           have HJ14 : Aside0 (J w0 w14 (some (.slice A12 (l.length + 1) c12, l ++ [⟨77, 78⟩])) (some (b11, 77, 78)) (some b14)) := ⟨by rw [hw14, hb14]; have h := HJ12.out.graphed; first | exact h | (rw [HW0.out] at h ⊢; exact h)⟩
           rw [← hw14, ← hb14]
           clear hw14 hb14
           refine hK.out _ _ ⟨HJ14.out.cell X0.out, HJ14.out.cell X1.out⟩ (fun hHeld => ?_)
           clear hK K
           refine norm_ (a' := ?_) ?_ ?_
           rotate_left
           · show Act.put _ (some 5) _ = _
             simp only [Act.put, List.setIfInBounds_toArray, List.set_cons_zero, List.set_cons_succ, i64_w, i32_w]
             rfl
           exact norm_ (by simp only [putAll, Act.put, List.setIfInBounds_toArray, List.set_cons_zero, List.set_cons_succ]) (hCont (v6, v9, b11, (A12, c12), b14) _ HJ14.out)
         · skip
           refine value_ (w1 := ?_) (v := ?_) (by rfl) rfl ?_ ?_
           rotate_left 2
           · go_simp
             constructor
             · rfl
             · rfl
           obtain ⟨w14, hw14⟩ : ∃ w14, w14 = w11.alloc (.cells #[.int .i64 0, .slice none 0 0] 31 (0, 0)) := ⟨_, rfl⟩
           obtain ⟨b14, hb14⟩ : ∃ b14, b14 = w11.heap.size := ⟨_, rfl⟩
           have HJ14 : Aside0 (J w0 w14 (some (v9, l)) (some (b11, 77, 78)) (some b14)) := ⟨by rw [hw14, hb14]; have h := HJ11.out.graphed; first | exact h | (rw [HW0.out] at h ⊢; exact h)⟩
           rw [← hw14, ← hb14]
           clear hw14 hb14
           refine hK.out _ _ ⟨HJ14.out.cell X0.out, HJ14.out.cell X1.out⟩ (fun hHeld => ?_)
           clear hK K
           refine norm_ (a' := ?_) ?_ ?_
           rotate_left
           · show Act.put _ (some 5) _ = _
             simp only [Act.put, List.setIfInBounds_toArray, List.set_cons_zero, List.set_cons_succ, i64_w, i32_w]
             rfl
           refine one_ (i := 12) (N := some 40) #[true, true, true, true, true, true, true, true, true, true, true, true, true, false, true, false] rfl rfl (by kernel_rfl) (by decide) (fun K hK => ?_)
           refine J.rows_step (w0 := w0) (W := w14) (by rfl) (.tmp 37) (.tmp 39) 29 rfl Try.underlying29 info_edge v9 l [⟨77, 78⟩] (some ⟨b11, 0, none⟩) 1 1 rfl rfl HJ14.out (one_edge (HJ14.out.box _ _ _ rfl)) HL1.out ?_
           intro v12 w12 hJ12
           obtain ⟨A12, c12, rfl⟩ := Kd.R_slice (hJ12.row _ _ rfl)
           rw [HLN.out] at hJ12 ⊢
           have HJ12 : Aside0 (J w0 w12 (some (.slice A12 (l.length + 1) c12, l ++ [⟨77, 78⟩])) (some (b11, 77, 78)) (some b14)) := ⟨hJ12⟩
           clear hJ12
           refine hK.out _ _ ⟨HJ12.out.cell X0.out, HJ12.out.cell X1.out⟩ (fun hHeld => ?_)
           clear hK K
           refine norm_ (a' := ?_) ?_ ?_
           rotate_left
           · show Act.put _ (some 40) _ = _
             simp only [Act.put, List.setIfInBounds_toArray, List.set_cons_zero, List.set_cons_succ, i64_w, i32_w]
             rfl
           refine pure_ (i := 13) (N := some 41) (v := ?_) (a' := ?_) #[true, true, true, true, true, true, true, true, true, true, true, true, true, true, true, false] rfl rfl (by kernel_rfl) (fun _ _ _ h => h) (Or.inl ⟨by rfl, ?_⟩) ?_ ?_
           rotate_left
           · intro w'
             go_simp
             with_reducible rfl
           rotate_left
           · simp only [Act.put, List.setIfInBounds_toArray, List.set_cons_zero, List.set_cons_succ, i64_w, i32_w]
             rfl
           exact norm_ (by simp only [putAll, Act.put, List.setIfInBounds_toArray, List.set_cons_zero, List.set_cons_succ]) (hCont (v6, v9, b11, (A12, c12), b14) _ HJ12.out)
       · skip
         refine value_ (w1 := ?_) (v := ?_) (by rfl) rfl ?_ ?_
         rotate_left 2
         · go_simp
           constructor
           · rfl
           · rfl
         obtain ⟨w14, hw14⟩ : ∃ w14, w14 = w9.alloc (.cells #[.int .i64 0, .slice none 0 0] 31 (0, 0)) := ⟨_, rfl⟩
         obtain ⟨b14, hb14⟩ : ∃ b14, b14 = w9.heap.size := ⟨_, rfl⟩
         have HJ14 : Aside0 (J w0 w14 (some (v9, l)) none (some b14)) := ⟨by rw [hw14, hb14]; have h := HJ9.out.graphed; first | exact h | (rw [HW0.out] at h ⊢; exact h)⟩
         rw [← hw14, ← hb14]
         clear hw14 hb14
         refine hK.out _ _ ⟨HJ14.out.cell X0.out, HJ14.out.cell X1.out⟩ (fun hHeld => ?_)
         clear hK K
         refine norm_ (a' := ?_) ?_ ?_
         rotate_left
         · show Act.put _ (some 5) _ = _
           simp only [Act.put, List.setIfInBounds_toArray, List.set_cons_zero, List.set_cons_succ, i64_w, i32_w]
           rfl
         refine one_ (i := 11) (N := some 39) #[true, true, true, true, true, true, true, true, true, true, true, true, false, false, true, false] rfl rfl (by kernel_rfl) (by decide) (fun K hK => ?_)
         refine value_ (w1 := ?_) (v := ?_) (by rfl) rfl ?_ ?_
         rotate_left 2
         · go_simp
           constructor
           · rfl
           · rfl
         obtain ⟨w11, hw11⟩ : ∃ w11, w11 = w14.alloc (.cells #[.int .i64 77, .int .i64 78] 33 (0, 0)) := ⟨_, rfl⟩
         obtain ⟨b11, hb11⟩ : ∃ b11, b11 = w14.heap.size := ⟨_, rfl⟩
         have HJ11 : Aside0 (J w0 w11 (some (v9, l)) (some (b11, 77, 78)) (some b14)) := ⟨by rw [hw11, hb11]; have h := HJ14.out.boxed 77 78; first | exact h | (rw [HW0.out] at h ⊢; exact h)⟩
         rw [← hw11, ← hb11]
         clear hw11 hb11
         refine hK.out _ _ ⟨HJ11.out.cell X0.out, HJ11.out.cell X1.out⟩ (fun hHeld => ?_)
         clear hK K
         refine norm_ (a' := ?_) ?_ ?_
         rotate_left
         · show Act.put _ (some 39) _ = _
           simp only [Act.put, List.setIfInBounds_toArray, List.set_cons_zero, List.set_cons_succ, i64_w, i32_w]
           rfl
         refine one_ (i := 12) (N := some 40) #[true, true, true, true, true, true, true, true, true, true, true, true, true, false, true, false] rfl rfl (by kernel_rfl) (by decide) (fun K hK => ?_)
         refine J.rows_step (w0 := w0) (W := w11) (by rfl) (.tmp 37) (.tmp 39) 29 rfl Try.underlying29 info_edge v9 l [⟨77, 78⟩] (some ⟨b11, 0, none⟩) 1 1 rfl rfl HJ11.out (one_edge (HJ11.out.box _ _ _ rfl)) HL1.out ?_
         intro v12 w12 hJ12
         obtain ⟨A12, c12, rfl⟩ := Kd.R_slice (hJ12.row _ _ rfl)
         rw [HLN.out] at hJ12 ⊢
         have HJ12 : Aside0 (J w0 w12 (some (.slice A12 (l.length + 1) c12, l ++ [⟨77, 78⟩])) (some (b11, 77, 78)) (some b14)) := ⟨hJ12⟩
         clear hJ12
         refine hK.out _ _ ⟨HJ12.out.cell X0.out, HJ12.out.cell X1.out⟩ (fun hHeld => ?_)
         clear hK K
         refine norm_ (a' := ?_) ?_ ?_
         rotate_left
         · show Act.put _ (some 40) _ = _
           simp only [Act.put, List.setIfInBounds_toArray, List.set_cons_zero, List.set_cons_succ, i64_w, i32_w]
           rfl
         refine pure_ (i := 13) (N := some 41) (v := ?_) (a' := ?_) #[true, true, true, true, true, true, true, true, true, true, true, true, true, true, true, false] rfl rfl (by kernel_rfl) (fun _ _ _ h => h) (Or.inl ⟨by rfl, ?_⟩) ?_ ?_
         rotate_left
         · intro w'
           go_simp
           with_reducible rfl
         rotate_left
         · simp only [Act.put, List.setIfInBounds_toArray, List.set_cons_zero, List.set_cons_succ, i64_w, i32_w]
           rfl
         exact norm_ (by simp only [putAll, Act.put, List.setIfInBounds_toArray, List.set_cons_zero, List.set_cons_succ]) (hCont (v6, v9, b11, (A12, c12), b14) _ HJ12.out)
     · skip
       refine value_ (w1 := ?_) (v := ?_) (by rfl) rfl ?_ ?_
       rotate_left 2
       · go_simp
         constructor
         · rfl
         · rfl
       obtain ⟨w11, hw11⟩ : ∃ w11, w11 = w6.alloc (.cells #[.int .i64 77, .int .i64 78] 33 (0, 0)) := ⟨_, rfl⟩
       obtain ⟨b11, hb11⟩ : ∃ b11, b11 = w6.heap.size := ⟨_, rfl⟩
       have HJ11 : Aside0 (J w0 w11 (some (v6, [])) (some (b11, 77, 78)) none) := ⟨by rw [hw11, hb11]; have h := HJ6.out.boxed 77 78; first | exact h | (rw [HW0.out] at h ⊢; exact h)⟩
       rw [← hw11, ← hb11]
       clear hw11 hb11
       refine hK.out _ _ ⟨HJ11.out.cell X0.out, HJ11.out.cell X1.out⟩ (fun hHeld => ?_)
       clear hK K
       refine norm_ (a' := ?_) ?_ ?_
       rotate_left
       · show Act.put _ (some 39) _ = _
         simp only [Act.put, List.setIfInBounds_toArray, List.set_cons_zero, List.set_cons_succ, i64_w, i32_w]
         rfl
       refine two_ (i := 9) (j := 14) (Ni := some 37) (Nj := some 5) #[true, true, true, true, true, true, true, true, true, true, true, true, false, false, false, false] #[true, true, true, true, true, true, true, true, true, false, true, true, false, false, true, false] rfl rfl rfl rfl (by kernel_rfl) (by decide) (by decide) (fun K hK => ?_) (fun K hK => ?_)
       · skip
         refine J.rows_step (w0 := w0) (W := w11) (by rfl) (.tmp 34) (.tmp 36) 29 rfl Try.underlying29 info_edge v6 [] l A l.length c rfl rfl HJ11.out (Kd.C_below HG0.out HJ11.out.old) HL0.out ?_
         intro v9 w9 hJ9
         have HJ9 : Aside0 (J w0 w9 (some (v9, l)) (some (b11, 77, 78)) none) := ⟨hJ9⟩
         clear hJ9
         refine hK.out _ _ ⟨HJ9.out.cell X0.out, HJ9.out.cell X1.out⟩ (fun hHeld => ?_)
         clear hK K
         refine norm_ (a' := ?_) ?_ ?_
         rotate_left
         · show Act.put _ (some 37) _ = _
           simp only [Act.put, List.setIfInBounds_toArray, List.set_cons_zero, List.set_cons_succ, i64_w, i32_w]
           rfl
         refine two_ (i := 12) (j := 14) (Ni := some 40) (Nj := some 5) #[true, true, true, true, true, true, true, true, true, true, true, true, true, false, false, false] #[true, true, true, true, true, true, true, true, true, true, true, true, false, false, true, false] rfl rfl rfl rfl (by kernel_rfl) (by decide) (by decide) (fun K hK => ?_) (fun K hK => ?_)
         · skip
           refine J.rows_step (w0 := w0) (W := w9) (by rfl) (.tmp 37) (.tmp 39) 29 rfl Try.underlying29 info_edge v9 l [⟨77, 78⟩] (some ⟨b11, 0, none⟩) 1 1 rfl rfl HJ9.out (one_edge (HJ9.out.box _ _ _ rfl)) HL1.out ?_
           intro v12 w12 hJ12
           obtain ⟨A12, c12, rfl⟩ := Kd.R_slice (hJ12.row _ _ rfl)
           rw [HLN.out] at hJ12 ⊢
           have HJ12 : Aside0 (J w0 w12 (some (.slice A12 (l.length + 1) c12, l ++ [⟨77, 78⟩])) (some (b11, 77, 78)) none) := ⟨hJ12⟩
           clear hJ12
           refine hK.out _ _ ⟨HJ12.out.cell X0.out, HJ12.out.cell X1.out⟩ (fun hHeld => ?_)
           clear hK K
           refine norm_ (a' := ?_) ?_ ?_
           rotate_left
           · show Act.put _ (some 40) _ = _
             simp only [Act.put, List.setIfInBounds_toArray, List.set_cons_zero, List.set_cons_succ, i64_w, i32_w]
             rfl
           refine pure_ (i := 13) (N := some 41) (v := ?_) (a' := ?_) #[true, true, true, true, true, true, true, true, true, true, true, true, true, true, false, false] rfl rfl (by kernel_rfl) (fun _ _ _ h => h) (Or.inl ⟨by rfl, ?_⟩) ?_ ?_
           rotate_left
           · intro w'
             go_simp
             with_reducible rfl
           rotate_left
           · simp only [Act.put, List.setIfInBounds_toArray, List.set_cons_zero, List.set_cons_succ, i64_w, i32_w]
             rfl
           refine one_ (i := 14) (N := some 5) #[true, true, true, true, true, true, true, true, true, true, true, true, true, true, true, false] rfl rfl (by kernel_rfl) (by decide) (fun K hK => ?_)
           refine value_ (w1 := ?_) (v := ?_) (by rfl) rfl ?_ ?_
           rotate_left 2
           · go_simp
             constructor
             · rfl
             · rfl
           obtain ⟨w14, hw14⟩ : ∃ w14, w14 = w12.alloc (.cells #[.int .i64 0, .slice none 0 0] 31 (0, 0)) := ⟨_, rfl⟩
           obtain ⟨b14, hb14⟩ : ∃ b14, b14 = w12.heap.size := ⟨_, rfl⟩
           have HJ14 : Aside0 (J w0 w14 (some (.slice A12 (l.length + 1) c12, l ++ [⟨77, 78⟩])) (some (b11, 77, 78)) (some b14)) := ⟨by rw [hw14, hb14]; have h := HJ12.out.graphed; first | exact h | (rw [HW0.out] at h ⊢; exact h)⟩
           rw [← hw14, ← hb14]
           clear hw14 hb14
           refine hK.out _ _ ⟨HJ14.out.cell X0.out, HJ14.out.cell X1.out⟩ (fun hHeld => ?_)
           clear hK K
           refine norm_ (a' := ?_) ?_ ?_
           rotate_left
           · show Act.put _ (some 5) _ = _
             simp only [Act.put, List.setIfInBounds_toArray, List.set_cons_zero, List.set_cons_succ, i64_w, i32_w]
             rfl
           exact norm_ (by simp only [putAll, Act.put, List.setIfInBounds_toArray, List.set_cons_zero, List.set_cons_succ]) (hCont (v6, v9, b11, (A12, c12), b14) _ HJ14.out)
         · skip
           refine value_ (w1 := ?_) (v := ?_) (by rfl) rfl ?_ ?_
           rotate_left 2
           · go_simp
             constructor
             · rfl
             · rfl
           obtain ⟨w14, hw14⟩ : ∃ w14, w14 = w9.alloc (.cells #[.int .i64 0, .slice none 0 0] 31 (0, 0)) := ⟨_, rfl⟩
           obtain ⟨b14, hb14⟩ : ∃ b14, b14 = w9.heap.size := ⟨_, rfl⟩
           have HJ14 : Aside0 (J w0 w14 (some (v9, l)) (some (b11, 77, 78)) (some b14)) := ⟨by rw [hw14, hb14]; have h := HJ9.out.graphed; first | exact h | (rw [HW0.out] at h ⊢; exact h)⟩
           rw [← hw14, ← hb14]
           clear hw14 hb14
           refine hK.out _ _ ⟨HJ14.out.cell X0.out, HJ14.out.cell X1.out⟩ (fun hHeld => ?_)
           clear hK K
           refine norm_ (a' := ?_) ?_ ?_
           rotate_left
           · show Act.put _ (some 5) _ = _
             simp only [Act.put, List.setIfInBounds_toArray, List.set_cons_zero, List.set_cons_succ, i64_w, i32_w]
             rfl
           refine one_ (i := 12) (N := some 40) #[true, true, true, true, true, true, true, true, true, true, true, true, true, false, true, false] rfl rfl (by kernel_rfl) (by decide) (fun K hK => ?_)
           refine J.rows_step (w0 := w0) (W := w14) (by rfl) (.tmp 37) (.tmp 39) 29 rfl Try.underlying29 info_edge v9 l [⟨77, 78⟩] (some ⟨b11, 0, none⟩) 1 1 rfl rfl HJ14.out (one_edge (HJ14.out.box _ _ _ rfl)) HL1.out ?_
           intro v12 w12 hJ12
           obtain ⟨A12, c12, rfl⟩ := Kd.R_slice (hJ12.row _ _ rfl)
           rw [HLN.out] at hJ12 ⊢
           have HJ12 : Aside0 (J w0 w12 (some (.slice A12 (l.length + 1) c12, l ++ [⟨77, 78⟩])) (some (b11, 77, 78)) (some b14)) := ⟨hJ12⟩
           clear hJ12
           refine hK.out _ _ ⟨HJ12.out.cell X0.out, HJ12.out.cell X1.out⟩ (fun hHeld => ?_)
           clear hK K
           refine norm_ (a' := ?_) ?_ ?_
           rotate_left
           · show Act.put _ (some 40) _ = _
             simp only [Act.put, List.setIfInBounds_toArray, List.set_cons_zero, List.set_cons_succ, i64_w, i32_w]
             rfl
           refine pure_ (i := 13) (N := some 41) (v := ?_) (a' := ?_) #[true, true, true, true, true, true, true, true, true, true, true, true, true, true, true, false] rfl rfl (by kernel_rfl) (fun _ _ _ h => h) (Or.inl ⟨by rfl, ?_⟩) ?_ ?_
           rotate_left
           · intro w'
             go_simp
             with_reducible rfl
           rotate_left
           · simp only [Act.put, List.setIfInBounds_toArray, List.set_cons_zero, List.set_cons_succ, i64_w, i32_w]
             rfl
           exact norm_ (by simp only [putAll, Act.put, List.setIfInBounds_toArray, List.set_cons_zero, List.set_cons_succ]) (hCont (v6, v9, b11, (A12, c12), b14) _ HJ12.out)
       · skip
         refine value_ (w1 := ?_) (v := ?_) (by rfl) rfl ?_ ?_
         rotate_left 2
         · go_simp
           constructor
           · rfl
           · rfl
         obtain ⟨w14, hw14⟩ : ∃ w14, w14 = w11.alloc (.cells #[.int .i64 0, .slice none 0 0] 31 (0, 0)) := ⟨_, rfl⟩
         obtain ⟨b14, hb14⟩ : ∃ b14, b14 = w11.heap.size := ⟨_, rfl⟩
         have HJ14 : Aside0 (J w0 w14 (some (v6, [])) (some (b11, 77, 78)) (some b14)) := ⟨by rw [hw14, hb14]; have h := HJ11.out.graphed; first | exact h | (rw [HW0.out] at h ⊢; exact h)⟩
         rw [← hw14, ← hb14]
         clear hw14 hb14
         refine hK.out _ _ ⟨HJ14.out.cell X0.out, HJ14.out.cell X1.out⟩ (fun hHeld => ?_)
         clear hK K
         refine norm_ (a' := ?_) ?_ ?_
         rotate_left
         · show Act.put _ (some 5) _ = _
           simp only [Act.put, List.setIfInBounds_toArray, List.set_cons_zero, List.set_cons_succ, i64_w, i32_w]
           rfl
         refine one_ (i := 9) (N := some 37) #[true, true, true, true, true, true, true, true, true, true, true, true, false, false, true, false] rfl rfl (by kernel_rfl) (by decide) (fun K hK => ?_)
         refine J.rows_step (w0 := w0) (W := w14) (by rfl) (.tmp 34) (.tmp 36) 29 rfl Try.underlying29 info_edge v6 [] l A l.length c rfl rfl HJ14.out (Kd.C_below HG0.out HJ14.out.old) HL0.out ?_
         intro v9 w9 hJ9
         have HJ9 : Aside0 (J w0 w9 (some (v9, l)) (some (b11, 77, 78)) (some b14)) := ⟨hJ9⟩
         clear hJ9
         refine hK.out _ _ ⟨HJ9.out.cell X0.out, HJ9.out.cell X1.out⟩ (fun hHeld => ?_)
         clear hK K
         refine norm_ (a' := ?_) ?_ ?_
         rotate_left
         · show Act.put _ (some 37) _ = _
           simp only [Act.put, List.setIfInBounds_toArray, List.set_cons_zero, List.set_cons_succ, i64_w, i32_w]
           rfl
         refine one_ (i := 12) (N := some 40) #[true, true, true, true, true, true, true, true, true, true, true, true, true, false, true, false] rfl rfl (by kernel_rfl) (by decide) (fun K hK => ?_)
         refine J.rows_step (w0 := w0) (W := w9) (by rfl) (.tmp 37) (.tmp 39) 29 rfl Try.underlying29 info_edge v9 l [⟨77, 78⟩] (some ⟨b11, 0, none⟩) 1 1 rfl rfl HJ9.out (one_edge (HJ9.out.box _ _ _ rfl)) HL1.out ?_
         intro v12 w12 hJ12
         obtain ⟨A12, c12, rfl⟩ := Kd.R_slice (hJ12.row _ _ rfl)
         rw [HLN.out] at hJ12 ⊢
         have HJ12 : Aside0 (J w0 w12 (some (.slice A12 (l.length + 1) c12, l ++ [⟨77, 78⟩])) (some (b11, 77, 78)) (some b14)) := ⟨hJ12⟩
         clear hJ12
         refine hK.out _ _ ⟨HJ12.out.cell X0.out, HJ12.out.cell X1.out⟩ (fun hHeld => ?_)
         clear hK K
         refine norm_ (a' := ?_) ?_ ?_
         rotate_left
         · show Act.put _ (some 40) _ = _
           simp only [Act.put, List.setIfInBounds_toArray, List.set_cons_zero, List.set_cons_succ, i64_w, i32_w]
           rfl
         refine pure_ (i := 13) (N := some 41) (v := ?_) (a' := ?_) #[true, true, true, true, true, true, true, true, true, true, true, true, true, true, true, false] rfl rfl (by kernel_rfl) (fun _ _ _ h => h) (Or.inl ⟨by rfl, ?_⟩) ?_ ?_
         rotate_left
         · intro w'
           go_simp
           with_reducible rfl
         rotate_left
         · simp only [Act.put, List.setIfInBounds_toArray, List.set_cons_zero, List.set_cons_succ, i64_w, i32_w]
           rfl
         exact norm_ (by simp only [putAll, Act.put, List.setIfInBounds_toArray, List.set_cons_zero, List.set_cons_succ]) (hCont (v6, v9, b11, (A12, c12), b14) _ HJ12.out)
     · skip
       refine value_ (w1 := ?_) (v := ?_) (by rfl) rfl ?_ ?_
       rotate_left 2
       · go_simp
         constructor
         · rfl
         · rfl
       obtain ⟨w14, hw14⟩ : ∃ w14, w14 = w6.alloc (.cells #[.int .i64 0, .slice none 0 0] 31 (0, 0)) := ⟨_, rfl⟩
       obtain ⟨b14, hb14⟩ : ∃ b14, b14 = w6.heap.size := ⟨_, rfl⟩
       have HJ14 : Aside0 (J w0 w14 (some (v6, [])) none (some b14)) := ⟨by rw [hw14, hb14]; have h := HJ6.out.graphed; first | exact h | (rw [HW0.out] at h ⊢; exact h)⟩
       rw [← hw14, ← hb14]
       clear hw14 hb14
       refine hK.out _ _ ⟨HJ14.out.cell X0.out, HJ14.out.cell X1.out⟩ (fun hHeld => ?_)
       clear hK K
       refine norm_ (a' := ?_) ?_ ?_
       rotate_left
       · show Act.put _ (some 5) _ = _
         simp only [Act.put, List.setIfInBounds_toArray, List.set_cons_zero, List.set_cons_succ, i64_w, i32_w]
         rfl
       refine two_ (i := 9) (j := 11) (Ni := some 37) (Nj := some 39) #[true, true, true, true, true, true, true, true, true, true, true, false, false, false, true, false] #[true, true, true, true, true, true, true, true, true, false, true, true, false, false, true, false] rfl rfl rfl rfl (by kernel_rfl) (by decide) (by decide) (fun K hK => ?_) (fun K hK => ?_)
       · skip
         refine J.rows_step (w0 := w0) (W := w14) (by rfl) (.tmp 34) (.tmp 36) 29 rfl Try.underlying29 info_edge v6 [] l A l.length c rfl rfl HJ14.out (Kd.C_below HG0.out HJ14.out.old) HL0.out ?_
         intro v9 w9 hJ9
         have HJ9 : Aside0 (J w0 w9 (some (v9, l)) none (some b14)) := ⟨hJ9⟩
         clear hJ9
         refine hK.out _ _ ⟨HJ9.out.cell X0.out, HJ9.out.cell X1.out⟩ (fun hHeld => ?_)
         clear hK K
         refine norm_ (a' := ?_) ?_ ?_
         rotate_left
         · show Act.put _ (some 37) _ = _
           simp only [Act.put, List.setIfInBounds_toArray, List.set_cons_zero, List.set_cons_succ, i64_w, i32_w]
           rfl
         refine one_ (i := 11) (N := some 39) #[true, true, true, true, true, true, true, true, true, true, true, true, false, false, true, false] rfl rfl (by kernel_rfl) (by decide) (fun K hK => ?_)
         refine value_ (w1 := ?_) (v := ?_) (by rfl) rfl ?_ ?_
         rotate_left 2
         · go_simp
           constructor
           · rfl
           · rfl
         obtain ⟨w11, hw11⟩ : ∃ w11, w11 = w9.alloc (.cells #[.int .i64 77, .int .i64 78] 33 (0, 0)) := ⟨_, rfl⟩
         obtain ⟨b11, hb11⟩ : ∃ b11, b11 = w9.heap.size := ⟨_, rfl⟩
         have HJ11 : Aside0 (J w0 w11 (some (v9, l)) (some (b11, 77, 78)) (some b14)) := ⟨by rw [hw11, hb11]; have h := HJ9.out.boxed 77 78; first | exact h | (rw [HW0.out] at h ⊢; exact h)⟩
         rw [← hw11, ← hb11]
         clear hw11 hb11
         refine hK.out _ _ ⟨HJ11.out.cell X0.out, HJ11.out.cell X1.out⟩ (fun hHeld => ?_)
         clear hK K
         refine norm_ (a' := ?_) ?_ ?_
         rotate_left
         · show Act.put _ (some 39) _ = _
           simp only [Act.put, List.setIfInBounds_toArray, List.set_cons_zero, List.set_cons_succ, i64_w, i32_w]
           rfl
         refine one_ (i := 12) (N := some 40) #[true, true, true, true, true, true, true, true, true, true, true, true, true, false, true, false] rfl rfl (by kernel_rfl) (by decide) (fun K hK => ?_)
         refine J.rows_step (w0 := w0) (W := w11) (by rfl) (.tmp 37) (.tmp 39) 29 rfl Try.underlying29 info_edge v9 l [⟨77, 78⟩] (some ⟨b11, 0, none⟩) 1 1 rfl rfl HJ11.out (one_edge (HJ11.out.box _ _ _ rfl)) HL1.out ?_
         intro v12 w12 hJ12
         obtain ⟨A12, c12, rfl⟩ := Kd.R_slice (hJ12.row _ _ rfl)
         rw [HLN.out] at hJ12 ⊢
         have HJ12 : Aside0 (J w0 w12 (some (.slice A12 (l.length + 1) c12, l ++ [⟨77, 78⟩])) (some (b11, 77, 78)) (some b14)) := ⟨hJ12⟩
         clear hJ12
         refine hK.out _ _ ⟨HJ12.out.cell X0.out, HJ12.out.cell X1.out⟩ (fun hHeld => ?_)
         clear hK K
         refine norm_ (a' := ?_) ?_ ?_
         rotate_left
         · show Act.put _ (some 40) _ = _
           simp only [Act.put, List.setIfInBounds_toArray, List.set_cons_zero, List.set_cons_succ, i64_w, i32_w]
           rfl
         refine pure_ (i := 13) (N := some 41) (v := ?_) (a' := ?_) #[true, true, true, true, true, true, true, true, true, true, true, true, true, true, true, false] rfl rfl (by kernel_rfl) (fun _ _ _ h => h) (Or.inl ⟨by rfl, ?_⟩) ?_ ?_
         rotate_left
         · intro w'
           go_simp
           with_reducible rfl
         rotate_left
         · simp only [Act.put, List.setIfInBounds_toArray, List.set_cons_zero, List.set_cons_succ, i64_w, i32_w]
           rfl
         exact norm_ (by simp only [putAll, Act.put, List.setIfInBounds_toArray, List.set_cons_zero, List.set_cons_succ]) (hCont (v6, v9, b11, (A12, c12), b14) _ HJ12.out)
       · skip
         refine value_ (w1 := ?_) (v := ?_) (by rfl) rfl ?_ ?_
         rotate_left 2
         · go_simp
           constructor
           · rfl
           · rfl
         obtain ⟨w11, hw11⟩ : ∃ w11, w11 = w14.alloc (.cells #[.int .i64 77, .int .i64 78] 33 (0, 0)) := ⟨_, rfl⟩
         obtain ⟨b11, hb11⟩ : ∃ b11, b11 = w14.heap.size := ⟨_, rfl⟩
         have HJ11 : Aside0 (J w0 w11 (some (v6, [])) (some (b11, 77, 78)) (some b14)) := ⟨by rw [hw11, hb11]; have h := HJ14.out.boxed 77 78; first | exact h | (rw [HW0.out] at h ⊢; exact h)⟩
         rw [← hw11, ← hb11]
         clear hw11 hb11
         refine hK.out _ _ ⟨HJ11.out.cell X0.out, HJ11.out.cell X1.out⟩ (fun hHeld => ?_)
         clear hK K
         refine norm_ (a' := ?_) ?_ ?_
         rotate_left
         · show Act.put _ (some 39) _ = _
           simp only [Act.put, List.setIfInBounds_toArray, List.set_cons_zero, List.set_cons_succ, i64_w, i32_w]
           rfl
         refine one_ (i := 9) (N := some 37) #[true, true, true, true, true, true, true, true, true, true, true, true, false, false, true, false] rfl rfl (by kernel_rfl) (by decide) (fun K hK => ?_)
         refine J.rows_step (w0 := w0) (W := w11) (by rfl) (.tmp 34) (.tmp 36) 29 rfl Try.underlying29 info_edge v6 [] l A l.length c rfl rfl HJ11.out (Kd.C_below HG0.out HJ11.out.old) HL0.out ?_
         intro v9 w9 hJ9
         have HJ9 : Aside0 (J w0 w9 (some (v9, l)) (some (b11, 77, 78)) (some b14)) := ⟨hJ9⟩
         clear hJ9
         refine hK.out _ _ ⟨HJ9.out.cell X0.out, HJ9.out.cell X1.out⟩ (fun hHeld => ?_)
         clear hK K
         refine norm_ (a' := ?_) ?_ ?_
         rotate_left
         · show Act.put _ (some 37) _ = _
           simp only [Act.put, List.setIfInBounds_toArray, List.set_cons_zero, List.set_cons_succ, i64_w, i32_w]
           rfl
         refine one_ (i := 12) (N := some 40) #[true, true, true, true, true, true, true, true, true, true, true, true, true, false, true, false] rfl rfl (by kernel_rfl) (by decide) (fun K hK => ?_)
         refine J.rows_step (w0 := w0) (W := w9) (by rfl) (.tmp 37) (.tmp 39) 29 rfl Try.underlying29 info_edge v9 l [⟨77, 78⟩] (some ⟨b11, 0, none⟩) 1 1 rfl rfl HJ9.out (one_edge (HJ9.out.box _ _ _ rfl)) HL1.out ?_
         intro v12 w12 hJ12
         obtain ⟨A12, c12, rfl⟩ := Kd.R_slice (hJ12.row _ _ rfl)
         rw [HLN.out] at hJ12 ⊢
         have HJ12 : Aside0 (J w0 w12 (some (.slice A12 (l.length + 1) c12, l ++ [⟨77, 78⟩])) (some (b11, 77, 78)) (some b14)) := ⟨hJ12⟩
         clear hJ12
         refine hK.out _ _ ⟨HJ12.out.cell X0.out, HJ12.out.cell X1.out⟩ (fun hHeld => ?_)
         clear hK K
         refine norm_ (a' := ?_) ?_ ?_
         rotate_left
         · show Act.put _ (some 40) _ = _
           simp only [Act.put, List.setIfInBounds_toArray, List.set_cons_zero, List.set_cons_succ, i64_w, i32_w]
           rfl
         refine pure_ (i := 13) (N := some 41) (v := ?_) (a' := ?_) #[true, true, true, true, true, true, true, true, true, true, true, true, true, true, true, false] rfl rfl (by kernel_rfl) (fun _ _ _ h => h) (Or.inl ⟨by rfl, ?_⟩) ?_ ?_
         rotate_left
         · intro w'
           go_simp
           with_reducible rfl
         rotate_left
         · simp only [Act.put, List.setIfInBounds_toArray, List.set_cons_zero, List.set_cons_succ, i64_w, i32_w]
           rfl
         exact norm_ (by simp only [putAll, Act.put, List.setIfInBounds_toArray, List.set_cons_zero, List.set_cons_succ]) (hCont (v6, v9, b11, (A12, c12), b14) _ HJ12.out)
   · skip
     refine value_ (w1 := ?_) (v := ?_) (by rfl) rfl ?_ ?_
     rotate_left 2
     · go_simp
       constructor
       · rfl
       · rfl
     obtain ⟨w11, hw11⟩ : ∃ w11, w11 = (w1.alloc (.cells #[.int .i64 77, .int .i64 78] 33 (0, 0))).drew := ⟨_, rfl⟩
     obtain ⟨b11, hb11⟩ : ∃ b11, b11 = w1.heap.size := ⟨_, rfl⟩
     have HJ11 : Aside0 (J w0 w11 none (some (b11, 77, 78)) none) := ⟨by rw [hw11, hb11]; have h := HJ0.out.boxed 77 78; first | exact h | (rw [HW0.out] at h ⊢; exact h)⟩
     rw [← hw11, ← hb11]
     clear hw11 hb11
     refine hK.out _ _ ⟨HJ11.out.cell X0.out, HJ11.out.cell X1.out⟩ (fun hHeld => ?_)
     clear hK K
     refine norm_ (a' := ?_) ?_ ?_
     rotate_left
     · show Act.put _ (some 39) _ = _
       simp only [Act.put, List.setIfInBounds_toArray, List.set_cons_zero, List.set_cons_succ, i64_w, i32_w]
       rfl
     refine two_ (i := 6) (j := 14) (Ni := some 34) (Nj := some 5) #[true, true, true, true, true, true, true, true, true, false, true, true, false, false, false, false] #[true, true, true, true, true, true, false, true, true, false, true, true, false, false, true, false] rfl rfl rfl rfl (by kernel_rfl) (by decide) (by decide) (fun K hK => ?_) (fun K hK => ?_)
     · skip
       refine value_ (w1 := ?_) (v := ?_) (by rfl) rfl ?_ ?_
       rotate_left 2
       · go_simp
         constructor
         · rfl
         · rfl
       obtain ⟨w6, hw6⟩ : ∃ w6, w6 = w11.alloc (.cells CZ 33 (0, 0)) := ⟨_, rfl⟩
       obtain ⟨v6, hv6⟩ : ∃ v6, v6 = Value.slice (some ⟨w11.heap.size, 0, none⟩) 0 M2 := ⟨_, rfl⟩
       have HJ6 : Aside0 (J w0 w6 (some (v6, [])) (some (b11, 77, 78)) none) := ⟨by rw [hw6, hv6]; have h := HJ11.out.made CZ M2 HM2.out HCZ.out; first | exact h | (rw [HW0.out] at h ⊢; exact h)⟩
       rw [← hw6, ← hv6]
       clear hw6 hv6
       refine hK.out _ _ ⟨HJ6.out.cell X0.out, HJ6.out.cell X1.out⟩ (fun hHeld => ?_)
       clear hK K
       refine norm_ (a' := ?_) ?_ ?_
       rotate_left
       · show Act.put _ (some 34) _ = _
         simp only [Act.put, List.setIfInBounds_toArray, List.set_cons_zero, List.set_cons_succ, i64_w, i32_w]
         rfl
       refine two_ (i := 9) (j := 14) (Ni := some 37) (Nj := some 5) #[true, true, true, true, true, true, true, true, true, true, true, true, false, false, false, false] #[true, true, true, true, true, true, true, true, true, false, true, true, false, false, true, false] rfl rfl rfl rfl (by kernel_rfl) (by decide) (by decide) (fun K hK => ?_) (fun K hK => ?_)
       · skip
         refine J.rows_step (w0 := w0) (W := w6) (by rfl) (.tmp 34) (.tmp 36) 29 rfl Try.underlying29 info_edge v6 [] l A l.length c rfl rfl HJ6.out (Kd.C_below HG0.out HJ6.out.old) HL0.out ?_
         intro v9 w9 hJ9
         have HJ9 : Aside0 (J w0 w9 (some (v9, l)) (some (b11, 77, 78)) none) := ⟨hJ9⟩
         clear hJ9
         refine hK.out _ _ ⟨HJ9.out.cell X0.out, HJ9.out.cell X1.out⟩ (fun hHeld => ?_)
         clear hK K
         refine norm_ (a' := ?_) ?_ ?_
         rotate_left
         · show Act.put _ (some 37) _ = _
           simp only [Act.put, List.setIfInBounds_toArray, List.set_cons_zero, List.set_cons_succ, i64_w, i32_w]
           rfl
         refine two_ (i := 12) (j := 14) (Ni := some 40) (Nj := some 5) #[true, true, true, true, true, true, true, true, true, true, true, true, true, false, false, false] #[true, true, true, true, true, true, true, true, true, true, true, true, false, false, true, false] rfl rfl rfl rfl (by kernel_rfl) (by decide) (by decide) (fun K hK => ?_) (fun K hK => ?_)
         · skip
           refine J.rows_step (w0 := w0) (W := w9) (by rfl) (.tmp 37) (.tmp 39) 29 rfl Try.underlying29 info_edge v9 l [⟨77, 78⟩] (some ⟨b11, 0, none⟩) 1 1 rfl rfl HJ9.out (one_edge (HJ9.out.box _ _ _ rfl)) HL1.out ?_
           intro v12 w12 hJ12
           obtain ⟨A12, c12, rfl⟩ := Kd.R_slice (hJ12.row _ _ rfl)
           rw [HLN.out] at hJ12 ⊢
           have HJ12 : Aside0 (J w0 w12 (some (.slice A12 (l.length + 1) c12, l ++ [⟨77, 78⟩])) (some (b11, 77, 78)) none) := ⟨hJ12⟩
           clear hJ12
           refine hK.out _ _ ⟨HJ12.out.cell X0.out, HJ12.out.cell X1.out⟩ (fun hHeld => ?_)
           clear hK K
           refine norm_ (a' := ?_) ?_ ?_
           rotate_left
           · show Act.put _ (some 40) _ = _
             simp only [Act.put, List.setIfInBounds_toArray, List.set_cons_zero, List.set_cons_succ, i64_w, i32_w]
             rfl
           refine pure_ (i := 13) (N := some 41) (v := ?_) (a' := ?_) #[true, true, true, true, true, true, true, true, true, true, true, true, true, true, false, false] rfl rfl (by kernel_rfl) (fun _ _ _ h => h) (Or.inl ⟨by rfl, ?_⟩) ?_ ?_
           rotate_left
           · intro w'
             go_simp
             with_reducible rfl
           rotate_left
           · simp only [Act.put, List.setIfInBounds_toArray, List.set_cons_zero, List.set_cons_succ, i64_w, i32_w]
             rfl
           refine one_ (i := 14) (N := some 5) #[true, true, true, true, true, true, true, true, true, true, true, true, true, true, true, false] rfl rfl (by kernel_rfl) (by decide) (fun K hK => ?_)
           refine value_ (w1 := ?_) (v := ?_) (by rfl) rfl ?_ ?_
           rotate_left 2
           · go_simp
             constructor
             · rfl
             · rfl
           obtain ⟨w14, hw14⟩ : ∃ w14, w14 = w12.alloc (.cells #[.int .i64 0, .slice none 0 0] 31 (0, 0)) := ⟨_, rfl⟩
           obtain ⟨b14, hb14⟩ : ∃ b14, b14 = w12.heap.size := ⟨_, rfl⟩
           have HJ14 : Aside0 (J w0 w14 (some (.slice A12 (l.length + 1) c12, l ++ [⟨77, 78⟩])) (some (b11, 77, 78)) (some b14)) := ⟨by rw [hw14, hb14]; have h := HJ12.out.graphed; first | exact h | (rw [HW0.out] at h ⊢; exact h)⟩
           rw [← hw14, ← hb14]
           clear hw14 hb14
           refine hK.out _ _ ⟨HJ14.out.cell X0.out, HJ14.out.cell X1.out⟩ (fun hHeld => ?_)
           clear hK K
           refine norm_ (a' := ?_) ?_ ?_
           rotate_left
           · show Act.put _ (some 5) _ = _
             simp only [Act.put, List.setIfInBounds_toArray, List.set_cons_zero, List.set_cons_succ, i64_w, i32_w]
             rfl
           exact norm_ (by simp only [putAll, Act.put, List.setIfInBounds_toArray, List.set_cons_zero, List.set_cons_succ]) (hCont (v6, v9, b11, (A12, c12), b14) _ HJ14.out)
         · skip
           refine value_ (w1 := ?_) (v := ?_) (by rfl) rfl ?_ ?_
           rotate_left 2
           · go_simp
             constructor
             · rfl
             · rfl
           obtain ⟨w14, hw14⟩ : ∃ w14, w14 = w9.alloc (.cells #[.int .i64 0, .slice none 0 0] 31 (0, 0)) := ⟨_, rfl⟩
           obtain ⟨b14, hb14⟩ : ∃ b14, b14 = w9.heap.size := ⟨_, rfl⟩
           have HJ14 : Aside0 (J w0 w14 (some (v9, l)) (some (b11, 77, 78)) (some b14)) := ⟨by rw [hw14, hb14]; have h := HJ9.out.graphed; first | exact h | (rw [HW0.out] at h ⊢; exact h)⟩
           rw [← hw14, ← hb14]
           clear hw14 hb14
           refine hK.out _ _ ⟨HJ14.out.cell X0.out, HJ14.out.cell X1.out⟩ (fun hHeld => ?_)
           clear hK K
           refine norm_ (a' := ?_) ?_ ?_
           rotate_left
           · show Act.put _ (some 5) _ = _
             simp only [Act.put, List.setIfInBounds_toArray, List.set_cons_zero, List.set_cons_succ, i64_w, i32_w]
             rfl
           refine one_ (i := 12) (N := some 40) #[true, true, true, true, true, true, true, true, true, true, true, true, true, false, true, false] rfl rfl (by kernel_rfl) (by decide) (fun K hK => ?_)
           refine J.rows_step (w0 := w0) (W := w14) (by rfl) (.tmp 37) (.tmp 39) 29 rfl Try.underlying29 info_edge v9 l [⟨77, 78⟩] (some ⟨b11, 0, none⟩) 1 1 rfl rfl HJ14.out (one_edge (HJ14.out.box _ _ _ rfl)) HL1.out ?_
           intro v12 w12 hJ12
           obtain ⟨A12, c12, rfl⟩ := Kd.R_slice (hJ12.row _ _ rfl)
           rw [HLN.out] at hJ12 ⊢
           have HJ12 : Aside0 (J w0 w12 (some (.slice A12 (l.length + 1) c12, l ++ [⟨77, 78⟩])) (some (b11, 77, 78)) (some b14)) := ⟨hJ12⟩
           clear hJ12
           refine hK.out _ _ ⟨HJ12.out.cell X0.out, HJ12.out.cell X1.out⟩ (fun hHeld => ?_)
           clear hK K
           refine norm_ (a' := ?_) ?_ ?_
           rotate_left
           · show Act.put _ (some 40) _ = _
             simp only [Act.put, List.setIfInBounds_toArray, List.set_cons_zero, List.set_cons_succ, i64_w, i32_w]
             rfl
           refine pure_ (i := 13) (N := some 41) (v := ?_) (a' := ?_) #[true, true, true, true, true, true, true, true, true, true, true, true, true, true, true, false] rfl rfl (by kernel_rfl) (fun _ _ _ h => h) (Or.inl ⟨by rfl, ?_⟩) ?_ ?_
           rotate_left
           · intro w'
             go_simp
             with_reducible rfl
           rotate_left
           · simp only [Act.put, List.setIfInBounds_toArray, List.set_cons_zero, List.set_cons_succ, i64_w, i32_w]
             rfl
           exact norm_ (by simp only [putAll, Act.put, List.setIfInBounds_toArray, List.set_cons_zero, List.set_cons_succ]) (hCont (v6, v9, b11, (A12, c12), b14) _ HJ12.out)
       · skip
         refine value_ (w1 := ?_) (v := ?_) (by rfl) rfl ?_ ?_
         rotate_left 2
         · go_simp
           constructor
           · rfl
           · rfl
         obtain ⟨w14, hw14⟩ : ∃ w14, w14 = w6.alloc (.cells #[.int .i64 0, .slice none 0 0] 31 (0, 0)) := ⟨_, rfl⟩
         obtain ⟨b14, hb14⟩ : ∃ b14, b14 = w6.heap.size := ⟨_, rfl⟩
         have HJ14 : Aside0 (J w0 w14 (some (v6, [])) (some (b11, 77, 78)) (some b14)) := ⟨by rw [hw14, hb14]; have h := HJ6.out.graphed; first | exact h | (rw [HW0.out] at h ⊢; exact h)⟩
         rw [← hw14, ← hb14]
         clear hw14 hb14
         refine hK.out _ _ ⟨HJ14.out.cell X0.out, HJ14.out.cell X1.out⟩ (fun hHeld => ?_)
         clear hK K
         refine norm_ (a' := ?_) ?_ ?_
         rotate_left
         · show Act.put _ (some 5) _ = _
           simp only [Act.put, List.setIfInBounds_toArray, List.set_cons_zero, List.set_cons_succ, i64_w, i32_w]
           rfl
         refine one_ (i := 9) (N := some 37) #[true, true, true, true, true, true, true, true, true, true, true, true, false, false, true, false] rfl rfl (by kernel_rfl) (by decide) (fun K hK => ?_)
         refine J.rows_step (w0 := w0) (W := w14) (by rfl) (.tmp 34) (.tmp 36) 29 rfl Try.underlying29 info_edge v6 [] l A l.length c rfl rfl HJ14.out (Kd.C_below HG0.out HJ14.out.old) HL0.out ?_
         intro v9 w9 hJ9
         have HJ9 : Aside0 (J w0 w9 (some (v9, l)) (some (b11, 77, 78)) (some b14)) := ⟨hJ9⟩
         clear hJ9
         refine hK.out _ _ ⟨HJ9.out.cell X0.out, HJ9.out.cell X1.out⟩ (fun hHeld => ?_)
         clear hK K
         refine norm_ (a' := ?_) ?_ ?_
         rotate_left
         · show Act.put _ (some 37) _ = _
           simp only [Act.put, List.setIfInBounds_toArray, List.set_cons_zero, List.set_cons_succ, i64_w, i32_w]
           rfl
         refine one_ (i := 12) (N := some 40) #[true, true, true, true, true, true, true, true, true, true, true, true, true, false, true, false] rfl rfl (by kernel_rfl) (by decide) (fun K hK => ?_)
         refine J.rows_step (w0 := w0) (W := w9) (by rfl) (.tmp 37) (.tmp 39) 29 rfl Try.underlying29 info_edge v9 l [⟨77, 78⟩] (some ⟨b11, 0, none⟩) 1 1 rfl rfl HJ9.out (one_edge (HJ9.out.box _ _ _ rfl)) HL1.out ?_
         intro v12 w12 hJ12
         obtain ⟨A12, c12, rfl⟩ := Kd.R_slice (hJ12.row _ _ rfl)
         rw [HLN.out] at hJ12 ⊢
         have HJ12 : Aside0 (J w0 w12 (some (.slice A12 (l.length + 1) c12, l ++ [⟨77, 78⟩])) (some (b11, 77, 78)) (some b14)) := ⟨hJ12⟩
         clear hJ12
         refine hK.out _ _ ⟨HJ12.out.cell X0.out, HJ12.out.cell X1.out⟩ (fun hHeld => ?_)
         clear hK K
         refine norm_ (a' := ?_) ?_ ?_
         rotate_left
         · show Act.put _ (some 40) _ = _
           simp only [Act.put, List.setIfInBounds_toArray, List.set_cons_zero, List.set_cons_succ, i64_w, i32_w]
           rfl
         refine pure_ (i := 13) (N := some 41) (v := ?_) (a' := ?_) #[true, true, true, true, true, true, true, true, true, true, true, true, true, true, true, false] rfl rfl (by kernel_rfl) (fun _ _ _ h => h) (Or.inl ⟨by rfl, ?_⟩) ?_ ?_
         rotate_left
         · intro w'
           go_simp
           with_reducible rfl
         rotate_left
         · simp only [Act.put, List.setIfInBounds_toArray, List.set_cons_zero, List.set_cons_succ, i64_w, i32_w]
           rfl
         exact norm_ (by simp only [putAll, Act.put, List.setIfInBounds_toArray, List.set_cons_zero, List.set_cons_succ]) (hCont (v6, v9, b11, (A12, c12), b14) _ HJ12.out)
     · skip
       refine value_ (w1 := ?_) (v := ?_) (by rfl) rfl ?_ ?_
       rotate_left 2
       · go_simp
         constructor
         · rfl
         · rfl
       obtain ⟨w14, hw14⟩ : ∃ w14, w14 = w11.alloc (.cells #[.int .i64 0, .slice none 0 0] 31 (0, 0)) := ⟨_, rfl⟩
       obtain ⟨b14, hb14⟩ : ∃ b14, b14 = w11.heap.size := ⟨_, rfl⟩
       have HJ14 : Aside0 (J w0 w14 none (some (b11, 77, 78)) (some b14)) := ⟨by rw [hw14, hb14]; have h := HJ11.out.graphed; first | exact h | (rw [HW0.out] at h ⊢; exact h)⟩
       rw [← hw14, ← hb14]
       clear hw14 hb14
       refine hK.out _ _ ⟨HJ14.out.cell X0.out, HJ14.out.cell X1.out⟩ (fun hHeld => ?_)
       clear hK K
       refine norm_ (a' := ?_) ?_ ?_
       rotate_left
       · show Act.put _ (some 5) _ = _
         simp only [Act.put, List.setIfInBounds_toArray, List.set_cons_zero, List.set_cons_succ, i64_w, i32_w]
         rfl
       refine one_ (i := 6) (N := some 34) #[true, true, true, true, true, true, true, true, true, false, true, true, false, false, true, false] rfl rfl (by kernel_rfl) (by decide) (fun K hK => ?_)
       refine value_ (w1 := ?_) (v := ?_) (by rfl) rfl ?_ ?_
       rotate_left 2
       · go_simp
         constructor
         · rfl
         · rfl
       obtain ⟨w6, hw6⟩ : ∃ w6, w6 = w14.alloc (.cells CZ 33 (0, 0)) := ⟨_, rfl⟩
       obtain ⟨v6, hv6⟩ : ∃ v6, v6 = Value.slice (some ⟨w14.heap.size, 0, none⟩) 0 M2 := ⟨_, rfl⟩
       have HJ6 : Aside0 (J w0 w6 (some (v6, [])) (some (b11, 77, 78)) (some b14)) := ⟨by rw [hw6, hv6]; have h := HJ14.out.made CZ M2 HM2.out HCZ.out; first | exact h | (rw [HW0.out] at h ⊢; exact h)⟩
       rw [← hw6, ← hv6]
       clear hw6 hv6
       refine hK.out _ _ ⟨HJ6.out.cell X0.out, HJ6.out.cell X1.out⟩ (fun hHeld => ?_)
       clear hK K
       refine norm_ (a' := ?_) ?_ ?_
       rotate_left
       · show Act.put _ (some 34) _ = _
         simp only [Act.put, List.setIfInBounds_toArray, List.set_cons_zero, List.set_cons_succ, i64_w, i32_w]
         rfl
       refine one_ (i := 9) (N := some 37) #[true, true, true, true, true, true, true, true, true, true, true, true, false, false, true, false] rfl rfl (by kernel_rfl) (by decide) (fun K hK => ?_)
       refine J.rows_step (w0 := w0) (W := w6) (by rfl) (.tmp 34) (.tmp 36) 29 rfl Try.underlying29 info_edge v6 [] l A l.length c rfl rfl HJ6.out (Kd.C_below HG0.out HJ6.out.old) HL0.out ?_
       intro v9 w9 hJ9
       have HJ9 : Aside0 (J w0 w9 (some (v9, l)) (some (b11, 77, 78)) (some b14)) := ⟨hJ9⟩
       clear hJ9
       refine hK.out _ _ ⟨HJ9.out.cell X0.out, HJ9.out.cell X1.out⟩ (fun hHeld => ?_)
       clear hK K
       refine norm_ (a' := ?_) ?_ ?_
       rotate_left
       · show Act.put _ (some 37) _ = _
         simp only [Act.put, List.setIfInBounds_toArray, List.set_cons_zero, List.set_cons_succ, i64_w, i32_w]
         rfl
       refine one_ (i := 12) (N := some 40) #[true, true, true, true, true, true, true, true, true, true, true, true, true, false, true, false] rfl rfl (by kernel_rfl) (by decide) (fun K hK => ?_)
       refine J.rows_step (w0 := w0) (W := w9) (by rfl) (.tmp 37) (.tmp 39) 29 rfl Try.underlying29 info_edge v9 l [⟨77, 78⟩] (some ⟨b11, 0, none⟩) 1 1 rfl rfl HJ9.out (one_edge (HJ9.out.box _ _ _ rfl)) HL1.out ?_
       intro v12 w12 hJ12
       obtain ⟨A12, c12, rfl⟩ := Kd.R_slice (hJ12.row _ _ rfl)
       rw [HLN.out] at hJ12 ⊢
       have HJ12 : Aside0 (J w0 w12 (some (.slice A12 (l.length + 1) c12, l ++ [⟨77, 78⟩])) (some (b11, 77, 78)) (some b14)) := ⟨hJ12⟩
       clear hJ12
       refine hK.out _ _ ⟨HJ12.out.cell X0.out, HJ12.out.cell X1.out⟩ (fun hHeld => ?_)
       clear hK K
       refine norm_ (a' := ?_) ?_ ?_
       rotate_left
       · show Act.put _ (some 40) _ = _
         simp only [Act.put, List.setIfInBounds_toArray, List.set_cons_zero, List.set_cons_succ, i64_w, i32_w]
         rfl
       refine pure_ (i := 13) (N := some 41) (v := ?_) (a' := ?_) #[true, true, true, true, true, true, true, true, true, true, true, true, true, true, true, false] rfl rfl (by kernel_rfl) (fun _ _ _ h => h) (Or.inl ⟨by rfl, ?_⟩) ?_ ?_
       rotate_left
       · intro w'
         go_simp
         with_reducible rfl
       rotate_left
       · simp only [Act.put, List.setIfInBounds_toArray, List.set_cons_zero, List.set_cons_succ, i64_w, i32_w]
         rfl
       exact norm_ (by simp only [putAll, Act.put, List.setIfInBounds_toArray, List.set_cons_zero, List.set_cons_succ]) (hCont (v6, v9, b11, (A12, c12), b14) _ HJ12.out)
   · skip
     refine value_ (w1 := ?_) (v := ?_) (by rfl) rfl ?_ ?_
     rotate_left 2
     · go_simp
       constructor
       · rfl
       · rfl
     obtain ⟨w14, hw14⟩ : ∃ w14, w14 = (w1.alloc (.cells #[.int .i64 0, .slice none 0 0] 31 (0, 0))).drew := ⟨_, rfl⟩
     obtain ⟨b14, hb14⟩ : ∃ b14, b14 = w1.heap.size := ⟨_, rfl⟩
     have HJ14 : Aside0 (J w0 w14 none none (some b14)) := ⟨by rw [hw14, hb14]; have h := HJ0.out.graphed; first | exact h | (rw [HW0.out] at h ⊢; exact h)⟩
     rw [← hw14, ← hb14]
     clear hw14 hb14
     refine hK.out _ _ ⟨HJ14.out.cell X0.out, HJ14.out.cell X1.out⟩ (fun hHeld => ?_)
     clear hK K
     refine norm_ (a' := ?_) ?_ ?_
     rotate_left
     · show Act.put _ (some 5) _ = _
       simp only [Act.put, List.setIfInBounds_toArray, List.set_cons_zero, List.set_cons_succ, i64_w, i32_w]
       rfl
     refine two_ (i := 6) (j := 11) (Ni := some 34) (Nj := some 39) #[true, true, true, true, true, true, true, true, true, false, true, false, false, false, true, false] #[true, true, true, true, true, true, false, true, true, false, true, true, false, false, true, false] rfl rfl rfl rfl (by kernel_rfl) (by decide) (by decide) (fun K hK => ?_) (fun K hK => ?_)
     · skip
       refine value_ (w1 := ?_) (v := ?_) (by rfl) rfl ?_ ?_
       rotate_left 2
       · go_simp
         constructor
         · rfl
         · rfl
       obtain ⟨w6, hw6⟩ : ∃ w6, w6 = w14.alloc (.cells CZ 33 (0, 0)) := ⟨_, rfl⟩
       obtain ⟨v6, hv6⟩ : ∃ v6, v6 = Value.slice (some ⟨w14.heap.size, 0, none⟩) 0 M2 := ⟨_, rfl⟩
       have HJ6 : Aside0 (J w0 w6 (some (v6, [])) none (some b14)) := ⟨by rw [hw6, hv6]; have h := HJ14.out.made CZ M2 HM2.out HCZ.out; first | exact h | (rw [HW0.out] at h ⊢; exact h)⟩
       rw [← hw6, ← hv6]
       clear hw6 hv6
       refine hK.out _ _ ⟨HJ6.out.cell X0.out, HJ6.out.cell X1.out⟩ (fun hHeld => ?_)
       clear hK K
       refine norm_ (a' := ?_) ?_ ?_
       rotate_left
       · show Act.put _ (some 34) _ = _
         simp only [Act.put, List.setIfInBounds_toArray, List.set_cons_zero, List.set_cons_succ, i64_w, i32_w]
         rfl
       refine two_ (i := 9) (j := 11) (Ni := some 37) (Nj := some 39) #[true, true, true, true, true, true, true, true, true, true, true, false, false, false, true, false] #[true, true, true, true, true, true, true, true, true, false, true, true, false, false, true, false] rfl rfl rfl rfl (by kernel_rfl) (by decide) (by decide) (fun K hK => ?_) (fun K hK => ?_)
       · skip
         refine J.rows_step (w0 := w0) (W := w6) (by rfl) (.tmp 34) (.tmp 36) 29 rfl Try.underlying29 info_edge v6 [] l A l.length c rfl rfl HJ6.out (Kd.C_below HG0.out HJ6.out.old) HL0.out ?_
         intro v9 w9 hJ9
         have HJ9 : Aside0 (J w0 w9 (some (v9, l)) none (some b14)) := ⟨hJ9⟩
         clear hJ9
         refine hK.out _ _ ⟨HJ9.out.cell X0.out, HJ9.out.cell X1.out⟩ (fun hHeld => ?_)
         clear hK K
         refine norm_ (a' := ?_) ?_ ?_
         rotate_left
         · show Act.put _ (some 37) _ = _
           simp only [Act.put, List.setIfInBounds_toArray, List.set_cons_zero, List.set_cons_succ, i64_w, i32_w]
           rfl
         refine one_ (i := 11) (N := some 39) #[true, true, true, true, true, true, true, true, true, true, true, true, false, false, true, false] rfl rfl (by kernel_rfl) (by decide) (fun K hK => ?_)
         refine value_ (w1 := ?_) (v := ?_) (by rfl) rfl ?_ ?_
         rotate_left 2
         · go_simp
           constructor
           · rfl
           · rfl
         obtain ⟨w11, hw11⟩ : ∃ w11, w11 = w9.alloc (.cells #[.int .i64 77, .int .i64 78] 33 (0, 0)) := ⟨_, rfl⟩
         obtain ⟨b11, hb11⟩ : ∃ b11, b11 = w9.heap.size := ⟨_, rfl⟩
         have HJ11 : Aside0 (J w0 w11 (some (v9, l)) (some (b11, 77, 78)) (some b14)) := ⟨by rw [hw11, hb11]; have h := HJ9.out.boxed 77 78; first | exact h | (rw [HW0.out] at h ⊢; exact h)⟩
         rw [← hw11, ← hb11]
         clear hw11 hb11
         refine hK.out _ _ ⟨HJ11.out.cell X0.out, HJ11.out.cell X1.out⟩ (fun hHeld => ?_)
         clear hK K
         refine norm_ (a' := ?_) ?_ ?_
         rotate_left
         · show Act.put _ (some 39) _ = _
           simp only [Act.put, List.setIfInBounds_toArray, List.set_cons_zero, List.set_cons_succ, i64_w, i32_w]
           rfl
         refine one_ (i := 12) (N := some 40) #[true, true, true, true, true, true, true, true, true, true, true, true, true, false, true, false] rfl rfl (by kernel_rfl) (by decide) (fun K hK => ?_)
         refine J.rows_step (w0 := w0) (W := w11) (by rfl) (.tmp 37) (.tmp 39) 29 rfl Try.underlying29 info_edge v9 l [⟨77, 78⟩] (some ⟨b11, 0, none⟩) 1 1 rfl rfl HJ11.out (one_edge (HJ11.out.box _ _ _ rfl)) HL1.out ?_
         intro v12 w12 hJ12
         obtain ⟨A12, c12, rfl⟩ := Kd.R_slice (hJ12.row _ _ rfl)
         rw [HLN.out] at hJ12 ⊢
         have HJ12 : Aside0 (J w0 w12 (some (.slice A12 (l.length + 1) c12, l ++ [⟨77, 78⟩])) (some (b11, 77, 78)) (some b14)) := ⟨hJ12⟩
         clear hJ12
         refine hK.out _ _ ⟨HJ12.out.cell X0.out, HJ12.out.cell X1.out⟩ (fun hHeld => ?_)
         clear hK K
         refine norm_ (a' := ?_) ?_ ?_
         rotate_left
         · show Act.put _ (some 40) _ = _
           simp only [Act.put, List.setIfInBounds_toArray, List.set_cons_zero, List.set_cons_succ, i64_w, i32_w]
           rfl
         refine pure_ (i := 13) (N := some 41) (v := ?_) (a' := ?_) #[true, true, true, true, true, true, true, true, true, true, true, true, true, true, true, false] rfl rfl (by kernel_rfl) (fun _ _ _ h => h) (Or.inl ⟨by rfl, ?_⟩) ?_ ?_
         rotate_left
         · intro w'
           go_simp
           with_reducible rfl
         rotate_left
         · simp only [Act.put, List.setIfInBounds_toArray, List.set_cons_zero, List.set_cons_succ, i64_w, i32_w]
           rfl
         exact norm_ (by simp only [putAll, Act.put, List.setIfInBounds_toArray, List.set_cons_zero, List.set_cons_succ]) (hCont (v6, v9, b11, (A12, c12), b14) _ HJ12.out)
       · skip
         refine value_ (w1 := ?_) (v := ?_) (by rfl) rfl ?_ ?_
         rotate_left 2
         · go_simp
           constructor
           · rfl
           · rfl
         obtain ⟨w11, hw11⟩ : ∃ w11, w11 = w6.alloc (.cells #[.int .i64 77, .int .i64 78] 33 (0, 0)) := ⟨_, rfl⟩
         obtain ⟨b11, hb11⟩ : ∃ b11, b11 = w6.heap.size := ⟨_, rfl⟩
         have HJ11 : Aside0 (J w0 w11 (some (v6, [])) (some (b11, 77, 78)) (some b14)) := ⟨by rw [hw11, hb11]; have h := HJ6.out.boxed 77 78; first | exact h | (rw [HW0.out] at h ⊢; exact h)⟩
         rw [← hw11, ← hb11]
         clear hw11 hb11
         refine hK.out _ _ ⟨HJ11.out.cell X0.out, HJ11.out.cell X1.out⟩ (fun hHeld => ?_)
         clear hK K
         refine norm_ (a' := ?_) ?_ ?_
         rotate_left
         · show Act.put _ (some 39) _ = _
           simp only [Act.put, List.setIfInBounds_toArray, List.set_cons_zero, List.set_cons_succ, i64_w, i32_w]
           rfl
         refine one_ (i := 9) (N := some 37) #[true, true, true, true, true, true, true, true, true, true, true, true, false, false, true, false] rfl rfl (by kernel_rfl) (by decide) (fun K hK => ?_)
         refine J.rows_step (w0 := w0) (W := w11) (by rfl) (.tmp 34) (.tmp 36) 29 rfl Try.underlying29 info_edge v6 [] l A l.length c rfl rfl HJ11.out (Kd.C_below HG0.out HJ11.out.old) HL0.out ?_
         intro v9 w9 hJ9
         have HJ9 : Aside0 (J w0 w9 (some (v9, l)) (some (b11, 77, 78)) (some b14)) := ⟨hJ9⟩
         clear hJ9
         refine hK.out _ _ ⟨HJ9.out.cell X0.out, HJ9.out.cell X1.out⟩ (fun hHeld => ?_)
         clear hK K
         refine norm_ (a' := ?_) ?_ ?_
         rotate_left
         · show Act.put _ (some 37) _ = _
           simp only [Act.put, List.setIfInBounds_toArray, List.set_cons_zero, List.set_cons_succ, i64_w, i32_w]
           rfl
         refine one_ (i := 12) (N := some 40) #[true, true, true, true, true, true, true, true, true, true, true, true, true, false, true, false] rfl rfl (by kernel_rfl) (by decide) (fun K hK => ?_)
         refine J.rows_step (w0 := w0) (W := w9) (by rfl) (.tmp 37) (.tmp 39) 29 rfl Try.underlying29 info_edge v9 l [⟨77, 78⟩] (some ⟨b11, 0, none⟩) 1 1 rfl rfl HJ9.out (one_edge (HJ9.out.box _ _ _ rfl)) HL1.out ?_
         intro v12 w12 hJ12
         obtain ⟨A12, c12, rfl⟩ := Kd.R_slice (hJ12.row _ _ rfl)
         rw [HLN.out] at hJ12 ⊢
         have HJ12 : Aside0 (J w0 w12 (some (.slice A12 (l.length + 1) c12, l ++ [⟨77, 78⟩])) (some (b11, 77, 78)) (some b14)) := ⟨hJ12⟩
         clear hJ12
         refine hK.out _ _ ⟨HJ12.out.cell X0.out, HJ12.out.cell X1.out⟩ (fun hHeld => ?_)
         clear hK K
         refine norm_ (a' := ?_) ?_ ?_
         rotate_left
         · show Act.put _ (some 40) _ = _
           simp only [Act.put, List.setIfInBounds_toArray, List.set_cons_zero, List.set_cons_succ, i64_w, i32_w]
           rfl
         refine pure_ (i := 13) (N := some 41) (v := ?_) (a' := ?_) #[true, true, true, true, true, true, true, true, true, true, true, true, true, true, true, false] rfl rfl (by kernel_rfl) (fun _ _ _ h => h) (Or.inl ⟨by rfl, ?_⟩) ?_ ?_
         rotate_left
         · intro w'
           go_simp
           with_reducible rfl
         rotate_left
         · simp only [Act.put, List.setIfInBounds_toArray, List.set_cons_zero, List.set_cons_succ, i64_w, i32_w]
           rfl
         exact norm_ (by simp only [putAll, Act.put, List.setIfInBounds_toArray, List.set_cons_zero, List.set_cons_succ]) (hCont (v6, v9, b11, (A12, c12), b14) _ HJ12.out)
     · skip
       refine value_ (w1 := ?_) (v := ?_) (by rfl) rfl ?_ ?_
       rotate_left 2
       · go_simp
         constructor
         · rfl
         · rfl
       obtain ⟨w11, hw11⟩ : ∃ w11, w11 = w14.alloc (.cells #[.int .i64 77, .int .i64 78] 33 (0, 0)) := ⟨_, rfl⟩
       obtain ⟨b11, hb11⟩ : ∃ b11, b11 = w14.heap.size := ⟨_, rfl⟩
       have HJ11 : Aside0 (J w0 w11 none (some (b11, 77, 78)) (some b14)) := ⟨by rw [hw11, hb11]; have h := HJ14.out.boxed 77 78; first | exact h | (rw [HW0.out] at h ⊢; exact h)⟩
       rw [← hw11, ← hb11]
       clear hw11 hb11
       refine hK.out _ _ ⟨HJ11.out.cell X0.out, HJ11.out.cell X1.out⟩ (fun hHeld => ?_)
       clear hK K
       refine norm_ (a' := ?_) ?_ ?_
       rotate_left
       · show Act.put _ (some 39) _ = _
         simp only [Act.put, List.setIfInBounds_toArray, List.set_cons_zero, List.set_cons_succ, i64_w, i32_w]
         rfl
       refine one_ (i := 6) (N := some 34) #[true, true, true, true, true, true, true, true, true, false, true, true, false, false, true, false] rfl rfl (by kernel_rfl) (by decide) (fun K hK => ?_)
       refine value_ (w1 := ?_) (v := ?_) (by rfl) rfl ?_ ?_
       rotate_left 2
       · go_simp
         constructor
         · rfl
         · rfl
       obtain ⟨w6, hw6⟩ : ∃ w6, w6 = w11.alloc (.cells CZ 33 (0, 0)) := ⟨_, rfl⟩
       obtain ⟨v6, hv6⟩ : ∃ v6, v6 = Value.slice (some ⟨w11.heap.size, 0, none⟩) 0 M2 := ⟨_, rfl⟩
       have HJ6 : Aside0 (J w0 w6 (some (v6, [])) (some (b11, 77, 78)) (some b14)) := ⟨by rw [hw6, hv6]; have h := HJ11.out.made CZ M2 HM2.out HCZ.out; first | exact h | (rw [HW0.out] at h ⊢; exact h)⟩
       rw [← hw6, ← hv6]
       clear hw6 hv6
       refine hK.out _ _ ⟨HJ6.out.cell X0.out, HJ6.out.cell X1.out⟩ (fun hHeld => ?_)
       clear hK K
       refine norm_ (a' := ?_) ?_ ?_
       rotate_left
       · show Act.put _ (some 34) _ = _
         simp only [Act.put, List.setIfInBounds_toArray, List.set_cons_zero, List.set_cons_succ, i64_w, i32_w]
         rfl
       refine one_ (i := 9) (N := some 37) #[true, true, true, true, true, true, true, true, true, true, true, true, false, false, true, false] rfl rfl (by kernel_rfl) (by decide) (fun K hK => ?_)
       refine J.rows_step (w0 := w0) (W := w6) (by rfl) (.tmp 34) (.tmp 36) 29 rfl Try.underlying29 info_edge v6 [] l A l.length c rfl rfl HJ6.out (Kd.C_below HG0.out HJ6.out.old) HL0.out ?_
       intro v9 w9 hJ9
       have HJ9 : Aside0 (J w0 w9 (some (v9, l)) (some (b11, 77, 78)) (some b14)) := ⟨hJ9⟩
       clear hJ9
       refine hK.out _ _ ⟨HJ9.out.cell X0.out, HJ9.out.cell X1.out⟩ (fun hHeld => ?_)
       clear hK K
       refine norm_ (a' := ?_) ?_ ?_
       rotate_left
       · show Act.put _ (some 37) _ = _
         simp only [Act.put, List.setIfInBounds_toArray, List.set_cons_zero, List.set_cons_succ, i64_w, i32_w]
         rfl
       refine one_ (i := 12) (N := some 40) #[true, true, true, true, true, true, true, true, true, true, true, true, true, false, true, false] rfl rfl (by kernel_rfl) (by decide) (fun K hK => ?_)
       refine J.rows_step (w0 := w0) (W := w9) (by rfl) (.tmp 37) (.tmp 39) 29 rfl Try.underlying29 info_edge v9 l [⟨77, 78⟩] (some ⟨b11, 0, none⟩) 1 1 rfl rfl HJ9.out (one_edge (HJ9.out.box _ _ _ rfl)) HL1.out ?_
       intro v12 w12 hJ12
       obtain ⟨A12, c12, rfl⟩ := Kd.R_slice (hJ12.row _ _ rfl)
       rw [HLN.out] at hJ12 ⊢
       have HJ12 : Aside0 (J w0 w12 (some (.slice A12 (l.length + 1) c12, l ++ [⟨77, 78⟩])) (some (b11, 77, 78)) (some b14)) := ⟨hJ12⟩
       clear hJ12
       refine hK.out _ _ ⟨HJ12.out.cell X0.out, HJ12.out.cell X1.out⟩ (fun hHeld => ?_)
       clear hK K
       refine norm_ (a' := ?_) ?_ ?_
       rotate_left
       · show Act.put _ (some 40) _ = _
         simp only [Act.put, List.setIfInBounds_toArray, List.set_cons_zero, List.set_cons_succ, i64_w, i32_w]
         rfl
       refine pure_ (i := 13) (N := some 41) (v := ?_) (a' := ?_) #[true, true, true, true, true, true, true, true, true, true, true, true, true, true, true, false] rfl rfl (by kernel_rfl) (fun _ _ _ h => h) (Or.inl ⟨by rfl, ?_⟩) ?_ ?_
       rotate_left
       · intro w'
         go_simp
         with_reducible rfl
       rotate_left
       · simp only [Act.put, List.setIfInBounds_toArray, List.set_cons_zero, List.set_cons_succ, i64_w, i32_w]
         rfl
       exact norm_ (by simp only [putAll, Act.put, List.setIfInBounds_toArray, List.set_cons_zero, List.set_cons_succ]) (hCont (v6, v9, b11, (A12, c12), b14) _ HJ12.out)
 rintro ⟨v6, v9, b11, ⟨A12, c12⟩, b14⟩ w16 hF
 have HJ16 : Aside0 (J w0 w16 (some (.slice A12 (l.length + 1) c12, l ++ [⟨77, 78⟩])) (some (b11, 77, 78)) (some b14)) := ⟨hF⟩
 clear hF
 have hHeld : w16.cell? ⟨b, 0, none⟩ = some (.int .i64 n) ∧ w16.cell? ⟨b, 1, none⟩ = some (.slice A l.length c) := ⟨HJ16.out.cell X0.out, HJ16.out.cell X1.out⟩
 have f0 : w16.frozen? ⟨b14, 0, none⟩ = false := heap_free (HJ16.out.graph _ rfl) 0
 have f1 : w16.frozen? ⟨b14, 1, none⟩ = false := heap_free (HJ16.out.graph _ rfl) 1
 have g0 : w16.cell? ⟨b14, 0, none⟩ = some (.int .i64 0) := heap_cell (HJ16.out.graph _ rfl) rfl
 have g1 : w16.cell? ⟨b14, 1, none⟩ = some (.slice none 0 0) := heap_cell (HJ16.out.graph _ rfl) rfl
 refine norm_ (a' := ?_) ?_ ?_
 rotate_left
 · simp only [putAll, Act.put, List.setIfInBounds_toArray, List.set_cons_zero, List.set_cons_succ]
   rfl
 refine last_ (i := 15) (N := none) #[true, true, true, true, true, true, true, true, true, true, true, true, true, true, true, true] rfl rfl (by kernel_rfl) (by decide) (fun K hK => ?_)
 refine skip_ (w1 := ?_) (by rfl) rfl ?_ ?_
 rotate_left
 · go_simp
   rfl
 refine hK.out _ _ ?_
 clear hK K
 refine done_ (by kernel_rfl) ?_
 have hR16 := HJ16.out.row _ _ rfl
 have hgr := HJ16.out.graph _ rfl
 obtain ⟨g, cg, e1, hg0, hg1, _⟩ := Kd.R_form hR16 (by simp)
 obtain ⟨rfl, rfl⟩ : A12 = some ⟨g, 0, none⟩ ∧ c12 = cg := by
   injection e1 with e1 _ e2
   exact ⟨e1, e2⟩
 have hcap := (Kd.R_reads' hR16).2.1
 obtain ⟨w2, hw2⟩ : ∃ w2, w2 = (w16.setCell ⟨b14, 0, none⟩ (.int .i64 n)).setCell ⟨b14, 1, none⟩ (.slice (some ⟨g, 0, none⟩) (l.length + 1) c12) := ⟨_, rfl⟩
 have hgb : g ≠ b14 := fun e => Kd.R_ne hR16 hgr (by decide) (by rw [← e]; rfl)
 have hlob := HJ16.out.lo _ rfl
 have hF16 : Mem.Frame (· = b14) w16 w2 := by
   rw [hw2]
   exact (Mem.Frame.setCell (S := (· = b14)) (p := ⟨b14, 0, none⟩) (Mem.Frame.refl _ _) rfl _).setCell (p := ⟨b14, 1, none⟩) rfl _
 have HH2 : Aside0 (w2.heap[b14]? = some (.cells #[.int .i64 n, .slice (some ⟨g, 0, none⟩) (l.length + 1) c12] 31 (0, 0))) := ⟨by
   have := heap_set (i := 1) (heap_set (i := 0) hgr (.int .i64 n)) (.slice (some ⟨g, 0, none⟩) (l.length + 1) c12)
   rw [hw2]
   simpa using this⟩
 have HE2 : Aside0 (Kd.R kE 33 w2 w0.heap.size (fun k => k = g) (.slice (some ⟨g, 0, none⟩) (l.length + 1) c12) (l ++ [⟨77, 78⟩])) := ⟨by
   refine Kd.R_step (Kd.R_mono (Kd.R_tight (by rfl) hR16) (fun k hk => ?_)) (fun k hk hlt => hF16.block k hlt (fun e => hgb (by rw [← hk, e])))
   have : some k = some g := hk
   exact Option.some.inj this⟩
 have HB2 : Aside0 (Below w.heap.size w w2) := ⟨HB0.out.trans ((HJ16.out.old.mono HB0.out.size).trans (hF16.below (Nat.le_trans HB0.out.size HJ16.out.old.size) (fun k hk => by rw [hk]; exact Nat.le_trans HB0.out.size hlob)))⟩
 have hbw0 : b < w0.heap.size := lt_of HX0.out
 have HX2 : Aside0 (w2.heap[b]? = some (.cells #[.int .i64 n, .slice A l.length c] 31 (0, 0))) := ⟨hF16.blk ((HJ16.out.old.block _ hbw0).trans HX0.out) (fun e => by omega)⟩
 have HSA : Aside0 (w.heap.size ≤ w0.heap.size ∧ b < w0.heap.size ∧ w0.heap.size ≤ g ∧ g < w2.heap.size ∧ w0.heap.size ≤ b14 ∧ b14 < w2.heap.size ∧ g ≠ b14) := ⟨HB0.out.size, hbw0, hg0, Nat.lt_of_lt_of_le hg1 hF16.size, hlob, Nat.lt_of_lt_of_le (lt_of hgr) hF16.size, hgb⟩
 have HCAP : Aside0 (l.length + 1 ≤ c12) := ⟨hcap⟩
 clear hR16 hgr e1 hg0 hg1 hcap hgb hlob hF16 hbw0 HJ16 f0 f1 g0 g1 hHeld
 rw [← hw2]
 clear hw2
 have x1 : w2.cell? ⟨b, 1, none⟩ = some (.slice A l.length c) := heap_cell HX2.out rfl
 have y1 : w2.cell? ⟨b14, 1, none⟩ = some (.slice (some ⟨g, 0, none⟩) (l.length + 1) c12) := heap_cell HH2.out rfl
 have f1 : w2.frozen? ⟨b14, 1, none⟩ = false := heap_free HH2.out 1
 have q1 := cut_edges g (l.length + 1) c12 l.length (by have := HCAP.out; omega)
 go_upto_region 7 with (fail)
 clear x1 y1 f1 q1
 obtain ⟨w3, hw3⟩ : ∃ w3, w3 = w2.setCell ⟨b14, 1, none⟩ (.slice (some ⟨g, 0, none⟩) l.length c12) := ⟨_, rfl⟩
 rw [← hw3]
 have hF : Mem.Frame (· = b14) w2 w3 := by rw [hw3]; exact Mem.Frame.setCell (S := (· = b14)) (p := ⟨b14, 1, none⟩) (Mem.Frame.refl _ _) rfl _
 have HH3 : Aside0 (w3.heap[b14]? = some (.cells #[.int .i64 n, .slice (some ⟨g, 0, none⟩) l.length c12] 31 (0, 0))) := ⟨by
   have := heap_set (i := 1) HH2.out (.slice (some ⟨g, 0, none⟩) l.length c12)
   rw [hw3]
   simpa using this⟩
 have HE3 : Aside0 (Kd.R kE 33 w3 w0.heap.size (fun k => k = g) (.slice (some ⟨g, 0, none⟩) (l.length + 1) c12) (l ++ [⟨77, 78⟩])) := ⟨Kd.R_step HE2.out (fun k hk hlt => hF.block k hlt (fun e => HSA.out.2.2.2.2.2.2 (by rw [← hk, e])))⟩
 have HB3 : Aside0 (Below w.heap.size w w3) := ⟨HB2.out.trans (hF.below HB2.out.size (fun k hk => by have := HSA.out; omega))⟩
 have HX3 : Aside0 (w3.heap[b]? = some (.cells #[.int .i64 n, .slice A l.length c] 31 (0, 0))) := ⟨hF.blk HX2.out (fun e => by have := HSA.out; omega)⟩
 obtain ⟨S4, hS4⟩ : ∃ S4, S4 = w3.heap.size := ⟨_, rfl⟩
 have HS4 : Aside0 (w2.heap.size ≤ S4 ∧ S4 = w3.heap.size) := ⟨by rw [hS4]; exact hF.size, hS4⟩
 clear hF hw3 hS4 HH2 HE2 HB2 HX2
 go_wp2_with fail
 refine (Sets.new_yes 20 w3 (by decide)).mono ?_
 rintro e' w4 ⟨p, bP, bS, rfl, hp1, hp2, hp3, hA, hb⟩
 have hhi := Sets.At.hi hA
 have HOWN : Aside0 (∀ k, Sets.Own p bP bS k → S4 ≤ k ∧ k < w4.heap.size) := ⟨fun k hk => by
   have := HS4.out.2
   unfold Sets.Own at hk
   omega⟩
 have HH4 := Aside0.mk ((hb.block _ (lt_of HH3.out)).trans HH3.out)
 have HE4 := Aside0.mk (Kd.R_below HE3.out hb)
 have HB4 := Aside0.mk (HB3.out.trans (hb.mono HB3.out.size))
 have HX4 := Aside0.mk ((hb.block _ (lt_of HX3.out)).trans HX3.out)
 have HA4 : Aside0 (∃ m, Sets.At w4 p bP bS m ∧ ∃ E, Sets.Part 20 E m) := ⟨_, hA, _, Sets.Part.range 20⟩
 have HF4 : Aside0 (Mem.Frame (Sets.Own p bP bS) w4 w4) := ⟨Mem.Frame.refl _ _⟩
 clear hp1 hp2 hp3 hA hb hhi HH3 HE3 HB3 HX3
 go_wp2_with fail
 go_loopw [59] (fun y ws => ∃ (i : Nat), y = .int .i64 (i : Int) ∧ i ≤ js.length ∧ Aside0 (∃ m, Sets.At ws p bP bS m ∧ ∃ E, Sets.Part 20 E m) ∧ Aside0 (Mem.Frame (Sets.Own p bP bS) w4 ws)) (fun y _ => js.length - (intOf y).toNat)
 case atStart => exact ⟨0, rfl, by omega, HA4, HF4⟩
 case round =>
   clear HA4 HF4
   obtain ⟨i, rfl, hi, HA, HF⟩ := hrel
   have hBr : Below w.heap.size w wr := HB4.out.trans (HF.out.below HB4.out.size (fun k hk => by have := HOWN.out k hk; have := HS4.out; have := HSA.out; omega))
   by_cases hlt : i < js.length
   · obtain ⟨ad, eA, hx1, hx2⟩ := (Sets.Pairs.below HRJ.out hBr) i hlt
     subst eA
     obtain ⟨m, hA, E, hE⟩ := HA.out
     obtain ⟨j1, hj1⟩ : ∃ j1, j1 = (Sets.pe js i).1 := ⟨_, rfl⟩
     obtain ⟨j2, hj2⟩ : ∃ j2, j2 = (Sets.pe js i).2 := ⟨_, rfl⟩
     rw [← hj1] at hx1
     rw [← hj2] at hx2
     have HA2 : Aside0 (Sets.At (wr.alloc (.cells #[.int .i64 j1, .int .i64 j2] 45 (0, 0))) p bP bS m) := ⟨Sets.At.frame (S := fun _ => False) hA ((Sets.Frame.refl _ wr).alloc _) (fun _ _ e => e)⟩
     have HF2 : Aside0 (Mem.Frame (Sets.Own p bP bS) w4 (wr.alloc (.cells #[.int .i64 j1, .int .i64 j2] 45 (0, 0)))) := ⟨HF.out.alloc _⟩
     have HPT : Aside0 (∃ E, Sets.Part 20 E m) := ⟨E, hE⟩
     clear hA hE hj1 hj2 hBr HA HF
     go_wp2_with fail
     obtain ⟨P, S, hps⟩ := HA2.out
     refine (Sets.join_calls p bP bS m P S j1 j2 _ hps).mono ?_
     rintro e w5 ⟨rfl, hA, hF⟩
     have HA3 : Aside0 (∃ m, Sets.At w5 p bP bS m ∧ ∃ E, Sets.Part 20 E m) := ⟨_, hA, by obtain ⟨E, hE⟩ := HPT.out; exact ⟨_, Sets.joinOf_part hE j1 j2⟩⟩
     have HF3 : Aside0 (Mem.Frame (Sets.Own p bP bS) w4 w5) := ⟨HF2.out.trans ⟨hF.os, hF.tape, hF.output, hF.size, hF.block⟩⟩
     clear hps hA hF HA2 HF2 HPT hx1 hx2
     go_wp2_with fail
     go_roundw
     case rel => exact ⟨i + 1, by go_num, by omega, HA3, HF3⟩
     case measure => simp [intOf]; omega
   · obtain rfl : i = js.length := by omega
     obtain ⟨m, hA, E, hE⟩ := HA.out
     have hF := HF.out
     have HB := Aside0.mk hBr
     have HX : Aside0 (wr.heap[b]? = some (.cells #[.int .i64 n, .slice A l.length c] 31 (0, 0))) := ⟨hF.blk HX4.out (fun hk => by have := HOWN.out _ hk; have := HS4.out; have := HSA.out; omega)⟩
     have HH : Aside0 (wr.heap[b14]? = some (.cells #[.int .i64 n, .slice (some ⟨g, 0, none⟩) l.length c12] 31 (0, 0))) := ⟨hF.blk HH4.out (fun hk => by have := HOWN.out _ hk; have := HS4.out; have := HSA.out; omega)⟩
     have HE : Aside0 (Kd.R kE 33 wr w0.heap.size (fun k => k = g) (.slice (some ⟨g, 0, none⟩) (l.length + 1) c12) (l ++ [⟨77, 78⟩])) := ⟨Kd.R_step HE4.out (fun k hk hlt => hF.block k hlt (fun q => by have := HOWN.out k q; have := HS4.out; have := HSA.out; omega))⟩
     have HM := Aside0.mk hA
     have HW4 : Aside0 (w4.heap.size ≤ wr.heap.size) := ⟨hF.size⟩
     have hml := hE.len
     have hN1 := Sets.numTo_le m m.length
     obtain ⟨N, hN⟩ : ∃ N, N = (Sets.numTo m m.length).2 := ⟨_, rfl⟩
     have hNb : N ≤ 20 := by rw [hN]; omega
     obtain ⟨gsn, hgn⟩ : ∃ gsn, gsn = Sets.groupsOf m := ⟨_, rfl⟩
     have hgl : gsn.length = N := by rw [hgn, hN]; exact Sets.groupsOf_length m
     obtain ⟨gs, hgs⟩ : ∃ gs, gs = gsn.map Sets.ints := ⟨_, rfl⟩
     have HGS : Aside0 (gs.length = N ∧ ∀ x ∈ gs, x.length ≤ 20) := ⟨by rw [hgs, List.length_map]; exact hgl, fun x hx => by
       rw [hgs, hgn] at hx
       have := Sets.groupsOf_le hx
       omega⟩
     have HNQ := Aside0.mk hN
     have HGQ := Aside0.mk hgn
     have HGI := Aside0.mk hgs
     obtain ⟨KKN, hkk⟩ := H4.out gs (by have := HGS.out.1; omega) (fun x hx => by have := HGS.out.2 x hx; omega)
     have HKK := Aside0.mk hkk
     clear hA hE hF hBr hml hN1 hN hgn hgl hgs hkk HA HF HX4 HH4 HE4 hi hlt
     have x0 : wr.cell? ⟨b, 0, none⟩ = some (.int .i64 n) := heap_cell HX.out rfl
     have x1 : wr.cell? ⟨b, 1, none⟩ = some (.slice A l.length c) := heap_cell HX.out rfl
     go_wp2_with fail
     clear x0 x1
     refine (tangramref05_Of.calls k n A c l os cn e wr (Kd.C_below HRR.out HB.out) HCC.out H2.out).mono ?_
     rintro e' w5 ⟨vw, rfl, hR, hb⟩
     obtain ⟨Aw, cw, rfl⟩ := Kd.R_slice hR
     have HSB : Aside0 (w4.heap.size ≤ wr.heap.size) := HW4
     have HWS : Aside0 (wr.heap.size ≤ w5.heap.size) := ⟨hb.size⟩
     replace HB := Aside0.mk (HB.out.trans (hb.mono HB.out.size))
     replace HX := Aside0.mk ((hb.block _ (lt_of HX.out)).trans HX.out)
     replace HH := Aside0.mk ((hb.block _ (lt_of HH.out)).trans HH.out)
     replace HE := Aside0.mk (Kd.R_below HE.out hb)
     replace HM := Aside0.mk (At_below HM.out hb)
     (try replace HWT := Aside0.mk (HWT.out.below hb))
     (try replace HG1 := Aside0.mk (G_below HG1.out hb))
     (try replace HKP := Aside0.mk (Kd.R_below HKP.out hb))
     (try replace HHE := Aside0.mk (HHE.out.below hb))
     (try replace HRA := Aside0.mk (Kd.R_below HRA.out hb))
     (try replace HOF := Aside0.mk (HOF.out.below hb))
     (try replace HHG := Aside0.mk (HHG.out.below hb))
     (try replace HG2 := Aside0.mk (G_below HG2.out hb))
     have HWT := Aside0.mk (Own.Lst.of hR)
     clear hR hb
     go_wp2_with fail
     obtain ⟨P, S, hps⟩ := HM.out
     refine (Sets.groups_calls p bP bS m P S w5 hps).mono ?_
     rintro e' w6 ⟨B, bo, vs, rfl, hbo, hG, hA, hF1⟩
     have hF : Mem.Frame (Sets.Own p bP bS) w5 w6 := ⟨hF1.os, hF1.tape, hF1.output, hF1.size, hF1.block⟩
     replace HM := Aside0.mk hA
     replace HB := Aside0.mk (HB.out.trans (hF.below HB.out.size (fun k hk => by have := HOWN.out k hk; have := HS4.out; have := HSA.out; omega)))
     replace HX := Aside0.mk (hF.blk HX.out (fun hk => by have := HOWN.out _ hk; have := HS4.out; have := HSA.out; omega))
     replace HH := Aside0.mk (hF.blk HH.out (fun hk => by have := HOWN.out _ hk; have := HS4.out; have := HSA.out; omega))
     replace HE := Aside0.mk (Kd.R_step HE.out (fun k hk hlt => hF.block k hlt (fun q => by have := HOWN.out k q; have := HS4.out; have := HSA.out; omega)))
     (try replace HWT := Aside0.mk (HWT.out.frame hF (fun k a b q => by have := HOWN.out k q; have := HSB.out; omega)))
     (try replace HG1 := Aside0.mk (G_frame HG1.out hF (fun k q => by have := HOWN.out k q; have := HSC.out; omega)))
     (try replace HKP := Aside0.mk (Kd.R_step HKP.out (fun k hk hlt => hF.block k hlt (fun q => by have := HOWN.out k q; have := HSD.out; omega))))
     (try replace HHE := Aside0.mk (HHE.out.frame hF (fun k a b q => by have := HOWN.out k q; have := HSE.out; omega)))
     (try replace HRA := Aside0.mk (Kd.R_mono (Kd.R_step (Kd.R_bound HRA.out) (fun k hk hlt => hF.block k hlt (fun q => by have := hk.2.1; have := HOWN.out k q; have := HSE.out; omega))) (fun _ _ => trivial)))
     (try replace HOF := Aside0.mk (HOF.out.frame hF (fun k a b q => by have := HOWN.out k q; have := HSO.out; omega)))
     (try replace HHG := Aside0.mk (HHG.out.frame hF (fun k a b q => by have := HOWN.out k q; have := HSC.out; have := HSZ6.out; omega)))
     rw [← HGQ.out] at hG
     have HG1 := Aside0.mk hG
     have HSC : Aside0 (w4.heap.size ≤ bo ∧ bo < w6.heap.size) := ⟨by have := HWS.out; have := HSB.out; omega, lt_of hG.out⟩
     have HSZ6 : Aside0 (w5.heap.size ≤ bo ∧ w5.heap.size ≤ w6.heap.size ∧ bo < B ∧ B ≤ w6.heap.size) := ⟨hbo, hF.size, hG.lt, hG.base⟩
     clear hps hbo hG hA hF1 hF
     rw [← HNQ.out]
     obtain ⟨CY, hcy, mk2⟩ := make_lists N (by omega)
     go_upto_region 18 with (fail)
     clear mk2
     obtain ⟨w7, hw7⟩ : ∃ w7, w7 = w6.alloc (.cells CY 34 (0, 0)) := ⟨_, rfl⟩
     rw [← hw7]
     have hb : Below w6.heap.size w6 w7 := by rw [hw7]; exact (Below.refl _ _).alloc (Nat.le_refl _) _
     have HS7 : Aside0 (w6.heap.size ≤ w7.heap.size) := ⟨hb.size⟩
     have HK7 : Aside0 (Kd.R KR 34 w7 w6.heap.size (fun _ => True) (.slice (some ⟨w6.heap.size, 0, none⟩) 0 N) (gs.take 0)) := ⟨by
       rw [hw7]
       exact ⟨fun _ _ => trivial, [], World.ownsRow_made w6 CY N (Nat.le_refl _) (by unfold maxLen; omega) hcy, Reps.none _ _⟩⟩
     have HGC : Aside0 (Kd.C KR w6 (some ⟨bo, 0, none⟩) gs.length gs) := ⟨by rw [HGI.out]; exact G_reads HG1.out (by have h1 := HGS.out.1; rw [HGI.out, List.length_map] at h1; omega)⟩
     have HHG : Aside0 (Heaps w6 B w6.heap.size vs gs) := ⟨by rw [HGI.out]; exact G_heaps HG1.out⟩
     have HBL7 : Aside0 (Below w6.heap.size w6 w7) := ⟨hb⟩
     have HVL : Aside0 (vs.length = N) := ⟨by have h1 := HHG.out.len; have h2 := HGS.out.1; omega⟩
     clear hw7 hb hcy
     go_wp2_with fail
     go_loopw [16, 83] (fun u y ws => ∃ (j : Nat) (Ak : Option Addr) (ck : Nat), u = .slice Ak j ck ∧ y = .int .i64 (j : Int) ∧ j ≤ N ∧ Aside0 (Kd.R KR 34 ws w6.heap.size (fun _ => True) (.slice Ak j ck) (gs.take j)) ∧ Aside0 (Below w6.heap.size w6 ws)) (fun _ y _ => N - (intOf y).toNat)
     case atStart => exact ⟨0, _, N, rfl, rfl, by omega, HK7, HBL7⟩
     case round =>
       clear HK7 HBL7
       obtain ⟨j, Ak, ck, rfl, rfl, hj, HK, HBL⟩ := hrel
       by_cases hlt : j < N
       · have hjg : j < gs.length := by have := HGS.out.1; omega
         have hsz : w6.heap.size ≤ wr.heap.size := HBL.out.size
         obtain ⟨ad, D, cD, eA, hx0, hcD, hrow⟩ := row_at (Kd.C_below HGC.out HBL.out) hjg
         injection eA with eA
         subst eA
         rw [add_plain] at hx0
         obtain ⟨row, hrw⟩ : ∃ row, row = gl gs j := ⟨_, rfl⟩
         rw [← hrw] at hx0 hcD hrow
         have hrl : row.length ≤ 20 := by
           rw [hrw]
           unfold gl
           rw [List.getD_eq_getElem?_getD, List.getElem?_eq_getElem hjg]
           exact HGS.out.2 _ (List.getElem_mem hjg)
         have HRW := Aside0.mk hrw
         have HRL := Aside0.mk hrl
         have HSZ := Aside0.mk hsz
         have HJG := Aside0.mk hjg
         have hb0 : Below wr.heap.size wr (wr.alloc (.cells #[] 3 (0, 0))) := (Below.refl _ _).alloc (Nat.le_refl _) _
         have HO : Aside0 (Kd.R (Kd.int .i64) 3 (wr.alloc (.cells #[] 3 (0, 0))) wr.heap.size (fun _ => True) (.slice (some ⟨wr.heap.size, 0, none⟩) 0 0) []) := ⟨Kd.R_of_own (World.ownsRow_lit (base := wr.heap.size) (size := 1) (e := 3) wr #[] 0 (Nat.le_refl _) (by unfold maxLen; omega) rfl) (fun _ _ => trivial)⟩
         have HL := Aside0.mk (Kd.C_below hrow hb0)
         have HB2 := Aside0.mk hb0
         have hzl : (([] : List Int).length + row.length) * 8 ≤ 140737488351232 := by simp; omega
         clear hrow hb0 hrw hrl hsz hjg
         go_wp2_with (at_builtin; go_loud (refine Kd.R_append_rows (Kd.int .i64) (Rr := (Kd.int .i64).K (wr.alloc (.cells #[] 3 (0, 0)))) (w0 := wr) (W := wr.alloc (.cells #[] 3 (0, 0))) wr.heap.size rfl _ _ 34 3 (.int .i64 0) 8 rfl Try.underlying34 info_int rfl (by decide) (by decide) (.slice (some ⟨wr.heap.size, 0, none⟩) 0 0) [] row D row.length cD (fun _ => True) (fun _ => False) rfl rfl HO.out HL.out (fun _ _ h => h) (fun _ h => h.elim) (fun _ _ => trivial) HB2.out HB2.out.size (by have := hzl; simp at this ⊢; omega) ?_))
         intro v1 w8 hR hb1 _ _
         obtain ⟨D1, d1, rfl, _, _⟩ := Kd.R_reads hR
         have HK8 := Aside0.mk (Kd.R_below HK.out hb1)
         have HBL8 : Aside0 (Below w6.heap.size w6 w8) := ⟨HBL.out.trans (hb1.mono HSZ.out)⟩
         have HP8 : Aside0 (KR.M w8 w6.heap.size (fun k => wr.heap.size ≤ k) row [.slice D1 row.length d1]) := ⟨⟨_, rfl, Kd.R_lower (Kd.R_mono (Kd.R_bound hR) (fun k hk => hk.2.1)) HSZ.out⟩⟩
         have HNE : Aside0 (∀ k, wr.heap.size ≤ k → True ∧ some k ≠ (Value.slice Ak j ck).ownBlock) := ⟨fun k hk => ⟨trivial, fun e => by have := Kd.R_lt HK.out k e.symm; omega⟩⟩
         have HTL : Aside0 (((gs.take j).length + 1) * 24 ≤ 140737488355328) := ⟨by rw [List.length_take]; omega⟩
         clear hR hb1 HO HL HB2 hzl hx0 HK HBL
         go_wp2_with ((with_reducible refine gate_builtin (b := .append) (xs := #[.tmp 87, .tmp 91]) rfl ?_); at_builtin; refine Kd.R_append KR (w0 := w6) (W := w8) w6.heap.size rfl (.tmp 87) (.tmp 91) 51 34 (.slice none 0 0) 24 rfl Try.underlying51 info_ints rfl (by decide) (by omega) (.slice Ak j ck) (gs.take j) row [.slice D1 row.length d1] (fun _ => True) (fun k => wr.heap.size ≤ k) rfl rfl HP8.out HNE.out (fun _ _ => trivial) HK8.out HBL8.out HBL8.out.size HTL.out ?_)
         intro v9 w9 hR9 hb9 _ _
         have e9 : gs.take j ++ [row] = gs.take (j + 1) := by
           have hjg := HJG.out
           rw [List.take_add_one, HRW.out, gl_of hjg]
           rfl
         have l9 : (gs.take (j + 1)).length = j + 1 := by have := HJG.out; rw [List.length_take]; omega
         rw [e9] at hR9
         obtain ⟨A9, c9, rfl⟩ := Kd.R_slice hR9
         rw [l9] at hR9 ⊢
         have HK9 := Aside0.mk hR9
         have HBL9 := Aside0.mk hb9
         clear hR9 hb9 e9 l9 HK8 HBL8 HP8 HNE HTL HRW HRL HSZ HJG hcD
         go_wp2_with fail
         go_roundw
         case rel => exact ⟨j + 1, A9, c9, rfl, by go_num, by omega, HK9, HBL9⟩
         case measure => simp [intOf]; omega
       · obtain rfl : N = j := by omega
         have hb := HBL.out
         have HS7 : Aside0 (w6.heap.size ≤ wr.heap.size) := ⟨hb.size⟩
         replace HB := Aside0.mk (HB.out.trans (hb.mono HB.out.size))
         replace HX := Aside0.mk ((hb.block _ (lt_of HX.out)).trans HX.out)
         replace HH := Aside0.mk ((hb.block _ (lt_of HH.out)).trans HH.out)
         replace HE := Aside0.mk (Kd.R_below HE.out hb)
         replace HM := Aside0.mk (At_below HM.out hb)
         (try replace HWT := Aside0.mk (HWT.out.below hb))
         (try replace HG1 := Aside0.mk (G_below HG1.out hb))
         (try replace HKP := Aside0.mk (Kd.R_below HKP.out hb))
         (try replace HHE := Aside0.mk (HHE.out.below hb))
         (try replace HRA := Aside0.mk (Kd.R_below HRA.out hb))
         (try replace HOF := Aside0.mk (HOF.out.below hb))
         (try replace HHG := Aside0.mk (HHG.out.below hb))
         (try replace HG2 := Aside0.mk (G_below HG2.out hb))
         have HKP : Aside0 (Kd.R KR 34 wr w6.heap.size (fun k => w6.heap.size ≤ k ∧ k < wr.heap.size) (.slice Ak N ck) gs) := ⟨by
           have := HK.out
           rw [List.take_of_length_le (by have := HGS.out.1; omega)] at this
           exact Kd.R_mono (Kd.R_bound this) (fun k hk => ⟨hk.2.1, hk.2.2.1⟩)⟩
         have HSD : Aside0 (w4.heap.size ≤ w6.heap.size) := ⟨by have := HSZ6.out; have := HSC.out; omega⟩
         obtain ⟨SL, hSL⟩ : ∃ SL, SL = wr.heap.size := ⟨_, rfl⟩
         rw [← hSL] at HKP HS7
         have HSE : Aside0 (w4.heap.size ≤ SL ∧ w6.heap.size ≤ SL) := ⟨by have := HSD.out; have := HS7.out; omega⟩
         obtain ⟨wL, hwL⟩ : ∃ wL, wL = wr := ⟨_, rfl⟩
         have HLS : Aside0 (SL = wL.heap.size) := ⟨by rw [hSL, hwL]⟩
         have HFA : Aside0 (Mem.Frame (Sets.Own p bP bS) wL wr) := ⟨by rw [hwL]; exact Mem.Frame.refl _ _⟩
         have HMA : Aside0 (Sets.At wr p bP bS m) := HM
         have HRA0 : Aside0 (Kd.R (Kd.raw 1) 34 wr SL (fun _ => True) (.slice none 0 ([] : List Value).length) (ones [])) := ⟨Kd.R_nil _ _ _ _ _⟩
         have HHE0 : Aside0 (Heaps wr SL wr.heap.size [] []) := ⟨Heaps.nil _ _ _⟩
         rw [← hwL] at HB HX HH HE HM HWT HG1 HHG HKP
         clear hb HBL HK hSL hwL hlt hj
         go_wp2_with fail
         go_loopw [19, 20] (fun u y ws => ∃ (q M : Nat) (Aa : Option Addr) (ca : Nat) (T : List Value) (D : List (List Int)), u = .slice Aa M ca ∧ y = .int .i64 (q : Int) ∧ q ≤ 6 ∧ Aside0 (M ≤ q * 21 ∧ (∀ x ∈ D, x.length ≤ 9000000) ∧ T.length = M) ∧ Aside0 (Kd.R (Kd.raw 1) 34 ws SL (fun _ => True) (.slice Aa M ca) (ones T)) ∧ Aside0 (Heaps ws SL ws.heap.size T D) ∧ Aside0 (Sets.At ws p bP bS m) ∧ Aside0 (Mem.Frame (Sets.Own p bP bS) wL ws)) (fun _ y _ => 6 - (intOf y).toNat)
         case atStart => exact ⟨0, 0, none, 0, [], [], rfl, rfl, by omega, ⟨⟨by omega, (fun x hx => absurd hx (by simp)), rfl⟩⟩, HRA0, HHE0, HMA, HFA⟩
         case round =>
           clear HRA0 HHE0 HMA HFA HM
           obtain ⟨q, M, Aa, ca, T, D, rfl, rfl, hq, HTL, HRA, HHE, HM, HFA⟩ := hrel
           have hF := HFA.out
           by_cases hlt : q < 6
           · have s1 : decide ((q : Int) < 6) = true := decide_eq_true (by omega)
             replace HB := Aside0.mk (HB.out.trans (hF.below HB.out.size (fun k hk => by have := HOWN.out k hk; have := HS4.out; have := HSA.out; omega)))
             replace HX := Aside0.mk (hF.blk HX.out (fun hk => by have := HOWN.out _ hk; have := HS4.out; have := HSA.out; omega))
             replace HH := Aside0.mk (hF.blk HH.out (fun hk => by have := HOWN.out _ hk; have := HS4.out; have := HSA.out; omega))
             replace HE := Aside0.mk (Kd.R_step HE.out (fun k hk hlt => hF.block k hlt (fun q => by have := HOWN.out k q; have := HS4.out; have := HSA.out; omega)))
             (try replace HWT := Aside0.mk (HWT.out.frame hF (fun k a b q => by have := HOWN.out k q; have := HSB.out; omega)))
             (try replace HG1 := Aside0.mk (G_frame HG1.out hF (fun k q => by have := HOWN.out k q; have := HSC.out; omega)))
             (try replace HKP := Aside0.mk (Kd.R_step HKP.out (fun k hk hlt => hF.block k hlt (fun q => by have := HOWN.out k q; have := HSD.out; omega))))
             (try replace HHG := Aside0.mk (HHG.out.frame hF (fun k a b q => by have := HOWN.out k q; have := HSC.out; have := HSZ6.out; omega)))
             have HSR : Aside0 (SL ≤ wr.heap.size) := ⟨by rw [HLS.out]; exact hF.size⟩
             have HRO : Aside0 (∀ k, (Value.slice Aa M ca).ownBlock = some k → k < wr.heap.size) := ⟨fun k hk => Kd.R_lt HRA.out k hk⟩
             have HCE : Aside0 (Kd.C kE wr (some ⟨g, 0, none⟩) l.length l) := ⟨by
               have h := Kd.C_take (m := l.length) (Kd.R_reads' HE.out).2.2 (by simp)
               rw [List.take_left] at h
               exact h⟩
             have y0 : wr.cell? ⟨b14, 0, none⟩ = some (.int .i64 n) := heap_cell HH.out rfl
             have y1 : wr.cell? ⟨b14, 1, none⟩ = some (.slice (some ⟨g, 0, none⟩) l.length c12) := heap_cell HH.out rfl
             clear hF
             go_wp2_with fail
             clear y0 y1
             refine (comps_Of.calls k n (some ⟨g, 0, none⟩) c12 l os cn e wr HCE.out (by have := HCAP.out; omega) H1.out).mono ?_
             rintro e' w8 ⟨vo, rfl, hR, hb⟩
             obtain ⟨Ao, co, rfl⟩ := Kd.R_slice hR
             replace HB := Aside0.mk (HB.out.trans (hb.mono HB.out.size))
             replace HX := Aside0.mk ((hb.block _ (lt_of HX.out)).trans HX.out)
             replace HH := Aside0.mk ((hb.block _ (lt_of HH.out)).trans HH.out)
             replace HE := Aside0.mk (Kd.R_below HE.out hb)
             replace HM := Aside0.mk (At_below HM.out hb)
             (try replace HWT := Aside0.mk (HWT.out.below hb))
             (try replace HG1 := Aside0.mk (G_below HG1.out hb))
             (try replace HKP := Aside0.mk (Kd.R_below HKP.out hb))
             (try replace HHE := Aside0.mk (HHE.out.below hb))
             (try replace HRA := Aside0.mk (Kd.R_below HRA.out hb))
             (try replace HOF := Aside0.mk (HOF.out.below hb))
             (try replace HHG := Aside0.mk (HHG.out.below hb))
             (try replace HG2 := Aside0.mk (G_below HG2.out hb))
             have HFA8 := Aside0.mk (HFA.out.trans (Mem.Frame.of_below hb))
             have HS8 : Aside0 (wr.heap.size ≤ w8.heap.size) := ⟨hb.size⟩
             have HOF := Aside0.mk (Own.Lst.of hR)
             clear hR hb HCE HFA
             go_wp2_with fail
             obtain ⟨P, S, hps⟩ := HM.out
             refine (Sets.groups_calls p bP bS m P S w8 hps).mono ?_
             rintro e' w9 ⟨B2, bo2, vs2, rfl, hbo2, hG, hA, hF1⟩
             have hF : Mem.Frame (Sets.Own p bP bS) w8 w9 := ⟨hF1.os, hF1.tape, hF1.output, hF1.size, hF1.block⟩
             have HSO : Aside0 (w4.heap.size ≤ wr.heap.size) := ⟨by have := HSE.out; have := HSR.out; omega⟩
             replace HM := Aside0.mk hA
             replace HB := Aside0.mk (HB.out.trans (hF.below HB.out.size (fun k hk => by have := HOWN.out k hk; have := HS4.out; have := HSA.out; omega)))
             replace HX := Aside0.mk (hF.blk HX.out (fun hk => by have := HOWN.out _ hk; have := HS4.out; have := HSA.out; omega))
             replace HH := Aside0.mk (hF.blk HH.out (fun hk => by have := HOWN.out _ hk; have := HS4.out; have := HSA.out; omega))
             replace HE := Aside0.mk (Kd.R_step HE.out (fun k hk hlt => hF.block k hlt (fun q => by have := HOWN.out k q; have := HS4.out; have := HSA.out; omega)))
             (try replace HWT := Aside0.mk (HWT.out.frame hF (fun k a b q => by have := HOWN.out k q; have := HSB.out; omega)))
             (try replace HG1 := Aside0.mk (G_frame HG1.out hF (fun k q => by have := HOWN.out k q; have := HSC.out; omega)))
             (try replace HKP := Aside0.mk (Kd.R_step HKP.out (fun k hk hlt => hF.block k hlt (fun q => by have := HOWN.out k q; have := HSD.out; omega))))
             (try replace HHE := Aside0.mk (HHE.out.frame hF (fun k a b q => by have := HOWN.out k q; have := HSE.out; omega)))
             (try replace HRA := Aside0.mk (Kd.R_mono (Kd.R_step (Kd.R_bound HRA.out) (fun k hk hlt => hF.block k hlt (fun q => by have := hk.2.1; have := HOWN.out k q; have := HSE.out; omega))) (fun _ _ => trivial)))
             (try replace HOF := Aside0.mk (HOF.out.frame hF (fun k a b q => by have := HOWN.out k q; have := HSO.out; omega)))
             (try replace HHG := Aside0.mk (HHG.out.frame hF (fun k a b q => by have := HOWN.out k q; have := HSC.out; have := HSZ6.out; omega)))
             have HFA9 := Aside0.mk (HFA8.out.trans hF)
             have HS9 : Aside0 (w8.heap.size ≤ bo2 ∧ bo2 < B2 ∧ B2 ≤ w9.heap.size ∧ w8.heap.size ≤ w9.heap.size) := ⟨hbo2, hG.lt, hG.base, hF.size⟩
             rw [← HGQ.out] at hG
             have HG2 := Aside0.mk hG
             have hC2 := G_reads hG (by have h1 := HGS.out.1; rw [HGI.out, List.length_map] at h1; omega)
             rw [← HGI.out] at hC2
             have HC2 := Aside0.mk hC2
             clear hps hbo2 hG hA hF1 hF HFA8 hC2
             rw [← HNQ.out]
             go_wp2_with fail
             refine (tangramref01_SameInts.calls k Ao co os Aw cw os true w9 HOF.out.reads.1 HOF.out.reads.2 HWT.out.reads.1 HWT.out.reads.2 H3.out).mono ?_
             rintro e' w10 ⟨rfl, hd⟩
             have hb := hd.below
             replace HB := Aside0.mk (HB.out.trans (hb.mono HB.out.size))
             replace HX := Aside0.mk ((hb.block _ (lt_of HX.out)).trans HX.out)
             replace HH := Aside0.mk ((hb.block _ (lt_of HH.out)).trans HH.out)
             replace HE := Aside0.mk (Kd.R_below HE.out hb)
             replace HM := Aside0.mk (At_below HM.out hb)
             (try replace HWT := Aside0.mk (HWT.out.below hb))
             (try replace HG1 := Aside0.mk (G_below HG1.out hb))
             (try replace HKP := Aside0.mk (Kd.R_below HKP.out hb))
             (try replace HHE := Aside0.mk (HHE.out.below hb))
             (try replace HRA := Aside0.mk (Kd.R_below HRA.out hb))
             (try replace HOF := Aside0.mk (HOF.out.below hb))
             (try replace HHG := Aside0.mk (HHG.out.below hb))
             (try replace HG2 := Aside0.mk (G_below HG2.out hb))
             replace HC2 := Aside0.mk (Kd.C_below HC2.out hb)
             have HFA10 := Aside0.mk (HFA9.out.trans (Mem.Frame.of_below hb))
             have HS10 : Aside0 (w9.heap.size ≤ w10.heap.size) := ⟨hb.size⟩
             clear hb hd HFA9
             go_wp2_with fail
             have hCK := (Kd.R_reads' HKP.out).2
             refine (same_lists KKN N (some ⟨bo2, 0, none⟩) N Ak ck gs HGS.out.1 w10 HC2.out (Nat.le_refl _) hCK.2 hCK.1 HKK.out).mono ?_
             rintro e' w11 ⟨rfl, hd⟩
             have hb := hd.below
             replace HB := Aside0.mk (HB.out.trans (hb.mono HB.out.size))
             replace HX := Aside0.mk ((hb.block _ (lt_of HX.out)).trans HX.out)
             replace HH := Aside0.mk ((hb.block _ (lt_of HH.out)).trans HH.out)
             replace HE := Aside0.mk (Kd.R_below HE.out hb)
             replace HM := Aside0.mk (At_below HM.out hb)
             (try replace HWT := Aside0.mk (HWT.out.below hb))
             (try replace HG1 := Aside0.mk (G_below HG1.out hb))
             (try replace HKP := Aside0.mk (Kd.R_below HKP.out hb))
             (try replace HHE := Aside0.mk (HHE.out.below hb))
             (try replace HRA := Aside0.mk (Kd.R_below HRA.out hb))
             (try replace HOF := Aside0.mk (HOF.out.below hb))
             (try replace HHG := Aside0.mk (HHG.out.below hb))
             (try replace HG2 := Aside0.mk (G_below HG2.out hb))
             have HFA11 := Aside0.mk (HFA10.out.trans (Mem.Frame.of_below hb))
             have HS11 : Aside0 (w10.heap.size ≤ w11.heap.size) := ⟨hb.size⟩
             clear hb hd HFA10 HC2 hCK
             have HOT : Aside0 (Heaps w11 B2 w11.heap.size vs2 gs ∧ Outer w11 (some ⟨bo2, 0, none⟩) vs2) := ⟨⟨by rw [HGI.out]; exact G_heaps HG2.out, G_outer HG2.out⟩⟩
             have hv2 : vs2.length = N := by have h1 := HOT.out.1.len; have h2 := HGS.out.1; omega
             have HO1 : Aside0 (Heaps w11 wr.heap.size w8.heap.size [.slice Ao os.length co] [os]) := ⟨by
               have h := Heaps.one HOF.out.R
               refine ⟨h.len, ⟨fun j hj => ?_, h.pile.apart⟩⟩
               obtain rfl : j = 0 := by simpa using hj
               exact PRow.of_R HOF.out.R⟩
             have HTN : Aside0 ((ones T).length = M) := ⟨by rw [ones_length]; exact HTL.out.2.2⟩
             have HLB : Aside0 (((ones T).length + 1) * 24 ≤ 140737488355328) := ⟨by rw [ones_length, HTL.out.2.2]; have := HTL.out.1; omega⟩
             have HBW : Aside0 (Below SL w11 w11) := ⟨Below.refl _ _⟩
             have HSW : Aside0 (SL ≤ w11.heap.size) := ⟨by have := HSR.out; have := HS8.out; have := HS9.out; have := HS10.out; have := HS11.out; omega⟩
             have HVN := Aside0.mk hv2
             clear hv2
             go_wp2_with ((with_reducible refine gate_builtin (b := .append) (xs := #[.tmp 116, .tmp 118]) rfl ?_); at_builtin; refine Kd.R_append (Kd.raw 1) (w0 := w11) (W := w11) SL rfl (.tmp 116) (.tmp 118) 51 34 (.slice none 0 0) 24 rfl Try.underlying51 info_ints rfl (by decide) (by omega) (.slice Aa M ca) (ones T) [.slice Ao os.length co] [.slice Ao os.length co] (fun _ => True) (fun _ => False) rfl rfl (one_raw _ rfl _ _ _) (fun _ hk => hk.elim) (fun _ _ => trivial) HRA.out HBW.out HSW.out HLB.out ?_)
             intro v12 w12 hR12 hb12 hg12 hat12
             clear hat12
             rw [← ones_snoc] at hR12
             obtain ⟨A12, c13, rfl⟩ := Kd.R_slice hR12
             rw [ones_length] at hR12 ⊢
             have hty := Kd.R_typed HRA.out
             have hH12 := HHE.out.grown hty hg12
             have hO12 := HO1.out.grown hty hg12
             have h2H12 := HOT.out.1.grown hty hg12
             have hbo2 : Outer w12 (some ⟨bo2, 0, none⟩) vs2 := ⟨fun j hj => by
               obtain ⟨g9, e9, hc9⟩ := HOT.out.2.cells j hj
               injection e9 with e9
               injection e9 with e9
               subst e9
               exact ⟨bo2, rfl, (World.cell?_of_block (hg12.block bo2 (cell_lt hc9) (fun e => by
                 have h := HRO.out bo2 e.symm
                 have := HS9.out
                 have := HS8.out
                 omega))).trans hc9⟩⟩
             have hF12 : Mem.Frame (fun k => SL ≤ k) w11 w12 := ⟨hg12.os, hg12.tape, hg12.output, hg12.size, fun k hk hs => hg12.block k hk (fun e => hs (Kd.R_base HRA.out k e.symm))⟩
             have hRd : Kd.C (Kd.raw 1) w12 (some ⟨bo2, 0, none⟩) vs2.length (ones vs2) := hbo2.reads h2H12 (by have := HVN.out; omega)
             rw [HVN.out] at hRd
             have HR12 := Aside0.mk hR12
             have HH12 := Aside0.mk hH12
             have HO12 := Aside0.mk hO12
             have H2H12 := Aside0.mk h2H12
             have HF12 := Aside0.mk hF12
             have HRD := Aside0.mk hRd
             have HB12 := Aside0.mk hb12
             have HSW12 : Aside0 (SL ≤ w12.heap.size) := ⟨Nat.le_trans HSW.out hg12.size⟩
             have HLN : Aside0 ((T ++ [Value.slice Ao os.length co]).length = M + 1) := ⟨by rw [List.length_append, HTL.out.2.2]; rfl⟩
             rw [HLN.out] at HR12 ⊢
             have HL2 : Aside0 ((M + 1 + N) * 24 ≤ 140737488355328) := ⟨by have := HTL.out.1; omega⟩
             clear hR12 hb12 hg12 hty hH12 hO12 h2H12 hbo2 hF12 hRd HRA HHE HO1 HLB HBW HSW HTN
             go_wp2_with (at_builtin; refine raw_rows rfl _ _ 51 rfl Try.underlying51 info_ints SL A12 (M + 1) c13 (T ++ [.slice Ao os.length co]) vs2 (some ⟨bo2, 0, none⟩) N N rfl rfl HR12.out HRD.out HSW12.out HLN.out HL2.out ?_)
             intro A13 c14 w13 hR13 hg13
             have hty := Kd.R_typed HR12.out
             have hF13 : Mem.Frame (fun k => SL ≤ k) w12 w13 := ⟨hg13.os, hg13.tape, hg13.output, hg13.size, fun k hk hs => hg13.block k hk (fun e => hs (Kd.R_base HR12.out k e.symm))⟩
             have hF := HF12.out.trans hF13
             have hHa := HH12.out.grown hty hg13
             have hHb := HO12.out.grown hty hg13
             have hHc := H2H12.out.grown hty hg13
             have HH13 : Aside0 (Heaps w13 SL w13.heap.size (T ++ [.slice Ao os.length co] ++ vs2) (D ++ [os] ++ gs)) := ⟨by
               have h1 := hHa.app hHb HSR.out HS8.out
               have h2 := (h1.wide (Nat.le_refl SL) (show w8.heap.size ≤ B2 by have := HS9.out; omega)).app hHc (by have := HSR.out; have := HS8.out; have := HS9.out; omega) (by have := HS9.out; have := HS10.out; have := HS11.out; omega)
               exact h2.wide (Nat.le_refl _) hF.size⟩
             have HM13 : Aside0 (Sets.At w13 p bP bS m) := ⟨Sets.At.frame (S := fun k => SL ≤ k) HM.out ⟨hF.os, hF.tape, hF.output, hF.size, hF.block⟩ (fun k hk e => by have := HOWN.out k hk; have := HSE.out; omega)⟩
             have HFA13 : Aside0 (Mem.Frame (Sets.Own p bP bS) wL w13) := ⟨⟨hF.os.trans HFA11.out.os, hF.tape.trans HFA11.out.tape, hF.output.trans HFA11.out.output, Nat.le_trans HFA11.out.size hF.size, fun k hk hs => (hF.block k (Nat.lt_of_lt_of_le hk HFA11.out.size) (fun e => by have := HLS.out; omega)).trans (HFA11.out.block k hk hs)⟩⟩
             have HT13 : Aside0 (M + 1 + N ≤ (q + 1) * 21 ∧ (∀ x ∈ D ++ [os] ++ gs, x.length ≤ 9000000) ∧ (T ++ [Value.slice Ao os.length co] ++ vs2).length = M + 1 + N) := ⟨⟨by have := HTL.out.1; omega, fun x hx => by
               rcases List.mem_append.1 hx with hx | hx
               · rcases List.mem_append.1 hx with hx | hx
                 · exact HTL.out.2.1 x hx
                 · rw [List.mem_singleton.1 hx]; exact HOS.out
               · have := HGS.out.2 x hx; omega, by rw [List.length_append, HLN.out, HVN.out]⟩⟩
             have HR13 : Aside0 (Kd.R (Kd.raw 1) 34 w13 SL (fun _ => True) (.slice A13 (M + 1 + N) c14) (ones (T ++ [Value.slice Ao os.length co] ++ vs2))) := ⟨by first | exact hR13 | (rw [List.append_assoc]; exact hR13)⟩
             clear hR13 hg13 hty hF13 hF hHa hHb hHc HH12 HO12 H2H12 HF12 HRD HB12 HSW12 HL2 HR12 HOT HM HFA11 HG2 HOF
             go_wp2_with fail
             clear s1
             go_roundw
             case rel => exact ⟨q + 1, M + 1 + N, A13, c14, _, _, rfl, by go_num, by omega, HT13, HR13, HH13, HM13, HFA13⟩
             case measure => simp [intOf]; omega
           · obtain rfl : q = 6 := by omega
             clear hq hlt
             replace HB := Aside0.mk (HB.out.trans (hF.below HB.out.size (fun k hk => by have := HOWN.out k hk; have := HS4.out; have := HSA.out; omega)))
             replace HX := Aside0.mk (hF.blk HX.out (fun hk => by have := HOWN.out _ hk; have := HS4.out; have := HSA.out; omega))
             replace HH := Aside0.mk (hF.blk HH.out (fun hk => by have := HOWN.out _ hk; have := HS4.out; have := HSA.out; omega))
             replace HE := Aside0.mk (Kd.R_step HE.out (fun k hk hlt => hF.block k hlt (fun q => by have := HOWN.out k q; have := HS4.out; have := HSA.out; omega)))
             (try replace HWT := Aside0.mk (HWT.out.frame hF (fun k a b q => by have := HOWN.out k q; have := HSB.out; omega)))
             (try replace HG1 := Aside0.mk (G_frame HG1.out hF (fun k q => by have := HOWN.out k q; have := HSC.out; omega)))
             (try replace HKP := Aside0.mk (Kd.R_step HKP.out (fun k hk hlt => hF.block k hlt (fun q => by have := HOWN.out k q; have := HSD.out; omega))))
             (try replace HHG := Aside0.mk (HHG.out.frame hF (fun k a b q => by have := HOWN.out k q; have := HSC.out; have := HSZ6.out; omega)))
             have HSR : Aside0 (SL ≤ wr.heap.size) := ⟨by rw [HLS.out]; exact hF.size⟩
             have HRO : Aside0 (∀ k, (Value.slice Aa M ca).ownBlock = some k → SL ≤ k ∧ k < wr.heap.size) := ⟨fun k hk => ⟨Kd.R_base HRA.out k hk, Kd.R_lt HRA.out k hk⟩⟩
             have HOV : Aside0 (Outer wr (some ⟨bo, 0, none⟩) vs) := ⟨G_outer HG1.out⟩
             have hRd : Kd.C (Kd.raw 1) wr (some ⟨bo, 0, none⟩) vs.length (ones vs) := HOV.out.reads HHG.out (by have := HVL.out; omega)
             rw [HVL.out] at hRd
             have HRD := Aside0.mk hRd
             have HL2 : Aside0 ((M + N) * 24 ≤ 140737488355328) := ⟨by have := HTL.out.1; omega⟩
             clear hF hRd HOV
             go_wp2_with (at_builtin; refine raw_rows rfl _ _ 51 rfl Try.underlying51 info_ints SL Aa M ca T vs (some ⟨bo, 0, none⟩) N N rfl rfl HRA.out HRD.out HSR.out HTL.out.2.2 HL2.out ?_)
             intro A13 c14 w13 hR13 hg13
             have hty := Kd.R_typed HRA.out
             have hF13 : Mem.Frame (fun k => SL ≤ k) wr w13 := ⟨hg13.os, hg13.tape, hg13.output, hg13.size, fun k hk hs => hg13.block k hk (fun e => hs (HRO.out k e.symm).1)⟩
             have hz1 := HSA.out
             have hz2 := HS4.out
             have hz3 := HSE.out
             have hz4 := HSZ6.out
             have HHF : Aside0 (Heaps w13 B w13.heap.size (T ++ vs) (D ++ gs)) := ⟨by
               have h1 := HHE.out.grown hty hg13
               have h2 := HHG.out.grown hty hg13
               exact (h1.app2 h2 (by omega) (by omega) HSR.out).wide (Nat.le_refl _) hF13.size⟩
             have HIN : Aside0 (∀ k, InP (T ++ vs) k → (B ≤ k ∧ k < w6.heap.size) ∨ SL ≤ k) := ⟨fun k hk => by
               rcases inP_app hk with h | h
               · exact .inr (HHE.out.pile.inP h).1
               · exact .inl ⟨(HHG.out.pile.inP h).1, (HHG.out.pile.inP h).2.1⟩⟩
             have hzS4 : S4 ≤ w4.heap.size := by
               have h1 := HOWN.out p (.inl rfl)
               omega
             have HB13 := Aside0.mk (HB.out.trans (hF13.below HB.out.size (fun k hk => by omega)))
             have HX13 := Aside0.mk (hF13.blk HX.out (fun hk => by omega))
             have HH13 := Aside0.mk (hF13.blk HH.out (fun hk => by omega))
             have HE13 := Aside0.mk (Kd.R_step HE.out (fun k hk hlt => hF13.block k hlt (fun q => by omega)))
             have HM13 : Aside0 (Sets.At w13 p bP bS m) := ⟨Sets.At.frame (S := fun k => SL ≤ k) HM.out ⟨hF13.os, hF13.tape, hF13.output, hF13.size, hF13.block⟩ (fun k hk e => by have := HOWN.out k hk; omega)⟩
             have HKP13 := Aside0.mk (Kd.R_step HKP.out (fun k hk hlt => hF13.block k hlt (fun q => by omega)))
             have HR13 : Aside0 (Kd.R (Kd.raw 1) 34 w13 SL (fun _ => True) (.slice A13 (M + N) c14) (ones (T ++ vs))) := ⟨hR13⟩
             have HTF : Aside0 ((T ++ vs).length = M + N ∧ M + N ≤ 200 ∧ ∀ x ∈ D ++ gs, x.length ≤ 9000000) := ⟨by rw [List.length_append, HTL.out.2.2, HVL.out], by have := HTL.out.1; omega, fun x hx => by
               rcases List.mem_append.1 hx with hx | hx
               · exact HTL.out.2.1 x hx
               · have := HGS.out.2 x hx; omega⟩
             clear hR13 hg13 hty hF13 hz1 hz2 hz3 hz4 hzS4 HRD HL2 HRA HHE HHG HB HX HH HE HM HKP HG1 HWT HFA
             obtain ⟨adg, hgE, z1, z2⟩ := edge_at (Kd.R_reads' HE13.out).2.2 (i := l.length) (by simp)
             injection hgE with hgE
             subst hgE
             have e7 : rd_T33 (l ++ [⟨77, 78⟩]) (l.length : Int) = ⟨77, 78⟩ := by
               unfold rd_T33
               rw [Int.toNat_natCast, List.getD_eq_getElem?_getD, List.getElem?_append_right (Nat.le_refl _), Nat.sub_self]
               rfl
             rw [e7, add_plain] at z1 z2
             have z3 : w13.cell? ⟨g, l.length * 2 + 1, none⟩ = some (.int .i64 78) := z2
             have hcp := HCAP.out
             clear z2 e7
             have x1 : w13.cell? ⟨b, 1, none⟩ = some (.slice A l.length c) := heap_cell HX13.out rfl
             go_wp2_with fail
             clear z1 z3 x1 hcp
             have HBW : Aside0 (Below w13.heap.size w13 w13) := ⟨Below.refl _ _⟩
             go_loopw [134] (fun y ws => ∃ (i : Nat), y = .int .i64 (i : Int) ∧ i ≤ l.length ∧ Aside0 (Below w13.heap.size w13 ws)) (fun y _ => l.length - (intOf y).toNat)
             case atStart => exact ⟨0, rfl, by omega, HBW⟩
             case round =>
               clear HBW
               obtain ⟨i, rfl, hi, HBW⟩ := hrel
               by_cases hlt : i < l.length
               · have hCE : Kd.C kE wr (some ⟨g, 0, none⟩) l.length l := by
                   have h := Kd.C_take (m := l.length) (Kd.R_reads' HE13.out).2.2 (by simp)
                   rw [List.take_left] at h
                   exact Kd.C_below h HBW.out
                 obtain ⟨adg, hgE, z1, z2⟩ := edge_at hCE hlt
                 injection hgE with hgE
                 subst hgE
                 obtain ⟨ad, eA, z3, z4⟩ := edge_at (Kd.C_below (Kd.C_below HRR.out HB13.out) HBW.out) hlt
                 subst eA
                 obtain ⟨a0, ha0⟩ : ∃ a0, a0 = (rd_T33 l (i : Int)).f0 := ⟨_, rfl⟩
                 obtain ⟨a1, ha1⟩ : ∃ a1, a1 = (rd_T33 l (i : Int)).f1 := ⟨_, rfl⟩
                 rw [← ha0] at z1 z3
                 rw [← ha1] at z2 z4
                 rw [add_plain] at z1 z2
                 have z5 : wr.cell? ⟨g, i * 2 + 1, none⟩ = some (.int .i64 a1) := z2
                 have x1 : wr.cell? ⟨b, 1, none⟩ = some (.slice (some ad) l.length c) := (HBW.out.cell (cell_lt (heap_cell (i := 1) HX13.out rfl))).trans (heap_cell HX13.out rfl)
                 have y1 : wr.cell? ⟨b14, 1, none⟩ = some (.slice (some ⟨g, 0, none⟩) l.length c12) := (HBW.out.cell (cell_lt (heap_cell (i := 1) HH13.out rfl))).trans (heap_cell HH13.out rfl)
                 clear hCE z2 ha0 ha1
                 go_wp2_with fail
                 go_quiet (fail)
                 go_wp2_with fail
                 clear z1 z3 z4 z5 x1 y1
                 go_roundw
                 case rel => exact ⟨i + 1, by go_num, by omega, ⟨by first | exact HBW.out | exact below_drewN' HBW.out _⟩⟩
                 case measure => simp [intOf]; omega
               · obtain rfl : i = l.length := by omega
                 have hGr := ((HHF.out.below HBW.out).wide (Nat.le_refl B) HBW.out.size).grid (Kd.R_below HR13.out HBW.out) (show B ≤ SL by have := HSZ6.out; have := HSE.out; omega) (Nat.le_refl _)
                 have HGR := Aside0.mk hGr
                 have HB14 := Aside0.mk (HB13.out.trans (HBW.out.mono HB13.out.size))
                 have HM14 := Aside0.mk (At_below HM13.out HBW.out)
                 have HKP14 := Aside0.mk (Kd.R_below HKP13.out HBW.out)
                 have HDL : Aside0 (∀ j, j < M + N → (gl (D ++ gs) j).length ≤ 16000000000000) := ⟨fun j hj => by
                   have hl2 := HHF.out.len
                   rw [HTF.out.1] at hl2
                   have hj2 : j < (D ++ gs).length := by omega
                   have h := HTF.out.2.2 (gl (D ++ gs) j) (by
                     unfold gl
                     rw [List.getD_eq_getElem?_getD, List.getElem?_eq_getElem hj2]
                     exact List.getElem_mem hj2)
                   omega⟩
                 clear hGr HBW HHF HR13 HB13 HM13 HKP13 HX13 HH13 HE13 hi hlt
                 go_wp2_with fail
                 refine (apart_calls A13 (M + N) c14 (T ++ vs) _ _ B wr.heap.size wr HGR.out HTF.out.1 (by have := HTF.out.2.1; omega) HDL.out (Nat.le_refl _)).mono ?_
                 rintro e' w15 ⟨rfl, hFA⟩
                 have hin := HIN.out
                 have hz1 := HSA.out
                 have hz2 := HS4.out
                 have hz3 := HSE.out
                 have hz4 := HSZ6.out
                 have hz5 := HSC.out
                 have hzS4 : S4 ≤ w4.heap.size := by
                   have h1 := HOWN.out p (.inl rfl)
                   omega
                 have HB15 := Aside0.mk (HB14.out.trans (hFA.below HB14.out.size (fun k hk => by have := hin k hk; omega)))
                 have HM15 : Aside0 (Sets.At w15 p bP bS m) := ⟨Sets.At.frame (S := InP (T ++ vs)) HM14.out ⟨hFA.os, hFA.tape, hFA.output, hFA.size, hFA.block⟩ (fun k hk e => by have := hin k e; have := HOWN.out k hk; omega)⟩
                 have HKP15 := Aside0.mk (Kd.R_step HKP14.out (fun k hk hlt => hFA.block k hlt (fun q => by have := hin k q; omega)))
                 clear hFA hin hz1 hz2 hz3 hz4 hz5 hzS4 HB14 HM14 HKP14 HGR HDL
                 go_wp2_with fail
                 obtain ⟨P, S, hps⟩ := HM15.out
                 refine (Sets.groups_calls p bP bS m P S w15 hps).mono ?_
                 rintro e' w16 ⟨B2, bo2, vs2, rfl, hbo2, hG, hA, hF1⟩
                 have hF : Mem.Frame (Sets.Own p bP bS) w15 w16 := ⟨hF1.os, hF1.tape, hF1.output, hF1.size, hF1.block⟩
                 have HB16 := Aside0.mk (HB15.out.trans (hF.below HB15.out.size (fun k hk => by have := HOWN.out k hk; have := HS4.out; have := HSA.out; omega)))
                 have HKP16 := Aside0.mk (Kd.R_step HKP15.out (fun k hk hlt => hF.block k hlt (fun q => by have := HOWN.out k q; have := HSD.out; omega)))
                 rw [← HGQ.out] at hG
                 have hC2 := G_reads hG (by have h1 := HGS.out.1; rw [HGI.out, List.length_map] at h1; omega)
                 rw [← HGI.out] at hC2
                 have HC2 := Aside0.mk hC2
                 clear hps hbo2 hG hA hF1 hF hC2 HB15 HM15 HKP15
                 rw [← HNQ.out]
                 go_wp2_with fail
                 have hCK := (Kd.R_reads' HKP16.out).2
                 refine (same_lists KKN N (some ⟨bo2, 0, none⟩) N Ak ck gs HGS.out.1 w16 HC2.out (Nat.le_refl _) hCK.2 hCK.1 HKK.out).mono ?_
                 rintro e' w17 ⟨rfl, hd⟩
                 have HB17 := Aside0.mk (HB16.out.trans (hd.below.mono HB16.out.size))
                 clear hd hCK
                 go_wp2_with fail
                 go_ret
                 exact ⟨by simp, HB17.out⟩
end Go.Proofs.Ytoajoklpbfehiaa.EJ
namespace Go.Proofs.Ytoajoklpbfehiaa.PureV
open Go.RowKit Go.Proofs.YtoajoklpbfehiaaW.PrintWords Go.Proofs.YtoajoklpbfehiaaW.PrintLast Go.Proofs.YtoajoklpbfehiaaW.PrintMore Go.Proofs.Ytoajoklpbfehiaa.GAll
set_option linter.unusedVariables false
set_option linter.unusedSimpArgs false
abbrev E := S33
abbrev rdE := rd_T33
def okE (n : Int) (x : E) : Prop := 0 ≤ x.f0 ∧ x.f0 < x.f1 ∧ x.f1 < n
def lt (x y : E) : Prop := x.f0 < y.f0 ∨ (x.f0 = y.f0 ∧ x.f1 < y.f1)
def Ok (n : Int) (l : List E) (i : Nat) : Prop := okE n (rdE l (i : Nat)) ∧ (0 < i → lt (rdE l ((i - 1 : Nat) : Int)) (rdE l (i : Nat)))
def Good (n : Int) (l : List E) : Prop := 0 ≤ n ∧ n ≤ 1048576 ∧ l.length ≤ 4194304 ∧ ∀ i, i < l.length → Ok n l i
instance (n x) : Decidable (okE n x) := by unfold okE; infer_instance
instance (x y) : Decidable (lt x y) := by unfold lt; infer_instance
instance (n l i) : Decidable (Ok n l i) := by unfold Ok; infer_instance
theorem wadd {i : Nat} (h : i ≤ 9000000) : wrap64 ((i : Int) + 1) = ((i + 1 : Nat) : Int) := by rw [IntWalk.wrap64_in _ (by omega)]; omega
theorem pe_rd {l : List E} {i : Nat} (h : i < l.length) : Mem.pe (l.map fun x => (x.f0, x.f1)) i = ((rdE l (i : Nat)).f0, (rdE l (i : Nat)).f1) := by
 unfold Mem.pe rdE rd_T33
 simp [List.getD_eq_getElem?_getD, h]
theorem ok_at {n : Int} {l : List E} {i : Nat} (h : i < l.length) : ValH.OkAt n (l.map fun x => (x.f0, x.f1)) i ↔ Ok n l i := by
 unfold ValH.OkAt Ok okE lt ValH.okP ValH.ltP
 rw [pe_rd h, pe_rd (show i - 1 < l.length by omega), decide_eq_true_eq, decide_eq_true_eq]
theorem good_iff (n : Int) (l : List E) : ValH.goodB n (l.map fun x => (x.f0, x.f1)) = true ↔ Good n l := by
 rw [ValH.goodB_iff, List.length_map]
 unfold Good
 constructor
 · rintro ⟨a, b, c, d⟩; exact ⟨a, b, c, fun i hi => (ok_at hi).1 (d i hi)⟩
 · rintro ⟨a, b, c, d⟩; exact ⟨a, b, c, fun i hi => (ok_at hi).2 (d i hi)⟩
theorem valid (n : Int) (l : List E) : ∃ b : Bool, Ev (fun k => simple_Valid.f k n l) b ∧ Ev (fun k => tangramref03_Valid.f k n l) b ∧ (b = true ↔ Good n l) := ⟨_, Ev.now _, Ev.now _, good_iff n l⟩
end Go.Proofs.Ytoajoklpbfehiaa.PureV
namespace Go.Proofs.Ytoajoklpbfehiaa.PureX
open Go.RowKit Go.Proofs.YtoajoklpbfehiaaW.PrintWords Go.Proofs.YtoajoklpbfehiaaW.PrintLast Go.Proofs.YtoajoklpbfehiaaW.PrintMore Go.Proofs.Ytoajoklpbfehiaa.GAll Go.Proofs.Ytoajoklpbfehiaa.PureV
set_option linter.unusedVariables false
set_option linter.unusedSimpArgs false
theorem numTo_lenM (m : List Nat) (i : Nat) : (Sets.numTo m i).1.length = i := by
 induction i with
 | zero => rfl
 | succ i ih =>
   unfold Sets.numTo
   split
   · simp [ih]
   · simp [ih]
theorem fit_ofM {n : Int} {l : List E} (h : PureV.Good n l) : tangramref05_Of.fit n l = true := by
 obtain ⟨h1, h2, h3, h4⟩ := h
 unfold tangramref05_Of.fit
 simp only [Bool.and_eq_true, decide_eq_true_eq, List.all_eq_true]
 refine ⟨⟨⟨h1, h2⟩, h3⟩, fun x hx => ?_⟩
 obtain ⟨i, hi, rfl⟩ := List.mem_iff_getElem.1 hx
 obtain ⟨⟨e1, e2, e3⟩, _⟩ := h4 i hi
 have e : rdE l (i : Nat) = l[i] := by
   show l.getD ((i : Int).toNat) _ = _
   rw [Int.toNat_natCast, List.getD_eq_getElem?_getD, List.getElem?_eq_getElem hi]
   rfl
 rw [e] at e1 e2 e3
 exact ⟨⟨⟨by omega, by omega⟩, by omega⟩, by omega⟩
theorem both_of (n : Int) (l : List E) : ∃ k os cn e, comps_Of.f k n l = some (os, cn, e) ∧ tangramref05_Of.f k n l = some (os, cn, e) ∧ tangramref01_SameInts.f k os os = some true ∧ os.length ≤ 9000000 := by
 have key : ∀ {os : List Int} {cn e : Int}, Ev (fun k => comps_Of.f k n l) (os, cn, e) → Ev (fun k => tangramref05_Of.f k n l) (os, cn, e) → os.length ≤ 9000000 → ∃ k os cn e, comps_Of.f k n l = some (os, cn, e) ∧ tangramref05_Of.f k n l = some (os, cn, e) ∧ tangramref01_SameInts.f k os os = some true ∧ os.length ≤ 9000000 := by
   intro os cn e ⟨a1, b1⟩ ⟨a2, b2⟩ ho
   obtain ⟨a3, b3⟩ := PureL.ints_same os (by omega)
   exact ⟨a1 + a2 + a3, os, cn, e, b1 _ (by omega), b2 _ (by omega), b3 _ (by omega), ho⟩
 obtain ⟨b, h1, h2, h3⟩ := valid n l
 cases b with
 | false => exact key (os := []) (cn := 0) (e := 1) (Ev.bind h1 (by simp only [Bool.false_eq_true, if_false]; exact Ev.now _)) (Ev.bind h2 (by simp only [Bool.false_eq_true, if_false]; exact Ev.now _)) (by simp)
 | true =>
   have hg := h3.1 rfl
   have hf := fit_ofM hg
   obtain ⟨g1, g2, _⟩ := id hg
   refine key (os := (comps_Of.out n l).1.map (fun (x : Nat) => (x : Int))) (cn := ((comps_Of.out n l).2 : Int)) (e := 0) (Ev.bind h1 (by simp only [if_true, g1, g2, and_self]; exact Ev.now _)) (Ev.bind h2 (by simp only [if_true, hf]; exact Ev.now _)) ?_
   rw [List.length_map]
   unfold comps_Of.out
   rw [numTo_lenM]
   omega
theorem CompsMemory (a0_0 : Int) (A0_1 : Option Addr) (c0_1 : Nat) (l0_1 : List E) (A1 : Option Addr) (c1 : Nat) (l1 : List S45) (w : World) (hr0_1 : Kd.C k33 w A0_1 l0_1.length l0_1) (hc0_1 : l0_1.length ≤ c0_1) (hr1 : Kd.C k45 w A1 l1.length l1) (hc1 : l1.length ≤ c1)
   (g0 : Open.I64 a0_0 ∧ l0_1.length * 16 ≤ 140737488351232 ∧ ∀ x ∈ l0_1, Open.I64 x.f0 ∧ Open.I64 x.f1) (g1 : l1.length * 16 ≤ 140737488351232 ∧ ∀ x ∈ l1, Open.I64 x.f0 ∧ Open.I64 x.f1) :
   Calls Try.prog 8 #[.agg #[.int .i64 a0_0, .slice A0_1 l0_1.length c0_1], .slice A1 l1.length c1] w fun e w' => e = .returned (.bool true) ∧ Below w.heap.size w w' := by
 obtain ⟨k, os, cn, e, h1, h2, h3, ho⟩ := both_of a0_0 l0_1
 have h := EJ.mem_walk k a0_0 A0_1 c0_1 l0_1 A1 c1 (prs l1) w hr0_1 hc0_1 (pair_pairs hr1) (by rw [prs_length]; omega) (by omega) h1 h2 h3 ho (fun gs hl hx => by
   exact PureL.lists_same gs (by omega) (fun x hx2 => by have := hx x hx2; omega))
 rw [prs_length] at h
 exact h
end Go.Proofs.Ytoajoklpbfehiaa.PureX
