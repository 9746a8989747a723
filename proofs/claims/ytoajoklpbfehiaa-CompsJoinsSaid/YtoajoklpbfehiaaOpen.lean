/- DERIVED. What came in, opened: a datum that is read tells a value of a kind (the kit's printer's kinds), its numbers in their bounds, its lists no longer than the form's reach. -/
import Derived.Test.YtoajoklpbfehiaaHead
import Derived.SizedLaws
import Derived.ChangeSlices
import Derived.ProofKit
import Derived.OpenShut
import Derived.ChangeOld
import Derived.Deep.Slices
namespace Go.Proofs.Ytoajoklpbfehiaa.Open
open Go.RowKit Go.Proofs.YtoajoklpbfehiaaW.PrintWords Go.Proofs.YtoajoklpbfehiaaW.PrintLast Go.Proofs.YtoajoklpbfehiaaW.PrintMore Go.ChangeShapes Go.WideShapes Go.Deep
set_option linter.unusedVariables false
set_option linter.unusedSimpArgs false

/-- a number of its kind -/
def I64 (n : Int) : Prop := -9223372036854775808 ≤ n ∧ n ≤ 9223372036854775807
/-- every reading of a value of type t tells a value of kind d -/
def Opens {α : Type} (P : Program) (t : TypeId) (d : Kd α) (good : α → Prop) : Prop :=
  ∀ {H : Type} (enc : TypeId × Value → H) (w : World) (fuel : Nat) (cs : List Value) (x : DataW H × List MemPlace),
    DataW.trod enc P w 0 (fun _ => true) true fuel t cs = some x → (x.1.weights P t).all (· ≤ reachBytes) = true → ∃ v, d.K w v cs ∧ good v
section
variable {P : Program} {α β : Type}
theorem opens_int {t : TypeId} (ht : P.underlying t = some (.int .i64)) : Opens P t (Kd.int .i64) I64 := by
  intro H enc w fuel cs x h _
  obtain ⟨n, rfl, _, hw⟩ := DataW.trod_int ht h
  refine ⟨n, rfl, ?_⟩
  have hmin : IntKind.i64.min = -9223372036854775808 := rfl
  have hmax : IntKind.i64.max = 9223372036854775807 := rfl
  simp only [Lit.wf, Bool.and_eq_true, decide_eq_true_eq] at hw
  unfold I64; omega
theorem weightsAll_mem {H : Type} {e : TypeId} {l : List (DataW H)} (h : (DataW.weightsAll P e l).all (· ≤ reachBytes) = true) {d : DataW H} (hd : d ∈ l) : (d.weights P e).all (· ≤ reachBytes) = true := by
  induction l with
  | nil => cases hd
  | cons a l ih =>
    unfold DataW.weightsAll at h
    rw [List.all_append, Bool.and_eq_true] at h
    rcases List.mem_cons.1 hd with rfl | hd
    · exact h.1
    · exact ih h.2 hd
theorem opens_slice {t e : TypeId} {d : Kd α} {good : α → Prop} {B : Nat} (ht : P.underlying t = some (.slice e)) (hc : P.cellsOf e = d.sz) (hB : P.bytesOf e = B) (ho : Opens P e d good) (dflt : α) :
    Opens P t (Kd.slice e d) (fun xs => xs.length * B ≤ 140737488351232 ∧ ∀ x ∈ xs, good x) := by
  intro H enc w fuel cs x h hwt
  rcases open_slice ht h with ⟨rfl, rfl⟩ | ⟨a, len, cap, m, n, D, Pl, rfl, hb, hl, hm, hmm, rfl, hx⟩
  · exact ⟨[], ⟨none, 0, rfl, Nat.le_refl _, rfl, by simp, fun h => absurd h (by simp)⟩, by simp, by simp⟩
  · simp only [if_true] at hmm
    subst hmm
    unfold DataW.weights at hwt
    rw [ht] at hwt
    simp only [List.all_cons, List.all_append, Bool.and_eq_true, decide_eq_true_eq, List.length_map, List.length_range, hB] at hwt
    obtain ⟨hw1, hw2, _⟩ := hwt
    have each : ∀ i, i < len → ∃ v : α × List Value, v.2.length = d.sz ∧ d.K w v.1 v.2 ∧ good v.1 ∧ ∀ k u, v.2[k]? = some u → w.cell? (a.add (i * d.sz + k)) = some u := by
      intro i hi
      obtain ⟨cs', h1, h2⟩ := hx i (by omega)
      rw [hc] at h1
      obtain ⟨_, hlen, hcell⟩ := World.cells?_some h1
      obtain ⟨v, hv, hg⟩ := ho enc w n cs' _ h2 (weightsAll_mem hw2 (List.mem_map.2 ⟨i, List.mem_range.2 hi, rfl⟩))
      refine ⟨(v, cs'), hlen, hv, hg, fun k u hk => ?_⟩
      have hk2 : k < d.sz := by
        have hk3 : k < cs'.length := (List.getElem?_eq_some_iff.1 hk).1
        omega
      have := hcell k hk2
      rw [Go.Deep.add_add] at this
      rw [this]; exact hk
    haveI : Inhabited (α × List Value) := ⟨(dflt, [])⟩
    obtain ⟨q, hq⟩ := choose_lt each
    have hlen : ((List.range len).map fun i => (q i).1).length = len := by simp
    have hget : ∀ j p, ((List.range len).map fun i => (q i).1)[j]? = some p → j < len ∧ p = (q j).1 := by
      intro j p hj
      rw [List.getElem?_map] at hj
      by_cases hjl : j < len
      · rw [List.getElem?_range hjl] at hj
        exact ⟨hjl, by simpa using hj.symm⟩
      · rw [List.getElem?_eq_none (by simp; omega)] at hj; simp at hj
    refine ⟨(List.range len).map fun i => (q i).1, ⟨some a, m, by rw [hlen], by rw [hlen]; exact hl, by rw [hlen], ?_, fun _ => ⟨a, rfl, fun j p hj => ?_⟩⟩, ?_, ?_⟩
    · rw [hlen]; unfold maxLen at hm; omega
    · obtain ⟨hjl, rfl⟩ := hget j p hj
      exact ⟨(q j).2, (hq j hjl).1, (hq j hjl).2.1, (hq j hjl).2.2.2⟩
    · rw [hlen]
      have h5 : len * B ≤ (len + (m - len)) * B := Nat.mul_le_mul_right _ (by omega)
      have h6 : reachBytes = 140737488351232 := rfl
      omega
    · intro v hv
      obtain ⟨i, hi, rfl⟩ := List.mem_map.1 hv
      exact (hq i (List.mem_range.1 hi)).2.2.1
theorem opens_two {t : TypeId} {f0 f1 : Field} {a : Kd α} {b : Kd β} {ga : α → Prop} {gb : β → Prop} (ht : P.underlying t = some (.struct #[f0, f1])) (h0 : Opens P f0.type a ga) (h1 : Opens P f1.type b gb)
    (o0 : f0.offset = 0) (o1 : f1.offset = a.sz) (c0 : P.cellsOf f0.type = a.sz) (c1 : P.cellsOf f1.type = b.sz) (ct : P.cellsOf t = a.sz + b.sz) : Opens P t (Kd.pair a b) (fun x => ga x.1 ∧ gb x.2) := by
  intro H enc w fuel cs x h hwt
  obtain ⟨xs, n, _, rfl, hcl, hxl, hf⟩ := DataW.trod_struct ht h
  match xs, hxl with
  | [y0, y1], _ =>
    have g0 := hf 0 f0 rfl
    have g1 := hf 1 f1 rfl
    rw [o0, c0] at g0
    rw [o1, c1] at g1
    unfold DataW.weights at hwt
    rw [ht] at hwt
    simp only [List.map_cons, List.map_nil, DataW.weightsEach, List.all_append, Bool.and_eq_true] at hwt
    obtain ⟨hw0, hw1, _⟩ := hwt
    rw [List.drop_zero] at g0
    obtain ⟨v0, k0, q0⟩ := h0 enc w n _ y0 g0 hw0
    obtain ⟨v1, k1, q1⟩ := h1 enc w n _ y1 g1 hw1
    refine ⟨(v0, v1), ⟨_, _, ?_, k0, k1⟩, q0, q1⟩
    rw [List.take_of_length_le (l := cs.drop a.sz) (by rw [List.length_drop]; omega), List.take_append_drop]
theorem split_four {γ : Type} (cs : List γ) (a b c d : Nat) (h : cs.length = a + b + c + d) : cs = cs.take a ++ ((cs.drop a).take b ++ ((cs.drop (a + b)).take c ++ (cs.drop (a + b + c)).take d)) := by
  have h1 : (cs.drop (a + b + c)).take d = cs.drop (a + b + c) := List.take_of_length_le (by rw [List.length_drop]; omega)
  have h2 : cs.drop (a + b) = (cs.drop (a + b)).take c ++ cs.drop (a + b + c) := by rw [← List.drop_drop (l := cs) (i := c) (j := a + b), List.take_append_drop]
  have h3 : cs.drop a = (cs.drop a).take b ++ cs.drop (a + b) := by rw [← List.drop_drop (l := cs) (i := b) (j := a), List.take_append_drop]
  rw [h1, ← h2, ← h3, List.take_append_drop]
theorem opens_four {γ δ : Type} {t : TypeId} {f0 f1 f2 f3 : Field} {a : Kd α} {b : Kd β} {c : Kd γ} {d : Kd δ} {ga : α → Prop} {gb : β → Prop} {gc : γ → Prop} {gd : δ → Prop} (ht : P.underlying t = some (.struct #[f0, f1, f2, f3])) (h0 : Opens P f0.type a ga) (h1 : Opens P f1.type b gb) (h2 : Opens P f2.type c gc) (h3 : Opens P f3.type d gd)
    (o0 : f0.offset = 0) (o1 : f1.offset = a.sz) (o2 : f2.offset = a.sz + b.sz) (o3 : f3.offset = a.sz + b.sz + c.sz) (c0 : P.cellsOf f0.type = a.sz) (c1 : P.cellsOf f1.type = b.sz) (c2 : P.cellsOf f2.type = c.sz) (c3 : P.cellsOf f3.type = d.sz) (ct : P.cellsOf t = a.sz + b.sz + c.sz + d.sz) : Opens P t (Kd.pair a (Kd.pair b (Kd.pair c d))) (fun x => ga x.1 ∧ gb x.2.1 ∧ gc x.2.2.1 ∧ gd x.2.2.2) := by
  intro H enc w fuel cs x h hwt
  obtain ⟨xs, n, _, rfl, hcl, hxl, hf⟩ := DataW.trod_struct ht h
  match xs, hxl with
  | [y0, y1, y2, y3], _ =>
    have g0 := hf 0 f0 rfl
    have g1 := hf 1 f1 rfl
    have g2 := hf 2 f2 rfl
    have g3 := hf 3 f3 rfl
    rw [o0, c0] at g0
    rw [o1, c1] at g1
    rw [o2, c2] at g2
    rw [o3, c3] at g3
    unfold DataW.weights at hwt
    rw [ht] at hwt
    simp only [List.map_cons, List.map_nil, DataW.weightsEach, List.all_append, Bool.and_eq_true] at hwt
    obtain ⟨hw0, hw1, hw2, hw3, _⟩ := hwt
    rw [List.drop_zero] at g0
    obtain ⟨v0, k0, q0⟩ := h0 enc w n _ y0 g0 hw0
    obtain ⟨v1, k1, q1⟩ := h1 enc w n _ y1 g1 hw1
    obtain ⟨v2, k2, q2⟩ := h2 enc w n _ y2 g2 hw2
    obtain ⟨v3, k3, q3⟩ := h3 enc w n _ y3 g3 hw3
    refine ⟨(v0, v1, v2, v3), ⟨_, _, ?_, k0, _, _, rfl, k1, _, _, rfl, k2, k3⟩, q0, q1, q2, q3⟩
    exact split_four cs _ _ _ _ (by omega)
theorem opens_iso {t : TypeId} {d : Kd α} {good : α → Prop} {f : β → α} (g : α → β) (hg : ∀ x, f (g x) = x) (h : Opens P t d good) : Opens P t (Kd.iso d f) (fun y => good (f y)) := by
  intro H enc w fuel cs x hx hw
  obtain ⟨v, k, q⟩ := h enc w fuel cs x hx hw
  exact ⟨g v, by show d.K w (f (g v)) cs; rw [hg]; exact k, by show good (f (g v)); rw [hg]; exact q⟩
/-- an argument -/
theorem open_arg {H : Type} {enc : TypeId × Value → H} {w : World} {t : TypeId} {d : Kd α} {good : α → Prop} {v : Value} {dd : DataW H} {ps : List MemPlace} (ho : Opens P t d good) (h : DataW.Trod enc P w 0 (fun _ => true) true t v dd ps)
    (hw : (dd.weights P t).all (· ≤ reachBytes) = true) : ∃ x, d.K w x v.cells.toList ∧ good x := by
  obtain ⟨fuel, hf⟩ := h
  exact ho enc w fuel _ _ hf hw
/-- the weights of the j-th argument -/
theorem weight_at {H : Type} {ts : List TypeId} {ds : List (DataW H)} (h : (DataW.weightsEach P ts ds).all (· ≤ reachBytes) = true) : ∀ {j : Nat} {t : TypeId} {d : DataW H}, ts[j]? = some t → ds[j]? = some d → (d.weights P t).all (· ≤ reachBytes) = true := by
  induction ts generalizing ds with
  | nil => intro j t d ht; simp at ht
  | cons a ts ih =>
    cases ds with
    | nil => intro j t d _ hd; simp at hd
    | cons b ds =>
      unfold DataW.weightsEach at h
      rw [List.all_append, Bool.and_eq_true] at h
      intro j t d ht hd
      cases j with
      | zero =>
        obtain rfl : a = t := by simpa using ht
        obtain rfl : b = d := by simpa using hd
        exact h.1
      | succ j => exact ih h.2 (by simpa using ht) (by simpa using hd)
theorem of_slice {w : World} {e : Nat} {d : Kd α} {xs : List α} {A : Option Addr} {n c : Nat} (h : (Kd.slice e d).K w xs [.slice A n c]) : n = xs.length ∧ xs.length ≤ c ∧ d.C w A xs.length xs := by
  obtain ⟨A', c', he, hl, hc⟩ := h
  simp only [List.cons.injEq, Value.slice.injEq, and_true] at he
  obtain ⟨rfl, rfl, rfl⟩ := he
  exact ⟨rfl, hl, hc⟩
end
end Go.Proofs.Ytoajoklpbfehiaa.Open
