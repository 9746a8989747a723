/- DERIVED. Texts of this seat, one behind the other: lemmas and walks that the statement RotBack needs. No condition. -/
import Derived.Test.YtkkhhbegeboonaaCRotBackc
import Derived.Test.YtkkhhbegeboonaaCRotBacka
import Derived.SizedLaws
import Derived.ChangeSlices
import Derived.ProofKit
import Derived.OpenShut
import Derived.ChangeOld
import Derived.Deep.Slices
import Derived.Test.YtkkhhbegeboonaaRows
import Derived.Deep.CondSized
/- DERIVED. From of Around is the rotation, Around of From the vertices: plain laws. -/

namespace Go.Proofs.Ytkkhhbegeboonaa.Rot
open Go.RowKit Go.Proofs.YtkkhhbegeboonaaW.PrintWords Go.Proofs.Ytkkhhbegeboonaa.Mem Go.Proofs.Ytkkhhbegeboonaa.GAll
set_option linter.unusedVariables false
set_option linter.unusedSimpArgs false
theorem walkRow_back {half : Int × Int → Option Int} {v : Int} {g : Int → Int} : ∀ (row o : List Int), (∀ h ∈ row, half (v, g h) = some h) → row.Nodup → (∀ h ∈ row, h ∉ o) → walkRow half v (row.map g) o = .ok (o ++ row)
  | [], o, _, _, _ => by simp [walkRow]
  | h :: t, o, h1, h2, h3 => by
    rw [List.nodup_cons] at h2
    rw [List.map_cons, walkRow_on (h1 h (by simp)) (h3 h (by simp)), walkRow_back t (o ++ [h]) (fun x hx => h1 x (by simp [hx])) h2.2 (fun x hx hm => by
      rcases List.mem_append.1 hm with q | q
      · exact h3 x (by simp [hx]) q
      · rw [List.mem_singleton] at q
        exact h2.1 (by rw [← q]; exact hx))]
    simp
theorem walkRow_ok {half : Int × Int → Option Int} {v : Int} : ∀ (t o x : List Int), walkRow half v t o = .ok x → ∃ y, x = o ++ y ∧ y.length = t.length ∧ (∀ i, i < t.length → half (v, gi t i) = some (gi y i)) ∧ (o.Nodup → x.Nodup)
  | [], o, x, h => by
    have h2 : (Except.ok o : Except Int (List Int)) = .ok x := h
    injection h2 with h2
    exact ⟨[], by simp [h2], rfl, fun i hi => by simp at hi, fun q => by rw [← h2]; exact q⟩
  | u :: t, o, x, h => by
    cases hh : half (v, u) with
    | none => rw [walkRow_none hh] at h; cases h
    | some a =>
      by_cases hm : a ∈ o
      · rw [walkRow_twice hh hm] at h; cases h
      · rw [walkRow_on hh hm] at h
        obtain ⟨y, e1, e2, e3, e4⟩ := walkRow_ok t _ x h
        refine ⟨a :: y, by rw [e1]; simp, by simp [e2], fun i hi => ?_, fun q => e4 ?_⟩
        · cases i with
          | zero => exact hh
          | succ i => exact e3 i (by simpa using hi)
        · rw [List.nodup_append]
          refine ⟨q, by simp, fun p hp b hb2 => ?_⟩
          rw [List.mem_singleton] at hb2
          rintro rfl
          exact hm (by rw [← hb2]; exact hp)
section
variable {n : Nat} {l : List Ed} {r : List (List Int)} {ds : List Int}
theorem rot_len {fr : List Int} (h : IsRot fr n r) {v : Nat} (hv : v < n) : (gl r v).length = (leaving fr v).length := by
  have h1 := nodup_subset (gl r v) (leaving fr v) (h.nodup v hv) (fun x hx => mem_leaving.2 ((h.mem v hv x).1 hx))
  have h2 := nodup_subset (leaving fr v) (gl r v) (leaving_nodup fr v) (fun x hx => (h.mem v hv x).2 (mem_leaving.1 hx))
  omega
/-- From of Around -/
theorem from_around (hg : PureV.Good (n : Int) l) (hr : IsRot (frs l) n r) (hd : ∀ v, v < n → gi ds v = ((leaving (frs l) v).length : Int)) (d : Nat) : ∀ (v : Nat) (o : List (List Int)), v + d = n → fromRows (halfOf (ends l)) ds v ((aroundOf (frs l) r).drop v) o = .ok (o ++ r.drop v) := by
  have hrl := hr.len
  have hfl := frs_length l
  have hel := ends_length l
  induction d with
  | zero =>
    intro v o hv
    rw [List.drop_of_length_le (by rw [aroundOf_length]; omega), List.drop_of_length_le (by omega)]
    simp [fromRows]
  | succ d ih =>
    intro v o hv
    have hvr : v < r.length := by omega
    have hw : walkRow (halfOf (ends l)) v ((gl r v).map fun h => gi (frs l) (twin h).toNat) [] = .ok (gl r v) := by
      have := walkRow_back (half := halfOf (ends l)) (v := (v : Int)) (g := fun h => gi (frs l) (twin h).toNat) (gl r v) [] (fun h hh => ?_) (hr.nodup v (by omega)) (by simp)
      · exact this
      · obtain ⟨a, b, c⟩ := leaves_iff.1 ((hr.mem v (by omega) h).1 hh)
        obtain ⟨q, rfl⟩ := Int.eq_ofNat_of_zero_le a
        rw [Int.toNat_natCast] at c
        have := half_is hg (ends l).length (by omega) q (by omega)
        rw [c] at this
        exact this
    rw [drop_row (show v < (aroundOf (frs l) r).length by rw [aroundOf_length]; exact hvr), aroundOf_row hvr, fromRows_cons, hw, fromAfter_ok, List.length_map, hd v (by omega), if_pos (by rw [rot_len hr (by omega)]), ih (v + 1) _ (by omega), drop_row hvr]
    simp
/-- what From has found -/
theorem from_found (hd : ∀ v, v < n → gi ds v = ((leaving (frs l) v).length : Int)) (hrl : r.length = n) (d : Nat) : ∀ (v : Nat) (o o' : List (List Int)), v + d = n → o.length = v → fromRows (halfOf (ends l)) ds v (r.drop v) o = .ok o' →
    (∀ u, u < v → gl o' u = gl o u) ∧ o'.length = n ∧ ∀ u, v ≤ u → u < n → (gl o' u).length = (gl r u).length ∧ (∀ i, i < (gl r u).length → halfOf (ends l) ((u : Int), gi (gl r u) i) = some (gi (gl o' u) i)) ∧ (gl o' u).Nodup ∧ (gl o' u).length = (leaving (frs l) u).length := by
  induction d with
  | zero =>
    intro v o o' hv ho h
    rw [List.drop_of_length_le (by omega)] at h
    have h2 : (Except.ok o : Except (Int × Int) (List (List Int))) = .ok o' := h
    injection h2 with h2
    subst h2
    exact ⟨fun u _ => rfl, by omega, fun u h1 h2 => by omega⟩
  | succ d ih =>
    intro v o o' hv ho h
    have hvr : v < r.length := by omega
    rw [drop_row hvr, fromRows_cons] at h
    cases hw : walkRow (halfOf (ends l)) v (gl r v) [] with
    | error e => rw [hw] at h; cases h
    | ok x =>
      rw [hw, fromAfter_ok] at h
      by_cases hc : ((gl r v).length : Int) = gi ds v
      · rw [if_pos hc] at h
        obtain ⟨y, e1, e2, e3, e4⟩ := walkRow_ok _ _ _ hw
        rw [List.nil_append] at e1
        subst e1
        obtain ⟨k1, k2, k3⟩ := ih (v + 1) (o ++ [x]) o' (by omega) (by simp; omega) h
        have hx : gl o' v = x := by
          rw [k1 v (by omega)]
          unfold gl
          simp [List.getD_eq_getElem?_getD, ← ho]
        refine ⟨fun u hu => ?_, k2, fun u h1 h2 => ?_⟩
        · rw [k1 u (by omega)]
          unfold gl
          rw [List.getD_eq_getElem?_getD, List.getD_eq_getElem?_getD, List.getElem?_append_left (by omega)]
        · rcases Nat.eq_or_lt_of_le h1 with rfl | q
          · rw [hx]
            have := hd v h2
            exact ⟨e2, e3, e4 List.nodup_nil, by omega⟩
          · exact k3 u q h2
      · rw [if_neg hc] at h; cases h
/-- Around of From -/
theorem from_isRot (hg : PureV.Good (n : Int) l) (hd : ∀ v, v < n → gi ds v = ((leaving (frs l) v).length : Int)) (hrl : r.length = n) {o : List (List Int)} (h : fromRows (halfOf (ends l)) ds 0 r [] = .ok o) : IsRot (frs l) n o ∧ aroundOf (frs l) o = r := by
  have hel := ends_length l
  have hfl := frs_length l
  obtain ⟨_, k2, k3⟩ := from_found hd hrl n 0 [] o (by omega) rfl (by rw [List.drop_zero]; exact h)
  have hH : ∀ u, u < n → ∀ i, i < (gl r u).length → leaves (frs l) u (gi (gl o u) i) = true ∧ gi (frs l) (twin (gi (gl o u) i)).toNat = gi (gl r u) i := by
    intro u hu i hi
    obtain ⟨a, b, c, e⟩ := half_some hg.2.2.1 _ (by omega) _ _ _ ((k3 u (by omega) hu).2.1 i hi)
    exact ⟨leaves_iff.2 ⟨a, by omega, c⟩, e⟩
  constructor
  · refine ⟨k2, fun v hv => (k3 v (by omega) hv).2.2.1, fun v hv x => ?_⟩
    obtain ⟨q1, q2, q3, q4⟩ := k3 v (by omega) hv
    have hsub : ∀ x ∈ gl o v, x ∈ leaving (frs l) v := by
      intro x hx
      obtain ⟨i, hi, rfl⟩ := mem_gi hx
      exact mem_leaving.2 (hH v hv i (by omega)).1
    exact ⟨fun hx => mem_leaving.1 (hsub x hx), fun hx => nodup_full q3 hsub (by omega) (mem_leaving.2 hx)⟩
  · refine gl_eq (by rw [aroundOf_length]; omega) fun v hv => ?_
    rw [aroundOf_length] at hv
    obtain ⟨q1, q2, q3, q4⟩ := k3 v (by omega) (by omega)
    rw [aroundOf_row hv]
    refine gi_ext (by rw [List.length_map]; exact q1) fun p hp => ?_
    rw [List.length_map] at hp
    rw [← (hH v (by omega) p (by omega)).2]
    unfold gi
    simp [List.getD_eq_getElem?_getD, hp]
end
end Go.Proofs.Ytkkhhbegeboonaa.Rot
/- DERIVED. What right says: From takes lists just if each has its vertex's neighbours, each once. Plain laws. -/

namespace Go.Proofs.Ytkkhhbegeboonaa.Rot
open Go.RowKit Go.Proofs.YtkkhhbegeboonaaW.PrintWords Go.Proofs.Ytkkhhbegeboonaa.Mem Go.Proofs.Ytkkhhbegeboonaa.GAll
set_option linter.unusedVariables false
set_option linter.unusedSimpArgs false
def addTo (f : Nat → Nat) : Nat → Nat
  | 0 => 0
  | n + 1 => addTo f n + f n
theorem addTo_congr {f g : Nat → Nat} : ∀ n, (∀ v, v < n → f v = g v) → addTo f n = addTo g n
  | 0, _ => rfl
  | n + 1, h => by
    show addTo f n + f n = addTo g n + g n
    rw [addTo_congr n (fun v hv => h v (by omega)), h n (by omega)]
theorem addTo_add (f g : Nat → Nat) : ∀ n, addTo (fun v => f v + g v) n = addTo f n + addTo g n
  | 0 => rfl
  | n + 1 => by
    show addTo (fun v => f v + g v) n + (f n + g n) = _
    rw [addTo_add f g n]
    show _ = (addTo f n + f n) + (addTo g n + g n)
    omega
theorem addTo_zero : ∀ n, addTo (fun _ => 0) n = 0
  | 0 => rfl
  | n + 1 => by show addTo (fun _ => 0) n + 0 = 0; rw [addTo_zero n]
theorem addTo_one (x : Int) : ∀ n : Nat, 0 ≤ x → addTo (fun v => if x = (v : Int) then 1 else 0) n = if x < n then 1 else 0
  | 0, h => by rw [if_neg (by omega)]; rfl
  | n + 1, h => by
    show addTo (fun v => if x = (v : Int) then 1 else 0) n + (if x = (n : Int) then 1 else 0) = _
    rw [addTo_one x n h]
    by_cases c : x = (n : Int)
    · rw [if_neg (by omega), if_pos c, if_pos (by omega)]
    · rw [if_neg c]
      by_cases d : x < n
      · rw [if_pos d, if_pos (by omega)]
      · rw [if_neg d, if_neg (by omega)]
theorem addTo_le {f g : Nat → Nat} : ∀ n, (∀ v, v < n → f v ≤ g v) → addTo f n ≤ addTo g n
  | 0, _ => Nat.le_refl _
  | n + 1, h => by
    have := addTo_le n (fun v hv => h v (by omega))
    have := h n (by omega)
    show addTo f n + f n ≤ addTo g n + g n
    omega
theorem addTo_eq {f g : Nat → Nat} : ∀ n, (∀ v, v < n → f v ≤ g v) → addTo f n = addTo g n → ∀ v, v < n → f v = g v
  | 0, _, _, v, hv => by omega
  | n + 1, h, e, v, hv => by
    have h1 := addTo_le n (fun v hv => h v (by omega))
    have h2 := h n (by omega)
    have e2 : addTo f n + f n = addTo g n + g n := e
    rcases Nat.lt_succ_iff_lt_or_eq.1 hv with q | rfl
    · exact addTo_eq n (fun v hv => h v (by omega)) (by omega) v q
    · omega
/-- the degrees' sum -/
theorem sum_cnt {fr : List Int} {n : Nat} : ∀ m : Nat, (∀ x, x < m → 0 ≤ gi fr x ∧ gi fr x < n) → addTo (fun v => cnt fr m v) n = m
  | 0, _ => by
    exact (addTo_congr (g := fun _ => 0) n (fun v _ => rfl)).trans (addTo_zero n)
  | m + 1, h => by
    rw [addTo_congr (g := fun v => cnt fr m v + if gi fr m = (v : Int) then 1 else 0) n (fun v _ => cnt_succ fr m v), addTo_add, sum_cnt m (fun x hx => h x (by omega)), addTo_one _ _ (h m (by omega)).1, if_pos (h m (by omega)).2]
/-- each half-edge is there, and no vertex twice -/
def RowRight (half : Int × Int → Option Int) (v : Int) (row : List Int) : Prop := ∀ i, i < row.length → half (v, gi row i) ≠ none ∧ gi row i ∉ row.take i
theorem walkRow_right {half : Int × Int → Option Int} {v : Int} {row : List Int} (hinj : ∀ a b h, half (v, a) = some h → half (v, b) = some h → a = b) (d : Nat) : ∀ (j : Nat) (x : List Int), j + d = row.length → x.length = j → (∀ i, i < j → half (v, gi row i) = some (gi x i)) →
    ((∃ y, walkRow half v (row.drop j) x = .ok y) ↔ ∀ i, j ≤ i → i < row.length → half (v, gi row i) ≠ none ∧ gi row i ∉ row.take i) := by
  induction d with
  | zero =>
    intro j x hj hx hh
    rw [List.drop_of_length_le (by omega)]
    exact ⟨fun _ i h1 h2 => by omega, fun _ => ⟨x, rfl⟩⟩
  | succ d ih =>
    intro j x hj hx hh
    have hjl : j < row.length := by omega
    rw [drop_int hjl]
    cases hf : half (v, gi row j) with
    | none =>
      rw [walkRow_none hf]
      exact ⟨fun ⟨y, h⟩ => (by cases h), fun h => absurd hf (h j (Nat.le_refl _) hjl).1⟩
    | some a =>
      have hiff : a ∈ x ↔ gi row j ∈ row.take j := by
        constructor
        · intro g
          obtain ⟨i, hi, ei⟩ := mem_gi g
          have := hh i (by omega)
          rw [ei] at this
          rw [hinj _ _ _ hf this, gi_get (by omega), List.mem_iff_getElem]
          exact ⟨i, by rw [List.length_take]; omega, by simp⟩
        · intro g
          obtain ⟨i, hi, ei⟩ := List.mem_iff_getElem.1 g
          rw [List.length_take] at hi
          rw [List.getElem_take] at ei
          have e2 := hh i (by omega)
          rw [gi_get (by omega), ei, hf] at e2
          injection e2 with e2
          rw [e2]
          exact gi_mem (by omega)
      by_cases hm : a ∈ x
      · rw [walkRow_twice hf hm]
        exact ⟨fun ⟨y, h⟩ => (by cases h), fun h => absurd (hiff.1 hm) (h j (Nat.le_refl _) hjl).2⟩
      · rw [walkRow_on hf hm, ih (j + 1) (x ++ [a]) (by omega) (by simp [hx]) (fun i hi => by
          rcases Nat.lt_succ_iff_lt_or_eq.1 hi with g | rfl
          · rw [gi_snoc (by omega)]; exact hh i g
          · rw [gi_last (by omega)]; exact hf)]
        constructor
        · intro h i h1 h2
          rcases Nat.eq_or_lt_of_le h1 with rfl | q
          · exact ⟨by rw [hf]; simp, fun g => hm (hiff.2 g)⟩
          · exact h i q h2
        · exact fun h i h1 h2 => h i (by omega) h2
theorem fromRows_iff {half : Int × Int → Option Int} {ds : List Int} {r : List (List Int)} {n : Nat} (hrl : r.length = n) (d : Nat) : ∀ (v : Nat) (o : List (List Int)), v + d = n →
    ((∃ o', fromRows half ds v (r.drop v) o = .ok o') ↔ ∀ u, v ≤ u → u < n → (∃ y, walkRow half (u : Int) (gl r u) [] = .ok y) ∧ ((gl r u).length : Int) = gi ds u) := by
  induction d with
  | zero =>
    intro v o hv
    rw [List.drop_of_length_le (by omega)]
    exact ⟨fun _ u h1 h2 => by omega, fun _ => ⟨o, rfl⟩⟩
  | succ d ih =>
    intro v o hv
    rw [drop_row (show v < r.length by omega), fromRows_cons]
    cases hw : walkRow half (v : Int) (gl r v) [] with
    | error e =>
      refine ⟨fun ⟨o', h⟩ => (by cases h), fun h => ?_⟩
      obtain ⟨⟨y, hy⟩, _⟩ := h v (Nat.le_refl _) (by omega)
      rw [hw] at hy; cases hy
    | ok x =>
      rw [fromAfter_ok]
      by_cases hc : ((gl r v).length : Int) = gi ds v
      · rw [if_pos hc, ih (v + 1) (o ++ [x]) (by omega)]
        constructor
        · intro h u h1 h2
          rcases Nat.eq_or_lt_of_le h1 with rfl | q
          · exact ⟨⟨x, hw⟩, hc⟩
          · exact h u q h2
        · exact fun h u h1 h2 => h u (by omega) h2
      · rw [if_neg hc]
        exact ⟨fun ⟨o', h⟩ => (by cases h), fun h => absurd (h v (Nat.le_refl _) (by omega)).2 hc⟩
section
variable {n : Nat} {l : List Ed} {r : List (List Int)} {ds : List Int}
theorem half_inj (hg : PureV.Good (n : Int) l) (v : Int) : ∀ a b h, halfOf (ends l) (v, a) = some h → halfOf (ends l) (v, b) = some h → a = b := by
  intro a b h h1 h2
  have hel := ends_length l
  have e1 := (half_some hg.2.2.1 _ (by omega) v a h h1).2.2.2
  have e2 := (half_some hg.2.2.1 _ (by omega) v b h h2).2.2.2
  rw [← e1, e2]
theorem right_iff (hg : PureV.Good (n : Int) l) (hrl : r.length = n) (hd : ∀ v, v < n → gi ds v = ((leaving (frs l) v).length : Int)) :
    (∃ o, fromRows (halfOf (ends l)) ds 0 r [] = .ok o) ↔ (∀ v, v < n → RowRight (halfOf (ends l)) v (gl r v)) ∧ addTo (fun v => (gl r v).length) n = 2 * l.length := by
  have hel := ends_length l
  have hfl := frs_length l
  have key := fromRows_iff (half := halfOf (ends l)) (ds := ds) hrl n 0 [] (by omega)
  rw [List.drop_zero] at key
  rw [key]
  have hR : ∀ v : Nat, (∃ y, walkRow (halfOf (ends l)) (v : Int) (gl r v) [] = .ok y) ↔ RowRight (halfOf (ends l)) v (gl r v) := by
    intro v
    have := walkRow_right (half := halfOf (ends l)) (v := (v : Int)) (row := gl r v) (half_inj hg v) (gl r v).length 0 [] (by omega) rfl (fun i hi => by omega)
    rw [List.drop_zero] at this
    rw [this]
    exact ⟨fun h i hi => h i (Nat.zero_le _) hi, fun h i _ hi => h i hi⟩
  have hle : ∀ v, v < n → RowRight (halfOf (ends l)) v (gl r v) → (gl r v).length ≤ cnt (frs l) (frs l).length v := by
    intro v hv h
    obtain ⟨y, hy⟩ := (hR v).2 h
    obtain ⟨y2, e1, e2, e3, e4⟩ := walkRow_ok _ _ _ hy
    rw [List.nil_append] at e1
    subst e1
    rw [← leaving_cnt, ← e2]
    refine nodup_subset y (leaving (frs l) v) (e4 List.nodup_nil) (fun x hx => ?_)
    obtain ⟨i, hi, rfl⟩ := mem_gi hx
    obtain ⟨a, b, c, _⟩ := half_some hg.2.2.1 _ (by omega) _ _ _ (e3 i (by omega))
    exact mem_leaving.2 (leaves_iff.2 ⟨a, by omega, c⟩)
  have hsum := sum_cnt (fr := frs l) (n := n) (frs l).length (fun x hx => frs_range hg (by omega))
  constructor
  · intro h
    refine ⟨fun v hv => (hR v).1 (h v (Nat.zero_le _) hv).1, ?_⟩
    rw [← hfl, ← hsum]
    refine addTo_congr n (fun v hv => ?_)
    have := (h v (Nat.zero_le _) hv).2
    rw [hd v hv, leaving_cnt] at this
    omega
  · rintro ⟨h1, h2⟩ v _ hv
    refine ⟨(hR v).2 (h1 v hv), ?_⟩
    have := addTo_eq n (fun u hu => hle u hu (h1 u hu)) (by rw [h2, hsum, hfl]) v hv
    rw [hd v hv, leaving_cnt, this]
end
end Go.Proofs.Ytkkhhbegeboonaa.Rot
/- DERIVED. The walk of the law's right, over a contract of Half. -/

namespace Go.Proofs.Ytkkhhbegeboonaa.Rot
open Go.RowKit Go.Proofs.YtkkhhbegeboonaaW.PrintWords Go.Proofs.YtkkhhbegeboonaaW.PrintLast Go.Proofs.Ytkkhhbegeboonaa.Mem
set_option linter.unusedVariables false
set_option linter.unusedSimpArgs false
def HalfSays (n : Int) (A : Option Addr) (m c : Nat) (half : Int × Int → Option Int) (r : List (List Int)) (w : World) : Prop := ∀ (v j : Nat) (W : World), v < r.length → j < (gl r v).length → Below w.heap.size w W →
  Calls Try.prog 46 #[.agg #[.int .i64 n, .slice A m c], .int .i64 (v : Int), .int .i64 (gi (gl r v) j)] W fun e w' => e = .returned (.int .i64 (halfInt (half ((v : Int), gi (gl r v) j)))) ∧ Below W.heap.size W w'
set_option maxHeartbeats 2000000 in
set_option maxRecDepth 100000 in
theorem right_calls (n : Int) (A : Option Addr) (m c : Nat) (half : Int × Int → Option Int) (Ar : Option Addr) (cr : Nat) (r : List (List Int)) (RES : Bool) (w : World) (hh : HalfSays n A m c half r w) (hpos : ∀ q h, half q = some h → 0 ≤ h) (hm : m ≤ 4194304) (hr : Kd.C KR w Ar r.length r) (hsum : ∀ v, v ≤ r.length → addTo (fun v => (gl r v).length) v ≤ 1000000000000) (hrn : r.length ≤ 9000000000000)
    (h0 : (r.length : Int) ≠ n → RES = false) (h1 : ∀ v, v < r.length → ¬ RowRight half v (gl r v) → RES = false) (h2 : (r.length : Int) = n → (∀ v, v < r.length → RowRight half v (gl r v)) → RES = decide (addTo (fun v => (gl r v).length) r.length = 2 * m)) :
    Calls Try.prog 24 #[.agg #[.int .i64 n, .slice A m c], .slice Ar r.length cr] w fun e w' => e = .returned (.bool RES) ∧ Below w.heap.size w w' := by
  have HX := Aside0.mk (heap_last w (.cells #[.int .i64 n, .slice A m c] 24 (0, 0)))
  have HB : Aside0 (Below w.heap.size w (w.alloc (.cells #[.int .i64 n, .slice A m c] 24 (0, 0)))) := ⟨(Below.refl _ _).alloc (Nat.le_refl _) _⟩
  have x0 : (w.alloc (.cells #[.int .i64 n, .slice A m c] 24 (0, 0))).cell? ⟨w.heap.size, 0, none⟩ = some (.int .i64 n) := heap_cell HX.out rfl
  have x1 : (w.alloc (.cells #[.int .i64 n, .slice A m c] 24 (0, 0))).cell? ⟨w.heap.size, 1, none⟩ = some (.slice A m c) := heap_cell HX.out rfl
  have HH := Aside0.mk hh
  have HPOS := Aside0.mk hpos
  have HR := Aside0.mk hr
  have HS := Aside0.mk hsum
  have H0 := Aside0.mk h0
  have H1 := Aside0.mk h1
  have H2 := Aside0.mk h2
  clear hh hpos hr hsum h0 h1 h2
  by_cases hn : (r.length : Int) = n
  · have t0 : ((r.length : Int) != n) = false := bne_eq_false_iff_eq.2 hn
    have HN := Aside0.mk hn
    clear hn
    go_enter Try.func24, Try.ntmps24
    go_wp2_with fail
    have HV0 : Aside0 (∀ u, u < 0 → RowRight half (u : Nat) (gl r u)) := ⟨fun u hu => absurd hu (by omega)⟩
    obtain ⟨len, hlen⟩ : ∃ len : Nat → Nat, len = fun v => (gl r v).length := ⟨_, rfl⟩
    rw [← hlen] at HS H2
    have HLEN := Aside0.mk hlen
    clear hlen x0 x1
    generalize w.alloc (.cells #[.int .i64 n, .slice A m c] 24 (0, 0)) = w1 at HX HB ⊢
    obtain ⟨bg, hbg⟩ : ∃ bg, bg = w.heap.size := ⟨_, rfl⟩
    rw [← hbg] at HX ⊢
    clear hbg
    go_loopw [5, 19] (fun s y wr => ∃ (v : Nat), s = .int .i64 ((addTo len v : Nat) : Int) ∧ y = .int .i64 (v : Int) ∧ v ≤ r.length ∧ Aside0 (∀ u, u < v → RowRight half (u : Nat) (gl r u)) ∧ Aside0 (Below w.heap.size w wr) ∧ Aside0 (wr.heap[bg]? = some (.cells #[.int .i64 n, .slice A m c] 24 (0, 0)))) (fun _ y _ => r.length - (intOf y).toNat)
    case atStart => exact ⟨0, rfl, rfl, by omega, HV0, HB, HX⟩
    case round =>
      clear HV0 HB HX
      obtain ⟨v, rfl, rfl, hv, HV, HB, HX⟩ := hrel
      by_cases hlt : v < r.length
      · obtain ⟨ad, D, cD, eA, hx0, hcD, hrow⟩ := row_at HR.out hlt
        subst eA
        have hx := (HB.out.cell (cell_lt hx0)).trans hx0
        have hlv : len v = (gl r v).length := by rw [HLEN.out]
        have HHv : Aside0 (∀ (j : Nat) (W : World), j < (gl r v).length → Below w.heap.size w W → Calls Try.prog 46 #[.agg #[.int .i64 n, .slice A m c], .int .i64 (v : Int), .int .i64 (gi (gl r v) j)] W fun e w' => e = .returned (.int .i64 (halfInt (half ((v : Int), gi (gl r v) j)))) ∧ Below W.heap.size W w') := ⟨fun j W hj hW => HH.out v j W hlt hj hW⟩
        have HBAD : Aside0 (¬ RowRight half (v : Nat) (gl r v) → RES = false) := ⟨H1.out v hlt⟩
        have hs1 := HS.out (v + 1) (by omega)
        have HVR : Aside0 (RowRight half (v : Nat) (gl r v) → ∀ u, u < v + 1 → RowRight half (u : Nat) (gl r u)) := ⟨fun h u hu => by
          rcases Nat.lt_succ_iff_lt_or_eq.1 hu with q | rfl
          · exact HV.out u q
          · exact h⟩
        obtain ⟨row, hrw⟩ : ∃ row, row = gl r v := ⟨_, rfl⟩
        rw [← hrw] at hx hcD hrow hlv HHv HBAD HVR
        have hsv : addTo len (v + 1) = addTo len v + row.length := by rw [← hlv]; rfl
        rw [hsv] at hs1
        have HSV := Aside0.mk hsv
        have HROW := Aside0.mk hrow
        obtain ⟨S, hS⟩ : ∃ S, S = addTo len v := ⟨_, rfl⟩
        rw [← hS] at hs1 HSV ⊢
        clear hS hx0 hrow hrw hlv hsv HV
        go_wp2_with fail
        have HI0 : Aside0 (∀ i', i' < 0 → half ((v : Int), gi row i') ≠ none ∧ gi row i' ∉ row.take i') := ⟨fun i' h => absurd h (by omega)⟩
        go_loopw [26] (fun y wr => ∃ (i : Nat), y = .int .i64 (i : Int) ∧ i ≤ row.length ∧ Aside0 (∀ i', i' < i → half ((v : Int), gi row i') ≠ none ∧ gi row i' ∉ row.take i') ∧ Aside0 (Below w.heap.size w wr) ∧ Aside0 (wr.heap[bg]? = some (.cells #[.int .i64 n, .slice A m c] 24 (0, 0)))) (fun y _ => row.length - (intOf y).toNat)
        case atStart => exact ⟨0, rfl, by omega, HI0, HB, HX⟩
        case round =>
          clear HI0 HB HX hx
          obtain ⟨i, rfl, hi, HI, HB, HX⟩ := hrel
          by_cases hil : i < row.length
          · obtain ⟨ad2, eD, hxu⟩ := Kd.at_int (Kd.C_below HROW.out HB.out) (i : Int) (by omega) (by omega)
            subst eD
            rw [gi_rd, Int.toNat_natCast] at hxu
            have hcl := HHv.out i wr hil HB.out
            obtain ⟨u, hu⟩ : ∃ u, u = gi row i := ⟨_, rfl⟩
            rw [← hu] at hxu hcl
            obtain ⟨z, hz⟩ : ∃ z, z = halfInt (half ((v : Int), u)) := ⟨_, rfl⟩
            rw [← hz] at hcl
            have HC := Aside0.mk hcl
            have HU := Aside0.mk hu
            have HZ := Aside0.mk hz
            have x0 : wr.cell? ⟨bg, 0, none⟩ = some (.int .i64 n) := heap_cell HX.out rfl
            have x1 : wr.cell? ⟨bg, 1, none⟩ = some (.slice A m c) := heap_cell HX.out rfl
            clear hcl hu hz
            go_wp2_with fail
            refine (HC.out).mono ?_
            rintro e w5 ⟨rfl, hb⟩
            have HX5 := Aside0.mk ((hb.block _ (lt_of HX.out)).trans HX.out)
            have HB5 := Aside0.mk (HB.out.trans (hb.mono HB.out.size))
            clear hb x0 x1 hxu HB HX HC
            cases hf : half ((v : Int), u) with
            | none =>
              have HE := Aside0.mk (HBAD.out (fun h => (h i hil).1 (by rw [← HU.out]; exact hf)))
              have q : decide (z < 0) = true := decide_eq_true (by rw [HZ.out, hf]; decide)
              clear hf
              go_wp2_with fail
              go_ret
              exact ⟨by rw [HE.out]; rfl, HB5.out⟩
            | some h =>
              have q : decide (z < 0) = false := decide_eq_false (by rw [HZ.out, hf]; have := HPOS.out _ _ hf; show ¬ h < 0; omega)
              obtain ⟨X, hX, hC⟩ := to_reads HROW.out hcD (show i ≤ row.length by omega)
              have HP := Aside0.mk hC
              have HNN : Aside0 (half ((v : Int), u) ≠ none) := ⟨by rw [hf]; simp⟩
              clear hC hf
              go_wp2_with fail
              clear hX
              have HK0 : Aside0 (∀ k', k' < 0 → gi row k' ≠ u) := ⟨fun k' h => absurd h (by omega)⟩
              go_loopw [40] (fun y wr => ∃ (k : Nat), y = .int .i64 (k : Int) ∧ k ≤ i ∧ Aside0 (∀ k', k' < k → gi row k' ≠ u) ∧ Aside0 (Below w.heap.size w wr) ∧ Aside0 (wr.heap[bg]? = some (.cells #[.int .i64 n, .slice A m c] 24 (0, 0)))) (fun y _ => i - (intOf y).toNat)
              case atStart => exact ⟨0, rfl, by omega, HK0, HB5, HX5⟩
              case round =>
                clear HK0 HB5 HX5
                obtain ⟨k, rfl, hk, HK, HB, HX⟩ := hrel
                by_cases hki : k < i
                · have hlt2 : (row.take i).length = i := by rw [List.length_take]; omega
                  obtain ⟨ad3, eX, hxk⟩ := Kd.at_int (Kd.C_below HP.out HB.out) (k : Int) (by omega) (by omega)
                  subst eX
                  have egk : gi (row.take i) k = gi row k := by
                    unfold gi
                    rw [List.getD_eq_getElem?_getD, List.getD_eq_getElem?_getD, List.getElem?_take, if_pos hki]
                  rw [gi_rd, Int.toNat_natCast, egk] at hxk
                  obtain ⟨y, hy⟩ : ∃ y, y = gi row k := ⟨_, rfl⟩
                  rw [← hy] at hxk
                  have HY := Aside0.mk hy
                  clear hy egk hlt2
                  by_cases hc : y = u
                  · have t2 : (y == u) = true := beq_iff_eq.2 hc
                    have HE := Aside0.mk (HBAD.out (fun h => (h i hil).2 (by
                      rw [← HU.out, ← hc, HY.out, gi_get (show k < row.length by omega), List.mem_iff_getElem]
                      exact ⟨k, by rw [List.length_take]; omega, by simp⟩)))
                    clear hc
                    go_wp2_with fail
                    go_ret
                    exact ⟨by rw [HE.out]; rfl, HB.out⟩
                  · have t2 : (y == u) = false := beq_eq_false_iff_ne.2 hc
                    have HK2 : Aside0 (∀ k', k' < k + 1 → gi row k' ≠ u) := ⟨fun k' h => by
                      rcases Nat.lt_succ_iff_lt_or_eq.1 h with g | rfl
                      · exact HK.out k' g
                      · rw [← HY.out]; exact hc⟩
                    clear hc
                    go_wp2_with fail
                    go_roundw
                    case rel => exact ⟨k + 1, by go_num, by omega, HK2, HB, HX⟩
                    case measure => simp [intOf]; omega
                · obtain rfl : k = i := by omega
                  have HI2 : Aside0 (∀ i', i' < k + 1 → half ((v : Int), gi row i') ≠ none ∧ gi row i' ∉ row.take i') := ⟨fun i' h => by
                    rcases Nat.lt_succ_iff_lt_or_eq.1 h with g | rfl
                    · exact HI.out i' g
                    · rw [← HU.out]
                      refine ⟨HNN.out, fun g => ?_⟩
                      obtain ⟨p, hp, ep⟩ := List.mem_iff_getElem.1 g
                      rw [List.length_take] at hp
                      rw [List.getElem_take] at ep
                      exact HK.out p (by omega) (by rw [gi_get (by omega)]; exact ep)⟩
                  go_wp2_with fail
                  go_roundw
                  case rel => exact ⟨k + 1, by go_num, by omega, HI2, HB, HX⟩
                  case measure => simp [intOf]; omega
          · obtain rfl : i = row.length := by omega
            have HV2 := Aside0.mk (HVR.out (fun i' h => HI.out i' h))
            have q1 : IntKind.i64.wrap ((S : Int) + (row.length : Int)) = ((S + row.length : Nat) : Int) := by rw [IntWalk.i64_in _ (by omega)]; omega
            clear HI
            go_wp2_with fail
            go_roundw
            case rel => exact ⟨v + 1, by rw [HSV.out]; go_num, by go_num, by omega, HV2, HB, HX⟩
            case measure => simp [intOf]; omega
      · obtain rfl : v = r.length := by omega
        have hs := HS.out r.length (Nat.le_refl _)
        have HRES := Aside0.mk (H2.out HN.out (fun u hu => HV.out u hu))
        have x1 : wr.cell? ⟨bg, 1, none⟩ = some (.slice A m c) := heap_cell HX.out rfl
        obtain ⟨S, hS⟩ : ∃ S, S = addTo len r.length := ⟨_, rfl⟩
        rw [← hS] at HRES hs ⊢
        clear hS
        have q1 : IntKind.i64.wrap (2 * (m : Int)) = ((2 * m : Nat) : Int) := by rw [IntWalk.i64_in _ (by omega)]; omega
        go_wp2_with fail
        go_ret
        refine ⟨?_, HB.out⟩
        rw [HRES.out]
        have e : ((S : Int) == ((2 * m : Nat) : Int)) = decide (S = 2 * m) := by rw [Bool.eq_iff_iff, beq_iff_eq, decide_eq_true_eq]; omega
        rw [← e]
        rfl
  · have t0 : ((r.length : Int) != n) = true := bne_iff_ne.2 hn
    have HE := Aside0.mk (H0.out hn)
    clear hn
    go_enter Try.func24, Try.ntmps24
    go_wp2_with fail
    go_ret
    exact ⟨by rw [HE.out]; rfl, HB.out⟩
end Go.Proofs.Ytkkhhbegeboonaa.Rot
/- DERIVED. The program's Around: what it answers. -/



namespace Go.Proofs.Ytkkhhbegeboonaa.Rot
open Go.RowKit Go.Proofs.YtkkhhbegeboonaaW.PrintWords Go.Proofs.YtkkhhbegeboonaaW.PrintLast Go.Proofs.YtkkhhbegeboonaaW.PrintMore Go.Proofs.Ytkkhhbegeboonaa.GAll Go.Proofs.Ytkkhhbegeboonaa.Mem
set_option linter.unusedVariables false
set_option linter.unusedSimpArgs false
section
variable {n : Nat} {l : List Ed} {r : List (List Int)} {ds : List Int}
theorem twin_row (hg : PureV.Good (n : Int) l) (hr : IsRot (frs l) n r) {v j : Nat} (hv : v < n) (hj : j < (gl r v).length) : 0 ≤ twin (gi (gl r v) j) ∧ twin (gi (gl r v) j) < ((2 * l.length : Nat) : Int) := by
  obtain ⟨a, b, c⟩ := hr.at hv hj
  rw [frs_length] at b
  obtain ⟨q, hq⟩ := Int.eq_ofNat_of_zero_le a
  rw [hq] at b ⊢
  exact twin_in hg.2.2.1 (by omega)
theorem row_len {fr : List Int} (h : IsRot fr n r) {v : Nat} (hv : v < n) : (gl r v).length ≤ fr.length := by
  have := nodup_subset (gl r v) (leaving fr v) (h.nodup v hv) (fun x hx => mem_leaving.2 ((h.mem v hv x).1 hx))
  have h2 := cnt_le fr fr.length v
  rw [leaving_cnt] at this
  omega
theorem around_ev (hg : PureV.Good (n : Int) l) (hr : IsRot (frs l) n r) (h : Ev (fun k => rot_Check.f k (n : Int) l r) (0, 0)) : Ev (fun k => rot_Around.f k (n : Int) l r) (aroundOf (frs l) r, 0) := by
  unfold rot_Around.f
  refine Ev.bind h (Ev.congr (fun k => if_pos rfl) (Ev.congr (fun k => if_pos ?_) (Ev.now _)))
  have h1 := hg.2.1
  have h2 := hg.2.2.1
  have hfl := frs_length l
  have hrl := hr.len
  unfold rot_Around.fit
  rw [Bool.and_eq_true, Bool.and_eq_true, List.all_eq_true, decide_eq_true_eq, decide_eq_true_eq]
  refine ⟨h2, by omega, fun row hrow => ?_⟩
  obtain ⟨v, hv, rfl⟩ := List.getElem_of_mem hrow
  rw [← gl_get hv]
  have hl := row_len hr (show v < n by omega)
  rw [Bool.and_eq_true, List.all_eq_true, decide_eq_true_eq]
  refine ⟨by omega, fun x hx => ?_⟩
  obtain ⟨j, hj, rfl⟩ := mem_gi hx
  rw [Bool.and_eq_true, decide_eq_true_eq, decide_eq_true_eq]
  exact twin_row hg hr (by omega) hj
end
theorem around_no {n : Int} {l : List Ed} {r : List (List Int)} {res : Int × Int} (h : Ev (fun k => rot_Check.f k n l r) res) (h0 : res.2 ≠ 0) : Ev (fun k => rot_Around.f k n l r) ([], res.2) := by
  unfold rot_Around.f
  exact Ev.bind h (Ev.congr (fun k => if_neg h0) (Ev.now _))
theorem around_small {n : Nat} {l : List Ed} {r : List (List Int)} (hg : PureV.Good (n : Int) l) (hr : IsRot (frs l) n r) : Small (aroundOf (frs l) r) := by
  have h1 := hg.2.1
  have h2 := hg.2.2.1
  have hfl := frs_length l
  have hrl := hr.len
  refine ⟨by rw [aroundOf_length]; omega, fun x hx => ?_⟩
  unfold aroundOf at hx
  obtain ⟨row, hrow, rfl⟩ := List.mem_map.1 hx
  obtain ⟨v, hv, rfl⟩ := List.getElem_of_mem hrow
  have := row_len hr (show v < n by omega)
  rw [gl_get hv] at this
  rw [List.length_map]; omega
end Go.Proofs.Ytkkhhbegeboonaa.Rot
/- DERIVED. What came in, opened: a datum that is read tells a value of a kind (the kit's printer's kinds), its numbers in their bounds, its lists no longer than the form's reach. -/







namespace Go.Proofs.Ytkkhhbegeboonaa.Open
open Go.RowKit Go.Proofs.YtkkhhbegeboonaaW.PrintWords Go.Proofs.YtkkhhbegeboonaaW.PrintLast Go.Proofs.YtkkhhbegeboonaaW.PrintMore Go.ChangeShapes Go.WideShapes Go.Deep
set_option linter.unusedVariables false
set_option linter.unusedSimpArgs false

/-- a number of its kind -/
def I64 (n : Int) : Prop := -9223372036854775808 ≤ n ∧ n ≤ 9223372036854775807
/-- every reading of a value of type t tells a value of kind d -/
def Opens {α : Type} (P : Program) (t : TypeId) (d : Kd α) (good : α → Prop) : Prop :=
  ∀ {H : Type} (enc : TypeId × Value → H) (w : World) (fuel : Nat) (cs : List Value) (x : DataW H × List MemPlace),
    DataW.trod enc P w 0 (fun _ => true) true fuel t cs = some x → (x.1.weights P t).all (· ≤ reachBytes) = true → ∃ v, d.K w v cs ∧ good v
section
variable {P : Program} {α β : Type}
theorem opens_int {t : TypeId} (ht : P.underlying t = some (.int .i64)) : Opens P t (Kd.int .i64) I64 := by
  intro H enc w fuel cs x h _
  obtain ⟨n, rfl, _, hw⟩ := DataW.trod_int ht h
  refine ⟨n, rfl, ?_⟩
  have hmin : IntKind.i64.min = -9223372036854775808 := rfl
  have hmax : IntKind.i64.max = 9223372036854775807 := rfl
  simp only [Lit.wf, Bool.and_eq_true, decide_eq_true_eq] at hw
  unfold I64; omega
theorem weightsAll_mem {H : Type} {e : TypeId} {l : List (DataW H)} (h : (DataW.weightsAll P e l).all (· ≤ reachBytes) = true) {d : DataW H} (hd : d ∈ l) : (d.weights P e).all (· ≤ reachBytes) = true := by
  induction l with
  | nil => cases hd
  | cons a l ih =>
    unfold DataW.weightsAll at h
    rw [List.all_append, Bool.and_eq_true] at h
    rcases List.mem_cons.1 hd with rfl | hd
    · exact h.1
    · exact ih h.2 hd
theorem opens_slice {t e : TypeId} {d : Kd α} {good : α → Prop} {B : Nat} (ht : P.underlying t = some (.slice e)) (hc : P.cellsOf e = d.sz) (hB : P.bytesOf e = B) (ho : Opens P e d good) (dflt : α) :
    Opens P t (Kd.slice e d) (fun xs => xs.length * B ≤ 140737488351232 ∧ ∀ x ∈ xs, good x) := by
  intro H enc w fuel cs x h hwt
  rcases open_slice ht h with ⟨rfl, rfl⟩ | ⟨a, len, cap, m, n, D, Pl, rfl, hb, hl, hm, hmm, rfl, hx⟩
  · exact ⟨[], ⟨none, 0, rfl, Nat.le_refl _, rfl, by simp, fun h => absurd h (by simp)⟩, by simp, by simp⟩
  · simp only [if_true] at hmm
    subst hmm
    unfold DataW.weights at hwt
    rw [ht] at hwt
    simp only [List.all_cons, List.all_append, Bool.and_eq_true, decide_eq_true_eq, List.length_map, List.length_range, hB] at hwt
    obtain ⟨hw1, hw2, _⟩ := hwt
    have each : ∀ i, i < len → ∃ v : α × List Value, v.2.length = d.sz ∧ d.K w v.1 v.2 ∧ good v.1 ∧ ∀ k u, v.2[k]? = some u → w.cell? (a.add (i * d.sz + k)) = some u := by
      intro i hi
      obtain ⟨cs', h1, h2⟩ := hx i (by omega)
      rw [hc] at h1
      obtain ⟨_, hlen, hcell⟩ := World.cells?_some h1
      obtain ⟨v, hv, hg⟩ := ho enc w n cs' _ h2 (weightsAll_mem hw2 (List.mem_map.2 ⟨i, List.mem_range.2 hi, rfl⟩))
      refine ⟨(v, cs'), hlen, hv, hg, fun k u hk => ?_⟩
      have hk2 : k < d.sz := by
        have hk3 : k < cs'.length := (List.getElem?_eq_some_iff.1 hk).1
        omega
      have := hcell k hk2
      rw [Go.Deep.add_add] at this
      rw [this]; exact hk
    haveI : Inhabited (α × List Value) := ⟨(dflt, [])⟩
    obtain ⟨q, hq⟩ := choose_lt each
    have hlen : ((List.range len).map fun i => (q i).1).length = len := by simp
    have hget : ∀ j p, ((List.range len).map fun i => (q i).1)[j]? = some p → j < len ∧ p = (q j).1 := by
      intro j p hj
      rw [List.getElem?_map] at hj
      by_cases hjl : j < len
      · rw [List.getElem?_range hjl] at hj
        exact ⟨hjl, by simpa using hj.symm⟩
      · rw [List.getElem?_eq_none (by simp; omega)] at hj; simp at hj
    refine ⟨(List.range len).map fun i => (q i).1, ⟨some a, m, by rw [hlen], by rw [hlen]; exact hl, by rw [hlen], ?_, fun _ => ⟨a, rfl, fun j p hj => ?_⟩⟩, ?_, ?_⟩
    · rw [hlen]; unfold maxLen at hm; omega
    · obtain ⟨hjl, rfl⟩ := hget j p hj
      exact ⟨(q j).2, (hq j hjl).1, (hq j hjl).2.1, (hq j hjl).2.2.2⟩
    · rw [hlen]
      have h5 : len * B ≤ (len + (m - len)) * B := Nat.mul_le_mul_right _ (by omega)
      have h6 : reachBytes = 140737488351232 := rfl
      omega
    · intro v hv
      obtain ⟨i, hi, rfl⟩ := List.mem_map.1 hv
      exact (hq i (List.mem_range.1 hi)).2.2.1
theorem opens_two {t : TypeId} {f0 f1 : Field} {a : Kd α} {b : Kd β} {ga : α → Prop} {gb : β → Prop} (ht : P.underlying t = some (.struct #[f0, f1])) (h0 : Opens P f0.type a ga) (h1 : Opens P f1.type b gb)
    (o0 : f0.offset = 0) (o1 : f1.offset = a.sz) (c0 : P.cellsOf f0.type = a.sz) (c1 : P.cellsOf f1.type = b.sz) (ct : P.cellsOf t = a.sz + b.sz) : Opens P t (Kd.pair a b) (fun x => ga x.1 ∧ gb x.2) := by
  intro H enc w fuel cs x h hwt
  obtain ⟨xs, n, _, rfl, hcl, hxl, hf⟩ := DataW.trod_struct ht h
  match xs, hxl with
  | [y0, y1], _ =>
    have g0 := hf 0 f0 rfl
    have g1 := hf 1 f1 rfl
    rw [o0, c0] at g0
    rw [o1, c1] at g1
    unfold DataW.weights at hwt
    rw [ht] at hwt
    simp only [List.map_cons, List.map_nil, DataW.weightsEach, List.all_append, Bool.and_eq_true] at hwt
    obtain ⟨hw0, hw1, _⟩ := hwt
    rw [List.drop_zero] at g0
    obtain ⟨v0, k0, q0⟩ := h0 enc w n _ y0 g0 hw0
    obtain ⟨v1, k1, q1⟩ := h1 enc w n _ y1 g1 hw1
    refine ⟨(v0, v1), ⟨_, _, ?_, k0, k1⟩, q0, q1⟩
    rw [List.take_of_length_le (l := cs.drop a.sz) (by rw [List.length_drop]; omega), List.take_append_drop]
theorem split_four {γ : Type} (cs : List γ) (a b c d : Nat) (h : cs.length = a + b + c + d) : cs = cs.take a ++ ((cs.drop a).take b ++ ((cs.drop (a + b)).take c ++ (cs.drop (a + b + c)).take d)) := by
  have h1 : (cs.drop (a + b + c)).take d = cs.drop (a + b + c) := List.take_of_length_le (by rw [List.length_drop]; omega)
  have h2 : cs.drop (a + b) = (cs.drop (a + b)).take c ++ cs.drop (a + b + c) := by rw [← List.drop_drop (l := cs) (i := c) (j := a + b), List.take_append_drop]
  have h3 : cs.drop a = (cs.drop a).take b ++ cs.drop (a + b) := by rw [← List.drop_drop (l := cs) (i := b) (j := a), List.take_append_drop]
  rw [h1, ← h2, ← h3, List.take_append_drop]
theorem opens_four {γ δ : Type} {t : TypeId} {f0 f1 f2 f3 : Field} {a : Kd α} {b : Kd β} {c : Kd γ} {d : Kd δ} {ga : α → Prop} {gb : β → Prop} {gc : γ → Prop} {gd : δ → Prop} (ht : P.underlying t = some (.struct #[f0, f1, f2, f3])) (h0 : Opens P f0.type a ga) (h1 : Opens P f1.type b gb) (h2 : Opens P f2.type c gc) (h3 : Opens P f3.type d gd)
    (o0 : f0.offset = 0) (o1 : f1.offset = a.sz) (o2 : f2.offset = a.sz + b.sz) (o3 : f3.offset = a.sz + b.sz + c.sz) (c0 : P.cellsOf f0.type = a.sz) (c1 : P.cellsOf f1.type = b.sz) (c2 : P.cellsOf f2.type = c.sz) (c3 : P.cellsOf f3.type = d.sz) (ct : P.cellsOf t = a.sz + b.sz + c.sz + d.sz) : Opens P t (Kd.pair a (Kd.pair b (Kd.pair c d))) (fun x => ga x.1 ∧ gb x.2.1 ∧ gc x.2.2.1 ∧ gd x.2.2.2) := by
  intro H enc w fuel cs x h hwt
  obtain ⟨xs, n, _, rfl, hcl, hxl, hf⟩ := DataW.trod_struct ht h
  match xs, hxl with
  | [y0, y1, y2, y3], _ =>
    have g0 := hf 0 f0 rfl
    have g1 := hf 1 f1 rfl
    have g2 := hf 2 f2 rfl
    have g3 := hf 3 f3 rfl
    rw [o0, c0] at g0
    rw [o1, c1] at g1
    rw [o2, c2] at g2
    rw [o3, c3] at g3
    unfold DataW.weights at hwt
    rw [ht] at hwt
    simp only [List.map_cons, List.map_nil, DataW.weightsEach, List.all_append, Bool.and_eq_true] at hwt
    obtain ⟨hw0, hw1, hw2, hw3, _⟩ := hwt
    rw [List.drop_zero] at g0
    obtain ⟨v0, k0, q0⟩ := h0 enc w n _ y0 g0 hw0
    obtain ⟨v1, k1, q1⟩ := h1 enc w n _ y1 g1 hw1
    obtain ⟨v2, k2, q2⟩ := h2 enc w n _ y2 g2 hw2
    obtain ⟨v3, k3, q3⟩ := h3 enc w n _ y3 g3 hw3
    refine ⟨(v0, v1, v2, v3), ⟨_, _, ?_, k0, _, _, rfl, k1, _, _, rfl, k2, k3⟩, q0, q1, q2, q3⟩
    exact split_four cs _ _ _ _ (by omega)
theorem opens_iso {t : TypeId} {d : Kd α} {good : α → Prop} {f : β → α} (g : α → β) (hg : ∀ x, f (g x) = x) (h : Opens P t d good) : Opens P t (Kd.iso d f) (fun y => good (f y)) := by
  intro H enc w fuel cs x hx hw
  obtain ⟨v, k, q⟩ := h enc w fuel cs x hx hw
  exact ⟨g v, by show d.K w (f (g v)) cs; rw [hg]; exact k, by show good (f (g v)); rw [hg]; exact q⟩
/-- an argument -/
theorem open_arg {H : Type} {enc : TypeId × Value → H} {w : World} {t : TypeId} {d : Kd α} {good : α → Prop} {v : Value} {dd : DataW H} {ps : List MemPlace} (ho : Opens P t d good) (h : DataW.Trod enc P w 0 (fun _ => true) true t v dd ps)
    (hw : (dd.weights P t).all (· ≤ reachBytes) = true) : ∃ x, d.K w x v.cells.toList ∧ good x := by
  obtain ⟨fuel, hf⟩ := h
  exact ho enc w fuel _ _ hf hw
/-- the weights of the j-th argument -/
theorem weight_at {H : Type} {ts : List TypeId} {ds : List (DataW H)} (h : (DataW.weightsEach P ts ds).all (· ≤ reachBytes) = true) : ∀ {j : Nat} {t : TypeId} {d : DataW H}, ts[j]? = some t → ds[j]? = some d → (d.weights P t).all (· ≤ reachBytes) = true := by
  induction ts generalizing ds with
  | nil => intro j t d ht; simp at ht
  | cons a ts ih =>
    cases ds with
    | nil => intro j t d _ hd; simp at hd
    | cons b ds =>
      unfold DataW.weightsEach at h
      rw [List.all_append, Bool.and_eq_true] at h
      intro j t d ht hd
      cases j with
      | zero =>
        obtain rfl : a = t := by simpa using ht
        obtain rfl : b = d := by simpa using hd
        exact h.1
      | succ j => exact ih h.2 (by simpa using ht) (by simpa using hd)
theorem of_slice {w : World} {e : Nat} {d : Kd α} {xs : List α} {A : Option Addr} {n c : Nat} (h : (Kd.slice e d).K w xs [.slice A n c]) : n = xs.length ∧ xs.length ≤ c ∧ d.C w A xs.length xs := by
  obtain ⟨A', c', he, hl, hc⟩ := h
  simp only [List.cons.injEq, Value.slice.injEq, and_true] at he
  obtain ⟨rfl, rfl, rfl⟩ := he
  exact ⟨rfl, hl, hc⟩
end
end Go.Proofs.Ytkkhhbegeboonaa.Open
/- DERIVED. What came in, opened, with its bulk: for the statements of the second form. -/



namespace Go.Proofs.Ytkkhhbegeboonaa.Open
open Go.RowKit Go.Proofs.YtkkhhbegeboonaaW.PrintWords Go.Proofs.YtkkhhbegeboonaaW.PrintLast Go.Proofs.YtkkhhbegeboonaaW.PrintMore Go.ChangeShapes Go.WideShapes Go.Deep
set_option linter.unusedVariables false
set_option linter.unusedSimpArgs false
/-- every reading tells a value, whose bulk is no more than the reading's -/
def OpensB {α : Type} (P : Program) (t : TypeId) (d : Kd α) (good : α → Prop) (bulk : α → Nat) : Prop :=
  ∀ {H : Type} (enc : TypeId × Value → H) (w : World) (fuel : Nat) (cs : List Value) (x : DataW H × List MemPlace),
    DataW.trod enc P w 0 (fun _ => true) true fuel t cs = some x → (x.1.weights P t).all (· ≤ reachBytes) = true → ∃ v, d.K w v cs ∧ good v ∧ bulk v ≤ Rows.uptoBulk x.1
def sumOf {α : Type} (f : α → Nat) : List α → Nat
  | [] => 0
  | a :: l => f a + sumOf f l
section
variable {P : Program} {α β : Type}
theorem opensB_int {t : TypeId} (ht : P.underlying t = some (.int .i64)) : OpensB P t (Kd.int .i64) I64 (fun _ => 1) := by
  intro H enc w fuel cs x h hw
  obtain ⟨v, h1, h2⟩ := opens_int ht enc w fuel cs x h hw
  refine ⟨v, h1, h2, ?_⟩
  cases x.1 with
  | lit l => cases l <;> simp [Rows.uptoBulk]
  | nil => simp [Rows.uptoBulk]
  | ptr d => simp [Rows.uptoBulk]
  | slice elems spare => simp [Rows.uptoBulk]
  | agg parts => simp [Rows.uptoBulk]
  | iface t d => simp [Rows.uptoBulk]
  | map entries => simp [Rows.uptoBulk]
  | held h => simp [Rows.uptoBulk]
theorem sumOf_range {H : Type} (bulk : α → Nat) (D : Nat → DataW H) (q : Nat → α) : ∀ l : List Nat, (∀ i ∈ l, bulk (q i) ≤ Rows.uptoBulk (D i)) → sumOf bulk (l.map q) ≤ Rows.uptoBulkAll (l.map D)
  | [], _ => by simp [sumOf, Rows.uptoBulkAll]
  | a :: l, h => by
    have h1 := h a (by simp)
    have h2 := sumOf_range bulk D q l (fun i hi => h i (by simp [hi]))
    simp only [List.map_cons, sumOf, Rows.uptoBulkAll]
    omega
theorem opensB_slice {t e : TypeId} {d : Kd α} {good : α → Prop} {bulk : α → Nat} {B : Nat} (ht : P.underlying t = some (.slice e)) (hc : P.cellsOf e = d.sz) (hB : P.bytesOf e = B) (ho : OpensB P e d good bulk) (dflt : α) :
    OpensB P t (Kd.slice e d) (fun xs => xs.length * B ≤ 140737488351232 ∧ ∀ x ∈ xs, good x) (sumOf bulk) := by
  intro H enc w fuel cs x h hwt
  rcases open_slice ht h with ⟨rfl, rfl⟩ | ⟨a, len, cap, m, n, D, Pl, rfl, hb, hl, hm, hmm, rfl, hx⟩
  · exact ⟨[], ⟨none, 0, rfl, Nat.le_refl _, rfl, by simp, fun h => absurd h (by simp)⟩, by simp, by simp [sumOf]⟩
  · simp only [if_true] at hmm
    subst hmm
    unfold DataW.weights at hwt
    rw [ht] at hwt
    simp only [List.all_cons, List.all_append, Bool.and_eq_true, decide_eq_true_eq, List.length_map, List.length_range, hB] at hwt
    obtain ⟨hw1, hw2, _⟩ := hwt
    have each : ∀ i, i < len → ∃ v : α × List Value, v.2.length = d.sz ∧ d.K w v.1 v.2 ∧ (good v.1 ∧ bulk v.1 ≤ Rows.uptoBulk (D i)) ∧ ∀ k u, v.2[k]? = some u → w.cell? (a.add (i * d.sz + k)) = some u := by
      intro i hi
      obtain ⟨cs', h1, h2⟩ := hx i (by omega)
      rw [hc] at h1
      obtain ⟨_, hlen, hcell⟩ := World.cells?_some h1
      obtain ⟨v, hv, hg⟩ := ho enc w n cs' _ h2 (weightsAll_mem hw2 (List.mem_map.2 ⟨i, List.mem_range.2 hi, rfl⟩))
      refine ⟨(v, cs'), hlen, hv, hg, fun k u hk => ?_⟩
      have hk2 : k < d.sz := by
        have hk3 : k < cs'.length := (List.getElem?_eq_some_iff.1 hk).1
        omega
      have := hcell k hk2
      rw [Go.Deep.add_add] at this
      rw [this]; exact hk
    haveI : Inhabited (α × List Value) := ⟨(dflt, [])⟩
    obtain ⟨q, hq⟩ := choose_lt each
    have hlen : ((List.range len).map fun i => (q i).1).length = len := by simp
    have hget : ∀ j p, ((List.range len).map fun i => (q i).1)[j]? = some p → j < len ∧ p = (q j).1 := by
      intro j p hj
      rw [List.getElem?_map] at hj
      by_cases hjl : j < len
      · rw [List.getElem?_range hjl] at hj
        exact ⟨hjl, by simpa using hj.symm⟩
      · rw [List.getElem?_eq_none (by simp; omega)] at hj; simp at hj
    refine ⟨(List.range len).map fun i => (q i).1, ⟨some a, m, by rw [hlen], by rw [hlen]; exact hl, by rw [hlen], ?_, fun _ => ⟨a, rfl, fun j p hj => ?_⟩⟩, ⟨?_, ?_⟩, ?_⟩
    · rw [hlen]; unfold maxLen at hm; omega
    · obtain ⟨hjl, rfl⟩ := hget j p hj
      exact ⟨(q j).2, (hq j hjl).1, (hq j hjl).2.1, (hq j hjl).2.2.2⟩
    · rw [hlen]
      have h5 : len * B ≤ (len + (m - len)) * B := Nat.mul_le_mul_right _ (by omega)
      have h6 : reachBytes = 140737488351232 := rfl
      omega
    · intro v hv
      obtain ⟨i, hi, rfl⟩ := List.mem_map.1 hv
      exact (hq i (List.mem_range.1 hi)).2.2.1.1
    · have h1 := sumOf_range bulk D (fun i => (q i).1) (List.range len) (fun i hi => (hq i (List.mem_range.1 hi)).2.2.1.2)
      simp only [Rows.uptoBulk]
      omega
theorem open_argB {H : Type} {enc : TypeId × Value → H} {w : World} {t : TypeId} {d : Kd α} {good : α → Prop} {bulk : α → Nat} {v : Value} {dd : DataW H} {ps : List MemPlace} (ho : OpensB P t d good bulk) (h : DataW.Trod enc P w 0 (fun _ => true) true t v dd ps)
    (hw : (dd.weights P t).all (· ≤ reachBytes) = true) : ∃ x, d.K w x v.cells.toList ∧ good x ∧ bulk x ≤ Rows.uptoBulk dd := by
  obtain ⟨fuel, hf⟩ := h
  exact ho enc w fuel _ _ hf hw
theorem bulk_at {H : Type} {d : DataW H} {l : List (DataW H)} (h : d ∈ l) (hk : Rows.uptoSmall H l = true) : Rows.uptoBulk d ≤ 1048576 := by
  have h1 : Rows.uptoBulkAll l ≤ 1048576 := of_decide_eq_true hk
  have : ∀ l : List (DataW H), d ∈ l → Rows.uptoBulk d ≤ Rows.uptoBulkAll l := by
    intro l
    induction l with
    | nil => intro h; cases h
    | cons x r ih =>
      intro h
      simp only [Rows.uptoBulkAll]
      rcases List.mem_cons.1 h with e | e
      · subst e; omega
      · have := ih e; omega
  exact Nat.le_trans (this l h) h1
end
end Go.Proofs.Ytkkhhbegeboonaa.Open
/- DERIVED. The law RotBack, walked; where what it reads is of bounded bulk. -/




namespace Go.Proofs.Ytkkhhbegeboonaa.Rot
open Go.RowKit Go.Proofs.YtkkhhbegeboonaaW.PrintWords Go.Proofs.YtkkhhbegeboonaaW.PrintLast Go.Proofs.YtkkhhbegeboonaaW.PrintMore Go.Proofs.Ytkkhhbegeboonaa.GAll Go.Proofs.Ytkkhhbegeboonaa.Mem
set_option linter.unusedVariables false
set_option linter.unusedSimpArgs false
/-! ### plain -/
theorem from_ev {n : Nat} {l : List Ed} {r : List (List Int)} (hG : PureV.Good (n : Int) l) (hb : Ev (fun k => simple_Valid.f k (n : Int) l) true) (hs : ∀ row ∈ r, row.length * 8 ≤ 140737488351232) (hi : ∀ x ∈ r, ∀ y ∈ x, InI y) (hl : r.length = n) :
    ∃ ds, (∀ v, v < n → gi ds v = ((leaving (frs l) v).length : Int)) ∧ Ev (fun k => rot_From.f k (n : Int) l r) (rot_From.res (fromRows (halfOf (ends l)) ds 0 r [])) := by
  obtain ⟨ds, hd, g1, g2⟩ := degrees_ev hG hb
  refine ⟨ds, g2, ?_⟩
  unfold rot_From.f
  refine Ev.bind hb (Ev.congr (fun k => by rw [if_pos rfl, if_pos (by omega)]) (Ev.bind hd (Ev.congr (fun k => ?_) (Ev.now _))))
  unfold rot_From.told
  rw [if_pos]
  · rfl
  · unfold rot_From.fit
    have h1 := hG.2.1
    have h2 := hG.2.2.1
    rw [Bool.and_eq_true, Bool.and_eq_true, List.all_eq_true, List.all_eq_true, decide_eq_true_eq]
    refine ⟨⟨hG.1, h1, h2, by simp only; omega, rfl⟩, fun x hx => ?_, fun row hrow => ?_⟩
    · obtain ⟨i, hi2, rfl⟩ := List.getElem_of_mem hx
      obtain ⟨⟨a, b, c⟩, _⟩ := hG.2.2.2 i hi2
      have e : PureV.rdE l (i : Nat) = l[i] := by
        show l.getD ((i : Int).toNat) _ = _
        rw [Int.toNat_natCast, List.getD_eq_getElem?_getD, List.getElem?_eq_getElem hi2]
        rfl
      rw [e] at a b c
      rw [decide_eq_true_eq]
      exact ⟨⟨by omega, by omega⟩, ⟨by omega, by omega⟩⟩
    · rw [Bool.and_eq_true, List.all_eq_true, decide_eq_true_eq]
      exact ⟨hs row hrow, fun u hu => decide_eq_true (hi row hrow u hu)⟩
theorem from_no {n : Int} {l : List Ed} {r : List (List Int)} (hb : Ev (fun k => simple_Valid.f k n l) true) (hl : (r.length : Int) ≠ n) : Ev (fun k => rot_From.f k n l r) ([], 0, 110) := by
  unfold rot_From.f
  exact Ev.bind hb (Ev.congr (fun k => by rw [if_pos rfl, if_neg hl]) (Ev.now _))
theorem sum_bulk (r : List (List Int)) : ∀ v, v ≤ r.length → addTo (fun v => (gl r v).length) v ≤ Open.sumOf (Open.sumOf (fun _ => 1)) r := by
  have one : ∀ l : List Int, Open.sumOf (fun _ => 1) l = l.length := by
    intro l
    induction l with
    | nil => rfl
    | cons a l ih => simp only [Open.sumOf, List.length_cons, ih]; omega
  have shift : ∀ (a : List Int) (r : List (List Int)) (v : Nat), addTo (fun v => (gl (a :: r) v).length) (v + 1) = a.length + addTo (fun v => (gl r v).length) v := by
    intro a r v
    induction v with
    | zero => show 0 + (gl (a :: r) 0).length = _; unfold gl; simp [addTo]
    | succ v ih =>
      show addTo (fun v => (gl (a :: r) v).length) (v + 1) + (gl (a :: r) (v + 1)).length = a.length + (addTo (fun v => (gl r v).length) v + (gl r v).length)
      rw [ih]
      have : gl (a :: r) (v + 1) = gl r v := by unfold gl; simp
      rw [this]; omega
  induction r with
  | nil => intro v hv; have : v = 0 := by simpa using hv
           subst this; exact Nat.zero_le _
  | cons a r ih =>
    intro v hv
    cases v with
    | zero => exact Nat.zero_le _
    | succ v =>
      rw [shift, Open.sumOf, one]
      have := ih v (by simp at hv; omega)
      omega
/-! ### the walk -/
set_option maxHeartbeats 2000000 in
theorem back_invalid (k : Nat) (n : Int) (A : Option Addr) (c : Nat) (l : List Ed) (A1 : Option Addr) (c1 : Nat) (r : List (List Int)) (A2 : Option Addr) (c2 : Nat) (ar : List (List Int)) (w : World) (hr : Kd.C k59 w A l.length l) (hc : l.length ≤ c) (hr2 : Kd.C (Kd.slice 3 (Kd.int .i64)) w A2 ar.length ar) (hc2 : ar.length ≤ c2)
    (h1 : tangramref03_Valid.f k n l = some false) (h2 : rot_From.f k n l ar = some ([], 0, 1)) :
    Calls Try.prog 6 #[.agg #[.int .i64 n, .slice A l.length c], .slice A1 r.length c1, .slice A2 ar.length c2] w fun e w' => e = .returned (.bool true) ∧ Below w.heap.size w w' := by
  have HX := Aside0.mk (heap_last w (.cells #[.int .i64 n, .slice A l.length c] 24 (0, 0)))
  have HB : Aside0 (Below w.heap.size w (w.alloc (.cells #[.int .i64 n, .slice A l.length c] 24 (0, 0)))) := ⟨(Below.refl _ _).alloc (Nat.le_refl _) _⟩
  have HR := Aside0.mk hr
  have HR2 := Aside0.mk hr2
  have H1 := Aside0.mk h1
  have H2 := Aside0.mk h2
  have HCC := Aside0.mk hc
  have HCC2 := Aside0.mk hc2
  clear hr hr2 h1 h2 hc hc2
  go_enter Try.func6, Try.ntmps6
  go_wp2_with fail
  refine (tangramlaw11_fixed.calls true _ rfl).mono ?_
  rintro e w1 ⟨rfl, hb⟩
  have HB1 := Aside0.mk (HB.out.trans (hb.mono HB.out.size))
  have HX1 := Aside0.mk ((hb.block _ (lt_of HX.out)).trans HX.out)
  clear hb HB HX
  first | clear x0 x1 | skip
  have x0 : w1.cell? ⟨w.heap.size, 0, none⟩ = some (.int .i64 n) := heap_cell HX1.out rfl
  have x1 : w1.cell? ⟨w.heap.size, 1, none⟩ = some (.slice A l.length c) := heap_cell HX1.out rfl
  go_wp2_with fail
  refine (tangramref03_Valid.calls k n A c l false w1 (Kd.C_below HR.out HB1.out) HCC.out H1.out).mono ?_
  rintro e w2 ⟨rfl, hb⟩
  have HB2 := Aside0.mk (HB1.out.trans (hb.mono HB1.out.size))
  have HX2 := Aside0.mk ((hb.block _ (lt_of HX1.out)).trans HX1.out)
  clear hb HB1 HX1
  first | clear x0 x1 | skip
  have x0 : w2.cell? ⟨w.heap.size, 0, none⟩ = some (.int .i64 n) := heap_cell HX2.out rfl
  have x1 : w2.cell? ⟨w.heap.size, 1, none⟩ = some (.slice A l.length c) := heap_cell HX2.out rfl
  go_wp2_with fail
  refine (rot_From.calls k n A c l A2 c2 ar [] 0 1 w2 (Kd.C_below HR.out HB2.out) HCC.out (Kd.C_below HR2.out HB2.out) HCC2.out H2.out).mono ?_
  rintro e w3 ⟨v3, rfl, hR, hb⟩
  have HB3 := Aside0.mk (HB2.out.trans (hb.mono HB2.out.size))
  clear hb x0 x1 hR
  go_wp2_with fail
  go_ret
  exact ⟨rfl, HB3.out⟩
set_option maxHeartbeats 4000000 in
theorem back_walk (k : Nat) (n : Int) (A : Option Addr) (c : Nat) (l : List Ed) (A1 : Option Addr) (c1 : Nat) (r : List (List Int)) (A2 : Option Addr) (c2 : Nat) (ar : List (List Int)) (RES : Bool) (w : World) (hr : Kd.C k59 w A l.length l) (hc : l.length ≤ c) (hr1 : Kd.C (Kd.slice 3 (Kd.int .i64)) w A1 r.length r) (hc1 : r.length ≤ c1) (hr2 : Kd.C (Kd.slice 3 (Kd.int .i64)) w A2 ar.length ar) (hc2 : ar.length ≤ c2)
    (hV : tangramref03_Valid.f k n l = some true)
    (hA : (∃ x, rot_Around.f k n l r = some (x, 0) ∧ rot_From.f k n l x = some (r, 0, 0)) ∨ (∃ x e, e ≠ 0 ∧ rot_Around.f k n l r = some (x, e)))
    (hE : tangramref11_Equal.f k r r = some true) (hE2 : tangramref11_Equal.f k ar ar = some true)
    (hF : (∃ s, rot_From.f k n l ar = some (s, 0, 0) ∧ rot_Around.f k n l s = some (ar, 0) ∧ (∃ v, rot_Check.f k n l s = some (v, 0)) ∧ RES = true) ∨ (∃ v e, e ≠ 0 ∧ rot_From.f k n l ar = some ([], v, e) ∧ RES = false))
    (hRight : ∀ W, Below w.heap.size w W → Calls Try.prog 24 #[.agg #[.int .i64 n, .slice A l.length c], .slice A2 ar.length c2] W fun e w' => e = .returned (.bool RES) ∧ Below W.heap.size W w') :
    Calls Try.prog 6 #[.agg #[.int .i64 n, .slice A l.length c], .slice A1 r.length c1, .slice A2 ar.length c2] w fun e w' => e = .returned (.bool true) ∧ Below w.heap.size w w' := by
  have HX := Aside0.mk (heap_last w (.cells #[.int .i64 n, .slice A l.length c] 24 (0, 0)))
  have HB : Aside0 (Below w.heap.size w (w.alloc (.cells #[.int .i64 n, .slice A l.length c] 24 (0, 0)))) := ⟨(Below.refl _ _).alloc (Nat.le_refl _) _⟩
  have HR := Aside0.mk hr
  have HR1 := Aside0.mk hr1
  have HR2 := Aside0.mk hr2
  have HV := Aside0.mk hV
  have HA := Aside0.mk hA
  have HE := Aside0.mk hE
  have HE2 := Aside0.mk hE2
  have HF := Aside0.mk hF
  have HRI := Aside0.mk hRight
  have HCC := Aside0.mk hc
  have HCC1 := Aside0.mk hc1
  have HCC2 := Aside0.mk hc2
  clear hr hr1 hr2 hV hA hE hE2 hF hRight hc hc1 hc2
  go_enter Try.func6, Try.ntmps6
  go_wp2_with fail
  refine (tangramlaw11_fixed.calls true _ rfl).mono ?_
  rintro e w1 ⟨rfl, hb⟩
  have HB1 := Aside0.mk (HB.out.trans (hb.mono HB.out.size))
  have HX1 := Aside0.mk ((hb.block _ (lt_of HX.out)).trans HX.out)
  clear hb HB HX
  first | clear x0 x1 | skip
  have x0 : w1.cell? ⟨w.heap.size, 0, none⟩ = some (.int .i64 n) := heap_cell HX1.out rfl
  have x1 : w1.cell? ⟨w.heap.size, 1, none⟩ = some (.slice A l.length c) := heap_cell HX1.out rfl
  go_wp2_with fail
  refine (tangramref03_Valid.calls k n A c l true w1 (Kd.C_below HR.out HB1.out) HCC.out HV.out).mono ?_
  rintro e w2 ⟨rfl, hb⟩
  have HB2 := Aside0.mk (HB1.out.trans (hb.mono HB1.out.size))
  have HX2 := Aside0.mk ((hb.block _ (lt_of HX1.out)).trans HX1.out)
  clear hb HB1 HX1
  first | clear x0 x1 | skip
  have x0 : w2.cell? ⟨w.heap.size, 0, none⟩ = some (.int .i64 n) := heap_cell HX2.out rfl
  have x1 : w2.cell? ⟨w.heap.size, 1, none⟩ = some (.slice A l.length c) := heap_cell HX2.out rfl
  rcases HA.out with ⟨x, h1, h2⟩ | ⟨x, e, he, h1⟩
  · have HA1 := Aside0.mk h1
    have HA2 := Aside0.mk h2
    clear h1 h2 HA
    go_wp2_with fail
    refine (rot_Around.calls k n A c l A1 c1 r x 0 w2 (Kd.C_below HR.out HB2.out) HCC.out (Kd.C_below HR1.out HB2.out) HCC1.out HA1.out).mono ?_
    rintro e w3 ⟨v3, rfl, hR, hb⟩
    have HB3 := Aside0.mk (HB2.out.trans (hb.mono HB2.out.size))
    have HX3 := Aside0.mk ((hb.block _ (lt_of HX2.out)).trans HX2.out)
    clear hb HB2 HX2
    first | clear x0 x1 | skip
    have x0 : w3.cell? ⟨w.heap.size, 0, none⟩ = some (.int .i64 n) := heap_cell HX3.out rfl
    have x1 : w3.cell? ⟨w.heap.size, 1, none⟩ = some (.slice A l.length c) := heap_cell HX3.out rfl
    obtain ⟨A3, c3, rfl, hcc, hC⟩ := Kd.S_reads hR
    have HC3 := Aside0.mk hcc
    have HD3 := Aside0.mk hC
    clear hR hC hcc
    go_wp2_with fail
    refine (rot_From.calls k n A c l A3 c3 x r 0 0 w3 (Kd.C_below HR.out HB3.out) HCC.out HD3.out HC3.out HA2.out).mono ?_
    rintro e w4 ⟨v4, rfl, hR, hb⟩
    have HB4 := Aside0.mk (HB3.out.trans (hb.mono HB3.out.size))
    have HX4 := Aside0.mk ((hb.block _ (lt_of HX3.out)).trans HX3.out)
    clear hb HB3 HX3
    first | clear x0 x1 | skip
    have x0 : w4.cell? ⟨w.heap.size, 0, none⟩ = some (.int .i64 n) := heap_cell HX4.out rfl
    have x1 : w4.cell? ⟨w.heap.size, 1, none⟩ = some (.slice A l.length c) := heap_cell HX4.out rfl
    obtain ⟨A4, c4, rfl, hcc, hC⟩ := Kd.S_reads hR
    have HC4 := Aside0.mk hcc
    have HD4 := Aside0.mk hC
    clear hR hC hcc HD3 HC3
    go_wp2_with fail
    refine (tangramref11_Equal.calls k A4 c4 r A1 c1 r true w4 HD4.out HC4.out (Kd.C_below HR1.out HB4.out) HCC1.out HE.out).mono ?_
    rintro e w5 ⟨rfl, hd⟩
    have hb := hd.below
    clear hd
    have HB5 := Aside0.mk (HB4.out.trans (hb.mono HB4.out.size))
    have HX5 := Aside0.mk ((hb.block _ (lt_of HX4.out)).trans HX4.out)
    clear hb HB4 HX4
    first | clear x0 x1 | skip
    have x0 : w5.cell? ⟨w.heap.size, 0, none⟩ = some (.int .i64 n) := heap_cell HX5.out rfl
    have x1 : w5.cell? ⟨w.heap.size, 1, none⟩ = some (.slice A l.length c) := heap_cell HX5.out rfl
    rcases HF.out with ⟨s, h1, h2, ⟨v3, h3⟩, h4⟩ | ⟨v, e, he, h1, h2⟩
    · have HF1 := Aside0.mk h1
      have HF2 := Aside0.mk h2
      have HF3 := Aside0.mk h3
      have HF4 := Aside0.mk h4
      clear h1 h2 h3 h4 HF
      go_wp2_with fail
      refine (rot_From.calls k n A c l A2 c2 ar s 0 0 w5 (Kd.C_below HR.out HB5.out) HCC.out (Kd.C_below HR2.out HB5.out) HCC2.out HF1.out).mono ?_
      rintro e y1 ⟨v3, rfl, hR, hb⟩
      have HBa := Aside0.mk (HB5.out.trans (hb.mono HB5.out.size))
      have HXa := Aside0.mk ((hb.block _ (lt_of HX5.out)).trans HX5.out)
      clear hb HB5 HX5
      first | clear x0 x1 | skip
      have x0 : y1.cell? ⟨w.heap.size, 0, none⟩ = some (.int .i64 n) := heap_cell HXa.out rfl
      have x1 : y1.cell? ⟨w.heap.size, 1, none⟩ = some (.slice A l.length c) := heap_cell HXa.out rfl
      obtain ⟨As, cs, rfl, hcc, hC⟩ := Kd.S_reads hR
      have HCs := Aside0.mk hcc
      have HAs := Aside0.mk hC
      clear hR hC hcc
      go_wp2_with fail
      refine (rot_Around.calls k n A c l As cs s ar 0 y1 (Kd.C_below HR.out HBa.out) HCC.out HAs.out HCs.out HF2.out).mono ?_
      rintro e y2 ⟨v5, rfl, hR, hb⟩
      have HAs2 := Aside0.mk (Kd.C_below HAs.out hb)
      have HBb := Aside0.mk (HBa.out.trans (hb.mono HBa.out.size))
      have HXb := Aside0.mk ((hb.block _ (lt_of HXa.out)).trans HXa.out)
      clear hb HBa HXa
      first | clear x0 x1 | skip
      have x0 : y2.cell? ⟨w.heap.size, 0, none⟩ = some (.int .i64 n) := heap_cell HXb.out rfl
      have x1 : y2.cell? ⟨w.heap.size, 1, none⟩ = some (.slice A l.length c) := heap_cell HXb.out rfl
      obtain ⟨Ax, cx, rfl, hcc, hC⟩ := Kd.S_reads hR
      have HCx := Aside0.mk hcc
      have HAx := Aside0.mk hC
      clear hR hC hcc HAs
      go_wp2_with fail
      refine (rot_Check.calls k n A c l As cs s _ 0 y2 (Kd.C_below HR.out HBb.out) HCC.out HAs2.out HCs.out HF3.out).mono ?_
      rintro e y3 ⟨rfl, hb⟩
      have HAx2 := Aside0.mk (Kd.C_below HAx.out hb)
      have HBc := Aside0.mk (HBb.out.trans (hb.mono HBb.out.size))
      have HXc := Aside0.mk ((hb.block _ (lt_of HXb.out)).trans HXb.out)
      clear hb HBb HXb
      first | clear x0 x1 | skip
      have x0 : y3.cell? ⟨w.heap.size, 0, none⟩ = some (.int .i64 n) := heap_cell HXc.out rfl
      have x1 : y3.cell? ⟨w.heap.size, 1, none⟩ = some (.slice A l.length c) := heap_cell HXc.out rfl
      clear HAx
      go_wp2_with fail
      refine (tangramref11_Equal.calls k Ax cx ar A2 c2 ar true y3 HAx2.out HCx.out (Kd.C_below HR2.out HBc.out) HCC2.out HE2.out).mono ?_
      rintro e y4 ⟨rfl, hd⟩
      have hb := hd.below
      clear hd
      have HBd := Aside0.mk (HBc.out.trans (hb.mono HBc.out.size))
      have HXd := Aside0.mk ((hb.block _ (lt_of HXc.out)).trans HXc.out)
      clear hb HBc HXc
      first | clear x0 x1 | skip
      have x0 : y4.cell? ⟨w.heap.size, 0, none⟩ = some (.int .i64 n) := heap_cell HXd.out rfl
      have x1 : y4.cell? ⟨w.heap.size, 1, none⟩ = some (.slice A l.length c) := heap_cell HXd.out rfl
      go_wp2_with fail
      refine (HRI.out y4 HBd.out).mono ?_
      rintro e y5 ⟨rfl, hb⟩
      have HBe := Aside0.mk (HBd.out.trans (hb.mono HBd.out.size))
      clear hb x0 x1
      go_wp2_with fail
      go_ret
      exact ⟨by rw [HF4.out]; rfl, HBe.out⟩
    · have HF1 := Aside0.mk h1
      have HF2 := Aside0.mk h2
      have t : (e == 0) = false := beq_eq_false_iff_ne.2 he
      clear h1 h2 HF he
      go_wp2_with fail
      refine (rot_From.calls k n A c l A2 c2 ar [] v e w5 (Kd.C_below HR.out HB5.out) HCC.out (Kd.C_below HR2.out HB5.out) HCC2.out HF1.out).mono ?_
      rintro e' y1 ⟨v3, rfl, hR, hb⟩
      have HBa := Aside0.mk (HB5.out.trans (hb.mono HB5.out.size))
      have HXa := Aside0.mk ((hb.block _ (lt_of HX5.out)).trans HX5.out)
      clear hb HB5 HX5
      first | clear x0 x1 | skip
      have x0 : y1.cell? ⟨w.heap.size, 0, none⟩ = some (.int .i64 n) := heap_cell HXa.out rfl
      have x1 : y1.cell? ⟨w.heap.size, 1, none⟩ = some (.slice A l.length c) := heap_cell HXa.out rfl
      obtain ⟨As, cs, rfl, hcc, hC⟩ := Kd.S_reads hR
      clear hR hC hcc
      simp only [List.length_nil]
      go_wp2_with fail
      refine (HRI.out y1 HBa.out).mono ?_
      rintro e5 y5 ⟨rfl, hb⟩
      have HBe := Aside0.mk (HBa.out.trans (hb.mono HBa.out.size))
      have HF3 : RES = false := HF2.out
      clear hb x0 x1 HF2
      subst HF3
      go_wp2_with fail
      go_ret
      exact ⟨rfl, HBe.out⟩
  · have HA1 := Aside0.mk h1
    have t0 : (e == 0) = false := beq_eq_false_iff_ne.2 he
    clear h1 HA he
    go_wp2_with fail
    refine (rot_Around.calls k n A c l A1 c1 r x e w2 (Kd.C_below HR.out HB2.out) HCC.out (Kd.C_below HR1.out HB2.out) HCC1.out HA1.out).mono ?_
    rintro e1 w3 ⟨v3, rfl, hR, hb⟩
    have HB3 := Aside0.mk (HB2.out.trans (hb.mono HB2.out.size))
    have HX3 := Aside0.mk ((hb.block _ (lt_of HX2.out)).trans HX2.out)
    clear hb HB2 HX2
    first | clear x0 x1 | skip
    have x0 : w3.cell? ⟨w.heap.size, 0, none⟩ = some (.int .i64 n) := heap_cell HX3.out rfl
    have x1 : w3.cell? ⟨w.heap.size, 1, none⟩ = some (.slice A l.length c) := heap_cell HX3.out rfl
    clear hR HA1
    rcases HF.out with ⟨s, h1, h2, ⟨v3, h3⟩, h4⟩ | ⟨v, e, he, h1, h2⟩
    · have HF1 := Aside0.mk h1
      have HF2 := Aside0.mk h2
      have HF3 := Aside0.mk h3
      have HF4 := Aside0.mk h4
      clear h1 h2 h3 h4 HF
      go_wp2_with fail
      refine (rot_From.calls k n A c l A2 c2 ar s 0 0 w3 (Kd.C_below HR.out HB3.out) HCC.out (Kd.C_below HR2.out HB3.out) HCC2.out HF1.out).mono ?_
      rintro e y1 ⟨v3, rfl, hR, hb⟩
      have HBa := Aside0.mk (HB3.out.trans (hb.mono HB3.out.size))
      have HXa := Aside0.mk ((hb.block _ (lt_of HX3.out)).trans HX3.out)
      clear hb HB3 HX3
      first | clear x0 x1 | skip
      have x0 : y1.cell? ⟨w.heap.size, 0, none⟩ = some (.int .i64 n) := heap_cell HXa.out rfl
      have x1 : y1.cell? ⟨w.heap.size, 1, none⟩ = some (.slice A l.length c) := heap_cell HXa.out rfl
      obtain ⟨As, cs, rfl, hcc, hC⟩ := Kd.S_reads hR
      have HCs := Aside0.mk hcc
      have HAs := Aside0.mk hC
      clear hR hC hcc
      go_wp2_with fail
      refine (rot_Around.calls k n A c l As cs s ar 0 y1 (Kd.C_below HR.out HBa.out) HCC.out HAs.out HCs.out HF2.out).mono ?_
      rintro e y2 ⟨v5, rfl, hR, hb⟩
      have HAs2 := Aside0.mk (Kd.C_below HAs.out hb)
      have HBb := Aside0.mk (HBa.out.trans (hb.mono HBa.out.size))
      have HXb := Aside0.mk ((hb.block _ (lt_of HXa.out)).trans HXa.out)
      clear hb HBa HXa
      first | clear x0 x1 | skip
      have x0 : y2.cell? ⟨w.heap.size, 0, none⟩ = some (.int .i64 n) := heap_cell HXb.out rfl
      have x1 : y2.cell? ⟨w.heap.size, 1, none⟩ = some (.slice A l.length c) := heap_cell HXb.out rfl
      obtain ⟨Ax, cx, rfl, hcc, hC⟩ := Kd.S_reads hR
      have HCx := Aside0.mk hcc
      have HAx := Aside0.mk hC
      clear hR hC hcc HAs
      go_wp2_with fail
      refine (rot_Check.calls k n A c l As cs s _ 0 y2 (Kd.C_below HR.out HBb.out) HCC.out HAs2.out HCs.out HF3.out).mono ?_
      rintro e y3 ⟨rfl, hb⟩
      have HAx2 := Aside0.mk (Kd.C_below HAx.out hb)
      have HBc := Aside0.mk (HBb.out.trans (hb.mono HBb.out.size))
      have HXc := Aside0.mk ((hb.block _ (lt_of HXb.out)).trans HXb.out)
      clear hb HBb HXb
      first | clear x0 x1 | skip
      have x0 : y3.cell? ⟨w.heap.size, 0, none⟩ = some (.int .i64 n) := heap_cell HXc.out rfl
      have x1 : y3.cell? ⟨w.heap.size, 1, none⟩ = some (.slice A l.length c) := heap_cell HXc.out rfl
      clear HAx
      go_wp2_with fail
      refine (tangramref11_Equal.calls k Ax cx ar A2 c2 ar true y3 HAx2.out HCx.out (Kd.C_below HR2.out HBc.out) HCC2.out HE2.out).mono ?_
      rintro e y4 ⟨rfl, hd⟩
      have hb := hd.below
      clear hd
      have HBd := Aside0.mk (HBc.out.trans (hb.mono HBc.out.size))
      have HXd := Aside0.mk ((hb.block _ (lt_of HXc.out)).trans HXc.out)
      clear hb HBc HXc
      first | clear x0 x1 | skip
      have x0 : y4.cell? ⟨w.heap.size, 0, none⟩ = some (.int .i64 n) := heap_cell HXd.out rfl
      have x1 : y4.cell? ⟨w.heap.size, 1, none⟩ = some (.slice A l.length c) := heap_cell HXd.out rfl
      go_wp2_with fail
      refine (HRI.out y4 HBd.out).mono ?_
      rintro e y5 ⟨rfl, hb⟩
      have HBe := Aside0.mk (HBd.out.trans (hb.mono HBd.out.size))
      clear hb x0 x1
      go_wp2_with fail
      go_ret
      exact ⟨by rw [HF4.out]; rfl, HBe.out⟩
    · have HF1 := Aside0.mk h1
      have HF2 := Aside0.mk h2
      have t : (e == 0) = false := beq_eq_false_iff_ne.2 he
      clear h1 h2 HF he
      go_wp2_with fail
      refine (rot_From.calls k n A c l A2 c2 ar [] v e w3 (Kd.C_below HR.out HB3.out) HCC.out (Kd.C_below HR2.out HB3.out) HCC2.out HF1.out).mono ?_
      rintro e' y1 ⟨v3, rfl, hR, hb⟩
      have HBa := Aside0.mk (HB3.out.trans (hb.mono HB3.out.size))
      have HXa := Aside0.mk ((hb.block _ (lt_of HX3.out)).trans HX3.out)
      clear hb HB3 HX3
      first | clear x0 x1 | skip
      have x0 : y1.cell? ⟨w.heap.size, 0, none⟩ = some (.int .i64 n) := heap_cell HXa.out rfl
      have x1 : y1.cell? ⟨w.heap.size, 1, none⟩ = some (.slice A l.length c) := heap_cell HXa.out rfl
      obtain ⟨As, cs, rfl, hcc, hC⟩ := Kd.S_reads hR
      clear hR hC hcc
      simp only [List.length_nil]
      go_wp2_with fail
      refine (HRI.out y1 HBa.out).mono ?_
      rintro e5 y5 ⟨rfl, hb⟩
      have HBe := Aside0.mk (HBa.out.trans (hb.mono HBa.out.size))
      have HF3 : RES = false := HF2.out
      clear hb x0 x1 HF2
      subst HF3
      go_wp2_with fail
      go_ret
      exact ⟨rfl, HBe.out⟩
theorem back_rounds (n : Int) (l : List Ed) (r ar : List (List Int)) (hs : Small r) (hs2 : Small ar) (hi2 : ∀ x ∈ ar, ∀ y ∈ x, InI y) :
    (∃ k, tangramref03_Valid.f k n l = some false ∧ rot_From.f k n l ar = some ([], 0, 1)) ∨
    (∃ (N : Nat), n = N ∧ PureV.Good n l ∧ ∃ RES : Bool, ((ar.length : Int) ≠ n → RES = false) ∧ (∀ v, v < ar.length → ¬ RowRight (halfOf (ends l)) v (gl ar v) → RES = false) ∧ ((ar.length : Int) = n → (∀ v, v < ar.length → RowRight (halfOf (ends l)) v (gl ar v)) → RES = decide (addTo (fun v => (gl ar v).length) ar.length = 2 * l.length)) ∧
      ∃ k, tangramref03_Valid.f k n l = some true ∧
      ((∃ x, rot_Around.f k n l r = some (x, 0) ∧ rot_From.f k n l x = some (r, 0, 0)) ∨ (∃ x e, e ≠ 0 ∧ rot_Around.f k n l r = some (x, e))) ∧
      tangramref11_Equal.f k r r = some true ∧ tangramref11_Equal.f k ar ar = some true ∧
      ((∃ s, rot_From.f k n l ar = some (s, 0, 0) ∧ rot_Around.f k n l s = some (ar, 0) ∧ (∃ v, rot_Check.f k n l s = some (v, 0)) ∧ RES = true) ∨ (∃ v e, e ≠ 0 ∧ rot_From.f k n l ar = some ([], v, e) ∧ RES = false))) := by
  obtain ⟨b, hb, hb2, hg⟩ := PureV.valid n l
  cases b with
  | false =>
    left
    have hf : Ev (fun k => rot_From.f k n l ar) ([], 0, 1) := by
      unfold rot_From.f
      exact Ev.bind hb (Ev.congr (fun k => if_neg (by decide)) (Ev.now _))
    obtain ⟨K1, a1⟩ := hb2
    obtain ⟨K2, a2⟩ := hf
    exact ⟨K1 + K2, a1 _ (by omega), a2 _ (by omega)⟩
  | true =>
    right
    have hG := hg.1 rfl
    obtain ⟨N, rfl⟩ := Int.eq_ofNat_of_zero_le hG.1
    refine ⟨N, rfl, hG, ?_⟩
    have hE := equal_ev (x := r) (y := r) hs
    rw [decide_eq_true rfl] at hE
    have hE2 := equal_ev (x := ar) (y := ar) hs2
    rw [decide_eq_true rfl] at hE2
    -- the first part
    have pA : ∃ K, ∀ k, K ≤ k → ((∃ x, rot_Around.f k N l r = some (x, 0) ∧ rot_From.f k N l x = some (r, 0, 0)) ∨ (∃ x e, e ≠ 0 ∧ rot_Around.f k N l r = some (x, e))) := by
      obtain ⟨res, h1, h3, h4⟩ := check_ev (N : Int) l r
      by_cases h0 : res.2 = 0
      · obtain ⟨N', e', hg', hR⟩ := h4.1 h0
        obtain rfl : N = N' := by omega
        rw [h3 h0] at h1
        have ha := around_ev hG hR h1
        have hal : (aroundOf (frs l) r).length = N := by rw [aroundOf_length]; exact hR.len
        have has := around_small hG hR
        have hin : ∀ x ∈ aroundOf (frs l) r, ∀ y ∈ x, InI y := by
          intro x hx y hy
          obtain ⟨v, hv, rfl⟩ := List.getElem_of_mem hx
          have hvr : v < r.length := by rw [aroundOf_length] at hv; exact hv
          have e : (aroundOf (frs l) r)[v] = gl (aroundOf (frs l) r) v := by unfold gl; rw [List.getD_eq_getElem?_getD, List.getElem?_eq_getElem hv]; rfl
          rw [e, aroundOf_row hvr] at hy
          obtain ⟨h, hh, rfl⟩ := List.mem_map.1 hy
          obtain ⟨j, hj, rfl⟩ := mem_gi hh
          have hv2 : v < N := by rw [← hR.len]; exact hvr
          have ht := twin_row hG hR hv2 hj
          have hfr := frs_range hG (h := (twin (gi (gl r v) j)).toNat) (by omega)
          have := hG.2.1
          unfold InI; omega
        obtain ⟨ds, hd, hf⟩ := from_ev (r := aroundOf (frs l) r) hG hb (fun row hrow => has.2 row hrow) hin hal
        · have key := from_around hG hR hd N 0 [] (by omega)
          rw [List.drop_zero, List.drop_zero, List.nil_append] at key
          rw [key] at hf
          obtain ⟨K1, a1⟩ := ha
          obtain ⟨K2, a2⟩ := hf
          exact ⟨K1 + K2, fun k hk => .inl ⟨_, a1 _ (by omega), a2 _ (by omega)⟩⟩
      · have ha := around_no h1 h0
        obtain ⟨K1, a1⟩ := ha
        exact ⟨K1, fun k hk => .inr ⟨_, _, h0, a1 _ hk⟩⟩
    have fin : ∀ {RES : Bool}, (∃ K, ∀ k, K ≤ k → ((∃ s, rot_From.f k N l ar = some (s, 0, 0) ∧ rot_Around.f k N l s = some (ar, 0) ∧ (∃ v, rot_Check.f k N l s = some (v, 0)) ∧ RES = true) ∨ (∃ v e, e ≠ 0 ∧ rot_From.f k N l ar = some ([], v, e) ∧ RES = false))) →
        ∃ k, tangramref03_Valid.f k N l = some true ∧
        ((∃ x, rot_Around.f k N l r = some (x, 0) ∧ rot_From.f k N l x = some (r, 0, 0)) ∨ (∃ x e, e ≠ 0 ∧ rot_Around.f k N l r = some (x, e))) ∧
        tangramref11_Equal.f k r r = some true ∧ tangramref11_Equal.f k ar ar = some true ∧
        ((∃ s, rot_From.f k N l ar = some (s, 0, 0) ∧ rot_Around.f k N l s = some (ar, 0) ∧ (∃ v, rot_Check.f k N l s = some (v, 0)) ∧ RES = true) ∨ (∃ v e, e ≠ 0 ∧ rot_From.f k N l ar = some ([], v, e) ∧ RES = false)) := by
      rintro RES ⟨K5, a5⟩
      obtain ⟨K1, a1⟩ := hb2
      obtain ⟨K2, a2⟩ := pA
      obtain ⟨K3, a3⟩ := hE
      obtain ⟨K4, a4⟩ := hE2
      exact ⟨K1 + K2 + K3 + K4 + K5, a1 _ (by omega), a2 _ (by omega), a3 _ (by omega), a4 _ (by omega), a5 _ (by omega)⟩
    by_cases hl : ar.length = N
    · obtain ⟨ds, hd, hf⟩ := from_ev hG hb (fun row hrow => hs2.2 row hrow) hi2 hl
      have hri := right_iff hG hl hd
      cases hres : fromRows (halfOf (ends l)) ds 0 ar [] with
      | ok o =>
        rw [hres] at hf
        obtain ⟨q1, q2⟩ := hri.1 ⟨o, hres⟩
        obtain ⟨hR, ha⟩ := from_isRot hG hd hl hres
        refine ⟨true, fun h => absurd (by omega) h, fun v hv h => absurd (q1 v (by omega)) h, fun _ _ => (decide_eq_true (by rw [hl]; exact q2)).symm, fin ?_⟩
        obtain ⟨res, h1, h3, h4⟩ := check_ev (N : Int) l o
        have h0 : res.2 = 0 := h4.2 ⟨N, rfl, hG, hR⟩
        rw [h3 h0] at h1
        have h2 := around_ev hG hR h1
        rw [ha] at h2
        obtain ⟨K1, a1⟩ := hf
        obtain ⟨K2, a2⟩ := h1
        obtain ⟨K3, a3⟩ := h2
        exact ⟨K1 + K2 + K3, fun k hk => .inl ⟨o, a1 _ (by omega), a3 _ (by omega), ⟨_, a2 _ (by omega)⟩, rfl⟩⟩
      | error ve =>
        rw [hres] at hf
        have hno : ¬ ((∀ v, v < N → RowRight (halfOf (ends l)) v (gl ar v)) ∧ addTo (fun v => (gl ar v).length) N = 2 * l.length) := fun h => by
          obtain ⟨o, ho⟩ := hri.2 h
          rw [hres] at ho; cases ho
        refine ⟨false, fun _ => rfl, fun _ _ _ => rfl, fun _ h => ?_, fin ?_⟩
        · symm
          rw [decide_eq_false_iff_not, hl]
          exact fun h2 => hno ⟨fun v hv => h v (by omega), h2⟩
        · obtain ⟨K1, a1⟩ := hf
          exact ⟨K1, fun k hk => .inr ⟨ve.1, ve.2, fromRows_err _ _ _ _ _ _ hres, a1 _ hk, rfl⟩⟩
    · refine ⟨false, fun _ => rfl, fun _ _ _ => rfl, fun h => absurd (by omega) hl, fin ?_⟩
      obtain ⟨K1, a1⟩ := from_no (l := l) (r := ar) hb (by omega)
      exact ⟨K1, fun k hk => .inr ⟨0, 110, by decide, a1 _ hk, rfl⟩⟩
theorem RotBack (a0_0 : Int) (A0_1 : Option Addr) (c0_1 : Nat) (l0_1 : List Ed) (A1 : Option Addr) (c1 : Nat) (l1 : List (List Int)) (A2 : Option Addr) (c2 : Nat) (l2 : List (List Int)) (w : World) (hr0_1 : Kd.C k59 w A0_1 l0_1.length l0_1) (hc0_1 : l0_1.length ≤ c0_1) (hr1 : Kd.C (Kd.slice 3 (Kd.int .i64)) w A1 l1.length l1) (hc1 : l1.length ≤ c1) (hr2 : Kd.C (Kd.slice 3 (Kd.int .i64)) w A2 l2.length l2) (hc2 : l2.length ≤ c2) {P0 : Prop} (g0 : P0)
    (g1 : l1.length * 24 ≤ 140737488351232 ∧ ∀ x ∈ l1, x.length * 8 ≤ 140737488351232 ∧ ∀ y ∈ x, Open.I64 y)
    (g2 : (l2.length * 24 ≤ 140737488351232 ∧ ∀ x ∈ l2, x.length * 8 ≤ 140737488351232 ∧ ∀ y ∈ x, Open.I64 y) ∧ Open.sumOf (Open.sumOf (fun _ => 1)) l2 ≤ 1048576) :
    Calls Try.prog 6 #[.agg #[.int .i64 a0_0, .slice A0_1 l0_1.length c0_1], .slice A1 l1.length c1, .slice A2 l2.length c2] w fun e w' => e = .returned (.bool true) ∧ Below w.heap.size w w' := by
  obtain ⟨g2, gb⟩ := g2
  rcases back_rounds a0_0 l0_1 l1 l2 ⟨g1.1, fun l hl => (g1.2 l hl).1⟩ ⟨g2.1, fun l hl => (g2.2 l hl).1⟩ (fun x hx y hy => (g2.2 x hx).2 y hy) with ⟨k, h1, h2⟩ | ⟨N, rfl, hG, RES, q0, q1, q2, k, h1, h2, h3, h4, h5⟩
  · exact back_invalid k a0_0 A0_1 c0_1 l0_1 A1 c1 l1 A2 c2 l2 w hr0_1 hc0_1 hr2 hc2 h1 h2
  · refine back_walk k N A0_1 c0_1 l0_1 A1 c1 l1 A2 c2 l2 RES w hr0_1 hc0_1 hr1 hc1 hr2 hc2 h1 h2 h3 h4 h5 (fun W hW => ?_)
    have hel := ends_length l0_1
    have hm := hG.2.2.1
    refine right_calls N A0_1 l0_1.length c0_1 (halfOf (ends l0_1)) A2 c2 l2 RES W (fun v j V hv hj hV => ?_) (fun q h hq => ?_) hm (Kd.C_below hr2 hW) (fun v hv => Nat.le_trans (sum_bulk l2 v hv) (Nat.le_trans gb (by decide))) (by have := g2.1; omega) q0 q1 q2
    · obtain ⟨K, hK⟩ := half_ev hG (v : Int) (gi (gl l2 v) j)
      exact tangramref11_Half.calls K N A0_1 c0_1 l0_1 v _ _ V (Kd.C_below hr0_1 (hW.trans (hV.mono hW.size))) hc0_1 (hK K (Nat.le_refl _))
    · exact (half_some hm (ends l0_1).length (by omega) q.1 q.2 h hq).1
end Go.Proofs.Ytkkhhbegeboonaa.Rot
