/- DERIVED. The kind of a Pair (as the kit's printer lays the kind of an Edge), and its lists as pairs. -/
import Derived.Test.YtoajoklpbfehiaaGAllx0
import Derived.Test.YtoajoklpbfehiaaSetsOf
namespace Go.Proofs.Ytoajoklpbfehiaa.GAll
open Go.RowKit Go.Proofs.YtoajoklpbfehiaaW.PrintWords Go.Proofs.YtoajoklpbfehiaaW.PrintLast Go.Proofs.YtoajoklpbfehiaaW.PrintMore
set_option linter.unusedVariables false
set_option linter.unusedSimpArgs false
structure S45 where
  (f0 : Int) (f1 : Int)
def z45 : S45 := ⟨(0 : Int), (0 : Int)⟩
def k45 : Kd S45 := Kd.iso (Kd.pair (Kd.int .i64) (Kd.int .i64)) (fun x : S45 => (x.f0, x.f1))
theorem pair_open {w : World} {x : S45} {cs : List Value} (h : k45.K w x cs) : cs = [.int .i64 x.f0, .int .i64 x.f1] := by
  obtain ⟨_, _, rfl, rfl, rfl⟩ := h
  exact rfl
def prs (l : List S45) : List (Int × Int) := l.map fun x => (x.f0, x.f1)
theorem prs_length (l : List S45) : (prs l).length = l.length := List.length_map ..
theorem pair_pairs {w : World} {A : Option Addr} {l : List S45} (h : Kd.C k45 w A l.length l) : Sets.Pairs w A (prs l) := by
  intro i hi
  rw [prs_length] at hi
  obtain ⟨ad, c, e, _, hK, hc0⟩ := Kd.C_get h z45 (i : Int) (by omega) (by omega)
  have hc : ∀ j u, c[j]? = some u → w.cell? (ad.add (i * 2 + j)) = some u := hc0
  have hc1 := hc
  obtain rfl := pair_open hK
  have e2 : Sets.pe (prs l) i = ((l.getD (i : Int).toNat z45).f0, (l.getD (i : Int).toNat z45).f1) := by
    unfold Sets.pe prs
    simp [List.getD_eq_getElem?_getD, hi]
  rw [e2]
  exact ⟨ad, e, hc 0 _ rfl, by rw [← add_field _ _ 1 (by omega)]; exact hc 1 _ rfl⟩
end Go.Proofs.Ytoajoklpbfehiaa.GAll
