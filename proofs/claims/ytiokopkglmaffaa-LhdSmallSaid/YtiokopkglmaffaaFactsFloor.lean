
/- A part of a product, from below, as the printed ratio.Floor answers it. -/
import Derived.Test.YtiokopkglmaffaaFactsNum
import Derived.Test.YtiokopkglmaffaaFactsWide
import Derived.Test.YtiokopkglmaffaaPrint2
import Derived.Test.YtiokopkglmaffaaPrint4
namespace Go.Proofs.Ytiokopkglmaffaa.Facts
set_option linter.unusedVariables false
set_option linter.unusedSimpArgs false
open Go.RowKit Go.Proofs.Ytiokopkglmaffaa.Print Go.Proofs.YtiokopkglmaffaaW.PrintWords Go.Proofs.YtiokopkglmaffaaW.PrintLast Go.Proofs.YtiokopkglmaffaaW.PrintMore
/-- A part of a product, from below: the number, and its error. -/
def floorR (a b c : Int) : Int × Int := if c = 0 then (0, 20) else if a * b / c < 18446744073709551616 then (a * b / c, 0) else (0, 10)
theorem big_hi {x : Int} (h0 : 0 ≤ x) (h1 : x < 18446744073709551616) : x / 18446744073709551616 = 0 ∧ x % 18446744073709551616 = x := by omega
theorem ratio_Floor_eq (k : Nat) (hk : 20 ≤ k) {a b c : Int} (ha : W64 a) (hb : W64 b) (hc : W64 c) : ratio_Floor.f k a b c = some (floorR a b c) := by
  obtain ⟨p0, p1⟩ := mul_word ha.1 ha.2 hb.1 hb.2
  have hh : W64 (a * b / 18446744073709551616) := by unfold W64; omega
  unfold ratio_Floor.f ratio_part_with_ratio_Floor_1.f ratio_Floor_1.f
  rw [wide_Mul_eq ha.1 ha.2 hb.1 hb.2]
  simp only [Option.bind_some]
  unfold floorR
  by_cases hz : c = 0
  · subst hz; rw [wide_Div_zero]; simp
  · have hcp : 0 < c := by unfold W64 at hc; omega
    rw [wide_Div_eq k hk hh.1 hh.2 hcp hc.2 (by omega) (by omega), if_neg hz, show a * b / 18446744073709551616 * 18446744073709551616 + a * b % 18446744073709551616 = a * b by omega]
    simp only [Option.bind_some, if_true, Bool.false_eq_true, if_false]
    have q0 : 0 ≤ a * b / c := Int.ediv_nonneg p0 (by omega)
    generalize a * b / c = q at *
    by_cases hq : q < 18446744073709551616
    · obtain ⟨e1, e2⟩ := big_hi q0 hq
      rw [if_pos hq, e1, e2]; simp
    · rw [if_neg hq, if_pos (by omega)]; rfl
theorem floorR_le {a b c : Int} (ha : 0 ≤ a) (hb : 0 ≤ b) (hc : 0 ≤ c) : 0 ≤ (floorR a b c).1 ∧ (floorR a b c).1 < 18446744073709551616 := by
  unfold floorR
  split
  · omega
  · split
    · exact ⟨Int.ediv_nonneg (Int.mul_nonneg ha hb) hc, by assumption⟩
    · omega
end Go.Proofs.Ytiokopkglmaffaa.Facts
