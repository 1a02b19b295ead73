
/- What the printed functions of the package fixed answer (Of, Div, Mul, Whole, Part, Mix). -/
import Derived.Test.YtiokopkglmaffaaFactsNum
import Derived.Test.YtiokopkglmaffaaFactsWide
import Derived.Test.YtiokopkglmaffaaFactsFloor
import Derived.Test.YtiokopkglmaffaaPrint4
namespace Go.Proofs.Ytiokopkglmaffaa.Facts
set_option linter.unusedVariables false
set_option linter.unusedSimpArgs false
open Go.RowKit Go.Proofs.Ytiokopkglmaffaa.Print Go.Proofs.YtiokopkglmaffaaW.PrintWords Go.Proofs.YtiokopkglmaffaaW.PrintLast Go.Proofs.YtiokopkglmaffaaW.PrintMore
theorem W64_one : W64 4294967296 := ⟨by decide, by decide⟩
/-- A product of fixed numbers. -/
def mulS (a b : Int) : Int := min (a * b / 4294967296) 18446744073709551615
theorem floorR_mul {a b : Int} (ha : 0 ≤ a) (hb : 0 ≤ b) : (if (floorR a b 4294967296).2 = 0 then (floorR a b 4294967296).1 else 18446744073709551615) = mulS a b := by
  have := Int.mul_nonneg ha hb
  by_cases h : a * b / 4294967296 < 18446744073709551616
  · rw [show floorR a b 4294967296 = (a * b / 4294967296, 0) by unfold floorR; rw [if_neg (by decide), if_pos h], if_pos rfl]
    unfold mulS; omega
  · rw [show floorR a b 4294967296 = (0, 10) by unfold floorR; rw [if_neg (by decide), if_neg h], if_neg (by decide)]
    unfold mulS; omega
theorem mulS_W64 {a b : Int} (ha : 0 ≤ a) (hb : 0 ≤ b) : W64 (mulS a b) := by
  have := Int.mul_nonneg ha hb
  unfold mulS W64; omega
theorem fixed_Of_eq (k : Nat) (hk : 20 ≤ k) {a b : Int} (ha : W64 a) (hb : W64 b) : fixed_Of.f k a b = some (floorR a 4294967296 b) := by
  unfold fixed_Of.f; rw [ratio_Floor_eq k hk ha W64_one hb]; rfl
end Go.Proofs.Ytiokopkglmaffaa.Facts
