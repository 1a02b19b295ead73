
/- What the printed functions of the package fixed answer (Of, Div, Mul, Whole, Part, Mix). -/
import Derived.Test.YthpkiacaemhkkaaDoorFactsNum
import Derived.Test.YthpkiacaemhkkaaDoorFactsWide
import Derived.Test.YthpkiacaemhkkaaDoorFactsFloor
import Derived.Test.YthpkiacaemhkkaaDoorPrint3
import Derived.Test.YthpkiacaemhkkaaDoorPrint6
namespace Go.Proofs.YthpkiacaemhkkaaDoor.Facts
set_option linter.unusedVariables false
set_option linter.unusedSimpArgs false
open Go.RowKit Go.Proofs.YthpkiacaemhkkaaDoor.Print Go.Proofs.YthpkiacaemhkkaaDoorW.PrintWords Go.Proofs.YthpkiacaemhkkaaDoorW.PrintLast Go.Proofs.YthpkiacaemhkkaaDoorW.PrintMore
theorem W64_one : W64 4294967296 := ⟨by decide, by decide⟩
/-- A product of fixed numbers. -/
def mulS (a b : Int) : Int := min (a * b / 4294967296) 18446744073709551615
theorem floorR_mul {a b : Int} (ha : 0 ≤ a) (hb : 0 ≤ b) : (if (floorR a b 4294967296).2 = 0 then (floorR a b 4294967296).1 else 18446744073709551615) = mulS a b := by
  have := Int.mul_nonneg ha hb
  by_cases h : a * b / 4294967296 < 18446744073709551616
  · rw [show floorR a b 4294967296 = (a * b / 4294967296, 0) by unfold floorR; rw [if_neg (by decide), if_pos h], if_pos rfl]
    unfold mulS; omega
  · rw [show floorR a b 4294967296 = (0, 10) by unfold floorR; rw [if_neg (by decide), if_neg h], if_neg (by decide)]
    unfold mulS; omega
theorem mulS_W64 {a b : Int} (ha : 0 ≤ a) (hb : 0 ≤ b) : W64 (mulS a b) := by
  have := Int.mul_nonneg ha hb
  unfold mulS W64; omega
theorem fixed_Of_eq (k : Nat) (hk : 20 ≤ k) {a b : Int} (ha : W64 a) (hb : W64 b) : fixed_Of.f k a b = some (floorR a 4294967296 b) := by
  unfold fixed_Of.f; rw [ratio_Floor_eq k hk ha W64_one hb]; rfl
theorem fixed_Mul_eq (k : Nat) (hk : 20 ≤ k) {a b : Int} (ha : W64 a) (hb : W64 b) : fixed_Mul.f k a b = some (mulS a b) := by
  unfold fixed_Mul.f; rw [ratio_Floor_eq k hk ha hb W64_one, ← floorR_mul ha.1 hb.1]
  simp only [Option.bind_some]
  split <;> rfl
end Go.Proofs.YthpkiacaemhkkaaDoor.Facts
