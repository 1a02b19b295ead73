
/- What the printed fixed.Div, Whole, Part and Mix answer. -/
import Derived.Test.YtnippnpbnmkfbaaFactsNum
import Derived.Test.YtnippnpbnmkfbaaFactsWide
import Derived.Test.YtnippnpbnmkfbaaFactsFloor
import Derived.Test.YtnippnpbnmkfbaaFactsFixed
import Derived.Test.YtnippnpbnmkfbaaPrint5
import Derived.Test.YtnippnpbnmkfbaaPrint7
namespace Go.Proofs.Ytnippnpbnmkfbaa.Facts
set_option linter.unusedVariables false
set_option linter.unusedSimpArgs false
open Go.RowKit Go.Proofs.Ytnippnpbnmkfbaa.Print Go.Proofs.YtnippnpbnmkfbaaW.PrintWords Go.Proofs.YtnippnpbnmkfbaaW.PrintLast Go.Proofs.YtnippnpbnmkfbaaW.PrintMore
theorem fixed_Div_eq (k : Nat) (hk : 20 ≤ k) {a b : Int} (ha : W64 a) (hb : W64 b) : fixed_Div.f k a b = some (floorR a 4294967296 b) := by
  unfold fixed_Div.f; rw [fixed_Of_eq k hk ha hb]; rfl
theorem fixed_Whole_eq (a : Int) : fixed_Whole.f a = some (a / 4294967296) := rfl
theorem fixed_Part_eq {a : Int} (ha : W64 a) : fixed_Part.f a = some (a % 4294967296) := by
  unfold fixed_Part.f; rw [nmask a ha.1 ha.2]
/-- What lies between two. -/
def mixS (a b w : Int) : Int := (a * (4294967296 - min w 4294967296) + b * min w 4294967296) / 4294967296
theorem mix_bound {a b w : Int} (ha : W64 a) (hb : W64 b) (hw : 0 ≤ w) (hw' : w ≤ 4294967296) :
    0 ≤ a * (4294967296 - w) ∧ 0 ≤ b * w ∧ a * (4294967296 - w) + b * w ≤ 18446744073709551615 * 4294967296 := by
  have h1 := Int.mul_nonneg ha.1 (show 0 ≤ 4294967296 - w by omega)
  have h2 := Int.mul_nonneg hb.1 hw
  have h3 : a * (4294967296 - w) ≤ 18446744073709551615 * (4294967296 - w) := Int.mul_le_mul_of_nonneg_right (by unfold W64 at ha; omega) (by omega)
  have h4 : b * w ≤ 18446744073709551615 * w := Int.mul_le_mul_of_nonneg_right (by unfold W64 at hb; omega) hw
  omega
theorem fixed_Mix_eq (k : Nat) (hk : 20 ≤ k) {a b w : Int} (ha : W64 a) (hb : W64 b) (hw : W64 w) : fixed_Mix.f k a b w = some (mixS a b w) := by
  unfold W64 at hw
  have hm : mn w 4294967296 = min w 4294967296 := by unfold mn; split <;> omega
  unfold fixed_Mix.f fixed_Mix_1.f mixS
  rw [hm]
  obtain ⟨v, hv⟩ : ∃ v, v = min w 4294967296 := ⟨_, rfl⟩
  rw [← hv]
  have v0 : 0 ≤ v ∧ v ≤ 4294967296 := by omega
  obtain ⟨b1, b2, b3⟩ := mix_bound ha hb v0.1 v0.2
  rw [nwr (n := 4294967296 - v) (by omega) (by omega), wide_Mul_eq ha.1 ha.2 (by omega) (by omega), wide_Mul_eq hb.1 hb.2 (by omega) (by omega)]
  simp only [Option.bind_some]
  generalize a * (4294967296 - v) = x at *
  generalize b * v = y at *
  rw [wide_Add_big (by unfold W64; omega) (W64_mod _) (by unfold W64; omega) (W64_mod _), show x / 18446744073709551616 * 18446744073709551616 + x % 18446744073709551616 + (y / 18446744073709551616 * 18446744073709551616 + y % 18446744073709551616) = x + y by omega]
  simp only [Option.bind_some]
  rw [wide_Shr_eq k (by omega) (by omega) (by omega) (by omega) (by omega) (by decide) (by decide), big_val (x + y) (by omega) (by omega), show (32 : Int).toNat = 32 by rfl, show (2 : Int) ^ 32 = 4294967296 by decide]
  simp only [Option.bind_some]
  congr 1; omega
end Go.Proofs.Ytnippnpbnmkfbaa.Facts
