/- FixedBack: a quotient, multiplied back, is no more than the number and misses it by little; where none is given, the divisor is nought just if the word is 20. For all numbers, no condition. -/
import Derived.Test.YtnippnpbnmkfbaaFactsNum
import Derived.Test.YtnippnpbnmkfbaaFactsFixed
import Derived.Test.YtnippnpbnmkfbaaFactsMix
import Derived.Test.YtnippnpbnmkfbaaFactsAwake04
import Derived.Test.YtnippnpbnmkfbaaPrint18
namespace Go.Proofs.Ytnippnpbnmkfbaa.Pure
set_option linter.unusedVariables false
set_option linter.unusedSimpArgs false
open Go.RowKit Go.Proofs.Ytnippnpbnmkfbaa.Print Go.Proofs.Ytnippnpbnmkfbaa.Facts Go.Proofs.YtnippnpbnmkfbaaW.PrintWords Go.Proofs.YtnippnpbnmkfbaaW.PrintLast Go.Proofs.YtnippnpbnmkfbaaW.PrintMore
theorem FixedBack : linhaylaw04_FixedBack.Pure := by
  intro a b ha hb
  have ha : W64 a := nwf_u64 ha
  have hb : W64 b := nwf_u64 hb
  refine ⟨200, ?_⟩
  unfold linhaylaw04_FixedBack.f
  rw [awake04_le _ (by omega), fixed_Div_eq _ (by omega) ha hb]
  simp only [Option.bind_some, if_true]
  unfold floorR
  by_cases hz : b = 0
  · subst hz; simp
  · have hbp : 0 < b := by unfold W64 at hb; omega
    rw [if_neg hz]
    have hq0 : 0 ≤ a * 4294967296 / b := Int.ediv_nonneg (by unfold W64 at ha; omega) (by omega)
    by_cases h : a * 4294967296 / b < 18446744073709551616
    · rw [if_pos h]
      simp only [if_true]
      rw [fixed_Mul_eq _ (by omega) ⟨hq0, h⟩ hb, fixed_Whole_eq]
      simp only [Option.bind_some]
      have e1 : a * 4294967296 / b * b ≤ a * 4294967296 := Int.ediv_mul_le _ (by omega)
      have e2 : a * 4294967296 < a * 4294967296 / b * b + b := by
        have := Int.lt_ediv_add_one_mul_self (a * 4294967296) hbp
        rw [Int.add_mul, Int.one_mul] at this; exact this
      generalize a * 4294967296 / b = q at *
      unfold mulS
      generalize q * b = p at *
      unfold W64 at *
      rw [show min (p / 4294967296) 18446744073709551615 = p / 4294967296 by omega, if_pos (by omega), nwr (n := a - p / 4294967296) (by omega) (by omega), nwr (n := b / 4294967296 + 1) (by omega) (by omega)]
      simp; omega
    · rw [if_neg h]; simp [hz]
end Go.Proofs.Ytnippnpbnmkfbaa.Pure
