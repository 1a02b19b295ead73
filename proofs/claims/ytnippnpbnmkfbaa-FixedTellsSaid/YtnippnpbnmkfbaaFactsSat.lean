
/- Sums that are held, as the printed word.Add answers them. -/
import Derived.Test.YtnippnpbnmkfbaaFactsNum
import Derived.Test.YtnippnpbnmkfbaaPrint7
namespace Go.Proofs.Ytnippnpbnmkfbaa.Facts
set_option linter.unusedVariables false
set_option linter.unusedSimpArgs false
open Go.RowKit Go.Proofs.Ytnippnpbnmkfbaa.Print Go.Proofs.YtnippnpbnmkfbaaW.PrintWords Go.Proofs.YtnippnpbnmkfbaaW.PrintLast Go.Proofs.YtnippnpbnmkfbaaW.PrintMore
theorem word_Add_sat {a b : Int} (ha : 0 ≤ a) (hb : 0 ≤ b) : word_Add.f a b = some (min (a + b) 18446744073709551615) := by
  unfold word_Add.f word_Plus.f; rw [if_pos ha, if_pos hb]
  by_cases hc : a + b < 18446744073709551616
  · rw [if_pos hc]; simp [word_held_uint64.f]; omega
  · rw [if_neg hc]; simp [word_held_uint64.f]; omega
end Go.Proofs.Ytnippnpbnmkfbaa.Facts
