
/- Sums that are held, as the printed linhayref01.Add answers them. -/
import Derived.Test.YtnippnpbnmkfbaaFactsNum
import Derived.Test.YtnippnpbnmkfbaaPrint13
namespace Go.Proofs.Ytnippnpbnmkfbaa.Facts
set_option linter.unusedVariables false
set_option linter.unusedSimpArgs false
open Go.RowKit Go.Proofs.Ytnippnpbnmkfbaa.Print Go.Proofs.YtnippnpbnmkfbaaW.PrintWords Go.Proofs.YtnippnpbnmkfbaaW.PrintLast Go.Proofs.YtnippnpbnmkfbaaW.PrintMore
theorem ref01_Add_sat {a b : Int} (ha : 0 ≤ a) (hb : 0 ≤ b) (hb' : b < 18446744073709551616) : linhayref01_Add.f a b = some (min (a + b) 18446744073709551615) := by
  unfold linhayref01_Add.f linhayref01_Plus.f; rw [nwr (n := 18446744073709551615 - b) (by omega) (by omega)]
  by_cases hc : a + b < 18446744073709551616
  · rw [if_neg (by omega), nwr (n := a + b) (by omega) (by omega)]; simp; omega
  · rw [if_pos (by omega)]; simp; omega
end Go.Proofs.Ytnippnpbnmkfbaa.Facts
