
/- awake of linhaylaw04 answers true. -/
import Derived.Test.YtnippnpbnmkfbaaPrint8
namespace Go.Proofs.Ytnippnpbnmkfbaa.Facts
set_option linter.unusedVariables false
set_option linter.unusedSimpArgs false
open Go.RowKit Go.Proofs.Ytnippnpbnmkfbaa.Print Go.Proofs.YtnippnpbnmkfbaaW.PrintWords Go.Proofs.YtnippnpbnmkfbaaW.PrintLast Go.Proofs.YtnippnpbnmkfbaaW.PrintMore
theorem awake04 : linhaylaw04_awake.f 40 = some true := by decide +kernel
theorem awake04_le (k : Nat) (hk : 40 ≤ k) : linhaylaw04_awake.f k = some true := by
  induction k with
  | zero => omega
  | succ k ih =>
    by_cases h : k + 1 = 40
    · rw [h]; exact awake04
    · exact linhaylaw04_awake.mono k true (ih (by omega))
end Go.Proofs.Ytnippnpbnmkfbaa.Facts
