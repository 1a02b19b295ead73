
/- awake of linhaylaw07 answers true. -/
import Derived.Test.YtkfahdccacefiaaPrint2
namespace Go.Proofs.Ytkfahdccacefiaa.Facts
set_option linter.unusedVariables false
set_option linter.unusedSimpArgs false
open Go.RowKit Go.Proofs.Ytkfahdccacefiaa.Print Go.Proofs.YtkfahdccacefiaaW.PrintWords Go.Proofs.YtkfahdccacefiaaW.PrintLast Go.Proofs.YtkfahdccacefiaaW.PrintMore
theorem awake07 : linhaylaw07_awake.f 60 = some true := by decide +kernel
theorem awake07_le (k : Nat) (hk : 60 ≤ k) : linhaylaw07_awake.f k = some true := by
  induction k with
  | zero => omega
  | succ k ih =>
    by_cases h : k + 1 = 60
    · rw [h]; exact awake07
    · exact linhaylaw07_awake.mono k true (ih (by omega))
end Go.Proofs.Ytkfahdccacefiaa.Facts
