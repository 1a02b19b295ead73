
/- awake of linhaylaw03 answers true. -/
import Derived.Test.YtnobdpenncfghaaPrint6
namespace Go.Proofs.Ytnobdpenncfghaa.Facts
set_option linter.unusedVariables false
set_option linter.unusedSimpArgs false
open Go.RowKit Go.Proofs.Ytnobdpenncfghaa.Print Go.Proofs.YtnobdpenncfghaaW.PrintWords Go.Proofs.YtnobdpenncfghaaW.PrintLast Go.Proofs.YtnobdpenncfghaaW.PrintMore
theorem awake03 : linhaylaw03_awake.f 40 = some true := by decide +kernel
theorem awake03_le (k : Nat) (hk : 40 ≤ k) : linhaylaw03_awake.f k = some true := by
  induction k with
  | zero => omega
  | succ k ih =>
    by_cases h : k + 1 = 40
    · rw [h]; exact awake03
    · exact linhaylaw03_awake.mono k true (ih (by omega))
end Go.Proofs.Ytnobdpenncfghaa.Facts
