/- awake of linhaylaw02 answers true. -/
import Derived.Test.YtkicianajhnpkaaPrint8
namespace Go.Proofs.Ytkicianajhnpkaa.Facts
set_option linter.unusedVariables false
set_option linter.unusedSimpArgs false
open Go.RowKit Go.Proofs.Ytkicianajhnpkaa.Print Go.Proofs.Ytkicianajhnpkaa.Facts Go.Proofs.YtkicianajhnpkaaW.PrintWords Go.Proofs.YtkicianajhnpkaaW.PrintLast Go.Proofs.YtkicianajhnpkaaW.PrintMore
theorem awake02 : linhaylaw02_awake.f 40 = some true := by decide +kernel
theorem awake02_le (k : Nat) (hk : 40 ≤ k) : linhaylaw02_awake.f k = some true := by
  induction k with
  | zero => omega
  | succ k ih =>
    by_cases h : k + 1 = 40
    · rw [h]; exact awake02
    · exact linhaylaw02_awake.mono k true (ih (by omega))
end Go.Proofs.Ytkicianajhnpkaa.Facts
