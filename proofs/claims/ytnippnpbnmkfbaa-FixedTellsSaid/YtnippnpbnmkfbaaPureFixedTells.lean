/- FixedTells: each answer of fixed is the answer of the slow reference, and awake holds. For all numbers and rows, no condition. -/
import Derived.Test.YtnippnpbnmkfbaaFactsNum
import Derived.Test.YtnippnpbnmkfbaaFactsFixed
import Derived.Test.YtnippnpbnmkfbaaFactsMix
import Derived.Test.YtnippnpbnmkfbaaFactsRef04
import Derived.Test.YtnippnpbnmkfbaaFactsSum
import Derived.Test.YtnippnpbnmkfbaaFactsSum04
import Derived.Test.YtnippnpbnmkfbaaFactsAwake04
import Derived.Test.YtnippnpbnmkfbaaPrint15
namespace Go.Proofs.Ytnippnpbnmkfbaa.Pure
set_option linter.unusedVariables false
set_option linter.unusedSimpArgs false
open Go.RowKit Go.Proofs.Ytnippnpbnmkfbaa.Print Go.Proofs.Ytnippnpbnmkfbaa.Facts Go.Proofs.YtnippnpbnmkfbaaW.PrintWords Go.Proofs.YtnippnpbnmkfbaaW.PrintLast Go.Proofs.YtnippnpbnmkfbaaW.PrintMore
theorem FixedTells : linhaylaw04_FixedTells.Pure := by
  intro a b c l ha hb hc _ hl hz
  have ha : W64 a := nwf_u64 ha
  have hb : W64 b := nwf_u64 hb
  have hc : W64 c := nwf_u64 hc
  have hz : ∀ x ∈ l, 0 ≤ x ∧ x < 18446744073709551616 := fun x hx => nwf_u64 (hz x hx)
  refine ⟨200 + l.length, ?_⟩
  unfold linhaylaw04_FixedTells.f
  rw [awake04_le _ (by omega), fixed_Of_eq _ (by omega) ha hb, ref04_Of_eq _ (by omega) ha hb, fixed_Div_eq _ (by omega) ha hb, ref04_Div_eq _ (by omega) ha hb,
    fixed_Mul_eq _ (by omega) ha hb, ref04_Mul_eq _ (by omega) ha hb, fixed_Whole_eq, ref04_Whole_eq ha, fixed_Part_eq ha, ref04_Part_eq ha,
    fixed_Mix_eq _ (by omega) ha hb hc, ref04_Mix_eq _ (by omega) ha hb hc, fixed_Sum_eq _ l (by omega) (fun x hx => (hz x hx).1) (by omega), ref04_Sum_eq _ l (by omega) hz (by omega)]
  simp
end Go.Proofs.Ytnippnpbnmkfbaa.Pure
