/- FixedSmall: a product by a part of one is no more, the order of the two is nothing, a bigger one gives no less, nought gives nought. For all numbers, no condition. -/
import Derived.Test.YtnippnpbnmkfbaaFactsNum
import Derived.Test.YtnippnpbnmkfbaaFactsFixed
import Derived.Test.YtnippnpbnmkfbaaFactsMix
import Derived.Test.YtnippnpbnmkfbaaFactsAwake04
import Derived.Test.YtnippnpbnmkfbaaPrint18
namespace Go.Proofs.Ytnippnpbnmkfbaa.Pure
set_option linter.unusedVariables false
set_option linter.unusedSimpArgs false
open Go.RowKit Go.Proofs.Ytnippnpbnmkfbaa.Print Go.Proofs.Ytnippnpbnmkfbaa.Facts Go.Proofs.YtnippnpbnmkfbaaW.PrintWords Go.Proofs.YtnippnpbnmkfbaaW.PrintLast Go.Proofs.YtnippnpbnmkfbaaW.PrintMore
theorem FixedSmall : linhaylaw04_FixedSmall.Pure := by
  intro a b c ha hb hc
  have ha : W64 a := nwf_u64 ha
  have hb : W64 b := nwf_u64 hb
  have hc : W64 c := nwf_u64 hc
  refine ⟨200, ?_⟩
  unfold linhaylaw04_FixedSmall.f
  have m1 : mn b 4294967296 = min b 4294967296 := by unfold mn; split <;> omega
  have m2 : mn a c = min a c := by unfold mn; split <;> omega
  have m3 : mx a c = max a c := by unfold mx; split <;> omega
  rw [awake04_le _ (by omega), m1, m2, m3, fixed_Mul_eq _ (by omega) ha (b := min b 4294967296) (by unfold W64 at *; omega), fixed_Mul_eq _ (by omega) ha hb, fixed_Mul_eq _ (by omega) hb ha,
    fixed_Mul_eq _ (by omega) (a := min a c) (by unfold W64 at *; omega) hb, fixed_Mul_eq _ (by omega) (a := max a c) (by unfold W64 at *; omega) hb, fixed_Mul_eq _ (by omega) ha (b := 0) ⟨by decide, by decide⟩]
  simp only [Option.bind_some, if_true]
  have h1 : mulS a (min b 4294967296) ≤ a := by
    have := Int.mul_le_mul_of_nonneg_left (show min b 4294967296 ≤ 4294967296 by omega) ha.1
    unfold mulS; omega
  have h2 : mulS (min a c) b ≤ mulS (max a c) b := by
    have := Int.mul_le_mul_of_nonneg_right (show min a c ≤ max a c by omega) hb.1
    unfold mulS; omega
  rw [if_pos h1, if_pos (by unfold mulS; rw [Int.mul_comm]), if_pos h2]
  simp [mulS]; try decide
end Go.Proofs.Ytnippnpbnmkfbaa.Pure
