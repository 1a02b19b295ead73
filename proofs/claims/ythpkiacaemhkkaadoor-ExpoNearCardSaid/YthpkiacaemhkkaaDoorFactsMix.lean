
/- What the printed fixed.Div, Whole, Part and Mix answer. -/
import Derived.Test.YthpkiacaemhkkaaDoorFactsNum
import Derived.Test.YthpkiacaemhkkaaDoorFactsWide
import Derived.Test.YthpkiacaemhkkaaDoorFactsFloor
import Derived.Test.YthpkiacaemhkkaaDoorFactsFixed

namespace Go.Proofs.YthpkiacaemhkkaaDoor.Facts
set_option linter.unusedVariables false
set_option linter.unusedSimpArgs false
open Go.RowKit Go.Proofs.YthpkiacaemhkkaaDoor.Print Go.Proofs.YthpkiacaemhkkaaDoorW.PrintWords Go.Proofs.YthpkiacaemhkkaaDoorW.PrintLast Go.Proofs.YthpkiacaemhkkaaDoorW.PrintMore
/-- What lies between two. -/
def mixS (a b w : Int) : Int := (a * (4294967296 - min w 4294967296) + b * min w 4294967296) / 4294967296
theorem mix_bound {a b w : Int} (ha : W64 a) (hb : W64 b) (hw : 0 ≤ w) (hw' : w ≤ 4294967296) :
    0 ≤ a * (4294967296 - w) ∧ 0 ≤ b * w ∧ a * (4294967296 - w) + b * w ≤ 18446744073709551615 * 4294967296 := by
  have h1 := Int.mul_nonneg ha.1 (show 0 ≤ 4294967296 - w by omega)
  have h2 := Int.mul_nonneg hb.1 hw
  have h3 : a * (4294967296 - w) ≤ 18446744073709551615 * (4294967296 - w) := Int.mul_le_mul_of_nonneg_right (by unfold W64 at ha; omega) (by omega)
  have h4 : b * w ≤ 18446744073709551615 * w := Int.mul_le_mul_of_nonneg_right (by unfold W64 at hb; omega) hw
  omega
end Go.Proofs.YthpkiacaemhkkaaDoor.Facts
