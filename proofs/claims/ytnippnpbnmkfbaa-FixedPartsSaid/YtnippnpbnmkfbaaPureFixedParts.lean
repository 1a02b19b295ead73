/- FixedParts: a number is its whole and its part; whole numbers of 16 bits multiply as whole numbers. For all numbers, no condition. -/
import Derived.Test.YtnippnpbnmkfbaaFactsNum
import Derived.Test.YtnippnpbnmkfbaaFactsFixed
import Derived.Test.YtnippnpbnmkfbaaFactsMix
import Derived.Test.YtnippnpbnmkfbaaFactsAwake04
import Derived.Test.YtnippnpbnmkfbaaPrint16
namespace Go.Proofs.Ytnippnpbnmkfbaa.Pure
set_option linter.unusedVariables false
set_option linter.unusedSimpArgs false
open Go.RowKit Go.Proofs.Ytnippnpbnmkfbaa.Print Go.Proofs.Ytnippnpbnmkfbaa.Facts Go.Proofs.YtnippnpbnmkfbaaW.PrintWords Go.Proofs.YtnippnpbnmkfbaaW.PrintLast Go.Proofs.YtnippnpbnmkfbaaW.PrintMore
theorem nwf_u16 {n : Int} (h : (Lit.int .u16 n).wf = true) : 0 ≤ n ∧ n < 65536 := by
  have hmin : IntKind.u16.min = 0 := rfl
  have hmax : IntKind.u16.max = 65535 := rfl
  simp only [Lit.wf, Bool.and_eq_true, decide_eq_true_eq] at h; omega
theorem floorR_whole {a : Int} (h0 : 0 ≤ a) (h1 : a < 65536) : floorR a 4294967296 1 = (a * 4294967296, 0) := by
  unfold floorR; rw [if_neg (by decide), Int.ediv_one, if_pos (by omega)]
theorem FixedParts : linhaylaw04_FixedParts.Pure := by
  intro a b c ha hb hc
  have ha : W64 a := nwf_u64 ha
  obtain ⟨b0, b1⟩ := nwf_u16 hb
  obtain ⟨c0, c1⟩ := nwf_u16 hc
  refine ⟨200, ?_⟩
  have p0 : 0 ≤ b * c := Int.mul_nonneg b0 c0
  have p1 : b * c ≤ 65535 * 65535 := Int.mul_le_mul (by omega) (by omega) c0 (by decide)
  have hm : mulS (b * 4294967296) (c * 4294967296) = b * c * 4294967296 := by
    unfold mulS
    rw [show b * 4294967296 * (c * 4294967296) = b * c * 4294967296 * 4294967296 by rw [Int.mul_assoc, Int.mul_left_comm 4294967296 c, ← Int.mul_assoc, ← Int.mul_assoc]]
    omega
  unfold linhaylaw04_FixedParts.f
  rw [awake04_le _ (by omega), nwr (n := b) (by omega) (by omega), nwr (n := c) (by omega) (by omega), fixed_Of_eq _ (by omega) (a := b) (b := 1) (by unfold W64; omega) ⟨by decide, by decide⟩,
    fixed_Of_eq _ (by omega) (a := c) (b := 1) (by unfold W64; omega) ⟨by decide, by decide⟩, floorR_whole b0 b1, floorR_whole c0 c1, fixed_Whole_eq, fixed_Part_eq ha]
  simp only [Option.bind_some, if_true]
  rw [fixed_Mul_eq _ (by omega) (a := b * 4294967296) (b := c * 4294967296) (by unfold W64; omega) (by unfold W64; omega), hm, fixed_Mul_eq _ (by omega) ha W64_one, fixed_Whole_eq]
  simp only [Option.bind_some, if_true]
  rw [fixed_Whole_eq, fixed_Part_eq (a := b * c * 4294967296) (by unfold W64; omega)]
  simp only [Option.bind_some, if_true]
  unfold W64 at ha
  rw [nwr (n := b * c) (by omega) (by omega), nwr (n := a / 4294967296 * 4294967296) (by omega) (by omega), nwr (n := a / 4294967296 * 4294967296 + a % 4294967296) (by omega) (by omega), if_pos (by omega), if_pos (by omega), if_pos (by omega), if_pos (by omega)]
  have hm1 : mulS a 4294967296 = a := by unfold mulS; omega
  rw [hm1]
  simp
end Go.Proofs.Ytnippnpbnmkfbaa.Pure
