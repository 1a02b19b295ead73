/- FixedMix: what lies between two lies between them, moves with the weight, and is each end at its end. For all numbers, no condition. -/
import Derived.Test.YtnippnpbnmkfbaaFactsNum
import Derived.Test.YtnippnpbnmkfbaaFactsFixed
import Derived.Test.YtnippnpbnmkfbaaFactsMix
import Derived.Test.YtnippnpbnmkfbaaFactsAwake04
import Derived.Test.YtnippnpbnmkfbaaPrint17
namespace Go.Proofs.Ytnippnpbnmkfbaa.Pure
set_option linter.unusedVariables false
set_option linter.unusedSimpArgs false
open Go.RowKit Go.Proofs.Ytnippnpbnmkfbaa.Print Go.Proofs.Ytnippnpbnmkfbaa.Facts Go.Proofs.YtnippnpbnmkfbaaW.PrintWords Go.Proofs.YtnippnpbnmkfbaaW.PrintLast Go.Proofs.YtnippnpbnmkfbaaW.PrintMore
theorem mix_up {a b s t : Int} (h : a ≤ b) (hs : s ≤ t) : a * (4294967296 - s) + b * s ≤ a * (4294967296 - t) + b * t := by
  have := Int.mul_nonneg (show 0 ≤ b - a by omega) (show 0 ≤ t - s by omega)
  have e : (b - a) * (t - s) = (a * (4294967296 - t) + b * t) - (a * (4294967296 - s) + b * s) := by
    simp only [Int.mul_sub, Int.sub_mul]; omega
  omega
theorem mix_down {a b s t : Int} (h : b ≤ a) (hs : s ≤ t) : a * (4294967296 - t) + b * t ≤ a * (4294967296 - s) + b * s := by
  have := Int.mul_nonneg (show 0 ≤ a - b by omega) (show 0 ≤ t - s by omega)
  have e : (a - b) * (t - s) = (a * (4294967296 - s) + b * s) - (a * (4294967296 - t) + b * t) := by
    simp only [Int.mul_sub, Int.sub_mul]; omega
  omega
theorem mixS_up {a b v w : Int} (h : a ≤ b) (hs : v ≤ w) : mixS a b v ≤ mixS a b w := by
  have := mix_up h (show min v 4294967296 ≤ min w 4294967296 by clear h; omega)
  unfold mixS; exact Int.ediv_le_ediv (by decide) this
theorem mixS_down {a b v w : Int} (h : b ≤ a) (hs : v ≤ w) : mixS a b w ≤ mixS a b v := by
  have := mix_down h (show min v 4294967296 ≤ min w 4294967296 by clear h; omega)
  unfold mixS; exact Int.ediv_le_ediv (by decide) this
theorem mixS_zero (a b : Int) : mixS a b 0 = a := by
  unfold mixS; rw [show min (0:Int) 4294967296 = 0 by decide, Int.mul_zero]; omega
theorem mixS_one (a b w : Int) (h : 4294967296 ≤ w) : mixS a b w = b := by
  unfold mixS; rw [show min w 4294967296 = 4294967296 by omega]; omega
theorem mixS_same (a w : Int) : mixS a a w = a := by
  unfold mixS; rw [Int.mul_sub]; omega
theorem FixedMix : linhaylaw04_FixedMix.Pure := by
  intro a b v w ha hb hv hw
  have ha : W64 a := nwf_u64 ha
  have hb : W64 b := nwf_u64 hb
  have hv : W64 v := nwf_u64 hv
  have hw : W64 w := nwf_u64 hw
  refine ⟨200, ?_⟩
  have m1 : mn a b = min a b := by unfold mn; split <;> omega
  have m2 : mx a b = max a b := by unfold mx; split <;> omega
  have m3 : mx v 4294967296 = max v 4294967296 := by unfold mx; split <;> omega
  have m4 : mn v w = min v w := by unfold mn; split <;> omega
  have lo : min a b ≤ mixS a b v := by
    rcases Int.le_total a b with h | h
    · have := mixS_up h hv.1; rw [mixS_zero] at this; omega
    · have := mixS_down h (show v ≤ max v 4294967296 by omega); rw [mixS_one a b (max v 4294967296) (Int.le_max_right _ _)] at this; omega
  have hi : mixS a b v ≤ max a b := by
    rcases Int.le_total a b with h | h
    · have := mixS_up h (show v ≤ max v 4294967296 by omega); rw [mixS_one a b (max v 4294967296) (Int.le_max_right _ _)] at this; omega
    · have := mixS_down h hv.1; rw [mixS_zero] at this; omega
  unfold linhaylaw04_FixedMix.f
  rw [awake04_le _ (by omega), m1, m2, m3, m4, fixed_Mix_eq _ (by omega) ha hb hv, fixed_Mix_eq _ (by omega) ha hb hw, fixed_Mix_eq _ (by omega) ha hb (w := 0) ⟨by decide, by decide⟩,
    fixed_Mix_eq _ (by omega) ha hb (w := max v 4294967296) (by unfold W64 at *; omega), fixed_Mix_eq _ (by omega) ha ha hv, mixS_zero, mixS_one a b _ (show 4294967296 ≤ max v 4294967296 by omega), mixS_same]
  simp only [Option.bind_some, if_true]
  rw [if_pos lo, if_pos hi]
  by_cases h : a > b
  · rw [if_pos h]
  · rw [if_neg h]
    by_cases h2 : min v w = v
    · rw [if_pos h2, if_pos (mixS_up (by omega) (by omega))]
    · rw [if_neg h2]
      simp [mixS_up (show a ≤ b by omega) (show w ≤ v by omega), show min v w = w by omega, lo, hi]
end Go.Proofs.Ytnippnpbnmkfbaa.Pure
