/- RatioRises: a part of a product rises with a factor and falls with the divisor. For all numbers, no condition. -/
import Derived.Test.YtnobdpenncfghaaFactsNum
import Derived.Test.YtnobdpenncfghaaFactsWide
import Derived.Test.YtnobdpenncfghaaFactsFloor
import Derived.Test.YtnobdpenncfghaaFactsNear
import Derived.Test.YtnobdpenncfghaaFactsAwake03
import Derived.Test.YtnobdpenncfghaaPrint28
namespace Go.Proofs.Ytnobdpenncfghaa.Pure
set_option linter.unusedVariables false
set_option linter.unusedSimpArgs false
open Go.RowKit Go.Proofs.Ytnobdpenncfghaa.Print Go.Proofs.Ytnobdpenncfghaa.Facts Go.Proofs.YtnobdpenncfghaaW.PrintWords Go.Proofs.YtnobdpenncfghaaW.PrintLast Go.Proofs.YtnobdpenncfghaaW.PrintMore
theorem part_pos {a b c d : Int} (h : (partR a b c d).2 = 0) : c ≠ 0 ∧ (partR a b c d).1 = (a * b + d) / c := by
  unfold partR at *
  by_cases hz : c = 0
  · rw [if_pos hz] at h; cases h
  · rw [if_neg hz] at h ⊢
    refine ⟨hz, ?_⟩
    split at h
    · rename_i h2; rw [if_pos h2]
    · cases h
theorem ceil_falls {X c d : Int} (h0 : 0 ≤ X) (hc : 0 < c) (h : c ≤ d) : (X + (d - 1)) / d ≤ (X + (c - 1)) / c := by
  apply Int.le_of_lt_add_one
  rw [Int.ediv_lt_iff_lt_mul (by omega)]
  have e := Int.lt_ediv_add_one_mul_self (X + (c - 1)) hc
  obtain ⟨q, hq⟩ : ∃ q, q = (X + (c - 1)) / c := ⟨_, rfl⟩
  rw [← hq] at e ⊢
  have q0 : 0 ≤ q := by rw [hq]; exact Int.ediv_nonneg (by omega) (by omega)
  have m := Int.mul_le_mul_of_nonneg_left h q0
  simp only [Int.add_mul, Int.one_mul] at e ⊢
  omega
theorem RatioRises : linhaylaw03_RatioRises.Pure := by
  intro a b c d ha hb hc hd
  have ha : W64 a := nwf_u64 ha
  have hb : W64 b := nwf_u64 hb
  have hc : W64 c := nwf_u64 hc
  have hd : W64 d := nwf_u64 hd
  refine ⟨200, ?_⟩
  have m1 : mn a d = min a d := by unfold mn; split <;> omega
  have m2 : mx a d = max a d := by unfold mx; split <;> omega
  have m3 : mn c d = min c d := by unfold mn; split <;> omega
  have m4 : mx c d = max c d := by unfold mx; split <;> omega
  have w1 : W64 (min a d) := by unfold W64 at *; omega
  have w2 : W64 (max a d) := by unfold W64 at *; omega
  have w3 : W64 (min c d) := by unfold W64 at *; omega
  have w4 : W64 (max c d) := by unfold W64 at *; omega
  have ab0 : 0 ≤ a * b := Int.mul_nonneg ha.1 hb.1
  have lo : min a d * b ≤ max a d * b := Int.mul_le_mul_of_nonneg_right (by omega) hb.1
  have C : ∀ x y : Int × Int, x = partR a b (min c d) (min c d - 1) → y = partR a b (max c d) (max c d - 1) → (if x.2 = 0 then (if y.2 = 0 then (some (decide (x.1 ≥ y.1))) else (some true)) else (some true)) = some true := by
    intro x y hx hy
    split
    · rename_i h1
      split
      · rename_i h2
        subst hx hy
        obtain ⟨z1, e1⟩ := part_pos h1
        obtain ⟨z2, e2⟩ := part_pos h2
        rw [e1, e2]
        have := ceil_falls (d := max c d) ab0 (c := min c d) (by have := w3.1; omega) (by omega)
        simpa using this
      · rfl
    · rfl
  unfold linhaylaw03_RatioRises.f
  rw [awake03_le _ (by omega), m1, m2, m3, m4, ratio_Floor_eq _ (by omega) w1 hb hc, ratio_Floor_eq _ (by omega) w2 hb hc, ratio_Ceil_eq _ (by omega) ha hb w3, ratio_Ceil_eq _ (by omega) ha hb w4, floorR_part, floorR_part]
  simp only [Option.bind_some, if_true]
  rw [C _ _ rfl rfl]
  by_cases h1 : (partR (min a d) b c 0).2 = 0
  · obtain ⟨z1, e1⟩ := part_pos h1
    rw [if_pos h1]
    by_cases h2 : (partR (max a d) b c 0).2 = 0
    · obtain ⟨z2, e2⟩ := part_pos h2
      rw [if_pos h2, e1, e2, if_pos (Int.ediv_le_ediv (by unfold W64 at hc; omega) (by omega))]
    · rw [if_neg h2]
  · rw [if_neg h1, if_pos ?_]
    unfold partR at h1 ⊢
    by_cases hz : c = 0
    · rw [if_pos hz, if_pos hz]
    · rw [if_neg hz] at h1 ⊢
      rw [if_neg hz]
      have : (min a d * b + 0) / c ≤ (max a d * b + 0) / c := Int.ediv_le_ediv (by unfold W64 at hc; omega) (by omega)
      split at h1
      · exact absurd rfl h1
      · rename_i h3
        rw [if_neg h3, if_neg (by omega)]
end Go.Proofs.Ytnobdpenncfghaa.Pure
