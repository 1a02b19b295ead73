/- ExpoRatio: what its row says of expo, and awake holds. For all inputs, no condition but the row's own (the table lies as the text lays it). -/
import Derived.Test.YthpkiacaemhkkaaDoorStExpoRatio
import Derived.Test.YthpkiacaemhkkaaDoorFactsExpo
import Derived.Test.YthpkiacaemhkkaaDoorPrint6
namespace Go.Proofs.YthpkiacaemhkkaaDoor.Pure
set_option linter.unusedVariables false
set_option linter.unusedSimpArgs false
open Go.RowKit Go.Proofs.YthpkiacaemhkkaaDoor.Print Go.Proofs.YthpkiacaemhkkaaDoor.Facts Go.Proofs.YthpkiacaemhkkaaDoorW.PrintWords Go.Proofs.YthpkiacaemhkkaaDoorW.PrintLast Go.Proofs.YthpkiacaemhkkaaDoorW.PrintMore
theorem floorR_by {a b c : Int} (ha : 0 ≤ a) (hb : 0 ≤ b) (hc : 0 < c) : floorR (a * c) 4294967296 (b * c) = floorR a 4294967296 b := by
  unfold floorR
  by_cases z : b = 0
  · subst z; simp
  · have hz : ¬ b * c = 0 := by
      intro h
      rcases Int.mul_eq_zero.mp h with h | h <;> omega
    have e : a * c * 4294967296 / (b * c) = a * 4294967296 / b := by
      have : a * c * 4294967296 = a * 4294967296 * c := by grind
      rw [this, Int.mul_ediv_mul_of_pos_left _ _ hc]
    rw [if_neg z, if_neg hz, e]
theorem ExpoRatio : linhaylaw05_ExpoRatio.Pure := by
  intro a b c d e ha hb hc hd he
  have ha := nwf_u32 ha
  have hb := nwf_u32 hb
  have hc := nwf_u32 hc
  have hd := nwf_u32 hd
  have he := nwf_u32 he
  have Wa : W64 a := ⟨ha.1, by omega⟩
  have Wb : W64 b := ⟨hb.1, by omega⟩
  have Wd : W64 d := ⟨hd.1, by omega⟩
  have m0 : 0 ≤ mn d e ∧ mn d e ≤ mx d e ∧ mx d e ≤ 4294967295 := by unfold mn mx; omega
  have Wl : W64 (mn d e) := ⟨m0.1, by omega⟩
  have Wh : W64 (mx d e) := ⟨by omega, by omega⟩
  have pa : 0 ≤ a * c ∧ a * c ≤ 4294967295 * 4294967295 := ⟨Int.mul_nonneg ha.1 hc.1, Int.mul_le_mul ha.2 hc.2 hc.1 (by decide)⟩
  have pb : 0 ≤ b * c ∧ b * c ≤ 4294967295 * 4294967295 := ⟨Int.mul_nonneg hb.1 hc.1, Int.mul_le_mul hb.2 hc.2 hc.1 (by decide)⟩
  have Wac : W64 (a * c) := ⟨pa.1, by omega⟩
  have Wbc : W64 (b * c) := ⟨pb.1, by omega⟩
  have na := nwr Wa.1 Wa.2
  have nb := nwr Wb.1 Wb.2
  have nc : IntKind.u64.wrap c = c := nwr hc.1 (by omega)
  refine ⟨300, ?_⟩
  unfold linhaylaw05_ExpoRatio.f
  rw [na, nb, nc, nwr Wac.1 Wac.2, nwr Wbc.1 Wbc.2, awake05_le 300 (by decide), expo_Ratio_eq 300 (by decide) Wa Wb, expo_Ratio_eq 300 (by decide) Wac Wbc, expo_Below_eq 300 (by decide) Wh Wa Wb, expo_Below_eq 300 (by decide) Wl Wa Wb, expo_Below_eq 300 (by decide) Wd (a := 0) ⟨by decide, by decide⟩ Wb]
  have z : b ≠ 0 → ratioS 0 b = 4294967296 := by
    intro h
    have f : floorR 0 4294967296 b = (0, 0) := by unfold floorR; rw [if_neg h]; simp
    unfold ratioS
    rw [f]
    decide +kernel
  have low : decide (mx d e < ratioS a b) = true → decide (mn d e < ratioS a b) = true := by
    intro h; rw [decide_eq_true_eq] at h ⊢; omega
  have same : c > 0 → ratioS (a * c) (b * c) = ratioS a b := by
    intro h; unfold ratioS; rw [floorR_by ha.1 hb.1 (by omega)]
  have zero : c = 0 → ratioS (a * c) (b * c) = 0 := by
    intro h; subst h; unfold ratioS floorR; simp
  have dz : b ≠ 0 → decide (d < ratioS 0 b) = true := by intro h; rw [z h, decide_eq_true_eq]; omega
  simp only [Option.bind_some, if_true]
  by_cases c0 : c = 0
  · rw [if_pos c0, if_pos (zero c0)]
    by_cases h1 : decide (mx d e < ratioS a b) = true
    · rw [if_pos h1, if_pos (low h1)]
      by_cases a0 : a > 0
      · rw [if_pos a0]
      · rw [if_neg a0]
        by_cases b0 : b = 0
        · rw [if_pos b0]
        · rw [if_neg b0, dz b0]
    · rw [if_neg h1]
      by_cases a0 : a > 0
      · rw [if_pos a0]
      · rw [if_neg a0]
        by_cases b0 : b = 0
        · rw [if_pos b0]
        · rw [if_neg b0, dz b0]
  · have cp : c > 0 := by omega
    rw [if_neg c0, if_pos cp, if_pos (same cp).symm]
    by_cases h1 : decide (mx d e < ratioS a b) = true
    · rw [if_pos h1, if_pos (low h1)]
      by_cases a0 : a > 0
      · rw [if_pos a0]
      · rw [if_neg a0]
        by_cases b0 : b = 0
        · rw [if_pos b0]
        · rw [if_neg b0, dz b0]
    · rw [if_neg h1]
      by_cases a0 : a > 0
      · rw [if_pos a0]
      · rw [if_neg a0]
        by_cases b0 : b = 0
        · rw [if_pos b0]
        · rw [if_neg b0, dz b0]
end Go.Proofs.YthpkiacaemhkkaaDoor.Pure
