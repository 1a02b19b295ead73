/- RatioSame: a ratio is what it is with both its parts so many times as great. For all numbers, no condition. -/
import Derived.Test.YtnobdpenncfghaaStRatioSame
import Derived.Test.YtnobdpenncfghaaFactsNum
import Derived.Test.YtnobdpenncfghaaFactsWide
import Derived.Test.YtnobdpenncfghaaFactsFloor
import Derived.Test.YtnobdpenncfghaaFactsNear
import Derived.Test.YtnobdpenncfghaaFactsAwake03
import Derived.Test.YtnobdpenncfghaaPrint25
namespace Go.Proofs.Ytnobdpenncfghaa.Pure
set_option linter.unusedVariables false
set_option linter.unusedSimpArgs false
open Go.RowKit Go.Proofs.Ytnobdpenncfghaa.Print Go.Proofs.Ytnobdpenncfghaa.Facts Go.Proofs.YtnobdpenncfghaaW.PrintWords Go.Proofs.YtnobdpenncfghaaW.PrintLast Go.Proofs.YtnobdpenncfghaaW.PrintMore
theorem nwf_u32 {n : Int} (h : (Lit.int .u32 n).wf = true) : 0 ≤ n ∧ n < 4294967296 := by
  have hmin : IntKind.u32.min = 0 := rfl
  have hmax : IntKind.u32.max = 4294967295 := rfl
  simp only [Lit.wf, Bool.and_eq_true, decide_eq_true_eq] at h; omega
theorem scmp_times {x y s : Int} (hs : 0 < s) : scmp (x * s) (y * s) = scmp x y := by
  unfold scmp
  by_cases h : x < y
  · rw [if_pos h, if_pos (Int.mul_lt_mul_of_pos_right h hs)]
  · rw [if_neg h, if_neg (by have := Int.mul_le_mul_of_nonneg_right (show y ≤ x by omega) (show 0 ≤ s by omega); omega)]
    by_cases h2 : y < x
    · rw [if_pos h2, if_pos (Int.mul_lt_mul_of_pos_right h2 hs)]
    · rw [if_neg h2, if_neg (by have := Int.mul_le_mul_of_nonneg_right (show x ≤ y by omega) (show 0 ≤ s by omega); omega)]
theorem RatioSame : linhaylaw03_RatioSame.Pure := by
  intro a b s c d ha hb hs hc hd
  obtain ⟨a0, a1⟩ := nwf_u32 ha
  obtain ⟨b0, b1⟩ := nwf_u32 hb
  obtain ⟨s0, s1⟩ := nwf_u32 hs
  have hc : W64 c := nwf_u64 hc
  have hd : W64 d := nwf_u64 hd
  refine ⟨200, ?_⟩
  have p0 : 0 ≤ a * s := Int.mul_nonneg a0 s0
  have p1 : a * s ≤ 4294967295 * 4294967295 := Int.mul_le_mul (by omega) (by omega) s0 (by decide)
  have p2 : 0 ≤ b * s := Int.mul_nonneg b0 s0
  have p3 : b * s ≤ 4294967295 * 4294967295 := Int.mul_le_mul (by omega) (by omega) s0 (by decide)
  have wa : W64 a := ⟨a0, by omega⟩
  have wb : W64 b := ⟨b0, by omega⟩
  have was : W64 (a * s) := ⟨p0, by omega⟩
  have wbs : W64 (b * s) := ⟨p2, by omega⟩
  unfold linhaylaw03_RatioSame.f
  rw [awake03_le _ (by omega), nwr (n := a) (by omega) (by omega), nwr (n := b) (by omega) (by omega), nwr (n := s) (by omega) (by omega), nwr (n := a * s) (by omega) (by omega), nwr (n := b * s) (by omega) (by omega),
    ratio_Cmp_eq _ (by omega) wa wb was wbs, ratio_Cmp_eq _ (by omega) wa wb hc hd, ratio_Cmp_eq _ (by omega) was wbs hc hd]
  simp only [Option.bind_some, if_true]
  by_cases hb0 : b = 0
  · subst hb0
    simp [cmpR]
  · by_cases hs0 : s = 0
    · subst hs0
      simp [cmpR, hb0]
    · rw [if_neg hb0, if_neg hs0]
      have sp : 0 < s := by omega
      have bsn : b * s ≠ 0 := Int.mul_ne_zero hb0 hs0
      have e1 : cmpR a b (a * s) (b * s) = (0, 0) := by
        unfold cmpR
        rw [if_neg (by omega), show a * (b * s) = a * s * b by rw [Int.mul_assoc, Int.mul_comm s b]]
        unfold scmp; simp
      have e2 : cmpR (a * s) (b * s) c d = cmpR a b c d := by
        unfold cmpR
        by_cases hd0 : d = 0
        · rw [if_pos (.inr hd0), if_pos (.inr hd0)]
        · rw [if_neg (by omega), if_neg (by omega), show a * s * d = a * d * s by rw [Int.mul_right_comm], show c * (b * s) = c * b * s by rw [Int.mul_assoc], scmp_times sp]
      rw [e1, e2]
      simp
end Go.Proofs.Ytnobdpenncfghaa.Pure
