/- RatioParts: the part from below is no more than the nearest one, that no more than the one from above, and that at most one more. For all numbers, no condition. -/
import Derived.Test.YtnobdpenncfghaaFactsNum
import Derived.Test.YtnobdpenncfghaaFactsWide
import Derived.Test.YtnobdpenncfghaaFactsFloor
import Derived.Test.YtnobdpenncfghaaFactsNear
import Derived.Test.YtnobdpenncfghaaFactsAwake03
import Derived.Test.YtnobdpenncfghaaPrint12
import Derived.Test.YtnobdpenncfghaaPrint26
namespace Go.Proofs.Ytnobdpenncfghaa.Pure
set_option linter.unusedVariables false
set_option linter.unusedSimpArgs false
open Go.RowKit Go.Proofs.Ytnobdpenncfghaa.Print Go.Proofs.Ytnobdpenncfghaa.Facts Go.Proofs.YtnobdpenncfghaaW.PrintWords Go.Proofs.YtnobdpenncfghaaW.PrintLast Go.Proofs.YtnobdpenncfghaaW.PrintMore
/-- A quotient, if it is a word. -/
def wordR (q : Int) : Int × Int := if q < 18446744073709551616 then (q, 0) else (0, 10)
theorem partR_word {a b c d : Int} (hc : c ≠ 0) : partR a b c d = wordR ((a * b + d) / c) := by unfold partR wordR; rw [if_neg hc]
theorem RatioParts : linhaylaw03_RatioParts.Pure := by
  intro a b c ha hb hc
  have ha : W64 a := nwf_u64 ha
  have hb : W64 b := nwf_u64 hb
  have hc : W64 c := nwf_u64 hc
  refine ⟨199 + 1, ?_⟩
  have ab0 : 0 ≤ a * b := Int.mul_nonneg ha.1 hb.1
  unfold linhaylaw03_RatioParts.f
  rw [awake03_le _ (by omega), ratio_Floor_eq _ (by omega) ha hb hc, ratio_Ceil_eq _ (by omega) ha hb hc, ratio_Near_eq _ (by omega) ha hb hc, floorR_part]
  simp only [Option.bind_some]
  by_cases hz : c = 0
  · subst hz
    simp only [show ∀ d, partR a b 0 d = (0, 20) from fun d => by unfold partR; rw [if_pos rfl]]
    simp [linhaylaw03_RatioParts.j0]
  · have hcp : 0 < c := by have := hc.1; omega
    rw [partR_word hz, partR_word hz, partR_word hz, div_step hcp (by omega) hcp, div_step hcp (d := c / 2) (by omega) (by omega), div_step hcp (d := c - 1) (by omega) (by omega)]
    have m0 := Int.emod_nonneg (a * b) (b := c) (by omega)
    have m1 := Int.emod_lt_of_pos (a * b) hcp
    have q0 : 0 ≤ a * b / c := Int.ediv_nonneg ab0 (by omega)
    have e := Int.mul_ediv_add_emod (a * b) c
    rw [Int.add_zero, if_neg (show ¬ c ≤ a * b % c by omega)]
    have hfl : ∀ x, 0 ≤ x → x < 18446744073709551616 → ratio_Floor.f 199 x c 1 = some (wordR (x * c)) := by
      intro x x0 x1
      rw [ratio_Floor_eq _ (by omega) ⟨x0, x1⟩ hc ⟨by decide, by decide⟩]
      unfold floorR wordR; rw [if_neg (by decide), Int.ediv_one]
    have hfw : ratio_Floor.f 199 a b 1 = some (wordR (a * b)) := by
      rw [ratio_Floor_eq _ (by omega) ha hb ⟨by decide, by decide⟩]
      unfold floorR wordR; rw [if_neg (by decide), Int.ediv_one]
    obtain ⟨N, hN⟩ : ∃ N, N = (if c ≤ a * b % c + c / 2 then a * b / c + 1 else a * b / c) := ⟨_, rfl⟩
    obtain ⟨C, hC⟩ : ∃ C, C = (if c ≤ a * b % c + (c - 1) then a * b / c + 1 else a * b / c) := ⟨_, rfl⟩
    rw [← hN, ← hC]
    have hN2 : a * b / c ≤ N ∧ N ≤ C ∧ C ≤ a * b / c + 1 := by rw [hN, hC]; split <;> split <;> omega
    have hC2 : C = a * b / c ↔ a * b % c = 0 := by rw [hC]; split <;> omega
    clear hN hC
    generalize a * b / c = q at *
    generalize a * b % c = r at *
    have hqc : c * q = q * c := Int.mul_comm c q
    generalize a * b = X at *
    by_cases h1 : C < 18446744073709551616
    · rw [show wordR C = (C, 0) by unfold wordR; rw [if_pos h1], show wordR N = (N, 0) by unfold wordR; rw [if_pos (by omega)], show wordR q = (q, 0) by unfold wordR; rw [if_pos (by omega)]]
      simp only [if_true, show ((0 : Int) != 0) = false from rfl]
      rw [linhaylaw03_RatioParts.j0, if_neg (by decide), hfl q q0 (by omega), hfw, nwr (n := C - q) (by omega) (by omega)]
      simp only [Option.bind_some, if_true]
      have hc1 : C - q ≤ 1 := by omega
      simp only [hN2.1, hN2.2.1, hc1, if_true]
      by_cases h2 : q * c < 18446744073709551616
      · rw [show wordR (q * c) = (q * c, 0) by unfold wordR; rw [if_pos h2], if_pos rfl]
        by_cases h3 : X < 18446744073709551616
        · rw [show wordR X = (X, 0) by unfold wordR; rw [if_pos h3], if_pos rfl]
          simp only [Option.some.injEq, beq_iff_eq]
          by_cases h4 : r = 0
          · rw [beq_iff_eq.mpr (show q * c = X by omega), beq_iff_eq.mpr (show q = C by have := hC2.mpr h4; omega)]
          · rw [beq_eq_false_iff_ne.mpr (show q * c ≠ X by omega), beq_eq_false_iff_ne.mpr (show q ≠ C by intro h5; exact h4 (hC2.mp h5.symm))]
        · rw [show wordR X = (0, 10) by unfold wordR; rw [if_neg h3], if_neg (by decide)]
      · rw [show wordR (q * c) = (0, 10) by unfold wordR; rw [if_neg h2], if_neg (by decide)]
    · rw [show wordR C = (0, 10) by unfold wordR; rw [if_neg h1]]
      have hj : ∀ N1 N2 : Int, linhaylaw03_RatioParts.j0 (199 + 1) a b c true (wordR q).1 (wordR q).2 N1 N2 0 10 true = some true ∨ ((wordR q).2 ≠ 0 ∧ (N1, N2) ≠ (0, 10)) := by
        intro N1 N2
        rw [linhaylaw03_RatioParts.j0]
        by_cases h3 : q < 18446744073709551616
        · left
          rw [show wordR q = (q, 0) by unfold wordR; rw [if_pos h3]]
          simp [hz]; omega
        · rw [show wordR q = (0, 10) by unfold wordR; rw [if_neg h3]]
          by_cases h4 : (N1, N2) = (0, 10)
          · left
            obtain ⟨rfl, rfl⟩ := Prod.mk.inj h4
            simp [hz]
          · right; exact ⟨by decide, h4⟩
      have hw : (wordR q).2 ≠ 0 → wordR N = (0, 10) := by
        intro h
        unfold wordR at h ⊢
        split at h
        · exact absurd rfl h
        · rw [if_neg (by omega)]
      rcases hj (wordR N).1 (wordR N).2 with h | ⟨h, h2⟩
      · rw [show ((10 : Int) != 0) = true from rfl, h]
        simp
      · exact absurd (hw h) h2
end Go.Proofs.Ytnobdpenncfghaa.Pure
