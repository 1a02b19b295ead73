/- Plain facts about the printed functions of the package linhayref01. -/
import Derived.Test.YtkngogjcenmahaaFactsWord
import Derived.Test.YtkngogjcenmahaaPrint2
import Derived.Test.YtkngogjcenmahaaPrint3
import Derived.Test.YtkngogjcenmahaaPrint4
namespace Go.Proofs.Ytkngogjcenmahaa.Facts
set_option linter.unusedVariables false
set_option linter.unusedSimpArgs false
open Go.RowKit Go.Proofs.Ytkngogjcenmahaa.Print Go.Proofs.YtkngogjcenmahaaW.PrintWords Go.Proofs.YtkngogjcenmahaaW.PrintLast Go.Proofs.YtkngogjcenmahaaW.PrintMore
theorem ref01_Plus_eq {a b : Int} (ha : 0 ≤ a) (hb : 0 ≤ b) (hb' : b < 18446744073709551616) : linhayref01_Plus.f a b = some (if a + b < 18446744073709551616 then (a + b, 0) else (0, 10)) := by
  unfold linhayref01_Plus.f; rw [wr (by omega) (by omega)]
  by_cases hc : a + b < 18446744073709551616
  · rw [if_pos hc, if_neg (by omega), wr (by omega) (by omega)]
  · rw [if_neg hc, if_pos (by omega)]
theorem ref01_Times_eq {a b : Int} (ha : 0 ≤ a) (hb : 0 ≤ b) : linhayref01_Times.f a b = some (if a * b < 18446744073709551616 then (a * b, 0) else (0, 10)) := by
  unfold linhayref01_Times.f; rw [if_pos ⟨ha, hb⟩]; split <;> rfl
theorem ref01_Add_eq {a b : Int} (ha : 0 ≤ a) (hb : 0 ≤ b) (hb' : b < 18446744073709551616) : linhayref01_Add.f a b = some (min (a + b) 18446744073709551615) := by
  unfold linhayref01_Add.f; rw [ref01_Plus_eq ha hb hb']
  by_cases hc : a + b < 18446744073709551616
  · rw [if_pos hc]; simp; omega
  · rw [if_neg hc]; simp; omega
theorem ref01_Sub_eq {a b : Int} (ha : 0 ≤ a) (ha' : a < 18446744073709551616) (hb : 0 ≤ b) : linhayref01_Sub.f a b = some (max (a - b) 0) := by
  unfold linhayref01_Sub.f
  by_cases hc : a < b
  · rw [if_pos hc]; congr 1; omega
  · rw [if_neg hc, wr (by omega) (by omega)]; congr 1; omega
theorem ref01_Mul_eq {a b : Int} (ha : 0 ≤ a) (hb : 0 ≤ b) : linhayref01_Mul.f a b = some (min (a * b) 18446744073709551615) := by
  unfold linhayref01_Mul.f; rw [ref01_Times_eq ha hb]
  by_cases hc : a * b < 18446744073709551616
  · rw [if_pos hc]; simp; omega
  · rw [if_neg hc]; simp; omega
theorem ref01_Shl_loop (n : Nat) (hn : (n : Int) < 18446744073709551616) (d : Nat) : ∀ (k i : Nat) (a : Int), 0 ≤ a → a < 18446744073709551616 → i ≤ 64 → i ≤ n → min n 64 - i = d → d < k →
    linhayref01_Shl.l0 k a n i = some (min (a * 2 ^ (min n 64 - i)) 18446744073709551615) := by
  induction d with
  | zero =>
    intro k i a ha ha' h1 h2 hd hk
    obtain ⟨k, rfl⟩ : ∃ m, k = m + 1 := ⟨k - 1, by omega⟩
    rw [hd]
    simp only [linhayref01_Shl.l0]
    have : min (a * 2 ^ 0) 18446744073709551615 = a := by rw [Int.pow_zero]; omega
    rw [this]
    split
    · rw [if_neg (by omega)]
    · rfl
  | succ d ih =>
    intro k i a ha ha' h1 h2 hd hk
    obtain ⟨k, rfl⟩ : ∃ m, k = m + 1 := ⟨k - 1, by omega⟩
    simp only [linhayref01_Shl.l0]
    rw [if_pos (by omega), if_pos (by omega), ref01_Add_eq ha ha ha', wr (by omega) (by omega)]
    simp only [Option.bind_some]
    have e := ih k (i + 1) (min (a + a) 18446744073709551615) (by omega) (by omega) (by omega) (by omega) (by omega) (by omega)
    rw [show ((i : Int) + 1) = ((i + 1 : Nat) : Int) by omega, e, hd, show min n 64 - (i + 1) = d by omega]
    congr 1
    have hp := pow_pos d
    rw [pow_add, show (2 : Int) ^ 1 = 2 by decide, show a * (2 ^ d * 2) = (a + a) * 2 ^ d by rw [Int.add_mul, ← Int.mul_assoc]; omega]
    by_cases hc : a + a ≤ 18446744073709551615
    · rw [Int.min_eq_left hc]
    · rw [Int.min_eq_right (a := a + a) (by omega)]
      have h3 : 18446744073709551615 * 1 ≤ 18446744073709551615 * (2 : Int) ^ d := Int.mul_le_mul_of_nonneg_left (by omega) (by decide)
      have h4 : 18446744073709551615 * (2 : Int) ^ d ≤ (a + a) * 2 ^ d := Int.mul_le_mul_of_nonneg_right (by omega) (by omega)
      omega
theorem ref01_Shl_eq {a n : Int} (ha : 0 ≤ a) (ha' : a < 18446744073709551616) (hn : 0 ≤ n) (hn' : n < 18446744073709551616) (k : Nat) (hk : 64 < k) :
    linhayref01_Shl.f k a n = some (min (a * 2 ^ n.toNat) 18446744073709551615) := by
  obtain ⟨m, rfl⟩ := Int.eq_ofNat_of_zero_le hn
  unfold linhayref01_Shl.f
  have e := ref01_Shl_loop m hn' (min m 64) k 0 a ha ha' (by omega) (by omega) (by omega) (by omega)
  rw [show ((0 : Nat) : Int) = 0 by rfl] at e
  rw [e]
  simp only [Int.toNat_natCast, Nat.sub_zero]
  congr 1
  by_cases h : m ≤ 64
  · rw [Nat.min_eq_left h]
  · rw [Nat.min_eq_right (by omega)]
    have h1 := pow_le (a := 64) (b := m) (by omega)
    rw [pow64] at *
    by_cases hz : a = 0
    · subst hz; simp
    · have h2 : 1 * 2 ^ m ≤ a * 2 ^ m := Int.mul_le_mul_of_nonneg_right (by omega) (by omega)
      omega
theorem ref01_Shr_loop (n : Nat) (hn : (n : Int) < 18446744073709551616) (d : Nat) : ∀ (k i : Nat) (a : Int), 0 ≤ a → a < 18446744073709551616 → i ≤ 64 → i ≤ n → min n 64 - i = d → d < k →
    linhayref01_Shr.l0 k a n i = some (a / 2 ^ (min n 64 - i)) := by
  induction d with
  | zero =>
    intro k i a ha ha' h1 h2 hd hk
    obtain ⟨k, rfl⟩ : ∃ m, k = m + 1 := ⟨k - 1, by omega⟩
    rw [hd]
    simp only [linhayref01_Shr.l0, Int.pow_zero, Int.ediv_one]
    split
    · rw [if_neg (by omega)]
    · rfl
  | succ d ih =>
    intro k i a ha ha' h1 h2 hd hk
    obtain ⟨k, rfl⟩ : ∃ m, k = m + 1 := ⟨k - 1, by omega⟩
    simp only [linhayref01_Shr.l0]
    rw [if_pos (by omega), if_pos (by omega), Int.tdiv_eq_ediv_of_nonneg ha, wr (n := a / 2) (by omega) (by omega), wr (n := (i : Int) + 1) (by omega) (by omega)]
    have e := ih k (i + 1) (a / 2) (by omega) (by omega) (by omega) (by omega) (by omega) (by omega)
    rw [show ((i : Int) + 1) = ((i + 1 : Nat) : Int) by omega, e, hd, show min n 64 - (i + 1) = d by omega]
    congr 1
    rw [Nat.add_comm, pow_add, show (2 : Int) ^ 1 = 2 by decide, Int.ediv_ediv_of_nonneg (by decide)]
theorem ref01_Shr_eq {a n : Int} (ha : 0 ≤ a) (ha' : a < 18446744073709551616) (hn : 0 ≤ n) (hn' : n < 18446744073709551616) (k : Nat) (hk : 64 < k) :
    linhayref01_Shr.f k a n = some (a / 2 ^ n.toNat) := by
  obtain ⟨m, rfl⟩ := Int.eq_ofNat_of_zero_le hn
  unfold linhayref01_Shr.f
  have e := ref01_Shr_loop m hn' (min m 64) k 0 a ha ha' (by omega) (by omega) (by omega) (by omega)
  rw [show ((0 : Nat) : Int) = 0 by rfl] at e
  rw [e]
  simp only [Int.toNat_natCast, Nat.sub_zero]
  congr 1
  by_cases h : m ≤ 64
  · rw [Nat.min_eq_left h]
  · rw [Nat.min_eq_right (by omega), pow64]
    have h1 := pow_le (a := 64) (b := m) (by omega)
    rw [pow64] at h1
    rw [Int.ediv_eq_zero_of_lt ha (by omega), Int.ediv_eq_zero_of_lt ha (by omega)]
theorem ref01_Of_eq {i : Int} (h1 : i ≤ 9223372036854775807) : linhayref01_Of.f i = some (max i 0) := by
  unfold linhayref01_Of.f
  by_cases h : i < 0
  · rw [if_pos h]; congr 1; omega
  · rw [if_neg h, wr (by omega) (by omega)]; congr 1; omega
theorem ref01_Int_eq {a : Int} (ha : 0 ≤ a) : linhayref01_Int.f a = some (min a 9223372036854775807) := by
  unfold linhayref01_Int.f
  by_cases h : a > 9223372036854775807
  · rw [if_pos h]; congr 1; omega
  · rw [if_neg h, w64 (by omega) (by omega)]; congr 1; omega
end Go.Proofs.Ytkngogjcenmahaa.Facts
