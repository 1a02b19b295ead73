
/- What the printed functions of the package linhayref02 answer: the same as wide's, as arithmetic on Int. -/
import Derived.Test.YthpkiacaemhkkaaDoorFactsNum
import Derived.Test.YthpkiacaemhkkaaDoorFactsWide
import Derived.Test.YthpkiacaemhkkaaDoorPrint3
import Derived.Test.YthpkiacaemhkkaaDoorPrint4
namespace Go.Proofs.YthpkiacaemhkkaaDoor.Facts
set_option linter.unusedVariables false
set_option linter.unusedSimpArgs false
open Go.RowKit Go.Proofs.YthpkiacaemhkkaaDoor.Print Go.Proofs.YthpkiacaemhkkaaDoorW.PrintWords Go.Proofs.YthpkiacaemhkkaaDoorW.PrintLast Go.Proofs.YthpkiacaemhkkaaDoorW.PrintMore
theorem ref02_Mul_eq {a b : Int} (ha : 0 ≤ a) (ha' : a < 18446744073709551616) (hb : 0 ≤ b) (hb' : b < 18446744073709551616) : linhayref02_Mul.f a b = some (a * b / 18446744073709551616, a * b % 18446744073709551616) := by
  unfold linhayref02_Mul.f; rw [if_pos ⟨⟨ha, ha'⟩, ⟨hb, hb'⟩⟩]
theorem ref02_Div_bit {d rest rem lo P Q X : Int} (hP : 0 < P) (hQ : 0 < Q) (f63 : P * Q = 9223372036854775808) (hm : 0 ≤ rem) (hm' : rem < P * 2) (hX : X = (lo * d + rest) * (P * 2) + rem) :
    ∃ bit rem' : Int, 0 ≤ bit ∧ bit ≤ 1 ∧ 0 ≤ rem' ∧ rem' < P ∧ Int.tdiv (rem * Q) 9223372036854775808 = bit ∧ IntKind.u64.wrap (2 * (rem * Q)) = rem' * (Q * 2) ∧ X = (2 * (lo * d + rest) + bit) * P + rem' := by
  obtain ⟨bit, hb⟩ : ∃ b, b = rem / P := ⟨_, rfl⟩
  obtain ⟨rem', hr2⟩ : ∃ b, b = rem % P := ⟨_, rfl⟩
  have hsplit : rem = P * bit + rem' := by rw [hb, hr2]; exact (Int.mul_ediv_add_emod rem P).symm
  have hb0 : 0 ≤ bit := by rw [hb]; exact Int.ediv_nonneg hm (by omega)
  have hb1 : bit < 2 := by rw [hb, Int.ediv_lt_iff_lt_mul hP, Int.mul_comm]; exact hm'
  have hn0 : 0 ≤ rem' := by rw [hr2]; exact Int.emod_nonneg _ (by omega)
  have hn1 : rem' < P := by rw [hr2]; exact Int.emod_lt_of_pos _ hP
  have hlow : rem * Q = 9223372036854775808 * bit + rem' * Q := by rw [hsplit, ← f63]; grind
  have hn2 : rem' * Q < 9223372036854775808 := by rw [← f63]; exact Int.mul_lt_mul_of_pos_right hn1 hQ
  have hn3 : 0 ≤ rem' * Q := Int.mul_nonneg hn0 (by omega)
  refine ⟨bit, rem', hb0, by omega, hn0, hn1, ?_, ?_, ?_⟩
  · rw [hlow]
    clear hlow hX hsplit f63 hm' hm hb hr2
    generalize rem' * Q = v at *
    rw [Int.tdiv_eq_ediv_of_nonneg (by omega)]; omega
  · have e : rem' * (Q * 2) = 2 * (rem' * Q) := by rw [← Int.mul_assoc, Int.mul_comm]
    rw [hlow, IntKind.wrap_u64, e]
    clear hlow hX hsplit f63 hm' hm hb hr2 e
    generalize rem' * Q = v at *
    omega
  · rw [hX, hsplit]; grind
theorem ref02_Div_over {d rest bit : Int} (h0 : 9223372036854775808 ≤ rest) (h1 : rest < d) (hd : d < 18446744073709551616) (hb0 : 0 ≤ bit) (hb1 : bit ≤ 1) :
    IntKind.u64.wrap (IntKind.u64.wrap (IntKind.u64.wrap (2 * rest) + bit) - d) = 2 * rest + bit - d := by
  simp only [IntKind.wrap_u64]; omega
theorem ref02_Div_loop (d hi low0 : Int) (hd : 0 < d) (hd' : d < 18446744073709551616) (hh : 0 ≤ hi) (hh' : hi < 18446744073709551616) (X : Int) (j : Nat) : ∀ (k i : Nat) (rest rem lo : Int), i + j = 64 → j < k → 0 ≤ rest → rest < d → 0 ≤ rem → rem < 2 ^ j → 0 ≤ lo → lo < 2 ^ i →
    X = (lo * d + rest) * 2 ^ j + rem → linhayref02_Div.l0 k d rest (rem * 2 ^ i) lo i hi low0 = some (hi / d, X / d, X % d, 0) := by
  induction j with
  | zero =>
    intro k i rest rem lo hij hk hr hr' hm hm' hl hl' hX
    obtain ⟨k, rfl⟩ : ∃ m, k = m + 1 := ⟨k - 1, by omega⟩
    have q0 : 0 ≤ hi / d := Int.ediv_nonneg hh (by omega)
    have q1 : hi / d ≤ hi := Int.ediv_le_self _ hh
    rw [linhayref02_Div.l0]
    rw [if_neg (by omega), if_neg (by omega), Int.tdiv_eq_ediv_of_nonneg hh, nwr q0 (by omega)]
    simp only [Int.pow_zero, Int.mul_one] at hX hm'
    have e : X = rest + d * lo := by
      have : rem = 0 := by omega
      rw [hX, this]; grind
    rw [e, Int.add_mul_ediv_left _ _ (by omega), Int.ediv_eq_zero_of_lt hr hr', Int.add_mul_emod_self_left, Int.emod_eq_of_lt hr hr']
    simp
  | succ j ih =>
    intro k i rest rem lo hij hk hr hr' hm hm' hl hl' hX
    obtain ⟨k, rfl⟩ : ∃ m, k = m + 1 := ⟨k - 1, by omega⟩
    have hij' : i + 1 + j = 64 := by clear hX hm' hl' ih; omega
    have hk' : j < k := by clear hX hm' hl' ih; omega
    have hi64 : (i : Int) < 64 := by clear hX hm' hl' ih; omega
    have hi' : wrap64 ((i : Int) + 1) = ((i + 1 : Nat) : Int) := by
      clear hX hm' hl' ih hij hij'
      rw [nw64 (by omega) (by omega)]; omega
    have hl64 : 2 * lo + 1 < 18446744073709551616 := by
      have hi63 := npow_le (a := i) (b := 63) (by clear hX hm' hl' ih; omega)
      rw [npow63] at hi63
      clear hX hm' ih hij hij'
      omega
    have p1 : (2 : Int) ^ (j + 1) = 2 ^ j * 2 := by rw [npow_add]; rfl
    have p2 : (2 : Int) ^ (i + 1) = 2 ^ i * 2 := by rw [npow_add]; rfl
    have f63 : (2 : Int) ^ j * 2 ^ i = 9223372036854775808 := by rw [← npow_add, show j + i = 63 by clear hX hm' hl' ih; omega, npow63]
    rw [p1] at hm' hX
    obtain ⟨bit, rem', hb0, hb1, hn0, hn1, hbit, hlow', hX'⟩ := ref02_Div_bit (npow_pos j) (npow_pos i) f63 hm hm' hX
    rw [← p2] at hlow'
    have hlo1 : 2 * lo + 1 < 2 ^ (i + 1) := by rw [p2]; clear f63 hX hX' hlow' hbit ih p1 p2 hm'; omega
    clear f63 p1 p2 hX hm hm' hij hk
    have hlo : IntKind.u64.wrap (2 * lo) = 2 * lo := nwr (by omega) (by omega)
    have hlo2 : 0 ≤ 2 * lo + 1 := by omega
    have sub : d ≤ 2 * rest + bit → linhayref02_Div.l0 k d (2 * rest + bit - d) (rem' * 2 ^ (i + 1)) (2 * lo + 1) ((i + 1 : Nat) : Int) hi low0 = some (hi / d, X / d, X % d, 0) := by
      intro hge
      have c1 : 0 ≤ 2 * rest + bit - d := by omega
      have c2 : 2 * rest + bit - d < d := by omega
      have c3 : X = ((2 * lo + 1) * d + (2 * rest + bit - d)) * 2 ^ j + rem' := by rw [hX']; grind
      exact ih k (i + 1) (2 * rest + bit - d) rem' (2 * lo + 1) hij' hk' c1 c2 hn0 hn1 hlo2 hlo1 c3
    have nosub : 2 * rest + bit < d → linhayref02_Div.l0 k d (2 * rest + bit) (rem' * 2 ^ (i + 1)) (2 * lo) ((i + 1 : Nat) : Int) hi low0 = some (hi / d, X / d, X % d, 0) := by
      intro c2
      have c1 : 0 ≤ 2 * rest + bit := by omega
      have c3 : X = ((2 * lo) * d + (2 * rest + bit)) * 2 ^ j + rem' := by rw [hX']; grind
      have c4 : 0 ≤ 2 * lo := by omega
      have c5 : 2 * lo < 2 ^ (i + 1) := by omega
      exact ih k (i + 1) (2 * rest + bit) rem' (2 * lo) hij' hk' c1 c2 hn0 hn1 c4 c5 c3
    clear ih hX' hn1 hlo1
    rw [linhayref02_Div.l0]
    have hbw : IntKind.u64.wrap bit = bit := nwr hb0 (by omega)
    rw [if_pos hi64, hbit, hlow', hlo, hi', hbw]
    clear hbw
    clear hbit hlow' hi' hlo
    by_cases ho : rest ≥ 9223372036854775808
    · rw [if_pos ho, ref02_Div_over ho hr' hd' hb0 hb1, nwr (n := 2 * lo + 1) hlo2 hl64]
      exact sub (by omega)
    · rw [if_neg ho, nwr (n := 2 * rest) (by omega) (by omega), nwr (n := 2 * rest + bit) (by omega) (by omega)]
      by_cases hge : 2 * rest + bit ≥ d
      · rw [if_pos hge, nwr (n := 2 * rest + bit - d) (by omega) (by omega), nwr (n := 2 * lo + 1) hlo2 hl64]
        exact sub hge
      · rw [if_neg hge]
        exact nosub (by omega)
theorem ref02_Div_zero (k : Nat) (h l : Int) : linhayref02_Div.f k h l 0 = some (0, 0, 0, 20) := by
  unfold linhayref02_Div.f; rw [if_pos rfl]
theorem ref02_Div_eq (k : Nat) (hk : 65 ≤ k) {h l d : Int} (hh : 0 ≤ h) (hh' : h < 18446744073709551616) (hd : 0 < d) (hd' : d < 18446744073709551616) (hl : 0 ≤ l) (hl' : l < 18446744073709551616) :
    linhayref02_Div.f k h l d = some ((h * 18446744073709551616 + l) / d / 18446744073709551616, (h * 18446744073709551616 + l) / d % 18446744073709551616, (h * 18446744073709551616 + l) % d, 0) := by
  have m0 := Int.emod_nonneg h (b := d) (by omega)
  have m1 := Int.emod_lt_of_pos h hd
  unfold linhayref02_Div.f
  rw [if_neg (by omega), Int.tmod_eq_emod_of_nonneg hh]
  obtain ⟨e1, e2, e3⟩ := div_words hh hd hl hl'
  rw [e1, e2, e3]
  have := ref02_Div_loop d h l hd hd' hh hh' (h % d * 18446744073709551616 + l) 64 k 0 (h % d) l 0 (by omega) (by omega) m0 m1 hl (by rw [npow64]; exact hl') (by decide) (by decide) (by rw [npow64]; omega)
  rw [Int.pow_zero, Int.mul_one] at this
  exact this
theorem ref02_Add_eq {a b c d : Int} (ha : 0 ≤ a) (ha' : a < 18446744073709551616) (hb : 0 ≤ b) (hb' : b < 18446744073709551616) (hc : 0 ≤ c) (hc' : c < 18446744073709551616) (hd : 0 ≤ d) (hd' : d < 18446744073709551616) :
    linhayref02_Add.f a b c d = some ((a + c + (b + d) / 18446744073709551616) % 18446744073709551616, (b + d) % 18446744073709551616, decide (0 < (a + c + (b + d) / 18446744073709551616) / 18446744073709551616)) := by
  unfold linhayref02_Add.f; rw [if_pos ⟨⟨⟨ha, ha'⟩, ⟨hb, hb'⟩⟩, ⟨⟨hc, hc'⟩, ⟨hd, hd'⟩⟩⟩]
theorem ref02_Shr_loop (n : Nat) (hn : (n : Int) < 18446744073709551616) (j : Nat) : ∀ (k i : Nat) (h l : Int), 0 ≤ h → h < 18446744073709551616 → 0 ≤ l → l < 18446744073709551616 → i ≤ 128 → i ≤ n → min n 128 - i = j → j < k →
    linhayref02_Shr.l0 k n i h l = some ((h * 18446744073709551616 + l) / 2 ^ j / 18446744073709551616, (h * 18446744073709551616 + l) / 2 ^ j % 18446744073709551616) := by
  induction j with
  | zero =>
    intro k i h l hh hh' hl hl' h1 h2 hj hk
    obtain ⟨k, rfl⟩ : ∃ m, k = m + 1 := ⟨k - 1, by omega⟩
    have e : (some (h, l) : Option (Int × Int)) = some ((h * 18446744073709551616 + l) / 2 ^ 0 / 18446744073709551616, (h * 18446744073709551616 + l) / 2 ^ 0 % 18446744073709551616) := by
      rw [Int.pow_zero, Int.ediv_one]
      congr 2 <;> omega
    rw [linhayref02_Shr.l0, ← e]
    by_cases hc : (i : Int) < n
    · rw [if_pos hc, if_neg (by omega)]
    · rw [if_neg hc]
  | succ j ih =>
    intro k i h l hh hh' hl hl' h1 h2 hj hk
    obtain ⟨k, rfl⟩ : ∃ m, k = m + 1 := ⟨k - 1, by omega⟩
    rw [linhayref02_Shr.l0, if_pos (by omega), if_pos (by omega), Int.tdiv_eq_ediv_of_nonneg hh, Int.tdiv_eq_ediv_of_nonneg hl, Int.tmod_eq_emod_of_nonneg hh]
    rw [nwr (n := h / 2) (by omega) (by omega), nwr (n := l / 2) (by omega) (by omega), nwr (n := h % 2 * 9223372036854775808) (by omega) (by omega), nwr (n := l / 2 + h % 2 * 9223372036854775808) (by omega) (by omega), nwr (n := (i : Int) + 1) (by omega) (by omega)]
    have := ih k (i + 1) (h / 2) (l / 2 + h % 2 * 9223372036854775808) (by omega) (by omega) (by omega) (by omega) (by omega) (by omega) (by omega) (by omega)
    rw [show ((i : Int) + 1) = ((i + 1 : Nat) : Int) by omega, this]
    have e : h / 2 * 18446744073709551616 + (l / 2 + h % 2 * 9223372036854775808) = (h * 18446744073709551616 + l) / 2 := by omega
    have e2 : (h * 18446744073709551616 + l) / 2 / 2 ^ j = (h * 18446744073709551616 + l) / 2 ^ (j + 1) := by
      rw [Nat.add_comm j 1, npow_add, show (2 : Int) ^ 1 = 2 by decide, Int.ediv_ediv_of_nonneg (by decide)]
    rw [e, e2]
theorem ref02_Shr_eq (k : Nat) (hk : 129 ≤ k) {h l n : Int} (hh : 0 ≤ h) (hh' : h < 18446744073709551616) (hl : 0 ≤ l) (hl' : l < 18446744073709551616) (hn : 0 ≤ n) (hn' : n < 18446744073709551616) :
    linhayref02_Shr.f k h l n = some ((h * 18446744073709551616 + l) / 2 ^ n.toNat / 18446744073709551616, (h * 18446744073709551616 + l) / 2 ^ n.toNat % 18446744073709551616) := by
  obtain ⟨n, rfl⟩ := Int.eq_ofNat_of_zero_le hn
  simp only [Int.toNat_natCast]
  unfold linhayref02_Shr.f
  have := ref02_Shr_loop n hn' (min n 128) k 0 h l hh hh' hl hl' (by omega) (by omega) (by omega) (by omega)
  rw [show ((0 : Nat) : Int) = 0 by rfl] at this
  rw [this]
  by_cases h128 : n ≤ 128
  · rw [Nat.min_eq_left h128]
  · rw [Nat.min_eq_right (by omega)]
    have h1 := npow_le (a := 128) (b := n) (by omega)
    have e128 : (2 : Int) ^ 128 = 340282366920938463463374607431768211456 := by decide
    rw [e128] at h1 ⊢
    rw [Int.ediv_eq_zero_of_lt (a := h * 18446744073709551616 + l) (by omega) (by omega), Int.ediv_eq_zero_of_lt (a := h * 18446744073709551616 + l) (by omega) (by omega)]
end Go.Proofs.YthpkiacaemhkkaaDoor.Facts
