
/- What the printed functions of the package linhayref02 answer: the same as wide's, as arithmetic on Int. -/
import Derived.Test.YtnobdpenncfghaaFactsNum
import Derived.Test.YtnobdpenncfghaaFactsWide
import Derived.Test.YtnobdpenncfghaaPrint3
import Derived.Test.YtnobdpenncfghaaPrint4
namespace Go.Proofs.Ytnobdpenncfghaa.Facts
set_option linter.unusedVariables false
set_option linter.unusedSimpArgs false
open Go.RowKit Go.Proofs.Ytnobdpenncfghaa.Print Go.Proofs.YtnobdpenncfghaaW.PrintWords Go.Proofs.YtnobdpenncfghaaW.PrintLast Go.Proofs.YtnobdpenncfghaaW.PrintMore
theorem ref02_Mul_eq {a b : Int} (ha : 0 ≤ a) (ha' : a < 18446744073709551616) (hb : 0 ≤ b) (hb' : b < 18446744073709551616) : linhayref02_Mul.f a b = some (a * b / 18446744073709551616, a * b % 18446744073709551616) := by
  unfold linhayref02_Mul.f; rw [if_pos ⟨⟨ha, ha'⟩, ⟨hb, hb'⟩⟩]
theorem ref02_Div_bit {d rest rem lo P Q X : Int} (hP : 0 < P) (hQ : 0 < Q) (f63 : P * Q = 9223372036854775808) (hm : 0 ≤ rem) (hm' : rem < P * 2) (hX : X = (lo * d + rest) * (P * 2) + rem) :
    ∃ bit rem' : Int, 0 ≤ bit ∧ bit ≤ 1 ∧ 0 ≤ rem' ∧ rem' < P ∧ Int.tdiv (rem * Q) 9223372036854775808 = bit ∧ IntKind.u64.wrap (2 * (rem * Q)) = rem' * (Q * 2) ∧ X = (2 * (lo * d + rest) + bit) * P + rem' := by
  obtain ⟨bit, hb⟩ : ∃ b, b = rem / P := ⟨_, rfl⟩
  obtain ⟨rem', hr2⟩ : ∃ b, b = rem % P := ⟨_, rfl⟩
  have hsplit : rem = P * bit + rem' := by rw [hb, hr2]; exact (Int.mul_ediv_add_emod rem P).symm
  have hb0 : 0 ≤ bit := by rw [hb]; exact Int.ediv_nonneg hm (by omega)
  have hb1 : bit < 2 := by rw [hb, Int.ediv_lt_iff_lt_mul hP, Int.mul_comm]; exact hm'
  have hn0 : 0 ≤ rem' := by rw [hr2]; exact Int.emod_nonneg _ (by omega)
  have hn1 : rem' < P := by rw [hr2]; exact Int.emod_lt_of_pos _ hP
  have hlow : rem * Q = 9223372036854775808 * bit + rem' * Q := by rw [hsplit, ← f63]; grind
  have hn2 : rem' * Q < 9223372036854775808 := by rw [← f63]; exact Int.mul_lt_mul_of_pos_right hn1 hQ
  have hn3 : 0 ≤ rem' * Q := Int.mul_nonneg hn0 (by omega)
  refine ⟨bit, rem', hb0, by omega, hn0, hn1, ?_, ?_, ?_⟩
  · rw [hlow]
    clear hlow hX hsplit f63 hm' hm hb hr2
    generalize rem' * Q = v at *
    rw [Int.tdiv_eq_ediv_of_nonneg (by omega)]; omega
  · have e : rem' * (Q * 2) = 2 * (rem' * Q) := by rw [← Int.mul_assoc, Int.mul_comm]
    rw [hlow, IntKind.wrap_u64, e]
    clear hlow hX hsplit f63 hm' hm hb hr2 e
    generalize rem' * Q = v at *
    omega
  · rw [hX, hsplit]; grind
theorem ref02_Div_over {d rest bit : Int} (h0 : 9223372036854775808 ≤ rest) (h1 : rest < d) (hd : d < 18446744073709551616) (hb0 : 0 ≤ bit) (hb1 : bit ≤ 1) :
    IntKind.u64.wrap (IntKind.u64.wrap (IntKind.u64.wrap (2 * rest) + bit) - d) = 2 * rest + bit - d := by
  simp only [IntKind.wrap_u64]; omega
theorem ref02_Div_loop (d hi low0 : Int) (hd : 0 < d) (hd' : d < 18446744073709551616) (hh : 0 ≤ hi) (hh' : hi < 18446744073709551616) (X : Int) (j : Nat) : ∀ (k i : Nat) (rest rem lo : Int), i + j = 64 → j < k → 0 ≤ rest → rest < d → 0 ≤ rem → rem < 2 ^ j → 0 ≤ lo → lo < 2 ^ i →
    X = (lo * d + rest) * 2 ^ j + rem → linhayref02_Div.l0 k d rest (rem * 2 ^ i) lo i hi low0 = some (hi / d, X / d, X % d, 0) := by
  induction j with
  | zero =>
    intro k i rest rem lo hij hk hr hr' hm hm' hl hl' hX
    obtain ⟨k, rfl⟩ : ∃ m, k = m + 1 := ⟨k - 1, by omega⟩
    have q0 : 0 ≤ hi / d := Int.ediv_nonneg hh (by omega)
    have q1 : hi / d ≤ hi := Int.ediv_le_self _ hh
    rw [linhayref02_Div.l0]
    rw [if_neg (by omega), if_neg (by omega), Int.tdiv_eq_ediv_of_nonneg hh, nwr q0 (by omega)]
    simp only [Int.pow_zero, Int.mul_one] at hX hm'
    have e : X = rest + d * lo := by
      have : rem = 0 := by omega
      rw [hX, this]; grind
    rw [e, Int.add_mul_ediv_left _ _ (by omega), Int.ediv_eq_zero_of_lt hr hr', Int.add_mul_emod_self_left, Int.emod_eq_of_lt hr hr']
    simp
  | succ j ih =>
    intro k i rest rem lo hij hk hr hr' hm hm' hl hl' hX
    obtain ⟨k, rfl⟩ : ∃ m, k = m + 1 := ⟨k - 1, by omega⟩
    have hij' : i + 1 + j = 64 := by clear hX hm' hl' ih; omega
    have hk' : j < k := by clear hX hm' hl' ih; omega
    have hi64 : (i : Int) < 64 := by clear hX hm' hl' ih; omega
    have hi' : wrap64 ((i : Int) + 1) = ((i + 1 : Nat) : Int) := by
      clear hX hm' hl' ih hij hij'
      rw [nw64 (by omega) (by omega)]; omega
    have hl64 : 2 * lo + 1 < 18446744073709551616 := by
      have hi63 := npow_le (a := i) (b := 63) (by clear hX hm' hl' ih; omega)
      rw [npow63] at hi63
      clear hX hm' ih hij hij'
      omega
    have p1 : (2 : Int) ^ (j + 1) = 2 ^ j * 2 := by rw [npow_add]; rfl
    have p2 : (2 : Int) ^ (i + 1) = 2 ^ i * 2 := by rw [npow_add]; rfl
    have f63 : (2 : Int) ^ j * 2 ^ i = 9223372036854775808 := by rw [← npow_add, show j + i = 63 by clear hX hm' hl' ih; omega, npow63]
    rw [p1] at hm' hX
    obtain ⟨bit, rem', hb0, hb1, hn0, hn1, hbit, hlow', hX'⟩ := ref02_Div_bit (npow_pos j) (npow_pos i) f63 hm hm' hX
    rw [← p2] at hlow'
    have hlo1 : 2 * lo + 1 < 2 ^ (i + 1) := by rw [p2]; clear f63 hX hX' hlow' hbit ih p1 p2 hm'; omega
    clear f63 p1 p2 hX hm hm' hij hk
    have hlo : IntKind.u64.wrap (2 * lo) = 2 * lo := nwr (by omega) (by omega)
    have hlo2 : 0 ≤ 2 * lo + 1 := by omega
    have sub : d ≤ 2 * rest + bit → linhayref02_Div.l0 k d (2 * rest + bit - d) (rem' * 2 ^ (i + 1)) (2 * lo + 1) ((i + 1 : Nat) : Int) hi low0 = some (hi / d, X / d, X % d, 0) := by
      intro hge
      have c1 : 0 ≤ 2 * rest + bit - d := by omega
      have c2 : 2 * rest + bit - d < d := by omega
      have c3 : X = ((2 * lo + 1) * d + (2 * rest + bit - d)) * 2 ^ j + rem' := by rw [hX']; grind
      exact ih k (i + 1) (2 * rest + bit - d) rem' (2 * lo + 1) hij' hk' c1 c2 hn0 hn1 hlo2 hlo1 c3
    have nosub : 2 * rest + bit < d → linhayref02_Div.l0 k d (2 * rest + bit) (rem' * 2 ^ (i + 1)) (2 * lo) ((i + 1 : Nat) : Int) hi low0 = some (hi / d, X / d, X % d, 0) := by
      intro c2
      have c1 : 0 ≤ 2 * rest + bit := by omega
      have c3 : X = ((2 * lo) * d + (2 * rest + bit)) * 2 ^ j + rem' := by rw [hX']; grind
      have c4 : 0 ≤ 2 * lo := by omega
      have c5 : 2 * lo < 2 ^ (i + 1) := by omega
      exact ih k (i + 1) (2 * rest + bit) rem' (2 * lo) hij' hk' c1 c2 hn0 hn1 c4 c5 c3
    clear ih hX' hn1 hlo1
    rw [linhayref02_Div.l0]
    have hbw : IntKind.u64.wrap bit = bit := nwr hb0 (by omega)
    rw [if_pos hi64, hbit, hlow', hlo, hi', hbw]
    clear hbw
    clear hbit hlow' hi' hlo
    by_cases ho : rest ≥ 9223372036854775808
    · rw [if_pos ho, ref02_Div_over ho hr' hd' hb0 hb1, nwr (n := 2 * lo + 1) hlo2 hl64]
      exact sub (by omega)
    · rw [if_neg ho, nwr (n := 2 * rest) (by omega) (by omega), nwr (n := 2 * rest + bit) (by omega) (by omega)]
      by_cases hge : 2 * rest + bit ≥ d
      · rw [if_pos hge, nwr (n := 2 * rest + bit - d) (by omega) (by omega), nwr (n := 2 * lo + 1) hlo2 hl64]
        exact sub hge
      · rw [if_neg hge]
        exact nosub (by omega)
theorem ref02_Div_zero (k : Nat) (h l : Int) : linhayref02_Div.f k h l 0 = some (0, 0, 0, 20) := by
  unfold linhayref02_Div.f; rw [if_pos rfl]
theorem ref02_Div_eq (k : Nat) (hk : 65 ≤ k) {h l d : Int} (hh : 0 ≤ h) (hh' : h < 18446744073709551616) (hd : 0 < d) (hd' : d < 18446744073709551616) (hl : 0 ≤ l) (hl' : l < 18446744073709551616) :
    linhayref02_Div.f k h l d = some ((h * 18446744073709551616 + l) / d / 18446744073709551616, (h * 18446744073709551616 + l) / d % 18446744073709551616, (h * 18446744073709551616 + l) % d, 0) := by
  have m0 := Int.emod_nonneg h (b := d) (by omega)
  have m1 := Int.emod_lt_of_pos h hd
  unfold linhayref02_Div.f
  rw [if_neg (by omega), Int.tmod_eq_emod_of_nonneg hh]
  obtain ⟨e1, e2, e3⟩ := div_words hh hd hl hl'
  rw [e1, e2, e3]
  have := ref02_Div_loop d h l hd hd' hh hh' (h % d * 18446744073709551616 + l) 64 k 0 (h % d) l 0 (by omega) (by omega) m0 m1 hl (by rw [npow64]; exact hl') (by decide) (by decide) (by rw [npow64]; omega)
  rw [Int.pow_zero, Int.mul_one] at this
  exact this
theorem ref02_Cmp_eq (k : Nat) (hk : 1 ≤ k) {a b c d : Int} (hb : 0 ≤ b) (hb' : b < 18446744073709551616) (hd : 0 ≤ d) (hd' : d < 18446744073709551616) :
    linhayref02_Cmp.f k a b c d = some (scmp (a * 18446744073709551616 + b) (c * 18446744073709551616 + d)) := by
  obtain ⟨m, rfl⟩ : ∃ m, k = m + 1 := ⟨k - 1, by omega⟩
  rw [scmp_words hb hb' hd hd']
  unfold linhayref02_Cmp.f
  simp only [linhayref02_Cmp.j0]
  by_cases h1 : a < c
  · simp [h1]
  · by_cases h2 : a = c
    · subst h2
      by_cases h3 : b < d
      · simp [scmp, h3]
      · by_cases h4 : b = d
        · subst h4; simp [scmp]
        · have : d < b := by omega
          simp [scmp, h3, h4, this]
    · have : c < a := by omega
      simp [h1, h2, this]
theorem ref02_Add_eq {a b c d : Int} (ha : 0 ≤ a) (ha' : a < 18446744073709551616) (hb : 0 ≤ b) (hb' : b < 18446744073709551616) (hc : 0 ≤ c) (hc' : c < 18446744073709551616) (hd : 0 ≤ d) (hd' : d < 18446744073709551616) :
    linhayref02_Add.f a b c d = some ((a + c + (b + d) / 18446744073709551616) % 18446744073709551616, (b + d) % 18446744073709551616, decide (0 < (a + c + (b + d) / 18446744073709551616) / 18446744073709551616)) := by
  unfold linhayref02_Add.f; rw [if_pos ⟨⟨⟨ha, ha'⟩, ⟨hb, hb'⟩⟩, ⟨⟨hc, hc'⟩, ⟨hd, hd'⟩⟩⟩]
end Go.Proofs.Ytnobdpenncfghaa.Facts
