
/- Plain facts about the printed functions of the package word: what each answers, as arithmetic on Int. No condition beyond the numbers' own range. -/
import Derived.Test.YtiokopkglmaffaaPrint2
namespace Go.Proofs.Ytiokopkglmaffaa.Facts
set_option linter.unusedVariables false
set_option linter.unusedSimpArgs false
open Go.RowKit Go.Proofs.Ytiokopkglmaffaa.Print Go.Proofs.YtiokopkglmaffaaW.PrintWords Go.Proofs.YtiokopkglmaffaaW.PrintLast Go.Proofs.YtiokopkglmaffaaW.PrintMore

theorem wf_u64 {a : Int} (h : (Lit.int .u64 a).wf = true) : 0 ≤ a ∧ a < 18446744073709551616 := by
  have hmin : IntKind.u64.min = 0 := rfl
  have hmax : IntKind.u64.max = 18446744073709551615 := rfl
  simp only [Lit.wf, Bool.and_eq_true, decide_eq_true_eq] at h; omega
theorem wf_i64 {a : Int} (h : (Lit.int .i64 a).wf = true) : -9223372036854775808 ≤ a ∧ a ≤ 9223372036854775807 := by
  have hmin : IntKind.i64.min = -9223372036854775808 := rfl
  have hmax : IntKind.i64.max = 9223372036854775807 := rfl
  simp only [Lit.wf, Bool.and_eq_true, decide_eq_true_eq] at h; omega
theorem wf_u8 {a : Int} (h : (Lit.int .u8 a).wf = true) : 0 ≤ a ∧ a ≤ 255 := by
  have hmin : IntKind.u8.min = 0 := rfl
  have hmax : IntKind.u8.max = 255 := rfl
  simp only [Lit.wf, Bool.and_eq_true, decide_eq_true_eq] at h; omega
theorem wf_u16 {a : Int} (h : (Lit.int .u16 a).wf = true) : 0 ≤ a ∧ a ≤ 65535 := by
  have hmin : IntKind.u16.min = 0 := rfl
  have hmax : IntKind.u16.max = 65535 := rfl
  simp only [Lit.wf, Bool.and_eq_true, decide_eq_true_eq] at h; omega
theorem wf_u32 {a : Int} (h : (Lit.int .u32 a).wf = true) : 0 ≤ a ∧ a ≤ 4294967295 := by
  have hmin : IntKind.u32.min = 0 := rfl
  have hmax : IntKind.u32.max = 4294967295 := rfl
  simp only [Lit.wf, Bool.and_eq_true, decide_eq_true_eq] at h; omega
theorem wr {n : Int} (h0 : 0 ≤ n) (h1 : n < 18446744073709551616) : IntKind.u64.wrap n = n := by rw [IntKind.wrap_u64]; omega
theorem w64 {n : Int} (h0 : -9223372036854775808 ≤ n) (h1 : n ≤ 9223372036854775807) : wrap64 n = n := by unfold wrap64; omega

/-- Powers of two. -/
theorem pow_pos (n : Nat) : (0 : Int) < 2 ^ n := Int.pow_pos (by decide)
theorem pow_add (a b : Nat) : (2 : Int) ^ (a + b) = 2 ^ a * 2 ^ b := Int.pow_add 2 a b
theorem pow_le {a b : Nat} (h : a ≤ b) : (2 : Int) ^ a ≤ 2 ^ b := by
  obtain ⟨c, rfl⟩ := Nat.le.dest h
  rw [pow_add]
  have h1 := pow_pos a
  have h2 := pow_pos c
  have : (2 : Int) ^ a * 1 ≤ 2 ^ a * 2 ^ c := Int.mul_le_mul_of_nonneg_left (by omega) (by omega)
  omega
theorem pow64 : (2 : Int) ^ 64 = 18446744073709551616 := by decide

theorem word_Plus_eq {a b : Int} (ha : 0 ≤ a) (hb : 0 ≤ b) : word_Plus.f a b = some (if a + b < 18446744073709551616 then (a + b, 0) else (0, 10)) := by
  unfold word_Plus.f; rw [if_pos ha, if_pos hb]; split <;> rfl
theorem word_Add_eq {a b : Int} (ha : 0 ≤ a) (hb : 0 ≤ b) : word_Add.f a b = some (min (a + b) 18446744073709551615) := by
  unfold word_Add.f; rw [word_Plus_eq ha hb]
  by_cases hc : a + b < 18446744073709551616
  · rw [if_pos hc]; simp [word_held_uint64.f]; omega
  · rw [if_neg hc]; simp [word_held_uint64.f]; omega
theorem u64_bits : IntKind.u64.bits = 64 := rfl
theorem word_Shl_eq {a n : Int} (ha : 0 ≤ a) (ha' : a < 18446744073709551616) (hn : 0 ≤ n) (hn' : n < 18446744073709551616) :
    word_Shl.f a n = some (min (a * 2 ^ n.toNat) 18446744073709551615) := by
  unfold word_Shl.f; rw [if_pos hn]
  obtain ⟨m, rfl⟩ := Int.eq_ofNat_of_zero_le hn
  simp only [Int.toNat_natCast]
  by_cases hz : a > 0
  · rw [if_pos hz]
    by_cases hb : (m : Int) ≥ 64
    · rw [if_pos hb]
      simp only [word_held_uint64.f, if_true, Option.bind_some]
      have h1 := pow_le (a := 64) (b := m) (by omega)
      rw [pow64] at h1
      have h2 : 1 * 2 ^ m ≤ a * 2 ^ m := Int.mul_le_mul_of_nonneg_right (by omega) (by omega)
      congr 1; omega
    · rw [if_neg hb, wr (by omega) (by omega), if_pos (by omega)]
      have e1 : (64 - (m : Int)).toNat = 64 - m := by omega
      have e2 : (2 : Int) ^ m * 2 ^ (64 - m) = 18446744073709551616 := by rw [← pow_add, show m + (64 - m) = 64 by omega, pow64]
      have hp := pow_pos m
      have hq := pow_pos (64 - m)
      have hsh : shr .u64 a (64 - (m : Int)) > 0 ↔ ¬ a * 2 ^ m < 18446744073709551616 := by
        unfold shr
        rw [e1, u64_bits, Nat.min_eq_left (by omega), gt_iff_lt, Int.lt_iff_add_one_le, Int.le_ediv_iff_mul_le hq, ← e2, Int.mul_comm a, Int.not_lt, Int.mul_le_mul_left hp]
        simp
      have hsl : a * 2 ^ m < 18446744073709551616 → shl .u64 a m = a * 2 ^ m := by
        intro h
        unfold shl
        rw [u64_bits, Int.toNat_natCast, Nat.min_eq_left (by omega)]
        exact wr (Int.mul_nonneg ha (by omega)) h
      by_cases hc : a * 2 ^ m < 18446744073709551616
      · rw [decide_eq_false (by rw [hsh]; simpa using hc), hsl hc]
        simp only [word_held_uint64.f, Option.bind_some]
        simp; omega
      · rw [decide_eq_true (by rw [hsh]; exact hc)]
        simp only [word_held_uint64.f, Option.bind_some]
        simp; omega
  · rw [if_neg hz]
    obtain rfl : a = 0 := by omega
    simp [word_held_uint64.f, shl, IntKind.wrap_u64]; omega
end Go.Proofs.Ytiokopkglmaffaa.Facts
