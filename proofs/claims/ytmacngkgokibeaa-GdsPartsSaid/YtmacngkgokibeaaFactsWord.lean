
/- Plain facts about the printed functions of the package word: what each answers, as arithmetic on Int. No condition beyond the numbers' own range. -/
import Derived.Test.YtmacngkgokibeaaPrint1
import Derived.Test.YtmacngkgokibeaaPrint3
import Derived.Test.YtmacngkgokibeaaPrint5
import Derived.Test.YtmacngkgokibeaaPrint6
namespace Go.Proofs.Ytmacngkgokibeaa.Facts
set_option linter.unusedVariables false
set_option linter.unusedSimpArgs false
open Go.RowKit Go.Proofs.Ytmacngkgokibeaa.Print Go.Proofs.YtmacngkgokibeaaW.PrintWords Go.Proofs.YtmacngkgokibeaaW.PrintLast Go.Proofs.YtmacngkgokibeaaW.PrintMore

theorem wf_u64 {a : Int} (h : (Lit.int .u64 a).wf = true) : 0 ≤ a ∧ a < 18446744073709551616 := by
  have hmin : IntKind.u64.min = 0 := rfl
  have hmax : IntKind.u64.max = 18446744073709551615 := rfl
  simp only [Lit.wf, Bool.and_eq_true, decide_eq_true_eq] at h; omega
theorem wf_i64 {a : Int} (h : (Lit.int .i64 a).wf = true) : -9223372036854775808 ≤ a ∧ a ≤ 9223372036854775807 := by
  have hmin : IntKind.i64.min = -9223372036854775808 := rfl
  have hmax : IntKind.i64.max = 9223372036854775807 := rfl
  simp only [Lit.wf, Bool.and_eq_true, decide_eq_true_eq] at h; omega
theorem wf_u8 {a : Int} (h : (Lit.int .u8 a).wf = true) : 0 ≤ a ∧ a ≤ 255 := by
  have hmin : IntKind.u8.min = 0 := rfl
  have hmax : IntKind.u8.max = 255 := rfl
  simp only [Lit.wf, Bool.and_eq_true, decide_eq_true_eq] at h; omega
theorem wf_u16 {a : Int} (h : (Lit.int .u16 a).wf = true) : 0 ≤ a ∧ a ≤ 65535 := by
  have hmin : IntKind.u16.min = 0 := rfl
  have hmax : IntKind.u16.max = 65535 := rfl
  simp only [Lit.wf, Bool.and_eq_true, decide_eq_true_eq] at h; omega
theorem wf_u32 {a : Int} (h : (Lit.int .u32 a).wf = true) : 0 ≤ a ∧ a ≤ 4294967295 := by
  have hmin : IntKind.u32.min = 0 := rfl
  have hmax : IntKind.u32.max = 4294967295 := rfl
  simp only [Lit.wf, Bool.and_eq_true, decide_eq_true_eq] at h; omega
theorem wr {n : Int} (h0 : 0 ≤ n) (h1 : n < 18446744073709551616) : IntKind.u64.wrap n = n := by rw [IntKind.wrap_u64]; omega
theorem w64 {n : Int} (h0 : -9223372036854775808 ≤ n) (h1 : n ≤ 9223372036854775807) : wrap64 n = n := by unfold wrap64; omega

/-- Powers of two. -/
theorem pow_pos (n : Nat) : (0 : Int) < 2 ^ n := Int.pow_pos (by decide)
theorem pow_add (a b : Nat) : (2 : Int) ^ (a + b) = 2 ^ a * 2 ^ b := Int.pow_add 2 a b
theorem pow_le {a b : Nat} (h : a ≤ b) : (2 : Int) ^ a ≤ 2 ^ b := by
  obtain ⟨c, rfl⟩ := Nat.le.dest h
  rw [pow_add]
  have h1 := pow_pos a
  have h2 := pow_pos c
  have : (2 : Int) ^ a * 1 ≤ 2 ^ a * 2 ^ c := Int.mul_le_mul_of_nonneg_left (by omega) (by omega)
  omega
theorem pow64 : (2 : Int) ^ 64 = 18446744073709551616 := by decide

theorem word_Plus_eq {a b : Int} (ha : 0 ≤ a) (hb : 0 ≤ b) : word_Plus.f a b = some (if a + b < 18446744073709551616 then (a + b, 0) else (0, 10)) := by
  unfold word_Plus.f; rw [if_pos ha, if_pos hb]; split <;> rfl
theorem word_Times_eq {a b : Int} (ha : 0 ≤ a) (ha' : a < 18446744073709551616) (hb : 0 ≤ b) (hb' : b < 18446744073709551616) :
    word_Times.f a b = some (if a * b < 18446744073709551616 then (a * b, 0) else (0, 10)) := by
  have h := Int.mul_nonneg ha hb
  unfold word_Times.f bits_Mul64.f; rw [if_pos ⟨⟨ha, ha'⟩, ⟨hb, hb'⟩⟩]
  simp only [Option.bind_some]
  by_cases hc : a * b < 18446744073709551616
  · rw [if_pos hc, if_neg (by omega)]
    have : a * b % 18446744073709551616 = a * b := by omega
    rw [this]
  · rw [if_neg hc, if_pos (by omega)]
theorem word_Add_eq {a b : Int} (ha : 0 ≤ a) (hb : 0 ≤ b) : word_Add.f a b = some (min (a + b) 18446744073709551615) := by
  unfold word_Add.f; rw [word_Plus_eq ha hb]
  by_cases hc : a + b < 18446744073709551616
  · rw [if_pos hc]; simp [word_held_uint64.f]; omega
  · rw [if_neg hc]; simp [word_held_uint64.f]; omega
theorem word_Sub_eq {a b : Int} (ha : 0 ≤ a) (ha' : a < 18446744073709551616) (hb : 0 ≤ b) : word_Sub.f a b = some (max (a - b) 0) := by
  unfold word_Sub.f mn
  congr 1
  split
  · rw [wr (by omega) (by omega)]; omega
  · rw [wr (by omega) (by omega)]; omega
theorem word_Mul_eq {a b : Int} (ha : 0 ≤ a) (ha' : a < 18446744073709551616) (hb : 0 ≤ b) (hb' : b < 18446744073709551616) :
    word_Mul.f a b = some (min (a * b) 18446744073709551615) := by
  unfold word_Mul.f; rw [word_Times_eq ha ha' hb hb']
  by_cases hc : a * b < 18446744073709551616
  · rw [if_pos hc]; simp [word_held_uint64.f]; omega
  · rw [if_neg hc]; simp [word_held_uint64.f]; omega
theorem u64_bits : IntKind.u64.bits = 64 := rfl
theorem word_Of_eq {i : Int} (h1 : i ≤ 9223372036854775807) : word_Of.f i = some (max i 0) := by
  unfold word_Of.f word_held_int.f
  by_cases h : i < 0
  · simp [h, IntKind.wrap_u64]; omega
  · simp [h]; rw [wr (by omega) (by omega)]; omega
end Go.Proofs.Ytmacngkgokibeaa.Facts
