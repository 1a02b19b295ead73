
/- Plain arithmetic, without any Go in sight: numbers of 64 bits, shifts, the length in bits, division of two words. No condition beyond what each theorem says. -/
import Derived.WalkKit
import Derived.ProofKit
import Derived.Lib.BitFns
import Derived.Laws.Bits64b
import Derived.Shelf.Bits.Mul64
import Derived.Test.YtiokopkglmaffaaWMore
namespace Go.Proofs.Ytiokopkglmaffaa.Facts
set_option linter.unusedVariables false
set_option linter.unusedSimpArgs false
open Go.RowKit Go.Proofs.YtiokopkglmaffaaW.PrintWords Go.Proofs.YtiokopkglmaffaaW.PrintLast Go.Proofs.YtiokopkglmaffaaW.PrintMore

theorem nwf_u64 {a : Int} (h : (Lit.int .u64 a).wf = true) : 0 ≤ a ∧ a < 18446744073709551616 := by
  have hmin : IntKind.u64.min = 0 := rfl
  have hmax : IntKind.u64.max = 18446744073709551615 := rfl
  simp only [Lit.wf, Bool.and_eq_true, decide_eq_true_eq] at h; omega
theorem nwf_i64 {a : Int} (h : (Lit.int .i64 a).wf = true) : -9223372036854775808 ≤ a ∧ a ≤ 9223372036854775807 := by
  have hmin : IntKind.i64.min = -9223372036854775808 := rfl
  have hmax : IntKind.i64.max = 9223372036854775807 := rfl
  simp only [Lit.wf, Bool.and_eq_true, decide_eq_true_eq] at h; omega
theorem nwf_u8 {a : Int} (h : (Lit.int .u8 a).wf = true) : 0 ≤ a ∧ a ≤ 255 := by
  have hmin : IntKind.u8.min = 0 := rfl
  have hmax : IntKind.u8.max = 255 := rfl
  simp only [Lit.wf, Bool.and_eq_true, decide_eq_true_eq] at h; omega
theorem nwf_u16 {a : Int} (h : (Lit.int .u16 a).wf = true) : 0 ≤ a ∧ a ≤ 65535 := by
  have hmin : IntKind.u16.min = 0 := rfl
  have hmax : IntKind.u16.max = 65535 := rfl
  simp only [Lit.wf, Bool.and_eq_true, decide_eq_true_eq] at h; omega
theorem nwf_u32 {a : Int} (h : (Lit.int .u32 a).wf = true) : 0 ≤ a ∧ a ≤ 4294967295 := by
  have hmin : IntKind.u32.min = 0 := rfl
  have hmax : IntKind.u32.max = 4294967295 := rfl
  simp only [Lit.wf, Bool.and_eq_true, decide_eq_true_eq] at h; omega
theorem nwr {n : Int} (h0 : 0 ≤ n) (h1 : n < 18446744073709551616) : IntKind.u64.wrap n = n := by rw [IntKind.wrap_u64]; omega
theorem nw64 {n : Int} (h0 : -9223372036854775808 ≤ n) (h1 : n ≤ 9223372036854775807) : wrap64 n = n := by unfold wrap64; omega
theorem npow_pos (n : Nat) : (0 : Int) < 2 ^ n := Int.pow_pos (by decide)
theorem npow_add (a b : Nat) : (2 : Int) ^ (a + b) = 2 ^ a * 2 ^ b := Int.pow_add 2 a b
theorem npow_le {a b : Nat} (h : a ≤ b) : (2 : Int) ^ a ≤ 2 ^ b := by
  obtain ⟨c, rfl⟩ := Nat.le.dest h
  rw [npow_add]
  have h1 := npow_pos a
  have h2 := npow_pos c
  have : (2 : Int) ^ a * 1 ≤ 2 ^ a * 2 ^ c := Int.mul_le_mul_of_nonneg_left (by omega) (by omega)
  omega
theorem npow64 : (2 : Int) ^ 64 = 18446744073709551616 := by decide
theorem npow63 : (2 : Int) ^ 63 = 9223372036854775808 := by decide
theorem nbits : IntKind.u64.bits = 64 := rfl

/-- Which of two numbers is greater. -/
def scmp (x y : Int) : Int := if x < y then -1 else if y < x then 1 else 0

/-! ### The length in bits -/
theorem bitLen_spec (x : Nat) (h0 : x ≠ 0) (h : x < 18446744073709551616) : 1 ≤ Lib.bitLen x ∧ Lib.bitLen x ≤ 64 ∧ (2 : Int) ^ (Lib.bitLen x - 1) ≤ x ∧ (x : Int) < 2 ^ Lib.bitLen x := by
  induction x using Nat.strongRecOn with
  | _ x ih =>
    have e := Lib.bitLen_half x h0 h
    by_cases h1 : x = 1
    · subst h1
      have : Lib.bitLen 1 = 1 := by decide +kernel
      rw [this]; decide
    · obtain ⟨i1, i2, i3, i4⟩ := ih (x / 2) (by omega) (by omega) (by omega)
      have hle := Lib.bitLen_le x 64 (by omega) h
      obtain ⟨m, hm⟩ : ∃ m, Lib.bitLen (x / 2) = m + 1 := ⟨Lib.bitLen (x / 2) - 1, by omega⟩
      rw [hm] at i3 i4 e
      rw [e]
      have e1 : 1 + (m + 1) - 1 = m + 1 := by omega
      have e2 : 1 + (m + 1) = m + 2 := by omega
      rw [e1, e2]
      simp only [Nat.add_sub_cancel] at i3
      have p1 : (2 : Int) ^ (m + 1) = 2 ^ m * 2 := by rw [npow_add]; rfl
      have p2 : (2 : Int) ^ (m + 2) = 2 ^ m * 4 := by rw [npow_add]; rfl
      rw [p1] at *
      rw [p2]
      have hd : ((x / 2 : Nat) : Int) = (x : Int) / 2 := by omega
      omega

/-! ### Bits -/
theorem nmask (a : Int) (h0 : 0 ≤ a) (h1 : a < 18446744073709551616) : Go.bits .and .u64 a 4294967295 = a % 4294967296 := by
  obtain ⟨n, rfl⟩ := Int.eq_ofNat_of_zero_le h0
  rw [Mul64.maskN n (by omega)]; omega
/-- Two numbers whose bits lie apart. -/
theorem nor (a b : Int) (i : Nat) (ha : 0 ≤ a) (hb : 0 ≤ b) (hb' : b < 2 ^ i) (hm : a * 2 ^ i < 18446744073709551616) (hi : i ≤ 64) :
    Go.bits .or .u64 (a * 2 ^ i) b = a * 2 ^ i + b := by
  obtain ⟨x, rfl⟩ := Int.eq_ofNat_of_zero_le ha
  obtain ⟨y, rfl⟩ := Int.eq_ofNat_of_zero_le hb
  have hp := npow_le hi
  rw [npow64] at hp
  have e : ((x : Int) * 2 ^ i) = ((x * 2 ^ i : Nat) : Int) := by push_cast; rfl
  have hy : y < 2 ^ i := by
    have : ((2 ^ i : Nat) : Int) = 2 ^ i := by push_cast; rfl
    omega
  rw [e] at hm ⊢
  rw [bits_or_u64_nat (x * 2 ^ i) y (by omega) (by omega)]
  have := Nat.two_pow_add_eq_or_of_lt (b := y) (i := i) hy x
  rw [Nat.mul_comm x, ← this]
  push_cast; rfl
theorem nor_comm (a b : Int) (ha : 0 ≤ a) (ha' : a < 18446744073709551616) (hb : 0 ≤ b) (hb' : b < 18446744073709551616) : Go.bits .or .u64 a b = Go.bits .or .u64 b a := by
  obtain ⟨x, rfl⟩ := Int.eq_ofNat_of_zero_le ha
  obtain ⟨y, rfl⟩ := Int.eq_ofNat_of_zero_le hb
  rw [bits_or_u64_nat x y (by omega) (by omega), bits_or_u64_nat y x (by omega) (by omega), Nat.or_comm]
theorem nshl (a : Int) (n : Nat) (ha : 0 ≤ a) (hn : n ≤ 64) : shl .u64 a n = a * 2 ^ n % 18446744073709551616 := by
  unfold shl; rw [nbits, Int.toNat_natCast, Nat.min_eq_left hn, IntKind.wrap_u64]
theorem nshr (a : Int) (n : Nat) (hn : n ≤ 64) : shr .u64 a n = a / 2 ^ n := by
  unfold shr; rw [nbits, Int.toNat_natCast, Nat.min_eq_left hn]

/-! ### A division by two digits, as Knuth has it: one digit of the quotient -/
theorem digit_lt {U u Y : Int} (hY : 0 < Y) (hU : U < Y) (hu : u < 4294967296) : (U * 4294967296 + u) / Y < 4294967296 := by
  rw [Int.ediv_lt_iff_lt_mul hY]; omega
theorem digit_ok {U u Y y1 y0 q r : Int} (hY : Y = y1 * 4294967296 + y0) (hp : 0 < Y) (hU : U = q * y1 + r) (h : q * y0 ≤ 4294967296 * r + u) : q ≤ (U * 4294967296 + u) / Y := by
  rw [Int.le_ediv_iff_mul_le hp, hY, hU]
  have : q * (y1 * 4294967296 + y0) = q * y1 * 4294967296 + q * y0 := by grind
  rw [this]; omega
theorem digit_over {U u Y y1 y0 q r : Int} (hY : Y = y1 * 4294967296 + y0) (hp : 0 < Y) (hU : U = q * y1 + r) (h : ¬ q * y0 ≤ 4294967296 * r + u) : (U * 4294967296 + u) / Y < q := by
  rw [Int.ediv_lt_iff_lt_mul hp, hY, hU]
  have : q * (y1 * 4294967296 + y0) = q * y1 * 4294967296 + q * y0 := by grind
  rw [this]; omega
theorem nmul_le {a b c d : Int} (ha : 0 ≤ a) (hb : 0 ≤ b) (hc : a ≤ c) (hd : b ≤ d) : a * b ≤ c * d := by
  have h1 : a * b ≤ c * b := Int.mul_le_mul_of_nonneg_right hc hb
  have h2 : c * b ≤ c * d := Int.mul_le_mul_of_nonneg_left hd (by omega)
  omega
/-- What the two halves make. -/
theorem halves {H L Y q1 q0 R1 R : Int} {u1 u0 : Int} (hL : L = u1 * 4294967296 + u0) (h1 : H * 4294967296 + u1 = q1 * Y + R1) (h0 : R1 * 4294967296 + u0 = q0 * Y + R) (hR : 0 ≤ R) (hR' : R < Y) :
    (H * 18446744073709551616 + L) / Y = q1 * 4294967296 + q0 ∧ (H * 18446744073709551616 + L) % Y = R := by
  have e : H * 18446744073709551616 + L = R + Y * (q1 * 4294967296 + q0) := by rw [hL]; grind
  rw [e]
  constructor
  · rw [Int.add_mul_ediv_left _ _ (by omega), Int.ediv_eq_zero_of_lt hR hR']; omega
  · rw [Int.add_mul_emod_self_left, Int.emod_eq_of_lt hR hR']
end Go.Proofs.Ytiokopkglmaffaa.Facts
