
/- What the printed functions of the package wide answer, as arithmetic on Int: a wide number (hi, lo) stands for hi * 2^64 + lo. -/
import Derived.Test.YtiokopkglmaffaaFactsNum
import Derived.Test.YtiokopkglmaffaaFactsDiv
import Derived.Test.YtiokopkglmaffaaPrint2
import Derived.Test.YtiokopkglmaffaaPrint3
import Derived.Test.YtiokopkglmaffaaPrint4
import Derived.Test.YtiokopkglmaffaaPrint5
namespace Go.Proofs.Ytiokopkglmaffaa.Facts
set_option linter.unusedVariables false
set_option linter.unusedSimpArgs false
open Go.RowKit Go.Proofs.Ytiokopkglmaffaa.Print Go.Proofs.YtiokopkglmaffaaW.PrintWords Go.Proofs.YtiokopkglmaffaaW.PrintLast Go.Proofs.YtiokopkglmaffaaW.PrintMore

theorem wide_Mul_eq {a b : Int} (ha : 0 ≤ a) (ha' : a < 18446744073709551616) (hb : 0 ≤ b) (hb' : b < 18446744073709551616) : wide_Mul.f a b = some (a * b / 18446744073709551616, a * b % 18446744073709551616) := by
  unfold wide_Mul.f bits_Mul64.f; rw [if_pos ⟨⟨ha, ha'⟩, ⟨hb, hb'⟩⟩]; rfl
theorem mul_word {a b : Int} (ha : 0 ≤ a) (ha' : a < 18446744073709551616) (hb : 0 ≤ b) (hb' : b < 18446744073709551616) : 0 ≤ a * b ∧ a * b ≤ 18446744073709551615 * 18446744073709551615 :=
  ⟨Int.mul_nonneg ha hb, nmul_le ha hb (by omega) (by omega)⟩
theorem wide_Div_zero (k : Nat) (h l : Int) : wide_Div.f k h l 0 = some (0, 0, 0, 20) := by
  unfold wide_Div.f; rw [if_pos rfl]
theorem div_words {h l d : Int} (hh : 0 ≤ h) (hd : 0 < d) (hl : 0 ≤ l) (hl' : l < 18446744073709551616) :
    (h * 18446744073709551616 + l) / d / 18446744073709551616 = h / d ∧ (h * 18446744073709551616 + l) / d % 18446744073709551616 = (h % d * 18446744073709551616 + l) / d ∧ (h * 18446744073709551616 + l) % d = (h % d * 18446744073709551616 + l) % d := by
  have e0 := Int.mul_ediv_add_emod h d
  have m0 := Int.emod_nonneg h (b := d) (by omega)
  have m1 := Int.emod_lt_of_pos h hd
  have e : h * 18446744073709551616 + l = (h % d * 18446744073709551616 + l) + d * (h / d * 18446744073709551616) := by
    have : h = d * (h / d) + h % d := e0.symm
    grind
  have hv0 : 0 ≤ (h % d * 18446744073709551616 + l) / d := Int.ediv_nonneg (by omega) (by omega)
  have hv1 : (h % d * 18446744073709551616 + l) / d < 18446744073709551616 := by rw [Int.ediv_lt_iff_lt_mul hd]; omega
  rw [e, Int.add_mul_ediv_left _ _ (by omega), Int.add_mul_emod_self_left]
  refine ⟨by omega, by omega, rfl⟩
theorem wide_Div_eq (k : Nat) (hk : 20 ≤ k) {h l d : Int} (hh : 0 ≤ h) (hh' : h < 18446744073709551616) (hd : 0 < d) (hd' : d < 18446744073709551616) (hl : 0 ≤ l) (hl' : l < 18446744073709551616) :
    wide_Div.f k h l d = some ((h * 18446744073709551616 + l) / d / 18446744073709551616, (h * 18446744073709551616 + l) / d % 18446744073709551616, (h * 18446744073709551616 + l) % d, 0) := by
  have m0 := Int.emod_nonneg h (b := d) (by omega)
  have m1 := Int.emod_lt_of_pos h hd
  have q0 : 0 ≤ h / d := Int.ediv_nonneg hh (by omega)
  have q1 : h / d ≤ h := Int.ediv_le_self _ hh
  unfold wide_Div.f
  rw [if_neg (by omega), Int.tmod_eq_emod_of_nonneg hh, Int.tdiv_eq_ediv_of_nonneg hh, bits_Div64_eq k hk m0 m1 hd' hl hl', nwr q0 (by omega)]
  obtain ⟨e1, e2, e3⟩ := div_words hh hd hl hl'
  rw [e1, e2, e3]
  rfl
theorem scmp_words {a b c d : Int} (hb : 0 ≤ b) (hb' : b < 18446744073709551616) (hd : 0 ≤ d) (hd' : d < 18446744073709551616) :
    scmp (a * 18446744073709551616 + b) (c * 18446744073709551616 + d) = if a < c then -1 else if c < a then 1 else scmp b d := by
  unfold scmp
  by_cases h1 : a < c
  · rw [if_pos h1, if_pos (by omega)]
  · by_cases h2 : c < a
    · rw [if_neg h1, if_pos h2, if_neg (by omega), if_pos (by omega)]
    · rw [if_neg h1, if_neg h2]
      have : a = c := by omega
      subst this
      by_cases h3 : b < d
      · rw [if_pos h3, if_pos (by omega)]
      · rw [if_neg h3, if_neg (by omega)]
        by_cases h4 : d < b
        · rw [if_pos h4, if_pos (by omega)]
        · rw [if_neg h4, if_neg (by omega)]
theorem cmp_Compare_eq (a b : Int) : cmp_Compare_uint64.f a b = some (scmp a b) := by
  unfold cmp_Compare_uint64.f cmp_isNaN_uint64.f scmp
  simp only [bne_self_eq_false, Option.bind_some, Bool.false_eq_true, if_false, gt_iff_lt]
  by_cases h : a < b
  · simp [h]
  · by_cases h2 : b < a
    · simp [h, h2]
    · simp [h, h2]
theorem cmp_Or_eq (k : Nat) (hk : 3 ≤ k) (p q : Int) : cmp_Or_int.f k [p, q] = some (if p = 0 then q else p) := by
  obtain ⟨m, rfl⟩ : ∃ m, k = m + 3 := ⟨k - 3, by omega⟩
  have e1 : wrap64 (0 + 1) = 1 := by decide +kernel
  have e2 : wrap64 (1 + 1) = 2 := by decide +kernel
  unfold cmp_Or_int.f
  show cmp_Or_int.l0 (m + 2 + 1) 0 [p, q] 2 0 = _
  have r0 : rd [p, q] 0 = p := rfl
  have r1 : rd [p, q] 1 = q := rfl
  have hl : (([p, q] : List Int).length : Int) = 2 := rfl
  simp only [cmp_Or_int.l0, r0, hl, e1]
  by_cases hp : p = 0
  · simp only [hp, if_true, r1]
    show cmp_Or_int.l0 (m + 1 + 1) 0 [0, q] 2 1 = _
    have r1 : rd [0, q] 1 = q := rfl
    have hl : (([0, q] : List Int).length : Int) = 2 := rfl
    simp only [cmp_Or_int.l0, r1, hl, e2]
    by_cases hq : q = 0
    · simp [hq]
    · simp [hq]
  · simp [hp]
theorem wide_Cmp_eq (k : Nat) (hk : 3 ≤ k) {a b c d : Int} (hb : 0 ≤ b) (hb' : b < 18446744073709551616) (hd : 0 ≤ d) (hd' : d < 18446744073709551616) :
    wide_Cmp.f k a b c d = some (scmp (a * 18446744073709551616 + b) (c * 18446744073709551616 + d)) := by
  unfold wide_Cmp.f
  rw [scmp_words hb hb' hd hd']
  by_cases h : a = c ∧ b = d
  · obtain ⟨rfl, rfl⟩ := h
    simp [scmp]
  · rw [if_neg (by simp; omega), cmp_Compare_eq, cmp_Compare_eq]
    simp only [Option.bind_some]
    rw [cmp_Or_eq k hk]
    simp only [Option.bind_some]
    congr 1
    by_cases h1 : a < c
    · simp [scmp, h1]
    · by_cases h2 : c < a
      · simp [scmp, h1, h2]
      · have e : scmp a c = 0 := by simp [scmp, h1, h2]
        rw [e]; simp [h1, h2]
/-- A shift by less than a word. -/
theorem shr_words {h l : Int} (n : Nat) (hn : n < 64) (hh : 0 ≤ h) (hh' : h < 18446744073709551616) (hl : 0 ≤ l) (hl' : l < 18446744073709551616) :
    (shr .u64 h n, Go.bits .or .u64 (shr .u64 l n) (shl .u64 h (64 - (n : Int)))) = ((h * 18446744073709551616 + l) / 2 ^ n / 18446744073709551616, (h * 18446744073709551616 + l) / 2 ^ n % 18446744073709551616) := by
  have hp := npow_pos n
  have hq := npow_pos (64 - n)
  have f64 : (2 : Int) ^ n * 2 ^ (64 - n) = 18446744073709551616 := by rw [← npow_add, show n + (64 - n) = 64 by omega, npow64]
  have e0 := Int.mul_ediv_add_emod h (2 ^ n)
  have m0 := Int.emod_nonneg h (b := 2 ^ n) (by omega)
  have m1 := Int.emod_lt_of_pos h hp
  have q0 : 0 ≤ h / 2 ^ n := Int.ediv_nonneg hh (by omega)
  have l0 : 0 ≤ l / 2 ^ n := Int.ediv_nonneg hl (by omega)
  have l1 : l / 2 ^ n < 2 ^ (64 - n) := by rw [Int.ediv_lt_iff_lt_mul hp, Int.mul_comm, f64]; exact hl'
  have hm : h % 2 ^ n * 2 ^ (64 - n) + 2 ^ (64 - n) ≤ 18446744073709551616 := by
    have : (h % 2 ^ n + 1) * 2 ^ (64 - n) ≤ 2 ^ n * 2 ^ (64 - n) := Int.mul_le_mul_of_nonneg_right (by omega) (by omega)
    rw [f64, Int.add_mul] at this
    omega
  have hm0 : 0 ≤ h % 2 ^ n * 2 ^ (64 - n) := Int.mul_nonneg m0 (by omega)
  have hsh : shl .u64 h (64 - (n : Int)) = h % 2 ^ n * 2 ^ (64 - n) := by
    rw [show (64 - (n : Int)) = ((64 - n : Nat) : Int) by omega, nshl _ _ hh (by omega)]
    have e : h * 2 ^ (64 - n) = h % 2 ^ n * 2 ^ (64 - n) + 18446744073709551616 * (h / 2 ^ n) := by
      have : h = 2 ^ n * (h / 2 ^ n) + h % 2 ^ n := e0.symm
      rw [← f64]; grind
    rw [e, Int.add_mul_emod_self_left, Int.emod_eq_of_lt hm0 (by omega)]
  have ex : (h * 18446744073709551616 + l) / 2 ^ n = h / 2 ^ n * 18446744073709551616 + (h % 2 ^ n * 2 ^ (64 - n) + l / 2 ^ n) := by
    have e : h * 18446744073709551616 + l = l + 2 ^ n * (h * 2 ^ (64 - n)) := by rw [← f64]; grind
    rw [e, Int.add_mul_ediv_left _ _ (by omega)]
    have : h = 2 ^ n * (h / 2 ^ n) + h % 2 ^ n := e0.symm
    rw [← f64]; grind
  rw [hsh, nshr _ _ (by omega), nshr _ _ (by omega), nor_comm _ _ l0 (by omega) hm0 (by omega), nor _ _ _ m0 l0 l1 (by omega) (by omega), ex]
  congr 1 <;> omega
/-- A word. -/
def W64 (a : Int) : Prop := 0 ≤ a ∧ a < 18446744073709551616
theorem wide_Add_big {a b c d : Int} (ha : W64 a) (hb : W64 b) (hc : W64 c) (hd : W64 d) :
    wide_Add.f a b c d = some ((a * 18446744073709551616 + b + (c * 18446744073709551616 + d)) / 18446744073709551616 % 18446744073709551616, (a * 18446744073709551616 + b + (c * 18446744073709551616 + d)) % 18446744073709551616, decide (340282366920938463463374607431768211456 ≤ a * 18446744073709551616 + b + (c * 18446744073709551616 + d))) := by
  unfold wide_Add.f; rw [if_pos ⟨⟨ha, hb⟩, ⟨hc, hd⟩⟩]
  obtain ⟨ha, ha'⟩ := ha
  obtain ⟨hb, hb'⟩ := hb
  obtain ⟨hc, hc'⟩ := hc
  obtain ⟨hd, hd'⟩ := hd
  have e1 : (a + c + (b + d) / 18446744073709551616) % 18446744073709551616 = (a * 18446744073709551616 + b + (c * 18446744073709551616 + d)) / 18446744073709551616 % 18446744073709551616 := by omega
  have e2 : (b + d) % 18446744073709551616 = (a * 18446744073709551616 + b + (c * 18446744073709551616 + d)) % 18446744073709551616 := by omega
  have e3 : decide (0 < (a + c + (b + d) / 18446744073709551616) / 18446744073709551616) = decide (340282366920938463463374607431768211456 ≤ a * 18446744073709551616 + b + (c * 18446744073709551616 + d)) := by
    rw [decide_eq_decide]; omega
  rw [e1, e2, e3]
theorem W64_mod (x : Int) : W64 (x % 18446744073709551616) := by unfold W64; omega
theorem big_val (x : Int) (h0 : 0 ≤ x) (h1 : x < 340282366920938463463374607431768211456) : x / 18446744073709551616 % 18446744073709551616 * 18446744073709551616 + x % 18446744073709551616 = x := by omega
theorem big_mod (x : Int) : x / 18446744073709551616 % 18446744073709551616 * 18446744073709551616 + x % 18446744073709551616 = x % 340282366920938463463374607431768211456 := by omega
theorem big_eq {x a b : Int} (hb : W64 b) (ha : W64 a) (h : x % 340282366920938463463374607431768211456 = a * 18446744073709551616 + b) : x / 18446744073709551616 % 18446744073709551616 = a ∧ x % 18446744073709551616 = b := by
  unfold W64 at *; omega
theorem div_W64 {x : Int} (h0 : 0 ≤ x) (h1 : x < 340282366920938463463374607431768211456) : W64 (x / 18446744073709551616) := by unfold W64; omega
end Go.Proofs.Ytiokopkglmaffaa.Facts
