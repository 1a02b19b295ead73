
/- What the printed functions of the package wide answer, as arithmetic on Int: a wide number (hi, lo) stands for hi * 2^64 + lo. -/
import Derived.Test.YthpkiacaemhkkaaDoorFactsNum
import Derived.Test.YthpkiacaemhkkaaDoorFactsDiv
import Derived.Test.YthpkiacaemhkkaaDoorPrint1
import Derived.Test.YthpkiacaemhkkaaDoorPrint2
namespace Go.Proofs.YthpkiacaemhkkaaDoor.Facts
set_option linter.unusedVariables false
set_option linter.unusedSimpArgs false
open Go.RowKit Go.Proofs.YthpkiacaemhkkaaDoor.Print Go.Proofs.YthpkiacaemhkkaaDoorW.PrintWords Go.Proofs.YthpkiacaemhkkaaDoorW.PrintLast Go.Proofs.YthpkiacaemhkkaaDoorW.PrintMore

theorem wide_Mul_eq {a b : Int} (ha : 0 ≤ a) (ha' : a < 18446744073709551616) (hb : 0 ≤ b) (hb' : b < 18446744073709551616) : wide_Mul.f a b = some (a * b / 18446744073709551616, a * b % 18446744073709551616) := by
  unfold wide_Mul.f bits_Mul64.f; rw [if_pos ⟨⟨ha, ha'⟩, ⟨hb, hb'⟩⟩]; rfl
theorem mul_word {a b : Int} (ha : 0 ≤ a) (ha' : a < 18446744073709551616) (hb : 0 ≤ b) (hb' : b < 18446744073709551616) : 0 ≤ a * b ∧ a * b ≤ 18446744073709551615 * 18446744073709551615 :=
  ⟨Int.mul_nonneg ha hb, nmul_le ha hb (by omega) (by omega)⟩
theorem wide_Div_zero (k : Nat) (h l : Int) : wide_Div.f k h l 0 = some (0, 0, 0, 20) := by
  unfold wide_Div.f; rw [if_pos rfl]
theorem div_words {h l d : Int} (hh : 0 ≤ h) (hd : 0 < d) (hl : 0 ≤ l) (hl' : l < 18446744073709551616) :
    (h * 18446744073709551616 + l) / d / 18446744073709551616 = h / d ∧ (h * 18446744073709551616 + l) / d % 18446744073709551616 = (h % d * 18446744073709551616 + l) / d ∧ (h * 18446744073709551616 + l) % d = (h % d * 18446744073709551616 + l) % d := by
  have e0 := Int.mul_ediv_add_emod h d
  have m0 := Int.emod_nonneg h (b := d) (by omega)
  have m1 := Int.emod_lt_of_pos h hd
  have e : h * 18446744073709551616 + l = (h % d * 18446744073709551616 + l) + d * (h / d * 18446744073709551616) := by
    have : h = d * (h / d) + h % d := e0.symm
    grind
  have hv0 : 0 ≤ (h % d * 18446744073709551616 + l) / d := Int.ediv_nonneg (by omega) (by omega)
  have hv1 : (h % d * 18446744073709551616 + l) / d < 18446744073709551616 := by rw [Int.ediv_lt_iff_lt_mul hd]; omega
  rw [e, Int.add_mul_ediv_left _ _ (by omega), Int.add_mul_emod_self_left]
  refine ⟨by omega, by omega, rfl⟩
theorem wide_Div_eq (k : Nat) (hk : 20 ≤ k) {h l d : Int} (hh : 0 ≤ h) (hh' : h < 18446744073709551616) (hd : 0 < d) (hd' : d < 18446744073709551616) (hl : 0 ≤ l) (hl' : l < 18446744073709551616) :
    wide_Div.f k h l d = some ((h * 18446744073709551616 + l) / d / 18446744073709551616, (h * 18446744073709551616 + l) / d % 18446744073709551616, (h * 18446744073709551616 + l) % d, 0) := by
  have m0 := Int.emod_nonneg h (b := d) (by omega)
  have m1 := Int.emod_lt_of_pos h hd
  have q0 : 0 ≤ h / d := Int.ediv_nonneg hh (by omega)
  have q1 : h / d ≤ h := Int.ediv_le_self _ hh
  unfold wide_Div.f
  rw [if_neg (by omega), Int.tmod_eq_emod_of_nonneg hh, Int.tdiv_eq_ediv_of_nonneg hh, bits_Div64_eq k hk m0 m1 hd' hl hl', nwr q0 (by omega)]
  obtain ⟨e1, e2, e3⟩ := div_words hh hd hl hl'
  rw [e1, e2, e3]
  rfl
theorem scmp_words {a b c d : Int} (hb : 0 ≤ b) (hb' : b < 18446744073709551616) (hd : 0 ≤ d) (hd' : d < 18446744073709551616) :
    scmp (a * 18446744073709551616 + b) (c * 18446744073709551616 + d) = if a < c then -1 else if c < a then 1 else scmp b d := by
  unfold scmp
  by_cases h1 : a < c
  · rw [if_pos h1, if_pos (by omega)]
  · by_cases h2 : c < a
    · rw [if_neg h1, if_pos h2, if_neg (by omega), if_pos (by omega)]
    · rw [if_neg h1, if_neg h2]
      have : a = c := by omega
      subst this
      by_cases h3 : b < d
      · rw [if_pos h3, if_pos (by omega)]
      · rw [if_neg h3, if_neg (by omega)]
        by_cases h4 : d < b
        · rw [if_pos h4, if_pos (by omega)]
        · rw [if_neg h4, if_neg (by omega)]
/-- A shift by less than a word. -/
theorem shr_words {h l : Int} (n : Nat) (hn : n < 64) (hh : 0 ≤ h) (hh' : h < 18446744073709551616) (hl : 0 ≤ l) (hl' : l < 18446744073709551616) :
    (shr .u64 h n, Go.bits .or .u64 (shr .u64 l n) (shl .u64 h (64 - (n : Int)))) = ((h * 18446744073709551616 + l) / 2 ^ n / 18446744073709551616, (h * 18446744073709551616 + l) / 2 ^ n % 18446744073709551616) := by
  have hp := npow_pos n
  have hq := npow_pos (64 - n)
  have f64 : (2 : Int) ^ n * 2 ^ (64 - n) = 18446744073709551616 := by rw [← npow_add, show n + (64 - n) = 64 by omega, npow64]
  have e0 := Int.mul_ediv_add_emod h (2 ^ n)
  have m0 := Int.emod_nonneg h (b := 2 ^ n) (by omega)
  have m1 := Int.emod_lt_of_pos h hp
  have q0 : 0 ≤ h / 2 ^ n := Int.ediv_nonneg hh (by omega)
  have l0 : 0 ≤ l / 2 ^ n := Int.ediv_nonneg hl (by omega)
  have l1 : l / 2 ^ n < 2 ^ (64 - n) := by rw [Int.ediv_lt_iff_lt_mul hp, Int.mul_comm, f64]; exact hl'
  have hm : h % 2 ^ n * 2 ^ (64 - n) + 2 ^ (64 - n) ≤ 18446744073709551616 := by
    have : (h % 2 ^ n + 1) * 2 ^ (64 - n) ≤ 2 ^ n * 2 ^ (64 - n) := Int.mul_le_mul_of_nonneg_right (by omega) (by omega)
    rw [f64, Int.add_mul] at this
    omega
  have hm0 : 0 ≤ h % 2 ^ n * 2 ^ (64 - n) := Int.mul_nonneg m0 (by omega)
  have hsh : shl .u64 h (64 - (n : Int)) = h % 2 ^ n * 2 ^ (64 - n) := by
    rw [show (64 - (n : Int)) = ((64 - n : Nat) : Int) by omega, nshl _ _ hh (by omega)]
    have e : h * 2 ^ (64 - n) = h % 2 ^ n * 2 ^ (64 - n) + 18446744073709551616 * (h / 2 ^ n) := by
      have : h = 2 ^ n * (h / 2 ^ n) + h % 2 ^ n := e0.symm
      rw [← f64]; grind
    rw [e, Int.add_mul_emod_self_left, Int.emod_eq_of_lt hm0 (by omega)]
  have ex : (h * 18446744073709551616 + l) / 2 ^ n = h / 2 ^ n * 18446744073709551616 + (h % 2 ^ n * 2 ^ (64 - n) + l / 2 ^ n) := by
    have e : h * 18446744073709551616 + l = l + 2 ^ n * (h * 2 ^ (64 - n)) := by rw [← f64]; grind
    rw [e, Int.add_mul_ediv_left _ _ (by omega)]
    have : h = 2 ^ n * (h / 2 ^ n) + h % 2 ^ n := e0.symm
    rw [← f64]; grind
  rw [hsh, nshr _ _ (by omega), nshr _ _ (by omega), nor_comm _ _ l0 (by omega) hm0 (by omega), nor _ _ _ m0 l0 l1 (by omega) (by omega), ex]
  congr 1 <;> omega
theorem wide_Shr_eq (k : Nat) (hk : 4 ≤ k) {h l n : Int} (hh : 0 ≤ h) (hh' : h < 18446744073709551616) (hl : 0 ≤ l) (hl' : l < 18446744073709551616) (hn : 0 ≤ n) (hn' : n < 18446744073709551616) :
    wide_Shr.f k h l n = some ((h * 18446744073709551616 + l) / 2 ^ n.toNat / 18446744073709551616, (h * 18446744073709551616 + l) / 2 ^ n.toNat % 18446744073709551616) := by
  obtain ⟨m, rfl⟩ : ∃ m, k = m + 4 := ⟨k - 4, by omega⟩
  obtain ⟨n, rfl⟩ := Int.eq_ofNat_of_zero_le hn
  have e1 : wrap64 (0 + 1) = 1 := by decide +kernel
  have e2 : wrap64 (1 + 1) = 2 := by decide +kernel
  have fin : ∀ (x5 h l : Int) (n : Nat) (k : Nat), n < 64 → 0 ≤ h → h < 18446744073709551616 → 0 ≤ l → l < 18446744073709551616 →
      wide_Shr.l0 (k + 1) n x5 h l = some ((h * 18446744073709551616 + l) / 2 ^ n / 18446744073709551616, (h * 18446744073709551616 + l) / 2 ^ n % 18446744073709551616) := by
    intro x5 h l n k hn hh hh' hl hl'
    simp only [wide_Shr.l0]
    have e : (if (n : Int) ≥ 64 then (some (0, 0)) else (if 0 ≤ (n : Int) then (if 0 ≤ (IntKind.u64.wrap (64 - (n : Int))) then (some (shr .u64 h n, Go.bits .or .u64 (shr .u64 l n) (shl .u64 h (IntKind.u64.wrap (64 - (n : Int)))))) else (none)) else (none)) : Option (Int × Int)) = some ((h * 18446744073709551616 + l) / 2 ^ n / 18446744073709551616, (h * 18446744073709551616 + l) / 2 ^ n % 18446744073709551616) := by
      rw [if_neg (by omega), if_pos (by omega), nwr (by omega) (by omega), if_pos (by omega), shr_words n hn hh hh' hl hl']
    rw [e]
    by_cases h5 : x5 < 2
    · rw [if_pos h5, if_pos (by omega)]
    · rw [if_neg h5]
  unfold wide_Shr.f
  simp only [Int.toNat_natCast]
  by_cases h64 : n < 64
  · exact fin 0 h l n (m + 3) h64 hh hh' hl hl'
  · show wide_Shr.l0 (m + 3 + 1) n 0 h l = _
    rw [wide_Shr.l0]
    rw [if_pos (by omega), if_neg (by omega), nwr (n := (n : Int) - 64) (by omega) (by omega), e1]
    obtain ⟨p, rfl⟩ : ∃ p, n = 64 + p := ⟨n - 64, by omega⟩
    have ed : (h * 18446744073709551616 + l) / 2 ^ (64 + p) = h / 2 ^ p := by
      rw [npow_add, npow64, ← Int.ediv_ediv_of_nonneg (by decide)]
      congr 1; omega
    rw [ed, show (((64 + p : Nat) : Int) - 64) = (p : Int) by omega]
    have hp := npow_pos p
    have q0 : 0 ≤ h / 2 ^ p := Int.ediv_nonneg hh (by omega)
    have q1 : h / 2 ^ p ≤ h := Int.ediv_le_self _ hh
    by_cases hp64 : p < 64
    · have := fin 1 0 h p (m + 2) hp64 (by decide) (by decide) hh hh'
      rw [show m + 3 = m + 2 + 1 by omega, this]
      rw [Int.zero_mul, Int.zero_add]
    · show wide_Shr.l0 (m + 2 + 1) p 1 0 h = _
      rw [wide_Shr.l0]
      rw [if_pos (by omega), if_neg (by omega), nwr (n := (p : Int) - 64) (by omega) (by omega), e2]
      have hz : h / 2 ^ p = 0 := by
        have h1 := npow_le (a := 64) (b := p) (by omega)
        rw [npow64] at h1
        exact Int.ediv_eq_zero_of_lt hh (by omega)
      rw [hz]
      obtain ⟨r, rfl⟩ : ∃ r, p = 64 + r := ⟨p - 64, by omega⟩
      rw [show (((64 + r : Nat) : Int) - 64) = (r : Int) by omega]
      by_cases hr64 : r < 64
      · have := fin 2 0 0 r (m + 1) hr64 (by decide) (by decide) (by decide) (by decide)
        rw [show m + 2 = m + 1 + 1 by omega, this]
        simp
      · show wide_Shr.l0 (m + 1 + 1) r 2 0 0 = _
        rw [wide_Shr.l0]
        rw [if_neg (by omega), if_pos (by omega)]
        rfl
/-- A word. -/
def W64 (a : Int) : Prop := 0 ≤ a ∧ a < 18446744073709551616
theorem wide_Add_big {a b c d : Int} (ha : W64 a) (hb : W64 b) (hc : W64 c) (hd : W64 d) :
    wide_Add.f a b c d = some ((a * 18446744073709551616 + b + (c * 18446744073709551616 + d)) / 18446744073709551616 % 18446744073709551616, (a * 18446744073709551616 + b + (c * 18446744073709551616 + d)) % 18446744073709551616, decide (340282366920938463463374607431768211456 ≤ a * 18446744073709551616 + b + (c * 18446744073709551616 + d))) := by
  unfold wide_Add.f; rw [if_pos ⟨⟨ha, hb⟩, ⟨hc, hd⟩⟩]
  obtain ⟨ha, ha'⟩ := ha
  obtain ⟨hb, hb'⟩ := hb
  obtain ⟨hc, hc'⟩ := hc
  obtain ⟨hd, hd'⟩ := hd
  have e1 : (a + c + (b + d) / 18446744073709551616) % 18446744073709551616 = (a * 18446744073709551616 + b + (c * 18446744073709551616 + d)) / 18446744073709551616 % 18446744073709551616 := by omega
  have e2 : (b + d) % 18446744073709551616 = (a * 18446744073709551616 + b + (c * 18446744073709551616 + d)) % 18446744073709551616 := by omega
  have e3 : decide (0 < (a + c + (b + d) / 18446744073709551616) / 18446744073709551616) = decide (340282366920938463463374607431768211456 ≤ a * 18446744073709551616 + b + (c * 18446744073709551616 + d)) := by
    rw [decide_eq_decide]; omega
  rw [e1, e2, e3]
theorem W64_mod (x : Int) : W64 (x % 18446744073709551616) := by unfold W64; omega
theorem big_val (x : Int) (h0 : 0 ≤ x) (h1 : x < 340282366920938463463374607431768211456) : x / 18446744073709551616 % 18446744073709551616 * 18446744073709551616 + x % 18446744073709551616 = x := by omega
theorem big_mod (x : Int) : x / 18446744073709551616 % 18446744073709551616 * 18446744073709551616 + x % 18446744073709551616 = x % 340282366920938463463374607431768211456 := by omega
theorem big_eq {x a b : Int} (hb : W64 b) (ha : W64 a) (h : x % 340282366920938463463374607431768211456 = a * 18446744073709551616 + b) : x / 18446744073709551616 % 18446744073709551616 = a ∧ x % 18446744073709551616 = b := by
  unfold W64 at *; omega
theorem div_W64 {x : Int} (h0 : 0 ≤ x) (h1 : x < 340282366920938463463374607431768211456) : W64 (x / 18446744073709551616) := by unfold W64; omega
end Go.Proofs.YthpkiacaemhkkaaDoor.Facts
