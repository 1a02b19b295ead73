/- WordShifts: two shifts one behind the other are one by both, and a shift is a product. For all numbers, no condition. -/
import Derived.Test.YtkngogjcenmahaaFactsWord
import Derived.Test.YtkngogjcenmahaaPrint8
import Derived.Test.YtkngogjcenmahaaPrint8
namespace Go.Proofs.Ytkngogjcenmahaa.Pure
set_option linter.unusedVariables false
set_option linter.unusedSimpArgs false
open Go.RowKit Go.Proofs.Ytkngogjcenmahaa.Print Go.Proofs.Ytkngogjcenmahaa.Facts Go.Proofs.YtkngogjcenmahaaW.PrintWords Go.Proofs.YtkngogjcenmahaaW.PrintLast Go.Proofs.YtkngogjcenmahaaW.PrintMore
theorem WordShifts : linhaylaw01_WordShifts.Pure := by
  intro a n m ha hn hm
  obtain ⟨ha, ha'⟩ := wf_u64 ha
  obtain ⟨hn, hn'⟩ := wf_u8 hn
  obtain ⟨hm, hm'⟩ := wf_u8 hm
  have hw : linhaylaw01_awake.f = some true := rfl
  unfold linhaylaw01_WordShifts.f
  rw [Int.tmod_eq_emod_of_nonneg hn, Int.tmod_eq_emod_of_nonneg hm, wr (n := n % 100) (by omega) (by omega), wr (n := m % 100) (by omega) (by omega), wr (by omega) (by omega), Int.tmod_eq_emod_of_nonneg (by omega), hw]
  obtain ⟨p, hp⟩ : ∃ p : Nat, (p : Int) = n % 100 := ⟨(n % 100).toNat, by omega⟩
  obtain ⟨q, hq⟩ : ∃ q : Nat, (q : Int) = m % 100 := ⟨(m % 100).toNat, by omega⟩
  rw [← hp, ← hq]
  have hp1 := pow_pos p
  have hq1 := pow_pos q
  have s1 : 0 ≤ a / 2 ^ p := Int.ediv_nonneg ha (by omega)
  have s2 : a / 2 ^ p ≤ a := Int.ediv_le_self _ ha
  have s3 : 0 ≤ a * 2 ^ p := Int.mul_nonneg ha (by omega)
  simp only [Option.bind_some, if_true]
  rw [if_pos (by omega), word_Shr_eq ha ha' (by omega), Int.toNat_natCast]
  simp only [Option.bind_some]
  rw [word_Shr_eq s1 (by omega) (by omega), word_Shr_eq ha ha' (by omega), Int.toNat_natCast, show ((p : Int) + q).toNat = p + q by omega]
  simp only [Option.bind_some]
  rw [if_pos (by rw [pow_add, Int.ediv_ediv_of_nonneg (by omega)]), word_Shl_eq ha ha' (by omega) (by omega), Int.toNat_natCast]
  simp only [Option.bind_some]
  rw [word_Shl_eq (by omega) (by omega) (by omega) (by omega), word_Shl_eq ha ha' (by omega) (by omega), Int.toNat_natCast, show ((p : Int) + q).toNat = p + q by omega]
  simp only [Option.bind_some]
  have hmul : min (min (a * 2 ^ p) 18446744073709551615 * 2 ^ q) 18446744073709551615 = min (a * 2 ^ (p + q)) 18446744073709551615 := by
    rw [pow_add, ← Int.mul_assoc]
    by_cases hc : a * 2 ^ p ≤ 18446744073709551615
    · rw [Int.min_eq_left hc]
    · rw [Int.min_eq_right (a := a * 2 ^ p) (by omega)]
      have h3 : 18446744073709551615 * 1 ≤ 18446744073709551615 * (2 : Int) ^ q := Int.mul_le_mul_of_nonneg_left (by omega) (by decide)
      have h4 : 18446744073709551615 * (2 : Int) ^ q ≤ (a * 2 ^ p) * 2 ^ q := Int.mul_le_mul_of_nonneg_right (by omega) (by omega)
      omega
  rw [if_pos hmul]
  obtain ⟨r, hr⟩ : ∃ r : Nat, (r : Int) = (p : Int) % 64 := ⟨p % 64, by omega⟩
  rw [← hr]
  have hr1 := pow_pos r
  have hr2 := pow_le (a := r) (b := 63) (by omega)
  rw [show (2 : Int) ^ 63 = 9223372036854775808 by decide] at hr2
  have hsl : shl .u64 1 (r : Int) = 2 ^ r := by
    unfold shl
    rw [u64_bits, Int.toNat_natCast, Nat.min_eq_left (by omega), Int.one_mul]
    exact wr (by omega) (by omega)
  have t1 : 0 ≤ a / 2 ^ r := Int.ediv_nonneg ha (by omega)
  have t2 : a / 2 ^ r ≤ a := Int.ediv_le_self _ ha
  rw [hsl, word_Shl_eq ha ha' (by omega) (by omega), word_Mul_eq ha ha' (by omega) (by omega), Int.toNat_natCast]
  simp only [Option.bind_some, if_true]
  rw [word_Shr_eq ha ha' (by omega), Int.toNat_natCast]
  simp only [Option.bind_some]
  rw [if_neg (by omega), Int.tdiv_eq_ediv_of_nonneg ha, wr t1 (by omega)]
  simp
end Go.Proofs.Ytkngogjcenmahaa.Pure
