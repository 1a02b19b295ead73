/- WideShifts: a shift is as many halvings, and two shifts one behind the other are one by both. For all numbers, no condition. -/
import Derived.Test.YtkicianajhnpkaaStWideShifts
import Derived.Test.YtkicianajhnpkaaFactsNum
import Derived.Test.YtkicianajhnpkaaFactsWide
import Derived.Test.YtkicianajhnpkaaFactsAwake02
import Derived.Test.YtkicianajhnpkaaPrint20
import Derived.Test.YtkicianajhnpkaaPrint7
namespace Go.Proofs.Ytkicianajhnpkaa.Pure
set_option linter.unusedVariables false
set_option linter.unusedSimpArgs false
open Go.RowKit Go.Proofs.Ytkicianajhnpkaa.Print Go.Proofs.Ytkicianajhnpkaa.Facts Go.Proofs.YtkicianajhnpkaaW.PrintWords Go.Proofs.YtkicianajhnpkaaW.PrintLast Go.Proofs.YtkicianajhnpkaaW.PrintMore
theorem WideShifts : linhaylaw02_WideShifts.Pure := by
  intro a b n m ha hb hn hm
  have ha : W64 a := nwf_u64 ha
  have hb : W64 b := nwf_u64 hb
  obtain ⟨hn, hn'⟩ := nwf_u8 hn
  obtain ⟨hm, hm'⟩ := nwf_u8 hm
  obtain ⟨n, rfl⟩ := Int.eq_ofNat_of_zero_le hn
  obtain ⟨m, rfl⟩ := Int.eq_ofNat_of_zero_le hm
  refine ⟨200, ?_⟩
  unfold linhaylaw02_WideShifts.f
  obtain ⟨X, hX⟩ : ∃ X, X = a * 18446744073709551616 + b := ⟨_, rfl⟩
  have X0 : 0 ≤ X ∧ X < 340282366920938463463374607431768211456 := by unfold W64 at *; omega
  have sh : ∀ p : Nat, p < 1000 → wide_Shr.f 200 a b p = some (X / 2 ^ p / 18446744073709551616, X / 2 ^ p % 18446744073709551616) := by
    intro p hp
    have := wide_Shr_eq 200 (by decide) ha.1 ha.2 hb.1 hb.2 (n := (p : Int)) (by omega) (by omega)
    rw [Int.toNat_natCast, ← hX] at this
    exact this
  have bd : ∀ p : Nat, 0 ≤ X / 2 ^ p ∧ X / 2 ^ p ≤ X := fun p => ⟨Int.ediv_nonneg X0.1 (by have := npow_pos p; omega), Int.ediv_le_self _ X0.1⟩
  have b1 := bd n
  have hv : X / 2 ^ n / 18446744073709551616 * 18446744073709551616 + X / 2 ^ n % 18446744073709551616 = X / 2 ^ n := by omega
  rw [awake02_le 200 (by decide), nwr (n := (n : Int)) (by omega) (by omega), nwr (n := (m : Int)) (by omega) (by omega), nwr (n := (n : Int) + m) (by omega) (by omega), nwr (n := (n : Int) + 1) (by omega) (by omega), sh n (by omega)]
  simp only [Option.bind_some, if_true]
  rw [wide_Div_eq 200 (by decide) (by omega) (by omega) (by decide) (by decide) (by omega) (by omega), hv, wide_Shr_eq 200 (by decide) (by omega) (by omega) (by omega) (by omega) (by omega) (by omega), hv, Int.toNat_natCast]
  have s1 := sh (n + m) (by omega)
  have s2 := sh (n + 1) (by omega)
  have s0 := sh 0 (by omega)
  push_cast at s1 s2 s0
  rw [s1, s2, s0]
  have e1 : X / 2 ^ n / 2 ^ m = X / 2 ^ (n + m) := by rw [npow_add, Int.ediv_ediv_of_nonneg (by have := npow_pos n; omega)]
  have e2 : X / 2 ^ n / 2 = X / 2 ^ (n + 1) := by rw [npow_add, Int.ediv_ediv_of_nonneg (by have := npow_pos n; omega)]; rfl
  obtain ⟨p1, p2⟩ : X / 18446744073709551616 = a ∧ X % 18446744073709551616 = b := by unfold W64 at *; omega
  have e3 : X / 1 = X := Int.ediv_one X
  rw [e1, e2, e3, p1, p2]
  simp
end Go.Proofs.Ytkicianajhnpkaa.Pure
