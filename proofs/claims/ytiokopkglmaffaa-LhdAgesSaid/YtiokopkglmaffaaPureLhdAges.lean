/- LhdAges: what its row says of lhd, and awake holds. For all inputs, no condition but the row's own. -/
import Derived.Test.YtiokopkglmaffaaPrint2
import Derived.Test.YtiokopkglmaffaaPrint6
import Derived.Test.YtiokopkglmaffaaPrint7
import Derived.Test.YtiokopkglmaffaaStLhdAges
import Derived.Lib.ItoaNum
namespace Go.Proofs.Ytiokopkglmaffaa.Pure
set_option linter.unusedVariables false
set_option linter.unusedSimpArgs false
open Go.RowKit Go.Proofs.Ytiokopkglmaffaa.Print Go.Proofs.YtiokopkglmaffaaW.PrintWords Go.Proofs.YtiokopkglmaffaaW.PrintLast Go.Proofs.YtiokopkglmaffaaW.PrintMore
theorem nwf_u64 {a : Int} (h : (Lit.int .u64 a).wf = true) : 0 ≤ a ∧ a < 18446744073709551616 := by
  have hmin : IntKind.u64.min = 0 := rfl
  have hmax : IntKind.u64.max = 18446744073709551615 := rfl
  simp only [Lit.wf, Bool.and_eq_true, decide_eq_true_eq] at h; omega
def ageF (a : Int) : Int := if a = 0 then 0 else if a < 2 then 1 else if a < 4 then 2 else if a < 8 then 3 else if a < 16 then 4 else if a < 32 then 5 else if a < 64 then 6 else 7
theorem lhd_Age_eq (a : Int) (h0 : 0 ≤ a) (h1 : a < 18446744073709551616) : lhd_Age.f a = some (ageF a) := by
  unfold lhd_Age.f bits_Len64.f
  rw [if_pos h0, if_pos (by omega)]
  simp only [Option.bind_some]
  congr 1
  obtain ⟨n, rfl⟩ : ∃ n : Nat, a = n := ⟨a.toNat, by omega⟩
  rw [Int.toNat_natCast]
  unfold Lib.bitLen
  by_cases z : n = 0
  · subst z
    simp [Lib.bitLenAux_zero, mn, ageF]
  obtain ⟨b1, b2, b3⟩ := Lib.bitLenAux_bounds 64 n (by omega) z
  generalize Lib.bitLenAux 64 n = b at *
  rcases Nat.lt_or_ge b 7 with c | c
  · have hb : b = 1 ∨ b = 2 ∨ b = 3 ∨ b = 4 ∨ b = 5 ∨ b = 6 := by omega
    rcases hb with rfl | rfl | rfl | rfl | rfl | rfl <;> (simp only [Nat.reduceSub, Nat.reducePow] at b2 b3; unfold mn ageF; (repeat split) <;> omega)
  · have h7 : 2 ^ 6 ≤ n := Nat.le_trans (Nat.pow_le_pow_right (by omega) (by omega)) b2
    simp only [Nat.reducePow] at h7
    unfold mn ageF
    (repeat split) <;> omega
theorem ageF_cases (a : Int) (h0 : 0 ≤ a) : (ageF a = 0 ∧ a = 0) ∨ (ageF a = 1 ∧ 1 ≤ a ∧ a < 2) ∨ (ageF a = 2 ∧ 2 ≤ a ∧ a < 4) ∨ (ageF a = 3 ∧ 4 ≤ a ∧ a < 8) ∨ (ageF a = 4 ∧ 8 ≤ a ∧ a < 16) ∨ (ageF a = 5 ∧ 16 ≤ a ∧ a < 32) ∨ (ageF a = 6 ∧ 32 ≤ a ∧ a < 64) ∨ (ageF a = 7 ∧ 64 ≤ a) := by
  unfold ageF
  (repeat split) <;> omega
theorem ageF_mono (a b : Int) (h0 : 0 ≤ a) (h : a ≤ b) : ageF a ≤ ageF b := by
  unfold ageF
  (repeat split) <;> omega
theorem LhdAges : linhaylaw19_LhdAges.Pure := by
  intro a b ha hb
  obtain ⟨a1, a2⟩ := nwf_u64 ha
  obtain ⟨b1, b2⟩ := nwf_u64 hb
  unfold linhaylaw19_LhdAges.f
  rw [lhd_Age_eq a a1 a2, lhd_Age_eq b b1 b2]
  simp only [Option.bind_some]
  refine if_pos ⟨⟨⟨a1, a2⟩, ageF_cases a a1⟩, ?_⟩
  by_cases c : b < a
  · rw [if_pos c]; exact ageF_mono b a b1 (by omega)
  · rw [if_neg c]; exact ageF_mono a b a1 (by omega)
end Go.Proofs.Ytiokopkglmaffaa.Pure
