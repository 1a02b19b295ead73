/- WideOrder: of two numbers just one is greater, or both are one; who is greater than one that is greater is greater, too; and it goes with sums that do not go over. For all numbers, no condition. -/
import Derived.Test.YtkicianajhnpkaaStWideOrder
import Derived.Test.YtkicianajhnpkaaFactsNum
import Derived.Test.YtkicianajhnpkaaFactsWide
import Derived.Test.YtkicianajhnpkaaFactsAwake02
import Derived.Test.YtkicianajhnpkaaPrint19
namespace Go.Proofs.Ytkicianajhnpkaa.Pure
set_option linter.unusedVariables false
set_option linter.unusedSimpArgs false
open Go.RowKit Go.Proofs.Ytkicianajhnpkaa.Print Go.Proofs.Ytkicianajhnpkaa.Facts Go.Proofs.YtkicianajhnpkaaW.PrintWords Go.Proofs.YtkicianajhnpkaaW.PrintLast Go.Proofs.YtkicianajhnpkaaW.PrintMore
theorem scmp_le {x y : Int} : scmp x y ≤ 0 ↔ x ≤ y := by
  unfold scmp
  split
  · omega
  · split <;> omega
theorem scmp_neg (x y : Int) : wrap64 (-(scmp y x)) = scmp x y := by
  unfold scmp wrap64
  by_cases h1 : x < y
  · rw [if_neg (by omega), if_pos h1, if_pos h1]; decide
  · by_cases h2 : y < x
    · rw [if_pos h2, if_neg h1, if_pos h2]; decide
    · rw [if_neg h2, if_neg h1, if_neg h1, if_neg h2]; decide
theorem scmp_zero (x y : Int) : (scmp x y == 0) = decide (x = y) := by
  unfold scmp
  by_cases h1 : x < y
  · rw [if_pos h1]; rw [decide_eq_false (by omega)]; rfl
  · by_cases h2 : y < x
    · rw [if_neg h1, if_pos h2]; rw [decide_eq_false (by omega)]; rfl
    · rw [if_neg h1, if_neg h2, decide_eq_true (by omega)]; rfl
theorem scmp_add (x y z : Int) : scmp (x + z) (y + z) = scmp x y := by
  unfold scmp
  by_cases h1 : x < y
  · rw [if_pos h1, if_pos (by omega)]
  · by_cases h2 : y < x
    · rw [if_neg h1, if_pos h2, if_neg (by omega), if_pos (by omega)]
    · rw [if_neg h1, if_neg h2, if_neg (by omega), if_neg (by omega)]
theorem WideOrder : linhaylaw02_WideOrder.Pure := by
  intro a b c d e f ha hb hc hd he hf
  have ha : W64 a := nwf_u64 ha
  have hb : W64 b := nwf_u64 hb
  have hc : W64 c := nwf_u64 hc
  have hd : W64 d := nwf_u64 hd
  have he : W64 e := nwf_u64 he
  have hf : W64 f := nwf_u64 hf
  refine ⟨200, ?_⟩
  obtain ⟨X, hX⟩ : ∃ X, X = a * 18446744073709551616 + b := ⟨_, rfl⟩
  obtain ⟨Y, hY⟩ : ∃ Y, Y = c * 18446744073709551616 + d := ⟨_, rfl⟩
  obtain ⟨Z, hZ⟩ : ∃ Z, Z = e * 18446744073709551616 + f := ⟨_, rfl⟩
  have X0 : 0 ≤ X ∧ X < 340282366920938463463374607431768211456 := by unfold W64 at *; omega
  have Y0 : 0 ≤ Y ∧ Y < 340282366920938463463374607431768211456 := by unfold W64 at *; omega
  have Z0 : 0 ≤ Z ∧ Z < 340282366920938463463374607431768211456 := by unfold W64 at *; omega
  have hj : linhaylaw02_WideOrder.j0 (199 + 1) true (scmp X Y) true a b c d e f = some true := by
    rw [linhaylaw02_WideOrder.j0, wide_Add_big ha hb he hf, wide_Add_big hc hd he hf, wide_Cmp_eq 199 (by decide) hd.1 hd.2 hb.1 hb.2, ← hX, ← hY, ← hZ]
    simp only [Option.bind_some, if_true]
    have h3 : (a == c && b == d) = decide (X = Y) := by
      rw [Bool.eq_iff_iff]; simp; unfold W64 at *; omega
    rw [scmp_neg, if_pos rfl, scmp_zero, h3]
    simp only [beq_self_eq_true, if_true]
    by_cases h1 : 340282366920938463463374607431768211456 ≤ X + Z
    · simp [h1]
    · by_cases h2 : 340282366920938463463374607431768211456 ≤ Y + Z
      · simp [h1, h2]
      · rw [wide_Cmp_eq 199 (by decide) (by omega) (by omega) (by omega) (by omega), big_val (X + Z) (by omega) (by omega), big_val (Y + Z) (by omega) (by omega), scmp_add]
        simp [h1, h2]
  unfold linhaylaw02_WideOrder.f
  rw [awake02_le 200 (by decide), wide_Cmp_eq 200 (by decide) hb.1 hb.2 hd.1 hd.2, wide_Cmp_eq 200 (by decide) hd.1 hd.2 hf.1 hf.2, wide_Cmp_eq 200 (by decide) hb.1 hb.2 hf.1 hf.2, ← hX, ← hY, ← hZ]
  simp only [Option.bind_some]
  by_cases h1 : scmp X Y ≤ 0
  · rw [if_pos h1]; exact hj
  · rw [if_neg h1]
    by_cases h2 : scmp Y Z ≤ 0
    · rw [if_pos h2]; exact hj
    · rw [if_neg h2]
      have h3 : scmp X Z > 0 := by
        have a1 := mt scmp_le.2 h1
        have a2 := mt scmp_le.2 h2
        have : ¬ scmp X Z ≤ 0 := mt scmp_le.1 (by omega)
        omega
      rw [decide_eq_true h3]; exact hj
end Go.Proofs.Ytkicianajhnpkaa.Pure
