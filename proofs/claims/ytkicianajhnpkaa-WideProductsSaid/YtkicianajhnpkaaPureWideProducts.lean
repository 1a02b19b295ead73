/- WideProducts: products do not hang on the order, go with sums, and are divided again. For all numbers, no condition. -/
import Derived.Test.YtkicianajhnpkaaFactsNum
import Derived.Test.YtkicianajhnpkaaFactsWide
import Derived.Test.YtkicianajhnpkaaFactsAwake02
import Derived.Test.YtkicianajhnpkaaPrint18
import Derived.Test.YtkicianajhnpkaaPrint7
namespace Go.Proofs.Ytkicianajhnpkaa.Pure
set_option linter.unusedVariables false
set_option linter.unusedSimpArgs false
open Go.RowKit Go.Proofs.Ytkicianajhnpkaa.Print Go.Proofs.Ytkicianajhnpkaa.Facts Go.Proofs.YtkicianajhnpkaaW.PrintWords Go.Proofs.YtkicianajhnpkaaW.PrintLast Go.Proofs.YtkicianajhnpkaaW.PrintMore
theorem WideProducts : linhaylaw02_WideProducts.Pure := by
  intro a b c ha hb hc
  have ha : W64 a := nwf_u64 ha
  have hb : W64 b := nwf_u64 hb
  have hc : W64 c := nwf_u64 hc
  refine ⟨200, ?_⟩
  have hj : linhaylaw02_WideProducts.j0 (199 + 1) a b true true = some true := by
    obtain ⟨p0, p1⟩ := mul_word ha.1 ha.2 hb.1 hb.2
    rw [linhaylaw02_WideProducts.j0, wide_Mul_eq ha.1 ha.2 hb.1 hb.2, wide_Mul_eq hb.1 hb.2 ha.1 ha.2, wide_Mul_eq ha.1 ha.2 (by decide) (by decide), Int.mul_comm b a]
    simp only [Option.bind_some]
    have hh : W64 (a * b / 18446744073709551616) := by unfold W64; omega
    by_cases hz : b = 0
    · subst hz; rw [wide_Div_zero]; simp [wide_Of.f]; unfold W64 at ha; omega
    · have hbp : 0 < b := by unfold W64 at hb; omega
      have e : a * b / 18446744073709551616 * 18446744073709551616 + a * b % 18446744073709551616 = a * b := by omega
      have e1 : a / 18446744073709551616 = 0 := Int.ediv_eq_zero_of_lt ha.1 ha.2
      have e2 : a % 18446744073709551616 = a := Int.emod_eq_of_lt ha.1 ha.2
      rw [wide_Div_eq 199 (by decide) hh.1 hh.2 hbp hb.2 (by omega) (by omega), e, Int.mul_ediv_cancel _ (by omega), Int.mul_emod_left]
      have hnz : ¬ b = 0 := hz
      simp [wide_Of.f, hnz, hbp, e1, e2]
  unfold linhaylaw02_WideProducts.f
  rw [awake02_le 200 (by decide), wide_Mul_eq ha.1 ha.2 hb.1 hb.2, wide_Mul_eq ha.1 ha.2 hc.1 hc.2]
  simp only [Option.bind_some]
  obtain ⟨p0, p1⟩ := mul_word ha.1 ha.2 hb.1 hb.2
  obtain ⟨q0, q1⟩ := mul_word ha.1 ha.2 hc.1 hc.2
  rw [wide_Add_big (by unfold W64; omega) (W64_mod _) (by unfold W64; omega) (W64_mod _)]
  simp only [Option.bind_some]
  by_cases hw : IntKind.u64.wrap (b + c) < b
  · rw [if_pos hw]; exact hj
  · rw [if_neg hw]
    have hsum : b + c < 18446744073709551616 := by unfold W64 at *; rw [IntKind.wrap_u64] at hw; omega
    have hbc : 0 ≤ b + c := by unfold W64 at *; omega
    rw [nwr hbc hsum, wide_Mul_eq ha.1 ha.2 hbc hsum]
    have hd : a * (b + c) = a * b + a * c := Int.mul_add a b c
    rw [hd]
    have e : a * b / 18446744073709551616 * 18446744073709551616 + a * b % 18446744073709551616 + (a * c / 18446744073709551616 * 18446744073709551616 + a * c % 18446744073709551616) = a * b + a * c := by omega
    obtain ⟨r0, r1⟩ := mul_word ha.1 ha.2 hbc hsum
    rw [hd] at r0 r1
    rw [e]
    rw [decide_eq_false (by omega)]
    simp only [Option.bind_some, Bool.false_eq_true, if_false]
    have e3 : (a * b + a * c) / 18446744073709551616 % 18446744073709551616 = (a * b + a * c) / 18446744073709551616 := by omega
    rw [e3]
    simp only [beq_self_eq_true, Bool.and_self]
    exact hj
end Go.Proofs.Ytkicianajhnpkaa.Pure
