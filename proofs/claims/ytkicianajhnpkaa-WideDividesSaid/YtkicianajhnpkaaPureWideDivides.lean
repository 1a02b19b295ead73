/- WideDivides: what was divided is the quotient times the divisor, and what is left over, that is less than the divisor. For all numbers, no condition. -/
import Derived.Test.YtkicianajhnpkaaStWideDivides
import Derived.Test.YtkicianajhnpkaaFactsNum
import Derived.Test.YtkicianajhnpkaaFactsWide
import Derived.Test.YtkicianajhnpkaaFactsAwake02
import Derived.Test.YtkicianajhnpkaaPrint17
import Derived.Test.YtkicianajhnpkaaPrint7
namespace Go.Proofs.Ytkicianajhnpkaa.Pure
set_option linter.unusedVariables false
set_option linter.unusedSimpArgs false
open Go.RowKit Go.Proofs.Ytkicianajhnpkaa.Print Go.Proofs.Ytkicianajhnpkaa.Facts Go.Proofs.YtkicianajhnpkaaW.PrintWords Go.Proofs.YtkicianajhnpkaaW.PrintLast Go.Proofs.YtkicianajhnpkaaW.PrintMore
theorem WideDivides : linhaylaw02_WideDivides.Pure := by
  intro a b d ha hb hd
  have ha : W64 a := nwf_u64 ha
  have hb : W64 b := nwf_u64 hb
  have hd : W64 d := nwf_u64 hd
  refine ⟨200, ?_⟩
  unfold linhaylaw02_WideDivides.f
  rw [awake02_le 200 (by decide)]
  by_cases hz : d = 0
  · subst hz; rw [wide_Div_zero]; simp
  · have hdp : 0 < d := by unfold W64 at hd; omega
    rw [wide_Div_eq 200 (by decide) ha.1 ha.2 hdp hd.2 hb.1 hb.2]
    simp only [Option.bind_some]
    rw [if_neg hz]
    obtain ⟨X, hX⟩ : ∃ X, X = a * 18446744073709551616 + b := ⟨_, rfl⟩
    rw [← hX]
    have X0 : 0 ≤ X ∧ X < 340282366920938463463374607431768211456 := by unfold W64 at *; omega
    have hdm := Int.mul_ediv_add_emod X d
    have r0 := Int.emod_nonneg X (b := d) (by omega)
    have r1 := Int.emod_lt_of_pos X hdp
    obtain ⟨R, hR⟩ : ∃ R, R = X % d := ⟨_, rfl⟩
    obtain ⟨Q, hQ⟩ : ∃ Q, Q = X / d := ⟨_, rfl⟩
    have q0 : 0 ≤ Q := by rw [hQ]; exact Int.ediv_nonneg X0.1 (by omega)
    have q1 : Q ≤ X := by rw [hQ]; exact Int.ediv_le_self _ X0.1
    rw [← hR] at hdm r0 r1 ⊢
    rw [← hQ] at hdm ⊢
    have hql : W64 (Q % 18446744073709551616) := W64_mod _
    have hqh : W64 (Q / 18446744073709551616) := div_W64 q0 (by omega)
    have hRw : W64 R := ⟨r0, by unfold W64 at hd; omega⟩
    rw [wide_Mul_eq hql.1 hql.2 hd.1 hd.2, wide_Mul_eq hqh.1 hqh.2 hd.1 hd.2]
    simp only [Option.bind_some]
    have hsp : Q / 18446744073709551616 * d * 18446744073709551616 + Q % 18446744073709551616 * d + R = X := by
      have e : Q = 18446744073709551616 * (Q / 18446744073709551616) + Q % 18446744073709551616 := by omega
      have e2 : Q / 18446744073709551616 * d * 18446744073709551616 + Q % 18446744073709551616 * d = d * (18446744073709551616 * (Q / 18446744073709551616) + Q % 18446744073709551616) := by grind
      rw [e2, ← e]; exact hdm
    obtain ⟨pl0, pl1⟩ := mul_word hql.1 hql.2 hd.1 hd.2
    obtain ⟨ph0, ph1⟩ := mul_word hqh.1 hqh.2 hd.1 hd.2
    generalize Q % 18446744073709551616 * d = L at *
    generalize Q / 18446744073709551616 * d = H at *
    clear hdm hQ hR
    have hH : H < 18446744073709551616 := by omega
    have a1 : W64 (L / 18446744073709551616) := by unfold W64; omega
    rw [wide_Add_big a1 (W64_mod _) (W64_mod _) ⟨by decide, by decide⟩]
    simp only [Option.bind_some, wide_Of.f]
    have e1 : L / 18446744073709551616 * 18446744073709551616 + L % 18446744073709551616 + (H % 18446744073709551616 * 18446744073709551616 + 0) = H * 18446744073709551616 + L := by omega
    rw [e1, wide_Add_big (W64_mod _) (W64_mod _) ⟨by decide, by decide⟩ hRw, big_val (H * 18446744073709551616 + L) (by omega) (by omega)]
    simp only [Option.bind_some]
    have e2 : H * 18446744073709551616 + L + (0 * 18446744073709551616 + R) = X := by omega
    rw [e2]
    obtain ⟨p1, p2⟩ := big_eq (x := X) hb ha (by omega)
    rw [p1, p2, decide_eq_false (show ¬ 340282366920938463463374607431768211456 ≤ H * 18446744073709551616 + L by omega), decide_eq_false (show ¬ 340282366920938463463374607431768211456 ≤ X by omega), if_pos r1, if_pos (show H / 18446744073709551616 = 0 by omega)]
    simp
end Go.Proofs.Ytkicianajhnpkaa.Pure
