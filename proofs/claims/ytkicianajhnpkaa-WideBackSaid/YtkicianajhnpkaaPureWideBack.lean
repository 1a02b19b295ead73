/- WideBack: what is added is taken away again, and one of both tells that it went over just if the other one tells that it went under. For all numbers, no condition. -/
import Derived.Test.YtkicianajhnpkaaStWideBack
import Derived.Test.YtkicianajhnpkaaFactsNum
import Derived.Test.YtkicianajhnpkaaFactsWide
import Derived.Test.YtkicianajhnpkaaFactsRef02
import Derived.Test.YtkicianajhnpkaaFactsSub
import Derived.Test.YtkicianajhnpkaaFactsAwake02
import Derived.Test.YtkicianajhnpkaaPrint16
namespace Go.Proofs.Ytkicianajhnpkaa.Pure
set_option linter.unusedVariables false
set_option linter.unusedSimpArgs false
open Go.RowKit Go.Proofs.Ytkicianajhnpkaa.Print Go.Proofs.Ytkicianajhnpkaa.Facts Go.Proofs.YtkicianajhnpkaaW.PrintWords Go.Proofs.YtkicianajhnpkaaW.PrintLast Go.Proofs.YtkicianajhnpkaaW.PrintMore
theorem WideBack : linhaylaw02_WideBack.Pure := by
  intro a b c d ha hb hc hd
  have ha : W64 a := nwf_u64 ha
  have hb : W64 b := nwf_u64 hb
  have hc : W64 c := nwf_u64 hc
  have hd : W64 d := nwf_u64 hd
  refine ⟨200, ?_⟩
  unfold linhaylaw02_WideBack.f
  obtain ⟨X, hX⟩ : ∃ X, X = a * 18446744073709551616 + b := ⟨_, rfl⟩
  obtain ⟨Y, hY⟩ : ∃ Y, Y = c * 18446744073709551616 + d := ⟨_, rfl⟩
  have X0 : 0 ≤ X ∧ X < 340282366920938463463374607431768211456 := by unfold W64 at *; omega
  have Y0 : 0 ≤ Y ∧ Y < 340282366920938463463374607431768211456 := by unfold W64 at *; omega
  rw [awake02_le 200 (by decide), wide_Add_big ha hb hc hd, wide_Sub_big ha hb hc hd]
  simp only [Option.bind_some]
  rw [wide_Sub_big (W64_mod _) (W64_mod _) hc hd, wide_Add_big (W64_mod _) (W64_mod _) hc hd, wide_Cmp_eq 200 (by decide) hb.1 hb.2 hd.1 hd.2, big_mod, big_mod, ← hX, ← hY]
  simp only [Option.bind_some, if_true]
  have e1 : ((X + Y) % 340282366920938463463374607431768211456 - Y) % 340282366920938463463374607431768211456 = a * 18446744073709551616 + b := by omega
  have e2 : ((X - Y) % 340282366920938463463374607431768211456 + Y) % 340282366920938463463374607431768211456 = a * 18446744073709551616 + b := by omega
  obtain ⟨p1, p2⟩ := big_eq hb ha e1
  obtain ⟨p3, p4⟩ := big_eq hb ha e2
  rw [p1, p2, p3, p4]
  have q1 : decide (340282366920938463463374607431768211456 ≤ X + Y) = decide ((X + Y) % 340282366920938463463374607431768211456 < Y) := by rw [decide_eq_decide]; omega
  have q2 : decide (X < Y) = decide (340282366920938463463374607431768211456 ≤ (X - Y) % 340282366920938463463374607431768211456 + Y) := by rw [decide_eq_decide]; omega
  have q3 : decide (X < Y) = decide (scmp X Y < 0) := by
    rw [decide_eq_decide]; unfold scmp; split
    · omega
    · split <;> omega
  rw [q1, ← q2, ← q3]
  simp
end Go.Proofs.Ytkicianajhnpkaa.Pure
