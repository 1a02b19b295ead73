
/- The same of linhayref03.Floor. -/
import Derived.Test.YthpkiacaemhkkaaDoorFactsNum
import Derived.Test.YthpkiacaemhkkaaDoorFactsWide
import Derived.Test.YthpkiacaemhkkaaDoorFactsRef02
import Derived.Test.YthpkiacaemhkkaaDoorFactsFloor
import Derived.Test.YthpkiacaemhkkaaDoorPrint4
namespace Go.Proofs.YthpkiacaemhkkaaDoor.Facts
set_option linter.unusedVariables false
set_option linter.unusedSimpArgs false
open Go.RowKit Go.Proofs.YthpkiacaemhkkaaDoor.Print Go.Proofs.YthpkiacaemhkkaaDoorW.PrintWords Go.Proofs.YthpkiacaemhkkaaDoorW.PrintLast Go.Proofs.YthpkiacaemhkkaaDoorW.PrintMore
theorem ref03_part_eq (k : Nat) (hk : 65 ≤ k) {a b c d : Int} (ha : W64 a) (hb : W64 b) (hc : W64 c) (hd : W64 d) :
    linhayref03_part.f k a b c d = some (if c = 0 then (0, 20) else if (a * b + d) / c < 18446744073709551616 then ((a * b + d) / c, 0) else (0, 10)) := by
  obtain ⟨p0, p1⟩ := mul_word ha.1 ha.2 hb.1 hb.2
  have hh : W64 (a * b / 18446744073709551616) := by unfold W64; omega
  have hd' := hd
  unfold W64 at hd'
  unfold linhayref03_part.f
  rw [ref02_Mul_eq ha.1 ha.2 hb.1 hb.2]
  simp only [Option.bind_some]
  rw [ref02_Add_eq hh.1 hh.2 (by omega) (by omega) (by decide) (by decide) hd.1 hd.2]
  simp only [Option.bind_some]
  obtain ⟨X, hX⟩ : ∃ X, X = a * b + d := ⟨_, rfl⟩
  have e1 : (a * b / 18446744073709551616 + 0 + (a * b % 18446744073709551616 + d) / 18446744073709551616) % 18446744073709551616 = X / 18446744073709551616 := by omega
  have e2 : (a * b % 18446744073709551616 + d) % 18446744073709551616 = X % 18446744073709551616 := by omega
  have e3 : decide (0 < (a * b / 18446744073709551616 + 0 + (a * b % 18446744073709551616 + d) / 18446744073709551616) / 18446744073709551616) = false := by
    rw [decide_eq_false]; omega
  have x0 : 0 ≤ X ∧ X < 340282366920938463463374607431768211456 := by omega
  rw [e1, e2, e3, ← hX]
  by_cases hz : c = 0
  · subst hz; rw [ref02_Div_zero]; simp
  · have hcp : 0 < c := by unfold W64 at hc; omega
    rw [ref02_Div_eq k hk (by omega) (by omega) hcp hc.2 (by omega) (by omega), if_neg hz, show X / 18446744073709551616 * 18446744073709551616 + X % 18446744073709551616 = X by omega]
    simp only [Option.bind_some, if_true, Bool.false_eq_true, if_false]
    have q0 : 0 ≤ X / c := Int.ediv_nonneg x0.1 (by omega)
    generalize X / c = q at *
    by_cases hq : q < 18446744073709551616
    · obtain ⟨e1, e2⟩ := big_hi q0 hq
      rw [if_pos hq, e1, e2]; simp
    · rw [if_neg hq, if_pos (by omega)]
theorem ref03_Floor_eq (k : Nat) (hk : 65 ≤ k) {a b c : Int} (ha : W64 a) (hb : W64 b) (hc : W64 c) : linhayref03_Floor.f k a b c = some (floorR a b c) := by
  unfold linhayref03_Floor.f
  rw [ref03_part_eq k hk ha hb hc ⟨by decide, by decide⟩]
  simp only [Option.bind_some, Int.add_zero]
  rfl
end Go.Proofs.YthpkiacaemhkkaaDoor.Facts
