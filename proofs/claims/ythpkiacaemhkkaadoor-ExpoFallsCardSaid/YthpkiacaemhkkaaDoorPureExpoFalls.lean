/- ExpoFalls: what its row says of expo, and awake holds. For all inputs, no condition but the row's own (the table lies as the text lays it). -/
import Derived.Test.YthpkiacaemhkkaaDoorStExpoFalls
import Derived.Test.YthpkiacaemhkkaaDoorFactsExpo
import Derived.Test.YthpkiacaemhkkaaDoorPrint5
namespace Go.Proofs.YthpkiacaemhkkaaDoor.Pure
set_option linter.unusedVariables false
set_option linter.unusedSimpArgs false
open Go.RowKit Go.Proofs.YthpkiacaemhkkaaDoor.Print Go.Proofs.YthpkiacaemhkkaaDoor.Facts Go.Proofs.YthpkiacaemhkkaaDoorW.PrintWords Go.Proofs.YthpkiacaemhkkaaDoorW.PrintLast Go.Proofs.YthpkiacaemhkkaaDoorW.PrintMore
theorem ExpoFalls : linhaylaw05_ExpoFalls.Pure := by
  intro x y hx hy
  have hx := nwf_u64 hx
  have hy := nwf_u64 hy
  refine ⟨300, ?_⟩
  unfold linhaylaw05_ExpoFalls.f
  have m0 : 0 ≤ mn x y ∧ mn x y ≤ mx x y ∧ mx x y < 18446744073709551616 := by unfold mn mx; omega
  rw [awake05_le 300 (by decide), nwr (n := mx x y - mn x y) (by omega) (by omega), Int.tmod_eq_emod_of_nonneg m0.1, Int.tmod_eq_emod_of_nonneg (by omega)]
  generalize mn x y = p at *
  generalize mx x y = q at *
  obtain ⟨l, hl⟩ : ∃ l : Nat, p % 137438953472 = l := ⟨(p % 137438953472).toNat, by omega⟩
  obtain ⟨e, he⟩ : ∃ e : Nat, (q - p) % 137438953472 = e := ⟨((q - p) % 137438953472).toNat, by omega⟩
  rw [hl, he, nwr (n := (l : Int) + e) (by omega) (by omega), expo_Of_eq 300 (by decide) (x := (l : Int)) ⟨by omega, by omega⟩, expo_Of_eq 300 (by decide) (x := (l : Int) + e) ⟨by omega, by omega⟩]
  simp only [Option.bind_some, if_true]
  have b1 := ofS_bd (l : Int)
  have b2 := ofS_bd ((l : Int) + e)
  rw [if_pos b1.2, nwr (by omega) (by omega)]
  congr 1
  rw [decide_eq_true_eq]
  by_cases c : (l : Int) + e ≥ 137438953472
  · have : ofS ((l : Int) + e) = 0 := by unfold ofS; rw [if_pos c]
    omega
  · have f := EM.of_falls l e (by omega)
    have o1 : ofS ((l : Int) + e) = EM.F (l + e) / 1073741824 := by unfold ofS; rw [if_neg c]; rfl
    have o2 : ofS (l : Int) = EM.F l / 1073741824 := by unfold ofS; rw [if_neg (by omega)]; rfl
    rw [o1, o2]; exact f
end Go.Proofs.YthpkiacaemhkkaaDoor.Pure
