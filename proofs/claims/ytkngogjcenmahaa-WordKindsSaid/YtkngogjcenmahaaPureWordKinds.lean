/- WordKinds: a number of one kind is told back from the other one, as far as it goes, and both rise. For all numbers, no condition. -/
import Derived.Test.YtkngogjcenmahaaFactsWord
import Derived.Test.YtkngogjcenmahaaPrint9
import Derived.Test.YtkngogjcenmahaaPrint9
namespace Go.Proofs.Ytkngogjcenmahaa.Pure
set_option linter.unusedVariables false
set_option linter.unusedSimpArgs false
open Go.RowKit Go.Proofs.Ytkngogjcenmahaa.Print Go.Proofs.Ytkngogjcenmahaa.Facts Go.Proofs.YtkngogjcenmahaaW.PrintWords Go.Proofs.YtkngogjcenmahaaW.PrintLast Go.Proofs.YtkngogjcenmahaaW.PrintMore
theorem WordKinds : linhaylaw01_WordKinds.Pure := by
  intro a b i ha hb hi
  obtain ⟨ha, ha'⟩ := wf_u64 ha
  obtain ⟨hb, hb'⟩ := wf_u64 hb
  obtain ⟨hi, hi'⟩ := wf_i64 hi
  refine ⟨70, ?_⟩
  have hw : linhaylaw01_awake.f = some true := rfl
  have hj : linhaylaw01_WordKinds.j0 (69 + 1) a b i true true = some true := by
    simp only [linhaylaw01_WordKinds.j0, if_true]
    rw [word_Of_eq hi']
    simp only [Option.bind_some]
    rw [word_Int_eq (by omega)]
    simp only [Option.bind_some]
    rw [if_pos (by unfold mx; split <;> omega), word_Int_eq (by unfold mn; split <;> omega), word_Int_eq (by unfold mx; split <;> omega), word_Int_eq ha]
    simp only [Option.bind_some]
    rw [if_pos (by unfold mx mn; split <;> split <;> omega), decide_eq_true (by omega)]
  unfold linhaylaw01_WordKinds.f
  rw [hw, word_Int_eq ha]
  simp only [Option.bind_some]
  by_cases hc : a > 9223372036854775807
  · rw [if_pos hc, if_pos (by omega)]
    exact hj
  · rw [if_neg hc, word_Of_eq (by omega)]
    simp only [Option.bind_some]
    rw [show (max (min a 9223372036854775807) 0 == a) = true by simp; omega]
    exact hj
end Go.Proofs.Ytkngogjcenmahaa.Pure
