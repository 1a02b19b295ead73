/- WordTells: for all numbers, word.Plus, Times, Add, Sub, Mul, Shl, Shr, Of and Int answer what the reference answers. No condition but the numbers' own kinds. -/
import Derived.Test.YtkngogjcenmahaaFactsWord
import Derived.Test.YtkngogjcenmahaaFactsRef01
import Derived.Test.YtkngogjcenmahaaPrint5
import Derived.Test.YtkngogjcenmahaaPrint5
namespace Go.Proofs.Ytkngogjcenmahaa.Pure
set_option linter.unusedVariables false
set_option linter.unusedSimpArgs false
open Go.RowKit Go.Proofs.Ytkngogjcenmahaa.Print Go.Proofs.Ytkngogjcenmahaa.Facts Go.Proofs.YtkngogjcenmahaaW.PrintWords Go.Proofs.YtkngogjcenmahaaW.PrintLast Go.Proofs.YtkngogjcenmahaaW.PrintMore
theorem WordTells : linhaylaw01_WordTells.Pure := by
  intro a b n i ha hb hn hi
  obtain ⟨ha, ha'⟩ := wf_u64 ha
  obtain ⟨hb, hb'⟩ := wf_u64 hb
  obtain ⟨hn, hn'⟩ := wf_u64 hn
  obtain ⟨hi, hi'⟩ := wf_i64 hi
  refine ⟨70, ?_⟩
  unfold linhaylaw01_WordTells.f
  have hw : linhaylaw01_awake.f = some true := rfl
  rw [hw, word_Plus_eq ha hb, ref01_Plus_eq ha hb hb', word_Times_eq ha ha' hb hb', ref01_Times_eq ha hb, word_Add_eq ha hb, ref01_Add_eq ha hb hb', word_Sub_eq ha ha' hb, ref01_Sub_eq ha ha' hb, word_Mul_eq ha ha' hb hb', ref01_Mul_eq ha hb]
  simp only [Option.bind_some, if_true, beq_self_eq_true]
  show linhaylaw01_WordTells.j0 (69 + 1) a n i true true = some true
  simp only [linhaylaw01_WordTells.j0, if_true]
  rw [word_Shl_eq ha ha' hn hn', ref01_Shl_eq ha ha' hn hn' 69 (by omega), word_Shr_eq ha ha' hn, ref01_Shr_eq ha ha' hn hn' 69 (by omega), word_Of_eq hi', ref01_Of_eq hi', word_Int_eq ha, ref01_Int_eq ha]
  simp only [Option.bind_some, if_true, beq_self_eq_true]
end Go.Proofs.Ytkngogjcenmahaa.Pure
