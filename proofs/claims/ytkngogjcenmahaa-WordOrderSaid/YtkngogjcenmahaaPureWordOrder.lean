/- WordOrder: sums and products do not hang on the order of their parts, and rise with them. For all numbers, no condition. -/
import Derived.Test.YtkngogjcenmahaaFactsWord
import Derived.Test.YtkngogjcenmahaaPrint7
import Derived.Test.YtkngogjcenmahaaPrint7
namespace Go.Proofs.Ytkngogjcenmahaa.Pure
set_option linter.unusedVariables false
set_option linter.unusedSimpArgs false
open Go.RowKit Go.Proofs.Ytkngogjcenmahaa.Print Go.Proofs.Ytkngogjcenmahaa.Facts Go.Proofs.YtkngogjcenmahaaW.PrintWords Go.Proofs.YtkngogjcenmahaaW.PrintLast Go.Proofs.YtkngogjcenmahaaW.PrintMore
theorem WordOrder : linhaylaw01_WordOrder.Pure := by
  intro a b c ha hb hc
  obtain ⟨ha, ha'⟩ := wf_u64 ha
  obtain ⟨hb, hb'⟩ := wf_u64 hb
  obtain ⟨hc, hc'⟩ := wf_u64 hc
  refine ⟨70, ?_⟩
  have hw : linhaylaw01_awake.f = some true := rfl
  unfold linhaylaw01_WordOrder.f
  rw [hw, word_Add_eq ha hb, word_Add_eq hb ha, word_Mul_eq ha ha' hb hb', word_Mul_eq hb hb' ha ha']
  simp only [Option.bind_some]
  rw [if_pos (by omega), if_pos (by rw [Int.mul_comm]), word_Add_eq (by omega) hc, word_Add_eq hb hc]
  simp only [Option.bind_some]
  rw [word_Add_eq ha (by omega)]
  simp only [Option.bind_some]
  rw [show (min (min (a + b) 18446744073709551615 + c) 18446744073709551615 == min (a + min (b + c) 18446744073709551615) 18446744073709551615) = true by simp; omega]
  obtain ⟨x, hx⟩ : ∃ x, x = mn a b := ⟨_, rfl⟩
  obtain ⟨y, hy⟩ : ∃ y, y = mx a b := ⟨_, rfl⟩
  rw [← hx, ← hy]
  unfold mn at hx
  unfold mx at hy
  have hx0 : 0 ≤ x ∧ x ≤ y ∧ y < 18446744073709551616 := by split at hx <;> split at hy <;> omega
  obtain ⟨hx0, hxy, hy'⟩ := hx0
  have hm : x * c ≤ y * c := Int.mul_le_mul_of_nonneg_right hxy hc
  show linhaylaw01_WordOrder.j0 (69 + 1) c true x y true = some true
  simp only [linhaylaw01_WordOrder.j0, if_true]
  rw [word_Add_eq hx0 hc, word_Add_eq (by omega) hc]
  simp only [Option.bind_some]
  rw [if_pos (by omega), word_Mul_eq hx0 (by omega) hc hc', word_Mul_eq (by omega) (by omega) hc hc']
  simp only [Option.bind_some]
  rw [if_pos (by omega), word_Sub_eq hx0 (by omega) hc, word_Sub_eq (by omega) (by omega) hc]
  simp only [Option.bind_some]
  rw [if_pos (by omega), word_Sub_eq hc hc' hx0, word_Sub_eq hc hc' (by omega)]
  simp only [Option.bind_some]
  rw [decide_eq_true (by omega)]
end Go.Proofs.Ytkngogjcenmahaa.Pure
