/- WordBack: what was added is taken away again, unless it was held; a shift up, and down again, leaves what was not held. For all numbers, no condition. -/
import Derived.Test.YtkngogjcenmahaaFactsWord
import Derived.Test.YtkngogjcenmahaaPrint6
import Derived.Test.YtkngogjcenmahaaPrint6
import Derived.Test.YtkngogjcenmahaaPrint6
namespace Go.Proofs.Ytkngogjcenmahaa.Pure
set_option linter.unusedVariables false
set_option linter.unusedSimpArgs false
open Go.RowKit Go.Proofs.Ytkngogjcenmahaa.Print Go.Proofs.Ytkngogjcenmahaa.Facts Go.Proofs.YtkngogjcenmahaaW.PrintWords Go.Proofs.YtkngogjcenmahaaW.PrintLast Go.Proofs.YtkngogjcenmahaaW.PrintMore
theorem WordBack : linhaylaw01_WordBack.Pure := by
  intro a b n ha hb hn
  obtain ⟨ha, ha'⟩ := wf_u64 ha
  obtain ⟨hb, hb'⟩ := wf_u64 hb
  obtain ⟨hn, hn'⟩ := wf_u64 hn
  refine ⟨70, ?_⟩
  have hw : linhaylaw01_awake.f = some true := rfl
  have hp := pow_pos n.toNat
  have hj : ∀ s e, (e = 0 ∨ e ≠ 0 ∧ s = 0 ∧ ¬ a + b < 18446744073709551616) → linhaylaw01_WordBack.j0 (69 + 1) a b n true s e true = some true := by
    intro s e hs
    simp only [linhaylaw01_WordBack.j0, if_true]
    have hq0 : 0 ≤ a / 2 ^ n.toNat := Int.ediv_nonneg ha (by omega)
    have hq1 : a / 2 ^ n.toNat ≤ a := Int.ediv_le_self _ ha
    have hq2 : a / 2 ^ n.toNat * 2 ^ n.toNat ≤ a := Int.ediv_mul_le a (by omega)
    have hm0 : 0 ≤ a * 2 ^ n.toNat := Int.mul_nonneg ha (by omega)
    have fin : (if e = 0 then some true else if s = 0 then (word_Add.f a b).bind fun t151 => some (t151 == 18446744073709551615) else some false) = some true := by
      rcases hs with h | ⟨h1, h2, h3⟩
      · rw [if_pos h]
      · rw [if_neg h1, if_pos h2, word_Add_eq ha hb]
        simp; omega
    rw [word_Shl_eq ha ha' hn hn']
    simp only [Option.bind_some]
    by_cases hc : a * 2 ^ n.toNat < 18446744073709551615
    · rw [if_neg (by omega), word_Shr_eq (by omega) (by omega) hn]
      rw [show min (a * 2 ^ n.toNat) 18446744073709551615 = a * 2 ^ n.toNat by omega]
      simp only [Option.bind_some]
      rw [if_pos (Int.mul_ediv_cancel _ (by omega)), word_Shr_eq ha ha' hn]
      simp only [Option.bind_some]
      rw [word_Shl_eq hq0 (by omega) hn hn']
      simp only [Option.bind_some]
      rw [if_pos (by omega)]
      exact fin
    · rw [if_pos (by omega), word_Shr_eq ha ha' hn]
      simp only [Option.bind_some]
      rw [word_Shl_eq hq0 (by omega) hn hn']
      simp only [Option.bind_some]
      rw [if_pos (by omega)]
      exact fin
  unfold linhaylaw01_WordBack.f
  rw [hw, word_Plus_eq ha hb]
  simp only [Option.bind_some]
  by_cases hc : a + b < 18446744073709551616
  · rw [if_pos hc]
    simp only [if_true]
    rw [word_Sub_eq (by omega) hc hb]
    simp only [Option.bind_some]
    rw [if_pos (by omega), word_Sub_eq (by omega) hc ha]
    simp only [Option.bind_some]
    rw [if_pos (by omega), word_Add_eq ha hb]
    simp only [Option.bind_some]
    rw [show (min (a + b) 18446744073709551615 == a + b) = true by simp; omega]
    exact hj _ _ (.inl rfl)
  · rw [if_neg hc]
    simp only [show ((10 : Int) = 0) = False by simp, if_false]
    exact hj _ _ (.inr ⟨by decide, rfl, hc⟩)
end Go.Proofs.Ytkngogjcenmahaa.Pure
