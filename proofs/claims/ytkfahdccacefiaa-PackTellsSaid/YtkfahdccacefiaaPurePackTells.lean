/- PackTells: what its row says of pack, and awake holds. For all inputs, no condition. -/
import Derived.Test.YtkfahdccacefiaaStPackTells
import Derived.Test.YtkfahdccacefiaaFactsPack2
import Derived.Test.YtkfahdccacefiaaFactsAwake07
import Derived.Test.YtkfahdccacefiaaPrint5
namespace Go.Proofs.Ytkfahdccacefiaa.Pure
set_option linter.unusedVariables false
set_option linter.unusedSimpArgs false
open Go.RowKit Go.Proofs.Ytkfahdccacefiaa.Print Go.Proofs.Ytkfahdccacefiaa.Facts Go.Proofs.YtkfahdccacefiaaW.PrintWords Go.Proofs.YtkfahdccacefiaaW.PrintLast Go.Proofs.YtkfahdccacefiaaW.PrintMore
theorem takeTexts_some_small {s : List UInt8} {l : List (List UInt8)} {r : List UInt8} (h : takeTextsS s = some (l, r)) : l.length ≤ s.length := by
  unfold takeTextsS at h
  obtain ⟨⟨v, q⟩, h1, h2⟩ := Option.bind_eq_some_iff.mp h
  obtain ⟨e1, e2⟩ := takeK_some _ _ _ _ h2
  have lt := takeS_lt h1
  rcases Nat.lt_or_ge q.length v.toNat with k | k
  · rw [takeK_few _ _ k] at h2; cases h2
  · simp only at e1; omega
theorem PackTells : linhaylaw07_PackTells.Pure := by
  intro b l t n hb hl hw ht hts hn
  have hn := nwf_u64 hn
  have hwl : W64l l := fun x hx => nwf_u64 (hw x hx)
  have mx : maxLen ≤ 9223372036854775807 := by decide
  refine ⟨5000 + t.length, ?_⟩
  unfold linhaylaw07_PackTells.f
  rw [awake07_le _ (by omega)]
  simp only [Option.bind_some]
  by_cases c1 : (b.size : Int) > 1000
  · rw [if_pos c1]; simp [show 5000 + t.length = (4999 + t.length) + 1 by omega, linhaylaw07_PackTells.j0]
  rw [if_neg c1]
  by_cases c2 : (l.length : Int) > 1000
  · rw [if_pos c2]; simp [show 5000 + t.length = (4999 + t.length) + 1 by omega, linhaylaw07_PackTells.j0]
  rw [if_neg c2]
  obtain ⟨f, hf, hh⟩ := ref07_Few_eq t (by omega) 100 (5000 + t.length) (by omega)
  rw [hf]
  simp only [Option.bind_some]
  cases f with
  | false => simp [show 5000 + t.length = (4999 + t.length) + 1 by omega, linhaylaw07_PackTells.j0]
  | true =>
    obtain ⟨h1, h2⟩ := hh rfl
    have ht2 := tot_le t h1
    obtain ⟨k, hk⟩ : ∃ k, 5000 + t.length = k + 2 := ⟨4998 + t.length, by omega⟩
    rw [hk]
    simp only [linhaylaw07_PackTells.j0]
    rw [if_neg (by simp)]
    rw [pack_Take_eq b (by omega) _ (by omega), ref07_Take_eq b (by omega) _ (by omega), pack_TakeText_eq b (by omega) _ (by omega), ref07_TakeText_eq b (by omega) _ (by omega), pack_TakeTexts_eq b (by omega) _ (by omega), ref07_TakeTexts_eq b (by omega) _ (by omega)]
    simp only [Option.bind_some, if_true]
    have hsm : (ansK [] (takeTextsS (bL b))).1.length ≤ 1000 := by
      cases h : takeTextsS (bL b) with
      | none => simp [ansK]
      | some p =>
        have := takeTexts_some_small (l := p.1) (r := p.2) h
        rw [bL_size] at this
        simp [ansK]; omega
    rw [ref07_Same_eq _ (by omega) _ (by omega)]
    simp only [Option.bind_some, if_true, linhaylaw07_PackTells.j1, beq_self_eq_true]
    rw [pack_Put_eq b l hwl (by omega), ref07_Put_eq b l hwl (by omega) (by omega) _ (by omega), pack_Text_eq b b (by omega), ref07_Text_eq b b (by omega) _ (by omega), pack_Texts_eq b t (by omega) (by omega) _ (by omega), ref07_Texts_eq b t (by omega) (by omega) _ (by omega), pack_Size_eq n hn.1 hn.2, ref07_Size_eq n hn.1 hn.2 _ (by omega)]
    simp
end Go.Proofs.Ytkfahdccacefiaa.Pure
