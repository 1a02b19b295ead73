/- PackOwn: what its row says of pack, and awake holds. For all inputs, no condition. -/
import Derived.Test.YtkfahdccacefiaaFactsPack2
import Derived.Test.YtkfahdccacefiaaFactsAwake07
import Derived.Test.YtkfahdccacefiaaPrint2
import Derived.Test.YtkfahdccacefiaaPrint6
namespace Go.Proofs.Ytkfahdccacefiaa.Pure
set_option linter.unusedVariables false
set_option linter.unusedSimpArgs false
open Go.RowKit Go.Proofs.Ytkfahdccacefiaa.Print Go.Proofs.Ytkfahdccacefiaa.Facts Go.Proofs.YtkfahdccacefiaaW.PrintWords Go.Proofs.YtkfahdccacefiaaW.PrintLast Go.Proofs.YtkfahdccacefiaaW.PrintMore
theorem PackOwn : linhaylaw07_PackOwn.Pure := by
  intro b hb
  refine ⟨1200, ?_⟩
  unfold linhaylaw07_PackOwn.f
  rw [awake07_le _ (by omega)]
  simp only [Option.bind_some]
  by_cases c1 : (b.size : Int) > 1000
  · rw [if_pos c1]
  rw [if_neg c1, pack_Take_eq b (by omega) _ (by omega), pack_TakeText_eq b (by omega) _ (by omega), pack_TakeTexts_eq b (by omega) _ (by omega)]
  simp only [Option.bind_some]
  have ez : bL (⟨#[]⟩ : ByteArray) = [] := rfl
  have sz : (⟨#[]⟩ : ByteArray).size = 0 := rfl
  have tz : (⟨#[]⟩ : ByteArray).toList = ([] : List UInt8) := by rw [bL_toList, ez]
  have tzb : ((⟨#[]⟩ : ByteArray).toList == ([] : List UInt8)) = true := by rw [tz]; rfl
  have bl : (bL b).length ≤ 1000 := by rw [bL_size]; omega
  -- each of the three parts
  have P1 : ∀ n r, takeS (bL b) = some (n, r) → pack_Put.f (⟨#[]⟩ : ByteArray) [n] = some (lB (enc n)) ∧ (lB (enc n)).size + (lB r).size ≤ 9223372036854775807 ∧ (lB (enc n) ++ lB r).toList = b.toList := by
    intro n r h
    obtain ⟨g1, g2, g3⟩ := takeS_some h
    have gl := congrArg List.length g3
    rw [List.length_append] at gl
    refine ⟨by rw [pack_Put_eq _ [n] (w64_one g1 g2) (by rw [sz]; simp), ez, Facts.encs_one, List.nil_append], by rw [lB_size, lB_size]; omega, ?_⟩
    rw [lB_append, ← g3, lB_bL]
  have P2 : ∀ t r, takeTextS (bL b) = some (t, r) → pack_Text.f (⟨#[]⟩ : ByteArray) (lB t) = some (lB (textS t)) ∧ (lB (textS t)).size + (lB r).size ≤ 9223372036854775807 ∧ (lB (textS t) ++ lB r).toList = b.toList := by
    intro t r h
    have g3 := takeTextS_some h
    have gl := congrArg List.length g3
    rw [List.length_append] at gl
    have tl : t.length ≤ (textS t).length := by unfold textS; simp
    refine ⟨by rw [pack_Text_eq _ _ (by rw [sz, lB_size]; omega), ez, bL_lB, List.nil_append], by rw [lB_size, lB_size]; omega, ?_⟩
    rw [lB_append, ← g3, lB_bL]
  have P3 : ∀ l r, takeTextsS (bL b) = some (l, r) → pack_Texts.f 1200 (⟨#[]⟩ : ByteArray) (l.map lB) = some (lB (textsS l)) ∧ (lB (textsS l)).size + (lB r).size ≤ 9223372036854775807 ∧ (lB (textsS l) ++ lB r).toList = b.toList := by
    intro l r h
    have g3 := takeTextsS_some h
    have gl := congrArg List.length g3
    rw [List.length_append] at gl
    have hk : l.length ≤ (textsK l).length ∧ tot (l.map lB) ≤ 20 * (textsK l).length := by
      clear h g3 gl
      induction l with
      | nil => simp [textsK, tot]
      | cons t l ih =>
        have := encF_pos 9 (t.length : Int)
        rw [List.map_cons, tot_cons, lB_size]
        simp only [textsK, List.flatMap_cons, List.length_append, List.length_cons] at ih ⊢
        have e : (textS t).length = (encF 9 (t.length : Int)).length + t.length := by unfold textS enc; simp
        omega
    have hx : (textsS l).length = (enc (l.length : Int)).length + (textsK l).length := by unfold textsS; simp
    have em : bLs (l.map lB) = l := by
      unfold bLs
      rw [List.map_map]
      conv => rhs; rw [← List.map_id l]
      exact List.map_congr_left (fun x _ => bL_lB x)
    refine ⟨by rw [pack_Texts_eq _ _ (by rw [List.length_map]; omega) (by rw [sz]; omega) _ (by rw [List.length_map]; omega), ez, em, List.nil_append], by rw [lB_size, lB_size]; omega, ?_⟩
    rw [lB_append, ← g3, lB_bL]
  cases h1 : takeS (bL b) with
  | none =>
    have h2 : takeTextS (bL b) = none := by unfold takeTextS; rw [h1]; rfl
    have h3 : takeTextsS (bL b) = none := by unfold takeTextsS; rw [h1]; rfl
    rw [h2, h3]
    simp [ansT, ansTT, ansK, tz, tzb]
  | some p =>
    obtain ⟨n, r⟩ := p
    obtain ⟨a1, a2, a3⟩ := P1 n r h1
    simp only [ansT, if_true, a1, Option.bind_some]
    rw [if_pos a2, if_pos a3]
    cases h2 : takeTextS (bL b) with
    | none =>
      cases h3 : takeTextsS (bL b) with
      | none => simp [ansTT, ansK, tz, tzb]
      | some q =>
        obtain ⟨l, s⟩ := q
        obtain ⟨d1, d2, d3⟩ := P3 l s h3
        simp only [ansTT, ansK, List.nil_append, if_true, tz, d1, Option.bind_some]
        rw [if_neg (show ¬ (70 : Int) = 0 by decide)]
        simp only [d2, d3, if_true]
    | some q =>
      obtain ⟨t, u⟩ := q
      obtain ⟨b1, b2, b3⟩ := P2 t u h2
      simp only [ansTT, if_true, b1, Option.bind_some]
      simp only [b2, b3, if_true]
      cases h3 : takeTextsS (bL b) with
      | none => simp [ansK, tz, tzb]
      | some q =>
        obtain ⟨l, s⟩ := q
        obtain ⟨d1, d2, d3⟩ := P3 l s h3
        simp only [ansK, List.nil_append, if_true, d1, Option.bind_some]
        simp only [d2, d3, if_true]
end Go.Proofs.Ytkfahdccacefiaa.Pure
