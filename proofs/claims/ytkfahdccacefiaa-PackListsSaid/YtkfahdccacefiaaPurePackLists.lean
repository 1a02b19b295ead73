/- PackLists: what its row says of pack, and awake holds. For all inputs, no condition. -/
import Derived.Test.YtkfahdccacefiaaStPackLists
import Derived.Test.YtkfahdccacefiaaFactsPack2
import Derived.Test.YtkfahdccacefiaaFactsAwake07
import Derived.Test.YtkfahdccacefiaaPrint2
import Derived.Test.YtkfahdccacefiaaPrint7
namespace Go.Proofs.Ytkfahdccacefiaa.Pure
set_option linter.unusedVariables false
set_option linter.unusedSimpArgs false
open Go.RowKit Go.Proofs.Ytkfahdccacefiaa.Print Go.Proofs.Ytkfahdccacefiaa.Facts Go.Proofs.YtkfahdccacefiaaW.PrintWords Go.Proofs.YtkfahdccacefiaaW.PrintLast Go.Proofs.YtkfahdccacefiaaW.PrintMore
theorem lists_loop (b : ByteArray) (t : List ByteArray) (hl : t.length ≤ 1000) (hb : b.size ≤ 2000) (ht : ∀ x ∈ t, x.size ≤ 1000) (r : List ByteArray) : ∀ (k i : Nat) (a : ByteArray), t.drop i = r → i ≤ t.length → a.size + tot r ≤ 9000000 → r.length + t.length + 2 < k →
    bL a ++ textsK (bLs r) = bL b ++ textsS (bLs t) → linhaylaw07_PackLists.l0 k t b true a (i : Int) = some true := by
  induction r with
  | nil =>
    intro k i a hr hi hs hk he
    obtain ⟨k, rfl⟩ : ∃ q, k = q + 1 := ⟨k - 1, by omega⟩
    have : t.length ≤ i := List.drop_eq_nil_iff.mp hr
    simp only [linhaylaw07_PackLists.l0]
    rw [if_neg (by omega), if_pos trivial, pack_Texts_eq b t (by omega) (by have := tot_le t ht; omega) _ (by omega)]
    simp only [Option.bind_some]
    rw [← he]
    simp [bLs, textsK, lB_bL]
  | cons x r ih =>
    intro k i a hr hi hs hk he
    simp only [List.length_cons] at hk
    obtain ⟨k, rfl⟩ : ∃ q, k = q + 1 := ⟨k - 1, by omega⟩
    obtain ⟨e1, e2, e3⟩ := rdOf_drop hr
    rw [tot_cons] at hs
    have hx := textS_len (bL x)
    rw [bL_size] at hx
    have hxe := enc_len (x.size : Int)
    have w1 : Aside0 (wrap64 ((i : Int) + 1) = ((i + 1 : Nat) : Int)) := ⟨by unfold wrap64; omega⟩
    simp only [linhaylaw07_PackLists.l0]
    rw [if_pos (by omega), if_pos (by omega), e1, pack_Text_eq a x (by omega), nwr (by omega) (by omega), pack_Put_eq a _ (w64_one (by omega) (by omega)) (by simp; omega), Facts.encs_one]
    simp only [Option.bind_some]
    have e4 : lB (bL a ++ enc (x.size : Int)) ++ x = lB (bL a ++ textS (bL x)) := by
      conv => lhs; arg 2; rw [← lB_bL x]
      rw [lB_append]; unfold textS; rw [bL_size, List.append_assoc]
    rw [if_pos (by rw [lB_size, List.length_append, bL_size]; omega), e4, if_pos rfl, w1.out]
    refine ih k (i + 1) _ e3 (by omega) (by rw [lB_size, List.length_append, bL_size]; omega) (by omega) ?_
    rw [bL_lB, ← he, List.append_assoc]
    simp [bLs, textsK]
theorem PackLists : linhaylaw07_PackLists.Pure := by
  intro t b ht hts hb
  have mx : maxLen ≤ 9223372036854775807 := by decide
  refine ⟨5000 + t.length, ?_⟩
  unfold linhaylaw07_PackLists.f
  rw [awake07_le _ (by omega)]
  simp only [Option.bind_some]
  obtain ⟨f, hf, hh⟩ := ref07_Few_eq t (by omega) 100 (5000 + t.length) (by omega)
  rw [hf]
  simp only [Option.bind_some]
  obtain ⟨k, hk⟩ : ∃ k, 5000 + t.length = k + 1 := ⟨4999 + t.length, by omega⟩
  rw [hk]
  cases f with
  | false => simp [linhaylaw07_PackLists.j0]
  | true =>
    obtain ⟨h1, h2⟩ := hh rfl
    rw [if_pos rfl]
    by_cases c1 : (b.size : Int) > 1000
    · simp [linhaylaw07_PackLists.j0, c1]
    · simp only [linhaylaw07_PackLists.j0]
      rw [decide_eq_false c1, if_neg (by simp), nwr (by omega) (by omega), pack_Put_eq b _ (w64_one (by omega) (by omega)) (by simp; omega), Facts.encs_one]
      simp only [Option.bind_some]
      have hxe := enc_len (t.length : Int)
      have ht2 := tot_le t h1
      refine lists_loop b t (by omega) (by omega) h1 t k 0 _ rfl (by omega) (by rw [lB_size, List.length_append, bL_size]; omega) (by omega) ?_
      rw [bL_lB]
      have e2 : textsS (bLs t) = enc (t.length : Int) ++ textsK (bLs t) := by unfold textsS bLs; rw [List.length_map]
      rw [e2, List.append_assoc]
end Go.Proofs.Ytkfahdccacefiaa.Pure
