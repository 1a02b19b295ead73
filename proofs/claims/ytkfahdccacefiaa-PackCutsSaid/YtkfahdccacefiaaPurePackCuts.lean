/- PackCuts: what its row says of pack, and awake holds. For all inputs, no condition. -/
import Derived.Test.YtkfahdccacefiaaStPackCuts
import Derived.Test.YtkfahdccacefiaaFactsPack2
import Derived.Test.YtkfahdccacefiaaFactsAwake07
import Derived.Test.YtkfahdccacefiaaPrint2
import Derived.Test.YtkfahdccacefiaaPrint6
namespace Go.Proofs.Ytkfahdccacefiaa.Pure
set_option linter.unusedVariables false
set_option linter.unusedSimpArgs false
open Go.RowKit Go.Proofs.Ytkfahdccacefiaa.Print Go.Proofs.Ytkfahdccacefiaa.Facts Go.Proofs.YtkfahdccacefiaaW.PrintWords Go.Proofs.YtkfahdccacefiaaW.PrintLast Go.Proofs.YtkfahdccacefiaaW.PrintMore
theorem cut_of (b : ByteArray) (c : Int) (h0 : 0 ≤ c) (hb : 0 < b.size) : 0 ≤ Int.tmod c (b.size : Int) ∧ Int.tmod c (b.size : Int) < (b.size : Int) := by
  rw [Int.tmod_eq_emod_of_nonneg h0]
  exact ⟨Int.emod_nonneg _ (by omega), Int.emod_lt_of_pos _ (by omega)⟩
theorem cut_parts (b : ByteArray) (n : Nat) (h : n < b.size) : ∃ q, bL (b.extract 0 n) ++ q = bL b ∧ q ≠ [] ∧ (b.extract 0 n).size ≤ b.size := by
  refine ⟨(bL b).drop n, ?_, ?_, ?_⟩
  · rw [extract_head, bL_lB, List.take_append_drop]
  · intro e
    have := List.drop_eq_nil_iff.mp e
    rw [bL_size] at this
    omega
  · rw [extract_head, lB_size, List.length_take, bL_size]; omega
theorem PackCuts : linhaylaw07_PackCuts.Pure := by
  intro n t c hn ht hts hc
  have hn := nwf_u64 hn
  have hc := nwf_u16 hc
  have mx : maxLen ≤ 9223372036854775807 := by decide
  obtain ⟨k, hk⟩ : ∃ k, 905000 + t.length = k + 1 := ⟨904999 + t.length, by omega⟩
  refine ⟨905000 + t.length, ?_⟩
  unfold linhaylaw07_PackCuts.f
  rw [awake07_le _ (by omega)]
  simp only [Option.bind_some]
  obtain ⟨f, hf, hh⟩ := ref07_Few_eq t (by omega) 100 (905000 + t.length) (by omega)
  rw [hf]
  simp only [Option.bind_some]
  cases f with
  | false => simp
  | true =>
    obtain ⟨h1, h2⟩ := hh rfl
    have ht2 := tot_le t h1
    have ez : bL (⟨#[]⟩ : ByteArray) = [] := rfl
    have sz : (⟨#[]⟩ : ByteArray).size = 0 := rfl
    have eabc : (⟨#[97, 98, 99]⟩ : ByteArray).size = 3 := rfl
    rw [if_pos rfl, pack_Put_eq _ [n] (w64_one hn.1 hn.2) (by rw [sz]; simp), pack_Text_eq _ _ (by rw [sz, eabc]; omega), pack_Texts_eq _ t (by omega) (by rw [sz]; omega) _ (by omega), Facts.encs_one]
    simp only [Option.bind_some, ez, List.nil_append]
    have l1 := encF_pos 9 n
    have l1' := enc_len n
    have l2 := textS_len (bL (⟨#[97, 98, 99]⟩ : ByteArray))
    have l2' : 0 < (textS (bL (⟨#[97, 98, 99]⟩ : ByteArray))).length := by have := encF_pos 9 ((bL (⟨#[97, 98, 99]⟩ : ByteArray)).length : Int); unfold textS enc; simp; omega
    rw [bL_size, eabc] at l2
    have l3' : 0 < (textsS (bLs t)).length := by have := encF_pos 9 ((bLs t).length : Int); unfold textsS enc; simp; omega
    have l3 : (textsS (bLs t)).length ≤ tot t + 10 := by
      have h5 := enc_len ((bLs t).length : Int)
      have h6 : ∀ l : List ByteArray, (textsK (bLs l)).length ≤ tot l := by
        intro l
        induction l with
        | nil => simp [bLs, textsK]
        | cons x l ih =>
          have h7 := textS_len (bL x)
          rw [bL_size] at h7
          rw [tot_cons]
          simp only [bLs, textsK, List.map_cons, List.flatMap_cons, List.length_append] at ih ⊢
          omega
      have := h6 t
      unfold textsS; simp only [List.length_append]; omega
    have nz : ∀ l : List UInt8, 0 < l.length → ¬ (lB l).toList = ([] : List UInt8) := by
      intro l hl; rw [bL_toList, bL_lB]; intro e; rw [e] at hl; simp at hl
    have nzb : ∀ l : List UInt8, 0 < l.length → ((lB l).toList == ([] : List UInt8)) = false := by
      intro l hl; exact beq_eq_false_iff_ne.mpr (nz l hl)
    rw [if_neg (nz _ (by unfold enc; exact l1)), if_neg (nz _ l2'), nzb _ l3', hk]
    simp only [linhaylaw07_PackCuts.j0]
    have q1 := cut_of (lB (enc n)) c hc.1 (by rw [lB_size]; unfold enc; exact l1)
    have q2 := cut_of (lB (textS (bL (⟨#[97, 98, 99]⟩ : ByteArray)))) c hc.1 (by rw [lB_size]; exact l2')
    have q3 := cut_of (lB (textsS (bLs t))) c hc.1 (by rw [lB_size]; exact l3')
    have wc : wrap64 c = c := nw64 (by omega) (by omega)
    rw [wc, if_neg (by simp), if_neg (by rw [lB_size]; unfold enc; omega), if_pos q1.1, if_pos (Int.le_of_lt q1.2)]
    obtain ⟨p1, r1, r2, r3⟩ := cut_parts (lB (enc n)) (Int.tmod c ((lB (enc n)).size : Int)).toNat (by omega)
    rw [bL_lB] at r1
    rw [pack_Take_eq _ (by have e_ := lB_size (enc n); omega) _ (by omega), takeS_cut hn.1 hn.2 r1 r2]
    simp only [Option.bind_some]
    rw [if_neg (by rw [lB_size]; omega), if_pos q2.1, if_pos (Int.le_of_lt q2.2)]
    obtain ⟨p2, r1, r2, r3⟩ := cut_parts (lB (textS (bL (⟨#[97, 98, 99]⟩ : ByteArray)))) (Int.tmod c ((lB (textS (bL (⟨#[97, 98, 99]⟩ : ByteArray)))).size : Int)).toNat (by omega)
    rw [bL_lB] at r1
    rw [pack_TakeText_eq _ (by have e_ := lB_size (textS (bL (⟨#[97, 98, 99]⟩ : ByteArray))); omega) _ (by omega), takeTextS_cut (by rw [bL_size, eabc]; decide) r1 r2]
    simp only [Option.bind_some]
    rw [if_neg (by rw [lB_size]; omega), if_pos q3.1, if_pos (Int.le_of_lt q3.2)]
    obtain ⟨p3, r1, r2, r3⟩ := cut_parts (lB (textsS (bLs t))) (Int.tmod c ((lB (textsS (bLs t))).size : Int)).toNat (by omega)
    rw [bL_lB] at r1
    rw [pack_TakeTexts_eq _ (by have e_ := lB_size (textsS (bLs t)); omega) _ (by have e_ := lB_size (textsS (bLs t)); omega), takeTextsS_cut (by omega) (by unfold bLs; simp; omega) (by intro x hx; unfold bLs at hx; obtain ⟨y, hy, rfl⟩ := List.mem_map.mp hx; rw [bL_size]; have := h1 y hy; omega) r1 r2]
    simp [ansT, ansTT, ansK]
end Go.Proofs.Ytkfahdccacefiaa.Pure
