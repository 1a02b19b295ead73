/- PackBack: what its row says of pack, and awake holds. For all inputs, no condition. -/
import Derived.Test.YtkfahdccacefiaaStPackBack
import Derived.Test.YtkfahdccacefiaaFactsPack2
import Derived.Test.YtkfahdccacefiaaFactsAwake07
import Derived.Test.YtkfahdccacefiaaPrint2
import Derived.Test.YtkfahdccacefiaaPrint5
namespace Go.Proofs.Ytkfahdccacefiaa.Pure
set_option linter.unusedVariables false
set_option linter.unusedSimpArgs false
open Go.RowKit Go.Proofs.Ytkfahdccacefiaa.Print Go.Proofs.Ytkfahdccacefiaa.Facts Go.Proofs.YtkfahdccacefiaaW.PrintWords Go.Proofs.YtkfahdccacefiaaW.PrintLast Go.Proofs.YtkfahdccacefiaaW.PrintMore
theorem back_loop (l : List Int) (t : List ByteArray) (z : ByteArray) (hw : W64l l) (hl : l.length ≤ 100) (ht : ∀ x ∈ t, x.size ≤ 1000) (htl : t.length ≤ 100) (hz : z.size ≤ 1000) (r : List Int) : ∀ (k i : Nat) (b : ByteArray), l.drop i = r → i ≤ l.length → bL b = encs r ++ (textsS (bLs t) ++ bL z) → b.size ≤ 800000 → r.length + 810000 < k →
    linhaylaw07_PackBack.l0 k l t z true b (i : Int) = some true := by
  induction r with
  | nil =>
    intro k i b hr hi hb hs hk
    obtain ⟨k, rfl⟩ : ∃ q, k = q + 1 := ⟨k - 1, by omega⟩
    have : l.length ≤ i := List.drop_eq_nil_iff.mp hr
    simp only [linhaylaw07_PackBack.l0]
    rw [if_neg (by omega), pack_TakeTexts_eq b (by omega) k (by omega), hb]
    have e : encs ([] : List Int) = [] := rfl
    rw [e, List.nil_append, takeTextsS_texts _ _ (by unfold bLs; simp; omega) (by intro x hx; unfold bLs at hx; obtain ⟨y, hy, rfl⟩ := List.mem_map.mp hx; rw [bL_size]; have := ht y hy; omega)]
    simp only [Option.bind_some, ansK, if_true, List.nil_append]
    have e2 : (bLs t).map lB = t := by
      unfold bLs
      rw [List.map_map]
      conv => rhs; rw [← List.map_id t]
      exact List.map_congr_left (fun x _ => lB_bL x)
    rw [e2, ref07_Same_eq t (by omega) k (by omega)]
    simp [lB_bL]
  | cons x r ih =>
    intro k i b hr hi hb hs hk
    simp only [List.length_cons] at hk
    obtain ⟨k, rfl⟩ : ∃ q, k = q + 1 := ⟨k - 1, by omega⟩
    obtain ⟨e1, e2, e3⟩ := rd_drop hr
    have hx0 : x ∈ l.drop i := by rw [hr]; exact List.mem_cons_self ..
    have hx := hw x (List.mem_of_mem_drop hx0)
    have hl1 := enc_len x
    have w1 : Aside0 (wrap64 ((i : Int) + 1) = ((i + 1 : Nat) : Int)) := ⟨by unfold wrap64; omega⟩
    simp only [linhaylaw07_PackBack.l0]
    rw [if_pos (by omega), pack_Take_eq b (by omega) k (by omega), hb, Facts.encs_cons, List.append_assoc, takeS_enc hx.1 hx.2]
    simp only [Option.bind_some, ansT, if_true]
    have hbs : b.size = (enc x).length + (encs r ++ (textsS (bLs t) ++ bL z)).length := by
      rw [← bL_size, hb, Facts.encs_cons, List.append_assoc, List.length_append]
    rw [if_pos (by omega), if_pos e1.symm, pack_Size_eq x hx.1 hx.2]
    simp only [Option.bind_some]
    rw [if_pos (by rw [lB_size, nw64 (by omega) (by omega)]; omega), w1.out]
    exact ih k (i + 1) _ e3 (by omega) (by rw [bL_lB]) (by rw [lB_size]; omega) (by omega)
theorem PackBack : linhaylaw07_PackBack.Pure := by
  intro l t z hl hlw ht hts hz
  have hlw : W64l l := fun x hx => nwf_u64 (hlw x hx)
  have mx : maxLen ≤ 9223372036854775807 := by decide
  obtain ⟨k, hk⟩ : ∃ k, 905000 + t.length = k + 1 := ⟨904999 + t.length, by omega⟩
  refine ⟨905000 + t.length, ?_⟩
  unfold linhaylaw07_PackBack.f
  rw [awake07_le _ (by omega)]
  simp only [Option.bind_some]
  by_cases c1 : (l.length : Int) > 100
  · rw [if_pos c1, hk]; simp [linhaylaw07_PackBack.j0]
  rw [if_neg c1]
  obtain ⟨f, hf, hh⟩ := ref07_Few_eq t (by omega) 100 (905000 + t.length) (by omega)
  rw [hf]
  simp only [Option.bind_some]
  cases f with
  | false => rw [hk]; clear hk; simp [linhaylaw07_PackBack.j0]
  | true =>
    obtain ⟨h1, h2⟩ := hh rfl
    have ht2 := tot_le t h1
    rw [if_pos rfl, hk]
    by_cases c2 : (z.size : Int) > 1000
    · simp [linhaylaw07_PackBack.j0, c2]
    simp only [linhaylaw07_PackBack.j0]
    have ez : bL (⟨#[]⟩ : ByteArray) = [] := rfl
    have sz : (⟨#[]⟩ : ByteArray).size = 0 := rfl
    have k3 := encs_len l
    rw [decide_eq_false c2, if_neg (by simp), pack_Put_eq _ l hlw (by rw [sz]; omega)]
    rw [Option.bind_some, ez, List.nil_append]
    have l3 : (textsS (bLs t)).length ≤ tot t + 10 := by
      have h5 := enc_len ((bLs t).length : Int)
      have h6 : ∀ l : List ByteArray, (textsK (bLs l)).length ≤ tot l := by
        intro l
        induction l with
        | nil => simp [bLs, textsK]
        | cons x l ih =>
          have h7 := textS_len (bL x)
          rw [bL_size] at h7
          rw [tot_cons]
          simp only [bLs, textsK, List.map_cons, List.flatMap_cons, List.length_append] at ih ⊢
          omega
      have := h6 t
      unfold textsS; simp only [List.length_append]; omega
    rw [pack_Texts_eq _ t (by omega) (by rw [lB_size]; omega) _ (by omega)]
    simp only [Option.bind_some, bL_lB]
    have e : lB (encs l ++ textsS (bLs t)) ++ z = lB (encs l ++ (textsS (bLs t) ++ bL z)) := by
      conv => lhs; arg 2; rw [← lB_bL z]
      rw [lB_append, List.append_assoc]
    rw [if_pos (by rw [lB_size, List.length_append]; omega), e]
    exact back_loop l t z hlw (by omega) h1 (by omega) (by omega) l k 0 _ rfl (by omega) (by rw [bL_lB]) (by rw [lB_size]; simp only [List.length_append]; rw [bL_size]; omega) (by omega)
end Go.Proofs.Ytkfahdccacefiaa.Pure
