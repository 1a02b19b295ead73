/- RatioLeast: the least one of a row is not above any other one, and below all ahead of it. For all rows, no condition. -/
import Derived.Test.YtnobdpenncfghaaStRatioLeast
import Derived.Test.YtnobdpenncfghaaFactsNum
import Derived.Test.YtnobdpenncfghaaFactsWide
import Derived.Test.YtnobdpenncfghaaFactsNear
import Derived.Test.YtnobdpenncfghaaFactsLeast
import Derived.Test.YtnobdpenncfghaaFactsAwake03
import Derived.Test.YtnobdpenncfghaaPrint5
namespace Go.Proofs.Ytnobdpenncfghaa.Pure
set_option linter.unusedVariables false
set_option linter.unusedSimpArgs false
open Go.RowKit Go.Proofs.Ytnobdpenncfghaa.Print Go.Proofs.Ytnobdpenncfghaa.Facts Go.Proofs.YtnobdpenncfghaaW.PrintWords Go.Proofs.YtnobdpenncfghaaW.PrintLast Go.Proofs.YtnobdpenncfghaaW.PrintMore
theorem none_loop (l : List Rat2) (hl : l.length ≤ 9000000000000000000) (h : ∀ j : Int, 0 ≤ j → j < l.length → (gR l j).f1 = 0) (d : Nat) : ∀ (k : Nat) (i : Int), 0 ≤ i → i + d = l.length → d < k → linhaylaw03_RatioLeast.l0 k l true 0 i = some true := by
  induction d with
  | zero =>
    intro k i i0 hi hk
    obtain ⟨k, rfl⟩ : ∃ m, k = m + 1 := ⟨k - 1, by omega⟩
    rw [linhaylaw03_RatioLeast.l0, if_neg (by omega)]; rfl
  | succ d ih =>
    intro k i i0 hi hk
    obtain ⟨k, rfl⟩ : ∃ m, k = m + 1 := ⟨k - 1, by omega⟩
    rw [linhaylaw03_RatioLeast.l0, if_pos (by omega), if_pos i0, rd_gR, if_neg (by have := h i i0 (by omega); omega), nw64s (by omega) (by omega)]
    exact ih k (i + 1) (by omega) (by omega) (by omega)
theorem some_loop (l : List Rat2) (hl : l.length ≤ 9000000000000000000) (hw : ∀ x ∈ l, okR x) (b : Int) (b0 : 0 ≤ b) (b1 : b < l.length) (h3 : 0 < (gR l b).f1)
    (h4 : ∀ j : Int, 0 ≤ j → j < l.length → 0 < (gR l j).f1 → rle (gR l b) (gR l j)) (h5 : ∀ j : Int, 0 ≤ j → j < b → 0 < (gR l j).f1 → rlt (gR l b) (gR l j)) (d : Nat) :
    ∀ (k : Nat) (i : Int), 0 ≤ i → i + d = l.length → d + 8 ≤ k → linhaylaw03_RatioLeast.l1 k l true b i = some true := by
  induction d with
  | zero =>
    intro k i i0 hi hk
    obtain ⟨k, rfl⟩ : ∃ m, k = m + 1 := ⟨k - 1, by omega⟩
    rw [linhaylaw03_RatioLeast.l1, if_neg (by omega)]
  | succ d ih =>
    intro k i i0 hi hk
    obtain ⟨k, rfl⟩ : ∃ m, k = m + 1 := ⟨k - 1, by omega⟩
    have ho := gR_ok hw i
    have hb := gR_ok hw b
    rw [linhaylaw03_RatioLeast.l1, if_pos (by omega), if_pos b0, if_pos b1, if_pos i0, rd_gR, rd_gR, ratio_Cmp_eq _ (by omega) hb.1 hb.2 ho.1 ho.2, nw64s (by omega) (by omega)]
    simp only [Option.bind_some]
    rw [ih k (i + 1) (by omega) (by omega) (by omega)]
    by_cases hz : (gR l i).f1 = 0
    · rw [show cmpR (gR l b).f0 (gR l b).f1 (gR l i).f0 (gR l i).f1 = (0, 20) from if_pos (Or.inr hz), if_neg (by decide)]
    · rw [show cmpR (gR l b).f0 (gR l b).f1 (gR l i).f0 (gR l i).f1 = (scmp ((gR l b).f0 * (gR l i).f1) ((gR l i).f0 * (gR l b).f1), 0) from if_neg (by omega), if_pos rfl]
      have hp : 0 < (gR l i).f1 := by have := ho.2.1; omega
      have hle := h4 i i0 (by omega) hp
      rw [if_neg (show ¬ scmp ((gR l b).f0 * (gR l i).f1) ((gR l i).f0 * (gR l b).f1) > 0 by unfold rle at hle; unfold scmp; split <;> (try split) <;> omega)]
      by_cases hib : i < b
      · have hlt := h5 i i0 hib hp
        rw [if_pos hib, if_neg (show ¬ scmp ((gR l b).f0 * (gR l i).f1) ((gR l i).f0 * (gR l b).f1) = 0 by unfold rlt at hlt; unfold scmp; split <;> (try split) <;> omega)]
      · rw [if_neg hib]
theorem RatioLeast : linhaylaw03_RatioLeast.Pure := by
  intro l hl hz
  have hw : ∀ x ∈ l, okR x := fun x hx => ⟨nwf_u64 (hz x hx).1, nwf_u64 (hz x hx).2⟩
  refine ⟨200 + l.length + 1, ?_⟩
  unfold linhaylaw03_RatioLeast.f
  rw [awake03_le _ (by omega)]
  simp only [Option.bind_some]
  by_cases hn : (l.length : Int) > 100
  · rw [if_pos hn]
  · have hl' : l.length ≤ 9000000000000000000 := by omega
    obtain ⟨b, e1, hbest⟩ := ratio_Least_eq l hl' hw (200 + l.length + 1) (by omega)
    rw [if_neg hn, e1]
    simp only [Option.bind_some, decide_eq_true_eq]
    rcases hbest with ⟨h1, h2⟩ | ⟨h1, h2, h3, h4, h5⟩
    · subst h1
      rw [if_neg (by decide), show mx (-1) 0 = 0 from rfl]
      exact none_loop l hl' h2 l.length _ 0 (by omega) (by omega) (by omega)
    · rw [if_pos h1, show mx b 0 = b by unfold mx; split <;> omega, if_neg (by omega), if_neg (by omega), if_pos h1, if_pos h2, rd_gR, linhaylaw03_RatioLeast.j1, if_neg (by simp; omega)]
      exact some_loop l hl' hw b h1 h2 h3 h4 h5 l.length _ 0 (by omega) (by omega) (by omega)
end Go.Proofs.Ytnobdpenncfghaa.Pure
