
/- The least one of a row of ratios: the printed ratio.Least. -/
import Derived.Test.YtnobdpenncfghaaFactsNum
import Derived.Test.YtnobdpenncfghaaFactsWide
import Derived.Test.YtnobdpenncfghaaFactsNear
import Derived.Test.YtnobdpenncfghaaPrint0
import Derived.Test.YtnobdpenncfghaaPrint2
namespace Go.Proofs.Ytnobdpenncfghaa.Facts
set_option linter.unusedVariables false
set_option linter.unusedSimpArgs false
open Go.RowKit Go.Proofs.Ytnobdpenncfghaa.Print Go.Proofs.YtnobdpenncfghaaW.PrintWords Go.Proofs.YtnobdpenncfghaaW.PrintLast Go.Proofs.YtnobdpenncfghaaW.PrintMore
abbrev Rat2 := S24
def rle (x y : Rat2) : Prop := x.f0 * y.f1 ≤ y.f0 * x.f1
def rlt (x y : Rat2) : Prop := x.f0 * y.f1 < y.f0 * x.f1
def okR (x : Rat2) : Prop := W64 x.f0 ∧ W64 x.f1
theorem rle_of_not {x y : Rat2} (h : ¬ rlt x y) : rle y x := by unfold rlt rle at *; omega
theorem not_rle {x y : Rat2} (h : rlt x y) : ¬ rle y x := by unfold rlt rle at *; omega
theorem rle_of_rlt {x y : Rat2} (h : rlt x y) : rle x y := by unfold rlt rle at *; omega
theorem rlt_rle {x y z : Rat2} (hx : okR x) (hy : 0 < y.f1) (hz : 0 < z.f1) (h : rlt x y) (g : rle y z) : rlt x z := by
  unfold rlt rle at *
  have h1 := Int.mul_lt_mul_of_pos_right h hz
  have h2 := Int.mul_le_mul_of_nonneg_right g hx.2.1
  have e1 : x.f0 * y.f1 * z.f1 = x.f0 * z.f1 * y.f1 := Int.mul_right_comm _ _ _
  have e2 : y.f0 * x.f1 * z.f1 = y.f0 * z.f1 * x.f1 := Int.mul_right_comm _ _ _
  have e3 : z.f0 * y.f1 * x.f1 = z.f0 * x.f1 * y.f1 := Int.mul_right_comm _ _ _
  rw [e1, e2] at h1
  rw [e3] at h2
  exact Int.lt_of_mul_lt_mul_right (Int.lt_of_lt_of_le h1 h2) (by omega)
def gR (l : List Rat2) (i : Int) : Rat2 := l.getD i.toNat ⟨0, 0⟩
theorem gR_ok {l : List Rat2} (h : ∀ x ∈ l, okR x) (i : Int) : okR (gR l i) := by
  unfold gR
  rw [List.getD_eq_getElem?_getD]
  cases e : l[i.toNat]? with
  | none => exact ⟨⟨by decide, by decide⟩, ⟨by decide, by decide⟩⟩
  | some x => exact h x (List.mem_of_getElem? e)
/-- The best one of those below i. -/
def Best (l : List Rat2) (i b : Int) : Prop :=
  (b = -1 ∧ ∀ j, 0 ≤ j → j < i → (gR l j).f1 = 0) ∨
  (0 ≤ b ∧ b < i ∧ 0 < (gR l b).f1 ∧ (∀ j, 0 ≤ j → j < i → 0 < (gR l j).f1 → rle (gR l b) (gR l j)) ∧ ∀ j, 0 ≤ j → j < b → 0 < (gR l j).f1 → rlt (gR l b) (gR l j))
theorem Best.skip {l : List Rat2} {i b : Int} (h : Best l i b) (hi : (gR l i).f1 = 0) : Best l (i + 1) b := by
  rcases h with ⟨h1, h2⟩ | ⟨h1, h2, h3, h4, h5⟩
  · refine .inl ⟨h1, fun j j0 j1 => ?_⟩
    by_cases e : j = i
    · rw [e]; exact hi
    · exact h2 j j0 (by omega)
  · refine .inr ⟨h1, by omega, h3, fun j j0 j1 jp => ?_, h5⟩
    by_cases e : j = i
    · rw [e] at jp; omega
    · exact h4 j j0 (by omega) jp
theorem Best.first {l : List Rat2} {i b : Int} (h : Best l i b) (i0 : 0 ≤ i) (hb : b < 0) (hi : 0 < (gR l i).f1) : Best l (i + 1) i := by
  rcases h with ⟨h1, h2⟩ | ⟨h1, _⟩
  · refine .inr ⟨i0, by omega, hi, fun j j0 j1 jp => ?_, fun j j0 j1 jp => ?_⟩
    · by_cases e : j = i
      · rw [e]; exact Int.le_refl _
      · have := h2 j j0 (by omega); omega
    · have := h2 j j0 (by omega); omega
  · omega
theorem Best.keep {l : List Rat2} {i b : Int} (h : Best l i b) (hb : 0 ≤ b) (hi : rle (gR l b) (gR l i)) : Best l (i + 1) b := by
  rcases h with ⟨h1, h2⟩ | ⟨h1, h2, h3, h4, h5⟩
  · omega
  · refine .inr ⟨h1, by omega, h3, fun j j0 j1 jp => ?_, h5⟩
    by_cases e : j = i
    · rw [e]; exact hi
    · exact h4 j j0 (by omega) jp
theorem Best.turn {l : List Rat2} {i b : Int} (hw : ∀ x ∈ l, okR x) (h : Best l i b) (i0 : 0 ≤ i) (hb : 0 ≤ b) (hp : 0 < (gR l i).f1) (hi : rlt (gR l i) (gR l b)) : Best l (i + 1) i := by
  rcases h with ⟨h1, h2⟩ | ⟨h1, h2, h3, h4, h5⟩
  · omega
  · refine .inr ⟨i0, by omega, hp, fun j j0 j1 jp => ?_, fun j j0 j1 jp => ?_⟩
    · by_cases e : j = i
      · rw [e]; exact Int.le_refl _
      · exact rle_of_rlt (rlt_rle (gR_ok hw i) h3 jp hi (h4 j j0 (by omega) jp))
    · exact rlt_rle (gR_ok hw i) h3 jp hi (h4 j j0 (by omega) jp)
theorem rd_gR (l : List Rat2) (i : Int) : rd_T24 l i = gR l i := rfl
theorem scmp_neg {x y : Int} : scmp x y < 0 ↔ x < y := by unfold scmp; split <;> (try split) <;> omega
theorem scmp_nonneg {x y : Int} : scmp x y ≥ 0 ↔ y ≤ x := by unfold scmp; split <;> (try split) <;> omega
theorem nw64s {n : Int} (h0 : 0 ≤ n) (h1 : n ≤ 9223372036854775807) : wrap64 n = n := nw64 (by omega) (by omega)
theorem ratio_Least_loop (l : List Rat2) (hl : l.length ≤ 9000000000000000000) (hw : ∀ x ∈ l, okR x) (d : Nat) : ∀ (k : Nat) (i b : Int), 0 ≤ i → i + d = l.length → d + 8 ≤ k → Best l i b →
    ∃ c, api_Ratio_with_ratio_Least_1_ratio_Least_2.l0 k l b l (l.length : Int) i = some (mx c 0, decide (c ≥ 0)) ∧ Best l l.length c := by
  induction d with
  | zero =>
    intro k i b i0 hi hk h
    obtain ⟨k, rfl⟩ : ∃ m, k = m + 1 := ⟨k - 1, by omega⟩
    refine ⟨b, ?_, by rw [show (l.length : Int) = i by omega]; exact h⟩
    rw [api_Ratio_with_ratio_Least_1_ratio_Least_2.l0, if_neg (by omega)]
  | succ d ih =>
    intro k i b i0 hi hk h
    obtain ⟨k, rfl⟩ : ∃ m, k = m + 1 := ⟨k - 1, by omega⟩
    have hok := gR_ok hw i
    rw [api_Ratio_with_ratio_Least_1_ratio_Least_2.l0, if_pos (by omega), if_pos i0, if_pos (by omega), rd_gR, rd_gR, nw64s (by omega) (by omega)]
    unfold ratio_Least_2.f ratio_Least_1.f
    simp only [Option.bind_some, decide_eq_true_eq]
    by_cases hp : (gR l i).f1 > 0
    · rw [if_pos hp]
      by_cases hb : b < 0
      · rw [if_pos hb]
        exact ih k (i + 1) i (by omega) (by omega) (by omega) (h.first i0 hb hp)
      · have hbi : b < i ∧ 0 < (gR l b).f1 := by
          rcases h with ⟨h1, _⟩ | ⟨_, h2, h3, _⟩
          · omega
          · exact ⟨h2, h3⟩
        rw [if_neg hb, if_pos (by omega), if_pos (by omega), ratio_Cmp_eq _ (by omega) hok.1 hok.2 (gR_ok hw b).1 (gR_ok hw b).2]
        unfold cmpR
        rw [if_neg (by omega)]
        simp only [Option.bind_some, decide_eq_true_eq]
        by_cases hc : rlt (gR l i) (gR l b)
        · rw [if_pos (scmp_neg.mpr hc)]
          exact ih k (i + 1) i (by omega) (by omega) (by omega) (h.turn hw i0 (by omega) hp hc)
        · rw [if_neg (fun h => hc (scmp_neg.mp h))]
          exact ih k (i + 1) b (by omega) (by omega) (by omega) (h.keep (by omega) (rle_of_not hc))
    · rw [if_neg hp]
      exact ih k (i + 1) b (by omega) (by omega) (by omega) (h.skip (by have := hok.2.1; omega))
theorem ratio_Least_eq (l : List Rat2) (hl : l.length ≤ 9000000000000000000) (hw : ∀ x ∈ l, okR x) (k : Nat) (hk : l.length + 8 ≤ k) :
    ∃ c, ratio_Least.f k l = some (mx c 0, decide (c ≥ 0)) ∧ Best l l.length c := by
  obtain ⟨c, h1, h2⟩ := ratio_Least_loop l hl hw l.length k 0 (-1) (by omega) (by omega) hk (.inl ⟨rfl, fun j j0 j1 => by omega⟩)
  refine ⟨c, ?_, h2⟩
  unfold ratio_Least.f api_Ratio_with_ratio_Least_1_ratio_Least_2.f
  rw [h1]; rfl
end Go.Proofs.Ytnobdpenncfghaa.Facts
