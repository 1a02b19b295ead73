/- FixedSums: the sum of two rows is the sum of their sums, in either order, and no less than the sum of one. For all rows, no condition. -/
import Derived.Test.YtnippnpbnmkfbaaFactsNum
import Derived.Test.YtnippnpbnmkfbaaFactsSum
import Derived.Test.YtnippnpbnmkfbaaFactsAwake04
import Derived.Test.YtnippnpbnmkfbaaPrint19
namespace Go.Proofs.Ytnippnpbnmkfbaa.Pure
set_option linter.unusedVariables false
set_option linter.unusedSimpArgs false
open Go.RowKit Go.Proofs.Ytnippnpbnmkfbaa.Print Go.Proofs.Ytnippnpbnmkfbaa.Facts Go.Proofs.YtnippnpbnmkfbaaW.PrintWords Go.Proofs.YtnippnpbnmkfbaaW.PrintLast Go.Proofs.YtnippnpbnmkfbaaW.PrintMore
theorem row_nonneg (l : List Int) (h : ∀ x ∈ l, 0 ≤ x) : 0 ≤ l.sum := by
  induction l with
  | nil => simp
  | cons y l ih =>
    have := ih (fun z hz => h z (by simp [hz]))
    have hy := h y (by simp)
    simp; omega
theorem FixedSums : linhaylaw04_FixedSums.Pure := by
  intro l m _ hl hz _ hm hy
  have hz : ∀ x ∈ l, 0 ≤ x := fun x hx => (nwf_u64 (hz x hx)).1
  have hy : ∀ x ∈ m, 0 ≤ x := fun x hx => (nwf_u64 (hy x hx)).1
  have s0 := row_nonneg l hz
  have s1 := row_nonneg m hy
  refine ⟨200 + l.length + m.length + 1, ?_⟩
  have key : ∀ c, (c = false → l.length ≤ 100 ∧ m.length ≤ 100) → linhaylaw04_FixedSums.j0 (200 + l.length + m.length + 1) l m true c = some true := by
    intro c hc
    rw [linhaylaw04_FixedSums.j0]
    cases c with
    | true => rfl
    | false =>
      obtain ⟨h1, h2⟩ := hc rfl
      simp only [Option.bind_some, List.nil_append, Bool.false_eq_true, if_false, List.length_nil, if_true]
      have hlm : ∀ x ∈ l ++ m, 0 ≤ x := by intro x hx; rcases List.mem_append.1 hx with h | h; exact hz x h; exact hy x h
      have hml : ∀ x ∈ m ++ l, 0 ≤ x := by intro x hx; rcases List.mem_append.1 hx with h | h; exact hy x h; exact hz x h
      rw [if_pos (by omega), if_pos (by omega), if_pos (by omega), if_pos (by omega)]
      rw [fixed_Sum_eq (200 + l.length + m.length) (l ++ m) (by rw [List.length_append]; omega) hlm (by rw [List.length_append]; omega), fixed_Sum_eq (200 + l.length + m.length) (m ++ l) (by rw [List.length_append]; omega) hml (by rw [List.length_append]; omega), fixed_Sum_eq (200 + l.length + m.length) l (by omega) hz (by omega), fixed_Sum_eq (200 + l.length + m.length) m (by omega) hy (by omega)]
      simp only [Option.bind_some]
      rw [fixed_Sum_eq (200 + l.length + m.length) [min l.sum 18446744073709551615, min m.sum 18446744073709551615] (by simp) (by intro x hx; simp at hx; omega) (by simp; omega)]
      simp only [Option.bind_some, List.sum_append, List.sum_cons, List.sum_nil]
      rw [if_pos (by omega), if_pos (by omega)]
      simp
      try omega
  unfold linhaylaw04_FixedSums.f
  rw [awake04_le _ (by omega)]
  simp only [Option.bind_some]
  by_cases h : (l.length : Int) > 100
  · rw [if_pos h]; exact key _ (by simp)
  · rw [if_neg h]; exact key _ (by simp; omega)
end Go.Proofs.Ytnippnpbnmkfbaa.Pure
