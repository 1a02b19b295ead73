
/- Sums of numbers: the printed linhayref04.Sum. -/
import Derived.Test.YtnippnpbnmkfbaaFactsNum
import Derived.Test.YtnippnpbnmkfbaaFactsSat01
import Derived.Test.YtnippnpbnmkfbaaFactsSum
import Derived.Test.YtnippnpbnmkfbaaPrint14
namespace Go.Proofs.Ytnippnpbnmkfbaa.Facts
set_option linter.unusedVariables false
set_option linter.unusedSimpArgs false
open Go.RowKit Go.Proofs.Ytnippnpbnmkfbaa.Print Go.Proofs.YtnippnpbnmkfbaaW.PrintWords Go.Proofs.YtnippnpbnmkfbaaW.PrintLast Go.Proofs.YtnippnpbnmkfbaaW.PrintMore
theorem ref04_Sum_loop (l : List Int) (hl : l.length < 9223372036854775807) (h : ∀ x ∈ l, 0 ≤ x ∧ x < 18446744073709551616) (d : Nat) : ∀ (k i : Nat) (n : Int), i + d = l.length → d < k → 0 ≤ n → linhayref04_Sum.l0 k l n i = some (sumS n (l.drop i)) := by
  induction d with
  | zero =>
    intro k i n hi hk hn
    obtain ⟨k, rfl⟩ : ∃ m, k = m + 1 := ⟨k - 1, by omega⟩
    rw [linhayref04_Sum.l0, if_neg (by omega), List.drop_of_length_le (by omega)]
    rfl
  | succ d ih =>
    intro k i n hi hk hn
    obtain ⟨k, rfl⟩ : ∃ m, k = m + 1 := ⟨k - 1, by omega⟩
    have hlt : i < l.length := by omega
    have hx : 0 ≤ rd l i ∧ rd l i < 18446744073709551616 := by
      have : rd l i = l[i] := by simp [rd, hlt]
      rw [this]; exact h _ (List.getElem_mem hlt)
    rw [linhayref04_Sum.l0, if_pos (by omega), if_pos (by omega), ref01_Add_sat hn hx.1 hx.2]
    simp only [Option.bind_some]
    rw [nw64 (by omega) (by omega), show ((i : Int) + 1) = ((i + 1 : Nat) : Int) by omega, ih k (i + 1) _ (by omega) (by omega) (by omega), rd_drop hlt]
    rfl
theorem ref04_Sum_eq (k : Nat) (l : List Int) (hl : l.length < 9223372036854775807) (h : ∀ x ∈ l, 0 ≤ x ∧ x < 18446744073709551616) (hk : l.length < k) : linhayref04_Sum.f k l = some (min l.sum 18446744073709551615) := by
  unfold linhayref04_Sum.f
  have := ref04_Sum_loop l hl h l.length k 0 0 (by omega) hk (by decide)
  rw [show ((0 : Nat) : Int) = 0 by rfl, List.drop_zero, sumS_eq l 0 (by decide) (by decide) (fun x hx => (h x hx).1), Int.zero_add] at this
  exact this
end Go.Proofs.Ytnippnpbnmkfbaa.Facts
