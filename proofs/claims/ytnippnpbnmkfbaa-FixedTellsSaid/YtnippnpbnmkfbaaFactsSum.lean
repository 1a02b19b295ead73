
/- Sums of numbers: the printed fixed.Sum. -/
import Derived.Test.YtnippnpbnmkfbaaFactsNum
import Derived.Test.YtnippnpbnmkfbaaFactsSat
import Derived.Test.YtnippnpbnmkfbaaPrint7
namespace Go.Proofs.Ytnippnpbnmkfbaa.Facts
set_option linter.unusedVariables false
set_option linter.unusedSimpArgs false
open Go.RowKit Go.Proofs.Ytnippnpbnmkfbaa.Print Go.Proofs.YtnippnpbnmkfbaaW.PrintWords Go.Proofs.YtnippnpbnmkfbaaW.PrintLast Go.Proofs.YtnippnpbnmkfbaaW.PrintMore
theorem nat_cast_lt_of {i n : Nat} (h : i < n) : (i : Int) < (n : Int) := by omega
/-- A sum of numbers, held. -/
def sumS (n : Int) : List Int → Int
  | [] => n
  | x :: l => sumS (min (n + x) 18446744073709551615) l
theorem sumS_eq (l : List Int) : ∀ n, 0 ≤ n → n ≤ 18446744073709551615 → (∀ x ∈ l, 0 ≤ x) → sumS n l = min (n + l.sum) 18446744073709551615 := by
  induction l with
  | nil => intro n h0 h1 _; simp [sumS]; omega
  | cons x l ih =>
    intro n h0 h1 h
    have hx : 0 ≤ x := h x (by simp)
    have hs : 0 ≤ l.sum := by
      clear ih
      induction l with
      | nil => simp
      | cons y l ih2 =>
        have := ih2 (fun z hz => h z (by rcases List.mem_cons.1 hz with h1 | h1 <;> simp [h1]))
        have hy := h y (by simp)
        simp; omega
    rw [sumS, ih _ (by omega) (by omega) (fun z hz => h z (by simp [hz]))]
    simp; omega
theorem rd_drop {l : List Int} {i : Nat} (h : i < l.length) : l.drop i = rd l i :: l.drop (i + 1) := by
  rw [List.drop_eq_getElem_cons h]
  simp [rd, h]
theorem fixed_Sum_loop (l : List Int) (hl : l.length < 9223372036854775807) (h : ∀ x ∈ l, 0 ≤ x) (d : Nat) : ∀ (k i : Nat) (n : Int), i + d = l.length → d < k → 0 ≤ n → fixed_Sum.l0 k n l (l.length : Int) i = some (sumS n (l.drop i)) := by
  induction d with
  | zero =>
    intro k i n hi hk hn
    obtain ⟨k, rfl⟩ : ∃ m, k = m + 1 := ⟨k - 1, by omega⟩
    rw [fixed_Sum.l0, if_neg (by omega), List.drop_of_length_le (by omega)]
    rfl
  | succ d ih =>
    intro k i n hi hk hn
    obtain ⟨k, rfl⟩ : ∃ m, k = m + 1 := ⟨k - 1, by omega⟩
    have hlt : i < l.length := by omega
    have hx : 0 ≤ rd l i := by
      have : rd l i = l[i] := by simp [rd, hlt]
      rw [this]; exact h _ (List.getElem_mem hlt)
    rw [fixed_Sum.l0, if_pos (by omega), if_pos (by omega), if_pos (by omega), word_Add_sat hn hx]
    simp only [Option.bind_some]
    rw [nw64 (by omega) (by omega), show ((i : Int) + 1) = ((i + 1 : Nat) : Int) by omega, ih k (i + 1) _ (by omega) (by omega) (by omega), rd_drop hlt]
    rfl
theorem fixed_Sum_eq (k : Nat) (l : List Int) (hl : l.length < 9223372036854775807) (h : ∀ x ∈ l, 0 ≤ x) (hk : l.length < k) : fixed_Sum.f k l = some (min l.sum 18446744073709551615) := by
  unfold fixed_Sum.f
  have := fixed_Sum_loop l hl h l.length k 0 0 (by omega) hk (by decide)
  rw [show ((0 : Nat) : Int) = 0 by rfl, List.drop_zero, sumS_eq l 0 (by decide) (by decide) h, Int.zero_add] at this
  exact this
end Go.Proofs.Ytnippnpbnmkfbaa.Facts
