
/- The parts of products: Floor, Ceil and Near of ratio, and what two ratios are to one another. -/
import Derived.Test.YtnobdpenncfghaaFactsNum
import Derived.Test.YtnobdpenncfghaaFactsWide
import Derived.Test.YtnobdpenncfghaaFactsFloor
import Derived.Test.YtnobdpenncfghaaPrint2
import Derived.Test.YtnobdpenncfghaaPrint4
import Derived.Test.YtnobdpenncfghaaPrint5
import Derived.Test.YtnobdpenncfghaaPrint6
namespace Go.Proofs.Ytnobdpenncfghaa.Facts
set_option linter.unusedVariables false
set_option linter.unusedSimpArgs false
open Go.RowKit Go.Proofs.Ytnobdpenncfghaa.Print Go.Proofs.YtnobdpenncfghaaW.PrintWords Go.Proofs.YtnobdpenncfghaaW.PrintLast Go.Proofs.YtnobdpenncfghaaW.PrintMore
/-- A part of a product, with so much added. -/
def partR (a b c d : Int) : Int × Int := if c = 0 then (0, 20) else if (a * b + d) / c < 18446744073709551616 then ((a * b + d) / c, 0) else (0, 10)
theorem floorR_part (a b c : Int) : floorR a b c = partR a b c 0 := by unfold floorR partR; rw [Int.add_zero]
theorem div_step {X c d : Int} (hc : 0 < c) (h0 : 0 ≤ d) (h1 : d < c) : (X + d) / c = if c ≤ X % c + d then X / c + 1 else X / c := by
  have e := Int.mul_ediv_add_emod X c
  have m0 := Int.emod_nonneg X (b := c) (by omega)
  have m1 := Int.emod_lt_of_pos X hc
  have : (X + d) / c = (X % c + d) / c + X / c := by
    rw [show X + d = (X % c + d) + c * (X / c) by omega, Int.add_mul_ediv_left _ _ (by omega)]
  rw [this]
  split
  · rename_i h
    have : (X % c + d) / c = 1 := by
      rw [show X % c + d = (X % c + d - c) + c * 1 by omega, Int.add_mul_ediv_left _ _ (by omega), Int.ediv_eq_zero_of_lt (by omega) (by omega)]; rfl
    omega
  · rw [Int.ediv_eq_zero_of_lt (by omega) (by omega)]; omega
theorem part_up (k : Nat) {X : Int} (x0 : 0 ≤ X) (x1 : X < 18446744073709551615 * 18446744073709551615 + 1) :
    ((wide_Of.f 1).bind fun bt164 => ((wide_Add.f (X / 18446744073709551616) (X % 18446744073709551616) bt164.1 bt164.2).bind fun bt166 => (if bt166.1 > 0 then (some ((0 : Int), (10 : Int))) else (some (bt166.2.1, 0))))) = some (if X + 1 < 18446744073709551616 then (X + 1, 0) else (0, 10)) := by
  unfold wide_Of.f
  simp only [Option.bind_some]
  rw [wide_Add_big (by unfold W64; omega) (W64_mod _) ⟨by decide, by decide⟩ ⟨by decide, by decide⟩, show X / 18446744073709551616 * 18446744073709551616 + X % 18446744073709551616 + (0 * 18446744073709551616 + 1) = X + 1 by omega]
  simp only [Option.bind_some]
  by_cases hq : X + 1 < 18446744073709551616
  · rw [if_pos hq, if_neg (by omega), show (X + 1) % 18446744073709551616 = X + 1 by omega]
  · rw [if_neg hq, if_pos (by omega)]
theorem part_flat {X : Int} (x0 : 0 ≤ X) : (if X / 18446744073709551616 > 0 then (some ((0 : Int), (10 : Int))) else (some (X % 18446744073709551616, 0))) = some (if X < 18446744073709551616 then (X, 0) else (0, 10)) := by
  by_cases hq : X < 18446744073709551616
  · rw [if_pos hq, if_neg (by omega), show X % 18446744073709551616 = X by omega]
  · rw [if_neg hq, if_pos (by omega)]
theorem ratio_Ceil_eq (k : Nat) (hk : 20 ≤ k) {a b c : Int} (ha : W64 a) (hb : W64 b) (hc : W64 c) : ratio_Ceil.f k a b c = some (partR a b c (c - 1)) := by
  obtain ⟨p0, p1⟩ := mul_word ha.1 ha.2 hb.1 hb.2
  have hh : W64 (a * b / 18446744073709551616) := by unfold W64; omega
  unfold ratio_Ceil.f ratio_part_with_ratio_Ceil_1.f ratio_Ceil_1.f
  rw [wide_Mul_eq ha.1 ha.2 hb.1 hb.2]
  simp only [Option.bind_some]
  unfold partR
  by_cases hz : c = 0
  · subst hz; rw [wide_Div_zero]; simp
  · have hcp : 0 < c := by unfold W64 at hc; omega
    rw [wide_Div_eq k hk hh.1 hh.2 hcp hc.2 (by omega) (by omega), if_neg hz, show a * b / 18446744073709551616 * 18446744073709551616 + a * b % 18446744073709551616 = a * b by omega]
    simp only [Option.bind_some, if_true]
    have q0 : 0 ≤ a * b / c := Int.ediv_nonneg p0 (by omega)
    have q1 : a * b / c ≤ a * b := Int.ediv_le_self _ p0
    have m0 := Int.emod_nonneg (a * b) (b := c) (by omega)
    rw [part_up k q0 (by omega), part_flat q0, div_step hcp (by omega) (by omega)]
    by_cases h : a * b % c > 0
    · rw [if_pos (decide_eq_true h), show (if c ≤ a * b % c + (c - 1) then a * b / c + 1 else a * b / c) = a * b / c + 1 from if_pos (by omega)]; rfl
    · rw [if_neg (by simpa using h), show (if c ≤ a * b % c + (c - 1) then a * b / c + 1 else a * b / c) = a * b / c from if_neg (by omega)]; rfl
theorem ratio_Near_eq (k : Nat) (hk : 20 ≤ k) {a b c : Int} (ha : W64 a) (hb : W64 b) (hc : W64 c) : ratio_Near.f k a b c = some (partR a b c (c / 2)) := by
  obtain ⟨p0, p1⟩ := mul_word ha.1 ha.2 hb.1 hb.2
  have hh : W64 (a * b / 18446744073709551616) := by unfold W64; omega
  unfold ratio_Near.f ratio_part_Near.f ratio_Near_1.f
  rw [wide_Mul_eq ha.1 ha.2 hb.1 hb.2]
  simp only [Option.bind_some]
  unfold partR
  by_cases hz : c = 0
  · subst hz; rw [wide_Div_zero]; simp
  · have hcp : 0 < c := by unfold W64 at hc; omega
    rw [wide_Div_eq k hk hh.1 hh.2 hcp hc.2 (by omega) (by omega), if_neg hz, show a * b / 18446744073709551616 * 18446744073709551616 + a * b % 18446744073709551616 = a * b by omega]
    simp only [Option.bind_some, if_true]
    have q0 : 0 ≤ a * b / c := Int.ediv_nonneg p0 (by omega)
    have q1 : a * b / c ≤ a * b := Int.ediv_le_self _ p0
    have m0 := Int.emod_nonneg (a * b) (b := c) (by omega)
    have m1 := Int.emod_lt_of_pos (a * b) hcp
    have hc2 := hc.2
    rw [part_up k q0 (by omega), part_flat q0, div_step hcp (by omega) (by omega), nwr (n := c - a * b % c) (by omega) (by omega)]
    by_cases h : a * b % c ≥ c - a * b % c
    · rw [if_pos (decide_eq_true h), show (if c ≤ a * b % c + c / 2 then a * b / c + 1 else a * b / c) = a * b / c + 1 from if_pos (by omega)]
    · rw [if_neg (by simpa using h), show (if c ≤ a * b % c + c / 2 then a * b / c + 1 else a * b / c) = a * b / c from if_neg (by omega)]
/-- What a ratio is to another one. -/
def cmpR (a b c d : Int) : Int × Int := if b = 0 ∨ d = 0 then (0, 20) else (scmp (a * d) (c * b), 0)
theorem ratio_Cmp_eq (k : Nat) (hk : 5 ≤ k) {a b c d : Int} (ha : W64 a) (hb : W64 b) (hc : W64 c) (hd : W64 d) : ratio_Cmp.f k a b c d = some (cmpR a b c d) := by
  obtain ⟨k, rfl⟩ : ∃ m, k = m + 1 := ⟨k - 1, by omega⟩
  unfold ratio_Cmp.f cmpR
  by_cases h : b = 0
  · rw [if_pos h, if_pos (.inl h)]; rfl
  · rw [if_neg h]
    by_cases h2 : d = 0
    · subst h2; rw [if_pos (.inr rfl)]; rfl
    · rw [if_neg (by omega), ratio_Cmp.j0, if_neg (by simpa using h2), wide_Mul_eq ha.1 ha.2 hd.1 hd.2, wide_Mul_eq hc.1 hc.2 hb.1 hb.2]
      simp only [Option.bind_some]
      rw [wide_Cmp_eq k (by omega) (by omega) (by omega) (by omega) (by omega), show a * d / 18446744073709551616 * 18446744073709551616 + a * d % 18446744073709551616 = a * d by omega, show c * b / 18446744073709551616 * 18446744073709551616 + c * b % 18446744073709551616 = c * b by omega]
      rfl
end Go.Proofs.Ytnobdpenncfghaa.Facts
