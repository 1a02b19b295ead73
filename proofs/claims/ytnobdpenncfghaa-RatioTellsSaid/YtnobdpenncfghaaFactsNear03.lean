
/- The document's answers of the layer ratio: Ceil, Near and Cmp of linhayref03. -/
import Derived.Test.YtnobdpenncfghaaFactsNum
import Derived.Test.YtnobdpenncfghaaFactsWide
import Derived.Test.YtnobdpenncfghaaFactsRef02
import Derived.Test.YtnobdpenncfghaaFactsFloor
import Derived.Test.YtnobdpenncfghaaFactsRef03
import Derived.Test.YtnobdpenncfghaaFactsNear
import Derived.Test.YtnobdpenncfghaaPrint3
import Derived.Test.YtnobdpenncfghaaPrint4
namespace Go.Proofs.Ytnobdpenncfghaa.Facts
set_option linter.unusedVariables false
set_option linter.unusedSimpArgs false
open Go.RowKit Go.Proofs.Ytnobdpenncfghaa.Print Go.Proofs.YtnobdpenncfghaaW.PrintWords Go.Proofs.YtnobdpenncfghaaW.PrintLast Go.Proofs.YtnobdpenncfghaaW.PrintMore
theorem ref03_Ceil_eq (k : Nat) (hk : 65 ≤ k) {a b c : Int} (ha : W64 a) (hb : W64 b) (hc : W64 c) : linhayref03_Ceil.f k a b c = some (partR a b c (c - 1)) := by
  unfold linhayref03_Ceil.f
  have hc' := hc
  unfold W64 at hc'
  have hm : mx c 1 = max c 1 := by unfold mx; split <;> omega
  rw [hm, nwr (n := max c 1 - 1) (by omega) (by omega), ref03_part_eq k hk ha hb hc (d := max c 1 - 1) (by unfold W64; omega)]
  simp only [Option.bind_some]
  unfold partR
  by_cases h : c = 0
  · rw [if_pos h, if_pos h]
  · rw [if_neg h, if_neg h, show max c 1 - 1 = c - 1 by omega]
theorem ref03_Near_eq (k : Nat) (hk : 65 ≤ k) {a b c : Int} (ha : W64 a) (hb : W64 b) (hc : W64 c) : linhayref03_Near.f k a b c = some (partR a b c (c / 2)) := by
  unfold linhayref03_Near.f
  have hc' := hc
  unfold W64 at hc'
  rw [Int.tdiv_eq_ediv_of_nonneg hc.1, nwr (n := c / 2) (by omega) (by omega), ref03_part_eq k hk ha hb hc (d := c / 2) (by unfold W64; omega)]
  rfl
theorem ref03_Cmp_eq (k : Nat) (hk : 5 ≤ k) {a b c d : Int} (ha : W64 a) (hb : W64 b) (hc : W64 c) (hd : W64 d) : linhayref03_Cmp.f k a b c d = some (cmpR a b c d) := by
  obtain ⟨k, rfl⟩ : ∃ m, k = m + 1 := ⟨k - 1, by omega⟩
  unfold linhayref03_Cmp.f cmpR
  by_cases h : b = 0
  · rw [if_pos h, if_pos (.inl h)]; rfl
  · rw [if_neg h]
    by_cases h2 : d = 0
    · subst h2; rw [if_pos (.inr rfl)]; rfl
    · rw [if_neg (by omega), linhayref03_Cmp.j0, if_neg (by simpa using h2), ref02_Mul_eq ha.1 ha.2 hd.1 hd.2, ref02_Mul_eq hc.1 hc.2 hb.1 hb.2]
      simp only [Option.bind_some]
      rw [ref02_Cmp_eq k (by omega) (by omega) (by omega) (by omega) (by omega), show a * d / 18446744073709551616 * 18446744073709551616 + a * d % 18446744073709551616 = a * d by omega, show c * b / 18446744073709551616 * 18446744073709551616 + c * b % 18446744073709551616 = c * b by omega]
      rfl
end Go.Proofs.Ytnobdpenncfghaa.Facts
