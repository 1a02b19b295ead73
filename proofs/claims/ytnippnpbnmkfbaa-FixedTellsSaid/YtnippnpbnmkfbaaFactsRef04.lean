
/- What the printed functions of the package linhayref04 answer (Of, Div, Mul, Whole, Part, Mix). -/
import Derived.Test.YtnippnpbnmkfbaaFactsNum
import Derived.Test.YtnippnpbnmkfbaaFactsWide
import Derived.Test.YtnippnpbnmkfbaaFactsRef02
import Derived.Test.YtnippnpbnmkfbaaFactsFloor
import Derived.Test.YtnippnpbnmkfbaaFactsRef03
import Derived.Test.YtnippnpbnmkfbaaFactsFixed
import Derived.Test.YtnippnpbnmkfbaaFactsMix
import Derived.Test.YtnippnpbnmkfbaaPrint12
import Derived.Test.YtnippnpbnmkfbaaPrint13
namespace Go.Proofs.Ytnippnpbnmkfbaa.Facts
set_option linter.unusedVariables false
set_option linter.unusedSimpArgs false
open Go.RowKit Go.Proofs.Ytnippnpbnmkfbaa.Print Go.Proofs.YtnippnpbnmkfbaaW.PrintWords Go.Proofs.YtnippnpbnmkfbaaW.PrintLast Go.Proofs.YtnippnpbnmkfbaaW.PrintMore
theorem ref04_Of_eq (k : Nat) (hk : 65 ≤ k) {a b : Int} (ha : W64 a) (hb : W64 b) : linhayref04_Of.f k a b = some (floorR a 4294967296 b) := by
  unfold linhayref04_Of.f; rw [ref03_Floor_eq k hk ha W64_one hb]; rfl
theorem ref04_Div_eq (k : Nat) (hk : 65 ≤ k) {a b : Int} (ha : W64 a) (hb : W64 b) : linhayref04_Div.f k a b = some (floorR a 4294967296 b) := by
  unfold linhayref04_Div.f; rw [ref03_Floor_eq k hk ha W64_one hb]; rfl
theorem ref04_Mul_eq (k : Nat) (hk : 65 ≤ k) {a b : Int} (ha : W64 a) (hb : W64 b) : linhayref04_Mul.f k a b = some (mulS a b) := by
  unfold linhayref04_Mul.f; rw [ref03_Floor_eq k hk ha hb W64_one, ← floorR_mul ha.1 hb.1]
  simp only [Option.bind_some]
  split <;> rfl
theorem ref04_Whole_eq {a : Int} (ha : W64 a) : linhayref04_Whole.f a = some (a / 4294967296) := by
  unfold W64 at ha
  unfold linhayref04_Whole.f; rw [Int.tdiv_eq_ediv_of_nonneg ha.1, nwr (by omega) (by omega)]
theorem ref04_Part_eq {a : Int} (ha : W64 a) : linhayref04_Part.f a = some (a % 4294967296) := by
  unfold linhayref04_Part.f; rw [Int.tmod_eq_emod_of_nonneg ha.1]
theorem ref04_Mix_eq (k : Nat) (hk : 66 ≤ k) {a b w : Int} (ha : W64 a) (hb : W64 b) (hw : W64 w) : linhayref04_Mix.f k a b w = some (mixS a b w) := by
  unfold W64 at hw
  obtain ⟨k, rfl⟩ : ∃ m, k = m + 1 := ⟨k - 1, by omega⟩
  have key : ∀ v, 0 ≤ v → v ≤ 4294967296 → linhayref04_Mix.j0 (k + 1) a b v = some ((a * (4294967296 - v) + b * v) / 4294967296) := by
    intro v v0 v1
    obtain ⟨b1, b2, b3⟩ := mix_bound ha hb v0 v1
    rw [linhayref04_Mix.j0, nwr (n := 4294967296 - v) (by omega) (by omega), ref02_Mul_eq ha.1 ha.2 (by omega) (by omega), ref02_Mul_eq hb.1 hb.2 (by omega) (by omega)]
    simp only [Option.bind_some]
    generalize a * (4294967296 - v) = x at *
    generalize b * v = y at *
    rw [ref02_Add_eq (by omega) (by omega) (by omega) (by omega) (by omega) (by omega) (by omega) (by omega)]
    simp only [Option.bind_some]
    rw [ref02_Div_eq k (by omega) (by omega) (by omega) (by decide) (by decide) (by omega) (by omega)]
    simp only [Option.bind_some]
    congr 1; omega
  unfold linhayref04_Mix.f mixS
  by_cases h : w > 4294967296
  · rw [if_pos h, key _ (by decide) (by decide), show min w 4294967296 = 4294967296 by omega]
  · rw [if_neg h, key _ (by omega) (by omega), show min w 4294967296 = w by omega]
end Go.Proofs.Ytnippnpbnmkfbaa.Facts
