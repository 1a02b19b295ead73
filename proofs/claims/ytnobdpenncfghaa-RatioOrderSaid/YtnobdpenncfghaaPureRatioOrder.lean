/- RatioOrder: of two ratios just one is greater, or both are one; and it goes on. For all ratios, no condition. -/
import Derived.Test.YtnobdpenncfghaaStRatioOrder
import Derived.Test.YtnobdpenncfghaaFactsNum
import Derived.Test.YtnobdpenncfghaaFactsWide
import Derived.Test.YtnobdpenncfghaaFactsFloor
import Derived.Test.YtnobdpenncfghaaFactsNear
import Derived.Test.YtnobdpenncfghaaFactsAwake03
import Derived.Test.YtnobdpenncfghaaPrint6
namespace Go.Proofs.Ytnobdpenncfghaa.Pure
set_option linter.unusedVariables false
set_option linter.unusedSimpArgs false
open Go.RowKit Go.Proofs.Ytnobdpenncfghaa.Print Go.Proofs.Ytnobdpenncfghaa.Facts Go.Proofs.YtnobdpenncfghaaW.PrintWords Go.Proofs.YtnobdpenncfghaaW.PrintLast Go.Proofs.YtnobdpenncfghaaW.PrintMore
theorem scmp_bd (x y : Int) : (scmp x y = -1 ∧ x < y) ∨ (scmp x y = 0 ∧ x = y) ∨ (scmp x y = 1 ∧ y < x) := by
  unfold scmp; split
  · left; exact ⟨rfl, by assumption⟩
  · split
    · right; right; exact ⟨rfl, by assumption⟩
    · right; left; exact ⟨rfl, by omega⟩
theorem w64_neg {x : Int} (h : -1 ≤ x) (h' : x ≤ 1) : wrap64 (-x) = -x := nw64 (by omega) (by omega)
theorem RatioOrder : linhaylaw03_RatioOrder.Pure := by
  intro a b c d p q ha hb hc hd hp hq
  have ha : W64 a := nwf_u64 ha
  have hb : W64 b := nwf_u64 hb
  have hc : W64 c := nwf_u64 hc
  have hd : W64 d := nwf_u64 hd
  have hp : W64 p := nwf_u64 hp
  have hq : W64 q := nwf_u64 hq
  refine ⟨200, ?_⟩
  unfold linhaylaw03_RatioOrder.f
  rw [awake03_le _ (by omega), ratio_Cmp_eq _ (by omega) ha hb hc hd, ratio_Cmp_eq _ (by omega) hc hd ha hb, ratio_Cmp_eq _ (by omega) hc hd hp hq, ratio_Cmp_eq _ (by omega) ha hb hp hq, ratio_Cmp_eq _ (by omega) hb ha hd hc]
  simp only [Option.bind_some]
  rw [if_pos]
  unfold linhaylaw03_RatioOrder.ok cmpR
  have hb0 := hb.1
  have hd0 := hd.1
  have hq0 := hq.1
  by_cases b0 : b = 0
  · by_cases d0 : d = 0 <;> by_cases q0 : q = 0 <;> simp [b0, d0, q0]
  · by_cases d0 : d = 0
    · simp [b0, d0]
    · by_cases q0 : q = 0
      · simp [b0, d0, q0]
      · rw [if_neg (by omega : ¬ (b = 0 ∨ d = 0)), if_neg (by omega : ¬ (d = 0 ∨ b = 0)), if_neg (by omega : ¬ (d = 0 ∨ q = 0)), if_neg (by omega : ¬ (b = 0 ∨ q = 0))]
        have bp : 0 < b := by omega
        have dp : 0 < d := by omega
        have qp : 0 < q := by omega
        have N := scmp_bd (a * d) (c * b)
        have M := scmp_bd (c * b) (a * d)
        have K := scmp_bd (c * q) (p * d)
        have L := scmp_bd (a * q) (p * b)
        have T := scmp_bd (b * c) (d * a)
        have cm1 : b * c = c * b := Int.mul_comm _ _
        have cm2 : d * a = a * d := Int.mul_comm _ _
        rw [cm1, cm2] at T
        have tr1 : c * b < a * d → p * d < c * q → p * b < a * q := by
          intro h1 h2
          have x1 := Int.mul_lt_mul_of_pos_right h1 qp
          have x2 := Int.mul_lt_mul_of_pos_right h2 bp
          have e1 : c * b * q = c * q * b := by grind
          have e2 : p * d * b = p * b * d := by grind
          have e3 : a * d * q = a * q * d := by grind
          have x3 : p * b * d < a * q * d := by omega
          exact Int.lt_of_mul_lt_mul_right x3 (by omega)
        have tr2 : a * d = c * b → c * q = p * d → a * q = p * b := by
          intro h1 h2
          have x3 : a * q * d = p * b * d := by
            have e1 : a * q * d = a * d * q := by grind
            have e2 : c * b * q = c * q * b := by grind
            have e3 : p * d * b = p * b * d := by grind
            rw [e1, h1, e2, h2, e3]
          exact Int.eq_of_mul_eq_mul_right (by omega) x3
        have wm : wrap64 (-scmp (c * b) (a * d)) = -scmp (c * b) (a * d) := w64_neg (by omega) (by omega)
        have wn : wrap64 (-scmp (a * d) (c * b)) = -scmp (a * d) (c * b) := w64_neg (by omega) (by omega)
        refine ⟨rfl, fun h => by simp at h, fun _ _ => ⟨rfl, rfl, ?_, ?_, ?_, ?_⟩⟩
        · show scmp (a * d) (c * b) = wrap64 (-scmp (c * b) (a * d))
          rw [wm]; omega
        · show scmp (a * d) (c * b) ≤ 0 ∨ scmp (c * q) (p * d) ≤ 0 ∨ scmp (a * q) (p * b) > 0
          omega
        · show scmp (a * d) (c * b) ≠ 0 ∨ scmp (c * q) (p * d) ≠ 0 ∨ scmp (a * q) (p * b) = 0
          omega
        · by_cases z : a = 0 ∨ c = 0
          · left; rw [if_pos z]; exact ⟨rfl, z⟩
          · right; rw [if_neg z]
            refine ⟨rfl, ?_⟩
            show scmp (b * c) (d * a) = wrap64 (-scmp (a * d) (c * b))
            rw [wn, cm1, cm2]; omega
end Go.Proofs.Ytnobdpenncfghaa.Pure
