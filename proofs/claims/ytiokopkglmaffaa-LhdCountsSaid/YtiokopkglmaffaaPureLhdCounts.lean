/- LhdCounts: an eviction makes nothing denser, and neither it nor a hit changes anything at a greater age. For all inputs, no condition. -/
import Derived.Test.YtiokopkglmaffaaFactsNum
import Derived.Test.YtiokopkglmaffaaFactsLhd
import Derived.Test.YtiokopkglmaffaaPrintCounts
import Derived.Test.YtiokopkglmaffaaStLhdCounts
import Derived.Test.YtiokopkglmaffaaPrint2
import Derived.Test.YtiokopkglmaffaaPrintCounts
namespace Go.Proofs.Ytiokopkglmaffaa.Pure
set_option linter.unusedVariables false
set_option linter.unusedSimpArgs false
open Go.RowKit Go.Proofs.Ytiokopkglmaffaa.Print Go.Proofs.Ytiokopkglmaffaa.Facts Go.Proofs.YtiokopkglmaffaaW.PrintWords Go.Proofs.YtiokopkglmaffaaW.PrintLast Go.Proofs.YtiokopkglmaffaaW.PrintMore
theorem LhdCounts : linhaylaw19_LhdCounts.Pure := by
  intro xs age at_ hl hw wa wt
  have ha := nwf_u8 wa
  have ht := nwf_u8 wt
  have hx : rkOK xs := ⟨hl, fun x hx => nwf_u64 (hw x hx)⟩
  unfold linhaylaw19_LhdCounts.f
  rw [if_pos ⟨hl, ha, ht⟩]
  by_cases f : lhd_far xs = true
  · rw [if_pos f]
  · rw [if_neg f]
    have hlow0 : ∀ i, i < 16 → 0 ≤ rkG xs i ∧ rkG xs i < 1125899906842624 := by
      intro i hi
      have x0 := hx.at_ i
      refine ⟨x0.1, ?_⟩
      rw [Bool.not_eq_true] at f
      unfold lhd_far at f
      rw [List.any_eq_false] at f
      rcases Nat.lt_or_ge i 8 with c | c
      · have := f i (by simpa using c)
        simp only [Bool.or_eq_true, decide_eq_true_eq] at this
        omega
      · have := f (i - 8) (by simp; omega)
        simp only [Bool.or_eq_true, decide_eq_true_eq] at this
        rw [show 8 + (i - 8) = i by omega] at this
        omega
    have hlow : rkLow xs := fun i hi => by have := hlow0 i hi; omega
    obtain ⟨K, hK⟩ : ∃ K : Nat, age % 8 = K := ⟨(age % 8).toNat, by omega⟩
    obtain ⟨N, hN⟩ : ∃ N : Nat, at_ % 8 = N := ⟨(at_ % 8).toNat, by omega⟩
    have k8 : K < 8 := by omega
    have n8 : N < 8 := by omega
    have xk := hlow0 K (by omega)
    have xo := hlow0 (8 + K) (by omega)
    rw [hK, hN, lhd_Density_eq 100 (by omega) hx n8, Option.bind_some, lhd_Hit_eq hx k8, Option.bind_some, cap_id (a := rkG xs K + 1) (by omega), lhd_Density_eq 100 (by omega) (hx.set K (by omega)) n8, Option.bind_some, lhd_Out_eq hx k8, Option.bind_some, cap_id (a := rkG xs (8 + K) + 1) (by omega), lhd_Density_eq 100 (by omega) (hx.set (8 + K) (by omega)) n8, Option.bind_some]
    have lowh : rkLow (xs.set K (rkG xs K + 1)) := fun i hi => by
      rw [rkG_set xs K i _ (by omega)]
      have := hlow0 i hi
      split <;> omega
    have lowo : rkLow (xs.set (8 + K) (rkG xs (8 + K) + 1)) := fun i hi => by
      rw [rkG_set xs (8 + K) i _ (by omega)]
      have := hlow0 i hi
      split <;> omega
    have b := low_le hlow (8 - N) N (by omega)
    rw [densV_low hlow n8, densV_low lowh n8, densV_low lowo n8, hsum_set xs hl K (by omega) _ (8 - N) N (by omega), asum_set xs hl K k8 K (.inl rfl) _ (8 - N) N (by omega), hsum_set xs hl (8 + K) (by omega) _ (8 - N) N (by omega), asum_set xs hl K k8 (8 + K) (.inr rfl) _ (8 - N) N (by omega),
      if_neg (show ¬ (N ≤ 8 + K ∧ 8 + K < N + (8 - N)) by omega), show rkG xs K + 1 - rkG xs K = 1 by omega, show rkG xs (8 + K) + 1 - rkG xs (8 + K) = 1 by omega, Int.one_mul, Int.add_zero]
    refine if_pos ?_
    by_cases c : (K : Int) < (N : Int)
    · rw [if_pos c, if_neg (by omega), if_neg (by omega), Int.add_zero, Int.add_zero]
      exact ⟨rfl, rfl⟩
    · rw [if_neg c, if_pos (by omega), if_pos (by omega)]
      have p := p2k k8
      refine ⟨dn_more b.1 b.2 (by omega), (dn_one b.1 b.2).2, ?_⟩
      rcases Nat.eq_zero_or_pos K with z | z
      · subst z
        right
        have := dn_hit b.1 b.2
        simpa using this
      · left; omega
end Go.Proofs.Ytiokopkglmaffaa.Pure
