/- LhdSmall: a density is at most One, and without hits, but with evictions, it is 0. For all inputs, no condition. -/
import Derived.Test.YtiokopkglmaffaaFactsNum
import Derived.Test.YtiokopkglmaffaaFactsLhd
import Derived.Test.YtiokopkglmaffaaPrintSmall
import Derived.Test.YtiokopkglmaffaaStLhdSmall
import Derived.Test.YtiokopkglmaffaaPrint2
import Derived.Test.YtiokopkglmaffaaPrintSmall
namespace Go.Proofs.Ytiokopkglmaffaa.Pure
set_option linter.unusedVariables false
set_option linter.unusedSimpArgs false
open Go.RowKit Go.Proofs.Ytiokopkglmaffaa.Print Go.Proofs.Ytiokopkglmaffaa.Facts Go.Proofs.YtiokopkglmaffaaW.PrintWords Go.Proofs.YtiokopkglmaffaaW.PrintLast Go.Proofs.YtiokopkglmaffaaW.PrintMore
theorem lost_len {xs : List Int} (hl : xs.length = 16) : (lhd_lost xs).length = 16 := by unfold lhd_lost; simp; omega
theorem lost_low {xs : List Int} (i : Nat) (hi : i < 8) : rkG (lhd_lost xs) i = 0 := by
  unfold rkG lhd_lost
  rw [List.getD_eq_getElem?_getD, List.getElem?_append_left (by simpa using hi), List.getElem?_replicate, if_pos hi]; rfl
theorem lost_high {xs : List Int} (i : Nat) : rkG (lhd_lost xs) (8 + i) = rkG xs (8 + i) := by
  unfold rkG lhd_lost
  rw [List.getD_eq_getElem?_getD, List.getD_eq_getElem?_getD, List.getElem?_append_right (by simp), List.length_replicate, Nat.add_sub_cancel_left, List.getElem?_drop]
theorem lost_ok {xs : List Int} (h : rkOK xs) : rkOK (lhd_lost xs) := by
  refine ⟨lost_len h.1, fun x hx => ?_⟩
  unfold lhd_lost at hx
  rcases List.mem_append.mp hx with c | c
  · rw [List.eq_of_mem_replicate c]; omega
  · exact h.2 x (List.mem_of_mem_drop c)
theorem lost_hits (xs : List Int) : ∀ (n k : Nat), k + n ≤ 8 → hitS (lhd_lost xs) n k 0 = 0
  | 0, _, _ => rfl
  | n + 1, k, hk => by
    rw [hitS, lost_low k (by omega), show cap (0 + 0) = 0 from by unfold cap; omega]
    exact lost_hits xs n (k + 1) (by omega)
theorem lost_all {xs : List Int} (h : rkOK xs) : ∀ (n k : Nat) (a : Int), k + n ≤ 8 → 0 ≤ a → (allS (lhd_lost xs) n k a = 0 ↔ a = 0 ∧ ∀ m, m < n → rkG xs (8 + (k + m)) = 0)
  | 0, _, a, _, _ => ⟨fun h => ⟨h, fun m hm => absurd hm (Nat.not_lt_zero _)⟩, fun h => h.1⟩
  | n + 1, k, a, hk, ha => by
    have x1 := h.at_ (8 + k)
    have p := p2k (show k < 8 by omega)
    rw [allS, lost_low k (by omega), lost_high]
    have c1 := cap_range (a := 0 + rkG xs (8 + k)) (by omega)
    have m0 := Int.mul_le_mul_of_nonneg_left p.1 c1.1
    rw [lost_all h n (k + 1) _ (by omega) (by unfold cap at *; omega)]
    have e : cap (a + cap (cap (0 + rkG xs (8 + k)) * 2 ^ k)) = 0 ↔ a = 0 ∧ rkG xs (8 + k) = 0 := by
      constructor
      · intro q
        unfold cap at *
        omega
      · rintro ⟨rfl, q⟩
        rw [q, show cap (0 + 0) = 0 from by unfold cap; omega, Int.zero_mul]; unfold cap; omega
    rw [e]
    constructor
    · rintro ⟨⟨q1, q2⟩, q3⟩
      refine ⟨q1, fun m hm => ?_⟩
      cases m with
      | zero => exact q2
      | succ m => rw [show k + (m + 1) = k + 1 + m by omega]; exact q3 m (by omega)
    · rintro ⟨q1, q2⟩
      refine ⟨⟨q1, q2 0 (by omega)⟩, fun m hm => ?_⟩
      have := q2 (m + 1) (by omega)
      rw [show k + (m + 1) = k + 1 + m by omega] at this; exact this
theorem sm_iff (xs : List Int) (k : Nat) : ∀ m, lhd_sm xs k m = true ↔ ∃ i, i < m ∧ 0 < rkG xs (8 + (k + i))
  | 0 => by simp [lhd_sm]
  | m + 1 => by
    rw [lhd_sm, Bool.or_eq_true, sm_iff xs k m, decide_eq_true_eq]
    constructor
    · rintro (⟨i, h1, h2⟩ | h)
      · exact ⟨i, by omega, h2⟩
      · exact ⟨m, by omega, h⟩
    · rintro ⟨i, h1, h2⟩
      rcases Nat.lt_or_ge i m with c | c
      · exact .inl ⟨i, c, h2⟩
      · obtain rfl : i = m := by omega
        exact .inr h2
theorem zero_sums : ∀ (n k : Nat), hsum (List.replicate 16 0) n k = 0 ∧ asum (List.replicate 16 0) n k = 0
  | 0, _ => ⟨rfl, rfl⟩
  | n + 1, k => by
    have z : ∀ i, rkG (List.replicate 16 0) i = 0 := fun i => by
      unfold rkG
      rw [List.getD_eq_getElem?_getD, List.getElem?_replicate]; split <;> rfl
    obtain ⟨h1, h2⟩ := zero_sums n (k + 1)
    rw [hsum, asum, h1, h2, z, z]; simp
theorem LhdSmall : linhaylaw19_LhdSmall.Pure := by
  intro xs n age hl hw wn wa
  have ha := nwf_u8 wa
  have hn := nwf_u32 wn
  have hx : rkOK xs := ⟨hl, fun x hx => nwf_u64 (hw x hx)⟩
  unfold linhaylaw19_LhdSmall.f
  rw [if_pos ⟨hl, hn, ha⟩]
  obtain ⟨k, hk⟩ : ∃ k, k = (age % 8).toNat := ⟨_, rfl⟩
  rw [← hk]
  have k8 : k < 8 := by omega
  have zr : ∀ i, rkG (List.replicate 16 0) i = 0 := fun i => by
    unfold rkG
    rw [List.getD_eq_getElem?_getD, List.getElem?_replicate]; split <;> rfl
  have oka : rkOK (lhd_alone n) := by
    unfold lhd_alone
    exact (show rkOK (List.replicate 16 0) from ⟨by simp, fun x hx => by rw [List.eq_of_mem_replicate hx]; omega⟩).set 0 (by omega)
  have lowa : rkLow (lhd_alone n) := fun i hi => by
    unfold lhd_alone
    rw [rkG_set _ 0 i _ (by simp), zr]
    split <;> omega
  obtain ⟨q, hq⟩ : ∃ q : Nat, q = 1 + k % 7 := ⟨_, rfl⟩
  have hq2 : (1 + (k : Int) % 7) = (q : Int) := by omega
  have q8 : q < 8 := by omega
  rw [lhd_Density_eq 100 (by omega) hx k8, Option.bind_some, lhd_Density_eq 100 (by omega) (lost_ok hx) k8, Option.bind_some, show ((0 : Int)) = ((0 : Nat) : Int) from rfl, lhd_Density_eq 100 (by omega) oka (show 0 < 8 by decide), Option.bind_some, hq2, lhd_Density_eq 100 (by omega) oka q8, Option.bind_some]
  refine if_pos ⟨?_, ?_, ?_, ?_⟩
  · have r := allS_range xs hx (8 - k) k 0 0 (by omega) (by decide) (by decide) (by decide)
    exact (dn_one r.1 r.2.1).2
  · have e := lost_all hx (8 - k) k 0 (by omega) (by decide)
    have e2 := sm_iff xs k (8 - k)
    unfold densV
    rw [lost_hits xs (8 - k) k (by omega)]
    unfold dn
    by_cases z : allS (lhd_lost xs) (8 - k) k 0 = 0
    · rw [if_pos z]
      have h2 := (e.mp z).2
      have : lhd_sm xs k (8 - k) = false := by
        rw [← Bool.not_eq_true, e2]
        rintro ⟨i, hi, h3⟩
        rw [h2 i hi] at h3; omega
      rw [this]; rfl
    · rw [if_neg z, Int.zero_mul, Int.zero_ediv]
      have : lhd_sm xs k (8 - k) = true := by
        rw [e2]
        by_cases c : ∃ i, i < 8 - k ∧ 0 < rkG xs (8 + (k + i))
        · exact c
        · exact absurd (e.mpr ⟨rfl, fun m hm => by
            have x1 := hx.at_ (8 + (k + m))
            by_cases d : 0 < rkG xs (8 + (k + m))
            · exact absurd ⟨m, hm, d⟩ c
            · omega⟩) z
      rw [this]; rfl
  · rw [densV_low lowa (show 0 < 8 by decide)]
    unfold lhd_alone
    rw [hsum_set _ (by simp) 0 (by omega) _ _ _ (by omega), asum_set _ (by simp) 0 (by omega) 0 (.inl rfl) _ _ _ (by omega), (zero_sums _ _).1, (zero_sums _ _).2, zr, if_pos (by omega), if_pos (by omega)]
    unfold dn
    by_cases z : n = 0
    · rw [z]; rfl
    · rw [if_neg (by simpa using z)]
      have : (0 + (n - 0) * 2 ^ 0 : Int) = n := by omega
      rw [this, show (0 + (n - 0) : Int) = n by omega, Int.mul_ediv_cancel_left _ z]
  · rw [densV_low lowa q8]
    unfold lhd_alone
    rw [hsum_set _ (by simp) 0 (by omega) _ _ _ (by omega), asum_set _ (by simp) 0 (by omega) 0 (.inl rfl) _ _ _ (by omega), (zero_sums _ _).1, (zero_sums _ _).2, if_neg (by omega), if_neg (by omega)]
    rfl
end Go.Proofs.Ytiokopkglmaffaa.Pure
