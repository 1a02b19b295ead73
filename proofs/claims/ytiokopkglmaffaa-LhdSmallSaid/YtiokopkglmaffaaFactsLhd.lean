
/- Plain facts about the Lean functions of lhd: what a density is, as arithmetic on Int; a hit, and an eviction, more. -/
import Derived.Test.YtiokopkglmaffaaFactsNum
import Derived.Test.YtiokopkglmaffaaFactsWide
import Derived.Test.YtiokopkglmaffaaFactsFloor
import Derived.Test.YtiokopkglmaffaaFactsWord
import Derived.Test.YtiokopkglmaffaaFactsFixed
import Derived.Test.YtiokopkglmaffaaPrintRank
import Derived.Test.YtiokopkglmaffaaPrint2
import Derived.Test.YtiokopkglmaffaaPrint4
import Derived.Test.YtiokopkglmaffaaPrint6
namespace Go.Proofs.Ytiokopkglmaffaa.Facts
set_option linter.unusedVariables false
set_option linter.unusedSimpArgs false
open Go.RowKit Go.Proofs.Ytiokopkglmaffaa.Print Go.Proofs.YtiokopkglmaffaaW.PrintWords Go.Proofs.YtiokopkglmaffaaW.PrintLast Go.Proofs.YtiokopkglmaffaaW.PrintMore
def M64 : Int := 18446744073709551615
/-- A sum that is held. -/
def cap (a : Int) : Int := min a 18446744073709551615
def rkOK (xs : List Int) : Prop := xs.length = 16 ∧ ∀ x ∈ xs, 0 ≤ x ∧ x < 18446744073709551616
theorem rkOK.at_ {xs : List Int} (h : rkOK xs) (i : Nat) : 0 ≤ rkG xs i ∧ rkG xs i < 18446744073709551616 := by
  unfold rkG
  rw [List.getD_eq_getElem?_getD]
  by_cases c : i < xs.length
  · rw [List.getElem?_eq_getElem c]; exact h.2 _ (List.getElem_mem c)
  · rw [List.getElem?_eq_none (by omega)]; simp
/-- Hits, and all, from an age on. -/
def hitS (xs : List Int) : Nat → Nat → Int → Int
  | 0, _, h => h
  | n + 1, k, h => hitS xs n (k + 1) (cap (h + rkG xs k))
def allS (xs : List Int) : Nat → Nat → Int → Int
  | 0, _, a => a
  | n + 1, k, a => allS xs n (k + 1) (cap (a + cap (cap (rkG xs k + rkG xs (8 + k)) * 2 ^ k)))
theorem cap_id {a : Int} (h : a ≤ 18446744073709551615) : cap a = a := by unfold cap; omega
theorem cap_range {a : Int} (h : 0 ≤ a) : 0 ≤ cap a ∧ cap a < 18446744073709551616 := by unfold cap; omega
theorem p2k {k : Nat} (hk : k < 8) : (1 : Int) ≤ 2 ^ k ∧ (2 : Int) ^ k ≤ 128 := by
  have h1 := npow_pos k
  have h2 := npow_le (show k ≤ 7 by omega)
  exact ⟨by omega, by simpa using h2⟩
theorem dens_step (xs : List Int) (hx : rkOK xs) : ∀ (n k : Nat) (h a : Int), k + n ≤ 8 → (0 ≤ h ∧ h < 18446744073709551616) → (0 ≤ a ∧ a < 18446744073709551616) → lhd_dens xs n k h a = some (hitS xs n k h, allS xs n k a)
  | 0, _, h, a, _, _, _ => rfl
  | n + 1, k, h, a, hk, hh, ha => by
    have x0 := hx.at_ k
    have x1 := hx.at_ (8 + k)
    have p := p2k (show k < 8 by omega)
    have c1 := cap_range (a := rkG xs k + rkG xs (8 + k)) (by omega)
    have c2 := Int.mul_nonneg c1.1 (show (0 : Int) ≤ 2 ^ k by omega)
    have e1 : word_Add.f h (rkG xs k) = some (cap (h + rkG xs k)) := word_Add_eq hh.1 x0.1
    have e2 : word_Add.f (rkG xs k) (rkG xs (8 + k)) = some (cap (rkG xs k + rkG xs (8 + k))) := word_Add_eq x0.1 x1.1
    have e3 : word_Shl.f (cap (rkG xs k + rkG xs (8 + k))) (k : Int) = some (cap (cap (rkG xs k + rkG xs (8 + k)) * 2 ^ k)) := by
      rw [word_Shl_eq c1.1 c1.2 (Int.natCast_nonneg _) (by omega), Int.toNat_natCast]; rfl
    have c3 := cap_range c2
    have e4 : word_Add.f a (cap (cap (rkG xs k + rkG xs (8 + k)) * 2 ^ k)) = some (cap (a + cap (cap (rkG xs k + rkG xs (8 + k)) * 2 ^ k))) := word_Add_eq ha.1 c3.1
    rw [lhd_dens, e1, Option.bind_some, e2, Option.bind_some, e3, Option.bind_some, e4, Option.bind_some]
    exact dens_step xs hx n (k + 1) _ _ (by omega) (cap_range (by omega)) (cap_range (by omega))
theorem allS_range (xs : List Int) (hx : rkOK xs) : ∀ (n k : Nat) (h a : Int), k + n ≤ 8 → 0 ≤ h → h ≤ a → a < 18446744073709551616 → 0 ≤ hitS xs n k h ∧ hitS xs n k h ≤ allS xs n k a ∧ allS xs n k a < 18446744073709551616
  | 0, _, h, a, _, h0, h1, h2 => ⟨h0, h1, h2⟩
  | n + 1, k, h, a, hk, h0, h1, h2 => by
    have x0 := hx.at_ k
    have x1 := hx.at_ (8 + k)
    have p := p2k (show k < 8 by omega)
    have hm : rkG xs k ≤ cap (cap (rkG xs k + rkG xs (8 + k)) * 2 ^ k) := by
      have c1 : rkG xs k ≤ cap (rkG xs k + rkG xs (8 + k)) := by unfold cap; omega
      have c2 := Int.mul_le_mul_of_nonneg_left p.1 (show 0 ≤ cap (rkG xs k + rkG xs (8 + k)) by omega)
      unfold cap at *
      omega
    have c3 : cap (h + rkG xs k) ≤ cap (a + cap (cap (rkG xs k + rkG xs (8 + k)) * 2 ^ k)) := by unfold cap at *; omega
    exact allS_range xs hx n (k + 1) _ _ (by omega) (by unfold cap; omega) c3 (by unfold cap; omega)
/-- A density out of hits, and all. -/
def dn (H A : Int) : Int := if A = 0 then 4294967296 else H * 4294967296 / A
theorem dn_one {H A : Int} (h0 : 0 ≤ H) (h : H ≤ A) : 0 ≤ dn H A ∧ dn H A ≤ 4294967296 := by
  unfold dn
  by_cases z : A = 0
  · rw [if_pos z]; omega
  · rw [if_neg z]
    refine ⟨Int.ediv_nonneg (by omega) (by omega), ?_⟩
    apply Int.ediv_le_of_le_mul (by omega)
    have := Int.mul_le_mul_of_nonneg_right h (show (0 : Int) ≤ 4294967296 by decide)
    omega
theorem allS_zero : ∀ (n k : Nat), allS (List.replicate 16 0) n k 0 = 0
  | 0, _ => rfl
  | n + 1, k => by
    have z : ∀ i, rkG (List.replicate 16 0) i = 0 := fun i => by
      unfold rkG
      rw [List.getD_eq_getElem?_getD, List.getElem?_replicate]; split <;> rfl
    rw [allS, z, z]
    have : cap (0 + cap (cap (0 + 0) * 2 ^ k)) = 0 := by
      have : cap (0 + 0) = 0 := by unfold cap; omega
      rw [this, Int.zero_mul]; unfold cap; omega
    rw [this]
    exact allS_zero n (k + 1)
def densV (xs : List Int) (k : Nat) : Int := dn (hitS xs (8 - k) k 0) (allS xs (8 - k) k 0)
theorem lhd_Density_eq (F : Nat) (hF : 20 ≤ F) {xs : List Int} (hx : rkOK xs) {k : Nat} (hk : k < 8) : lhd_Density.f F xs k = some (densV xs k) := by
  unfold lhd_Density.f densV
  have his : lhd_is.f k = some true := by
    unfold lhd_is.f
    rw [if_pos (by omega), decide_eq_true (by omega)]
  have r := allS_range xs hx (8 - k) k 0 0 (by omega) (by decide) (by decide) (by decide)
  rw [if_pos hx.1, his, Option.bind_some, if_pos rfl, Int.toNat_natCast]
  by_cases z : xs = List.replicate 16 0
  · rw [if_pos z, z, allS_zero]; unfold dn; rw [if_pos rfl]
  · rw [if_neg z, dens_step xs hx (8 - k) k 0 0 (by omega) (by decide) (by decide), Option.bind_some]
    show (fixed_Of.f F (hitS xs (8 - k) k 0) (allS xs (8 - k) k 0)).bind _ = _
    rw [fixed_Of_eq F hF ⟨r.1, by omega⟩ ⟨by omega, r.2.2⟩, Option.bind_some]
    have b := dn_one r.1 r.2.1
    unfold dn floorR at *
    by_cases q : allS xs (8 - k) k 0 = 0
    · rw [if_pos q, if_pos q, if_neg (by decide)]
    · simp only [if_neg q] at b ⊢
      rw [if_pos (show hitS xs (8 - k) k 0 * 4294967296 / allS xs (8 - k) k 0 < 18446744073709551616 by omega)]; rfl
theorem lhd_is_yes {k : Int} (h : 0 ≤ k ∧ k < 8) : lhd_is.f k = some true := by
  unfold lhd_is.f
  rw [if_pos (by omega), decide_eq_true (by omega)]
theorem lhd_is_no {k : Int} (h : ¬ (0 ≤ k ∧ k < 8)) : lhd_is.f k = some false := by
  unfold lhd_is.f
  by_cases c : k ≥ 0
  · rw [if_pos c, decide_eq_false (by omega)]
  · rw [if_neg c]
theorem lhd_Hit_eq {xs : List Int} (hx : rkOK xs) {k : Nat} (hk : k < 8) : lhd_Hit.f xs k = some (xs.set k (cap (rkG xs k + 1))) := by
  have x0 := hx.at_ k
  unfold lhd_Hit.f
  rw [if_pos hx.1, lhd_is_yes (by omega), Option.bind_some, if_pos rfl, Int.toNat_natCast, word_Add_eq x0.1 (by decide), Option.bind_some]; rfl
theorem lhd_Out_eq {xs : List Int} (hx : rkOK xs) {k : Nat} (hk : k < 8) : lhd_Out.f xs k = some (xs.set (8 + k) (cap (rkG xs (8 + k) + 1))) := by
  have x0 := hx.at_ (8 + k)
  unfold lhd_Out.f
  rw [if_pos hx.1, lhd_is_yes (by omega), Option.bind_some, if_pos rfl, Int.toNat_natCast, word_Add_eq x0.1 (by decide), Option.bind_some]; rfl
theorem rkG_set (xs : List Int) (j i : Nat) (v : Int) (hj : j < xs.length) : rkG (xs.set j v) i = if i = j then v else rkG xs i := by
  unfold rkG
  rw [List.getD_eq_getElem?_getD, List.getD_eq_getElem?_getD, List.getElem?_set]
  by_cases c : j = i
  · subst c
    rw [if_pos rfl, if_pos hj, if_pos rfl]; rfl
  · rw [if_neg c, if_neg (fun h => c h.symm)]
theorem rkOK.set {xs : List Int} (h : rkOK xs) (j : Nat) {v : Int} (hv : 0 ≤ v ∧ v < 18446744073709551616) : rkOK (xs.set j v) := by
  refine ⟨by rw [List.length_set]; exact h.1, fun x hx => ?_⟩
  rcases List.mem_or_eq_of_mem_set hx with c | c
  · exact h.2 x c
  · rw [c]; exact hv
/-! ### small counts: no sum is cut -/
def hsum (xs : List Int) : Nat → Nat → Int
  | 0, _ => 0
  | n + 1, k => rkG xs k + hsum xs n (k + 1)
def asum (xs : List Int) : Nat → Nat → Int
  | 0, _ => 0
  | n + 1, k => (rkG xs k + rkG xs (8 + k)) * 2 ^ k + asum xs n (k + 1)
def rkLow (xs : List Int) : Prop := ∀ i, i < 16 → 0 ≤ rkG xs i ∧ rkG xs i ≤ 2251799813685248
theorem low_term {xs : List Int} (h : rkLow xs) {k : Nat} (hk : k < 8) : 0 ≤ (rkG xs k + rkG xs (8 + k)) * 2 ^ k ∧ (rkG xs k + rkG xs (8 + k)) * 2 ^ k ≤ 576460752303423488 ∧ rkG xs k ≤ (rkG xs k + rkG xs (8 + k)) * 2 ^ k := by
  have x0 := h k (by omega)
  have x1 := h (8 + k) (by omega)
  have p := p2k hk
  have m1 := Int.mul_le_mul (show rkG xs k + rkG xs (8 + k) ≤ 4503599627370496 by omega) p.2 (by omega) (by decide)
  have m2 := Int.mul_le_mul_of_nonneg_left p.1 (show 0 ≤ rkG xs k + rkG xs (8 + k) by omega)
  omega
theorem low_sums {xs : List Int} (h : rkLow xs) : ∀ (n k : Nat) (a b : Int), k + n ≤ 8 → 0 ≤ a → a + 2251799813685248 * n ≤ 18446744073709551615 → 0 ≤ b → b + 576460752303423488 * n ≤ 18446744073709551615 → hitS xs n k a = a + hsum xs n k ∧ allS xs n k b = b + asum xs n k
  | 0, _, a, b, _, _, _, _, _ => by simp [hitS, allS, hsum, asum]
  | n + 1, k, a, b, hk, ha, ha2, hb, hb2 => by
    have x0 := h k (by omega)
    have x1 := h (8 + k) (by omega)
    have t := low_term h (show k < 8 by omega)
    have p := p2k (show k < 8 by omega)
    rw [hitS, allS, hsum, asum, cap_id (a := rkG xs k + rkG xs (8 + k)) (by omega), cap_id (a := (rkG xs k + rkG xs (8 + k)) * 2 ^ k) (by omega), cap_id (by omega), cap_id (by omega)]
    obtain ⟨e1, e2⟩ := low_sums h n (k + 1) (a + rkG xs k) (b + (rkG xs k + rkG xs (8 + k)) * 2 ^ k) (by omega) (by omega) (by omega) (by omega) (by omega)
    rw [e1, e2]
    exact ⟨by omega, by omega⟩
theorem densV_low {xs : List Int} (h : rkLow xs) {k : Nat} (hk : k < 8) : densV xs k = dn (hsum xs (8 - k) k) (asum xs (8 - k) k) := by
  unfold densV
  obtain ⟨e1, e2⟩ := low_sums h (8 - k) k 0 0 (by omega) (by decide) (by omega) (by decide) (by omega)
  rw [e1, e2, Int.zero_add, Int.zero_add]
theorem low_le {xs : List Int} (h : rkLow xs) : ∀ (n k : Nat), k + n ≤ 8 → 0 ≤ hsum xs n k ∧ hsum xs n k ≤ asum xs n k
  | 0, _, _ => by simp [hsum, asum]
  | n + 1, k, hk => by
    have x0 := h k (by omega)
    have t := low_term h (show k < 8 by omega)
    have ih := low_le h n (k + 1) (by omega)
    rw [hsum, asum]
    omega
theorem hsum_set (xs : List Int) (hl : xs.length = 16) (j : Nat) (hj : j < 16) (v : Int) : ∀ (n k : Nat), k + n ≤ 8 → hsum (xs.set j v) n k = hsum xs n k + if k ≤ j ∧ j < k + n then v - rkG xs j else 0
  | 0, k, _ => by rw [hsum, hsum, if_neg (by omega)]; rfl
  | n + 1, k, hk => by
    rw [hsum, hsum, hsum_set xs hl j hj v n (k + 1) (by omega), rkG_set xs j k v (by omega)]
    by_cases c : k = j
    · subst c
      rw [if_pos rfl, if_neg (by omega), if_pos (by omega)]; omega
    · rw [if_neg c]
      by_cases d : k + 1 ≤ j ∧ j < k + 1 + n
      · rw [if_pos d, if_pos (by omega)]; omega
      · rw [if_neg d, if_neg (by omega)]; omega
theorem asum_set (xs : List Int) (hl : xs.length = 16) (j : Nat) (hj : j < 8) (o : Nat) (ho : o = j ∨ o = 8 + j) (v : Int) : ∀ (n k : Nat), k + n ≤ 8 → asum (xs.set o v) n k = asum xs n k + if k ≤ j ∧ j < k + n then (v - rkG xs o) * 2 ^ j else 0
  | 0, k, _ => by rw [asum, asum, if_neg (by omega)]; rfl
  | n + 1, k, hk => by
    rw [asum, asum, asum_set xs hl j hj o ho v n (k + 1) (by omega), rkG_set xs o k v (by omega), rkG_set xs o (8 + k) v (by omega)]
    by_cases c : k = j
    · subst c
      rw [if_neg (show ¬ (k + 1 ≤ k ∧ k < k + 1 + n) by omega), if_pos (show k ≤ k ∧ k < k + (n + 1) by omega)]
      rcases ho with rfl | rfl
      · rw [if_pos rfl, if_neg (by omega)]
        simp only [Int.add_mul, Int.sub_mul]; omega
      · rw [if_neg (by omega), if_pos rfl]
        simp only [Int.add_mul, Int.sub_mul]; omega
    · rw [if_neg (by omega), if_neg (by omega)]
      by_cases d : k + 1 ≤ j ∧ j < k + 1 + n
      · rw [if_pos d, if_pos (by omega)]; omega
      · rw [if_neg d, if_neg (by omega)]; omega
theorem dn_more {H A d : Int} (h0 : 0 ≤ H) (h : H ≤ A) (hd : 0 < d) : dn H (A + d) ≤ dn H A := by
  have b := dn_one (H := H) (A := A + d) h0 (by omega)
  unfold dn at *
  by_cases z : A = 0
  · rw [if_pos z]; exact b.2
  · rw [if_neg z, if_neg (show A + d ≠ 0 by omega)]
    apply Int.le_of_lt_add_one
    rw [Int.ediv_lt_iff_lt_mul (by omega)]
    have e := Int.lt_ediv_add_one_mul_self (H * 4294967296) (show 0 < A by omega)
    have q0 : 0 ≤ H * 4294967296 / A := Int.ediv_nonneg (by omega) (by omega)
    generalize H * 4294967296 / A = q at *
    have m := Int.mul_le_mul_of_nonneg_left (show A ≤ A + d by omega) (show 0 ≤ q + 1 by omega)
    omega
theorem dn_hit {H A : Int} (h0 : 0 ≤ H) (h : H ≤ A) : dn H A ≤ dn (H + 1) (A + 1) ∨ dn H A = 4294967296 := by
  unfold dn
  by_cases z : A = 0
  · rw [if_pos z]; exact .inr rfl
  · rw [if_neg z, if_neg (show A + 1 ≠ 0 by omega)]
    left
    apply Int.le_ediv_of_mul_le (by omega)
    have e := Int.ediv_mul_le (H * 4294967296) (show A ≠ 0 from z)
    have b := (dn_one h0 h).2
    unfold dn at b
    rw [if_neg z] at b
    generalize H * 4294967296 / A = q at *
    rw [Int.mul_add, Int.mul_one, Int.add_mul]
    omega
end Go.Proofs.Ytiokopkglmaffaa.Facts
