
/- math/bits.Div64 as printed answers quotient and remainder of a number of two words, where the high word is below the divisor. -/
import Derived.Test.YtiokopkglmaffaaFactsNum
import Derived.Test.YtiokopkglmaffaaPrint2
import Derived.Test.YtiokopkglmaffaaPrint3
namespace Go.Proofs.Ytiokopkglmaffaa.Facts
set_option linter.unusedVariables false
set_option linter.unusedSimpArgs false
open Go.RowKit Go.Proofs.Ytiokopkglmaffaa.Print Go.Proofs.YtiokopkglmaffaaW.PrintWords Go.Proofs.YtiokopkglmaffaaW.PrintLast Go.Proofs.YtiokopkglmaffaaW.PrintMore

/-- The first digit. -/
theorem div64_l0 (Y s y1 y0 U u u0 : Int) (hY : Y = y1 * 4294967296 + y0) (h1 : 2147483648 ≤ y1) (h1' : y1 < 4294967296) (h0 : 0 ≤ y0) (h0' : y0 < 4294967296)
    (hU0 : 0 ≤ U) (hU : U < Y) (hu : 0 ≤ u) (hu' : u < 4294967296) (n : Nat) : ∀ (k : Nat) (q r : Int), U = q * y1 + r → 0 ≤ r → r < 4294967296 → (U * 4294967296 + u) / Y ≤ q → q ≤ 4294967297 →
    4294967296 - r ≤ n * 2147483648 → 2 * n + 2 ≤ k → ∃ k', k ≤ k' + 2 * n + 2 ∧ bits_Div64.l0 k Y s y1 y0 U u u0 q r = bits_Div64.j2 k' Y s y1 y0 U u u0 ((U * 4294967296 + u) / Y) := by
  have hp : 0 < Y := by omega
  have ht0 : 0 ≤ (U * 4294967296 + u) / Y := Int.ediv_nonneg (by omega) (by omega)
  have ht1 := digit_lt hp hU hu'
  induction n with
  | zero => intro k q r _ _ hr _ _ hn; omega
  | succ n ih =>
    intro k q r hq hr hr' htq hqm hn hk
    obtain ⟨k, rfl⟩ : ∃ m, k = m + 2 := ⟨k - 2, by omega⟩
    have key : (q ≥ 4294967296 ∨ ¬ q * y0 ≤ 4294967296 * r + u) → (U * 4294967296 + u) / Y < q →
        ∃ k', k + 2 ≤ k' + 2 * (n + 1) + 2 ∧ bits_Div64.j1 (k + 1) Y s y1 y0 U u u0 q r true = bits_Div64.j2 k' Y s y1 y0 U u u0 ((U * 4294967296 + u) / Y) := by
      intro _ hlt
      simp only [bits_Div64.j1, if_true]
      rw [nwr (n := r + y1) (by omega) (by omega), nwr (n := q - 1) (by omega) (by omega)]
      have hq' : U = (q - 1) * y1 + (r + y1) := by rw [hq]; grind
      by_cases hb : r + y1 ≥ 4294967296
      · rw [if_pos hb]
        have hm : (q - 1) * y0 ≤ 4294967296 * 4294967295 := nmul_le (by omega) h0 (by omega) (by omega)
        have := digit_ok (u := u) hY hp hq' (by omega)
        exact ⟨k, by omega, by rw [show q - 1 = (U * 4294967296 + u) / Y by omega]⟩
      · rw [if_neg hb]
        obtain ⟨k', e1, e2⟩ := ih k (q - 1) (r + y1) hq' (by omega) (by omega) (by omega) (by omega) (by push_cast at hn; omega) (by omega)
        exact ⟨k', by omega, e2⟩
    simp only [bits_Div64.l0]
    by_cases hb : q ≥ 4294967296
    · rw [if_pos hb]
      exact key (.inl hb) (by omega)
    · rw [if_neg hb]
      have hm : q * y0 ≤ 4294967295 * 4294967295 := nmul_le (by omega) h0 (by omega) (by omega)
      have hm0 : 0 ≤ q * y0 := Int.mul_nonneg (by omega) h0
      rw [nwr (n := q * y0) hm0 (by omega), nwr (n := 4294967296 * r) (by omega) (by omega), nwr (n := 4294967296 * r + u) (by omega) (by omega)]
      by_cases hc : q * y0 ≤ 4294967296 * r + u
      · rw [decide_eq_false (by omega)]
        have := digit_ok hY hp hq hc
        refine ⟨k, by omega, ?_⟩
        simp only [bits_Div64.j1]
        rw [show q = (U * 4294967296 + u) / Y by omega]
        simp
      · rw [decide_eq_true (by omega)]
        exact key (.inr hc) (digit_over hY hp hq hc)

/-- The second digit, and the end. -/
theorem div64_l1 (Y y1 y0 u Q E : Int) (s : Nat) (hs : s ≤ 64) (hY : Y = y1 * 4294967296 + y0) (h1 : 2147483648 ≤ y1) (h1' : y1 < 4294967296) (h0 : 0 ≤ y0) (h0' : y0 < 4294967296)
    (hE0 : 0 ≤ E) (hE : E < Y) (hu : 0 ≤ u) (hu' : u < 4294967296) (hQ : 0 ≤ Q) (hQ' : Q < 4294967296) (n : Nat) : ∀ (k : Nat) (q r : Int), E = q * y1 + r → 0 ≤ r → r < 4294967296 → (E * 4294967296 + u) / Y ≤ q → q ≤ 4294967297 →
    4294967296 - r ≤ n * 2147483648 → 2 * n + 2 ≤ k → bits_Div64.l1 k Y s y1 y0 u Q r E q = some (Q * 4294967296 + (E * 4294967296 + u) / Y, (E * 4294967296 + u) % Y / 2 ^ s) := by
  have hp : 0 < Y := by omega
  have hY' : Y < 18446744073709551616 := by omega
  have ht0 : 0 ≤ (E * 4294967296 + u) / Y := Int.ediv_nonneg (by omega) (by omega)
  have ht1 := digit_lt hp hE hu'
  have fin : ∀ q, q = (E * 4294967296 + u) / Y → (some (IntKind.u64.wrap ((IntKind.u64.wrap (Q * 4294967296)) + q), shr .u64 (IntKind.u64.wrap ((IntKind.u64.wrap ((IntKind.u64.wrap (E * 4294967296)) + u)) - (IntKind.u64.wrap (q * Y)))) s) : Option (Int × Int)) = some (Q * 4294967296 + (E * 4294967296 + u) / Y, (E * 4294967296 + u) % Y / 2 ^ s) := by
    intro q hq
    have hd := Int.mul_ediv_add_emod (E * 4294967296 + u) Y
    have hm0 := Int.emod_nonneg (E * 4294967296 + u) (b := Y) (by omega)
    have hm1 := Int.emod_lt_of_pos (E * 4294967296 + u) hp
    rw [← hq] at hd ht0 ht1 ⊢
    rw [Int.mul_comm] at hd
    rw [nwr (n := Q * 4294967296) (by omega) (by omega), nwr (n := Q * 4294967296 + q) (by omega) (by omega), nshr _ _ hs]
    have e : IntKind.u64.wrap ((IntKind.u64.wrap ((IntKind.u64.wrap (E * 4294967296)) + u)) - (IntKind.u64.wrap (q * Y))) = (E * 4294967296 + u) % Y := by
      simp only [IntKind.wrap_u64]
      generalize (E * 4294967296 + u) % Y = m at *
      generalize q * Y = p at *
      omega
    rw [e]
  induction n with
  | zero => intro k q r _ _ hr _ _ hn; omega
  | succ n ih =>
    intro k q r hq hr hr' htq hqm hn hk
    obtain ⟨k, rfl⟩ : ∃ m, k = m + 2 := ⟨k - 2, by omega⟩
    have key : (E * 4294967296 + u) / Y < q → bits_Div64.j4 (k + 1) Y s y1 y0 u Q r E q true = some (Q * 4294967296 + (E * 4294967296 + u) / Y, (E * 4294967296 + u) % Y / 2 ^ s) := by
      intro hlt
      simp only [bits_Div64.j4, if_true]
      rw [nwr (n := r + y1) (by omega) (by omega), nwr (n := q - 1) (by omega) (by omega)]
      have hq' : E = (q - 1) * y1 + (r + y1) := by rw [hq]; grind
      by_cases hb : r + y1 ≥ 4294967296
      · rw [if_pos hb, if_pos (by omega)]
        have hm : (q - 1) * y0 ≤ 4294967296 * 4294967295 := nmul_le (by omega) h0 (by omega) (by omega)
        have := digit_ok (u := u) hY hp hq' (by omega)
        exact fin _ (by omega)
      · rw [if_neg hb]
        exact ih k (q - 1) (r + y1) hq' (by omega) (by omega) (by omega) (by omega) (by push_cast at hn; omega) (by omega)
    simp only [bits_Div64.l1]
    by_cases hb : q ≥ 4294967296
    · rw [if_pos hb]
      exact key (by omega)
    · rw [if_neg hb]
      have hm : q * y0 ≤ 4294967295 * 4294967295 := nmul_le (by omega) h0 (by omega) (by omega)
      have hm0 : 0 ≤ q * y0 := Int.mul_nonneg (by omega) h0
      rw [nwr (n := q * y0) hm0 (by omega), nwr (n := 4294967296 * r) (by omega) (by omega), nwr (n := 4294967296 * r + u) (by omega) (by omega)]
      by_cases hc : q * y0 ≤ 4294967296 * r + u
      · rw [decide_eq_false (by omega)]
        have := digit_ok hY hp hq hc
        simp only [bits_Div64.j4]
        rw [if_neg (by simp), if_pos (by omega)]
        exact fin _ (by omega)
      · rw [decide_eq_true (by omega)]
        exact key (digit_over hY hp hq hc)

/-- The first guess at a digit is too great by two at most. -/
theorem guess {U u Y y1 y0 : Int} (hY : Y = y1 * 4294967296 + y0) (h1 : 2147483648 ≤ y1) (h0 : 0 ≤ y0) (h0' : y0 < 4294967296) (hU0 : 0 ≤ U) (hU : U < Y) (hu : 0 ≤ u) (hu' : u < 4294967296) :
    U = U / y1 * y1 + U % y1 ∧ 0 ≤ U % y1 ∧ U % y1 < y1 ∧ (U * 4294967296 + u) / Y ≤ U / y1 ∧ U / y1 ≤ 4294967297 ∧ 0 ≤ U / y1 := by
  have hd := Int.mul_ediv_add_emod U y1
  rw [Int.mul_comm] at hd
  have e0 := Int.emod_nonneg U (b := y1) (by omega)
  have e1 := Int.emod_lt_of_pos U (b := y1) (by omega)
  refine ⟨hd.symm, e0, e1, ?_, ?_, Int.ediv_nonneg hU0 (by omega)⟩
  · have hlt : (U * 4294967296 + u) / Y < U / y1 + 1 := by
      rw [Int.ediv_lt_iff_lt_mul (by omega), hY]
      have e2 : (U / y1 + 1) * (y1 * 4294967296 + y0) = (U / y1 * y1 + y1) * 4294967296 + (U / y1 + 1) * y0 := by grind
      have e3 : 0 ≤ (U / y1 + 1) * y0 := Int.mul_nonneg (by have := Int.ediv_nonneg hU0 (show 0 ≤ y1 by omega); omega) h0
      rw [e2]
      omega
    omega
  · have : U / y1 < 4294967298 := by
      rw [Int.ediv_lt_iff_lt_mul (by omega)]; omega
    omega

theorem bits_Div64_eq (k : Nat) (hk : 20 ≤ k) {H L d : Int} (hH : 0 ≤ H) (hd : H < d) (hd' : d < 18446744073709551616) (hL : 0 ≤ L) (hL' : L < 18446744073709551616) :
    bits_Div64.f k H L d = some ((H * 18446744073709551616 + L) / d, (H * 18446744073709551616 + L) % d) := by
  unfold bits_Div64.f
  rw [if_neg (by omega), if_neg (by omega)]
  by_cases hz : H = 0
  · rw [if_pos hz, hz, Int.tdiv_eq_ediv_of_nonneg hL, Int.tmod_eq_emod_of_nonneg hL]
    have e1 : 0 ≤ L / d := Int.ediv_nonneg hL (by omega)
    have e2 : L / d ≤ L := Int.ediv_le_self _ hL
    rw [nwr e1 (by omega)]
    simp
  · rw [if_neg hz]
    obtain ⟨dn, rfl⟩ := Int.eq_ofNat_of_zero_le (show 0 ≤ d by omega)
    obtain ⟨b1, b2, b3, b4⟩ := bitLen_spec dn (by omega) (by omega)
    obtain ⟨s, hs⟩ : ∃ s : Nat, Lib.bitLen dn + s = 64 := ⟨64 - Lib.bitLen dn, by omega⟩
    have hlz : bits_LeadingZeros64.f (dn : Int) = some (s : Int) := by
      unfold bits_LeadingZeros64.f bits_Len64.f
      rw [if_pos (by omega), if_pos (by omega)]
      simp only [Option.bind_some, Int.toNat_natCast]
      rw [nw64 (by omega) (by omega)]
      congr 1; omega
    rw [hlz]
    simp only [Option.bind_some]
    rw [nwr (n := (s : Int)) (by omega) (by omega), if_pos (by omega), nwr (n := 64 - (s : Int)) (by omega) (by omega), if_pos (by omega)]
    have hp := npow_pos s
    have e64 : (2 : Int) ^ Lib.bitLen dn * 2 ^ s = 18446744073709551616 := by rw [← npow_add, hs, npow64]
    have e63 : (2 : Int) ^ (Lib.bitLen dn - 1) * 2 ^ s = 9223372036854775808 := by rw [← npow_add, show Lib.bitLen dn - 1 + s = 63 by omega, npow63]
    have hY1 : (dn : Int) * 2 ^ s < 18446744073709551616 := by rw [← e64]; exact Int.mul_lt_mul_of_pos_right b4 hp
    have hY0 : 9223372036854775808 ≤ (dn : Int) * 2 ^ s := by rw [← e63]; exact Int.mul_le_mul_of_nonneg_right b3 (by omega)
    have hYd : shl .u64 (dn : Int) (s : Int) = dn * 2 ^ s := by rw [nshl _ _ (by omega) (by omega), Int.emod_eq_of_lt (by omega) hY1]
    rw [hYd]
    -- the numerator, shifted
    have f64 : (2 : Int) ^ (64 - s) * 2 ^ s = 18446744073709551616 := by rw [← npow_add, show 64 - s + s = 64 by omega, npow64]
    have hHs : H * 2 ^ s < dn * 2 ^ s := Int.mul_lt_mul_of_pos_right hd hp
    have hHs0 : 0 ≤ H * 2 ^ s := Int.mul_nonneg hH (by omega)
    have hLs0 : 0 ≤ L * 2 ^ s := Int.mul_nonneg hL (by omega)
    have hq : 0 < (2 : Int) ^ (64 - s) := npow_pos _
    have hc0 : 0 ≤ L / 2 ^ (64 - s) := Int.ediv_nonneg hL (by omega)
    have hc1 : L / 2 ^ (64 - s) < 2 ^ s := by rw [Int.ediv_lt_iff_lt_mul hq, Int.mul_comm, f64]; exact hL'
    have hcar : L * 2 ^ s / 18446744073709551616 = L / 2 ^ (64 - s) := by rw [← f64, Int.mul_ediv_mul_of_pos_left _ _ hp]
    have hU : Go.bits .or .u64 (shl .u64 H (s : Int)) (shr .u64 L (64 - (s : Int))) = H * 2 ^ s + L / 2 ^ (64 - s) := by
      rw [nshl _ _ hH (by omega), Int.emod_eq_of_lt hHs0 (by omega), show (64 - (s : Int)) = ((64 - s : Nat) : Int) by omega, nshr _ _ (by omega), nor H _ s hH hc0 hc1 (by omega) (by omega)]
    rw [hU]
    have hUlt : H * 2 ^ s + L / 2 ^ (64 - s) < dn * 2 ^ s := by
      have : (H + 1) * 2 ^ s ≤ dn * 2 ^ s := Int.mul_le_mul_of_nonneg_right (by omega) (by omega)
      rw [Int.add_mul] at this
      omega
    have hLow : shl .u64 L (s : Int) = L * 2 ^ s % 18446744073709551616 := nshl _ _ hL (by omega)
    rw [hLow]
    have hW : (H * 18446744073709551616 + L) * 2 ^ s = (H * 2 ^ s + L / 2 ^ (64 - s)) * 18446744073709551616 + L * 2 ^ s % 18446744073709551616 := by
      have e1 := Int.mul_ediv_add_emod (L * 2 ^ s) 18446744073709551616
      rw [hcar] at e1
      grind
    -- names
    obtain ⟨Y, hYn⟩ : ∃ Y, Y = (dn : Int) * 2 ^ s := ⟨_, rfl⟩
    obtain ⟨U, hUn⟩ : ∃ U, U = H * 2 ^ s + L / 2 ^ (64 - s) := ⟨_, rfl⟩
    obtain ⟨l, hln⟩ : ∃ l, l = L * 2 ^ s % 18446744073709551616 := ⟨_, rfl⟩
    have hU0 : 0 ≤ U := by omega
    rw [← hYn] at hY0 hY1 hUlt ⊢
    rw [← hUn] at hUlt hW ⊢
    rw [← hln] at hW ⊢
    have hl0 : 0 ≤ l ∧ l < 18446744073709551616 := by omega
    rw [nmask Y (by omega) hY1, nmask l hl0.1 hl0.2, if_neg (by omega), Int.tdiv_eq_ediv_of_nonneg hU0]
    have g := guess (U := U) (u := l / 4294967296) (Y := Y) (y1 := Y / 4294967296) (y0 := Y % 4294967296) (by omega) (by omega) (by omega) (by omega) hU0 hUlt (by omega) (by omega)
    obtain ⟨g1, g2, g3, g4, g5, g6⟩ := g
    have hqm : 0 ≤ U / (Y / 4294967296) * (Y / 4294967296) := Int.mul_nonneg g6 (by omega)
    rw [nwr (n := U / (Y / 4294967296)) g6 (by omega), nwr (n := U / (Y / 4294967296) * (Y / 4294967296)) hqm (by omega), nwr (n := U - U / (Y / 4294967296) * (Y / 4294967296)) (by omega) (by omega),
      show U - U / (Y / 4294967296) * (Y / 4294967296) = U % (Y / 4294967296) by omega]
    obtain ⟨k', hk', e⟩ := div64_l0 Y s (Y / 4294967296) (Y % 4294967296) U (l / 4294967296) (l % 4294967296) (by omega) (by omega) (by omega) (by omega) (by omega) hU0 hUlt (by omega) (by omega) 2 k _ _ g1 g2 (by omega) g4 g5 (by omega) (by omega)
    rw [e]
    obtain ⟨k', rfl⟩ : ∃ m, k' = m + 1 := ⟨k' - 1, by omega⟩
    simp only [bits_Div64.j2]
    rw [if_neg (by omega)]
    -- the remainder behind the first digit
    have hp0 : 0 < Y := by omega
    have t0 : 0 ≤ (U * 4294967296 + l / 4294967296) / Y := Int.ediv_nonneg (by omega) (by omega)
    have t1 := digit_lt hp0 hUlt (show l / 4294967296 < 4294967296 by omega)
    have hdE := Int.mul_ediv_add_emod (U * 4294967296 + l / 4294967296) Y
    have hm0 := Int.emod_nonneg (U * 4294967296 + l / 4294967296) (b := Y) (by omega)
    have hm1 := Int.emod_lt_of_pos (U * 4294967296 + l / 4294967296) hp0
    rw [Int.mul_comm] at hdE
    obtain ⟨Q, hQ⟩ : ∃ Q, Q = (U * 4294967296 + l / 4294967296) / Y := ⟨_, rfl⟩
    obtain ⟨E, hE⟩ : ∃ E, E = (U * 4294967296 + l / 4294967296) % Y := ⟨_, rfl⟩
    rw [← hQ] at t0 t1 hdE ⊢
    rw [← hE] at hdE hm0 hm1
    have eE : IntKind.u64.wrap ((IntKind.u64.wrap ((IntKind.u64.wrap (U * 4294967296)) + l / 4294967296)) - (IntKind.u64.wrap (Q * Y))) = E := by
      simp only [IntKind.wrap_u64]
      generalize Q * Y = p at *
      omega
    rw [eE, Int.tdiv_eq_ediv_of_nonneg hm0]
    have g := guess (U := E) (u := l % 4294967296) (Y := Y) (y1 := Y / 4294967296) (y0 := Y % 4294967296) (by omega) (by omega) (by omega) (by omega) hm0 hm1 (by omega) (by omega)
    obtain ⟨g1, g2, g3, g4, g5, g6⟩ := g
    have hqm : 0 ≤ E / (Y / 4294967296) * (Y / 4294967296) := Int.mul_nonneg g6 (by omega)
    rw [nwr (n := E / (Y / 4294967296)) g6 (by omega), nwr (n := E / (Y / 4294967296) * (Y / 4294967296)) hqm (by omega), nwr (n := E - E / (Y / 4294967296) * (Y / 4294967296)) (by omega) (by omega),
      show E - E / (Y / 4294967296) * (Y / 4294967296) = E % (Y / 4294967296) by omega]
    rw [div64_l1 Y (Y / 4294967296) (Y % 4294967296) (l % 4294967296) Q E s (by omega) (by omega) (by omega) (by omega) (by omega) (by omega) hm0 hm1 (by omega) (by omega) t0 t1 2 k' _ _ g1 g2 (by omega) g4 g5 (by omega) (by omega)]
    have hdR := Int.mul_ediv_add_emod (E * 4294967296 + l % 4294967296) Y
    have hr0 := Int.emod_nonneg (E * 4294967296 + l % 4294967296) (b := Y) (by omega)
    have hr1 := Int.emod_lt_of_pos (E * 4294967296 + l % 4294967296) hp0
    rw [Int.mul_comm] at hdR
    obtain ⟨h1, h2⟩ := halves (H := U) (L := l) (Y := Y) (q1 := Q) (q0 := (E * 4294967296 + l % 4294967296) / Y) (R1 := E) (R := (E * 4294967296 + l % 4294967296) % Y) (u1 := l / 4294967296) (u0 := l % 4294967296) (by omega) (by omega) (by omega) hr0 hr1
    rw [← hW, hYn, Int.mul_ediv_mul_of_pos_left _ _ hp] at h1
    rw [← hW, hYn, Int.mul_comm (H * 18446744073709551616 + L), Int.mul_comm (dn : Int), Int.mul_emod_mul_of_pos _ _ hp, Int.mul_comm ((2 : Int) ^ s) (dn : Int)] at h2
    rw [hYn, ← h1, ← h2, Int.mul_ediv_cancel_left _ (by omega)]
end Go.Proofs.Ytiokopkglmaffaa.Facts
