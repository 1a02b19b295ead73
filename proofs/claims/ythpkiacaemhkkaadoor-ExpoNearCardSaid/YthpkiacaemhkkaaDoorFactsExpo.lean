
/- What the printed functions of expo and of its reference tell. -/
import Derived.Test.YthpkiacaemhkkaaDoorFactsNum
import Derived.Test.YthpkiacaemhkkaaDoorFactsWide
import Derived.Test.YthpkiacaemhkkaaDoorFactsFloor
import Derived.Test.YthpkiacaemhkkaaDoorFactsRef02
import Derived.Test.YthpkiacaemhkkaaDoorFactsRef03
import Derived.Test.YthpkiacaemhkkaaDoorFactsFixed
import Derived.Test.YthpkiacaemhkkaaDoorFactsRef04
import Derived.Test.YthpkiacaemhkkaaDoorFactsExpoMath
import Derived.Test.YthpkiacaemhkkaaDoorPrint1
import Derived.Test.YthpkiacaemhkkaaDoorPrint3
import Derived.Test.YthpkiacaemhkkaaDoorPrint4
namespace Go.Proofs.YthpkiacaemhkkaaDoor.Facts
set_option linter.unusedVariables false
set_option linter.unusedSimpArgs false
open Go.RowKit Go.Proofs.YthpkiacaemhkkaaDoor.Print Go.Proofs.YthpkiacaemhkkaaDoorW.PrintWords Go.Proofs.YthpkiacaemhkkaaDoorW.PrintLast Go.Proofs.YthpkiacaemhkkaaDoorW.PrintMore
theorem nand1 (a : Int) (h0 : 0 ≤ a) (h1 : a < 18446744073709551616) : Go.bits .and .u64 a 1 = a % 2 := by
  obtain ⟨n, rfl⟩ := Int.eq_ofNat_of_zero_le h0
  have := bits_and_u64_nat n 1 (by omega) (by omega)
  rw [show (1 : Int) = ((1 : Nat) : Int) from rfl, this, Nat.and_one_is_mod]
  omega
theorem pwd (x : Nat) (j : Nat) : (x : Int) / 2 ^ j = ((x / 2 ^ j : Nat) : Int) := by
  rw [Int.natCast_ediv, Int.natCast_pow]; rfl
theorem expo_mul {n p : Int} (h0 : 0 ≤ n) (h1 : n ≤ 4611686018427387904) (p0 : 0 ≤ p) (p1 : p ≤ 4611686018427387904) : 0 ≤ n * p / 4611686018427387904 ∧ n * p / 4611686018427387904 ≤ 4611686018427387904 := by
  have q0 := Int.mul_nonneg h0 p0
  have q1 : n * p ≤ 4611686018427387904 * 4611686018427387904 := Int.mul_le_mul h1 p1 p0 (by decide)
  omega
theorem mul62 {n p : Int} (h0 : 0 ≤ n) (h1 : n ≤ 4611686018427387904) (p0 : 0 ≤ p) (p1 : p ≤ 4611686018427387904) :
    (n * p / 18446744073709551616 * 18446744073709551616 + n * p % 18446744073709551616) / 2 ^ (62 : Int).toNat % 18446744073709551616 = n * p / 4611686018427387904 := by
  obtain ⟨q0, q1⟩ := expo_mul h0 h1 p0 p1
  rw [show (2 : Int) ^ (62 : Int).toNat = 4611686018427387904 by decide]
  generalize n * p = z at *
  omega
theorem rd_pw (j : Nat) (i : Int) (h : i = j) : rd pw i = pw.getD j 0 := by subst h; rfl
theorem expo_Of_loop (x : Nat) (hx : x < 18446744073709551616) (j : Nat) : ∀ (k i : Nat) (n : Int), i + j = 37 → 0 ≤ n → n ≤ 4611686018427387904 → j + 6 < k → expo_Of.l0 k (x : Int) n (i : Int) = some (EM.run j n x / 1073741824) := by
  induction j with
  | zero =>
    intro k i n hi h0 h1 hk
    obtain ⟨k, rfl⟩ : ∃ q, k = q + 1 := ⟨k - 1, by omega⟩
    simp only [expo_Of.l0]
    rw [if_neg (by omega)]; rfl
  | succ j ih =>
    intro k i n hi h0 h1 hk
    obtain ⟨k, rfl⟩ : ∃ q, k = q + 1 := ⟨k - 1, by omega⟩
    have e1 : (36 - (i : Int)).toNat = j := by omega
    have e2 : ((i : Int) + 1) = ((i + 1 : Nat) : Int) := by omega
    have e3 : rd pw (36 - (i : Int)) = pw.getD j 0 := rd_pw j _ (by omega)
    simp only [expo_Of.l0]
    have hb := Nat.div_le_self x (2 ^ j)
    rw [if_pos (by omega), if_pos (by omega), e1, e2, e3, pwd]
    obtain ⟨p0, p1, _, _⟩ := EM.tab_ok j (by omega)
    obtain ⟨q0, q1⟩ := expo_mul h0 h1 p0 p1
    unfold EM.run
    generalize x / 2 ^ j = y at *
    rw [nand1 _ (by omega) (by omega)]
    by_cases c : y % 2 = 1
    · rw [if_neg (by omega), if_pos c, wide_Mul_eq h0 (by omega) p0 (by omega)]
      simp only [Option.bind_some]
      have z0 := Int.mul_nonneg h0 p0
      rw [wide_Shr_eq k (by omega) (by omega) (by omega) (by omega) (by omega) (by decide) (by decide)]
      simp only [Option.bind_some]
      rw [mul62 h0 h1 p0 p1]
      exact ih k (i + 1) _ (by omega) q0 q1 (by omega)
    · rw [if_pos (by omega), if_neg c]
      exact ih k (i + 1) _ (by omega) h0 h1 (by omega)
def ofS (x : Int) : Int := if x ≥ 137438953472 then 0 else EM.F x.toNat / 1073741824
theorem ofS_bd (x : Int) : 0 ≤ ofS x ∧ ofS x ≤ 4294967296 := by
  unfold ofS
  split
  · omega
  · have := EM.F_bd x.toNat
    omega
theorem expo_Of_eq (k : Nat) (hk : 50 ≤ k) {x : Int} (hx : W64 x) : expo_Of.f k x = some (ofS x) := by
  unfold expo_Of.f ofS
  by_cases c : x ≥ 137438953472
  · rw [if_pos c, if_pos c]
  · rw [if_neg c, if_neg c]
    have := expo_Of_loop x.toNat (by unfold W64 at hx; omega) 37 k 0 4611686018427387904 (by omega) (by decide) (by decide) (by omega)
    rw [Int.toNat_of_nonneg hx.1] at this
    exact this
theorem bit_loop (d : Nat) : ∀ (k : Nat) (x i : Int) (n : Int), 0 ≤ x → x < 18446744073709551616 → 0 ≤ i → n - i = d → n ≤ 1000 → d < k → linhayref05_bit.l0 k x n i = some (x / 2 ^ d % 2) := by
  induction d with
  | zero =>
    intro k x i n h0 h1 hi hd hn hk
    obtain ⟨k, rfl⟩ : ∃ q, k = q + 1 := ⟨k - 1, by omega⟩
    simp only [linhayref05_bit.l0]
    rw [if_neg (by omega), Int.tmod_eq_emod_of_nonneg h0]
    simp
  | succ d ih =>
    intro k x i n h0 h1 hi hd hn hk
    obtain ⟨k, rfl⟩ : ∃ q, k = q + 1 := ⟨k - 1, by omega⟩
    simp only [linhayref05_bit.l0]
    rw [if_pos (by omega), Int.tdiv_eq_ediv_of_nonneg h0, nwr (by omega) (by omega), nw64 (by omega) (by omega), ih k (x / 2) (i + 1) n (by omega) (by omega) (by omega) (by omega) hn (by omega)]
    rw [Int.ediv_ediv_of_nonneg (by decide), Int.pow_succ, Int.mul_comm 2]
theorem ref05_bit_eq (k : Nat) {x : Int} (hx : W64 x) (n : Nat) (hn : n ≤ 100) (hk : n < k) : linhayref05_bit.f k x (n : Int) = some (x / 2 ^ n % 2) :=
  bit_loop n k x 0 n hx.1 hx.2 (by omega) (by omega) (by omega) hk
theorem ref05_Of_loop (x : Nat) (hx : x < 18446744073709551616) (j : Nat) : ∀ (k : Nat) (n : Int), j ≤ 37 → 0 ≤ n → n ≤ 4611686018427387904 → j + 200 < k → linhayref05_Of.l0 k (x : Int) n ((j : Int) - 1) = some (EM.run j n x / 1073741824) := by
  induction j with
  | zero =>
    intro k n hj h0 h1 hk
    obtain ⟨k, rfl⟩ : ∃ q, k = q + 1 := ⟨k - 1, by omega⟩
    simp only [linhayref05_Of.l0]
    rw [if_neg (by omega), Int.tdiv_eq_ediv_of_nonneg h0, nwr (by omega) (by omega)]; rfl
  | succ j ih =>
    intro k n hj h0 h1 hk
    obtain ⟨k, rfl⟩ : ∃ q, k = q + 1 := ⟨k - 1, by omega⟩
    have e1 : ((j + 1 : Nat) : Int) - 1 = (j : Int) := by omega
    have w1 : Aside0 (wrap64 ((j : Int) - 1) = (j : Int) - 1) := ⟨nw64 (by omega) (by omega)⟩
    simp only [linhayref05_Of.l0]
    have hb := Nat.div_le_self x (2 ^ j)
    rw [e1, if_pos (by omega), ref05_bit_eq k (by unfold W64; omega) j (by omega) (by omega), w1.out]
    simp only [Option.bind_some]
    rw [pwd]
    obtain ⟨p0, p1, _, _⟩ := EM.tab_ok j (by omega)
    obtain ⟨q0, q1⟩ := expo_mul h0 h1 p0 p1
    unfold EM.run
    generalize x / 2 ^ j = y at *
    by_cases c : y % 2 = 1
    · have e3 : rd pw (j : Int) = pw.getD j 0 := rd_pw j _ rfl
      rw [if_pos (by omega), if_pos c]
      unfold linhayref05_power.f
      rw [if_pos (by omega), if_pos (by omega), e3]
      simp only [Option.bind_some]
      have z0 := Int.mul_nonneg h0 p0
      rw [ref02_Mul_eq h0 (by omega) p0 (by omega)]
      simp only [Option.bind_some]
      rw [ref02_Shr_eq k (by omega) (by omega) (by omega) (by omega) (by omega) (by decide) (by decide)]
      simp only [Option.bind_some]
      rw [mul62 h0 h1 p0 p1]
      exact ih k _ (by omega) q0 q1 (by omega)
    · rw [if_neg (by omega), if_neg c]
      exact ih k _ (by omega) h0 h1 (by omega)
theorem ref05_Of_eq (k : Nat) (hk : 300 ≤ k) {x : Int} (hx : W64 x) : linhayref05_Of.f k x = some (ofS x) := by
  unfold linhayref05_Of.f ofS
  by_cases c : x ≥ 137438953472
  · rw [if_pos c, if_pos c]
  · rw [if_neg c, if_neg c]
    have := ref05_Of_loop x.toNat (by unfold W64 at hx; omega) 37 k 4611686018427387904 (by omega) (by decide) (by decide) (by omega)
    rw [Int.toNat_of_nonneg hx.1] at this
    exact this
def ratioS (a b : Int) : Int := if (floorR a 4294967296 b).2 = 0 then ofS (floorR a 4294967296 b).1 else 0
theorem ratioS_bd (a b : Int) : 0 ≤ ratioS a b ∧ ratioS a b ≤ 4294967296 := by
  unfold ratioS
  split
  · exact ofS_bd _
  · omega
theorem expo_Ratio_eq (k : Nat) (hk : 50 ≤ k) {a b : Int} (ha : W64 a) (hb : W64 b) : expo_Ratio.f k a b = some (ratioS a b) := by
  unfold expo_Ratio.f ratioS
  rw [fixed_Of_eq k (by omega) ha hb]
  simp only [Option.bind_some]
  have h := floorR_le (a := a) (b := 4294967296) (c := b) ha.1 (by decide) hb.1
  split
  · rw [expo_Of_eq k hk h]; rfl
  · rfl
theorem ref05_Ratio_eq (k : Nat) (hk : 300 ≤ k) {a b : Int} (ha : W64 a) (hb : W64 b) : linhayref05_Ratio.f k a b = some (ratioS a b) := by
  unfold linhayref05_Ratio.f ratioS
  rw [ref04_Of_eq k (by omega) ha hb]
  simp only [Option.bind_some]
  have h := floorR_le (a := a) (b := 4294967296) (c := b) ha.1 (by decide) hb.1
  split
  · rw [ref05_Of_eq k hk h]; rfl
  · rfl
theorem expo_Below_eq (k : Nat) (hk : 50 ≤ k) {d a b : Int} (hd : W64 d) (ha : W64 a) (hb : W64 b) : expo_Below.f k d a b = some (decide (d < ratioS a b)) := by
  unfold expo_Below.f
  rw [expo_Ratio_eq k hk ha hb, nwr hd.1 hd.2]; rfl
theorem awake05 : linhaylaw05_awake.f 60 = some true := by decide +kernel
theorem awake05_le (k : Nat) (hk : 60 ≤ k) : linhaylaw05_awake.f k = some true := by
  induction k with
  | zero => omega
  | succ k ih =>
    by_cases h : k + 1 = 60
    · rw [h]; exact awake05
    · exact linhaylaw05_awake.mono k true (ih (by omega))
end Go.Proofs.YthpkiacaemhkkaaDoor.Facts
