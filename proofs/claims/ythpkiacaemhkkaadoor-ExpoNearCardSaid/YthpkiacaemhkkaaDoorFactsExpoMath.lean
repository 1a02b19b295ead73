
/- The exponential by its table beside ((2^37 - 1) / 2^37)^n, and its row beside the same. Plain whole numbers, without the program. -/
import Derived.Test.YthpkiacaemhkkaaDoorPrint1
namespace Go.Proofs.YthpkiacaemhkkaaDoor.Facts.EM
set_option linter.unusedVariables false
set_option linter.unusedSimpArgs false
open Go.Proofs.YthpkiacaemhkkaaDoor.Print (pw)
/-- v is at least M * Y / X - e. -/
def Lo (e v X Y : Int) : Prop := 4611686018427387904 * Y ≤ v * X + e * X
/-- v is at most M * Y / X + e. -/
def Hi (e v X Y : Int) : Prop := v * X ≤ 4611686018427387904 * Y + e * X

theorem le_of_mul {a b c : Int} (hc : 0 < c) (h : a * c ≤ b * c) : a ≤ b := Int.le_of_mul_le_mul_right h hc

theorem hi_mul {e d v p X Y X' Y' z : Int} (h : Hi e v X Y) (h' : Hi d p X' Y') (hX : 0 ≤ X) (hX' : 0 ≤ X') (hY : 0 ≤ Y) (hYX : Y ≤ X) (he : 0 ≤ e) (hd : 0 ≤ d) (hp : 0 ≤ p) (hpM : p ≤ 4611686018427387904)
    (hz : 4611686018427387904 * z ≤ v * p) : Hi (e + d) z (X * X') (Y * Y') := by
  unfold Hi at *
  have a1 : v * X * (p * X') ≤ (4611686018427387904 * Y + e * X) * (p * X') := Int.mul_le_mul_of_nonneg_right h (Int.mul_nonneg hp hX')
  have a2 : 4611686018427387904 * Y * (p * X') ≤ 4611686018427387904 * Y * (4611686018427387904 * Y' + d * X') := Int.mul_le_mul_of_nonneg_left h' (Int.mul_nonneg (by decide) hY)
  have a3 : p * (e * X * X') ≤ 4611686018427387904 * (e * X * X') := Int.mul_le_mul_of_nonneg_right hpM (Int.mul_nonneg (Int.mul_nonneg he hX) hX')
  have a4 : Y * (d * X') ≤ X * (d * X') := Int.mul_le_mul_of_nonneg_right hYX (Int.mul_nonneg hd hX')
  have a5 : 4611686018427387904 * z * (X * X') ≤ v * p * (X * X') := Int.mul_le_mul_of_nonneg_right hz (Int.mul_nonneg hX hX')
  grind

theorem lo_mul {e d v p X Y X' Y' z : Int} (h : Lo e v X Y) (h' : Lo d p X' Y') (hX : 0 ≤ X) (hX' : 0 ≤ X') (hY' : 0 ≤ Y') (hYX' : Y' ≤ X') (he : 0 ≤ e) (hd : 0 ≤ d) (hv : 0 ≤ v) (hvM : v ≤ 4611686018427387904)
    (hz : v * p < 4611686018427387904 * z + 4611686018427387904) : Lo (e + d + 1) z (X * X') (Y * Y') := by
  unfold Lo at *
  have a1 : 4611686018427387904 * Y * (4611686018427387904 * Y') ≤ (v * X + e * X) * (4611686018427387904 * Y') := Int.mul_le_mul_of_nonneg_right h (Int.mul_nonneg (by decide) hY')
  have a2 : v * X * (4611686018427387904 * Y') ≤ v * X * (p * X' + d * X') := Int.mul_le_mul_of_nonneg_left h' (Int.mul_nonneg hv hX)
  have a3 : e * X * Y' ≤ e * X * X' := Int.mul_le_mul_of_nonneg_left hYX' (Int.mul_nonneg he hX)
  have a4 : v * (d * X * X') ≤ 4611686018427387904 * (d * X * X') := Int.mul_le_mul_of_nonneg_right hvM (Int.mul_nonneg (Int.mul_nonneg hd hX) hX')
  have a5 : v * p * (X * X') ≤ (4611686018427387904 * z + 4611686018427387904) * (X * X') := Int.mul_le_mul_of_nonneg_right (Int.le_of_lt hz) (Int.mul_nonneg hX hX')
  grind

theorem lo_sq {e v X Y z : Int} (h : Lo e v X Y) (hX : 0 ≤ X) (hY : 0 ≤ Y) (hYX : Y ≤ X) (he : 0 ≤ e) (hv : 0 ≤ v) (hz : v * v ≤ 4611686018427387904 * z) : Lo (2 * e) z (X * X) (Y * Y) := by
  unfold Lo at *
  have hz0 : 0 ≤ z := by have := Int.mul_nonneg hv hv; omega
  have hXX := Int.mul_nonneg hX hX
  have a3 : e * X * Y ≤ e * X * X := Int.mul_le_mul_of_nonneg_left hYX (Int.mul_nonneg he hX)
  by_cases c : 4611686018427387904 * Y ≤ e * X
  · have a1 : 4611686018427387904 * Y * Y ≤ e * X * Y := Int.mul_le_mul_of_nonneg_right c hY
    have a2 : 0 ≤ z * (X * X) := Int.mul_nonneg hz0 hXX
    have a4 : 0 ≤ e * (X * X) := Int.mul_nonneg he hXX
    grind
  · have b0 : 0 ≤ 4611686018427387904 * Y - e * X := by omega
    have b1 : 4611686018427387904 * Y - e * X ≤ v * X := by omega
    have b2 : (4611686018427387904 * Y - e * X) * (4611686018427387904 * Y - e * X) ≤ v * X * (v * X) := Int.mul_le_mul b1 b1 b0 (Int.mul_nonneg hv hX)
    have b3 : v * v * (X * X) ≤ 4611686018427387904 * z * (X * X) := Int.mul_le_mul_of_nonneg_right hz hXX
    have b4 : 0 ≤ e * X * (e * X) := Int.mul_nonneg (Int.mul_nonneg he hX) (Int.mul_nonneg he hX)
    grind

theorem hi_sq {e v X Y z : Int} (h : Hi e v X Y) (hX : 0 ≤ X) (hY : 0 ≤ Y) (hYX : Y ≤ X) (he : 0 ≤ e) (heM : e ≤ 4611686018427387904) (hv : 0 ≤ v) (hz : 4611686018427387904 * z ≤ v * v) : Hi (3 * e) z (X * X) (Y * Y) := by
  unfold Hi at *
  have hXX := Int.mul_nonneg hX hX
  have a3 : e * X * Y ≤ e * X * X := Int.mul_le_mul_of_nonneg_left hYX (Int.mul_nonneg he hX)
  have b2 : v * X * (v * X) ≤ (4611686018427387904 * Y + e * X) * (4611686018427387904 * Y + e * X) := Int.mul_le_mul h h (Int.mul_nonneg hv hX) (Int.le_trans (Int.mul_nonneg hv hX) h)
  have b3 : 4611686018427387904 * z * (X * X) ≤ v * v * (X * X) := Int.mul_le_mul_of_nonneg_right hz hXX
  have b4 : e * (e * (X * X)) ≤ 4611686018427387904 * (e * (X * X)) := Int.mul_le_mul_of_nonneg_right heM (Int.mul_nonneg he hXX)
  grind

/-- The base of the ideal: 2^37; the ideal of n is ((b - 1) / b) ^ n. -/
def bX (n : Nat) : Int := 137438953472 ^ n
def bY (n : Nat) : Int := 137438953471 ^ n
theorem bX_add (m n : Nat) : bX (m + n) = bX m * bX n := Int.pow_add _ _ _
theorem bY_add (m n : Nat) : bY (m + n) = bY m * bY n := Int.pow_add _ _ _
theorem bX_pos (n : Nat) : 0 < bX n := Int.pow_pos (by decide)
theorem bY_pos (n : Nat) : 0 < bY n := Int.pow_pos (by decide)
theorem bYX (n : Nat) : bY n ≤ bX n := by
  induction n with
  | zero => exact Int.le_refl _
  | succ n ih =>
    have h1 : bY (n + 1) = bY n * 137438953471 := rfl
    have h2 : bX (n + 1) = bX n * 137438953472 := rfl
    have := bX_pos n
    omega

def LU : Nat → Int × Int
  | 0 => (340282366920938463463374607431768211456 - 2475880078570760549798248448, 340282366920938463463374607431768211456 - 2475880078570760549798248448)
  | k + 1 => ((LU k).1 * (LU k).1 / 340282366920938463463374607431768211456, (LU k).2 * (LU k).2 / 340282366920938463463374607431768211456 + 1)

theorem LU_holds (k : Nat) : 0 ≤ (LU k).1 ∧ 0 ≤ (LU k).2 ∧ (LU k).1 * bX (2 ^ k) ≤ 340282366920938463463374607431768211456 * bY (2 ^ k) ∧ 340282366920938463463374607431768211456 * bY (2 ^ k) ≤ (LU k).2 * bX (2 ^ k) := by
  induction k with
  | zero => decide
  | succ k ih =>
    obtain ⟨h1, h2, h3, h4⟩ := ih
    have hX := bX_pos (2 ^ k)
    have hY := bY_pos (2 ^ k)
    have e1 : bX (2 ^ (k + 1)) = bX (2 ^ k) * bX (2 ^ k) := by rw [Nat.pow_succ, Nat.mul_two, bX_add]
    have e2 : bY (2 ^ (k + 1)) = bY (2 ^ k) * bY (2 ^ k) := by rw [Nat.pow_succ, Nat.mul_two, bY_add]
    rw [e1, e2]
    generalize bX (2 ^ k) = X at *
    generalize bY (2 ^ k) = Y at *
    have f1 : (LU (k + 1)).1 = (LU k).1 * (LU k).1 / 340282366920938463463374607431768211456 := rfl
    have f2 : (LU (k + 1)).2 = (LU k).2 * (LU k).2 / 340282366920938463463374607431768211456 + 1 := rfl
    rw [f1, f2]
    generalize (LU k).1 = L at *
    generalize (LU k).2 = U at *
    have q1 := Int.mul_nonneg h1 h1
    have q2 := Int.mul_nonneg h2 h2
    have hXX : 0 ≤ X * X := Int.mul_nonneg (Int.le_of_lt hX) (Int.le_of_lt hX)
    have g1 : L * L / 340282366920938463463374607431768211456 * 340282366920938463463374607431768211456 ≤ L * L := by omega
    have g2 : U * U ≤ (U * U / 340282366920938463463374607431768211456 + 1) * 340282366920938463463374607431768211456 := by omega
    refine ⟨by omega, by omega, ?_, ?_⟩
    · generalize L * L / 340282366920938463463374607431768211456 = z at *
      have a1 : L * X * (L * X) ≤ 340282366920938463463374607431768211456 * Y * (340282366920938463463374607431768211456 * Y) := Int.mul_le_mul h3 h3 (Int.mul_nonneg h1 (Int.le_of_lt hX)) (by omega)
      have a2 : z * 340282366920938463463374607431768211456 * (X * X) ≤ L * L * (X * X) := Int.mul_le_mul_of_nonneg_right g1 hXX
      grind
    · generalize U * U / 340282366920938463463374607431768211456 + 1 = z at *
      have a1 : 340282366920938463463374607431768211456 * Y * (340282366920938463463374607431768211456 * Y) ≤ U * X * (U * X) := Int.mul_le_mul h4 h4 (by omega) (Int.mul_nonneg h2 (Int.le_of_lt hX))
      have a2 : U * U * (X * X) ≤ z * 340282366920938463463374607431768211456 * (X * X) := Int.mul_le_mul_of_nonneg_right g2 hXX
      grind

def okTab (k : Nat) : Bool :=
  decide (0 ≤ pw.getD k 0) && decide (pw.getD k 0 ≤ 4611686018427387904) && decide (pw.getD k 0 * 340282366920938463463374607431768211456 ≤ 4611686018427387904 * (LU (k + 5)).1 + 6171993 * 340282366920938463463374607431768211456) && decide (4611686018427387904 * (LU (k + 5)).2 ≤ (pw.getD k 0 + 6171993) * 340282366920938463463374607431768211456)
theorem tab_all : (List.range 37).all okTab = true := by decide +kernel
theorem tab_ok (k : Nat) (hk : k < 37) : 0 ≤ pw.getD k 0 ∧ pw.getD k 0 ≤ 4611686018427387904 ∧ Hi 6171993 (pw.getD k 0) (bX (32 * 2 ^ k)) (bY (32 * 2 ^ k)) ∧ Lo 6171993 (pw.getD k 0) (bX (32 * 2 ^ k)) (bY (32 * 2 ^ k)) := by
  have h := List.all_eq_true.mp tab_all k (List.mem_range.mpr hk)
  unfold okTab at h
  simp only [Bool.and_eq_true, decide_eq_true_eq] at h
  obtain ⟨⟨⟨h1, h2⟩, h3⟩, h4⟩ := h
  obtain ⟨_, _, h5, h6⟩ := LU_holds (k + 5)
  have e : 2 ^ (k + 5) = 32 * 2 ^ k := by rw [Nat.pow_add]; omega
  rw [e] at h5 h6
  have hX := bX_pos (32 * 2 ^ k)
  have hY := bY_pos (32 * 2 ^ k)
  generalize bX (32 * 2 ^ k) = X at *
  generalize bY (32 * 2 ^ k) = Y at *
  generalize (LU (k + 5)).1 = L at *
  generalize (LU (k + 5)).2 = U at *
  generalize pw.getD k 0 = p at *
  unfold Hi Lo
  refine ⟨h1, h2, ?_, ?_⟩
  · have a1 := Int.mul_le_mul_of_nonneg_right h3 (Int.le_of_lt hX)
    refine le_of_mul (c := 340282366920938463463374607431768211456) (by decide) ?_
    grind
  · have a1 := Int.mul_le_mul_of_nonneg_right h4 (Int.le_of_lt hX)
    refine le_of_mul (c := 340282366920938463463374607431768211456) (by decide) ?_
    grind
/-- The number of 62 bits behind the bits of x below 2^i, from n on. -/
def run : Nat → Int → Nat → Int
  | 0, n, _ => n
  | i + 1, n, x => run i (if x / 2 ^ i % 2 = 1 then n * pw.getD i 0 / 4611686018427387904 else n) x

theorem run_bd (i : Nat) : ∀ (n : Int) (x : Nat), i ≤ 37 → 0 ≤ n → n ≤ 4611686018427387904 → 0 ≤ run i n x ∧ run i n x ≤ 4611686018427387904 := by
  induction i with
  | zero => intro n x _ h0 h1; exact ⟨h0, h1⟩
  | succ i ih =>
    intro n x hi h0 h1
    unfold run
    split
    · obtain ⟨p0, p1, _, _⟩ := tab_ok i (by omega)
      have q0 := Int.mul_nonneg h0 p0
      have q1 : n * pw.getD i 0 ≤ 4611686018427387904 * 4611686018427387904 := Int.mul_le_mul h1 p1 p0 (by decide)
      exact ih _ x (by omega) (by omega) (by omega)
    · exact ih n x (by omega) h0 h1

theorem run_near (i : Nat) : ∀ (n e : Int) (x : Nat), i ≤ 37 → 0 ≤ n → n ≤ 4611686018427387904 → 0 ≤ e →
    Hi e n (bX (32 * (x / 2 ^ i * 2 ^ i))) (bY (32 * (x / 2 ^ i * 2 ^ i))) → Lo e n (bX (32 * (x / 2 ^ i * 2 ^ i))) (bY (32 * (x / 2 ^ i * 2 ^ i))) →
    Hi (e + i * 6171994) (run i n x) (bX (32 * x)) (bY (32 * x)) ∧ Lo (e + i * 6171994) (run i n x) (bX (32 * x)) (bY (32 * x)) := by
  induction i with
  | zero => intro n e x _ _ _ _ h1 h2; simp only [Nat.pow_zero, Nat.div_one, Nat.mul_one] at h1 h2; simpa [run] using ⟨h1, h2⟩
  | succ i ih =>
    intro n e x hi h0 h1 he hH hL
    have hd : x / 2 ^ (i + 1) = x / 2 ^ i / 2 := by rw [Nat.pow_succ, Nat.div_div_eq_div_mul]
    have hpow : 2 ^ (i + 1) = 2 ^ i * 2 := Nat.pow_succ 2 i
    unfold run
    by_cases c : x / 2 ^ i % 2 = 1
    · rw [if_pos c]
      have ex : 32 * (x / 2 ^ i * 2 ^ i) = 32 * (x / 2 ^ (i + 1) * 2 ^ (i + 1)) + 32 * 2 ^ i := by
        have : x / 2 ^ i = 2 * (x / 2 ^ (i + 1)) + 1 := by omega
        rw [this, hpow, Nat.add_mul]; 
        generalize x / (2 ^ i * 2) = y
        generalize 2 ^ i = p
        grind
      obtain ⟨p0, p1, pH, pL⟩ := tab_ok i (by omega)
      have q0 := Int.mul_nonneg h0 p0
      have q1 : n * pw.getD i 0 ≤ 4611686018427387904 * 4611686018427387904 := Int.mul_le_mul h1 p1 p0 (by decide)
      have A := ih (n * pw.getD i 0 / 4611686018427387904) (e + 6171993 + 1) x (by omega) (by omega) (by omega) (by omega)
      rw [ex, bX_add, bY_add] at A
      have X0 := bX_pos (32 * (x / 2 ^ (i + 1) * 2 ^ (i + 1)))
      have Y0 := bY_pos (32 * (x / 2 ^ (i + 1) * 2 ^ (i + 1)))
      have YX := bYX (32 * (x / 2 ^ (i + 1) * 2 ^ (i + 1)))
      have X0' := bX_pos (32 * 2 ^ i)
      have Y0' := bY_pos (32 * 2 ^ i)
      have YX' := bYX (32 * 2 ^ i)
      have B1 := hi_mul (z := n * pw.getD i 0 / 4611686018427387904) hH pH (by omega) (by omega) (by omega) YX he (by decide) p0 p1 (by omega)
      have B2 := lo_mul (z := n * pw.getD i 0 / 4611686018427387904) hL pL (by omega) (by omega) (by omega) YX' he (by decide) h0 h1 (by omega)
      have B1' : Hi (e + 6171993 + 1) (n * pw.getD i 0 / 4611686018427387904) (bX (32 * (x / 2 ^ (i + 1) * 2 ^ (i + 1))) * bX (32 * 2 ^ i)) (bY (32 * (x / 2 ^ (i + 1) * 2 ^ (i + 1))) * bY (32 * 2 ^ i)) := by
        have hXX := Int.mul_pos X0 X0'
        unfold Hi at B1 ⊢
        generalize bX (32 * (x / 2 ^ (i + 1) * 2 ^ (i + 1))) * bX (32 * 2 ^ i) = XX at *
        rw [Int.add_mul (e + 6171993) 1]; omega
      have C := A B1' B2
      have e2 : e + 6171993 + 1 + (i : Int) * 6171994 = e + ((i + 1 : Nat) : Int) * 6171994 := by omega
      rw [e2] at C
      exact C
    · rw [if_neg c]
      have ex : x / 2 ^ (i + 1) * 2 ^ (i + 1) = x / 2 ^ i * 2 ^ i := by
        have : x / 2 ^ i = 2 * (x / 2 ^ (i + 1)) := by omega
        rw [this, hpow]
        generalize x / (2 ^ i * 2) = y
        generalize 2 ^ i = p
        grind
      rw [ex] at hH hL
      obtain ⟨C1, C2⟩ := ih n e x (by omega) h0 h1 he hH hL
      have hXX := bX_pos (32 * x)
      unfold Hi Lo at *
      generalize bX (32 * x) = XX at *
      have : ((i : Int) * 6171994) * XX ≤ (((i + 1 : Nat) : Int) * 6171994) * XX := Int.mul_le_mul_of_nonneg_right (by omega) (by omega)
      rw [Int.add_mul] at C1 C2 ⊢
      constructor <;> omega
/-- The number of 62 bits of x. -/
def F (x : Nat) : Int := run 37 4611686018427387904 x
theorem F_bd (x : Nat) : 0 ≤ F x ∧ F x ≤ 4611686018427387904 := run_bd 37 _ x (by decide) (by decide) (by decide)
theorem F_near (x : Nat) (hx : x < 137438953472) : Hi 228363778 (F x) (bX (32 * x)) (bY (32 * x)) ∧ Lo 228363778 (F x) (bX (32 * x)) (bY (32 * x)) := by
  have e : x / 2 ^ 37 * 2 ^ 37 = 0 := by
    have : x / 2 ^ 37 = 0 := Nat.div_eq_of_lt (by simpa using hx)
    rw [this, Nat.zero_mul]
  have A := run_near 37 4611686018427387904 0 x (by decide) (by decide) (by decide) (by decide)
  rw [e] at A
  have B := A (by unfold Hi; decide) (by unfold Lo; decide)
  simpa [F] using B

theorem F_falls (l d : Nat) (h : l + d < 137438953472) : F (l + d) ≤ F l + 456727556 := by
  obtain ⟨h1, _⟩ := F_near (l + d) h
  obtain ⟨_, h2⟩ := F_near l (by omega)
  rw [Nat.mul_add, bX_add, bY_add] at h1
  have X0 := bX_pos (32 * l)
  have Y0 := bY_pos (32 * l)
  have X1 := bX_pos (32 * d)
  have YX := bYX (32 * d)
  unfold Hi at h1
  unfold Lo at h2
  have hXX := Int.mul_pos X0 X1
  refine le_of_mul (c := bX (32 * l) * bX (32 * d)) hXX ?_
  have a1 : bY (32 * l) * bY (32 * d) ≤ bY (32 * l) * bX (32 * d) := Int.mul_le_mul_of_nonneg_left YX (by omega)
  have a2 := Int.mul_le_mul_of_nonneg_right h2 (Int.le_of_lt X1)
  grind
theorem of_falls (l d : Nat) (h : l + d < 137438953472) : F (l + d) / 1073741824 ≤ F l / 1073741824 + 1 := by
  have := F_falls l d h
  omega
theorem F_sums (a b : Nat) (h : a + b < 137438953472) : F (a + b) ≤ F a * F b / 4611686018427387904 + 913455113 ∧ F a * F b / 4611686018427387904 ≤ F (a + b) + 913455113 := by
  obtain ⟨h1, h2⟩ := F_near (a + b) h
  obtain ⟨a1, a2⟩ := F_near a (by omega)
  obtain ⟨b1, b2⟩ := F_near b (by omega)
  obtain ⟨fa, fa'⟩ := F_bd a
  obtain ⟨fb, fb'⟩ := F_bd b
  have q0 := Int.mul_nonneg fa fb
  have c1 := hi_mul (z := F a * F b / 4611686018427387904) a1 b1 (Int.le_of_lt (bX_pos _)) (Int.le_of_lt (bX_pos _)) (Int.le_of_lt (bY_pos _)) (bYX _) (by decide) (by decide) fb fb' (by omega)
  have c2 := lo_mul (z := F a * F b / 4611686018427387904) a2 b2 (Int.le_of_lt (bX_pos _)) (Int.le_of_lt (bX_pos _)) (Int.le_of_lt (bY_pos _)) (bYX _) (by decide) (by decide) fa fa' (by omega)
  rw [Nat.mul_add, bX_add, bY_add] at h1 h2
  have hXX := Int.mul_pos (bX_pos (32 * a)) (bX_pos (32 * b))
  unfold Hi Lo at *
  generalize bX (32 * a) * bX (32 * b) = XX at *
  generalize bY (32 * a) * bY (32 * b) = YY at *
  generalize F a * F b / 4611686018427387904 = z at *
  generalize F (a + b) = y at *
  constructor
  · refine le_of_mul (c := XX) hXX ?_
    grind
  · refine le_of_mul (c := XX) hXX ?_
    grind
/-- The first n + 1 members of the row of e to the minus y / 2^37, times n! and 2^37 to the n. -/
def S : Nat → Int → Int
  | 0, _ => 1
  | n + 1, y => ((n : Int) + 1) * 137438953472 * S n y + (if n % 2 = 0 then -1 else 1) * y ^ (n + 1)
def rho (n : Nat) (y : Int) : Int := (y + 1) ^ (n + 1) - y ^ (n + 1) - ((n : Int) + 1) * y ^ n
/-- What is left of the row's step. -/
def R (n : Nat) (y : Int) : Int := S (n + 1) (y + 1) - S (n + 1) y + ((n : Int) + 1) * S n y
theorem rho_zero (y : Int) : rho 0 y = 0 := by unfold rho; rw [Int.pow_succ, Int.pow_succ]; simp; omega
theorem rho_step (n : Nat) (y : Int) : rho (n + 1) y = (y + 1) * rho n y + ((n : Int) + 1) * y ^ n := by
  unfold rho
  have e1 : (y + 1) ^ (n + 1 + 1) = (y + 1) ^ (n + 1) * (y + 1) := Int.pow_succ _ _
  have e2 : y ^ (n + 1 + 1) = y ^ (n + 1) * y := Int.pow_succ _ _
  have e3 : y ^ (n + 1) = y ^ n * y := Int.pow_succ _ _
  have e4 : ((n + 1 : Nat) : Int) = (n : Int) + 1 := by omega
  rw [e1, e2, e3, e4]
  generalize (y + 1) ^ (n + 1) = a
  generalize y ^ n = b
  grind
theorem R_zero (y : Int) : R 0 y = 0 := by unfold R; simp [S, Int.pow_succ]; omega
theorem R_step (n : Nat) (y : Int) : R (n + 1) y = ((n : Int) + 2) * 137438953472 * R n y + (if n % 2 = 0 then 1 else -1) * rho (n + 1) y := by
  have s1 : S (n + 1 + 1) (y + 1) = (((n + 1 : Nat) : Int) + 1) * 137438953472 * S (n + 1) (y + 1) + (if (n + 1) % 2 = 0 then -1 else 1) * (y + 1) ^ (n + 1 + 1) := rfl
  have s2 : S (n + 1 + 1) y = (((n + 1 : Nat) : Int) + 1) * 137438953472 * S (n + 1) y + (if (n + 1) % 2 = 0 then -1 else 1) * y ^ (n + 1 + 1) := rfl
  have s3 : S (n + 1) y = ((n : Int) + 1) * 137438953472 * S n y + (if n % 2 = 0 then -1 else 1) * y ^ (n + 1) := rfl
  unfold R rho
  have e4 : ((n + 1 : Nat) : Int) = (n : Int) + 1 := by omega
  rw [s1, s2, e4]
  by_cases c : n % 2 = 0
  · have c' : ¬ (n + 1) % 2 = 0 := by omega
    rw [if_pos c] at s3 ⊢
    rw [if_neg c']
    generalize S (n + 1) (y + 1) = a at *
    generalize S (n + 1) y = b at *
    generalize S n y = d at *
    generalize (y + 1) ^ (n + 1 + 1) = p at *
    generalize y ^ (n + 1 + 1) = q at *
    generalize y ^ (n + 1) = r at *
    generalize (n : Int) = m at *
    grind
  · have c' : (n + 1) % 2 = 0 := by omega
    rw [if_neg c] at s3 ⊢
    rw [if_pos c']
    generalize S (n + 1) (y + 1) = a at *
    generalize S (n + 1) y = b at *
    generalize S n y = d at *
    generalize (y + 1) ^ (n + 1 + 1) = p at *
    generalize y ^ (n + 1 + 1) = q at *
    generalize y ^ (n + 1) = r at *
    generalize (n : Int) = m at *
    grind
def qq : Nat → Int
  | 0 => 0
  | n + 1 => qq n + ((n : Int) + 1)
theorem pow_mono {y z : Int} (h0 : 0 ≤ y) (h : y ≤ z) (n : Nat) : 0 ≤ y ^ n ∧ y ^ n ≤ z ^ n := by
  induction n with
  | zero => simp
  | succ n ih =>
    rw [Int.pow_succ, Int.pow_succ]
    exact ⟨Int.mul_nonneg ih.1 h0, Int.mul_le_mul ih.2 h h0 (Int.le_trans ih.1 ih.2)⟩
/-- 0 <= rho; and it is at most qq times 2^37 to the n - 1. -/
theorem rho_bd (y : Int) (h0 : 0 ≤ y) (h1 : y < 137438953472) (n : Nat) : 0 ≤ rho (n + 1) y ∧ rho (n + 1) y ≤ qq (n + 1) * 137438953472 ^ n := by
  induction n with
  | zero => rw [rho_step, rho_zero]; simp [qq]
  | succ n ih =>
    rw [rho_step]
    obtain ⟨i0, i1⟩ := ih
    obtain ⟨p0, p1⟩ := pow_mono h0 (Int.le_of_lt h1) (n + 1)
    have e4 : ((n + 1 : Nat) : Int) = (n : Int) + 1 := by omega
    have q : qq (n + 1 + 1) = qq (n + 1) + (((n + 1 : Nat) : Int) + 1) := rfl
    have a1 : 0 ≤ (y + 1) * rho (n + 1) y := Int.mul_nonneg (by omega) i0
    have a2 : (y + 1) * rho (n + 1) y ≤ 137438953472 * (qq (n + 1) * 137438953472 ^ n) := Int.mul_le_mul (by omega) i1 i0 (by decide)
    have a3 : 0 ≤ (((n + 1 : Nat) : Int) + 1) * y ^ (n + 1) := Int.mul_nonneg (by omega) p0
    have a4 : (((n + 1 : Nat) : Int) + 1) * y ^ (n + 1) ≤ (((n + 1 : Nat) : Int) + 1) * 137438953472 ^ (n + 1) := Int.mul_le_mul_of_nonneg_left p1 (by omega)
    refine ⟨by omega, ?_⟩
    rw [q]
    have e : (137438953472 : Int) ^ (n + 1) = 137438953472 ^ n * 137438953472 := Int.pow_succ _ _
    rw [e] at a4 ⊢
    generalize (137438953472 : Int) ^ n = z at *
    grind
/-- Bounds of R, times 2^37 to the n - 1. -/
def aa : Nat → Int
  | 0 => 0
  | n + 1 => ((n : Int) + 2) * aa n + (if n % 2 = 0 then 0 else qq (n + 1))
def bb : Nat → Int
  | 0 => 0
  | n + 1 => ((n : Int) + 2) * bb n + (if n % 2 = 0 then qq (n + 1) else 0)
theorem R_bd (y : Int) (h0 : 0 ≤ y) (h1 : y < 137438953472) (n : Nat) : -(aa (n + 1) * 137438953472 ^ n) ≤ R (n + 1) y ∧ R (n + 1) y ≤ bb (n + 1) * 137438953472 ^ n := by
  induction n with
  | zero =>
    rw [R_step, R_zero, rho_step, rho_zero]
    simp [aa, bb, qq]
  | succ n ih =>
    rw [R_step]
    obtain ⟨i0, i1⟩ := ih
    obtain ⟨r0, r1⟩ := rho_bd y h0 h1 (n + 1)
    have e4 : ((n + 1 : Nat) : Int) = (n : Int) + 1 := by omega
    have a : aa (n + 1 + 1) = (((n + 1 : Nat) : Int) + 2) * aa (n + 1) + (if (n + 1) % 2 = 0 then 0 else qq (n + 1 + 1)) := rfl
    have b : bb (n + 1 + 1) = (((n + 1 : Nat) : Int) + 2) * bb (n + 1) + (if (n + 1) % 2 = 0 then qq (n + 1 + 1) else 0) := rfl
    have m0 : (0 : Int) ≤ (((n + 1 : Nat) : Int) + 2) * 137438953472 := by omega
    have x0 := Int.mul_le_mul_of_nonneg_left i0 m0
    have x1 := Int.mul_le_mul_of_nonneg_left i1 m0
    have e : (137438953472 : Int) ^ (n + 1) = 137438953472 ^ n * 137438953472 := Int.pow_succ _ _
    rw [a, b]
    generalize qq (n + 1 + 1) = q at *
    generalize rho (n + 1 + 1) y = r at *
    generalize R (n + 1) y = R0 at *
    generalize aa (n + 1) = a0 at *
    generalize bb (n + 1) = b0 at *
    by_cases c : (n + 1) % 2 = 0
    · rw [if_pos c, if_pos c, if_pos c]
      rw [e] at r1 ⊢
      generalize (137438953472 : Int) ^ n = z at *
      generalize ((n + 1 : Nat) : Int) = m at *
      constructor <;> grind
    · rw [if_neg c, if_neg c, if_neg c]
      rw [e] at r1 ⊢
      generalize (137438953472 : Int) ^ n = z at *
      generalize ((n + 1 : Nat) : Int) = m at *
      constructor <;> grind
/-- The row's step, of 24 members. -/
theorem S_step (y : Int) (h0 : 0 ≤ y) (h1 : y < 137438953472) :
    -(aa 23 * 137438953472 ^ 23) ≤ 137438953472 * S 24 (y + 1) - 137438953471 * S 24 y ∧ 137438953472 * S 24 (y + 1) - 137438953471 * S 24 y ≤ (bb 23 + 137438953472) * 137438953472 ^ 23 := by
  obtain ⟨r0, r1⟩ := R_bd y h0 h1 22
  obtain ⟨p0, p1⟩ := pow_mono h0 (Int.le_of_lt h1) 24
  have s3 : S (23 + 1) y = (((23 : Nat) : Int) + 1) * 137438953472 * S 23 y + (if 23 % 2 = 0 then -1 else 1) * y ^ (23 + 1) := rfl
  rw [if_neg (by decide)] at s3
  unfold R at r0 r1
  simp only [Nat.reduceAdd] at *
  have e : (137438953472 : Int) ^ 24 = 137438953472 ^ 23 * 137438953472 := Int.pow_succ _ 23
  have e2 : (137438953472 : Int) ^ 23 = 137438953472 ^ 22 * 137438953472 := Int.pow_succ _ 22
  rw [e] at p1
  rw [e2] at p1 ⊢
  generalize (137438953472 : Int) ^ 22 = z at *
  generalize S 24 (y + 1) = A at *
  generalize S 24 y = B at *
  generalize S 23 y = C at *
  generalize y ^ 24 = q at *
  generalize aa 23 = a at *
  generalize bb 23 = b at *
  constructor <;> grind
/-- The row beside the ideal. -/
theorem S_near (y : Nat) (h : y ≤ 137438953472) :
    620448401733239439360000 * 137438953472 ^ 24 * bY y * 137438953472 ≤ S 24 y * bX y * 137438953472 + aa 23 * 137438953472 ^ 23 * y * bX y ∧
    S 24 y * bX y * 137438953472 ≤ 620448401733239439360000 * 137438953472 ^ 24 * bY y * 137438953472 + (bb 23 + 137438953472) * 137438953472 ^ 23 * y * bX y := by
  induction y with
  | zero =>
    have : S 24 ((0 : Nat) : Int) = 620448401733239439360000 * 137438953472 ^ 24 := by decide +kernel
    rw [this]
    simp [bX, bY]
  | succ y ih =>
    obtain ⟨i1, i2⟩ := ih (by omega)
    obtain ⟨s1, s2⟩ := S_step (y : Int) (by omega) (by omega)
    have hX : 0 < bX y := Int.pow_pos (by decide)
    have e1 : bX (y + 1) = bX y * 137438953472 := rfl
    have e2 : bY (y + 1) = bY y * 137438953471 := rfl
    have e3 : ((y + 1 : Nat) : Int) = (y : Int) + 1 := by omega
    have na : 0 ≤ aa 23 * 137438953472 ^ 23 := by decide +kernel
    have nb : 0 ≤ (bb 23 + 137438953472) * 137438953472 ^ 23 := by decide +kernel
    have nax := Int.mul_nonneg (Int.mul_nonneg na (Int.natCast_nonneg y)) (Int.le_of_lt hX)
    have nbx := Int.mul_nonneg (Int.mul_nonneg nb (Int.natCast_nonneg y)) (Int.le_of_lt hX)
    have t1 := Int.mul_le_mul_of_nonneg_right s1 (Int.le_of_lt hX)
    have t2 := Int.mul_le_mul_of_nonneg_right s2 (Int.le_of_lt hX)
    rw [e1, e2, e3]
    generalize 620448401733239439360000 * (137438953472 : Int) ^ 24 = c at *
    generalize aa 23 * 137438953472 ^ 23 = a at *
    generalize (bb 23 + 137438953472) * 137438953472 ^ 23 = b at *
    generalize S 24 ((y : Int) + 1) = A at *
    generalize S 24 (y : Int) = B at *
    generalize bX y = X at *
    generalize bY y = Y at *
    generalize (y : Int) = m at *
    constructor <;> grind
theorem aa_num : 33554432 * aa 23 ≤ 20000000 * 620448401733239439360000 := by decide +kernel
theorem bb_num : 33554432 * (bb 23 + 137438953472) ≤ 30000000 * 620448401733239439360000 := by decide +kernel

end Go.Proofs.YthpkiacaemhkkaaDoor.Facts.EM
