
/- The two numbers between which the reference's row lays the exponential: how near they are to the ideal, and to each other. -/
import Derived.Test.YthpkiacaemhkkaaDoorFactsExpo
import Derived.Test.YthpkiacaemhkkaaDoorPrint5
namespace Go.Proofs.YthpkiacaemhkkaaDoor.Facts
set_option linter.unusedVariables false
set_option linter.unusedSimpArgs false
open Go.RowKit Go.Proofs.YthpkiacaemhkkaaDoor.Print Go.Proofs.YthpkiacaemhkkaaDoorW.PrintWords Go.Proofs.YthpkiacaemhkkaaDoorW.PrintLast Go.Proofs.YthpkiacaemhkkaaDoorW.PrintMore
def CC : Nat → Int
  | 0 => 1
  | n + 1 => ((n : Int) + 1) * 137438953472 * CC n
theorem CC_pos (n : Nat) : 0 < CC n := by
  induction n with
  | zero => decide
  | succ n ih => exact Int.mul_pos (by omega) ih
theorem CC_24 : CC 24 = 620448401733239439360000 * 137438953472 ^ 24 := by decide +kernel
def fl (a b : Int) : Int := a * b / 4611686018427387904
def cl (a b : Int) : Int := a * b / 4611686018427387904 + (if a * b % 4611686018427387904 > 0 then 1 else 0)
theorem fl_cl {a b : Int} : 4611686018427387904 * fl a b ≤ a * b ∧ a * b < 4611686018427387904 * fl a b + 4611686018427387904 ∧ a * b ≤ 4611686018427387904 * cl a b ∧ 4611686018427387904 * cl a b < a * b + 4611686018427387904 := by
  unfold fl cl
  generalize a * b = z
  split <;> omega
theorem times_eq (k : Nat) (hk : 70 ≤ k) {a b : Int} (ha : 0 ≤ a) (ha' : a ≤ 13835058055282163712) (hb : 0 ≤ b) (hb' : b ≤ 4611686018427387904) (up : Bool) :
    linhayref05_times.f k a b up = some (if up = true then cl a b else fl a b) := by
  have z0 := Int.mul_nonneg ha hb
  have z1 : a * b ≤ 13835058055282163712 * 4611686018427387904 := Int.mul_le_mul ha' hb' hb (by decide)
  unfold linhayref05_times.f
  rw [ref02_Mul_eq ha (by omega) hb (by omega)]
  simp only [Option.bind_some]
  rw [ref02_Div_eq k (by omega) (by omega) (by omega) (by decide) (by decide) (by omega) (by omega)]
  simp only [Option.bind_some]
  unfold cl fl
  generalize a * b = z at *
  have e1 : (z / 18446744073709551616 * 18446744073709551616 + z % 18446744073709551616) = z := by omega
  rw [e1]
  have e2 : z / 4611686018427387904 % 18446744073709551616 = z / 4611686018427387904 := by omega
  rw [e2]
  cases up with
  | false => simp
  | true =>
    simp only [if_true]
    by_cases c : z % 4611686018427387904 > 0
    · rw [if_pos c, if_pos c, nwr (by omega) (by omega)]
    · rw [if_neg c, if_neg c, Int.add_zero]
theorem S_pos (y : Int) (h0 : 0 ≤ y) (h1 : y ≤ 137438953472) (n : Nat) : 0 ≤ EM.S n y ∧ (n % 2 = 0 → y ^ n ≤ EM.S n y ∧ EM.S n y ≤ CC n) ∧ (n % 2 = 1 → EM.S n y + y ^ n ≤ CC n) := by
  induction n with
  | zero => refine ⟨by show (0 : Int) ≤ 1; decide, fun _ => ⟨by simp [EM.S], by show (1 : Int) ≤ 1; decide⟩, by omega⟩
  | succ n ih =>
    obtain ⟨i0, i1, i2⟩ := ih
    obtain ⟨p0, p1⟩ := EM.pow_mono h0 h1 n
    have e : EM.S (n + 1) y = ((n : Int) + 1) * 137438953472 * EM.S n y + (if n % 2 = 0 then -1 else 1) * y ^ (n + 1) := rfl
    have ec : CC (n + 1) = ((n : Int) + 1) * 137438953472 * CC n := rfl
    have ep : y ^ (n + 1) = y ^ n * y := Int.pow_succ _ _
    have q0 : 0 ≤ y ^ n * y := Int.mul_nonneg p0 h0
    have q1 : y ^ n * y ≤ y ^ n * 137438953472 := Int.mul_le_mul_of_nonneg_left h1 p0
    have m0 : (0 : Int) ≤ ((n : Int) + 1) * 137438953472 := by omega
    have m1 : (137438953472 : Int) ≤ ((n : Int) + 1) * 137438953472 := by omega
    rw [e, ec, ep]
    by_cases c : n % 2 = 0
    · rw [if_pos c]
      obtain ⟨j0, j1⟩ := i1 c
      have t1 := Int.mul_le_mul_of_nonneg_left j0 m0
      have t2 := Int.mul_le_mul_of_nonneg_left j1 m0
      have t3 : y ^ n * 137438953472 ≤ ((n : Int) + 1) * 137438953472 * y ^ n := by rw [Int.mul_comm (y ^ n)]; exact Int.mul_le_mul_of_nonneg_right m1 p0
      refine ⟨by omega, by omega, fun _ => by omega⟩
    · rw [if_neg c]
      have j := i2 (by omega)
      have t0 := Int.mul_nonneg m0 i0
      have t2 := Int.mul_le_mul_of_nonneg_left j m0
      rw [Int.mul_add] at t2
      have t3 : y ^ n * 137438953472 ≤ ((n : Int) + 1) * 137438953472 * y ^ n := by rw [Int.mul_comm (y ^ n)]; exact Int.mul_le_mul_of_nonneg_right m1 p0
      refine ⟨by omega, fun _ => ⟨by omega, by omega⟩, by omega⟩
structure Inv (y : Int) (n : Nat) (lo hi la fi : Int) : Prop where
  fi0 : 0 ≤ fi
  fila : fi ≤ la
  lafi : la ≤ fi + 12
  first : n = 0 → la = fi
  fiC : fi * CC n ≤ 4611686018427387904 * y ^ n
  laC : 4611686018427387904 * y ^ n ≤ la * CC n
  lo0 : 0 ≤ lo
  loC : lo * CC n ≤ 4611686018427387904 * EM.S n y
  hiC : 4611686018427387904 * EM.S n y ≤ hi * CC n
  gap : hi ≤ lo + 12 * n
  pot : hi + 2 * la ≤ 13835058055282163712 + 6 * n
  even : n % 2 = 0 → la ≤ hi
  hi0 : 0 ≤ hi
/-- The next members, from above and from below. -/
theorem next_members {y : Int} (h0 : 0 ≤ y) (h1 : y < 137438953472) {n : Nat} {lo hi la fi : Int} (I : Inv y n lo hi la fi) :
    let la' := cl la (y * 33554432) / ((n : Int) + 1) + 1
    let fi' := fl fi (y * 33554432) / ((n : Int) + 1)
    0 ≤ fi' ∧ fi' ≤ la' ∧ la' ≤ fi' + 12 ∧ fi' ≤ fi ∧ fi' * CC (n + 1) ≤ 4611686018427387904 * y ^ (n + 1) ∧ 4611686018427387904 * y ^ (n + 1) ≤ la' * CC (n + 1) ∧ la' ≤ la + 1 ∧ (n > 0 → 2 * la' ≤ la + 3) := by
  intro la' fi'
  obtain ⟨a1, a2, _, _⟩ := fl_cl (a := fi) (b := y * 33554432)
  obtain ⟨_, _, b3, b4⟩ := fl_cl (a := la) (b := y * 33554432)
  have fila := I.fila
  have lafi := I.lafi
  have fi0 := I.fi0
  have t0 : 0 ≤ y * 33554432 := by omega
  have t1 : y * 33554432 ≤ 4611686018427387904 := by omega
  have z0 := Int.mul_nonneg fi0 t0
  have la0 : 0 ≤ la := by omega
  have z1 : fi * (y * 33554432) ≤ fi * 4611686018427387904 := Int.mul_le_mul_of_nonneg_left t1 fi0
  have z2 : la * (y * 33554432) ≤ la * 4611686018427387904 := Int.mul_le_mul_of_nonneg_left t1 la0
  have z3 : la * (y * 33554432) ≤ (fi + 12) * (y * 33554432) := Int.mul_le_mul_of_nonneg_right lafi t0
  have z4 : fi * (y * 33554432) ≤ la * (y * 33554432) := Int.mul_le_mul_of_nonneg_right fila t0
  have z5 : (fi + 12) * (y * 33554432) = fi * (y * 33554432) + 12 * (y * 33554432) := Int.add_mul _ _ _
  have m : (1 : Int) ≤ (n : Int) + 1 := by omega
  have d1 := Int.mul_ediv_self_le (x := fl fi (y * 33554432)) (k := (n : Int) + 1) (by omega)
  have d2 := Int.lt_mul_ediv_self_add (x := fl fi (y * 33554432)) (k := (n : Int) + 1) (by omega)
  have d3 := Int.mul_ediv_self_le (x := cl la (y * 33554432)) (k := (n : Int) + 1) (by omega)
  have d4 := Int.lt_mul_ediv_self_add (x := cl la (y * 33554432)) (k := (n : Int) + 1) (by omega)
  have ef : fi' = fl fi (y * 33554432) / ((n : Int) + 1) := rfl
  have el : la' = cl la (y * 33554432) / ((n : Int) + 1) + 1 := rfl
  have f0 : 0 ≤ fl fi (y * 33554432) := by omega
  have c0 : 0 ≤ cl la (y * 33554432) := by omega
  have q0 : 0 ≤ fl fi (y * 33554432) / ((n : Int) + 1) := Int.ediv_nonneg f0 (by omega)
  have q1 : 0 ≤ cl la (y * 33554432) / ((n : Int) + 1) := Int.ediv_nonneg c0 (by omega)
  have r1 : fl fi (y * 33554432) / ((n : Int) + 1) ≤ fl fi (y * 33554432) := Int.ediv_le_self _ f0
  have r2 : cl la (y * 33554432) / ((n : Int) + 1) ≤ cl la (y * 33554432) := Int.ediv_le_self _ c0
  have clla : cl la (y * 33554432) ≤ la := by omega
  have flfi : fl fi (y * 33554432) ≤ fi := by omega
  have flcl : fl fi (y * 33554432) ≤ cl la (y * 33554432) := by omega
  have mono : fl fi (y * 33554432) / ((n : Int) + 1) ≤ cl la (y * 33554432) / ((n : Int) + 1) := Int.ediv_le_ediv (by omega) flcl
  have pc := CC_pos n
  have ec : CC (n + 1) = ((n : Int) + 1) * 137438953472 * CC n := rfl
  have ep : y ^ (n + 1) = y ^ n * y := Int.pow_succ _ _
  have fiC := I.fiC
  have laC := I.laC
  have first := I.first
  rw [← ef] at d1 d2 q0 r1 mono
  have el' : cl la (y * 33554432) / ((n : Int) + 1) = la' - 1 := by omega
  rw [el'] at d3 d4 q1 r2 mono
  clear_value la' fi'
  clear ef el el'
  generalize cl la (y * 33554432) = c at *
  generalize fl fi (y * 33554432) = f at *
  refine ⟨q0, by omega, ?_, by omega, ?_, ?_, by omega, ?_⟩
  · rcases Nat.eq_zero_or_pos n with hn | hn
    · have := first hn
      subst hn
      subst this
      simp at d1 d2 d3 d4
      omega
    · have cf : c ≤ f + 13 := by omega
      have hm : (2 : Int) ≤ (n : Int) + 1 := by omega
      rcases Int.lt_or_le fi' (la' - 12) with k | k
      · exfalso
        have k2 : fi' + 12 ≤ la' - 1 := by omega
        have k3 : ((n : Int) + 1) * (fi' + 12) ≤ ((n : Int) + 1) * (la' - 1) := Int.mul_le_mul_of_nonneg_left k2 (by omega)
        rw [Int.mul_add] at k3
        omega
      · omega
  · rw [ec, ep]
    have u1 : fi' * ((n : Int) + 1) * 4611686018427387904 ≤ fi * (y * 33554432) := by rw [Int.mul_comm fi']; omega
    have u2 : fi' * ((n : Int) + 1) * 137438953472 ≤ fi * y := by
      have : fi * (y * 33554432) = fi * y * 33554432 := by grind
      omega
    have u3 := Int.mul_le_mul_of_nonneg_right u2 (Int.le_of_lt pc)
    have u4 := Int.mul_le_mul_of_nonneg_right fiC h0
    grind
  · rw [ec, ep]
    have u1 : la * (y * 33554432) ≤ la' * ((n : Int) + 1) * 4611686018427387904 := by
      have : c ≤ ((n : Int) + 1) * la' := by rw [Int.mul_sub] at d4; omega
      rw [Int.mul_comm la']; omega
    have u2 : la * y ≤ la' * ((n : Int) + 1) * 137438953472 := by
      have : la * (y * 33554432) = la * y * 33554432 := by grind
      omega
    have u3 := Int.mul_le_mul_of_nonneg_right u2 (Int.le_of_lt pc)
    have u4 := Int.mul_le_mul_of_nonneg_right laC h0
    grind
  · intro hn
    have k3 : 2 * (la' - 1) ≤ ((n : Int) + 1) * (la' - 1) := Int.mul_le_mul_of_nonneg_right (by omega) q1
    omega
theorem Inv_odd {y : Int} (h0 : 0 ≤ y) (h1 : y < 137438953472) {n : Nat} {lo hi la fi : Int} (I : Inv y n lo hi la fi) (hn : n % 2 = 0) (hn24 : n < 24) {la' fi' : Int} (hla : la' = cl la (y * 33554432) / ((n : Int) + 1) + 1) (hfi : fi' = fl fi (y * 33554432) / ((n : Int) + 1)) :
    Inv y (n + 1) (lo - mn lo la') (hi - fi') la' fi' := by
  have N := next_members h0 h1 I
  simp only [← hla, ← hfi] at N
  obtain ⟨n1, n2, n3, n4, n5, n6, n7, n8⟩ := N
  have pc := CC_pos n
  have ec : CC (n + 1) = ((n : Int) + 1) * 137438953472 * CC n := rfl
  have es : EM.S (n + 1) y = ((n : Int) + 1) * 137438953472 * EM.S n y + (if n % 2 = 0 then -1 else 1) * y ^ (n + 1) := rfl
  rw [if_pos hn] at es
  have m0 : (0 : Int) ≤ ((n : Int) + 1) * 137438953472 := by omega
  have e4 : ((n + 1 : Nat) : Int) = (n : Int) + 1 := by omega
  have sp := (S_pos y h0 (Int.le_of_lt h1) (n + 1)).1
  have ev := I.even hn
  have i1 := I.lafi
  have i2 := I.fila
  have l0 := I.lo0
  have g := I.gap
  have p := I.pot
  have l1 := Int.mul_le_mul_of_nonneg_left I.loC m0
  have l2 := Int.mul_le_mul_of_nonneg_left I.hiC m0
  refine ⟨n1, n2, n3, by omega, n5, n6, by unfold mn; omega, ?_, ?_, by rw [e4]; unfold mn; omega, by rw [e4]; omega, by omega, by omega⟩
  · by_cases c : lo ≤ la'
    · have : lo - mn lo la' = 0 := by unfold mn; omega
      rw [this]; omega
    · have : lo - mn lo la' = lo - la' := by unfold mn; omega
      rw [this, es, Int.sub_mul]
      have : lo * CC (n + 1) = ((n : Int) + 1) * 137438953472 * (lo * CC n) := by rw [ec]; generalize CC n = z; grind
      generalize y ^ (n + 1) = w at *
      generalize la' * CC (n + 1) = v at *
      generalize lo * CC (n + 1) = u at *
      generalize lo * CC n = t at *
      generalize EM.S n y = s at *
      grind
  · rw [es, Int.sub_mul]
    have : hi * CC (n + 1) = ((n : Int) + 1) * 137438953472 * (hi * CC n) := by rw [ec]; generalize CC n = z; grind
    generalize y ^ (n + 1) = w at *
    generalize fi' * CC (n + 1) = v at *
    generalize hi * CC (n + 1) = u at *
    generalize hi * CC n = t at *
    generalize EM.S n y = s at *
    grind
theorem Inv_even {y : Int} (h0 : 0 ≤ y) (h1 : y < 137438953472) {n : Nat} {lo hi la fi : Int} (I : Inv y n lo hi la fi) (hn : n % 2 = 1) (hn24 : n < 24) {la' fi' : Int} (hla : la' = cl la (y * 33554432) / ((n : Int) + 1) + 1) (hfi : fi' = fl fi (y * 33554432) / ((n : Int) + 1)) :
    Inv y (n + 1) (lo + fi') (hi + la') la' fi' := by
  have N := next_members h0 h1 I
  simp only [← hla, ← hfi] at N
  obtain ⟨n1, n2, n3, n4, n5, n6, n7, n8⟩ := N
  have pc := CC_pos n
  have ec : CC (n + 1) = ((n : Int) + 1) * 137438953472 * CC n := rfl
  have es : EM.S (n + 1) y = ((n : Int) + 1) * 137438953472 * EM.S n y + (if n % 2 = 0 then -1 else 1) * y ^ (n + 1) := rfl
  rw [if_neg (by omega)] at es
  have m0 : (0 : Int) ≤ ((n : Int) + 1) * 137438953472 := by omega
  have e4 : ((n + 1 : Nat) : Int) = (n : Int) + 1 := by omega
  have i1 := I.lafi
  have i2 := I.fila
  have i3 := I.fi0
  have l0 := I.lo0
  have g := I.gap
  have p := I.pot
  have hh := I.hi0
  have n8' := n8 (by omega)
  have l1 := Int.mul_le_mul_of_nonneg_left I.loC m0
  have l2 := Int.mul_le_mul_of_nonneg_left I.hiC m0
  refine ⟨n1, n2, n3, by omega, n5, n6, by omega, ?_, ?_, by rw [e4]; omega, by rw [e4]; omega, by omega, by omega⟩
  · rw [es, Int.add_mul]
    have : lo * CC (n + 1) = ((n : Int) + 1) * 137438953472 * (lo * CC n) := by rw [ec]; generalize CC n = z; grind
    generalize y ^ (n + 1) = w at *
    generalize fi' * CC (n + 1) = v at *
    generalize lo * CC (n + 1) = u at *
    generalize lo * CC n = t at *
    generalize EM.S n y = s at *
    grind
  · rw [es, Int.add_mul hi la']
    have : hi * CC (n + 1) = ((n : Int) + 1) * 137438953472 * (hi * CC n) := by rw [ec]; generalize CC n = z; grind
    generalize y ^ (n + 1) = w at *
    generalize la' * CC (n + 1) = v at *
    generalize hi * CC (n + 1) = u at *
    generalize hi * CC n = t at *
    generalize EM.S n y = s at *
    grind
/-- What is true of the two numbers behind the row. -/
structure Inv1 (y : Nat) (j : Nat) (lo hi e d : Int) (g : Int) : Prop where
  lo0 : 0 ≤ lo
  lohi : lo ≤ hi
  hiM : hi ≤ 4611686018427387904
  near : EM.Lo e hi (EM.bX (2 ^ j * y)) (EM.bY (2 ^ j * y))
  under : EM.Hi d lo (EM.bX (2 ^ j * y)) (EM.bY (2 ^ j * y))
  gap : hi ≤ lo + g
theorem Inv1_step {y j : Nat} {lo hi e d g : Int} (I : Inv1 y j lo hi e d g) (he : 0 ≤ e) (hd : 0 ≤ d) (hd' : d ≤ 4611686018427387904) : Inv1 y (j + 1) (fl lo lo) (cl hi hi) (2 * e) (3 * d) (2 * g + 2) := by
  obtain ⟨l0, lh, hM, nr, un, gp⟩ := I
  obtain ⟨a1, a2, _, _⟩ := fl_cl (a := lo) (b := lo)
  obtain ⟨_, _, b3, b4⟩ := fl_cl (a := hi) (b := hi)
  have ex : 2 ^ (j + 1) * y = 2 ^ j * y + 2 ^ j * y := by rw [Nat.pow_succ]; generalize 2 ^ j = p; grind
  have z0 := Int.mul_nonneg l0 l0
  have z1 : lo * lo ≤ hi * hi := Int.mul_le_mul lh lh l0 (by omega)
  have z2 : hi * hi ≤ 4611686018427387904 * 4611686018427387904 := Int.mul_le_mul hM hM (by omega) (by decide)
  have z3 : hi * hi ≤ lo * lo + 9223372036854775808 * (hi - lo) := by
    have h1 : (hi - lo) * (hi + lo) ≤ (hi - lo) * 9223372036854775808 := Int.mul_le_mul_of_nonneg_left (by omega) (by omega)
    grind
  have X0 := EM.bX_pos (2 ^ j * y)
  have Y0 := EM.bY_pos (2 ^ j * y)
  have YX := EM.bYX (2 ^ j * y)
  refine ⟨by omega, by omega, by omega, ?_, ?_, by omega⟩
  · rw [ex, EM.bX_add, EM.bY_add]
    exact EM.lo_sq nr (by omega) (by omega) YX he (by omega) b3
  · rw [ex, EM.bX_add, EM.bY_add]
    exact EM.hi_sq un (by omega) (by omega) YX hd hd' l0 a1
theorem Inv1_start {y : Nat} (h1 : y < 137438953472) {lo hi la fi : Int} (I : Inv (y : Int) 24 lo hi la fi) : Inv1 y 0 (lo - mn lo la) (mn (hi + la) 4611686018427387904) 20000000 30000000 400 := by
  obtain ⟨fi0, fila, lafi, _, fiC, laC, lo0, loC, hiC, gap, pot, even, hi0⟩ := I
  have pc := CC_pos 24
  have S1 := S_pos (y : Int) (by omega) (by omega) 24
  have SC := (S1.2.1 rfl).2
  have S0 := S1.1
  have fz : fi = 0 := by
    have p1 := (EM.pow_mono (y := (y : Int)) (z := 137438953472) (by omega) (by omega) 24).2
    rcases Int.lt_or_le fi 1 with k | k
    · omega
    · exfalso
      have k1 : 1 * CC 24 ≤ fi * CC 24 := Int.mul_le_mul_of_nonneg_right k (Int.le_of_lt pc)
      have k2 : 4611686018427387904 * (137438953472 : Int) ^ 24 < CC 24 := by decide +kernel
      have k3 : 4611686018427387904 * (y : Int) ^ 24 ≤ 4611686018427387904 * (137438953472 : Int) ^ 24 := Int.mul_le_mul_of_nonneg_left p1 (by decide)
      generalize (137438953472 : Int) ^ 24 = v at *
      generalize (y : Int) ^ 24 = u at *
      omega
  have lolo : 0 ≤ lo - mn lo la ∧ lo - mn lo la ≤ lo ∧ lo ≤ lo - mn lo la + la := by unfold mn; omega
  have hiC' : 4611686018427387904 * EM.S 24 (y : Int) ≤ mn (hi + la) 4611686018427387904 * CC 24 := by
    by_cases c : hi + la ≤ 4611686018427387904
    · have e : mn (hi + la) 4611686018427387904 = hi + la := by unfold mn; omega
      have u : 0 ≤ la * CC 24 := Int.mul_nonneg (by omega) (Int.le_of_lt pc)
      rw [e, Int.add_mul]; omega
    · have e : mn (hi + la) 4611686018427387904 = 4611686018427387904 := by unfold mn; omega
      rw [e]; exact Int.mul_le_mul_of_nonneg_left SC (by decide)
  have loC' : (lo - mn lo la) * CC 24 ≤ 4611686018427387904 * EM.S 24 (y : Int) := Int.le_trans (Int.mul_le_mul_of_nonneg_right lolo.2.1 (Int.le_of_lt pc)) loC
  have hiM : mn (hi + la) 4611686018427387904 ≤ 4611686018427387904 ∧ mn (hi + la) 4611686018427387904 ≤ hi + la := by unfold mn; omega
  obtain ⟨N1, N2⟩ := EM.S_near y (by omega)
  rw [← CC_24] at N1 N2
  have X0 := EM.bX_pos y
  have na : 4611686018427387904 * (EM.aa 23 * 137438953472 ^ 23) ≤ 20000000 * CC 24 := by decide +kernel
  have nb : 4611686018427387904 * ((EM.bb 23 + 137438953472) * 137438953472 ^ 23) ≤ 30000000 * CC 24 := by decide +kernel
  have na0 : 0 ≤ EM.aa 23 * 137438953472 ^ 23 := by decide +kernel
  have nb0 : 0 ≤ (EM.bb 23 + 137438953472) * 137438953472 ^ 23 := by decide +kernel
  refine ⟨lolo.1, EM.le_of_mul pc (Int.le_trans loC' hiC'), hiM.1, ?_, ?_, by omega⟩
  · rw [Nat.pow_zero, Nat.one_mul]
    unfold EM.Lo
    generalize mn (hi + la) 4611686018427387904 = H at *
    generalize EM.aa 23 * 137438953472 ^ 23 = a at *
    generalize CC 24 = c at *
    generalize EM.S 24 (y : Int) = s at *
    generalize EM.bX y = X at *
    generalize EM.bY y = Y at *
    have v1 : a * (y : Int) ≤ a * 137438953472 := Int.mul_le_mul_of_nonneg_left (by omega) na0
    have v2 := Int.mul_le_mul_of_nonneg_right v1 (Int.le_of_lt X0)
    have v3 := Int.mul_le_mul_of_nonneg_right na (Int.le_of_lt X0)
    have v4 := Int.mul_le_mul_of_nonneg_right hiC' (Int.le_of_lt X0)
    refine EM.le_of_mul pc ?_
    refine EM.le_of_mul (c := 137438953472) (by decide) ?_
    generalize (y : Int) = m at *
    grind
  · rw [Nat.pow_zero, Nat.one_mul]
    unfold EM.Hi
    generalize lo - mn lo la = H at *
    generalize (EM.bb 23 + 137438953472) * 137438953472 ^ 23 = a at *
    generalize CC 24 = c at *
    generalize EM.S 24 (y : Int) = s at *
    generalize EM.bX y = X at *
    generalize EM.bY y = Y at *
    have v1 : a * (y : Int) ≤ a * 137438953472 := Int.mul_le_mul_of_nonneg_left (by omega) nb0
    have v2 := Int.mul_le_mul_of_nonneg_right v1 (Int.le_of_lt X0)
    have v3 := Int.mul_le_mul_of_nonneg_right nb (Int.le_of_lt X0)
    have v4 := Int.mul_le_mul_of_nonneg_right loC' (Int.le_of_lt X0)
    refine EM.le_of_mul pc ?_
    refine EM.le_of_mul (c := 137438953472) (by decide) ?_
    generalize (y : Int) = m at *
    grind
end Go.Proofs.YthpkiacaemhkkaaDoor.Facts
