/- ExpoSums: what its row says of expo, and awake holds. For all inputs, no condition but the row's own (the table lies as the text lays it). -/
import Derived.Test.YthpkiacaemhkkaaDoorStExpoSums
import Derived.Test.YthpkiacaemhkkaaDoorFactsExpo
import Derived.Test.YthpkiacaemhkkaaDoorPrint6
namespace Go.Proofs.YthpkiacaemhkkaaDoor.Pure
set_option linter.unusedVariables false
set_option linter.unusedSimpArgs false
open Go.RowKit Go.Proofs.YthpkiacaemhkkaaDoor.Print Go.Proofs.YthpkiacaemhkkaaDoor.Facts Go.Proofs.YthpkiacaemhkkaaDoorW.PrintWords Go.Proofs.YthpkiacaemhkkaaDoorW.PrintLast Go.Proofs.YthpkiacaemhkkaaDoorW.PrintMore
theorem ExpoSums : linhaylaw05_ExpoSums.Pure := by
  intro x y hx hy
  have hx := nwf_u64 hx
  have hy := nwf_u64 hy
  refine ⟨300, ?_⟩
  unfold linhaylaw05_ExpoSums.f
  rw [awake05_le 300 (by decide), Int.tmod_eq_emod_of_nonneg hx.1, Int.tmod_eq_emod_of_nonneg hy.1]
  obtain ⟨a, ha⟩ : ∃ a : Nat, x % 68719476736 = a := ⟨(x % 68719476736).toNat, by omega⟩
  obtain ⟨b, hb⟩ : ∃ b : Nat, y % 68719476736 = b := ⟨(y % 68719476736).toNat, by omega⟩
  have ha' : a < 68719476736 := by omega
  have hb' : b < 68719476736 := by omega
  rw [ha, hb, nwr (n := (a : Int) + b) (by omega) (by omega), expo_Of_eq 300 (by decide) (x := (a : Int)) ⟨by omega, by omega⟩, expo_Of_eq 300 (by decide) (x := (b : Int)) ⟨by omega, by omega⟩, expo_Of_eq 300 (by decide) (x := (a : Int) + b) ⟨by omega, by omega⟩]
  simp only [Option.bind_some, if_true]
  have b1 := ofS_bd (a : Int)
  have b2 := ofS_bd (b : Int)
  have b3 := ofS_bd ((a : Int) + b)
  rw [fixed_Mul_eq 300 (by decide) ⟨b1.1, by omega⟩ ⟨b2.1, by omega⟩]
  have o1 : ofS ((a : Int) + b) = EM.F (a + b) / 1073741824 := by unfold ofS; rw [if_neg (by omega)]; rfl
  have o2 : ofS (a : Int) = EM.F a / 1073741824 := by unfold ofS; rw [if_neg (by omega)]; rfl
  have o3 : ofS (b : Int) = EM.F b / 1073741824 := by unfold ofS; rw [if_neg (by omega)]; rfl
  obtain ⟨s1, s2⟩ := EM.F_sums a b (by omega)
  obtain ⟨f1, f1'⟩ := EM.F_bd a
  obtain ⟨f2, f2'⟩ := EM.F_bd b
  have key : ∀ p q : Int, 0 ≤ p → p ≤ 4611686018427387904 → 0 ≤ q → q ≤ 4611686018427387904 → (p / 1073741824) * (q / 1073741824) / 4294967296 ≤ p * q / 4611686018427387904 / 1073741824 + 1 ∧ p * q / 4611686018427387904 / 1073741824 ≤ (p / 1073741824) * (q / 1073741824) / 4294967296 + 3 := by
    intro p q p0 p1 q0 q1
    obtain ⟨i, r, ep, hr0, hr1⟩ : ∃ i r : Int, p = 1073741824 * i + r ∧ 0 ≤ r ∧ r < 1073741824 := ⟨p / 1073741824, p % 1073741824, by omega, by omega, by omega⟩
    obtain ⟨j, s, eq, hs0, hs1⟩ : ∃ j s : Int, q = 1073741824 * j + s ∧ 0 ≤ s ∧ s < 1073741824 := ⟨q / 1073741824, q % 1073741824, by omega, by omega, by omega⟩
    have ei : p / 1073741824 = i := by omega
    have ej : q / 1073741824 = j := by omega
    rw [ei, ej]
    have i0 : 0 ≤ i := by omega
    have j0 : 0 ≤ j := by omega
    have i1 : i ≤ 4294967296 := by omega
    have j1 : j ≤ 4294967296 := by omega
    have epq : p * q = 1152921504606846976 * (i * j) + 1073741824 * (i * s) + 1073741824 * (r * j) + r * s := by rw [ep, eq]; grind
    have a1 : 0 ≤ i * s ∧ i * s ≤ 4294967296 * 1073741824 := ⟨Int.mul_nonneg i0 hs0, Int.mul_le_mul i1 (by omega) hs0 (by decide)⟩
    have a2 : 0 ≤ r * j ∧ r * j ≤ 1073741824 * 4294967296 := ⟨Int.mul_nonneg hr0 j0, Int.mul_le_mul (by omega) j1 j0 (by decide)⟩
    have a3 : 0 ≤ r * s ∧ r * s ≤ 1073741824 * 1073741824 := ⟨Int.mul_nonneg hr0 hs0, Int.mul_le_mul (by omega) (by omega) hs0 (by decide)⟩
    have a0 := Int.mul_nonneg i0 j0
    rw [epq]
    generalize i * j = A at *
    generalize i * s = B at *
    generalize r * j = C at *
    generalize r * s = D at *
    clear ep eq epq ei ej
    constructor <;> omega
  obtain ⟨k1, k2⟩ := key (EM.F a) (EM.F b) f1 f1' f2 f2'
  have z0 := Int.mul_nonneg b1.1 b2.1
  have z1 : ofS (a : Int) * ofS (b : Int) ≤ 4294967296 * 4294967296 := Int.mul_le_mul b1.2 b2.2 b2.1 (by decide)
  have ms : mulS (ofS (a : Int)) (ofS (b : Int)) = ofS (a : Int) * ofS (b : Int) / 4294967296 := by unfold mulS; generalize ofS (a : Int) * ofS (b : Int) = z at *; omega
  rw [ms]
  simp only [Option.bind_some]
  have t1 : ofS ((a : Int) + b) ≤ ofS (a : Int) * ofS (b : Int) / 4294967296 + 256 := by
    rw [o1, o2, o3]
    generalize EM.F a / 1073741824 * (EM.F b / 1073741824) / 4294967296 = u at *
    generalize EM.F a * EM.F b / 4611686018427387904 = v at *
    omega
  have t2 : ofS (a : Int) * ofS (b : Int) / 4294967296 ≤ ofS ((a : Int) + b) + 256 := by
    rw [o1, o2, o3]
    generalize EM.F a / 1073741824 * (EM.F b / 1073741824) / 4294967296 = u at *
    generalize EM.F a * EM.F b / 4611686018427387904 = v at *
    omega
  generalize ofS (a : Int) * ofS (b : Int) = z at *
  rw [nwr (n := z / 4294967296 + 256) (by omega) (by omega), if_pos t1, nwr (n := ofS ((a : Int) + b) + 256) (by omega) (by omega)]
  simp [t2]
end Go.Proofs.YthpkiacaemhkkaaDoor.Pure
