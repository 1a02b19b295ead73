/- ExpoNear: what its row says of expo, and awake holds. For all inputs, no condition but the row's own (the table lies as the text lays it). -/
import Derived.Test.YthpkiacaemhkkaaDoorStExpoNear
import Derived.Test.YthpkiacaemhkkaaDoorFactsExpoNear
import Derived.Test.YthpkiacaemhkkaaDoorPrint5
namespace Go.Proofs.YthpkiacaemhkkaaDoor.Pure
set_option linter.unusedVariables false
set_option linter.unusedSimpArgs false
open Go.RowKit Go.Proofs.YthpkiacaemhkkaaDoor.Print Go.Proofs.YthpkiacaemhkkaaDoor.Facts Go.Proofs.YthpkiacaemhkkaaDoorW.PrintWords Go.Proofs.YthpkiacaemhkkaaDoorW.PrintLast Go.Proofs.YthpkiacaemhkkaaDoorW.PrintMore
def GG : Nat → Int → Int
  | 0, g => g
  | j + 1, g => GG j (2 * g + 2)
def E2 : Nat → Int → Int
  | 0, e => e
  | j + 1, e => E2 j (2 * e)
def E3 : Nat → Int → Int
  | 0, e => e
  | j + 1, e => E3 j (3 * e)
theorem l1_loop (y : Nat) (j : Nat) : ∀ (k i : Nat) (lo hi e d g : Int), i + j = 5 → Inv1 y i lo hi e d g → 0 ≤ e → 0 ≤ d → d ≤ 19000000000000 * 3 ^ i → 80 + j < k →
    ∃ L H, linhayref05_Bounds.l1 k lo hi (i : Int) = some (L, H) ∧ Inv1 y 5 L H (E2 j e) (E3 j d) (GG j g) := by
  induction j with
  | zero =>
    intro k i lo hi e d g hi5 I he hd hd' hk
    obtain ⟨k, rfl⟩ : ∃ q, k = q + 1 := ⟨k - 1, by omega⟩
    have : i = 5 := by omega
    subst this
    refine ⟨lo, hi, ?_, I⟩
    simp only [linhayref05_Bounds.l1]
    rw [if_neg (by omega)]
  | succ j ih =>
    intro k i lo hi e d g hi5 I he hd hd' hk
    obtain ⟨k, rfl⟩ : ∃ q, k = q + 1 := ⟨k - 1, by omega⟩
    have l0 := I.lo0
    have lh := I.lohi
    have hM := I.hiM
    have w1 : Aside0 (wrap64 ((i : Int) + 1) = ((i + 1 : Nat) : Int)) := ⟨by unfold wrap64; omega⟩
    simp only [linhayref05_Bounds.l1]
    rw [if_pos (by omega), times_eq k (by omega) l0 (by omega) l0 (by omega) false, times_eq k (by omega) (by omega) (by omega) (by omega) hM true]
    simp only [Option.bind_some, if_true, Bool.false_eq_true, if_false]
    rw [w1.out]
    have p3 : (3 : Int) ^ i ≤ 81 := by
      have : ∀ q : Fin 5, (3 : Int) ^ q.val ≤ 81 := by decide
      exact this ⟨i, by omega⟩
    have p3s : (3 : Int) ^ (i + 1) = 3 ^ i * 3 := Int.pow_succ _ _
    exact ih k (i + 1) _ _ _ _ _ (by omega) (Inv1_step I he hd (by omega)) (by omega) (by omega) (by rw [p3s]; omega) (by omega)
theorem l0_loop (y : Nat) (h1 : y < 137438953472) (d : Nat) : ∀ (k n : Nat) (lo hi la fi : Int), n + d = 24 → Inv (y : Int) n lo hi la fi → 100 + d < k →
    ∃ L H, linhayref05_Bounds.l0 k ((y : Int) * 33554432) lo hi la fi ((n : Int) + 1) = some (L, H) ∧ Inv1 y 5 L H 640000000 7290000000 12862 := by
  induction d with
  | zero =>
    intro k n lo hi la fi hn I hk
    obtain ⟨k, rfl⟩ : ∃ q, k = q + 1 := ⟨k - 1, by omega⟩
    have : n = 24 := by omega
    subst this
    simp only [linhayref05_Bounds.l0]
    have a1 := I.lo0
    have a2 := I.fi0
    have a3 := I.fila
    have a4 := I.pot
    have a5 := I.hi0
    have lohi : lo ≤ hi := EM.le_of_mul (CC_pos 24) (Int.le_trans I.loC I.hiC)
    rw [if_neg (by omega), nwr (n := hi + la) (by omega) (by omega), nwr (n := lo - mn lo la) (by unfold mn; omega) (by unfold mn; omega)]
    exact l1_loop y 5 k 0 _ _ _ _ _ (by omega) (Inv1_start h1 I) (by decide) (by decide) (by decide) (by omega)
  | succ d ih =>
    intro k n lo hi la fi hn I hk
    obtain ⟨k, rfl⟩ : ∃ q, k = q + 1 := ⟨k - 1, by omega⟩
    have a1 := I.lo0
    have a2 := I.fi0
    have a3 := I.fila
    have a4 := I.pot
    have a5 := I.hi0
    have lohi : lo ≤ hi := EM.le_of_mul (CC_pos n) (Int.le_trans I.loC I.hiC)
    have N := next_members (by omega) (by omega) I
    simp only at N
    obtain ⟨n1, n2, n3, n4, n5, n6, n7, n8⟩ := N
    have c0 : 0 ≤ cl la ((y : Int) * 33554432) := by
      have := Int.mul_nonneg (show 0 ≤ la by omega) (show 0 ≤ (y : Int) * 33554432 by omega)
      have := fl_cl (a := la) (b := (y : Int) * 33554432)
      omega
    have f0 : 0 ≤ fl fi ((y : Int) * 33554432) := by
      have := Int.mul_nonneg a2 (show 0 ≤ (y : Int) * 33554432 by omega)
      have := fl_cl (a := fi) (b := (y : Int) * 33554432)
      omega
    have q1 : 0 ≤ cl la ((y : Int) * 33554432) / ((n : Int) + 1) := Int.ediv_nonneg c0 (by omega)
    simp only [linhayref05_Bounds.l0]
    rw [if_pos (by omega), times_eq k (by omega) (by omega) (by omega) (by omega) (by omega) true, times_eq k (by omega) a2 (by omega) (by omega) (by omega) false]
    simp only [Option.bind_some, if_true, Bool.false_eq_true, if_false]
    rw [if_neg (by omega), Int.tdiv_eq_ediv_of_nonneg c0, Int.tdiv_eq_ediv_of_nonneg f0, Int.tmod_eq_emod_of_nonneg (by omega)]
    obtain ⟨la', hla⟩ : ∃ x, x = cl la ((y : Int) * 33554432) / ((n : Int) + 1) + 1 := ⟨_, rfl⟩
    obtain ⟨fi', hfi⟩ : ∃ x, x = fl fi ((y : Int) * 33554432) / ((n : Int) + 1) := ⟨_, rfl⟩
    rw [← hfi] at n1 n2 n3 n4 n5 ⊢
    rw [← hla] at n2 n3 n6 n7
    have hla2 : cl la ((y : Int) * 33554432) / ((n : Int) + 1) = la' - 1 := by omega
    have w9 : IntKind.u64.wrap ((n : Int) + 1 + 1) = ((n + 1 : Nat) : Int) + 1 := by rw [nwr (by omega) (by omega)]; omega
    rw [hla2, nwr (n := la' - 1) (by omega) (by omega), show la' - 1 + 1 = la' by omega, nwr (n := la') (by omega) (by omega), nwr (n := fi') n1 (by omega), w9]
    by_cases c : n % 2 = 0
    · have J := Inv_odd (by omega) (by omega) I c (by omega) hla hfi
      have j0 := J.hi0
      rw [if_pos (by omega), nwr (n := lo - mn lo la') (by unfold mn; omega) (by unfold mn; omega), nwr (n := hi - fi') (by omega) (by omega)]
      exact ih k (n + 1) _ _ _ _ (by omega) J (by omega)
    · have J := Inv_even (by omega) (by omega) I (by omega) (by omega) hla hfi
      have j0 := J.pot
      have j1 := J.fila
      have lh2 : lo + fi' ≤ hi + la' := EM.le_of_mul (CC_pos (n + 1)) (Int.le_trans J.loC J.hiC)
      rw [if_neg (by omega), nwr (n := lo + fi') (by omega) (by omega), nwr (n := hi + la') (by omega) (by omega)]
      exact ih k (n + 1) _ _ _ _ (by omega) J (by omega)
theorem ExpoNear : linhaylaw05_ExpoNear.Pure := by
  intro x hx
  have hx := nwf_u64 hx
  refine ⟨300, ?_⟩
  unfold linhaylaw05_ExpoNear.f
  rw [awake05_le 300 (by decide), Int.tmod_eq_emod_of_nonneg hx.1]
  obtain ⟨y, hy⟩ : ∃ y : Nat, x % 137438953472 = y := ⟨(x % 137438953472).toNat, by omega⟩
  have hy' : y < 137438953472 := by omega
  rw [hy, expo_Of_eq 300 (by decide) (x := (y : Int)) ⟨by omega, by omega⟩]
  have start : Inv (y : Int) 0 4611686018427387904 4611686018427387904 4611686018427387904 4611686018427387904 := by
    refine ⟨by decide, by decide, by decide, fun _ => rfl, ?_, ?_, by decide, ?_, ?_, by decide, by decide, fun _ => by decide, by decide⟩ <;> simp [CC, EM.S]
  obtain ⟨L, H, hB, I⟩ := l0_loop y hy' 24 300 0 _ _ _ _ (by omega) start (by omega)
  unfold linhayref05_Bounds.f
  rw [nwr (n := (y : Int) * 33554432) (by omega) (by omega)]
  have hB2 : linhayref05_Bounds.l0 300 ((y : Int) * 33554432) 4611686018427387904 4611686018427387904 4611686018427387904 4611686018427387904 1 = some (L, H) := hB
  rw [hB2]
  simp only [Option.bind_some, if_true]
  obtain ⟨i1, i2, i3, i4, i5, i6⟩ := I
  obtain ⟨f1, f2⟩ := EM.F_near y hy'
  have fb := EM.F_bd y
  have o1 : ofS (y : Int) = EM.F y / 1073741824 := by unfold ofS; rw [if_neg (by omega)]; rfl
  have X0 := EM.bX_pos (32 * y)
  have e32 : 2 ^ 5 * y = 32 * y := by omega
  rw [e32] at i4 i5
  have u1 : EM.F y ≤ H + 868363778 := by
    refine EM.le_of_mul X0 ?_
    unfold EM.Lo at i4
    unfold EM.Hi at f1
    rw [Int.add_mul]
    generalize EM.bX (32 * y) = X at *
    generalize EM.bY (32 * y) = Y at *
    generalize H * X = p at *
    generalize EM.F y * X = q at *
    omega
  have u2 : L ≤ EM.F y + 7518363778 := by
    refine EM.le_of_mul X0 ?_
    unfold EM.Hi at i5
    unfold EM.Lo at f2
    rw [Int.add_mul]
    generalize EM.bX (32 * y) = X at *
    generalize EM.bY (32 * y) = Y at *
    generalize L * X = p at *
    generalize EM.F y * X = q at *
    omega
  rw [if_pos i2, o1, nwr (n := H / 1073741824 + 1) (by omega) (by omega), if_pos (by omega), nwr (n := EM.F y / 1073741824 + 256) (by omega) (by omega), nwr (n := L / 1073741824 + 1) (by omega) (by omega), if_pos (by omega), nwr (n := H - L) (by omega) (by omega)]
  exact congrArg some (decide_eq_true (by omega))
end Go.Proofs.YthpkiacaemhkkaaDoor.Pure
