/- Lean functions that answer what Go functions of the translation answer, and the proofs of it. Written by a program of this session (wip/tools/seatprint.py), over contracts that it proved by hand. Conditions: those that each theorem says. -/
import Derived.Test.YtnippnpbnmkfbaaPrint0
import Derived.Test.YtnippnpbnmkfbaaPrint8
namespace Go.Proofs.Ytnippnpbnmkfbaa.Print
open Go.RowKit Go.Proofs.YtnippnpbnmkfbaaW.PrintWords Go.Proofs.YtnippnpbnmkfbaaW.PrintLast Go.Proofs.YtnippnpbnmkfbaaW.PrintMore
attribute [local go_sem] max2_int min2_int max_two min_two max_three min_three max_four min_four   -- for this text's walks alone
set_option linter.unusedVariables false
set_option linter.unusedSimpArgs false

/-! ### linhayref02_Add: function 30 -/
theorem linhayref02_Add.sum (a b c d a0 a1 a2 a3 b0 b1 b2 b3 : Int) (hb : b = a1 * 4294967296 + a0) (ha : a = a3 * 4294967296 + a2) (hd : d = b1 * 4294967296 + b0) (hc : c = b3 * 4294967296 + b2)
    (A0 : 0 ≤ a0 ∧ a0 < 4294967296) (A1 : 0 ≤ a1 ∧ a1 < 4294967296) (A2 : 0 ≤ a2 ∧ a2 < 4294967296) (A3 : 0 ≤ a3 ∧ a3 < 4294967296)
    (B0 : 0 ≤ b0 ∧ b0 < 4294967296) (B1 : 0 ≤ b1 ∧ b1 < 4294967296) (B2 : 0 ≤ b2 ∧ b2 < 4294967296) (B3 : 0 ≤ b3 ∧ b3 < 4294967296) :
    (a3 + b3 + (a2 + b2 + (a1 + b1 + (a0 + b0) / 4294967296) / 4294967296) / 4294967296) % 4294967296 * 4294967296 + (a2 + b2 + (a1 + b1 + (a0 + b0) / 4294967296) / 4294967296) % 4294967296 = (a + c + (b + d) / 18446744073709551616) % 18446744073709551616 ∧
    (a1 + b1 + (a0 + b0) / 4294967296) % 4294967296 * 4294967296 + (a0 + b0) % 4294967296 = (b + d) % 18446744073709551616 ∧
    (a3 + b3 + (a2 + b2 + (a1 + b1 + (a0 + b0) / 4294967296) / 4294967296) / 4294967296) / 4294967296 = (a + c + (b + d) / 18446744073709551616) / 18446744073709551616 := by
  obtain ⟨c0, k0⟩ : ∃ x, x = (a0 + b0) / 4294967296 := ⟨_, rfl⟩
  obtain ⟨r0, l0⟩ : ∃ x, x = (a0 + b0) % 4294967296 := ⟨_, rfl⟩
  have m0 : a0 + b0 = 4294967296 * c0 + r0 ∧ 0 ≤ r0 ∧ r0 < 4294967296 := by omega
  rw [← k0, ← l0]
  clear k0 l0
  obtain ⟨c1, k1⟩ : ∃ x, x = (a1 + b1 + c0) / 4294967296 := ⟨_, rfl⟩
  obtain ⟨r1, l1⟩ : ∃ x, x = (a1 + b1 + c0) % 4294967296 := ⟨_, rfl⟩
  have m1 : a1 + b1 + c0 = 4294967296 * c1 + r1 ∧ 0 ≤ r1 ∧ r1 < 4294967296 := by omega
  rw [← k1, ← l1]
  clear k1 l1
  obtain ⟨c2, k2⟩ : ∃ x, x = (a2 + b2 + c1) / 4294967296 := ⟨_, rfl⟩
  obtain ⟨r2, l2⟩ : ∃ x, x = (a2 + b2 + c1) % 4294967296 := ⟨_, rfl⟩
  have m2 : a2 + b2 + c1 = 4294967296 * c2 + r2 ∧ 0 ≤ r2 ∧ r2 < 4294967296 := by omega
  rw [← k2, ← l2]
  clear k2 l2
  obtain ⟨c3, k3⟩ : ∃ x, x = (a3 + b3 + c2) / 4294967296 := ⟨_, rfl⟩
  obtain ⟨r3, l3⟩ : ∃ x, x = (a3 + b3 + c2) % 4294967296 := ⟨_, rfl⟩
  have m3 : a3 + b3 + c2 = 4294967296 * c3 + r3 ∧ 0 ≤ r3 ∧ r3 < 4294967296 := by omega
  rw [← k3, ← l3]
  clear k3 l3
  have s1 : b + d = 18446744073709551616 * c1 + (r1 * 4294967296 + r0) := by omega
  have s2 : (b + d) / 18446744073709551616 = c1 ∧ (b + d) % 18446744073709551616 = r1 * 4294967296 + r0 := by omega
  rw [s2.1, s2.2]
  have s3 : a + c + c1 = 18446744073709551616 * c3 + (r3 * 4294967296 + r2) := by omega
  omega
theorem linhayref02_Add.fin {A A' B B' C C' : Int} (h1 : A = A') (h2 : B = B') (h3 : C = C') : Ending.returned (.tuple #[.agg #[.int .u64 A, .int .u64 B], .bool (decide (0 < C))]) = Ending.returned (.tuple #[.agg #[.int .u64 A', .int .u64 B'], .bool (decide (0 < C'))]) := by rw [h1, h2, h3]
set_option maxHeartbeats 1000000 in
set_option maxRecDepth 100000 in
theorem linhayref02_Add.walk (a b c d : Int) (w : World) (ha : 0 ≤ a) (hb : 0 ≤ b) (ha' : a < 18446744073709551616) (hb' : b < 18446744073709551616)
    (hc : 0 ≤ c) (hd : 0 ≤ d) (hc' : c < 18446744073709551616) (hd' : d < 18446744073709551616) :
    Calls Try.prog 30 #[.agg #[.int .u64 a, .int .u64 b], .agg #[.int .u64 c, .int .u64 d]] w fun e w' => e = .returned (.tuple #[.agg #[.int .u64 ((a + c + (b + d) / 18446744073709551616) % 18446744073709551616), .int .u64 ((b + d) % 18446744073709551616)], .bool (decide (0 < (a + c + (b + d) / 18446744073709551616) / 18446744073709551616))]) ∧ Below w.heap.size w w' := by
  obtain ⟨a0, e0⟩ : ∃ x, x = b % 4294967296 := ⟨_, rfl⟩
  obtain ⟨a1, e1⟩ : ∃ x, x = b / 4294967296 := ⟨_, rfl⟩
  obtain ⟨a2, e2⟩ : ∃ x, x = a % 4294967296 := ⟨_, rfl⟩
  obtain ⟨a3, e3⟩ : ∃ x, x = a / 4294967296 := ⟨_, rfl⟩
  obtain ⟨b0, f0⟩ : ∃ x, x = d % 4294967296 := ⟨_, rfl⟩
  obtain ⟨b1, f1⟩ : ∃ x, x = d / 4294967296 := ⟨_, rfl⟩
  obtain ⟨b2, f2⟩ : ∃ x, x = c % 4294967296 := ⟨_, rfl⟩
  obtain ⟨b3, f3⟩ : ∃ x, x = c / 4294967296 := ⟨_, rfl⟩
  have D1 := fun W => linhayref02_digits.walk a b W ha hb ha' hb'
  have D2 := fun W => linhayref02_digits.walk c d W hc hd hc' hd'
  rw [← e0, ← e1, ← e2, ← e3] at D1
  rw [← f0, ← f1, ← f2, ← f3] at D2
  have A0 : 0 ≤ a0 ∧ a0 < 4294967296 := by omega
  have A1 : 0 ≤ a1 ∧ a1 < 4294967296 := by omega
  have A2 : 0 ≤ a2 ∧ a2 < 4294967296 := by omega
  have A3 : 0 ≤ a3 ∧ a3 < 4294967296 := by omega
  have B0 : 0 ≤ b0 ∧ b0 < 4294967296 := by omega
  have B1 : 0 ≤ b1 ∧ b1 < 4294967296 := by omega
  have B2 : 0 ≤ b2 ∧ b2 < 4294967296 := by omega
  have B3 : 0 ≤ b3 ∧ b3 < 4294967296 := by omega
  obtain ⟨E1, E2, E3⟩ := linhayref02_Add.sum a b c d a0 a1 a2 a3 b0 b1 b2 b3 (by omega) (by omega) (by omega) (by omega) A0 A1 A2 A3 B0 B1 B2 B3
  have X1 := Lib.hid E1
  have X2 := Lib.hid E2
  have X3 := Lib.hid E3
  clear E1 E2 E3 e0 e1 e2 e3 f0 f1 f2 f3
  obtain ⟨A0, A0'⟩ := A0
  obtain ⟨A1, A1'⟩ := A1
  obtain ⟨A2, A2'⟩ := A2
  obtain ⟨A3, A3'⟩ := A3
  obtain ⟨B0, B0'⟩ := B0
  obtain ⟨B1, B1'⟩ := B1
  obtain ⟨B2, B2'⟩ := B2
  obtain ⟨B3, B3'⟩ := B3
  have HB := Aside0.mk (Below.refl w.heap.size w)
  have K1 := Lib.hid D1
  have K2 := Lib.hid D2
  clear D1 D2
  go_enter Try.func30, Try.ntmps30
  go_wp2_with (first | (go_at_call 40; (with_reducible refine (K1.out _).mono ?_); rintro e w' ⟨rfl, rfl⟩) | (go_at_call 40; (with_reducible refine (K2.out _).mono ?_); rintro e w' ⟨rfl, rfl⟩))
  refine wp_loop_rounds 5 ?_
  rw [rounds_succ]
  go_wp2_with fail
  go_quiet (fail)
  go_wp2_with fail
  rw [rounds_succ]
  go_wp2_with fail
  go_quiet (fail)
  go_wp2_with fail
  rw [rounds_succ]
  go_wp2_with fail
  go_quiet (fail)
  go_wp2_with fail
  rw [rounds_succ]
  go_wp2_with fail
  go_quiet (fail)
  go_wp2_with fail
  rw [rounds_succ]
  go_wp2_with fail
  go_wp2_with (go_at_call 41; (refine (linhayref02_whole.walk _ _ _ _ _ (by omega) (by omega) (by omega) (by omega) (by omega) (by omega) (by omega) (by omega)).mono ?_); rintro e w' ⟨rfl, rfl⟩)
  refine bodyPost_ret (v := .tuple #[.agg #[.int .u64 ((a3 + b3 + (a2 + b2 + (a1 + b1 + (a0 + b0) / 4294967296) / 4294967296) / 4294967296) % 4294967296 * 4294967296 + (a2 + b2 + (a1 + b1 + (a0 + b0) / 4294967296) / 4294967296) % 4294967296), .int .u64 ((a1 + b1 + (a0 + b0) / 4294967296) % 4294967296 * 4294967296 + (a0 + b0) % 4294967296)], .bool (decide (0 < (a3 + b3 + (a2 + b2 + (a1 + b1 + (a0 + b0) / 4294967296) / 4294967296) / 4294967296) / 4294967296))]) (by simp [results, Try.results30, go_sem]) rfl ⟨linhayref02_Add.fin X1.out X2.out X3.out, ?_⟩
  repeat (with_reducible first | exact HB.out | apply below_alloc | apply pw_below_drewN | apply below_drew1 | refine below_set ?_ ?_)
  all_goals (first | omega | (simp; done) | (simp; omega))
def linhayref02_Add.ok (a b c d : Int) : Prop := ((0 ≤ a ∧ a < 18446744073709551616) ∧ (0 ≤ b ∧ b < 18446744073709551616)) ∧ ((0 ≤ c ∧ c < 18446744073709551616) ∧ (0 ≤ d ∧ d < 18446744073709551616))
instance linhayref02_Add.dec (a b c d : Int) : Decidable (linhayref02_Add.ok a b c d) := by unfold linhayref02_Add.ok; infer_instance
def linhayref02_Add.f (a0_0 : Int) (a0_1 : Int) (a1_0 : Int) (a1_1 : Int) : Option (Int × Int × Bool) :=
  if linhayref02_Add.ok a0_0 a0_1 a1_0 a1_1 then some ((a0_0 + a1_0 + (a0_1 + a1_1) / 18446744073709551616) % 18446744073709551616, (a0_1 + a1_1) % 18446744073709551616, decide (0 < (a0_0 + a1_0 + (a0_1 + a1_1) / 18446744073709551616) / 18446744073709551616)) else none
theorem linhayref02_Add.calls (a0_0 : Int) (a0_1 : Int) (a1_0 : Int) (a1_1 : Int) (r1 : Int) (r2 : Int) (r3 : Bool) (w : World) (h : linhayref02_Add.f a0_0 a0_1 a1_0 a1_1 = some (r1, r2, r3)) :
    Calls Try.prog 30 #[.agg #[.int .u64 a0_0, .int .u64 a0_1], .agg #[.int .u64 a1_0, .int .u64 a1_1]] w fun e w' => e = .returned (.tuple #[.agg #[.int .u64 r1, .int .u64 r2], .bool r3]) ∧ Below w.heap.size w w' := by
  unfold linhayref02_Add.f at h
  by_cases hk : linhayref02_Add.ok a0_0 a0_1 a1_0 a1_1
  · rw [if_pos hk] at h
    simp only [Option.some.injEq, Prod.mk.injEq] at h
    obtain ⟨rfl, rfl, rfl⟩ := h
    obtain ⟨⟨⟨b1, b2⟩, ⟨b3, b4⟩⟩, ⟨⟨b5, b6⟩, ⟨b7, b8⟩⟩⟩ := hk
    exact linhayref02_Add.walk a0_0 a0_1 a1_0 a1_1 w b1 b3 b2 b4 b5 b7 b6 b8
  · rw [if_neg hk] at h
    cases h

end Go.Proofs.Ytnippnpbnmkfbaa.Print
