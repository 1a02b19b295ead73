/- Lean functions that answer what Go functions of the translation answer, and the proofs of it. Written by a program of this session (wip/tools/seatprint.py), over contracts that it proved by hand. Conditions: those that each theorem says. -/
import Derived.Test.YtnippnpbnmkfbaaPrint0
import Derived.Test.YtnippnpbnmkfbaaPrint8
namespace Go.Proofs.Ytnippnpbnmkfbaa.Print
open Go.RowKit Go.Proofs.YtnippnpbnmkfbaaW.PrintWords Go.Proofs.YtnippnpbnmkfbaaW.PrintLast Go.Proofs.YtnippnpbnmkfbaaW.PrintMore
attribute [local go_sem] max2_int min2_int max_two min_two max_three min_three max_four min_four   -- for this text's walks alone
set_option linter.unusedVariables false
set_option linter.unusedSimpArgs false

/-! ### linhayref02_Mul: function 31 -/
theorem linhayref02_Mul.sum (a b x0 x1 y0 y1 c0 r0 c1 r1 c2 r2 c3 r3 : Int) (ha : a = x1 * 4294967296 + x0) (hb : b = y1 * 4294967296 + y0)
    (m0 : x0 * y0 = 4294967296 * c0 + r0 ∧ 0 ≤ r0 ∧ r0 < 4294967296) (m1 : x0 * y1 + c0 = 4294967296 * c1 + r1 ∧ 0 ≤ r1 ∧ r1 < 4294967296)
    (m2 : x1 * y0 + r1 = 4294967296 * c2 + r2 ∧ 0 ≤ r2 ∧ r2 < 4294967296) (m3 : x1 * y1 + c1 + c2 = 4294967296 * c3 + r3 ∧ 0 ≤ r3 ∧ r3 < 4294967296) :
    c3 * 4294967296 + r3 = a * b / 18446744073709551616 ∧ r2 * 4294967296 + r0 = a * b % 18446744073709551616 := by
  have e : a * b = x1 * y1 * 18446744073709551616 + (x1 * y0 + x0 * y1) * 4294967296 + x0 * y0 := by rw [ha, hb]; grind
  have e2 : a * b = 18446744073709551616 * (c3 * 4294967296 + r3) + (r2 * 4294967296 + r0) := by
    rw [e]
    generalize x0 * y0 = p at *
    generalize x0 * y1 = q at *
    generalize x1 * y0 = r at *
    generalize x1 * y1 = s at *
    omega
  rw [e2]
  omega
theorem linhayref02_Mul.fin {A A' B B' : Int} (h1 : A = A') (h2 : B = B') : Ending.returned (.agg #[.int .u64 A, .int .u64 B]) = Ending.returned (.agg #[.int .u64 A', .int .u64 B']) := by rw [h1, h2]
theorem rounds_abs {P : Program} {c : Code} {Q : Exit → Act → World → Prop} {n : Nat} {a : Act} {W : World} (F : World → Prop) (hF : F W) (h : ∀ W', F W' → Code.rounds P c Q n a W') : Code.rounds P c Q n a W := h W hF
theorem half_mul {a b : Int} (ha : 0 ≤ a) (hb : 0 ≤ b) (ha' : a < 4294967296) (hb' : b < 4294967296) : 0 ≤ a * b ∧ a * b ≤ 18446744065119617025 := by
  refine ⟨Int.mul_nonneg ha hb, ?_⟩
  have h1 : a * b ≤ 4294967295 * b := Int.mul_le_mul_of_nonneg_right (by omega) hb
  omega
set_option maxHeartbeats 1000000 in
set_option maxRecDepth 100000 in
theorem linhayref02_Mul.walk (a b : Int) (w : World) (ha : 0 ≤ a) (hb : 0 ≤ b) (ha' : a < 18446744073709551616) (hb' : b < 18446744073709551616) :
    Calls Try.prog 31 #[.int .u64 a, .int .u64 b] w fun e w' => e = .returned (.agg #[.int .u64 (a * b / 18446744073709551616), .int .u64 (a * b % 18446744073709551616)]) ∧ Below w.heap.size w w' := by
  obtain ⟨x0, e0⟩ : ∃ x, x = a % 4294967296 := ⟨_, rfl⟩
  obtain ⟨x1, e1⟩ : ∃ x, x = a / 4294967296 := ⟨_, rfl⟩
  obtain ⟨y0, f0⟩ : ∃ x, x = b % 4294967296 := ⟨_, rfl⟩
  obtain ⟨y1, f1⟩ : ∃ x, x = b / 4294967296 := ⟨_, rfl⟩
  have A0 : 0 ≤ x0 ∧ x0 < 4294967296 := by omega
  have A1 : 0 ≤ x1 ∧ x1 < 4294967296 := by omega
  have B0 : 0 ≤ y0 ∧ y0 < 4294967296 := by omega
  have B1 : 0 ≤ y1 ∧ y1 < 4294967296 := by omega
  have P00 := half_mul A0.1 B0.1 A0.2 B0.2
  have P01 := half_mul A0.1 B1.1 A0.2 B1.2
  have P10 := half_mul A1.1 B0.1 A1.2 B0.2
  have P11 := half_mul A1.1 B1.1 A1.2 B1.2
  have HB := Aside0.mk (Below.refl w.heap.size w)
  obtain ⟨A0, A0'⟩ := A0
  obtain ⟨A1, A1'⟩ := A1
  obtain ⟨B0, B0'⟩ := B0
  obtain ⟨B1, B1'⟩ := B1
  obtain ⟨P00, P00'⟩ := P00
  obtain ⟨P01, P01'⟩ := P01
  obtain ⟨P10, P10'⟩ := P10
  obtain ⟨P11, P11'⟩ := P11
  obtain ⟨c0, k0⟩ : ∃ x, x0 * y0 / 4294967296 = x := ⟨_, rfl⟩
  obtain ⟨r0, l0⟩ : ∃ x, x0 * y0 % 4294967296 = x := ⟨_, rfl⟩
  have m0 : x0 * y0 = 4294967296 * c0 + r0 ∧ 0 ≤ r0 ∧ r0 < 4294967296 := by omega
  have q0 : 0 ≤ c0 ∧ c0 < 4294967296 := by omega
  obtain ⟨c1, k1⟩ : ∃ x, (x0 * y1 + c0) / 4294967296 = x := ⟨_, rfl⟩
  obtain ⟨r1, l1⟩ : ∃ x, (x0 * y1 + c0) % 4294967296 = x := ⟨_, rfl⟩
  have m1 : x0 * y1 + c0 = 4294967296 * c1 + r1 ∧ 0 ≤ r1 ∧ r1 < 4294967296 := by omega
  have q1 : 0 ≤ c1 ∧ c1 < 4294967296 := by omega
  obtain ⟨c2, k2⟩ : ∃ x, (x1 * y0 + r1) / 4294967296 = x := ⟨_, rfl⟩
  obtain ⟨r2, l2⟩ : ∃ x, (x1 * y0 + r1) % 4294967296 = x := ⟨_, rfl⟩
  have m2 : x1 * y0 + r1 = 4294967296 * c2 + r2 ∧ 0 ≤ r2 ∧ r2 < 4294967296 := by omega
  have q2 : 0 ≤ c2 ∧ c2 < 4294967296 := by omega
  obtain ⟨c3, k3⟩ : ∃ x, (x1 * y1 + c1 + c2) / 4294967296 = x := ⟨_, rfl⟩
  obtain ⟨r3, l3⟩ : ∃ x, (x1 * y1 + c1 + c2) % 4294967296 = x := ⟨_, rfl⟩
  have m3 : x1 * y1 + c1 + c2 = 4294967296 * c3 + r3 ∧ 0 ≤ r3 ∧ r3 < 4294967296 := by omega
  have q3 : 0 ≤ c3 ∧ c3 < 4294967296 := by omega
  obtain ⟨S2, S3⟩ := linhayref02_Mul.sum a b x0 x1 y0 y1 c0 r0 c1 r1 c2 r2 c3 r3 (by omega) (by omega) m0 m1 m2 m3
  have X2 := Lib.hid S2
  have X3 := Lib.hid S3
  clear S2 S3
  have o0 := m0.2.1
  have o0' := m0.2.2
  have o1 := m1.2.1
  have o1' := m1.2.2
  have o2 := m2.2.1
  have o2' := m2.2.2
  have o3 := m3.2.1
  have o3' := m3.2.2
  clear m0 m1 m2 m3
  obtain ⟨q0, q0'⟩ := q0
  obtain ⟨q1, q1'⟩ := q1
  obtain ⟨q2, q2'⟩ := q2
  obtain ⟨q3, q3'⟩ := q3
  have g0 : a % 4294967296 = x0 := e0.symm
  have g1 : a / 4294967296 = x1 := e1.symm
  have g2 : b % 4294967296 = y0 := f0.symm
  have g3 : b / 4294967296 = y1 := f1.symm
  clear e0 e1 f0 f1
  go_enter Try.func31, Try.ntmps31
  go_wp2_with fail
  refine wp_loop_rounds 3 ?_
  rw [rounds_succ]
  go_wp2_with fail
  refine wp_loop_rounds 3 ?_
  rw [rounds_succ]
  go_wp2_with fail
  go_quiet (fail)
  go_wp2_with fail
  rw [rounds_succ]
  go_wp2_with fail
  go_quiet (fail)
  go_wp2_with fail
  rw [rounds_succ]
  go_wp2_with fail
  rw [rounds_succ]
  go_wp2_with fail
  refine wp_loop_rounds 3 ?_
  rw [rounds_succ]
  go_wp2_with fail
  go_quiet (fail)
  go_wp2_with fail
  rw [rounds_succ]
  go_wp2_with fail
  go_quiet (fail)
  go_wp2_with fail
  rw [rounds_succ]
  go_wp2_with fail
  refine rounds_abs (fun W' => W'.heap[w.heap.size + 1]? = some (.cells #[.int .u64 r0, .int .u64 r2, .int .u64 r3, .int .u64 c3] 57 (0, 0)) ∧ W'.heap[w.heap.size]? = some (.cells #[.int .u64 0, .int .u64 0] 43 (0, 0)) ∧ Below w.heap.size w W') ⟨?_, ?_, ?_⟩ ?_
  · refine blk_put (cs := #[.int .u64 r0, .int .u64 r2, .int .u64 r3, .int .u64 0]) ?_ 3 _ rfl
    refine blk_put (cs := #[.int .u64 r0, .int .u64 r2, .int .u64 c1, .int .u64 0]) ?_ 2 _ rfl
    refine blk_drewN ?_ _
    refine blk_put (cs := #[.int .u64 r0, .int .u64 r1, .int .u64 c1, .int .u64 0]) ?_ 1 _ rfl
    refine blk_drewN ?_ _
    refine blk_put (cs := #[.int .u64 r0, .int .u64 r1, .int .u64 0, .int .u64 0]) ?_ 2 _ rfl
    refine blk_put (cs := #[.int .u64 r0, .int .u64 0, .int .u64 0, .int .u64 0]) ?_ 1 _ rfl
    refine blk_drewN ?_ _
    refine blk_put (cs := #[.int .u64 0, .int .u64 0, .int .u64 0, .int .u64 0]) ?_ 0 _ rfl
    refine blk_drewN ?_ _
    refine blk_alloc ?_ _
    refine blk_alloc ?_ _
    simpa using heap_alloc_new (w.alloc (.cells #[.int .u64 0, .int .u64 0] 43)) _
  · repeat (with_reducible first | refine blk_drewN ?_ _ | exact heap_alloc_new _ _ | refine blk_alloc ?_ _ | refine blk_far ?_ ?_ _)
    all_goals first | (simp; done) | omega
  · repeat (with_reducible first | exact HB.out | apply below_alloc | apply pw_below_drewN | apply below_drew1 | refine below_set ?_ ?_)
    all_goals (first | omega | (simp; done) | (simp; omega))
  rintro W' ⟨hm, hr, hbW⟩
  have t0 : W'.cell? ⟨w.heap.size + 1, 0, none⟩ = some (.int .u64 r0) := (blk_cell hm 0).trans rfl
  have t1 : W'.cell? ⟨w.heap.size + 1, 1, none⟩ = some (.int .u64 r2) := (blk_cell hm 1).trans rfl
  have t2 : W'.cell? ⟨w.heap.size + 1, 2, none⟩ = some (.int .u64 r3) := (blk_cell hm 2).trans rfl
  have t3 : W'.cell? ⟨w.heap.size + 1, 3, none⟩ = some (.int .u64 c3) := (blk_cell hm 3).trans rfl
  have hlt : w.heap.size + 1 < W'.heap.size := blk_lt hm
  have u0 : W'.cell? ⟨w.heap.size, 0, none⟩ = some (.int .u64 0) := (blk_cell hr 0).trans rfl
  have u1 : W'.cell? ⟨w.heap.size, 1, none⟩ = some (.int .u64 0) := (blk_cell hr 1).trans rfl
  have v0 := blk_frozen hr 0
  have v1 := blk_frozen hr 1
  have hlt0 : w.heap.size < W'.heap.size := blk_lt hr
  clear hm hr HB
  have HB := Aside0.mk hbW
  clear hbW
  rw [rounds_succ]
  go_wp2_with (go_at_call 41; (refine (linhayref02_whole.walk r0 r2 r3 c3 _ o0 o2 o3 q3 o0' o2' o3' q3').mono ?_); rintro e w' ⟨rfl, rfl⟩)
  refine bodyPost_ret (v := .agg #[.int .u64 (c3 * 4294967296 + r3), .int .u64 (r2 * 4294967296 + r0)]) (by simp [results, Try.results31, go_sem, u0, u1, hlt0]) rfl ⟨linhayref02_Mul.fin X2.out X3.out, ?_⟩
  repeat (with_reducible first | exact HB.out | apply below_alloc | apply pw_below_drewN | apply below_drew1 | refine below_set ?_ ?_)
  all_goals (first | omega | (simp; done) | (simp; omega))
def linhayref02_Mul.ok (a0 a1 : Int) : Prop := (0 ≤ a0 ∧ a0 < 18446744073709551616) ∧ (0 ≤ a1 ∧ a1 < 18446744073709551616)
instance linhayref02_Mul.dec (a0 a1 : Int) : Decidable (linhayref02_Mul.ok a0 a1) := by unfold linhayref02_Mul.ok; infer_instance
def linhayref02_Mul.f (a0 : Int) (a1 : Int) : Option (Int × Int) := if linhayref02_Mul.ok a0 a1 then some (a0 * a1 / 18446744073709551616, a0 * a1 % 18446744073709551616) else none
theorem linhayref02_Mul.calls (a0 : Int) (a1 : Int) (r1 : Int) (r2 : Int) (w : World) (h : linhayref02_Mul.f a0 a1 = some (r1, r2)) :
    Calls Try.prog 31 #[.int .u64 a0, .int .u64 a1] w fun e w' => e = .returned (.agg #[.int .u64 r1, .int .u64 r2]) ∧ Below w.heap.size w w' := by
  unfold linhayref02_Mul.f at h
  by_cases hk : linhayref02_Mul.ok a0 a1
  · rw [if_pos hk] at h
    simp only [Option.some.injEq, Prod.mk.injEq] at h
    obtain ⟨rfl, rfl⟩ := h
    obtain ⟨⟨b1, b2⟩, ⟨b3, b4⟩⟩ := hk
    exact linhayref02_Mul.walk a0 a1 w b1 b3 b2 b4
  · rw [if_neg hk] at h
    cases h

end Go.Proofs.Ytnippnpbnmkfbaa.Print
