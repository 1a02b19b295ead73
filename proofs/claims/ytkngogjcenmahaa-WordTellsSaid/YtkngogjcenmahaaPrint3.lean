/- Lean functions that answer what Go functions of the translation answer, and the proofs of it. Written by a program of this session (wip/tools/seatprint.py), over contracts that it proved by hand. Conditions: those that each theorem says. -/
import Derived.Test.YtkngogjcenmahaaPrint0
import Derived.Test.YtkngogjcenmahaaPrint2
namespace Go.Proofs.Ytkngogjcenmahaa.Print
open Go.RowKit Go.Proofs.YtkngogjcenmahaaW.PrintWords Go.Proofs.YtkngogjcenmahaaW.PrintLast Go.Proofs.YtkngogjcenmahaaW.PrintMore
attribute [local go_sem] max2_int min2_int max_two min_two max_three min_three max_four min_four   -- for this text's walks alone
set_option linter.unusedVariables false
set_option linter.unusedSimpArgs false

/-! ### linhayref01_Times: function 12 -/
def linhayref01_Times.f (a0 : Int) (a1 : Int) : Option (Int × Int) := if 0 ≤ a0 ∧ 0 ≤ a1 then (if a0 * a1 < 18446744073709551616 then some (a0 * a1, 0) else some (0, 10)) else none
theorem linhayref01_Times.quo (a0 a1 : Int) (h : 0 < a1) : 18446744073709551615 / a1 < a0 ↔ ¬ a0 * a1 < 18446744073709551616 := by
  rw [Int.ediv_lt_iff_lt_mul h]; omega
set_option maxHeartbeats 1000000 in
theorem linhayref01_Times.calls (a0 : Int) (a1 : Int) (r1 : Int) (r2 : Int) (w : World) (h : linhayref01_Times.f a0 a1 = some (r1, r2)) :
    Calls Try.prog 12 #[.int .u64 a0, .int .u64 a1] w fun e w' => e = .returned (.tuple #[.int .u64 r1, .int .i64 r2]) ∧ Drawn0 w w' := by
  unfold linhayref01_Times.f at h
  by_cases hk : 0 ≤ a0 ∧ 0 ≤ a1
  · rw [if_pos hk] at h
    obtain ⟨h0, h1⟩ := hk
    have hw : IntKind.u64.wrap (a0 * a1) = a0 * a1 ∨ ¬ a0 * a1 < 18446744073709551616 := by
      have := Int.mul_nonneg h0 h1
      rw [IntKind.wrap_u64]; omega
    by_cases hz : a1 = 0
    · subst hz
      simp at h
      obtain ⟨rfl, rfl⟩ := h
      clear hw h1
      go_enter Try.func12, Try.ntmps12
      go_wp2
      go_ret2
      exact ⟨by simp, Drawn0.refl _⟩
    · have hp : 0 < a1 := by omega
      have hq := linhayref01_Times.quo a0 a1 hp
      by_cases hc : a0 * a1 < 18446744073709551616
      · rw [if_pos hc] at h
        simp only [Option.some.injEq, Prod.mk.injEq] at h
        obtain ⟨rfl, rfl⟩ := h
        have hn : ¬ 18446744073709551615 / a1 < a0 := by rw [hq]; omega
        replace hw : IntKind.u64.wrap (a0 * a1) = a0 * a1 := by omega
        clear hq
        obtain ⟨m, hm⟩ : ∃ m, m = a0 * a1 := ⟨_, rfl⟩
        have W := Lib.hid hw
        have M := Lib.hid hm
        clear hw hm hc
        go_enter Try.func12, Try.ntmps12
        go_wp2
        go_ret2
        exact ⟨by rw [W.out]; rfl, Drawn0.refl _⟩
      · rw [if_neg hc] at h
        simp only [Option.some.injEq, Prod.mk.injEq] at h
        obtain ⟨rfl, rfl⟩ := h
        have hn : 18446744073709551615 / a1 < a0 := by rw [hq]; omega
        clear hq hw hc
        go_enter Try.func12, Try.ntmps12
        go_wp2
        go_ret2
        exact ⟨rfl, Drawn0.refl _⟩
  · rw [if_neg hk] at h
    cases h

/-! ### linhayref01_Add: function 14 -/
def linhayref01_Add.f (a0 : Int) (a1 : Int) : Option (Int) := (linhayref01_Plus.f a0 a1).bind fun bt114 => (if bt114.2 = 0 then (some bt114.1) else (some 18446744073709551615))
set_option maxHeartbeats 8000000 in
set_option maxRecDepth 100000 in
theorem linhayref01_Add.calls (a0 : Int) (a1 : Int) (r : Int) (w : World) (h : linhayref01_Add.f a0 a1 = some r) :
    Calls Try.prog 14 #[.int .u64 a0, .int .u64 a1] w fun e w' => e = .returned (.int .u64 r) ∧ Drawn0 w w' := by
  have H : ((linhayref01_Plus.f a0 a1).bind fun bt114 => (if bt114.2 = 0 then (some bt114.1) else (some 18446744073709551615))) = some r := h
  clear h
  replace H := Option.bind_eq_some_iff.mp H
  obtain ⟨⟨t114, t115⟩, A30, H⟩ := H
  replace H : (if t115 = 0 then (some t114) else (some 18446744073709551615)) = some r := H
  have A3 := Aside0.mk A30
  clear A30
  by_cases c4 : t115 = 0
  · rw [if_pos c4] at H
    have c4b0 : (t115 == 0) = true := beq_iff_eq.mpr c4
    have c4b1 : (t115 != 0) = false := bne_eq_false_iff_eq.mpr c4
    clear c4
    obtain rfl := Option.some.inj H
    go_enter Try.func14, Try.ntmps14
    go_wp2_with (first | ((with_reducible refine gate_callee (f := 10) rfl ?_); refine goesL_ (some 10) rfl rfl Try.func10 (by kernel_rfl) rfl #[.int .u64 a0, .int .u64 a1] rfl (by (try simp only [List.map_toArray, List.map_cons, List.map_nil]); first | done | rfl | (simp only [List.length_drop, List.length_take]; rfl)) ?_; (with_reducible refine (linhayref01_Plus.calls a0 a1 t114 t115 _ A3.out).mono ?_); rintro e w' ⟨rfl, ⟨nd, rfl⟩⟩; refine ⟨_, rfl, ?_⟩) | (go_at_call 10; (with_reducible refine (linhayref01_Plus.calls a0 a1 t114 t115 _ A3.out).mono ?_); rintro e w' ⟨rfl, ⟨nd, rfl⟩⟩))
    go_ret
    exact ⟨by first | rfl | (simp; done) | (simp [*]; done), by repeat (first | exact Drawn0.refl _ | apply Drawn0.step)⟩
  · rw [if_neg c4] at H
    have c4b0 : (t115 == 0) = false := beq_eq_false_iff_ne.mpr c4
    have c4b1 : (t115 != 0) = true := bne_iff_ne.mpr c4
    obtain rfl := Option.some.inj H
    go_enter Try.func14, Try.ntmps14
    go_wp2_with (first | ((with_reducible refine gate_callee (f := 10) rfl ?_); refine goesL_ (some 10) rfl rfl Try.func10 (by kernel_rfl) rfl #[.int .u64 a0, .int .u64 a1] rfl (by (try simp only [List.map_toArray, List.map_cons, List.map_nil]); first | done | rfl | (simp only [List.length_drop, List.length_take]; rfl)) ?_; (with_reducible refine (linhayref01_Plus.calls a0 a1 t114 t115 _ A3.out).mono ?_); rintro e w' ⟨rfl, ⟨nd, rfl⟩⟩; refine ⟨_, rfl, ?_⟩) | (go_at_call 10; (with_reducible refine (linhayref01_Plus.calls a0 a1 t114 t115 _ A3.out).mono ?_); rintro e w' ⟨rfl, ⟨nd, rfl⟩⟩))
    go_ret
    exact ⟨by first | rfl | (simp; done) | (simp [*]; done), by repeat (first | exact Drawn0.refl _ | apply Drawn0.step)⟩

/-! ### linhayref01_Sub: function 16 -/
def linhayref01_Sub.f (a0 : Int) (a1 : Int) : Option (Int) := if a0 < a1 then (some 0) else (some (IntKind.u64.wrap (a0 - a1)))
set_option maxHeartbeats 8000000 in
set_option maxRecDepth 100000 in
theorem linhayref01_Sub.calls (a0 : Int) (a1 : Int) (r : Int) (w : World) (h : linhayref01_Sub.f a0 a1 = some r) :
    Calls Try.prog 16 #[.int .u64 a0, .int .u64 a1] w fun e w' => e = .returned (.int .u64 r) ∧ Drawn0 w w' := by
  have H : (if a0 < a1 then (some 0) else (some (IntKind.u64.wrap (a0 - a1)))) = some r := h
  clear h
  by_cases c3 : a0 < a1
  · rw [if_pos c3] at H
    have c3b0 : decide (a0 < a1) = true := decide_eq_true c3
    clear c3
    obtain rfl := Option.some.inj H
    go_enter Try.func16, Try.ntmps16
    go_wp2
    go_ret
    exact ⟨by first | rfl | (simp; done) | (simp [*]; done), by repeat (first | exact Drawn0.refl _ | apply Drawn0.step)⟩
  · rw [if_neg c3] at H
    have c3b0 : decide (a0 < a1) = false := decide_eq_false c3
    clear c3
    obtain rfl := Option.some.inj H
    go_enter Try.func16, Try.ntmps16
    go_wp2
    go_ret
    exact ⟨by first | rfl | (simp; done) | (simp [*]; done), by repeat (first | exact Drawn0.refl _ | apply Drawn0.step)⟩

/-! ### linhayref01_Mul: function 18 -/
def linhayref01_Mul.f (a0 : Int) (a1 : Int) : Option (Int) := (linhayref01_Times.f a0 a1).bind fun bt116 => (if bt116.2 = 0 then (some bt116.1) else (some 18446744073709551615))
set_option maxHeartbeats 8000000 in
set_option maxRecDepth 100000 in
theorem linhayref01_Mul.calls (a0 : Int) (a1 : Int) (r : Int) (w : World) (h : linhayref01_Mul.f a0 a1 = some r) :
    Calls Try.prog 18 #[.int .u64 a0, .int .u64 a1] w fun e w' => e = .returned (.int .u64 r) ∧ Drawn0 w w' := by
  have H : ((linhayref01_Times.f a0 a1).bind fun bt116 => (if bt116.2 = 0 then (some bt116.1) else (some 18446744073709551615))) = some r := h
  clear h
  replace H := Option.bind_eq_some_iff.mp H
  obtain ⟨⟨t116, t117⟩, A30, H⟩ := H
  replace H : (if t117 = 0 then (some t116) else (some 18446744073709551615)) = some r := H
  have A3 := Aside0.mk A30
  clear A30
  by_cases c4 : t117 = 0
  · rw [if_pos c4] at H
    have c4b0 : (t117 == 0) = true := beq_iff_eq.mpr c4
    have c4b1 : (t117 != 0) = false := bne_eq_false_iff_eq.mpr c4
    clear c4
    obtain rfl := Option.some.inj H
    go_enter Try.func18, Try.ntmps18
    go_wp2_with (first | ((with_reducible refine gate_callee (f := 12) rfl ?_); refine goesL_ (some 10) rfl rfl Try.func12 (by kernel_rfl) rfl #[.int .u64 a0, .int .u64 a1] rfl (by (try simp only [List.map_toArray, List.map_cons, List.map_nil]); first | done | rfl | (simp only [List.length_drop, List.length_take]; rfl)) ?_; (with_reducible refine (linhayref01_Times.calls a0 a1 t116 t117 _ A3.out).mono ?_); rintro e w' ⟨rfl, ⟨nd, rfl⟩⟩; refine ⟨_, rfl, ?_⟩) | (go_at_call 12; (with_reducible refine (linhayref01_Times.calls a0 a1 t116 t117 _ A3.out).mono ?_); rintro e w' ⟨rfl, ⟨nd, rfl⟩⟩))
    go_ret
    exact ⟨by first | rfl | (simp; done) | (simp [*]; done), by repeat (first | exact Drawn0.refl _ | apply Drawn0.step)⟩
  · rw [if_neg c4] at H
    have c4b0 : (t117 == 0) = false := beq_eq_false_iff_ne.mpr c4
    have c4b1 : (t117 != 0) = true := bne_iff_ne.mpr c4
    obtain rfl := Option.some.inj H
    go_enter Try.func18, Try.ntmps18
    go_wp2_with (first | ((with_reducible refine gate_callee (f := 12) rfl ?_); refine goesL_ (some 10) rfl rfl Try.func12 (by kernel_rfl) rfl #[.int .u64 a0, .int .u64 a1] rfl (by (try simp only [List.map_toArray, List.map_cons, List.map_nil]); first | done | rfl | (simp only [List.length_drop, List.length_take]; rfl)) ?_; (with_reducible refine (linhayref01_Times.calls a0 a1 t116 t117 _ A3.out).mono ?_); rintro e w' ⟨rfl, ⟨nd, rfl⟩⟩; refine ⟨_, rfl, ?_⟩) | (go_at_call 12; (with_reducible refine (linhayref01_Times.calls a0 a1 t116 t117 _ A3.out).mono ?_); rintro e w' ⟨rfl, ⟨nd, rfl⟩⟩))
    go_ret
    exact ⟨by first | rfl | (simp; done) | (simp [*]; done), by repeat (first | exact Drawn0.refl _ | apply Drawn0.step)⟩

/-! ### linhayref01_Shl: function 20 -/
def linhayref01_Shl.l0 : Nat → Int → Int → Int → Option (Int)
  | 0, _, _, _ => none
  | k + 1, x0, x1, x5 => if x5 < x1 then (if x5 < 64 then ((linhayref01_Add.f x0 x0).bind fun t118 => (linhayref01_Shl.l0 k t118 x1 (IntKind.u64.wrap (x5 + 1)))) else (some x0)) else (some x0)
def linhayref01_Shl.f (k : Nat) (a0 : Int) (a1 : Int) : Option (Int) := linhayref01_Shl.l0 k a0 a1 0
theorem linhayref01_Shl.mono_l : ∀ k, (∀ y0 y1 y2, LeO (linhayref01_Shl.l0 k y0 y1 y2) (linhayref01_Shl.l0 (k + 1) y0 y1 y2))
  | 0 => fun _ _ _ r h => by simp [linhayref01_Shl.l0] at h
  | k + 1 => by
    have ih0 := linhayref01_Shl.mono_l k
    · intro y0 y1 y2
      unfold linhayref01_Shl.l0
      repeat' first
      | (with_reducible exact ih0 _ _ _)
      | (with_reducible exact LeO.refl _)
      | (with_reducible exact LeO.none _)
      | (with_reducible refine LeO.ite ?_ ?_)
      | (with_reducible refine LeO.bind ?_ (fun _ => ?_))
      | exact ih0 _ _ _
      | exact LeO.none _
      | refine LeO.ite ?_ ?_
      | refine LeO.bind ?_ (fun _ => ?_)
theorem linhayref01_Shl.mono : ∀ a0 a1 k, LeO (linhayref01_Shl.f k a0 a1) (linhayref01_Shl.f (k + 1) a0 a1) := by
  intro a0 a1 k
  have ih0 := linhayref01_Shl.mono_l k
  unfold linhayref01_Shl.f
  repeat' first
      | (with_reducible exact ih0 _ _ _)
      | (with_reducible exact LeO.refl _)
      | (with_reducible exact LeO.none _)
      | (with_reducible refine LeO.ite ?_ ?_)
      | (with_reducible refine LeO.bind ?_ (fun _ => ?_))
      | exact ih0 _ _ _
      | exact LeO.none _
      | refine LeO.ite ?_ ?_
      | refine LeO.bind ?_ (fun _ => ?_)
set_option maxHeartbeats 8000000 in
set_option maxRecDepth 100000 in
theorem linhayref01_Shl.calls (k : Nat) (a0 : Int) (a1 : Int) (r : Int) (w : World) (h : linhayref01_Shl.f k a0 a1 = some r) :
    Calls Try.prog 20 #[.int .u64 a0, .int .u64 a1] w fun e w' => e = .returned (.int .u64 r) ∧ Drawn0 w w' := by
  have H : (linhayref01_Shl.l0 k a0 a1 0) = some r := h
  clear h
  have H' := Aside0.mk H
  clear H
  go_enter Try.func20, Try.ntmps20
  go_wp2
  go_loopg [0, 5] k (fun kq v0 v5 w' => ∃ (x0_1 : Int) (x5_1 : Int), v0 = .int .u64 x0_1 ∧ v5 = .int .u64 x5_1 ∧ Aside0 (linhayref01_Shl.l0 kq x0_1 a1 x5_1 = some r) ∧ Aside0 (kq ≤ k) ∧ Drawn0 w w')
  case atStart => exact ⟨(a0), (0), (by first | rfl | (simp; done) | (simp [*]; done)), (by first | rfl | (simp; done) | (simp [*]; done)), H', ⟨Nat.le_refl _⟩, by repeat (first | exact Drawn0.refl _ | apply Drawn0.step)⟩
  case round =>
    clear H'
    try clear c2
    try clear p2
    obtain ⟨x0_1, x5_1, rfl, rfl, HA, HK1, ⟨m1, rfl⟩⟩ := hrel
    cases gk with
    | zero => exact absurd HA.out (by simp [linhayref01_Shl.l0])
    | succ k1 =>
      have H := HA.out
      clear HA
      simp only [linhayref01_Shl.l0] at H
      by_cases c3 : x5_1 < a1
      · rw [if_pos c3] at H
        have c3b0 : decide (x5_1 < a1) = true := decide_eq_true c3
        clear c3
        by_cases c4 : x5_1 < 64
        · rw [if_pos c4] at H
          have c4b0 : decide (x5_1 < 64) = true := decide_eq_true c4
          clear c4
          replace H := Option.bind_eq_some_iff.mp H
          obtain ⟨t118, A50, H⟩ := H
          replace H : (linhayref01_Shl.l0 k1 t118 a1 (IntKind.u64.wrap (x5_1 + 1))) = some r := H
          have A5 := Aside0.mk A50
          clear A50
          have H' := Aside0.mk H
          clear H
          go_wp2_with (first | ((with_reducible refine gate_callee (f := 14) rfl ?_); refine goesL_ (some 17) rfl rfl Try.func14 (by kernel_rfl) rfl #[.int .u64 x0_1, .int .u64 x0_1] rfl (by (try simp only [List.map_toArray, List.map_cons, List.map_nil]); first | done | rfl | (simp only [List.length_drop, List.length_take]; rfl)) ?_; (with_reducible refine (linhayref01_Add.calls x0_1 x0_1 t118 _ A5.out).mono ?_); rintro e w' ⟨rfl, ⟨nd, rfl⟩⟩; refine ⟨_, rfl, ?_⟩) | (go_at_call 14; (with_reducible refine (linhayref01_Add.calls x0_1 x0_1 t118 _ A5.out).mono ?_); rintro e w' ⟨rfl, ⟨nd, rfl⟩⟩))
          go_roundg k1
          case measure => have := HK1.out; omega
          case rel => exact ⟨(t118), (IntKind.u64.wrap (x5_1 + 1)), (by first | rfl | (simp; done) | (simp [*]; done)), (by first | rfl | (simp; done) | (simp [*]; done)), H', ⟨by have := HK1.out; omega⟩, by repeat (first | exact Drawn0.refl _ | apply Drawn0.step)⟩
        · rw [if_neg c4] at H
          have c4b0 : decide (x5_1 < 64) = false := decide_eq_false c4
          clear c4
          obtain rfl := Option.some.inj H
          go_wp2
          go_ret
          exact ⟨by first | rfl | (simp; done) | (simp [*]; done), by repeat (first | exact Drawn0.refl _ | apply Drawn0.step)⟩
      · rw [if_neg c3] at H
        have c3b0 : decide (x5_1 < a1) = false := decide_eq_false c3
        clear c3
        obtain rfl := Option.some.inj H
        go_wp2
        go_ret
        exact ⟨by first | rfl | (simp; done) | (simp [*]; done), by repeat (first | exact Drawn0.refl _ | apply Drawn0.step)⟩

end Go.Proofs.Ytkngogjcenmahaa.Print
