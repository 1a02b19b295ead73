/- Lean functions that answer what Go functions of the translation answer, and the proofs of it. Written by a program of this session (wip/tools/seatprint.py), over contracts that it proved by hand. Conditions: those that each theorem says. -/
import Derived.Test.YtkfahdccacefiaaPrint0
namespace Go.Proofs.Ytkfahdccacefiaa.Print
open Go.RowKit Go.Proofs.YtkfahdccacefiaaW.PrintWords Go.Proofs.YtkfahdccacefiaaW.PrintLast Go.Proofs.YtkfahdccacefiaaW.PrintMore
attribute [local go_sem] max2_int min2_int max_two min_two max_three min_three max_four min_four   -- for this text's walks alone
set_option linter.unusedVariables false
set_option linter.unusedSimpArgs false

/-! ### pack_Take_1: function 26 -/
def pack_Take_1.f  : Option (Int × ByteArray × Int) := some (0, (⟨#[]⟩ : ByteArray), 70)
set_option maxHeartbeats 8000000 in
set_option maxRecDepth 100000 in
theorem pack_Take_1.calls  (r1 : Int) (r2 : ByteArray) (r3 : Int) (w : World) (h : pack_Take_1.f  = some (r1, r2, r3)) :
    Calls Try.prog 26 #[] w fun e w' => e = .returned (.tuple #[.int .u64 r1, .string r2, .int .i64 r3]) ∧ Drawn0 w w' := by
  have H : (some (0, (⟨#[]⟩ : ByteArray), 70)) = some (r1, r2, r3) := h
  clear h
  simp only [Option.some.injEq, Prod.mk.injEq] at H
  obtain ⟨rfl, rfl, rfl⟩ := H
  go_enter Try.func26, Try.ntmps26
  go_wp2
  go_ret3
  exact ⟨by first | rfl | (simp; done) | (simp [*]; done), by repeat (first | exact Drawn0.refl _ | apply Drawn0.step)⟩

/-! ### pack_Take: function 11 -/
def pack_Take.l0 : Nat → ByteArray → Int → Int → Int → Option (Int × ByteArray × Int)
  | 0, _, _, _, _ => none
  | k + 1, x0, x5, x11, x12 => if x12 < x11 then (if 0 ≤ x12 then (if x12 < (x0.size : Int) then (if 0 ≤ (wrap64 (7 * x12)) then (if (IntKind.u64.wrap (bt x0 x12)) ≥ 128 then (pack_Take.l0 k x0 (Go.bits .or .u64 x5 (shl .u64 (Int.tmod (IntKind.u64.wrap (bt x0 x12)) 128) (wrap64 (7 * x12)))) x11 (wrap64 (x12 + 1))) else (if x12 > 0 then (if (IntKind.u64.wrap (bt x0 x12)) = 0 then ((pack_Take_1.f).bind fun bt104 => (some (bt104.1, bt104.2.1, bt104.2.2))) else (if x12 = 9 then (if (IntKind.u64.wrap (bt x0 x12)) > 1 then ((pack_Take_1.f).bind fun bt107 => (some (bt107.1, bt107.2.1, bt107.2.2))) else (if 0 ≤ (wrap64 (x12 + 1)) then (if (wrap64 (x12 + 1)) ≤ (x0.size : Int) then (some (Go.bits .or .u64 x5 (shl .u64 (Int.tmod (IntKind.u64.wrap (bt x0 x12)) 128) (wrap64 (7 * x12))), x0.extract ((wrap64 (x12 + 1)) : Int).toNat x0.size, 0)) else (none)) else (none))) else (if 0 ≤ (wrap64 (x12 + 1)) then (if (wrap64 (x12 + 1)) ≤ (x0.size : Int) then (some (Go.bits .or .u64 x5 (shl .u64 (Int.tmod (IntKind.u64.wrap (bt x0 x12)) 128) (wrap64 (7 * x12))), x0.extract ((wrap64 (x12 + 1)) : Int).toNat x0.size, 0)) else (none)) else (none)))) else (if x12 = 9 then (if (IntKind.u64.wrap (bt x0 x12)) > 1 then ((pack_Take_1.f).bind fun bt110 => (some (bt110.1, bt110.2.1, bt110.2.2))) else (if 0 ≤ (wrap64 (x12 + 1)) then (if (wrap64 (x12 + 1)) ≤ (x0.size : Int) then (some (Go.bits .or .u64 x5 (shl .u64 (Int.tmod (IntKind.u64.wrap (bt x0 x12)) 128) (wrap64 (7 * x12))), x0.extract ((wrap64 (x12 + 1)) : Int).toNat x0.size, 0)) else (none)) else (none))) else (if 0 ≤ (wrap64 (x12 + 1)) then (if (wrap64 (x12 + 1)) ≤ (x0.size : Int) then (some (Go.bits .or .u64 x5 (shl .u64 (Int.tmod (IntKind.u64.wrap (bt x0 x12)) 128) (wrap64 (7 * x12))), x0.extract ((wrap64 (x12 + 1)) : Int).toNat x0.size, 0)) else (none)) else (none))))) else (none)) else (none)) else (none)) else ((pack_Take_1.f).bind fun bt101 => (some (bt101.1, bt101.2.1, bt101.2.2)))
def pack_Take.f (k : Nat) (a0 : ByteArray) : Option (Int × ByteArray × Int) := pack_Take.l0 k a0 0 (mn (a0.size : Int) 10) 0
theorem pack_Take.mono_l : ∀ k, (∀ y0 y1 y2 y3, LeO (pack_Take.l0 k y0 y1 y2 y3) (pack_Take.l0 (k + 1) y0 y1 y2 y3))
  | 0 => fun _ _ _ _ r h => by simp [pack_Take.l0] at h
  | k + 1 => by
    have ih0 := pack_Take.mono_l k
    · intro y0 y1 y2 y3
      unfold pack_Take.l0
      repeat' first
      | (with_reducible exact ih0 _ _ _ _)
      | (with_reducible exact LeO.refl _)
      | (with_reducible exact LeO.none _)
      | (with_reducible refine LeO.ite ?_ ?_)
      | (with_reducible refine LeO.bind ?_ (fun _ => ?_))
      | exact ih0 _ _ _ _
      | exact LeO.none _
      | refine LeO.ite ?_ ?_
      | refine LeO.bind ?_ (fun _ => ?_)
theorem pack_Take.mono : ∀ a0 k, LeO (pack_Take.f k a0) (pack_Take.f (k + 1) a0) := by
  intro a0 k
  have ih0 := pack_Take.mono_l k
  unfold pack_Take.f
  repeat' first
      | (with_reducible exact ih0 _ _ _ _)
      | (with_reducible exact LeO.refl _)
      | (with_reducible exact LeO.none _)
      | (with_reducible refine LeO.ite ?_ ?_)
      | (with_reducible refine LeO.bind ?_ (fun _ => ?_))
      | exact ih0 _ _ _ _
      | exact LeO.none _
      | refine LeO.ite ?_ ?_
      | refine LeO.bind ?_ (fun _ => ?_)
set_option maxHeartbeats 8000000 in
set_option maxRecDepth 100000 in
theorem pack_Take.calls (k : Nat) (a0 : ByteArray) (r1 : Int) (r2 : ByteArray) (r3 : Int) (w : World) (h : pack_Take.f k a0 = some (r1, r2, r3)) :
    Calls Try.prog 11 #[.string a0] w fun e w' => e = .returned (.tuple #[.int .u64 r1, .string r2, .int .i64 r3]) ∧ Below w.heap.size w w' := by
  have HB := Aside0.mk (Below.refl w.heap.size w)
  have H : (pack_Take.l0 k a0 0 (mn (a0.size : Int) 10) 0) = some (r1, r2, r3) := h
  clear h
  obtain ⟨ji2, hji2⟩ : ∃ j_ : Int, (mn (a0.size : Int) 10) = j_ := ⟨_, rfl⟩
  replace H : (pack_Take.l0 k a0 0 ji2 0) = some (r1, r2, r3) := by first | (rw [hji2] at H; exact H) | (simp only [hji2] at H ⊢; exact H)
  (try (have hji2h : ji2 ≤ 10 := by (rw [← hji2]; unfold mn; (repeat' split) <;> omega)))
  (try (have hji2g : ji2 ≤ 64 := by omega))
  (try (have hji2l : 0 ≤ ji2 := by (rw [← hji2]; unfold mn; (repeat' split) <;> omega)))
  (try (have hji2m : 0 ≤ ji2 := by omega))
  have hji2_ : (if 10 < (a0.size : Int) then 10 else (a0.size : Int)) = ji2 := hji2
  have H' := Aside0.mk H
  clear H
  go_enter Try.func11, Try.ntmps11
  go_wp2
  (repeat (go_step3; (try go_wp2)))
  repeat (go_quiet (fail); try go_wp2)
  go_loopg [5, 12] k (fun kq v5 v12 w' => ∃ (x5_1 : Int) (x12_1 : Int), v5 = .int .u64 x5_1 ∧ v12 = .int .i64 x12_1 ∧ Aside0 (pack_Take.l0 kq a0 x5_1 ji2 x12_1 = some (r1, r2, r3)) ∧ Aside0 (kq ≤ k) ∧ Aside0 (Below w.heap.size w w'))
  case atStart => exact ⟨(0), (0), (by first | rfl | (simp; done) | (simp [*]; done)), (by first | rfl | (simp; done) | (simp [*]; done)), H', ⟨Nat.le_refl _⟩, ⟨by repeat (first | (with_reducible first | exact HB.out | apply below_alloc | apply pw_below_drewN | apply below_drew1) | exact HB.out)⟩⟩
  case round =>
    clear H'
    try clear c1
    try clear p2
    obtain ⟨x5_1, x12_1, rfl, rfl, HA, HK1, HB⟩ := hrel
    cases gk with
    | zero => exact absurd HA.out (by simp [pack_Take.l0])
    | succ k1 =>
      have H := HA.out
      clear HA
      simp only [pack_Take.l0] at H
      by_cases c3 : x12_1 < ji2
      · rw [if_pos c3] at H
        have c3b0 : decide (x12_1 < ji2) = true := decide_eq_true c3
        clear c3
        by_cases c4 : 0 ≤ x12_1
        · rw [if_pos c4] at H
          have c4b0 : decide (0 ≤ x12_1) = true := decide_eq_true c4
          clear c4
          by_cases c5 : x12_1 < (a0.size : Int)
          · rw [if_pos c5] at H
            have c5b0 : decide (x12_1 < (a0.size : Int)) = true := decide_eq_true c5
            clear c5
            obtain ⟨ji7, hji7⟩ : ∃ j_ : Int, (wrap64 (7 * x12_1)) = j_ := ⟨_, rfl⟩
            replace H : (if 0 ≤ (ji7) then (if (IntKind.u64.wrap (bt a0 x12_1)) ≥ 128 then (pack_Take.l0 k1 a0 (Go.bits .or .u64 x5_1 (shl .u64 (Int.tmod (IntKind.u64.wrap (bt a0 x12_1)) 128) (ji7))) ji2 (wrap64 (x12_1 + 1))) else (if x12_1 > 0 then (if (IntKind.u64.wrap (bt a0 x12_1)) = 0 then ((pack_Take_1.f).bind fun bt104 => (some (bt104.1, bt104.2.1, bt104.2.2))) else (if x12_1 = 9 then (if (IntKind.u64.wrap (bt a0 x12_1)) > 1 then ((pack_Take_1.f).bind fun bt107 => (some (bt107.1, bt107.2.1, bt107.2.2))) else (if 0 ≤ (wrap64 (x12_1 + 1)) then (if (wrap64 (x12_1 + 1)) ≤ (a0.size : Int) then (some (Go.bits .or .u64 x5_1 (shl .u64 (Int.tmod (IntKind.u64.wrap (bt a0 x12_1)) 128) (ji7)), a0.extract ((wrap64 (x12_1 + 1)) : Int).toNat a0.size, 0)) else (none)) else (none))) else (if 0 ≤ (wrap64 (x12_1 + 1)) then (if (wrap64 (x12_1 + 1)) ≤ (a0.size : Int) then (some (Go.bits .or .u64 x5_1 (shl .u64 (Int.tmod (IntKind.u64.wrap (bt a0 x12_1)) 128) (ji7)), a0.extract ((wrap64 (x12_1 + 1)) : Int).toNat a0.size, 0)) else (none)) else (none)))) else (if x12_1 = 9 then (if (IntKind.u64.wrap (bt a0 x12_1)) > 1 then ((pack_Take_1.f).bind fun bt110 => (some (bt110.1, bt110.2.1, bt110.2.2))) else (if 0 ≤ (wrap64 (x12_1 + 1)) then (if (wrap64 (x12_1 + 1)) ≤ (a0.size : Int) then (some (Go.bits .or .u64 x5_1 (shl .u64 (Int.tmod (IntKind.u64.wrap (bt a0 x12_1)) 128) (ji7)), a0.extract ((wrap64 (x12_1 + 1)) : Int).toNat a0.size, 0)) else (none)) else (none))) else (if 0 ≤ (wrap64 (x12_1 + 1)) then (if (wrap64 (x12_1 + 1)) ≤ (a0.size : Int) then (some (Go.bits .or .u64 x5_1 (shl .u64 (Int.tmod (IntKind.u64.wrap (bt a0 x12_1)) 128) (ji7)), a0.extract ((wrap64 (x12_1 + 1)) : Int).toNat a0.size, 0)) else (none)) else (none))))) else (none)) = some (r1, r2, r3) := by first | (rw [hji7] at H; exact H) | (simp only [hji7] at H ⊢; exact H)
            have hji7w : (IntKind.i64.wrap (7 * x12_1)) = ji7 := (i64_w _).trans hji7
            by_cases c8 : 0 ≤ (ji7)
            · rw [if_pos c8] at H
              have c8b0 := eq_true c8
              have c8b1 : decide (0 ≤ (ji7)) = true := decide_eq_true c8
              clear c8
              obtain ⟨ji9, hji9⟩ : ∃ j_ : Int, (shl .u64 (Int.tmod (IntKind.u64.wrap (bt a0 x12_1)) 128) (ji7)) = j_ := ⟨_, rfl⟩
              replace H : (if (IntKind.u64.wrap (bt a0 x12_1)) ≥ 128 then (pack_Take.l0 k1 a0 (Go.bits .or .u64 x5_1 (ji9)) ji2 (wrap64 (x12_1 + 1))) else (if x12_1 > 0 then (if (IntKind.u64.wrap (bt a0 x12_1)) = 0 then ((pack_Take_1.f).bind fun bt104 => (some (bt104.1, bt104.2.1, bt104.2.2))) else (if x12_1 = 9 then (if (IntKind.u64.wrap (bt a0 x12_1)) > 1 then ((pack_Take_1.f).bind fun bt107 => (some (bt107.1, bt107.2.1, bt107.2.2))) else (if 0 ≤ (wrap64 (x12_1 + 1)) then (if (wrap64 (x12_1 + 1)) ≤ (a0.size : Int) then (some (Go.bits .or .u64 x5_1 (ji9), a0.extract ((wrap64 (x12_1 + 1)) : Int).toNat a0.size, 0)) else (none)) else (none))) else (if 0 ≤ (wrap64 (x12_1 + 1)) then (if (wrap64 (x12_1 + 1)) ≤ (a0.size : Int) then (some (Go.bits .or .u64 x5_1 (ji9), a0.extract ((wrap64 (x12_1 + 1)) : Int).toNat a0.size, 0)) else (none)) else (none)))) else (if x12_1 = 9 then (if (IntKind.u64.wrap (bt a0 x12_1)) > 1 then ((pack_Take_1.f).bind fun bt110 => (some (bt110.1, bt110.2.1, bt110.2.2))) else (if 0 ≤ (wrap64 (x12_1 + 1)) then (if (wrap64 (x12_1 + 1)) ≤ (a0.size : Int) then (some (Go.bits .or .u64 x5_1 (ji9), a0.extract ((wrap64 (x12_1 + 1)) : Int).toNat a0.size, 0)) else (none)) else (none))) else (if 0 ≤ (wrap64 (x12_1 + 1)) then (if (wrap64 (x12_1 + 1)) ≤ (a0.size : Int) then (some (Go.bits .or .u64 x5_1 (ji9), a0.extract ((wrap64 (x12_1 + 1)) : Int).toNat a0.size, 0)) else (none)) else (none))))) = some (r1, r2, r3) := by first | (rw [hji9] at H; exact H) | (simp only [hji9] at H ⊢; exact H)
              have hji9_ : (IntKind.u64.wrap ((Int.tmod (IntKind.u64.wrap (bt a0 x12_1)) 128) * 2 ^ min (ji7).toNat 64)) = ji9 := hji9
              have hji9z : (ji7) ≤ 64 → (IntKind.u64.wrap ((Int.tmod (IntKind.u64.wrap (bt a0 x12_1)) 128) * 2 ^ (ji7).toNat)) = ji9 := shl_small hji9
              by_cases c10 : (IntKind.u64.wrap (bt a0 x12_1)) ≥ 128
              · rw [if_pos c10] at H
                have c10b0 : decide (128 ≤ (IntKind.u64.wrap (bt a0 x12_1))) = true := decide_eq_true c10
                clear c10
                have H' := Aside0.mk H
                clear H
                have p6 : 0 ≤ (x12_1 : Int) := of_decide_eq_true (by first | (with_reducible assumption) | assumption)
                have q6 : x12_1 < (a0.size : Int) := of_decide_eq_true (by first | (with_reducible assumption) | assumption)
                have hx6 := bt_at a0 x12_1
                replace p6 := eq_true p6
                replace q6 := eq_true q6
                go_wp2
                (repeat (go_step3; (try go_wp2)))
                repeat (go_quiet (fail); try go_wp2)
                go_roundg k1
                case measure => have := HK1.out; omega
                case rel => exact ⟨(Go.bits .or .u64 x5_1 (ji9)), (wrap64 (x12_1 + 1)), (by first | rfl | (simp; done) | (simp only [← hji9] <;> (first | rfl | simp)) | (simp [*]; done)), (by first | rfl | (simp; done) | (simp [*]; done)), H', ⟨by have := HK1.out; omega⟩, ⟨by repeat (first | (with_reducible first | exact HB.out | apply below_alloc | apply pw_below_drewN | apply below_drew1) | exact HB.out)⟩⟩
              · rw [if_neg c10] at H
                have c10b0 : decide (128 ≤ (IntKind.u64.wrap (bt a0 x12_1))) = false := decide_eq_false c10
                clear c10
                by_cases c11 : x12_1 > 0
                · rw [if_pos c11] at H
                  have c11b0 : decide (0 < x12_1) = true := decide_eq_true c11
                  clear c11
                  by_cases c12 : (IntKind.u64.wrap (bt a0 x12_1)) = 0
                  · rw [if_pos c12] at H
                    have c12b0 : ((IntKind.u64.wrap (bt a0 x12_1)) == 0) = true := beq_iff_eq.mpr c12
                    have c12b1 : ((IntKind.u64.wrap (bt a0 x12_1)) != 0) = false := bne_eq_false_iff_eq.mpr c12
                    clear c12
                    replace H := Option.bind_eq_some_iff.mp H
                    obtain ⟨⟨t104, t105, t106⟩, A130, H⟩ := H
                    replace H : (some (t104, t105, t106)) = some (r1, r2, r3) := H
                    have A13 := Aside0.mk A130
                    clear A130
                    simp only [Option.some.injEq, Prod.mk.injEq] at H
                    obtain ⟨rfl, rfl, rfl⟩ := H
                    have p6 : 0 ≤ (x12_1 : Int) := of_decide_eq_true (by first | (with_reducible assumption) | assumption)
                    have q6 : x12_1 < (a0.size : Int) := of_decide_eq_true (by first | (with_reducible assumption) | assumption)
                    have hx6 := bt_at a0 x12_1
                    replace p6 := eq_true p6
                    replace q6 := eq_true q6
                    go_wp2_with (first | (go_at_call 26; (with_reducible refine (pack_Take_1.calls  t104 t105 t106 _ A13.out).mono ?_); rintro e w' ⟨rfl, ⟨nd, rfl⟩⟩; (try first | exact ⟨rfl, _, World.drewN_drewN _ _ _⟩ | exact ⟨rfl, _, Eq.trans (World.drewN_drewN _ _ _) (congrArg (World.drewN _) (Nat.add_assoc _ _ _))⟩)))
                    (repeat (go_step3; (try go_wp2_with (first | (go_at_call 26; (with_reducible refine (pack_Take_1.calls  t104 t105 t106 _ A13.out).mono ?_); rintro e w' ⟨rfl, ⟨nd, rfl⟩⟩; (try first | exact ⟨rfl, _, World.drewN_drewN _ _ _⟩ | exact ⟨rfl, _, Eq.trans (World.drewN_drewN _ _ _) (congrArg (World.drewN _) (Nat.add_assoc _ _ _))⟩))))))
                    repeat (go_quiet (first | (go_at_call 26; (with_reducible refine (pack_Take_1.calls  t104 t105 t106 _ A13.out).mono ?_); rintro e w' ⟨rfl, ⟨nd, rfl⟩⟩; (try first | exact ⟨rfl, _, World.drewN_drewN _ _ _⟩ | exact ⟨rfl, _, Eq.trans (World.drewN_drewN _ _ _) (congrArg (World.drewN _) (Nat.add_assoc _ _ _))⟩))); try go_wp2_with (first | (go_at_call 26; (with_reducible refine (pack_Take_1.calls  t104 t105 t106 _ A13.out).mono ?_); rintro e w' ⟨rfl, ⟨nd, rfl⟩⟩; (try first | exact ⟨rfl, _, World.drewN_drewN _ _ _⟩ | exact ⟨rfl, _, Eq.trans (World.drewN_drewN _ _ _) (congrArg (World.drewN _) (Nat.add_assoc _ _ _))⟩))))
                    (try rw [Exit.noGoto_ret])
                    go_ret3
                    exact ⟨by first | rfl | (simp [errW_none, errW_some] <;> rfl) | (simp only [← hji2, ← hji7, ← hji9]; first | rfl | (simp [errW_none, errW_some] <;> rfl)) | (simp [*, errW_none, errW_some] <;> rfl), by repeat (first | (with_reducible first | exact HB.out | apply below_alloc | apply pw_below_drewN | apply below_drew1) | exact HB.out)⟩
                  · rw [if_neg c12] at H
                    have c12b0 : ((IntKind.u64.wrap (bt a0 x12_1)) == 0) = false := beq_eq_false_iff_ne.mpr c12
                    have c12b1 : ((IntKind.u64.wrap (bt a0 x12_1)) != 0) = true := bne_iff_ne.mpr c12
                    by_cases c14 : x12_1 = 9
                    · rw [if_pos c14] at H
                      have c14b0 : (x12_1 == 9) = true := beq_iff_eq.mpr c14
                      have c14b1 : (x12_1 != 9) = false := bne_eq_false_iff_eq.mpr c14
                      clear c14
                      by_cases c15 : (IntKind.u64.wrap (bt a0 x12_1)) > 1
                      · rw [if_pos c15] at H
                        have c15b0 : decide (1 < (IntKind.u64.wrap (bt a0 x12_1))) = true := decide_eq_true c15
                        clear c15
                        replace H := Option.bind_eq_some_iff.mp H
                        obtain ⟨⟨t107, t108, t109⟩, A160, H⟩ := H
                        replace H : (some (t107, t108, t109)) = some (r1, r2, r3) := H
                        have A16 := Aside0.mk A160
                        clear A160
                        simp only [Option.some.injEq, Prod.mk.injEq] at H
                        obtain ⟨rfl, rfl, rfl⟩ := H
                        have p6 : 0 ≤ (x12_1 : Int) := of_decide_eq_true (by first | (with_reducible assumption) | assumption)
                        have q6 : x12_1 < (a0.size : Int) := of_decide_eq_true (by first | (with_reducible assumption) | assumption)
                        have hx6 := bt_at a0 x12_1
                        replace p6 := eq_true p6
                        replace q6 := eq_true q6
                        go_wp2_with (first | (go_at_call 26; (with_reducible refine (pack_Take_1.calls  t107 t108 t109 _ A16.out).mono ?_); rintro e w' ⟨rfl, ⟨nd, rfl⟩⟩; (try first | exact ⟨rfl, _, World.drewN_drewN _ _ _⟩ | exact ⟨rfl, _, Eq.trans (World.drewN_drewN _ _ _) (congrArg (World.drewN _) (Nat.add_assoc _ _ _))⟩)))
                        (repeat (go_step3; (try go_wp2_with (first | (go_at_call 26; (with_reducible refine (pack_Take_1.calls  t107 t108 t109 _ A16.out).mono ?_); rintro e w' ⟨rfl, ⟨nd, rfl⟩⟩; (try first | exact ⟨rfl, _, World.drewN_drewN _ _ _⟩ | exact ⟨rfl, _, Eq.trans (World.drewN_drewN _ _ _) (congrArg (World.drewN _) (Nat.add_assoc _ _ _))⟩))))))
                        repeat (go_quiet (first | (go_at_call 26; (with_reducible refine (pack_Take_1.calls  t107 t108 t109 _ A16.out).mono ?_); rintro e w' ⟨rfl, ⟨nd, rfl⟩⟩; (try first | exact ⟨rfl, _, World.drewN_drewN _ _ _⟩ | exact ⟨rfl, _, Eq.trans (World.drewN_drewN _ _ _) (congrArg (World.drewN _) (Nat.add_assoc _ _ _))⟩))); try go_wp2_with (first | (go_at_call 26; (with_reducible refine (pack_Take_1.calls  t107 t108 t109 _ A16.out).mono ?_); rintro e w' ⟨rfl, ⟨nd, rfl⟩⟩; (try first | exact ⟨rfl, _, World.drewN_drewN _ _ _⟩ | exact ⟨rfl, _, Eq.trans (World.drewN_drewN _ _ _) (congrArg (World.drewN _) (Nat.add_assoc _ _ _))⟩))))
                        (try rw [Exit.noGoto_ret])
                        go_ret3
                        exact ⟨by first | rfl | (simp [errW_none, errW_some] <;> rfl) | (simp only [← hji2, ← hji7, ← hji9]; first | rfl | (simp [errW_none, errW_some] <;> rfl)) | (simp [*, errW_none, errW_some] <;> rfl), by repeat (first | (with_reducible first | exact HB.out | apply below_alloc | apply pw_below_drewN | apply below_drew1) | exact HB.out)⟩
                      · rw [if_neg c15] at H
                        have c15b0 : decide (1 < (IntKind.u64.wrap (bt a0 x12_1))) = false := decide_eq_false c15
                        clear c15
                        obtain ⟨ji17, hji17⟩ : ∃ j_ : Int, (wrap64 (x12_1 + 1)) = j_ := ⟨_, rfl⟩
                        replace H : (if 0 ≤ (ji17) then (if (ji17) ≤ (a0.size : Int) then (some (Go.bits .or .u64 x5_1 (ji9), a0.extract ((ji17) : Int).toNat a0.size, 0)) else (none)) else (none)) = some (r1, r2, r3) := by first | (rw [hji17] at H; exact H) | (simp only [hji17] at H ⊢; exact H)
                        have hji17w : (IntKind.i64.wrap (x12_1 + 1)) = ji17 := (i64_w _).trans hji17
                        by_cases c18 : 0 ≤ (ji17)
                        · rw [if_pos c18] at H
                          have c18b0 := eq_true c18
                          have c18b1 : decide (0 ≤ (ji17)) = true := decide_eq_true c18
                          clear c18
                          by_cases c19 : (ji17) ≤ (a0.size : Int)
                          · rw [if_pos c19] at H
                            have c19b0 := eq_true c19
                            have c19b1 : decide ((ji17) ≤ (a0.size : Int)) = true := decide_eq_true c19
                            clear c19
                            simp only [Option.some.injEq, Prod.mk.injEq] at H
                            obtain ⟨rfl, rfl, rfl⟩ := H
                            have p6 : 0 ≤ (x12_1 : Int) := of_decide_eq_true (by first | (with_reducible assumption) | assumption)
                            have q6 : x12_1 < (a0.size : Int) := of_decide_eq_true (by first | (with_reducible assumption) | assumption)
                            have hx6 := bt_at a0 x12_1
                            replace p6 := eq_true p6
                            replace q6 := eq_true q6
                            go_wp2
                            (repeat (go_step3; (try go_wp2)))
                            repeat (go_quiet (fail); try go_wp2)
                            (try rw [Exit.noGoto_ret])
                            go_ret3
                            exact ⟨by first | rfl | (simp [errW_none, errW_some] <;> rfl) | (simp only [← hji2, ← hji7, ← hji9, ← hji17]; first | rfl | (simp [errW_none, errW_some] <;> rfl)) | (simp [*, errW_none, errW_some] <;> rfl), by repeat (first | (with_reducible first | exact HB.out | apply below_alloc | apply pw_below_drewN | apply below_drew1) | exact HB.out)⟩
                          · rw [if_neg c19] at H
                            exact absurd H (by simp)
                        · rw [if_neg c18] at H
                          exact absurd H (by simp)
                    · rw [if_neg c14] at H
                      have c14b0 : (x12_1 == 9) = false := beq_eq_false_iff_ne.mpr c14
                      have c14b1 : (x12_1 != 9) = true := bne_iff_ne.mpr c14
                      obtain ⟨ji20, hji20⟩ : ∃ j_ : Int, (wrap64 (x12_1 + 1)) = j_ := ⟨_, rfl⟩
                      replace H : (if 0 ≤ (ji20) then (if (ji20) ≤ (a0.size : Int) then (some (Go.bits .or .u64 x5_1 (ji9), a0.extract ((ji20) : Int).toNat a0.size, 0)) else (none)) else (none)) = some (r1, r2, r3) := by first | (rw [hji20] at H; exact H) | (simp only [hji20] at H ⊢; exact H)
                      have hji20w : (IntKind.i64.wrap (x12_1 + 1)) = ji20 := (i64_w _).trans hji20
                      by_cases c21 : 0 ≤ (ji20)
                      · rw [if_pos c21] at H
                        have c21b0 := eq_true c21
                        have c21b1 : decide (0 ≤ (ji20)) = true := decide_eq_true c21
                        clear c21
                        by_cases c22 : (ji20) ≤ (a0.size : Int)
                        · rw [if_pos c22] at H
                          have c22b0 := eq_true c22
                          have c22b1 : decide ((ji20) ≤ (a0.size : Int)) = true := decide_eq_true c22
                          clear c22
                          simp only [Option.some.injEq, Prod.mk.injEq] at H
                          obtain ⟨rfl, rfl, rfl⟩ := H
                          have p6 : 0 ≤ (x12_1 : Int) := of_decide_eq_true (by first | (with_reducible assumption) | assumption)
                          have q6 : x12_1 < (a0.size : Int) := of_decide_eq_true (by first | (with_reducible assumption) | assumption)
                          have hx6 := bt_at a0 x12_1
                          replace p6 := eq_true p6
                          replace q6 := eq_true q6
                          go_wp2
                          (repeat (go_step3; (try go_wp2)))
                          repeat (go_quiet (fail); try go_wp2)
                          (try rw [Exit.noGoto_ret])
                          go_ret3
                          exact ⟨by first | rfl | (simp [errW_none, errW_some] <;> rfl) | (simp only [← hji2, ← hji7, ← hji9, ← hji20]; first | rfl | (simp [errW_none, errW_some] <;> rfl)) | (simp [*, errW_none, errW_some] <;> rfl), by repeat (first | (with_reducible first | exact HB.out | apply below_alloc | apply pw_below_drewN | apply below_drew1) | exact HB.out)⟩
                        · rw [if_neg c22] at H
                          exact absurd H (by simp)
                      · rw [if_neg c21] at H
                        exact absurd H (by simp)
                · rw [if_neg c11] at H
                  have c11b0 : decide (0 < x12_1) = false := decide_eq_false c11
                  clear c11
                  by_cases c23 : x12_1 = 9
                  · rw [if_pos c23] at H
                    have c23b0 : (x12_1 == 9) = true := beq_iff_eq.mpr c23
                    have c23b1 : (x12_1 != 9) = false := bne_eq_false_iff_eq.mpr c23
                    clear c23
                    by_cases c24 : (IntKind.u64.wrap (bt a0 x12_1)) > 1
                    · rw [if_pos c24] at H
                      have c24b0 : decide (1 < (IntKind.u64.wrap (bt a0 x12_1))) = true := decide_eq_true c24
                      clear c24
                      replace H := Option.bind_eq_some_iff.mp H
                      obtain ⟨⟨t110, t111, t112⟩, A250, H⟩ := H
                      replace H : (some (t110, t111, t112)) = some (r1, r2, r3) := H
                      have A25 := Aside0.mk A250
                      clear A250
                      simp only [Option.some.injEq, Prod.mk.injEq] at H
                      obtain ⟨rfl, rfl, rfl⟩ := H
                      have p6 : 0 ≤ (x12_1 : Int) := of_decide_eq_true (by first | (with_reducible assumption) | assumption)
                      have q6 : x12_1 < (a0.size : Int) := of_decide_eq_true (by first | (with_reducible assumption) | assumption)
                      have hx6 := bt_at a0 x12_1
                      replace p6 := eq_true p6
                      replace q6 := eq_true q6
                      go_wp2_with (first | (go_at_call 26; (with_reducible refine (pack_Take_1.calls  t110 t111 t112 _ A25.out).mono ?_); rintro e w' ⟨rfl, ⟨nd, rfl⟩⟩; (try first | exact ⟨rfl, _, World.drewN_drewN _ _ _⟩ | exact ⟨rfl, _, Eq.trans (World.drewN_drewN _ _ _) (congrArg (World.drewN _) (Nat.add_assoc _ _ _))⟩)))
                      (repeat (go_step3; (try go_wp2_with (first | (go_at_call 26; (with_reducible refine (pack_Take_1.calls  t110 t111 t112 _ A25.out).mono ?_); rintro e w' ⟨rfl, ⟨nd, rfl⟩⟩; (try first | exact ⟨rfl, _, World.drewN_drewN _ _ _⟩ | exact ⟨rfl, _, Eq.trans (World.drewN_drewN _ _ _) (congrArg (World.drewN _) (Nat.add_assoc _ _ _))⟩))))))
                      repeat (go_quiet (first | (go_at_call 26; (with_reducible refine (pack_Take_1.calls  t110 t111 t112 _ A25.out).mono ?_); rintro e w' ⟨rfl, ⟨nd, rfl⟩⟩; (try first | exact ⟨rfl, _, World.drewN_drewN _ _ _⟩ | exact ⟨rfl, _, Eq.trans (World.drewN_drewN _ _ _) (congrArg (World.drewN _) (Nat.add_assoc _ _ _))⟩))); try go_wp2_with (first | (go_at_call 26; (with_reducible refine (pack_Take_1.calls  t110 t111 t112 _ A25.out).mono ?_); rintro e w' ⟨rfl, ⟨nd, rfl⟩⟩; (try first | exact ⟨rfl, _, World.drewN_drewN _ _ _⟩ | exact ⟨rfl, _, Eq.trans (World.drewN_drewN _ _ _) (congrArg (World.drewN _) (Nat.add_assoc _ _ _))⟩))))
                      (try rw [Exit.noGoto_ret])
                      go_ret3
                      exact ⟨by first | rfl | (simp [errW_none, errW_some] <;> rfl) | (simp only [← hji2, ← hji7, ← hji9]; first | rfl | (simp [errW_none, errW_some] <;> rfl)) | (simp [*, errW_none, errW_some] <;> rfl), by repeat (first | (with_reducible first | exact HB.out | apply below_alloc | apply pw_below_drewN | apply below_drew1) | exact HB.out)⟩
                    · rw [if_neg c24] at H
                      have c24b0 : decide (1 < (IntKind.u64.wrap (bt a0 x12_1))) = false := decide_eq_false c24
                      clear c24
                      obtain ⟨ji26, hji26⟩ : ∃ j_ : Int, (wrap64 (x12_1 + 1)) = j_ := ⟨_, rfl⟩
                      replace H : (if 0 ≤ (ji26) then (if (ji26) ≤ (a0.size : Int) then (some (Go.bits .or .u64 x5_1 (ji9), a0.extract ((ji26) : Int).toNat a0.size, 0)) else (none)) else (none)) = some (r1, r2, r3) := by first | (rw [hji26] at H; exact H) | (simp only [hji26] at H ⊢; exact H)
                      have hji26w : (IntKind.i64.wrap (x12_1 + 1)) = ji26 := (i64_w _).trans hji26
                      by_cases c27 : 0 ≤ (ji26)
                      · rw [if_pos c27] at H
                        have c27b0 := eq_true c27
                        have c27b1 : decide (0 ≤ (ji26)) = true := decide_eq_true c27
                        clear c27
                        by_cases c28 : (ji26) ≤ (a0.size : Int)
                        · rw [if_pos c28] at H
                          have c28b0 := eq_true c28
                          have c28b1 : decide ((ji26) ≤ (a0.size : Int)) = true := decide_eq_true c28
                          clear c28
                          simp only [Option.some.injEq, Prod.mk.injEq] at H
                          obtain ⟨rfl, rfl, rfl⟩ := H
                          have p6 : 0 ≤ (x12_1 : Int) := of_decide_eq_true (by first | (with_reducible assumption) | assumption)
                          have q6 : x12_1 < (a0.size : Int) := of_decide_eq_true (by first | (with_reducible assumption) | assumption)
                          have hx6 := bt_at a0 x12_1
                          replace p6 := eq_true p6
                          replace q6 := eq_true q6
                          go_wp2
                          (repeat (go_step3; (try go_wp2)))
                          repeat (go_quiet (fail); try go_wp2)
                          (try rw [Exit.noGoto_ret])
                          go_ret3
                          exact ⟨by first | rfl | (simp [errW_none, errW_some] <;> rfl) | (simp only [← hji2, ← hji7, ← hji9, ← hji26]; first | rfl | (simp [errW_none, errW_some] <;> rfl)) | (simp [*, errW_none, errW_some] <;> rfl), by repeat (first | (with_reducible first | exact HB.out | apply below_alloc | apply pw_below_drewN | apply below_drew1) | exact HB.out)⟩
                        · rw [if_neg c28] at H
                          exact absurd H (by simp)
                      · rw [if_neg c27] at H
                        exact absurd H (by simp)
                  · rw [if_neg c23] at H
                    have c23b0 : (x12_1 == 9) = false := beq_eq_false_iff_ne.mpr c23
                    have c23b1 : (x12_1 != 9) = true := bne_iff_ne.mpr c23
                    obtain ⟨ji29, hji29⟩ : ∃ j_ : Int, (wrap64 (x12_1 + 1)) = j_ := ⟨_, rfl⟩
                    replace H : (if 0 ≤ (ji29) then (if (ji29) ≤ (a0.size : Int) then (some (Go.bits .or .u64 x5_1 (ji9), a0.extract ((ji29) : Int).toNat a0.size, 0)) else (none)) else (none)) = some (r1, r2, r3) := by first | (rw [hji29] at H; exact H) | (simp only [hji29] at H ⊢; exact H)
                    have hji29w : (IntKind.i64.wrap (x12_1 + 1)) = ji29 := (i64_w _).trans hji29
                    by_cases c30 : 0 ≤ (ji29)
                    · rw [if_pos c30] at H
                      have c30b0 := eq_true c30
                      have c30b1 : decide (0 ≤ (ji29)) = true := decide_eq_true c30
                      clear c30
                      by_cases c31 : (ji29) ≤ (a0.size : Int)
                      · rw [if_pos c31] at H
                        have c31b0 := eq_true c31
                        have c31b1 : decide ((ji29) ≤ (a0.size : Int)) = true := decide_eq_true c31
                        clear c31
                        simp only [Option.some.injEq, Prod.mk.injEq] at H
                        obtain ⟨rfl, rfl, rfl⟩ := H
                        have p6 : 0 ≤ (x12_1 : Int) := of_decide_eq_true (by first | (with_reducible assumption) | assumption)
                        have q6 : x12_1 < (a0.size : Int) := of_decide_eq_true (by first | (with_reducible assumption) | assumption)
                        have hx6 := bt_at a0 x12_1
                        replace p6 := eq_true p6
                        replace q6 := eq_true q6
                        go_wp2
                        (repeat (go_step3; (try go_wp2)))
                        repeat (go_quiet (fail); try go_wp2)
                        (try rw [Exit.noGoto_ret])
                        go_ret3
                        exact ⟨by first | rfl | (simp [errW_none, errW_some] <;> rfl) | (simp only [← hji2, ← hji7, ← hji9, ← hji29]; first | rfl | (simp [errW_none, errW_some] <;> rfl)) | (simp [*, errW_none, errW_some] <;> rfl), by repeat (first | (with_reducible first | exact HB.out | apply below_alloc | apply pw_below_drewN | apply below_drew1) | exact HB.out)⟩
                      · rw [if_neg c31] at H
                        exact absurd H (by simp)
                    · rw [if_neg c30] at H
                      exact absurd H (by simp)
            · rw [if_neg c8] at H
              exact absurd H (by simp)
          · rw [if_neg c5] at H
            exact absurd H (by simp)
        · rw [if_neg c4] at H
          exact absurd H (by simp)
      · rw [if_neg c3] at H
        have c3b0 : decide (x12_1 < ji2) = false := decide_eq_false c3
        clear c3
        replace H := Option.bind_eq_some_iff.mp H
        obtain ⟨⟨t101, t102, t103⟩, A320, H⟩ := H
        replace H : (some (t101, t102, t103)) = some (r1, r2, r3) := H
        have A32 := Aside0.mk A320
        clear A320
        simp only [Option.some.injEq, Prod.mk.injEq] at H
        obtain ⟨rfl, rfl, rfl⟩ := H
        go_wp2_with (first | (go_at_call 26; (with_reducible refine (pack_Take_1.calls  t101 t102 t103 _ A32.out).mono ?_); rintro e w' ⟨rfl, ⟨nd, rfl⟩⟩; (try first | exact ⟨rfl, _, World.drewN_drewN _ _ _⟩ | exact ⟨rfl, _, Eq.trans (World.drewN_drewN _ _ _) (congrArg (World.drewN _) (Nat.add_assoc _ _ _))⟩)))
        (repeat (go_step3; (try go_wp2_with (first | (go_at_call 26; (with_reducible refine (pack_Take_1.calls  t101 t102 t103 _ A32.out).mono ?_); rintro e w' ⟨rfl, ⟨nd, rfl⟩⟩; (try first | exact ⟨rfl, _, World.drewN_drewN _ _ _⟩ | exact ⟨rfl, _, Eq.trans (World.drewN_drewN _ _ _) (congrArg (World.drewN _) (Nat.add_assoc _ _ _))⟩))))))
        repeat (go_quiet (first | (go_at_call 26; (with_reducible refine (pack_Take_1.calls  t101 t102 t103 _ A32.out).mono ?_); rintro e w' ⟨rfl, ⟨nd, rfl⟩⟩; (try first | exact ⟨rfl, _, World.drewN_drewN _ _ _⟩ | exact ⟨rfl, _, Eq.trans (World.drewN_drewN _ _ _) (congrArg (World.drewN _) (Nat.add_assoc _ _ _))⟩))); try go_wp2_with (first | (go_at_call 26; (with_reducible refine (pack_Take_1.calls  t101 t102 t103 _ A32.out).mono ?_); rintro e w' ⟨rfl, ⟨nd, rfl⟩⟩; (try first | exact ⟨rfl, _, World.drewN_drewN _ _ _⟩ | exact ⟨rfl, _, Eq.trans (World.drewN_drewN _ _ _) (congrArg (World.drewN _) (Nat.add_assoc _ _ _))⟩))))
        (try rw [Exit.noGoto_ret])
        go_ret3
        exact ⟨by first | rfl | (simp [errW_none, errW_some] <;> rfl) | (simp only [← hji2]; first | rfl | (simp [errW_none, errW_some] <;> rfl)) | (simp [*, errW_none, errW_some] <;> rfl), by repeat (first | (with_reducible first | exact HB.out | apply below_alloc | apply pw_below_drewN | apply below_drew1) | exact HB.out)⟩

/-! ### pack_TakeText: function 13 -/
def pack_TakeText.f (k : Nat) (a0 : ByteArray) : Option (ByteArray × ByteArray × Int) := (pack_Take.f k a0).bind fun bt113 => (if bt113.2.2 = 0 then (if bt113.1 > (IntKind.u64.wrap ((bt113.2.1.size : Int))) then (some ((⟨#[]⟩ : ByteArray), (⟨#[]⟩ : ByteArray), 70)) else (if 0 ≤ bt113.1 then (if bt113.1 ≤ (bt113.2.1.size : Int) then (some (bt113.2.1.extract 0 (bt113.1 : Int).toNat, bt113.2.1.extract (bt113.1 : Int).toNat bt113.2.1.size, 0)) else (none)) else (none))) else (some ((⟨#[]⟩ : ByteArray), (⟨#[]⟩ : ByteArray), 70)))
theorem pack_TakeText.mono : ∀ a0 k, LeO (pack_TakeText.f k a0) (pack_TakeText.f (k + 1) a0) := by
  intro a0 k
  unfold pack_TakeText.f
  repeat' first
      | (with_reducible exact pack_Take.mono _ _)
      | (with_reducible exact LeO.refl _)
      | (with_reducible exact LeO.none _)
      | (with_reducible refine LeO.ite ?_ ?_)
      | (with_reducible refine LeO.bind ?_ (fun _ => ?_))
      | exact pack_Take.mono _ _
      | exact LeO.none _
      | refine LeO.ite ?_ ?_
      | refine LeO.bind ?_ (fun _ => ?_)
set_option maxHeartbeats 8000000 in
set_option maxRecDepth 100000 in
theorem pack_TakeText.calls (k : Nat) (a0 : ByteArray) (r1 : ByteArray) (r2 : ByteArray) (r3 : Int) (w : World) (h : pack_TakeText.f k a0 = some (r1, r2, r3)) :
    Calls Try.prog 13 #[.string a0] w fun e w' => e = .returned (.tuple #[.string r1, .string r2, .int .i64 r3]) ∧ Below w.heap.size w w' := by
  have HB := Aside0.mk (Below.refl w.heap.size w)
  have H : ((pack_Take.f k a0).bind fun bt113 => (if bt113.2.2 = 0 then (if bt113.1 > (IntKind.u64.wrap ((bt113.2.1.size : Int))) then (some ((⟨#[]⟩ : ByteArray), (⟨#[]⟩ : ByteArray), 70)) else (if 0 ≤ bt113.1 then (if bt113.1 ≤ (bt113.2.1.size : Int) then (some (bt113.2.1.extract 0 (bt113.1 : Int).toNat, bt113.2.1.extract (bt113.1 : Int).toNat bt113.2.1.size, 0)) else (none)) else (none))) else (some ((⟨#[]⟩ : ByteArray), (⟨#[]⟩ : ByteArray), 70)))) = some (r1, r2, r3) := h
  clear h
  replace H := Option.bind_eq_some_iff.mp H
  obtain ⟨⟨t113, t114, t115⟩, A20, H⟩ := H
  replace H : (if t115 = 0 then (if t113 > (IntKind.u64.wrap ((t114.size : Int))) then (some ((⟨#[]⟩ : ByteArray), (⟨#[]⟩ : ByteArray), 70)) else (if 0 ≤ t113 then (if t113 ≤ (t114.size : Int) then (some (t114.extract 0 (t113 : Int).toNat, t114.extract (t113 : Int).toNat t114.size, 0)) else (none)) else (none))) else (some ((⟨#[]⟩ : ByteArray), (⟨#[]⟩ : ByteArray), 70))) = some (r1, r2, r3) := H
  have A2 := Aside0.mk A20
  clear A20
  by_cases c3 : t115 = 0
  · rw [if_pos c3] at H
    have c3b0 : (t115 == 0) = true := beq_iff_eq.mpr c3
    have c3b1 : (t115 != 0) = false := bne_eq_false_iff_eq.mpr c3
    clear c3
    by_cases c4 : t113 > (IntKind.u64.wrap ((t114.size : Int)))
    · rw [if_pos c4] at H
      have c4b0 : decide ((IntKind.u64.wrap ((t114.size : Int))) < t113) = true := decide_eq_true c4
      clear c4
      simp only [Option.some.injEq, Prod.mk.injEq] at H
      obtain ⟨rfl, rfl, rfl⟩ := H
      go_enter Try.func13, Try.ntmps13
      go_wp2_with (first | (go_at_call 11; (with_reducible refine (pack_Take.calls k a0 t113 t114 t115 _ A2.out).mono ?_); rintro e w5 ⟨rfl, hb⟩; have n0_ := Aside0.mk (below_step (by repeat (first | (with_reducible first | exact HB.out | apply below_alloc | apply pw_below_drewN | apply below_drew1) | exact HB.out)) hb); clear HB; have HB := n0_; clear n0_; (try clear hb); (try clear hb2); (try clear hk); (try clear hi)))
      repeat (go_quiet (first | (go_at_call 11; (with_reducible refine (pack_Take.calls k a0 t113 t114 t115 _ A2.out).mono ?_); rintro e w5 ⟨rfl, hb⟩; have n0_ := Aside0.mk (below_step (by repeat (first | (with_reducible first | exact HB.out | apply below_alloc | apply pw_below_drewN | apply below_drew1) | exact HB.out)) hb); clear HB; have HB := n0_; clear n0_; (try clear hb); (try clear hb2); (try clear hk); (try clear hi))); try go_wp2_with (first | (go_at_call 11; (with_reducible refine (pack_Take.calls k a0 t113 t114 t115 _ A2.out).mono ?_); rintro e w5 ⟨rfl, hb⟩; have n0_ := Aside0.mk (below_step (by repeat (first | (with_reducible first | exact HB.out | apply below_alloc | apply pw_below_drewN | apply below_drew1) | exact HB.out)) hb); clear HB; have HB := n0_; clear n0_; (try clear hb); (try clear hb2); (try clear hk); (try clear hi))))
      go_ret3
      exact ⟨by first | rfl | (simp [errW_none, errW_some] <;> rfl) | (simp [*, errW_none, errW_some] <;> rfl), by repeat (first | (with_reducible first | exact HB.out | apply below_alloc | apply pw_below_drewN | apply below_drew1) | exact HB.out)⟩
    · rw [if_neg c4] at H
      have c4b0 : decide ((IntKind.u64.wrap ((t114.size : Int))) < t113) = false := decide_eq_false c4
      clear c4
      by_cases c6 : 0 ≤ t113
      · rw [if_pos c6] at H
        have c6b0 := eq_true c6
        have c6b1 : decide (0 ≤ t113) = true := decide_eq_true c6
        clear c6
        by_cases c7 : t113 ≤ (t114.size : Int)
        · rw [if_pos c7] at H
          have c7b0 := eq_true c7
          have c7b1 : decide (t113 ≤ (t114.size : Int)) = true := decide_eq_true c7
          clear c7
          have c8b0 := eq_true (of_decide_eq_true (by first | (with_reducible assumption) | assumption) : 0 ≤ t113)
          have c9b0 := eq_true (of_decide_eq_true (by first | (with_reducible assumption) | assumption) : t113 ≤ (t114.size : Int))
          simp only [Option.some.injEq, Prod.mk.injEq] at H
          obtain ⟨rfl, rfl, rfl⟩ := H
          go_enter Try.func13, Try.ntmps13
          go_wp2_with (first | (go_at_call 11; (with_reducible refine (pack_Take.calls k a0 t113 t114 t115 _ A2.out).mono ?_); rintro e w10 ⟨rfl, hb⟩; have n0_ := Aside0.mk (below_step (by repeat (first | (with_reducible first | exact HB.out | apply below_alloc | apply pw_below_drewN | apply below_drew1) | exact HB.out)) hb); clear HB; have HB := n0_; clear n0_; (try clear hb); (try clear hb2); (try clear hk); (try clear hi)))
          repeat (go_quiet (first | (go_at_call 11; (with_reducible refine (pack_Take.calls k a0 t113 t114 t115 _ A2.out).mono ?_); rintro e w10 ⟨rfl, hb⟩; have n0_ := Aside0.mk (below_step (by repeat (first | (with_reducible first | exact HB.out | apply below_alloc | apply pw_below_drewN | apply below_drew1) | exact HB.out)) hb); clear HB; have HB := n0_; clear n0_; (try clear hb); (try clear hb2); (try clear hk); (try clear hi))); try go_wp2_with (first | (go_at_call 11; (with_reducible refine (pack_Take.calls k a0 t113 t114 t115 _ A2.out).mono ?_); rintro e w10 ⟨rfl, hb⟩; have n0_ := Aside0.mk (below_step (by repeat (first | (with_reducible first | exact HB.out | apply below_alloc | apply pw_below_drewN | apply below_drew1) | exact HB.out)) hb); clear HB; have HB := n0_; clear n0_; (try clear hb); (try clear hb2); (try clear hk); (try clear hi))))
          go_ret3
          exact ⟨by first | rfl | (simp [errW_none, errW_some] <;> rfl) | (simp [*, errW_none, errW_some] <;> rfl), by repeat (first | (with_reducible first | exact HB.out | apply below_alloc | apply pw_below_drewN | apply below_drew1) | exact HB.out)⟩
        · rw [if_neg c7] at H
          exact absurd H (by simp)
      · rw [if_neg c6] at H
        exact absurd H (by simp)
  · rw [if_neg c3] at H
    have c3b0 : (t115 == 0) = false := beq_eq_false_iff_ne.mpr c3
    have c3b1 : (t115 != 0) = true := bne_iff_ne.mpr c3
    simp only [Option.some.injEq, Prod.mk.injEq] at H
    obtain ⟨rfl, rfl, rfl⟩ := H
    go_enter Try.func13, Try.ntmps13
    go_wp2_with (first | (go_at_call 11; (with_reducible refine (pack_Take.calls k a0 t113 t114 t115 _ A2.out).mono ?_); rintro e w11 ⟨rfl, hb⟩; have n0_ := Aside0.mk (below_step (by repeat (first | (with_reducible first | exact HB.out | apply below_alloc | apply pw_below_drewN | apply below_drew1) | exact HB.out)) hb); clear HB; have HB := n0_; clear n0_; (try clear hb); (try clear hb2); (try clear hk); (try clear hi)))
    repeat (go_quiet (first | (go_at_call 11; (with_reducible refine (pack_Take.calls k a0 t113 t114 t115 _ A2.out).mono ?_); rintro e w11 ⟨rfl, hb⟩; have n0_ := Aside0.mk (below_step (by repeat (first | (with_reducible first | exact HB.out | apply below_alloc | apply pw_below_drewN | apply below_drew1) | exact HB.out)) hb); clear HB; have HB := n0_; clear n0_; (try clear hb); (try clear hb2); (try clear hk); (try clear hi))); try go_wp2_with (first | (go_at_call 11; (with_reducible refine (pack_Take.calls k a0 t113 t114 t115 _ A2.out).mono ?_); rintro e w11 ⟨rfl, hb⟩; have n0_ := Aside0.mk (below_step (by repeat (first | (with_reducible first | exact HB.out | apply below_alloc | apply pw_below_drewN | apply below_drew1) | exact HB.out)) hb); clear HB; have HB := n0_; clear n0_; (try clear hb); (try clear hb2); (try clear hk); (try clear hi))))
    go_ret3
    exact ⟨by first | rfl | (simp [errW_none, errW_some] <;> rfl) | (simp [*, errW_none, errW_some] <;> rfl), by repeat (first | (with_reducible first | exact HB.out | apply below_alloc | apply pw_below_drewN | apply below_drew1) | exact HB.out)⟩

/-! ### pack_TakeTexts: function 15 -/
mutual
def pack_TakeTexts.j0 : Nat → List ByteArray → ByteArray → Int → Bool → Option (List ByteArray × ByteArray × Int)
  | 0, _, _, _, _ => none
  | k + 1, x2, x3, x5, x23 => if x23 = true then (some (([] : List ByteArray), (⟨#[]⟩ : ByteArray), 70)) else (pack_TakeTexts.l0 k x2 x3 x5 0)
def pack_TakeTexts.l0 : Nat → List ByteArray → ByteArray → Int → Int → Option (List ByteArray × ByteArray × Int)
  | 0, _, _, _, _ => none
  | k + 1, x2, x3, x24, x25 => if x25 < x24 then ((pack_TakeText.f k x3).bind fun bt119 => (if bt119.2.2 = 0 then (if x2.length < 8796093022208 then (pack_TakeTexts.l0 k (x2 ++ [bt119.1]) bt119.2.1 x24 (IntKind.u64.wrap (x25 + 1))) else (none)) else (some (([] : List ByteArray), (⟨#[]⟩ : ByteArray), bt119.2.2)))) else (some (x2, x3, 0))
end
def pack_TakeTexts.f (k : Nat) (a0 : ByteArray) : Option (List ByteArray × ByteArray × Int) := (pack_Take.f k a0).bind fun bt116 => (if bt116.2.2 = 0 then (pack_TakeTexts.j0 k ([] : List ByteArray) bt116.2.1 bt116.1 (decide (bt116.1 > (IntKind.u64.wrap ((bt116.2.1.size : Int)))))) else (pack_TakeTexts.j0 k ([] : List ByteArray) bt116.2.1 bt116.1 true))
theorem pack_TakeTexts.mono_l : ∀ k, (∀ y0 y1 y2 y3, LeO (pack_TakeTexts.j0 k y0 y1 y2 y3) (pack_TakeTexts.j0 (k + 1) y0 y1 y2 y3)) ∧ (∀ y0 y1 y2 y3, LeO (pack_TakeTexts.l0 k y0 y1 y2 y3) (pack_TakeTexts.l0 (k + 1) y0 y1 y2 y3))
  | 0 => ⟨fun _ _ _ _ r h => by simp [pack_TakeTexts.j0] at h, fun _ _ _ _ r h => by simp [pack_TakeTexts.l0] at h⟩
  | k + 1 => by
    obtain ⟨ih0, ih1⟩ := pack_TakeTexts.mono_l k
    refine ⟨?_, ?_⟩
    · intro y0 y1 y2 y3
      unfold pack_TakeTexts.j0
      repeat' first
      | (with_reducible exact ih0 _ _ _ _)
      | (with_reducible exact ih1 _ _ _ _)
      | (with_reducible exact pack_Take.mono _ _)
      | (with_reducible exact pack_TakeText.mono _ _)
      | (with_reducible exact LeO.refl _)
      | (with_reducible exact LeO.none _)
      | (with_reducible refine LeO.ite ?_ ?_)
      | (with_reducible refine LeO.bind ?_ (fun _ => ?_))
      | exact ih0 _ _ _ _
      | exact ih1 _ _ _ _
      | exact pack_Take.mono _ _
      | exact pack_TakeText.mono _ _
      | exact LeO.none _
      | refine LeO.ite ?_ ?_
      | refine LeO.bind ?_ (fun _ => ?_)
    · intro y0 y1 y2 y3
      unfold pack_TakeTexts.l0
      repeat' first
      | (with_reducible exact ih0 _ _ _ _)
      | (with_reducible exact ih1 _ _ _ _)
      | (with_reducible exact pack_Take.mono _ _)
      | (with_reducible exact pack_TakeText.mono _ _)
      | (with_reducible exact LeO.refl _)
      | (with_reducible exact LeO.none _)
      | (with_reducible refine LeO.ite ?_ ?_)
      | (with_reducible refine LeO.bind ?_ (fun _ => ?_))
      | exact ih0 _ _ _ _
      | exact ih1 _ _ _ _
      | exact pack_Take.mono _ _
      | exact pack_TakeText.mono _ _
      | exact LeO.none _
      | refine LeO.ite ?_ ?_
      | refine LeO.bind ?_ (fun _ => ?_)
theorem pack_TakeTexts.mono : ∀ a0 k, LeO (pack_TakeTexts.f k a0) (pack_TakeTexts.f (k + 1) a0) := by
  intro a0 k
  obtain ⟨ih0, ih1⟩ := pack_TakeTexts.mono_l k
  unfold pack_TakeTexts.f
  repeat' first
      | (with_reducible exact ih0 _ _ _ _)
      | (with_reducible exact ih1 _ _ _ _)
      | (with_reducible exact pack_Take.mono _ _)
      | (with_reducible exact pack_TakeText.mono _ _)
      | (with_reducible exact LeO.refl _)
      | (with_reducible exact LeO.none _)
      | (with_reducible refine LeO.ite ?_ ?_)
      | (with_reducible refine LeO.bind ?_ (fun _ => ?_))
      | exact ih0 _ _ _ _
      | exact ih1 _ _ _ _
      | exact pack_Take.mono _ _
      | exact pack_TakeText.mono _ _
      | exact LeO.none _
      | refine LeO.ite ?_ ?_
      | refine LeO.bind ?_ (fun _ => ?_)
set_option maxHeartbeats 8000000 in
set_option maxRecDepth 100000 in
theorem pack_TakeTexts.calls (k : Nat) (a0 : ByteArray) (r1 : List ByteArray) (r2 : ByteArray) (r3 : Int) (w : World) (h : pack_TakeTexts.f k a0 = some (r1, r2, r3)) :
    Calls Try.prog 15 #[.string a0] w fun e w' => ∃ v0_ : Value, e = .returned (.tuple #[v0_, .string r2, .int .i64 r3]) ∧ Kd.R Kd.string 9 w' w.heap.size (fun _ => True) v0_ r1 ∧ Below w.heap.size w w' := by
  have HB := Aside0.mk (Below.refl w.heap.size w)
  have H : ((pack_Take.f k a0).bind fun bt116 => (if bt116.2.2 = 0 then (pack_TakeTexts.j0 k ([] : List ByteArray) bt116.2.1 bt116.1 (decide (bt116.1 > (IntKind.u64.wrap ((bt116.2.1.size : Int)))))) else (pack_TakeTexts.j0 k ([] : List ByteArray) bt116.2.1 bt116.1 true))) = some (r1, r2, r3) := h
  clear h
  replace H := Option.bind_eq_some_iff.mp H
  obtain ⟨⟨t116, t117, t118⟩, A20, H⟩ := H
  replace H : (if t118 = 0 then (pack_TakeTexts.j0 k ([] : List ByteArray) t117 t116 (decide (t116 > (IntKind.u64.wrap ((t117.size : Int)))))) else (pack_TakeTexts.j0 k ([] : List ByteArray) t117 t116 true)) = some (r1, r2, r3) := H
  have A2 := Aside0.mk A20
  clear A20
  have HC3 := Aside0.mk H
  clear H
  go_enter Try.func15, Try.ntmps15
  go_upto_region 2 with (first | ((with_reducible refine gate_callee (f := 11) rfl ?_); refine goesL_ (some 11) rfl rfl Try.func11 (by kernel_rfl) rfl #[.string a0] rfl (by (try simp only [List.map_toArray, List.map_cons, List.map_nil]); first | done | rfl | (simp only [List.length_drop, List.length_take]; rfl)) ?_; (with_reducible refine (pack_Take.calls k a0 t116 t117 t118 _ A2.out).mono ?_); rintro e w4 ⟨rfl, hb⟩; refine ⟨_, rfl, ?_⟩; have n0_ := Aside0.mk (below_step (by repeat (first | (with_reducible first | exact HB.out | apply below_alloc | apply pw_below_drewN | apply below_drew1) | exact HB.out)) hb); clear HB; have HB := n0_; clear n0_; (try clear hb); (try clear hb2); (try clear hk); (try clear hi)) | (go_at_call 11; (with_reducible refine (pack_Take.calls k a0 t116 t117 t118 _ A2.out).mono ?_); rintro e w4 ⟨rfl, hb⟩; have n0_ := Aside0.mk (below_step (by repeat (first | (with_reducible first | exact HB.out | apply below_alloc | apply pw_below_drewN | apply below_drew1) | exact HB.out)) hb); clear HB; have HB := n0_; clear n0_; (try clear hb); (try clear hb2); (try clear hk); (try clear hi)))
  (try simp only [Act.put, List.setIfInBounds_toArray, List.set_cons_zero, List.set_cons_succ])
  go_cut [23] (fun v23 wc => ∃ (kq : Nat) (x23_2 : Bool), v23 = .bool x23_2 ∧ Aside0 (pack_TakeTexts.j0 kq ([] : List ByteArray) t117 t116 x23_2 = some (r1, r2, r3)) ∧ Aside0 (kq ≤ k) ∧ Aside0 (Kd.R Kd.string 9 wc w.heap.size (fun _ => True) (.slice none 0 0) ([] : List ByteArray)) ∧ Aside0 (Below w.heap.size w wc))
  case first =>
    have H := HC3.out
    clear HC3
    by_cases c5 : t118 = 0
    · rw [if_pos c5] at H
      have c5b0 : (t118 == 0) = true := beq_iff_eq.mpr c5
      have c5b1 : (t118 != 0) = false := bne_eq_false_iff_eq.mpr c5
      clear c5
      (first | rw [c5b0] | (simp only [i64_w, i32_w]; rw [c5b0]) | skip)
      have H' := Aside0.mk H
      clear H
      go_wp2
      go_meet
      case rel => exact ⟨_, (decide (t116 > (IntKind.u64.wrap ((t117.size : Int))))), (by first | rfl | (simp; done) | (simp [*]; done)), H', ⟨by first | omega | exact Nat.le_refl _⟩, ⟨by first | exact Kd.R_nil _ _ _ _ _ | exact Kd.N_nil _ _ _ _ _ | exact Kd.V_nil _ _ _ _ _ | exact Kd.Q_nil _ _ _ _ _ | exact Kd.S_nil _ _ _ _ _⟩, ⟨by repeat (first | (with_reducible first | exact HB.out | apply below_alloc | apply pw_below_drewN | apply below_drew1) | exact HB.out)⟩⟩
    · rw [if_neg c5] at H
      have c5b0 : (t118 == 0) = false := beq_eq_false_iff_ne.mpr c5
      have c5b1 : (t118 != 0) = true := bne_iff_ne.mpr c5
      (first | rw [c5b0] | (simp only [i64_w, i32_w]; rw [c5b0]) | skip)
      have H' := Aside0.mk H
      clear H
      go_wp2
      go_meet
      case rel => exact ⟨_, (true), (by first | rfl | (simp; done) | (simp [*]; done)), H', ⟨by first | omega | exact Nat.le_refl _⟩, ⟨by first | exact Kd.R_nil _ _ _ _ _ | exact Kd.N_nil _ _ _ _ _ | exact Kd.V_nil _ _ _ _ _ | exact Kd.Q_nil _ _ _ _ _ | exact Kd.S_nil _ _ _ _ _⟩, ⟨by repeat (first | (with_reducible first | exact HB.out | apply below_alloc | apply pw_below_drewN | apply below_drew1) | exact HB.out)⟩⟩
  case rest =>
    clear HC3
    try clear c1
    try clear p2
    try clear c5
    try clear c5b0
    try clear c5b1
    obtain ⟨kq, x23_2, rfl, HA, HJ2, HO_2, HB⟩ := hcut
    cases kq with
    | zero => exact absurd HA.out (by simp [pack_TakeTexts.j0])
    | succ kj2 =>
      have H := HA.out
      clear HA
      simp only [pack_TakeTexts.j0] at H
      by_cases c6 : x23_2 = true
      · subst c6
        have H1 : (some (([] : List ByteArray), (⟨#[]⟩ : ByteArray), 70)) = some (r1, r2, r3) := by rw [if_pos rfl] at H; exact H
        clear H
        have H := H1
        clear H1
        simp only [Option.some.injEq, Prod.mk.injEq] at H
        obtain ⟨rfl, rfl, rfl⟩ := H
        go_wp2
        go_ret3
        exact ⟨_, by first | rfl | (simp [errW_none, errW_some] <;> rfl) | (simp [*, errW_none, errW_some] <;> rfl), by first | exact Kd.R_nil _ _ _ _ _ | exact Kd.N_nil _ _ _ _ _ | exact Kd.V_nil _ _ _ _ _ | exact Kd.Q_nil _ _ _ _ _ | exact Kd.S_nil _ _ _ _ _, by repeat (first | (with_reducible first | exact HB.out | apply below_alloc | apply pw_below_drewN | apply below_drew1) | exact HB.out)⟩
      · replace c6 := Bool.eq_false_iff.mpr c6
        subst c6
        have H1 : (pack_TakeTexts.l0 kj2 ([] : List ByteArray) t117 t116 0) = some (r1, r2, r3) := by rw [if_neg (show ¬ (false = true) by decide)] at H; exact H
        clear H
        have H := H1
        clear H1
        have H' := Aside0.mk H
        clear H
        go_wp2
        go_loopg [2, 3, 25] kj2 (fun kq v2 v3 v25 w' => ∃ (x2_2 : List ByteArray) (x3_2 : ByteArray) (x25_2 : Int), v3 = .string x3_2 ∧ v25 = .int .u64 x25_2 ∧ Aside0 (pack_TakeTexts.l0 kq x2_2 x3_2 t116 x25_2 = some (r1, r2, r3)) ∧ Aside0 (kq ≤ kj2) ∧ Aside0 (Kd.R Kd.string 9 w' w.heap.size (fun _ => True) v2 x2_2) ∧ Aside0 (Below w.heap.size w w'))
        case atStart => exact ⟨(([] : List ByteArray)), (t117), (0), (by first | rfl | (simp; done) | (simp [*]; done)), (by first | rfl | (simp; done) | (simp [*]; done)), H', ⟨Nat.le_refl _⟩, ⟨by (with_reducible repeat (first | apply Kd.R_alloc | apply Kd.R_drewN | apply Kd.R_drew)); exact HO_2.out⟩, ⟨by repeat (first | (with_reducible first | exact HB.out | apply below_alloc | apply pw_below_drewN | apply below_drew1) | exact HB.out)⟩⟩
        case round =>
          clear H'
          try clear c1
          try clear p2
          try clear c5
          try clear c5b0
          try clear c5b1
          try clear c6
          try clear p2
          obtain ⟨x2_2, x3_2, x25_2, rfl, rfl, HA, HK2, HO_2, HB⟩ := hrel
          cases gk with
          | zero => exact absurd HA.out (by simp [pack_TakeTexts.l0])
          | succ k2 =>
            have H := HA.out
            clear HA
            simp only [pack_TakeTexts.l0] at H
            by_cases c7 : x25_2 < t116
            · rw [if_pos c7] at H
              have c7b0 : decide (x25_2 < t116) = true := decide_eq_true c7
              clear c7
              replace H := Option.bind_eq_some_iff.mp H
              obtain ⟨⟨t119, t120, t121⟩, A80, H⟩ := H
              replace H : (if t121 = 0 then (if x2_2.length < 8796093022208 then (pack_TakeTexts.l0 k2 (x2_2 ++ [t119]) t120 t116 (IntKind.u64.wrap (x25_2 + 1))) else (none)) else (some (([] : List ByteArray), (⟨#[]⟩ : ByteArray), t121))) = some (r1, r2, r3) := H
              have A8 := Aside0.mk A80
              clear A80
              by_cases c9 : t121 = 0
              · rw [if_pos c9] at H
                have c9b0 : (t121 == 0) = true := beq_iff_eq.mpr c9
                have c9b1 : (t121 != 0) = false := bne_eq_false_iff_eq.mpr c9
                clear c9
                by_cases c10 : x2_2.length < 8796093022208
                · rw [if_pos c10] at H
                  have LMc10 := Aside0.mk c10
                  clear c10
                  obtain ⟨y122, hy122⟩ : ∃ y_ : List ByteArray, y_ = (x2_2 ++ [t119]) := ⟨_, rfl⟩
                  replace H : (pack_TakeTexts.l0 k2 y122 t120 t116 (IntKind.u64.wrap (x25_2 + 1))) = some (r1, r2, r3) := by first | (rw [hy122]; with_reducible exact H) | (have H2_ := (Option.bind_some _ _).symm.trans H; rw [hy122]; with_reducible exact H2_) | (have H2_ := (Option.bind_some _ _).symm.trans H; with_reducible exact H2_) | with_reducible exact H | (rw [hy122]; exact H) | exact H
                  have Ny122 := Aside0.mk hy122
                  clear hy122
                  have H' := Aside0.mk H
                  clear H
                  go_wp2_with (first | ((with_reducible refine gate_callee (f := 13) rfl ?_); refine goesL_ (some 29) rfl rfl Try.func13 (by kernel_rfl) rfl #[.string x3_2] rfl (by (try simp only [List.map_toArray, List.map_cons, List.map_nil]); first | done | rfl | (simp only [List.length_drop, List.length_take]; rfl)) ?_; (with_reducible refine (pack_TakeText.calls k2 x3_2 t119 t120 t121 _ A8.out).mono ?_); rintro e w11 ⟨rfl, hb⟩; refine ⟨_, rfl, ?_⟩; have n0_ := Aside0.mk (Kd.R_below (by (with_reducible repeat (first | apply Kd.R_alloc | apply Kd.R_drewN | apply Kd.R_drew)); exact HO_2.out) hb); have n1_ := Aside0.mk (below_step (by repeat (first | (with_reducible first | exact HB.out | apply below_alloc | apply pw_below_drewN | apply below_drew1) | exact HB.out)) hb); clear HO_2; clear HB; have HO_2 := n0_; have HB := n1_; clear n0_ n1_; (try clear hb); (try clear hb2); (try clear hk); (try clear hi)) | ((with_reducible refine gate_builtin (b := .append) (xs := #[.tmp 36, .tmp 38]) rfl ?_); (try (refine gate_guard (by rfl) ?_; dsimp only)); at_builtin; refine Kd.R_append Kd.string (w0 := w) w.heap.size rfl (.tmp 36) (.tmp 38) 23 9 (.string ⟨#[]⟩) 16 rfl Try.underlying23 info9 rfl (by decide) (by omega) u2 x2_2 t119 [.string t119] (fun _ => True) (fun _ => False) rfl rfl ?aP (fun _ hk => hk.elim) ?aF ?aO ?aB ?aS ?aL ?_; (case aP => exact rfl); (case aB => exact (by repeat (first | (with_reducible first | exact HB.out | apply below_alloc | apply pw_below_drewN | apply below_drew1) | exact HB.out))); (case aF => exact (fun _ _ => trivial)); (case aO => exact (by (with_reducible repeat (first | apply Kd.R_alloc | apply Kd.R_drewN | apply Kd.R_drew)); exact HO_2.out)); (case aS => exact (below_size (by repeat (first | (with_reducible first | exact HB.out | apply below_alloc | apply pw_below_drewN | apply below_drew1) | exact HB.out)))); (case aL => have := LMc10.out; omega); intro v123 w12 ho hb hg hat; rw [← Ny122.out] at ho; have n0_ := Aside0.mk (hb); have n1_ := Aside0.mk (ho); clear HB; clear HO_2; have HB := n0_; have HO124 := n1_; clear n0_ n1_; clear ho hb hg hat) | (go_at_call 13; (with_reducible refine (pack_TakeText.calls k2 x3_2 t119 t120 t121 _ A8.out).mono ?_); rintro e w11 ⟨rfl, hb⟩; have n0_ := Aside0.mk (Kd.R_below (by (with_reducible repeat (first | apply Kd.R_alloc | apply Kd.R_drewN | apply Kd.R_drew)); exact HO_2.out) hb); have n1_ := Aside0.mk (below_step (by repeat (first | (with_reducible first | exact HB.out | apply below_alloc | apply pw_below_drewN | apply below_drew1) | exact HB.out)) hb); clear HO_2; clear HB; have HO_2 := n0_; have HB := n1_; clear n0_ n1_; (try clear hb); (try clear hb2); (try clear hk); (try clear hi)))
                  go_roundg k2
                  case measure => have := HJ2.out; have := HK2.out; omega
                  case rel => exact ⟨(y122), (t120), (IntKind.u64.wrap (x25_2 + 1)), (by first | rfl | (simp; done) | (simp [*]; done)), (by first | rfl | (simp; done) | (simp [*]; done)), H', ⟨by have := HJ2.out; have := HK2.out; omega⟩, ⟨by (with_reducible repeat (first | apply Kd.R_alloc | apply Kd.R_drewN | apply Kd.R_drew)); exact HO124.out⟩, ⟨by repeat (first | (with_reducible first | exact HB.out | apply below_alloc | apply pw_below_drewN | apply below_drew1) | exact HB.out)⟩⟩
                · rw [if_neg c10] at H
                  exact absurd H (by simp)
              · rw [if_neg c9] at H
                have c9b0 : (t121 == 0) = false := beq_eq_false_iff_ne.mpr c9
                have c9b1 : (t121 != 0) = true := bne_iff_ne.mpr c9
                simp only [Option.some.injEq, Prod.mk.injEq] at H
                obtain ⟨rfl, rfl, rfl⟩ := H
                go_wp2_with (first | ((with_reducible refine gate_callee (f := 13) rfl ?_); refine goesL_ (some 29) rfl rfl Try.func13 (by kernel_rfl) rfl #[.string x3_2] rfl (by (try simp only [List.map_toArray, List.map_cons, List.map_nil]); first | done | rfl | (simp only [List.length_drop, List.length_take]; rfl)) ?_; (with_reducible refine (pack_TakeText.calls k2 x3_2 t119 t120 t121 _ A8.out).mono ?_); rintro e w13 ⟨rfl, hb⟩; refine ⟨_, rfl, ?_⟩; have n0_ := Aside0.mk (Kd.R_below (by (with_reducible repeat (first | apply Kd.R_alloc | apply Kd.R_drewN | apply Kd.R_drew)); exact HO_2.out) hb); have n1_ := Aside0.mk (below_step (by repeat (first | (with_reducible first | exact HB.out | apply below_alloc | apply pw_below_drewN | apply below_drew1) | exact HB.out)) hb); clear HO_2; clear HB; have HO_2 := n0_; have HB := n1_; clear n0_ n1_; (try clear hb); (try clear hb2); (try clear hk); (try clear hi)) | (go_at_call 13; (with_reducible refine (pack_TakeText.calls k2 x3_2 t119 t120 t121 _ A8.out).mono ?_); rintro e w13 ⟨rfl, hb⟩; have n0_ := Aside0.mk (Kd.R_below (by (with_reducible repeat (first | apply Kd.R_alloc | apply Kd.R_drewN | apply Kd.R_drew)); exact HO_2.out) hb); have n1_ := Aside0.mk (below_step (by repeat (first | (with_reducible first | exact HB.out | apply below_alloc | apply pw_below_drewN | apply below_drew1) | exact HB.out)) hb); clear HO_2; clear HB; have HO_2 := n0_; have HB := n1_; clear n0_ n1_; (try clear hb); (try clear hb2); (try clear hk); (try clear hi)))
                go_ret3
                exact ⟨_, by first | rfl | (simp [errW_none, errW_some] <;> rfl) | (simp [*, errW_none, errW_some] <;> rfl), by first | exact Kd.R_nil _ _ _ _ _ | exact Kd.N_nil _ _ _ _ _ | exact Kd.V_nil _ _ _ _ _ | exact Kd.Q_nil _ _ _ _ _ | exact Kd.S_nil _ _ _ _ _, by repeat (first | (with_reducible first | exact HB.out | apply below_alloc | apply pw_below_drewN | apply below_drew1) | exact HB.out)⟩
            · rw [if_neg c7] at H
              have c7b0 : decide (x25_2 < t116) = false := decide_eq_false c7
              clear c7
              simp only [Option.some.injEq, Prod.mk.injEq] at H
              obtain ⟨rfl, rfl, rfl⟩ := H
              go_wp2
              go_ret3
              exact ⟨_, by first | rfl | (simp [errW_none, errW_some] <;> rfl) | (simp [*, errW_none, errW_some] <;> rfl), by (with_reducible repeat (first | apply Kd.R_alloc | apply Kd.R_drewN | apply Kd.R_drew)); exact HO_2.out, by repeat (first | (with_reducible first | exact HB.out | apply below_alloc | apply pw_below_drewN | apply below_drew1) | exact HB.out)⟩

/-! ### linhayref07_Same: function 17 -/
def linhayref07_Same.l0 : Nat → List ByteArray → List ByteArray → Int → Option (Bool)
  | 0, _, _, _ => none
  | k + 1, x0, x1, x5 => if x5 < (x0.length : Int) then (if 0 ≤ x5 then (if x5 < (x1.length : Int) then (if (rdOf ByteArray.empty x0 x5).toList = (rdOf ByteArray.empty x1 x5).toList then (linhayref07_Same.l0 k x0 x1 (wrap64 (x5 + 1))) else (some false)) else (none)) else (none)) else (some true)
def linhayref07_Same.f (k : Nat) (l0 : List ByteArray) (l1 : List ByteArray) : Option (Bool) := if (l0.length : Int) = (l1.length : Int) then (linhayref07_Same.l0 k l0 l1 0) else (some false)
theorem linhayref07_Same.mono_l : ∀ k, (∀ y0 y1 y2, LeO (linhayref07_Same.l0 k y0 y1 y2) (linhayref07_Same.l0 (k + 1) y0 y1 y2))
  | 0 => fun _ _ _ r h => by simp [linhayref07_Same.l0] at h
  | k + 1 => by
    have ih0 := linhayref07_Same.mono_l k
    · intro y0 y1 y2
      unfold linhayref07_Same.l0
      repeat' first
      | (with_reducible exact ih0 _ _ _)
      | (with_reducible exact LeO.refl _)
      | (with_reducible exact LeO.none _)
      | (with_reducible refine LeO.ite ?_ ?_)
      | (with_reducible refine LeO.bind ?_ (fun _ => ?_))
      | exact ih0 _ _ _
      | exact LeO.none _
      | refine LeO.ite ?_ ?_
      | refine LeO.bind ?_ (fun _ => ?_)
theorem linhayref07_Same.mono : ∀ a0 a1 k, LeO (linhayref07_Same.f k a0 a1) (linhayref07_Same.f (k + 1) a0 a1) := by
  intro a0 a1 k
  have ih0 := linhayref07_Same.mono_l k
  unfold linhayref07_Same.f
  repeat' first
      | (with_reducible exact ih0 _ _ _)
      | (with_reducible exact LeO.refl _)
      | (with_reducible exact LeO.none _)
      | (with_reducible refine LeO.ite ?_ ?_)
      | (with_reducible refine LeO.bind ?_ (fun _ => ?_))
      | exact ih0 _ _ _
      | exact LeO.none _
      | refine LeO.ite ?_ ?_
      | refine LeO.bind ?_ (fun _ => ?_)
set_option maxHeartbeats 8000000 in
set_option maxRecDepth 100000 in
theorem linhayref07_Same.calls (k : Nat) (A0 : Option Addr) (c0 : Nat) (l0 : List ByteArray) (A1 : Option Addr) (c1 : Nat) (l1 : List ByteArray) (r : Bool) (w : World) (hr0 : Kd.C Kd.string w A0 l0.length l0) (hc0 : l0.length ≤ c0) (hr1 : Kd.C Kd.string w A1 l1.length l1) (hc1 : l1.length ≤ c1) (h : linhayref07_Same.f k l0 l1 = some r) :
    Calls Try.prog 17 #[.slice A0 l0.length c0, .slice A1 l1.length c1] w fun e w' => e = .returned (.bool r) ∧ Drawn0 w w' := by
  have HR0 := Aside0.mk hr0
  have HC0 := Aside0.mk hc0
  clear hr0 hc0
  have HR1 := Aside0.mk hr1
  have HC1 := Aside0.mk hc1
  clear hr1 hc1
  have H : (if (l0.length : Int) = (l1.length : Int) then (linhayref07_Same.l0 k l0 l1 0) else (some false)) = some r := h
  clear h
  by_cases c3 : (l0.length : Int) = (l1.length : Int)
  · rw [if_pos c3] at H
    have c3b0 : ((l0.length : Int) == (l1.length : Int)) = true := beq_iff_eq.mpr c3
    have c3b1 : ((l0.length : Int) != (l1.length : Int)) = false := bne_eq_false_iff_eq.mpr c3
    have c3b2 : (l0.length == l1.length) = true := by first | simpa using c3 | (simp at c3 ⊢; omega)
    clear c3
    have H' := Aside0.mk H
    clear H
    go_enter Try.func17, Try.ntmps17
    go_wp2
    repeat (go_quiet (fail); try go_wp2)
    go_loopg [5] k (fun kq v5 w' => ∃ (x5_1 : Int), v5 = .int .i64 x5_1 ∧ Aside0 (linhayref07_Same.l0 kq l0 l1 x5_1 = some r) ∧ Aside0 (kq ≤ k) ∧ Drawn0 w w')
    case atStart => exact ⟨(0), (by first | rfl | (simp; done) | (simp [*]; done)), H', ⟨Nat.le_refl _⟩, by repeat (first | exact Drawn0.refl _ | apply Drawn0.step)⟩
    case round =>
      clear H'
      try clear c1
      try clear p2
      try clear c3
      try clear c3b0
      try clear c3b1
      try clear c3b2
      obtain ⟨x5_1, rfl, HA, HK1, ⟨m1, rfl⟩⟩ := hrel
      cases gk with
      | zero => exact absurd HA.out (by simp [linhayref07_Same.l0])
      | succ k1 =>
        have H := HA.out
        clear HA
        simp only [linhayref07_Same.l0] at H
        by_cases c4 : x5_1 < (l0.length : Int)
        · rw [if_pos c4] at H
          have c4b0 : decide (x5_1 < (l0.length : Int)) = true := decide_eq_true c4
          clear c4
          by_cases c5 : 0 ≤ x5_1
          · rw [if_pos c5] at H
            have c5b0 : decide (0 ≤ x5_1) = true := decide_eq_true c5
            clear c5
            by_cases c6 : x5_1 < (l1.length : Int)
            · rw [if_pos c6] at H
              have c6b0 : decide (x5_1 < (l1.length : Int)) = true := decide_eq_true c6
              clear c6
              by_cases c7 : (rdOf ByteArray.empty l0 x5_1).toList = (rdOf ByteArray.empty l1 x5_1).toList
              · rw [if_pos c7] at H
                have c7b0 : ((rdOf ByteArray.empty l0 x5_1).toList == (rdOf ByteArray.empty l1 x5_1).toList) = true := beq_iff_eq.mpr c7
                have c7b1 : ((rdOf ByteArray.empty l0 x5_1).toList != (rdOf ByteArray.empty l1 x5_1).toList) = false := bne_eq_false_iff_eq.mpr c7
                clear c7
                have H' := Aside0.mk H
                clear H
                have p125 : 0 ≤ (x5_1 : Int) := of_decide_eq_true (by first | (with_reducible assumption) | assumption)
                have q125 : x5_1 < (l0.length : Int) := of_decide_eq_true (by first | (with_reducible assumption) | assumption)
                obtain ⟨ad125, e125, hx125_0⟩ := Kd.at_string HR0.out x5_1 p125 q125
                cases e125
                replace p125 := eq_true p125
                replace q125 := eq_true q125
                have p126 : 0 ≤ (x5_1 : Int) := of_decide_eq_true (by first | (with_reducible assumption) | assumption)
                have q126 : x5_1 < (l1.length : Int) := of_decide_eq_true (by first | (with_reducible assumption) | assumption)
                obtain ⟨ad126, e126, hx126_0⟩ := Kd.at_string HR1.out x5_1 p126 q126
                cases e126
                replace p126 := eq_true p126
                replace q126 := eq_true q126
                go_wp2
                repeat (go_quiet (fail); try go_wp2)
                go_roundg k1
                case measure => have := HK1.out; omega
                case rel => exact ⟨(wrap64 (x5_1 + 1)), (by first | rfl | (simp; done) | (simp [*]; done)), H', ⟨by have := HK1.out; omega⟩, by repeat (first | exact Drawn0.refl _ | apply Drawn0.step)⟩
              · rw [if_neg c7] at H
                have c7b0 : ((rdOf ByteArray.empty l0 x5_1).toList == (rdOf ByteArray.empty l1 x5_1).toList) = false := beq_eq_false_iff_ne.mpr c7
                have c7b1 : ((rdOf ByteArray.empty l0 x5_1).toList != (rdOf ByteArray.empty l1 x5_1).toList) = true := bne_iff_ne.mpr c7
                obtain rfl := Option.some.inj H
                have p125 : 0 ≤ (x5_1 : Int) := of_decide_eq_true (by first | (with_reducible assumption) | assumption)
                have q125 : x5_1 < (l0.length : Int) := of_decide_eq_true (by first | (with_reducible assumption) | assumption)
                obtain ⟨ad125, e125, hx125_0⟩ := Kd.at_string HR0.out x5_1 p125 q125
                cases e125
                replace p125 := eq_true p125
                replace q125 := eq_true q125
                have p126 : 0 ≤ (x5_1 : Int) := of_decide_eq_true (by first | (with_reducible assumption) | assumption)
                have q126 : x5_1 < (l1.length : Int) := of_decide_eq_true (by first | (with_reducible assumption) | assumption)
                obtain ⟨ad126, e126, hx126_0⟩ := Kd.at_string HR1.out x5_1 p126 q126
                cases e126
                replace p126 := eq_true p126
                replace q126 := eq_true q126
                go_wp2
                repeat (go_quiet (fail); try go_wp2)
                go_ret
                exact ⟨by first | rfl | (simp; done) | (simp [*]; done), by repeat (first | exact Drawn0.refl _ | apply Drawn0.step)⟩
            · rw [if_neg c6] at H
              exact absurd H (by simp)
          · rw [if_neg c5] at H
            exact absurd H (by simp)
        · rw [if_neg c4] at H
          have c4b0 : decide (x5_1 < (l0.length : Int)) = false := decide_eq_false c4
          clear c4
          obtain rfl := Option.some.inj H
          go_wp2
          repeat (go_quiet (fail); try go_wp2)
          go_ret
          exact ⟨by first | rfl | (simp; done) | (simp [*]; done), by repeat (first | exact Drawn0.refl _ | apply Drawn0.step)⟩
  · rw [if_neg c3] at H
    have c3b0 : ((l0.length : Int) == (l1.length : Int)) = false := beq_eq_false_iff_ne.mpr c3
    have c3b1 : ((l0.length : Int) != (l1.length : Int)) = true := bne_iff_ne.mpr c3
    have c3b2 : (l0.length == l1.length) = false := by first | simpa using c3 | (simp at c3 ⊢; omega)
    obtain rfl := Option.some.inj H
    go_enter Try.func17, Try.ntmps17
    go_wp2
    repeat (go_quiet (fail); try go_wp2)
    go_ret
    exact ⟨by first | rfl | (simp; done) | (simp [*]; done), by repeat (first | exact Drawn0.refl _ | apply Drawn0.step)⟩

end Go.Proofs.Ytkfahdccacefiaa.Print
