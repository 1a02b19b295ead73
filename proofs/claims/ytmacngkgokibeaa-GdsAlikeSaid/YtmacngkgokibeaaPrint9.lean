/- Lean functions that answer what Go functions of the translation answer, and the proofs of it. Written by a program of this session (wip/tools/seatprint.py), over contracts that it proved by hand. Conditions: those that each theorem says. -/
import Derived.Test.YtmacngkgokibeaaPrint0
import Derived.Test.YtmacngkgokibeaaPrint3
import Derived.Test.YtmacngkgokibeaaPrint5
import Derived.Test.YtmacngkgokibeaaPrint7
namespace Go.Proofs.Ytmacngkgokibeaa.Print
open Go.RowKit Go.Proofs.YtmacngkgokibeaaW.PrintWords Go.Proofs.YtmacngkgokibeaaW.PrintLast Go.Proofs.YtmacngkgokibeaaW.PrintMore
attribute [local go_sem] max2_int min2_int max_two min_two max_three min_three max_four min_four   -- for this text's walks alone
set_option linter.unusedVariables false
set_option linter.unusedSimpArgs false

/-! ### linhaylaw18_GdsAlike: function 5 -/
mutual
def linhaylaw18_GdsAlike.l0 : Nat → Int → List Int → Bool → Int → Int → Int → List Int → List Int → Int → Option (Bool)
  | 0, _, _, _, _, _, _, _, _, _ => none
  | k + 1, x3, x4, x11, x12, x13, x14, x15, x16, x18 => if x18 < x12 then (if x15.length < 17592186044416 then (if x16.length < 17592186044416 then (linhaylaw18_GdsAlike.l0 k x3 x4 x11 x12 x13 x14 (x15 ++ [x13]) (x16 ++ [wrap64 (x3)]) (wrap64 (x18 + 1))) else (none)) else (none)) else (linhaylaw18_GdsAlike.l1 k x4 x11 x12 x13 x14 x15 x16 ([] : List Int) 0)
def linhaylaw18_GdsAlike.l1 : Nat → List Int → Bool → Int → Int → Int → List Int → List Int → List Int → Int → Option (Bool)
  | 0, _, _, _, _, _, _, _, _, _ => none
  | k + 1, x4, x11, x12, x13, x14, x15, x16, x17, x19 => if x19 < (x4.length : Int) then (if 0 ≤ x19 then (if x12 = 0 then (none) else (if x17.length < 17592186044416 then (linhaylaw18_GdsAlike.l1 k x4 x11 x12 x13 x14 x15 x16 (x17 ++ [Int.tmod (wrap64 (rd x4 x19)) x12]) (wrap64 (x19 + 1))) else (none))) else (none)) else ((gds_Run.f k (wrap64 (x14 * x13)) x15 x16 x17).bind fun bt210 => ((gds_Run.f k (wrap64 ((wrap64 ((wrap64 (x14 * x13)) + x13)) - 1)) x15 x16 x17).bind fun bt214 => (linhaylaw18_GdsAlike.l2 k x11 x14 bt210.1 bt210.2 bt214.1 bt214.2 0 0)))
def linhaylaw18_GdsAlike.l2 : Nat → Bool → Int → List (S40) → Int → List (S40) → Int → Int → Int → Option (Bool)
  | 0, _, _, _, _, _, _, _, _ => none
  | k + 1, x11, x14, x20, x21, x22, x23, x24, x25 => if x25 < (x20.length : Int) then (if 0 ≤ x25 then (if ((rd_T40 x20 x25).f0 = true) then (if (((rd_T40 x20 x25).f1).length : Int) > 1 then (none) else (if (((((rd_T40 x20 x25).f1).length : Int) == 1) != false) = true then (none) else (linhaylaw18_GdsAlike.l2 k x11 x14 x20 x21 x22 x23 x24 (wrap64 (x25 + 1))))) else (if (((rd_T40 x20 x25).f1).length : Int) > 1 then (none) else (if (((((rd_T40 x20 x25).f1).length : Int) == 1) != (decide ((wrap64 (x24 + 1)) > x14))) = true then (none) else (linhaylaw18_GdsAlike.l2 k x11 x14 x20 x21 x22 x23 (wrap64 (x24 + 1)) (wrap64 (x25 + 1)))))) else (none)) else (if x11 = true then (if x21 = 0 then (if x23 = 0 then ((linhayref18_Same.f k x20 x22).bind fun t218 => (some t218)) else (none)) else (none)) else (none))
end
def linhaylaw18_GdsAlike.f (k : Nat) (a0 : Int) (a1 : Int) (a2 : Int) (a3 : Int) (l4 : List Int) : Option (Bool) := (linhaylaw18_awake.f k).bind fun t199 => (if (l4.length : Int) > 60 then (some t199) else (linhaylaw18_GdsAlike.l0 k a3 l4 t199 (wrap64 (1 + (wrap64 (Int.tmod a0 20)))) (wrap64 (1 + (wrap64 (Int.tmod a2 50)))) (wrap64 (1 + (wrap64 (Int.tmod a1 10)))) ([] : List Int) ([] : List Int) 0))
theorem linhaylaw18_GdsAlike.mono_l : ∀ k, (∀ y0 y1 y2 y3 y4 y5 y6 y7 y8, LeO (linhaylaw18_GdsAlike.l0 k y0 y1 y2 y3 y4 y5 y6 y7 y8) (linhaylaw18_GdsAlike.l0 (k + 1) y0 y1 y2 y3 y4 y5 y6 y7 y8)) ∧ (∀ y0 y1 y2 y3 y4 y5 y6 y7 y8, LeO (linhaylaw18_GdsAlike.l1 k y0 y1 y2 y3 y4 y5 y6 y7 y8) (linhaylaw18_GdsAlike.l1 (k + 1) y0 y1 y2 y3 y4 y5 y6 y7 y8)) ∧ (∀ y0 y1 y2 y3 y4 y5 y6 y7, LeO (linhaylaw18_GdsAlike.l2 k y0 y1 y2 y3 y4 y5 y6 y7) (linhaylaw18_GdsAlike.l2 (k + 1) y0 y1 y2 y3 y4 y5 y6 y7))
  | 0 => ⟨fun _ _ _ _ _ _ _ _ _ r h => by simp [linhaylaw18_GdsAlike.l0] at h, fun _ _ _ _ _ _ _ _ _ r h => by simp [linhaylaw18_GdsAlike.l1] at h, fun _ _ _ _ _ _ _ _ r h => by simp [linhaylaw18_GdsAlike.l2] at h⟩
  | k + 1 => by
    obtain ⟨ih0, ih1, ih2⟩ := linhaylaw18_GdsAlike.mono_l k
    refine ⟨?_, ?_, ?_⟩
    · intro y0 y1 y2 y3 y4 y5 y6 y7 y8
      unfold linhaylaw18_GdsAlike.l0
      repeat' first
      | (with_reducible exact ih0 _ _ _ _ _ _ _ _ _)
      | (with_reducible exact ih1 _ _ _ _ _ _ _ _ _)
      | (with_reducible exact ih2 _ _ _ _ _ _ _ _)
      | (with_reducible exact gds_Run.mono _ _ _ _ _)
      | (with_reducible exact linhaylaw18_awake.mono _)
      | (with_reducible exact linhayref18_Same.mono _ _ _)
      | (with_reducible exact LeO.refl _)
      | (with_reducible exact LeO.none _)
      | (with_reducible refine LeO.ite ?_ ?_)
      | (with_reducible refine LeO.bind ?_ (fun _ => ?_))
      | exact ih0 _ _ _ _ _ _ _ _ _
      | exact ih1 _ _ _ _ _ _ _ _ _
      | exact ih2 _ _ _ _ _ _ _ _
      | exact gds_Run.mono _ _ _ _ _
      | exact linhaylaw18_awake.mono _
      | exact linhayref18_Same.mono _ _ _
      | exact LeO.none _
      | refine LeO.ite ?_ ?_
      | refine LeO.bind ?_ (fun _ => ?_)
    · intro y0 y1 y2 y3 y4 y5 y6 y7 y8
      unfold linhaylaw18_GdsAlike.l1
      repeat' first
      | (with_reducible exact ih0 _ _ _ _ _ _ _ _ _)
      | (with_reducible exact ih1 _ _ _ _ _ _ _ _ _)
      | (with_reducible exact ih2 _ _ _ _ _ _ _ _)
      | (with_reducible exact gds_Run.mono _ _ _ _ _)
      | (with_reducible exact linhaylaw18_awake.mono _)
      | (with_reducible exact linhayref18_Same.mono _ _ _)
      | (with_reducible exact LeO.refl _)
      | (with_reducible exact LeO.none _)
      | (with_reducible refine LeO.ite ?_ ?_)
      | (with_reducible refine LeO.bind ?_ (fun _ => ?_))
      | exact ih0 _ _ _ _ _ _ _ _ _
      | exact ih1 _ _ _ _ _ _ _ _ _
      | exact ih2 _ _ _ _ _ _ _ _
      | exact gds_Run.mono _ _ _ _ _
      | exact linhaylaw18_awake.mono _
      | exact linhayref18_Same.mono _ _ _
      | exact LeO.none _
      | refine LeO.ite ?_ ?_
      | refine LeO.bind ?_ (fun _ => ?_)
    · intro y0 y1 y2 y3 y4 y5 y6 y7
      unfold linhaylaw18_GdsAlike.l2
      repeat' first
      | (with_reducible exact ih0 _ _ _ _ _ _ _ _ _)
      | (with_reducible exact ih1 _ _ _ _ _ _ _ _ _)
      | (with_reducible exact ih2 _ _ _ _ _ _ _ _)
      | (with_reducible exact gds_Run.mono _ _ _ _ _)
      | (with_reducible exact linhaylaw18_awake.mono _)
      | (with_reducible exact linhayref18_Same.mono _ _ _)
      | (with_reducible exact LeO.refl _)
      | (with_reducible exact LeO.none _)
      | (with_reducible refine LeO.ite ?_ ?_)
      | (with_reducible refine LeO.bind ?_ (fun _ => ?_))
      | exact ih0 _ _ _ _ _ _ _ _ _
      | exact ih1 _ _ _ _ _ _ _ _ _
      | exact ih2 _ _ _ _ _ _ _ _
      | exact gds_Run.mono _ _ _ _ _
      | exact linhaylaw18_awake.mono _
      | exact linhayref18_Same.mono _ _ _
      | exact LeO.none _
      | refine LeO.ite ?_ ?_
      | refine LeO.bind ?_ (fun _ => ?_)
theorem linhaylaw18_GdsAlike.mono : ∀ a0 a1 a2 a3 a4 k, LeO (linhaylaw18_GdsAlike.f k a0 a1 a2 a3 a4) (linhaylaw18_GdsAlike.f (k + 1) a0 a1 a2 a3 a4) := by
  intro a0 a1 a2 a3 a4 k
  obtain ⟨ih0, ih1, ih2⟩ := linhaylaw18_GdsAlike.mono_l k
  unfold linhaylaw18_GdsAlike.f
  repeat' first
      | (with_reducible exact ih0 _ _ _ _ _ _ _ _ _)
      | (with_reducible exact ih1 _ _ _ _ _ _ _ _ _)
      | (with_reducible exact ih2 _ _ _ _ _ _ _ _)
      | (with_reducible exact gds_Run.mono _ _ _ _ _)
      | (with_reducible exact linhaylaw18_awake.mono _)
      | (with_reducible exact linhayref18_Same.mono _ _ _)
      | (with_reducible exact LeO.refl _)
      | (with_reducible exact LeO.none _)
      | (with_reducible refine LeO.ite ?_ ?_)
      | (with_reducible refine LeO.bind ?_ (fun _ => ?_))
      | exact ih0 _ _ _ _ _ _ _ _ _
      | exact ih1 _ _ _ _ _ _ _ _ _
      | exact ih2 _ _ _ _ _ _ _ _
      | exact gds_Run.mono _ _ _ _ _
      | exact linhaylaw18_awake.mono _
      | exact linhayref18_Same.mono _ _ _
      | exact LeO.none _
      | refine LeO.ite ?_ ?_
      | refine LeO.bind ?_ (fun _ => ?_)
set_option maxHeartbeats 8000000 in
set_option maxRecDepth 100000 in
theorem linhaylaw18_GdsAlike.calls (k : Nat) (a0 : Int) (a1 : Int) (a2 : Int) (a3 : Int) (A4 : Option Addr) (c4 : Nat) (l4 : List Int) (r : Bool) (w : World) (hr4 : Kd.C (Kd.int .u8) w A4 l4.length l4) (hc4 : l4.length ≤ c4) (h : linhaylaw18_GdsAlike.f k a0 a1 a2 a3 l4 = some r) :
    Calls Try.prog 5 #[.int .u8 a0, .int .u8 a1, .int .u8 a2, .int .u16 a3, .slice A4 l4.length c4] w fun e w' => e = .returned (.bool r) ∧ Below w.heap.size w w' := by
  have HR4 := Aside0.mk hr4
  have HC4 := Aside0.mk hc4
  clear hr4 hc4
  have HB := Aside0.mk (Below.refl w.heap.size w)
  have H : ((linhaylaw18_awake.f k).bind fun t199 => (if (l4.length : Int) > 60 then (some t199) else (linhaylaw18_GdsAlike.l0 k a3 l4 t199 (wrap64 (1 + (wrap64 (Int.tmod a0 20)))) (wrap64 (1 + (wrap64 (Int.tmod a2 50)))) (wrap64 (1 + (wrap64 (Int.tmod a1 10)))) ([] : List Int) ([] : List Int) 0))) = some r := h
  clear h
  replace H := Option.bind_eq_some_iff.mp H
  obtain ⟨t199, A60, H⟩ := H
  replace H : (if (l4.length : Int) > 60 then (some t199) else (linhaylaw18_GdsAlike.l0 k a3 l4 t199 (wrap64 (1 + (wrap64 (Int.tmod a0 20)))) (wrap64 (1 + (wrap64 (Int.tmod a2 50)))) (wrap64 (1 + (wrap64 (Int.tmod a1 10)))) ([] : List Int) ([] : List Int) 0)) = some r := H
  have A6 := Aside0.mk A60
  clear A60
  by_cases c7 : (l4.length : Int) > 60
  · rw [if_pos c7] at H
    have c7b0 : decide (60 < (l4.length : Int)) = true := decide_eq_true c7
    have c7b1 : decide (60 < l4.length) = true := decide_eq_true (by omega)
    clear c7
    obtain rfl := Option.some.inj H
    go_enter Try.func5, Try.ntmps5
    go_wp2_with (first | (go_at_call 8; (with_reducible refine (linhaylaw18_awake.calls k  t199 _ A6.out).mono ?_); rintro e w8 ⟨rfl, hb⟩; have n0_ := Aside0.mk (below_step (by repeat (first | (with_reducible first | exact HB.out | apply below_alloc | apply pw_below_drewN | apply below_drew1) | exact HB.out)) hb); clear HB; have HB := n0_; clear n0_; (try clear hb); (try clear hb2); (try clear hk); (try clear hi)))
    repeat (go_quiet (first | (go_at_call 8; (with_reducible refine (linhaylaw18_awake.calls k  t199 _ A6.out).mono ?_); rintro e w8 ⟨rfl, hb⟩; have n0_ := Aside0.mk (below_step (by repeat (first | (with_reducible first | exact HB.out | apply below_alloc | apply pw_below_drewN | apply below_drew1) | exact HB.out)) hb); clear HB; have HB := n0_; clear n0_; (try clear hb); (try clear hb2); (try clear hk); (try clear hi))); try go_wp2_with (first | (go_at_call 8; (with_reducible refine (linhaylaw18_awake.calls k  t199 _ A6.out).mono ?_); rintro e w8 ⟨rfl, hb⟩; have n0_ := Aside0.mk (below_step (by repeat (first | (with_reducible first | exact HB.out | apply below_alloc | apply pw_below_drewN | apply below_drew1) | exact HB.out)) hb); clear HB; have HB := n0_; clear n0_; (try clear hb); (try clear hb2); (try clear hk); (try clear hi))))
    go_ret
    exact ⟨by first | rfl | (simp [errW_none, errW_some] <;> rfl) | (simp [*, errW_none, errW_some] <;> rfl), by repeat (first | (with_reducible first | exact HB.out | apply below_alloc | apply pw_below_drewN | apply below_drew1) | exact HB.out)⟩
  · rw [if_neg c7] at H
    have c7b0 : decide (60 < (l4.length : Int)) = false := decide_eq_false c7
    have c7b1 : decide (60 < l4.length) = false := decide_eq_false (by omega)
    clear c7
    have H' := Aside0.mk H
    clear H
    go_enter Try.func5, Try.ntmps5
    go_wp2_with (first | (go_at_call 8; (with_reducible refine (linhaylaw18_awake.calls k  t199 _ A6.out).mono ?_); rintro e w9 ⟨rfl, hb⟩; have n0_ := Aside0.mk (below_step (by repeat (first | (with_reducible first | exact HB.out | apply below_alloc | apply pw_below_drewN | apply below_drew1) | exact HB.out)) hb); clear HB; have HB := n0_; clear n0_; (try clear hb); (try clear hb2); (try clear hk); (try clear hi)))
    repeat (go_quiet (first | (go_at_call 8; (with_reducible refine (linhaylaw18_awake.calls k  t199 _ A6.out).mono ?_); rintro e w9 ⟨rfl, hb⟩; have n0_ := Aside0.mk (below_step (by repeat (first | (with_reducible first | exact HB.out | apply below_alloc | apply pw_below_drewN | apply below_drew1) | exact HB.out)) hb); clear HB; have HB := n0_; clear n0_; (try clear hb); (try clear hb2); (try clear hk); (try clear hi))); try go_wp2_with (first | (go_at_call 8; (with_reducible refine (linhaylaw18_awake.calls k  t199 _ A6.out).mono ?_); rintro e w9 ⟨rfl, hb⟩; have n0_ := Aside0.mk (below_step (by repeat (first | (with_reducible first | exact HB.out | apply below_alloc | apply pw_below_drewN | apply below_drew1) | exact HB.out)) hb); clear HB; have HB := n0_; clear n0_; (try clear hb); (try clear hb2); (try clear hk); (try clear hi))))
    go_loopg [15, 16, 18] k (fun kq v15 v16 v18 w' => ∃ (x15_1 : List Int) (x16_1 : List Int) (x18_1 : Int), v18 = .int .i64 x18_1 ∧ Aside0 (linhaylaw18_GdsAlike.l0 kq a3 l4 t199 (wrap64 (1 + (wrap64 (Int.tmod a0 20)))) (wrap64 (1 + (wrap64 (Int.tmod a2 50)))) (wrap64 (1 + (wrap64 (Int.tmod a1 10)))) x15_1 x16_1 x18_1 = some r) ∧ Aside0 (kq ≤ k) ∧ Aside0 (Kd.R (Kd.int .i64) 3 w' w.heap.size (fun k_ => some k_ ≠ (v16 : Value).ownBlock) v15 x15_1) ∧ Aside0 (Kd.R (Kd.int .i64) 3 w' w.heap.size (fun k_ => some k_ ≠ (v15 : Value).ownBlock) v16 x16_1) ∧ Aside0 (Below w.heap.size w w'))
    case atStart => exact ⟨(([] : List Int)), (([] : List Int)), (0), (by first | rfl | (simp; done) | (simp [*]; done)), H', ⟨Nat.le_refl _⟩, ⟨by first | exact Kd.R_nil _ _ _ _ _ | exact Kd.N_nil _ _ _ _ _ | exact Kd.V_nil _ _ _ _ _ | exact Kd.Q_nil _ _ _ _ _ | exact Kd.S_nil _ _ _ _ _⟩, ⟨by first | exact Kd.R_nil _ _ _ _ _ | exact Kd.N_nil _ _ _ _ _ | exact Kd.V_nil _ _ _ _ _ | exact Kd.Q_nil _ _ _ _ _ | exact Kd.S_nil _ _ _ _ _⟩, ⟨by repeat (first | (with_reducible first | exact HB.out | apply below_alloc | apply pw_below_drewN | apply below_drew1) | exact HB.out)⟩⟩
    case round =>
      clear H'
      try clear p2
      try clear c4
      try clear c5
      try clear p6
      try clear c7
      try clear c7b0
      try clear c7b1
      obtain ⟨x15_1, x16_1, x18_1, rfl, HA, HK1, HO_15, HO_16, HB⟩ := hrel
      cases gk with
      | zero => exact absurd HA.out (by simp [linhaylaw18_GdsAlike.l0])
      | succ k1 =>
        have H := HA.out
        clear HA
        simp only [linhaylaw18_GdsAlike.l0] at H
        by_cases c10 : x18_1 < (wrap64 (1 + (wrap64 (Int.tmod a0 20))))
        · rw [if_pos c10] at H
          have c10b0 : decide (x18_1 < (wrap64 (1 + (wrap64 (Int.tmod a0 20))))) = true := decide_eq_true c10
          clear c10
          by_cases c11 : x15_1.length < 17592186044416
          · rw [if_pos c11] at H
            have LMc11 := Aside0.mk c11
            clear c11
            obtain ⟨y200, hy200⟩ : ∃ y_ : List Int, y_ = (x15_1 ++ [(wrap64 (1 + (wrap64 (Int.tmod a2 50))))]) := ⟨_, rfl⟩
            replace H : (if x16_1.length < 17592186044416 then (linhaylaw18_GdsAlike.l0 k1 a3 l4 t199 (wrap64 (1 + (wrap64 (Int.tmod a0 20)))) (wrap64 (1 + (wrap64 (Int.tmod a2 50)))) (wrap64 (1 + (wrap64 (Int.tmod a1 10)))) y200 (x16_1 ++ [wrap64 (a3)]) (wrap64 (x18_1 + 1))) else (none)) = some r := by first | (rw [hy200]; with_reducible exact H) | (have H2_ := (Option.bind_some _ _).symm.trans H; rw [hy200]; with_reducible exact H2_) | (have H2_ := (Option.bind_some _ _).symm.trans H; with_reducible exact H2_) | with_reducible exact H | (rw [hy200]; exact H) | exact H
            have Ny200 := Aside0.mk hy200
            clear hy200
            by_cases c12 : x16_1.length < 17592186044416
            · rw [if_pos c12] at H
              have LMc12 := Aside0.mk c12
              clear c12
              obtain ⟨y203, hy203⟩ : ∃ y_ : List Int, y_ = (x16_1 ++ [wrap64 (a3)]) := ⟨_, rfl⟩
              replace H : (linhaylaw18_GdsAlike.l0 k1 a3 l4 t199 (wrap64 (1 + (wrap64 (Int.tmod a0 20)))) (wrap64 (1 + (wrap64 (Int.tmod a2 50)))) (wrap64 (1 + (wrap64 (Int.tmod a1 10)))) y200 y203 (wrap64 (x18_1 + 1))) = some r := by first | (rw [hy203]; with_reducible exact H) | (have H2_ := (Option.bind_some _ _).symm.trans H; rw [hy203]; with_reducible exact H2_) | (have H2_ := (Option.bind_some _ _).symm.trans H; with_reducible exact H2_) | with_reducible exact H | (rw [hy203]; exact H) | exact H
              have Ny203 := Aside0.mk hy203
              clear hy203
              have H' := Aside0.mk H
              clear H
              go_wp2_with (first | ((with_reducible refine gate_builtin (b := .append) (xs := #[.tmp 48, .tmp 50]) rfl ?_); (try (refine gate_guard (by rfl) ?_; dsimp only)); at_builtin; refine Kd.R_append (Kd.int .i64) (w0 := w) w.heap.size rfl (.tmp 48) (.tmp 50) 22 3 (.int .i64 0) 8 rfl Try.underlying22 info3 rfl (by decide) (by omega) u15 x15_1 (wrap64 (1 + (wrap64 (Int.tmod a2 50)))) [.int .i64 (wrap64 (1 + (wrap64 (Int.tmod a2 50))))] (fun k_ => some k_ ≠ (u16 : Value).ownBlock) (fun _ => False) rfl rfl ?aP (fun _ hk => hk.elim) ?aF ?aO ?aB ?aS ?aL ?_; (case aP => exact rfl); (case aB => exact (by repeat (first | (with_reducible first | exact HB.out | apply below_alloc | apply pw_below_drewN | apply below_drew1) | exact HB.out))); (case aF => exact (fun k_ hk => Kd.fresh' (Kd.R_lt (by (with_reducible repeat (first | apply Kd.R_alloc | apply Kd.R_drewN | apply Kd.R_drew)); exact HO_16.out)) k_ hk)); (case aO => exact (by (with_reducible repeat (first | apply Kd.R_alloc | apply Kd.R_drewN | apply Kd.R_drew)); exact HO_15.out)); (case aS => exact (below_size (by repeat (first | (with_reducible first | exact HB.out | apply below_alloc | apply pw_below_drewN | apply below_drew1) | exact HB.out)))); (case aL => have := LMc11.out; omega); intro v201 w13 ho hb hg hat; rw [← Ny200.out] at ho; have n0_ := Aside0.mk (Kd.R_after (ok := (fun _ => True)) (by (with_reducible repeat (first | apply Kd.R_alloc | apply Kd.R_drewN | apply Kd.R_drew)); exact Kd.R_mono HO_16.out (fun _ hk => ⟨trivial, hk⟩)) hg hat); have n1_ := Aside0.mk (hb); have n2_ := Aside0.mk (ho); clear HO_16; clear HB; clear HO_15; have HO_16 := n0_; have HB := n1_; have HO202 := n2_; clear n0_ n1_ n2_; clear ho hb hg hat) | ((with_reducible refine gate_builtin (b := .append) (xs := #[.tmp 52, .tmp 55]) rfl ?_); (try (refine gate_guard (by rfl) ?_; dsimp only)); at_builtin; refine Kd.R_append (Kd.int .i64) (w0 := w) w.heap.size rfl (.tmp 52) (.tmp 55) 22 3 (.int .i64 0) 8 rfl Try.underlying22 info3 rfl (by decide) (by omega) u16 x16_1 (wrap64 (a3)) [.int .i64 (wrap64 (a3))] (fun k_ => some k_ ≠ (v201 : Value).ownBlock) (fun _ => False) rfl rfl ?aP (fun _ hk => hk.elim) ?aF ?aO ?aB ?aS ?aL ?_; (case aP => exact rfl); (case aB => exact (by repeat (first | (with_reducible first | exact HB.out | apply below_alloc | apply pw_below_drewN | apply below_drew1) | exact HB.out))); (case aF => exact (fun k_ hk => Kd.fresh' (Kd.R_lt (by (with_reducible repeat (first | apply Kd.R_alloc | apply Kd.R_drewN | apply Kd.R_drew)); exact HO202.out)) k_ hk)); (case aO => exact (by (with_reducible repeat (first | apply Kd.R_alloc | apply Kd.R_drewN | apply Kd.R_drew)); exact Kd.R_mono HO_16.out (fun _ hk => hk.2))); (case aS => exact (below_size (by repeat (first | (with_reducible first | exact HB.out | apply below_alloc | apply pw_below_drewN | apply below_drew1) | exact HB.out)))); (case aL => have := LMc12.out; omega); intro v204 w14 ho hb hg hat; rw [← Ny203.out] at ho; have n0_ := Aside0.mk (Kd.R_after (ok := (fun _ => True)) (by (with_reducible repeat (first | apply Kd.R_alloc | apply Kd.R_drewN | apply Kd.R_drew)); exact Kd.R_mono HO202.out (fun _ hk => ⟨trivial, hk⟩)) hg hat); have n1_ := Aside0.mk (hb); have n2_ := Aside0.mk (ho); clear HO202; clear HB; clear HO_16; have HO202 := n0_; have HB := n1_; have HO205 := n2_; clear n0_ n1_ n2_; clear ho hb hg hat))
              repeat (go_quiet (first | ((with_reducible refine gate_builtin (b := .append) (xs := #[.tmp 48, .tmp 50]) rfl ?_); (try (refine gate_guard (by rfl) ?_; dsimp only)); at_builtin; refine Kd.R_append (Kd.int .i64) (w0 := w) w.heap.size rfl (.tmp 48) (.tmp 50) 22 3 (.int .i64 0) 8 rfl Try.underlying22 info3 rfl (by decide) (by omega) u15 x15_1 (wrap64 (1 + (wrap64 (Int.tmod a2 50)))) [.int .i64 (wrap64 (1 + (wrap64 (Int.tmod a2 50))))] (fun k_ => some k_ ≠ (u16 : Value).ownBlock) (fun _ => False) rfl rfl ?aP (fun _ hk => hk.elim) ?aF ?aO ?aB ?aS ?aL ?_; (case aP => exact rfl); (case aB => exact (by repeat (first | (with_reducible first | exact HB.out | apply below_alloc | apply pw_below_drewN | apply below_drew1) | exact HB.out))); (case aF => exact (fun k_ hk => Kd.fresh' (Kd.R_lt (by (with_reducible repeat (first | apply Kd.R_alloc | apply Kd.R_drewN | apply Kd.R_drew)); exact HO_16.out)) k_ hk)); (case aO => exact (by (with_reducible repeat (first | apply Kd.R_alloc | apply Kd.R_drewN | apply Kd.R_drew)); exact HO_15.out)); (case aS => exact (below_size (by repeat (first | (with_reducible first | exact HB.out | apply below_alloc | apply pw_below_drewN | apply below_drew1) | exact HB.out)))); (case aL => have := LMc11.out; omega); intro v201 w13 ho hb hg hat; rw [← Ny200.out] at ho; have n0_ := Aside0.mk (Kd.R_after (ok := (fun _ => True)) (by (with_reducible repeat (first | apply Kd.R_alloc | apply Kd.R_drewN | apply Kd.R_drew)); exact Kd.R_mono HO_16.out (fun _ hk => ⟨trivial, hk⟩)) hg hat); have n1_ := Aside0.mk (hb); have n2_ := Aside0.mk (ho); clear HO_16; clear HB; clear HO_15; have HO_16 := n0_; have HB := n1_; have HO202 := n2_; clear n0_ n1_ n2_; clear ho hb hg hat) | ((with_reducible refine gate_builtin (b := .append) (xs := #[.tmp 52, .tmp 55]) rfl ?_); (try (refine gate_guard (by rfl) ?_; dsimp only)); at_builtin; refine Kd.R_append (Kd.int .i64) (w0 := w) w.heap.size rfl (.tmp 52) (.tmp 55) 22 3 (.int .i64 0) 8 rfl Try.underlying22 info3 rfl (by decide) (by omega) u16 x16_1 (wrap64 (a3)) [.int .i64 (wrap64 (a3))] (fun k_ => some k_ ≠ (v201 : Value).ownBlock) (fun _ => False) rfl rfl ?aP (fun _ hk => hk.elim) ?aF ?aO ?aB ?aS ?aL ?_; (case aP => exact rfl); (case aB => exact (by repeat (first | (with_reducible first | exact HB.out | apply below_alloc | apply pw_below_drewN | apply below_drew1) | exact HB.out))); (case aF => exact (fun k_ hk => Kd.fresh' (Kd.R_lt (by (with_reducible repeat (first | apply Kd.R_alloc | apply Kd.R_drewN | apply Kd.R_drew)); exact HO202.out)) k_ hk)); (case aO => exact (by (with_reducible repeat (first | apply Kd.R_alloc | apply Kd.R_drewN | apply Kd.R_drew)); exact Kd.R_mono HO_16.out (fun _ hk => hk.2))); (case aS => exact (below_size (by repeat (first | (with_reducible first | exact HB.out | apply below_alloc | apply pw_below_drewN | apply below_drew1) | exact HB.out)))); (case aL => have := LMc12.out; omega); intro v204 w14 ho hb hg hat; rw [← Ny203.out] at ho; have n0_ := Aside0.mk (Kd.R_after (ok := (fun _ => True)) (by (with_reducible repeat (first | apply Kd.R_alloc | apply Kd.R_drewN | apply Kd.R_drew)); exact Kd.R_mono HO202.out (fun _ hk => ⟨trivial, hk⟩)) hg hat); have n1_ := Aside0.mk (hb); have n2_ := Aside0.mk (ho); clear HO202; clear HB; clear HO_16; have HO202 := n0_; have HB := n1_; have HO205 := n2_; clear n0_ n1_ n2_; clear ho hb hg hat)); try go_wp2_with (first | ((with_reducible refine gate_builtin (b := .append) (xs := #[.tmp 48, .tmp 50]) rfl ?_); (try (refine gate_guard (by rfl) ?_; dsimp only)); at_builtin; refine Kd.R_append (Kd.int .i64) (w0 := w) w.heap.size rfl (.tmp 48) (.tmp 50) 22 3 (.int .i64 0) 8 rfl Try.underlying22 info3 rfl (by decide) (by omega) u15 x15_1 (wrap64 (1 + (wrap64 (Int.tmod a2 50)))) [.int .i64 (wrap64 (1 + (wrap64 (Int.tmod a2 50))))] (fun k_ => some k_ ≠ (u16 : Value).ownBlock) (fun _ => False) rfl rfl ?aP (fun _ hk => hk.elim) ?aF ?aO ?aB ?aS ?aL ?_; (case aP => exact rfl); (case aB => exact (by repeat (first | (with_reducible first | exact HB.out | apply below_alloc | apply pw_below_drewN | apply below_drew1) | exact HB.out))); (case aF => exact (fun k_ hk => Kd.fresh' (Kd.R_lt (by (with_reducible repeat (first | apply Kd.R_alloc | apply Kd.R_drewN | apply Kd.R_drew)); exact HO_16.out)) k_ hk)); (case aO => exact (by (with_reducible repeat (first | apply Kd.R_alloc | apply Kd.R_drewN | apply Kd.R_drew)); exact HO_15.out)); (case aS => exact (below_size (by repeat (first | (with_reducible first | exact HB.out | apply below_alloc | apply pw_below_drewN | apply below_drew1) | exact HB.out)))); (case aL => have := LMc11.out; omega); intro v201 w13 ho hb hg hat; rw [← Ny200.out] at ho; have n0_ := Aside0.mk (Kd.R_after (ok := (fun _ => True)) (by (with_reducible repeat (first | apply Kd.R_alloc | apply Kd.R_drewN | apply Kd.R_drew)); exact Kd.R_mono HO_16.out (fun _ hk => ⟨trivial, hk⟩)) hg hat); have n1_ := Aside0.mk (hb); have n2_ := Aside0.mk (ho); clear HO_16; clear HB; clear HO_15; have HO_16 := n0_; have HB := n1_; have HO202 := n2_; clear n0_ n1_ n2_; clear ho hb hg hat) | ((with_reducible refine gate_builtin (b := .append) (xs := #[.tmp 52, .tmp 55]) rfl ?_); (try (refine gate_guard (by rfl) ?_; dsimp only)); at_builtin; refine Kd.R_append (Kd.int .i64) (w0 := w) w.heap.size rfl (.tmp 52) (.tmp 55) 22 3 (.int .i64 0) 8 rfl Try.underlying22 info3 rfl (by decide) (by omega) u16 x16_1 (wrap64 (a3)) [.int .i64 (wrap64 (a3))] (fun k_ => some k_ ≠ (v201 : Value).ownBlock) (fun _ => False) rfl rfl ?aP (fun _ hk => hk.elim) ?aF ?aO ?aB ?aS ?aL ?_; (case aP => exact rfl); (case aB => exact (by repeat (first | (with_reducible first | exact HB.out | apply below_alloc | apply pw_below_drewN | apply below_drew1) | exact HB.out))); (case aF => exact (fun k_ hk => Kd.fresh' (Kd.R_lt (by (with_reducible repeat (first | apply Kd.R_alloc | apply Kd.R_drewN | apply Kd.R_drew)); exact HO202.out)) k_ hk)); (case aO => exact (by (with_reducible repeat (first | apply Kd.R_alloc | apply Kd.R_drewN | apply Kd.R_drew)); exact Kd.R_mono HO_16.out (fun _ hk => hk.2))); (case aS => exact (below_size (by repeat (first | (with_reducible first | exact HB.out | apply below_alloc | apply pw_below_drewN | apply below_drew1) | exact HB.out)))); (case aL => have := LMc12.out; omega); intro v204 w14 ho hb hg hat; rw [← Ny203.out] at ho; have n0_ := Aside0.mk (Kd.R_after (ok := (fun _ => True)) (by (with_reducible repeat (first | apply Kd.R_alloc | apply Kd.R_drewN | apply Kd.R_drew)); exact Kd.R_mono HO202.out (fun _ hk => ⟨trivial, hk⟩)) hg hat); have n1_ := Aside0.mk (hb); have n2_ := Aside0.mk (ho); clear HO202; clear HB; clear HO_16; have HO202 := n0_; have HB := n1_; have HO205 := n2_; clear n0_ n1_ n2_; clear ho hb hg hat)))
              go_roundg k1
              case measure => have := HK1.out; omega
              case rel => exact ⟨(y200), (y203), (wrap64 (x18_1 + 1)), (by first | rfl | (simp; done) | (simp [*]; done)), H', ⟨by have := HK1.out; omega⟩, ⟨by (with_reducible repeat (first | apply Kd.R_alloc | apply Kd.R_drewN | apply Kd.R_drew)); exact Kd.R_mono HO202.out (fun _ hk => hk.2)⟩, ⟨by (with_reducible repeat (first | apply Kd.R_alloc | apply Kd.R_drewN | apply Kd.R_drew)); exact HO205.out⟩, ⟨by repeat (first | (with_reducible first | exact HB.out | apply below_alloc | apply pw_below_drewN | apply below_drew1) | exact HB.out)⟩⟩
            · rw [if_neg c12] at H
              exact absurd H (by simp)
          · rw [if_neg c11] at H
            exact absurd H (by simp)
        · rw [if_neg c10] at H
          have c10b0 : decide (x18_1 < (wrap64 (1 + (wrap64 (Int.tmod a0 20))))) = false := decide_eq_false c10
          clear c10
          have H' := Aside0.mk H
          clear H
          go_wp2
          repeat (go_quiet (fail); try go_wp2)
          go_loopg [17, 19] k1 (fun kq v17 v19 w' => ∃ (x17_2 : List Int) (x19_2 : Int), v19 = .int .i64 x19_2 ∧ Aside0 (linhaylaw18_GdsAlike.l1 kq l4 t199 (wrap64 (1 + (wrap64 (Int.tmod a0 20)))) (wrap64 (1 + (wrap64 (Int.tmod a2 50)))) (wrap64 (1 + (wrap64 (Int.tmod a1 10)))) x15_1 x16_1 x17_2 x19_2 = some r) ∧ Aside0 (kq ≤ k1) ∧ Aside0 (Kd.R (Kd.int .i64) 3 w' w.heap.size (fun k_ => some k_ ≠ (u16 : Value).ownBlock ∧ some k_ ≠ (v17 : Value).ownBlock) u15 x15_1) ∧ Aside0 (Kd.R (Kd.int .i64) 3 w' w.heap.size (fun k_ => some k_ ≠ (u15 : Value).ownBlock ∧ some k_ ≠ (v17 : Value).ownBlock) u16 x16_1) ∧ Aside0 (Kd.R (Kd.int .i64) 3 w' w.heap.size (fun k_ => some k_ ≠ (u15 : Value).ownBlock ∧ some k_ ≠ (u16 : Value).ownBlock) v17 x17_2) ∧ Aside0 (Below w.heap.size w w'))
          case atStart => exact ⟨(([] : List Int)), (0), (by first | rfl | (simp; done) | (simp [*]; done)), H', ⟨Nat.le_refl _⟩, ⟨by (with_reducible repeat (first | apply Kd.R_alloc | apply Kd.R_drewN | apply Kd.R_drew)); exact Kd.R_mono HO_15.out (fun _ hk => ⟨hk, (by simp [Value.ownBlock])⟩)⟩, ⟨by (with_reducible repeat (first | apply Kd.R_alloc | apply Kd.R_drewN | apply Kd.R_drew)); exact Kd.R_mono HO_16.out (fun _ hk => ⟨hk, (by simp [Value.ownBlock])⟩)⟩, ⟨by first | exact Kd.R_nil _ _ _ _ _ | exact Kd.N_nil _ _ _ _ _ | exact Kd.V_nil _ _ _ _ _ | exact Kd.Q_nil _ _ _ _ _ | exact Kd.S_nil _ _ _ _ _⟩, ⟨by repeat (first | (with_reducible first | exact HB.out | apply below_alloc | apply pw_below_drewN | apply below_drew1) | exact HB.out)⟩⟩
          case round =>
            clear H'
            try clear c1
            try clear p2
            try clear c4
            try clear c5
            try clear p6
            try clear c7
            try clear c7b0
            try clear c7b1
            try clear c10
            try clear c10b0
            try clear c11
            try clear c12
            try clear p2
            try clear p6
            obtain ⟨x17_2, x19_2, rfl, HA, HK2, HO_15, HO_16, HO_17, HB⟩ := hrel
            cases gk with
            | zero => exact absurd HA.out (by simp [linhaylaw18_GdsAlike.l1])
            | succ k2 =>
              have H := HA.out
              clear HA
              simp only [linhaylaw18_GdsAlike.l1] at H
              by_cases c15 : x19_2 < (l4.length : Int)
              · rw [if_pos c15] at H
                have c15b0 : decide (x19_2 < (l4.length : Int)) = true := decide_eq_true c15
                clear c15
                by_cases c16 : 0 ≤ x19_2
                · rw [if_pos c16] at H
                  have c16b0 : decide (0 ≤ x19_2) = true := decide_eq_true c16
                  clear c16
                  by_cases c17 : (wrap64 (1 + (wrap64 (Int.tmod a0 20)))) = 0
                  · rw [if_pos c17] at H
                    exact absurd H (by simp)
                  · rw [if_neg c17] at H
                    have c17b0 : ((wrap64 (1 + (wrap64 (Int.tmod a0 20)))) == 0) = false := beq_eq_false_iff_ne.mpr c17
                    have c17b1 : ((wrap64 (1 + (wrap64 (Int.tmod a0 20)))) != 0) = true := bne_iff_ne.mpr c17
                    by_cases c18 : x17_2.length < 17592186044416
                    · rw [if_pos c18] at H
                      have LMc18 := Aside0.mk c18
                      clear c18
                      obtain ⟨y207, hy207⟩ : ∃ y_ : List Int, y_ = (x17_2 ++ [Int.tmod (wrap64 (rd l4 x19_2)) (wrap64 (1 + (wrap64 (Int.tmod a0 20))))]) := ⟨_, rfl⟩
                      replace H : (linhaylaw18_GdsAlike.l1 k2 l4 t199 (wrap64 (1 + (wrap64 (Int.tmod a0 20)))) (wrap64 (1 + (wrap64 (Int.tmod a2 50)))) (wrap64 (1 + (wrap64 (Int.tmod a1 10)))) x15_1 x16_1 y207 (wrap64 (x19_2 + 1))) = some r := by first | (rw [hy207]; with_reducible exact H) | (have H2_ := (Option.bind_some _ _).symm.trans H; rw [hy207]; with_reducible exact H2_) | (have H2_ := (Option.bind_some _ _).symm.trans H; with_reducible exact H2_) | with_reducible exact H | (rw [hy207]; exact H) | exact H
                      have Ny207 := Aside0.mk hy207
                      clear hy207
                      have H' := Aside0.mk H
                      clear H
                      have p206 : 0 ≤ (x19_2 : Int) := of_decide_eq_true (by first | (with_reducible assumption) | assumption)
                      have q206 : x19_2 < (l4.length : Int) := of_decide_eq_true (by first | (with_reducible assumption) | assumption)
                      obtain ⟨ad206, e206, hx206_0⟩ := Kd.at_int HR4.out x19_2 p206 q206
                      cases e206
                      replace hx206_0 := (HB.out.cell (World.block_lt_of_cell? w _ hx206_0)).trans hx206_0
                      replace p206 := eq_true p206
                      replace q206 := eq_true q206
                      go_wp2_with (first | ((with_reducible refine gate_builtin (b := .append) (xs := #[.tmp 63, .tmp 71]) rfl ?_); (try (refine gate_guard (by rfl) ?_; dsimp only)); at_builtin; refine Kd.R_append (Kd.int .i64) (w0 := w) w.heap.size rfl (.tmp 63) (.tmp 71) 22 3 (.int .i64 0) 8 rfl Try.underlying22 info3 rfl (by decide) (by omega) u17 x17_2 (Int.tmod (wrap64 (rd l4 x19_2)) (wrap64 (1 + (wrap64 (Int.tmod a0 20))))) [.int .i64 (Int.tmod (wrap64 (rd l4 x19_2)) (wrap64 (1 + (wrap64 (Int.tmod a0 20)))))] (fun k_ => some k_ ≠ (u15 : Value).ownBlock ∧ some k_ ≠ (u16 : Value).ownBlock) (fun _ => False) rfl rfl ?aP (fun _ hk => hk.elim) ?aF ?aO ?aB ?aS ?aL ?_; (case aP => exact rfl); (case aB => exact (by repeat (first | (with_reducible first | exact HB.out | apply below_alloc | apply pw_below_drewN | apply below_drew1) | exact HB.out))); (case aF => exact (fun k_ hk => ⟨Kd.fresh' (Kd.R_lt (by (with_reducible repeat (first | apply Kd.R_alloc | apply Kd.R_drewN | apply Kd.R_drew)); exact HO_15.out)) k_ hk, Kd.fresh' (Kd.R_lt (by (with_reducible repeat (first | apply Kd.R_alloc | apply Kd.R_drewN | apply Kd.R_drew)); exact HO_16.out)) k_ hk⟩)); (case aO => exact (by (with_reducible repeat (first | apply Kd.R_alloc | apply Kd.R_drewN | apply Kd.R_drew)); exact HO_17.out)); (case aS => exact (below_size (by repeat (first | (with_reducible first | exact HB.out | apply below_alloc | apply pw_below_drewN | apply below_drew1) | exact HB.out)))); (case aL => have := LMc18.out; omega); intro v208 w19 ho hb hg hat; rw [← Ny207.out] at ho; have n0_ := Aside0.mk (Kd.R_after (ok := (fun k_ => some k_ ≠ (u16 : Value).ownBlock)) (by (with_reducible repeat (first | apply Kd.R_alloc | apply Kd.R_drewN | apply Kd.R_drew)); exact HO_15.out) hg hat); have n1_ := Aside0.mk (Kd.R_after (ok := (fun k_ => some k_ ≠ (u15 : Value).ownBlock)) (by (with_reducible repeat (first | apply Kd.R_alloc | apply Kd.R_drewN | apply Kd.R_drew)); exact HO_16.out) hg hat); have n2_ := Aside0.mk (hb); have n3_ := Aside0.mk (ho); clear HO_15; clear HO_16; clear HB; clear HO_17; have HO_15 := n0_; have HO_16 := n1_; have HB := n2_; have HO209 := n3_; clear n0_ n1_ n2_ n3_; clear ho hb hg hat))
                      repeat (go_quiet (first | ((with_reducible refine gate_builtin (b := .append) (xs := #[.tmp 63, .tmp 71]) rfl ?_); (try (refine gate_guard (by rfl) ?_; dsimp only)); at_builtin; refine Kd.R_append (Kd.int .i64) (w0 := w) w.heap.size rfl (.tmp 63) (.tmp 71) 22 3 (.int .i64 0) 8 rfl Try.underlying22 info3 rfl (by decide) (by omega) u17 x17_2 (Int.tmod (wrap64 (rd l4 x19_2)) (wrap64 (1 + (wrap64 (Int.tmod a0 20))))) [.int .i64 (Int.tmod (wrap64 (rd l4 x19_2)) (wrap64 (1 + (wrap64 (Int.tmod a0 20)))))] (fun k_ => some k_ ≠ (u15 : Value).ownBlock ∧ some k_ ≠ (u16 : Value).ownBlock) (fun _ => False) rfl rfl ?aP (fun _ hk => hk.elim) ?aF ?aO ?aB ?aS ?aL ?_; (case aP => exact rfl); (case aB => exact (by repeat (first | (with_reducible first | exact HB.out | apply below_alloc | apply pw_below_drewN | apply below_drew1) | exact HB.out))); (case aF => exact (fun k_ hk => ⟨Kd.fresh' (Kd.R_lt (by (with_reducible repeat (first | apply Kd.R_alloc | apply Kd.R_drewN | apply Kd.R_drew)); exact HO_15.out)) k_ hk, Kd.fresh' (Kd.R_lt (by (with_reducible repeat (first | apply Kd.R_alloc | apply Kd.R_drewN | apply Kd.R_drew)); exact HO_16.out)) k_ hk⟩)); (case aO => exact (by (with_reducible repeat (first | apply Kd.R_alloc | apply Kd.R_drewN | apply Kd.R_drew)); exact HO_17.out)); (case aS => exact (below_size (by repeat (first | (with_reducible first | exact HB.out | apply below_alloc | apply pw_below_drewN | apply below_drew1) | exact HB.out)))); (case aL => have := LMc18.out; omega); intro v208 w19 ho hb hg hat; rw [← Ny207.out] at ho; have n0_ := Aside0.mk (Kd.R_after (ok := (fun k_ => some k_ ≠ (u16 : Value).ownBlock)) (by (with_reducible repeat (first | apply Kd.R_alloc | apply Kd.R_drewN | apply Kd.R_drew)); exact HO_15.out) hg hat); have n1_ := Aside0.mk (Kd.R_after (ok := (fun k_ => some k_ ≠ (u15 : Value).ownBlock)) (by (with_reducible repeat (first | apply Kd.R_alloc | apply Kd.R_drewN | apply Kd.R_drew)); exact HO_16.out) hg hat); have n2_ := Aside0.mk (hb); have n3_ := Aside0.mk (ho); clear HO_15; clear HO_16; clear HB; clear HO_17; have HO_15 := n0_; have HO_16 := n1_; have HB := n2_; have HO209 := n3_; clear n0_ n1_ n2_ n3_; clear ho hb hg hat)); try go_wp2_with (first | ((with_reducible refine gate_builtin (b := .append) (xs := #[.tmp 63, .tmp 71]) rfl ?_); (try (refine gate_guard (by rfl) ?_; dsimp only)); at_builtin; refine Kd.R_append (Kd.int .i64) (w0 := w) w.heap.size rfl (.tmp 63) (.tmp 71) 22 3 (.int .i64 0) 8 rfl Try.underlying22 info3 rfl (by decide) (by omega) u17 x17_2 (Int.tmod (wrap64 (rd l4 x19_2)) (wrap64 (1 + (wrap64 (Int.tmod a0 20))))) [.int .i64 (Int.tmod (wrap64 (rd l4 x19_2)) (wrap64 (1 + (wrap64 (Int.tmod a0 20)))))] (fun k_ => some k_ ≠ (u15 : Value).ownBlock ∧ some k_ ≠ (u16 : Value).ownBlock) (fun _ => False) rfl rfl ?aP (fun _ hk => hk.elim) ?aF ?aO ?aB ?aS ?aL ?_; (case aP => exact rfl); (case aB => exact (by repeat (first | (with_reducible first | exact HB.out | apply below_alloc | apply pw_below_drewN | apply below_drew1) | exact HB.out))); (case aF => exact (fun k_ hk => ⟨Kd.fresh' (Kd.R_lt (by (with_reducible repeat (first | apply Kd.R_alloc | apply Kd.R_drewN | apply Kd.R_drew)); exact HO_15.out)) k_ hk, Kd.fresh' (Kd.R_lt (by (with_reducible repeat (first | apply Kd.R_alloc | apply Kd.R_drewN | apply Kd.R_drew)); exact HO_16.out)) k_ hk⟩)); (case aO => exact (by (with_reducible repeat (first | apply Kd.R_alloc | apply Kd.R_drewN | apply Kd.R_drew)); exact HO_17.out)); (case aS => exact (below_size (by repeat (first | (with_reducible first | exact HB.out | apply below_alloc | apply pw_below_drewN | apply below_drew1) | exact HB.out)))); (case aL => have := LMc18.out; omega); intro v208 w19 ho hb hg hat; rw [← Ny207.out] at ho; have n0_ := Aside0.mk (Kd.R_after (ok := (fun k_ => some k_ ≠ (u16 : Value).ownBlock)) (by (with_reducible repeat (first | apply Kd.R_alloc | apply Kd.R_drewN | apply Kd.R_drew)); exact HO_15.out) hg hat); have n1_ := Aside0.mk (Kd.R_after (ok := (fun k_ => some k_ ≠ (u15 : Value).ownBlock)) (by (with_reducible repeat (first | apply Kd.R_alloc | apply Kd.R_drewN | apply Kd.R_drew)); exact HO_16.out) hg hat); have n2_ := Aside0.mk (hb); have n3_ := Aside0.mk (ho); clear HO_15; clear HO_16; clear HB; clear HO_17; have HO_15 := n0_; have HO_16 := n1_; have HB := n2_; have HO209 := n3_; clear n0_ n1_ n2_ n3_; clear ho hb hg hat)))
                      go_roundg k2
                      case measure => have := HK1.out; have := HK2.out; omega
                      case rel => exact ⟨(y207), (wrap64 (x19_2 + 1)), (by first | rfl | (simp; done) | (simp [*]; done)), H', ⟨by have := HK1.out; have := HK2.out; omega⟩, ⟨by (with_reducible repeat (first | apply Kd.R_alloc | apply Kd.R_drewN | apply Kd.R_drew)); exact HO_15.out⟩, ⟨by (with_reducible repeat (first | apply Kd.R_alloc | apply Kd.R_drewN | apply Kd.R_drew)); exact HO_16.out⟩, ⟨by (with_reducible repeat (first | apply Kd.R_alloc | apply Kd.R_drewN | apply Kd.R_drew)); exact HO209.out⟩, ⟨by repeat (first | (with_reducible first | exact HB.out | apply below_alloc | apply pw_below_drewN | apply below_drew1) | exact HB.out)⟩⟩
                    · rw [if_neg c18] at H
                      exact absurd H (by simp)
                · rw [if_neg c16] at H
                  exact absurd H (by simp)
              · rw [if_neg c15] at H
                have c15b0 : decide (x19_2 < (l4.length : Int)) = false := decide_eq_false c15
                clear c15
                replace H := Option.bind_eq_some_iff.mp H
                obtain ⟨⟨t210, t211⟩, A200, H⟩ := H
                replace H : ((gds_Run.f k2 (wrap64 ((wrap64 ((wrap64 ((wrap64 (1 + (wrap64 (Int.tmod a1 10)))) * (wrap64 (1 + (wrap64 (Int.tmod a2 50)))))) + (wrap64 (1 + (wrap64 (Int.tmod a2 50)))))) - 1)) x15_1 x16_1 x17_2).bind fun bt214 => (linhaylaw18_GdsAlike.l2 k2 t199 (wrap64 (1 + (wrap64 (Int.tmod a1 10)))) t210 t211 bt214.1 bt214.2 0 0)) = some r := H
                have A20 := Aside0.mk A200
                clear A200
                replace H := Option.bind_eq_some_iff.mp H
                obtain ⟨⟨t214, t215⟩, A210, H⟩ := H
                replace H : (linhaylaw18_GdsAlike.l2 k2 t199 (wrap64 (1 + (wrap64 (Int.tmod a1 10)))) t210 t211 t214 t215 0 0) = some r := H
                have A21 := Aside0.mk A210
                clear A210
                have H' := Aside0.mk H
                clear H
                obtain ⟨Ao22, co22, eo22⟩ := Kd.R_slice HO_15.out
                subst eo22
                obtain ⟨Ao23, co23, eo23⟩ := Kd.R_slice HO_16.out
                subst eo23
                obtain ⟨Ao24, co24, eo24⟩ := Kd.R_slice HO_17.out
                subst eo24
                go_wp2_with (first | (go_at_call 10; (with_reducible refine (gds_Run.calls k2 (wrap64 ((wrap64 (1 + (wrap64 (Int.tmod a1 10)))) * (wrap64 (1 + (wrap64 (Int.tmod a2 50)))))) _ _ x15_1 _ _ x16_1 _ _ x17_2 t210 t211 _ ?side1 ?side2 ?side3 ?side4 ?side5 ?side6 A20.out).mono ?_); (case side1 => repeat (first | exact (Kd.R_reads' HO_15.out).2.2 | (with_reducible refine Kd.C_alloc ?_ _) | (with_reducible refine Kd.C_drewN ?_ _) | (with_reducible refine Kd.C_drew ?_))); (case side2 => exact (Kd.R_reads' HO_15.out).2.1); (case side3 => repeat (first | exact (Kd.R_reads' HO_16.out).2.2 | (with_reducible refine Kd.C_alloc ?_ _) | (with_reducible refine Kd.C_drewN ?_ _) | (with_reducible refine Kd.C_drew ?_))); (case side4 => exact (Kd.R_reads' HO_16.out).2.1); (case side5 => repeat (first | exact (Kd.R_reads' HO_17.out).2.2 | (with_reducible refine Kd.C_alloc ?_ _) | (with_reducible refine Kd.C_drewN ?_ _) | (with_reducible refine Kd.C_drew ?_))); (case side6 => exact (Kd.R_reads' HO_17.out).2.1); rintro e w25 ⟨v212, rfl, ho0, hb⟩; have n0_ := Aside0.mk (Kd.R_below (by (with_reducible repeat (first | apply Kd.R_alloc | apply Kd.R_drewN | apply Kd.R_drew)); exact HO_15.out) hb); have n1_ := Aside0.mk (Kd.R_below (by (with_reducible repeat (first | apply Kd.R_alloc | apply Kd.R_drewN | apply Kd.R_drew)); exact HO_16.out) hb); have n2_ := Aside0.mk (Kd.R_below (by (with_reducible repeat (first | apply Kd.R_alloc | apply Kd.R_drewN | apply Kd.R_drew)); exact HO_17.out) hb); have n3_ := Aside0.mk (Kd.S_lower (Kd.S_new' (Kd.S_new' (Kd.S_new' ho0 (Kd.R_lt (by (with_reducible repeat (first | apply Kd.R_alloc | apply Kd.R_drewN | apply Kd.R_drew)); exact HO_15.out))) (Kd.R_lt (by (with_reducible repeat (first | apply Kd.R_alloc | apply Kd.R_drewN | apply Kd.R_drew)); exact HO_16.out))) (Kd.R_lt (by (with_reducible repeat (first | apply Kd.R_alloc | apply Kd.R_drewN | apply Kd.R_drew)); exact HO_17.out))) (below_size (by repeat (first | (with_reducible first | exact HB.out | apply below_alloc | apply pw_below_drewN | apply below_drew1) | exact HB.out)))); have n4_ := Aside0.mk (below_step (by repeat (first | (with_reducible first | exact HB.out | apply below_alloc | apply pw_below_drewN | apply below_drew1) | exact HB.out)) hb); clear HO_15; clear HO_16; clear HO_17; clear HB; have HO_15 := n0_; have HO_16 := n1_; have HO_17 := n2_; have HO213 := n3_; have HB := n4_; clear n0_ n1_ n2_ n3_ n4_; (try clear hb); (try clear hb2); (try clear hk); (try clear hi); (try clear ho0)) | (go_at_call 10; (with_reducible refine (gds_Run.calls k2 (wrap64 ((wrap64 ((wrap64 ((wrap64 (1 + (wrap64 (Int.tmod a1 10)))) * (wrap64 (1 + (wrap64 (Int.tmod a2 50)))))) + (wrap64 (1 + (wrap64 (Int.tmod a2 50)))))) - 1)) _ _ x15_1 _ _ x16_1 _ _ x17_2 t214 t215 _ ?side1 ?side2 ?side3 ?side4 ?side5 ?side6 A21.out).mono ?_); (case side1 => repeat (first | exact (Kd.R_reads' HO_15.out).2.2 | (with_reducible refine Kd.C_alloc ?_ _) | (with_reducible refine Kd.C_drewN ?_ _) | (with_reducible refine Kd.C_drew ?_))); (case side2 => exact (Kd.R_reads' HO_15.out).2.1); (case side3 => repeat (first | exact (Kd.R_reads' HO_16.out).2.2 | (with_reducible refine Kd.C_alloc ?_ _) | (with_reducible refine Kd.C_drewN ?_ _) | (with_reducible refine Kd.C_drew ?_))); (case side4 => exact (Kd.R_reads' HO_16.out).2.1); (case side5 => repeat (first | exact (Kd.R_reads' HO_17.out).2.2 | (with_reducible refine Kd.C_alloc ?_ _) | (with_reducible refine Kd.C_drewN ?_ _) | (with_reducible refine Kd.C_drew ?_))); (case side6 => exact (Kd.R_reads' HO_17.out).2.1); rintro e w26 ⟨v216, rfl, ho0, hb⟩; have n0_ := Aside0.mk (Kd.R_below (by (with_reducible repeat (first | apply Kd.R_alloc | apply Kd.R_drewN | apply Kd.R_drew)); exact HO_15.out) hb); have n1_ := Aside0.mk (Kd.R_below (by (with_reducible repeat (first | apply Kd.R_alloc | apply Kd.R_drewN | apply Kd.R_drew)); exact HO_16.out) hb); have n2_ := Aside0.mk (Kd.R_below (by (with_reducible repeat (first | apply Kd.R_alloc | apply Kd.R_drewN | apply Kd.R_drew)); exact HO_17.out) hb); have n3_ := Aside0.mk (Kd.S_elder' (by (with_reducible repeat (first | apply Kd.S_alloc | apply Kd.S_drewN | apply Kd.S_drew)); exact HO213.out) (Kd.S_base ho0) hb); have n4_ := Aside0.mk (Kd.S_lower (Kd.S_new' (Kd.S_new' (Kd.S_new' (Kd.S_new' ho0 (Kd.R_lt (by (with_reducible repeat (first | apply Kd.R_alloc | apply Kd.R_drewN | apply Kd.R_drew)); exact HO_15.out))) (Kd.R_lt (by (with_reducible repeat (first | apply Kd.R_alloc | apply Kd.R_drewN | apply Kd.R_drew)); exact HO_16.out))) (Kd.R_lt (by (with_reducible repeat (first | apply Kd.R_alloc | apply Kd.R_drewN | apply Kd.R_drew)); exact HO_17.out))) (Kd.S_lt (by (with_reducible repeat (first | apply Kd.S_alloc | apply Kd.S_drewN | apply Kd.S_drew)); exact HO213.out))) (below_size (by repeat (first | (with_reducible first | exact HB.out | apply below_alloc | apply pw_below_drewN | apply below_drew1) | exact HB.out)))); have n5_ := Aside0.mk (below_step (by repeat (first | (with_reducible first | exact HB.out | apply below_alloc | apply pw_below_drewN | apply below_drew1) | exact HB.out)) hb); clear HO_15; clear HO_16; clear HO_17; clear HO213; clear HB; have HO_15 := n0_; have HO_16 := n1_; have HO_17 := n2_; have HO213 := n3_; have HO217 := n4_; have HB := n5_; clear n0_ n1_ n2_ n3_ n4_ n5_; (try clear hb); (try clear hb2); (try clear hk); (try clear hi); (try clear ho0)))
                repeat (go_quiet (first | (go_at_call 10; (with_reducible refine (gds_Run.calls k2 (wrap64 ((wrap64 (1 + (wrap64 (Int.tmod a1 10)))) * (wrap64 (1 + (wrap64 (Int.tmod a2 50)))))) _ _ x15_1 _ _ x16_1 _ _ x17_2 t210 t211 _ ?side1 ?side2 ?side3 ?side4 ?side5 ?side6 A20.out).mono ?_); (case side1 => repeat (first | exact (Kd.R_reads' HO_15.out).2.2 | (with_reducible refine Kd.C_alloc ?_ _) | (with_reducible refine Kd.C_drewN ?_ _) | (with_reducible refine Kd.C_drew ?_))); (case side2 => exact (Kd.R_reads' HO_15.out).2.1); (case side3 => repeat (first | exact (Kd.R_reads' HO_16.out).2.2 | (with_reducible refine Kd.C_alloc ?_ _) | (with_reducible refine Kd.C_drewN ?_ _) | (with_reducible refine Kd.C_drew ?_))); (case side4 => exact (Kd.R_reads' HO_16.out).2.1); (case side5 => repeat (first | exact (Kd.R_reads' HO_17.out).2.2 | (with_reducible refine Kd.C_alloc ?_ _) | (with_reducible refine Kd.C_drewN ?_ _) | (with_reducible refine Kd.C_drew ?_))); (case side6 => exact (Kd.R_reads' HO_17.out).2.1); rintro e w25 ⟨v212, rfl, ho0, hb⟩; have n0_ := Aside0.mk (Kd.R_below (by (with_reducible repeat (first | apply Kd.R_alloc | apply Kd.R_drewN | apply Kd.R_drew)); exact HO_15.out) hb); have n1_ := Aside0.mk (Kd.R_below (by (with_reducible repeat (first | apply Kd.R_alloc | apply Kd.R_drewN | apply Kd.R_drew)); exact HO_16.out) hb); have n2_ := Aside0.mk (Kd.R_below (by (with_reducible repeat (first | apply Kd.R_alloc | apply Kd.R_drewN | apply Kd.R_drew)); exact HO_17.out) hb); have n3_ := Aside0.mk (Kd.S_lower (Kd.S_new' (Kd.S_new' (Kd.S_new' ho0 (Kd.R_lt (by (with_reducible repeat (first | apply Kd.R_alloc | apply Kd.R_drewN | apply Kd.R_drew)); exact HO_15.out))) (Kd.R_lt (by (with_reducible repeat (first | apply Kd.R_alloc | apply Kd.R_drewN | apply Kd.R_drew)); exact HO_16.out))) (Kd.R_lt (by (with_reducible repeat (first | apply Kd.R_alloc | apply Kd.R_drewN | apply Kd.R_drew)); exact HO_17.out))) (below_size (by repeat (first | (with_reducible first | exact HB.out | apply below_alloc | apply pw_below_drewN | apply below_drew1) | exact HB.out)))); have n4_ := Aside0.mk (below_step (by repeat (first | (with_reducible first | exact HB.out | apply below_alloc | apply pw_below_drewN | apply below_drew1) | exact HB.out)) hb); clear HO_15; clear HO_16; clear HO_17; clear HB; have HO_15 := n0_; have HO_16 := n1_; have HO_17 := n2_; have HO213 := n3_; have HB := n4_; clear n0_ n1_ n2_ n3_ n4_; (try clear hb); (try clear hb2); (try clear hk); (try clear hi); (try clear ho0)) | (go_at_call 10; (with_reducible refine (gds_Run.calls k2 (wrap64 ((wrap64 ((wrap64 ((wrap64 (1 + (wrap64 (Int.tmod a1 10)))) * (wrap64 (1 + (wrap64 (Int.tmod a2 50)))))) + (wrap64 (1 + (wrap64 (Int.tmod a2 50)))))) - 1)) _ _ x15_1 _ _ x16_1 _ _ x17_2 t214 t215 _ ?side1 ?side2 ?side3 ?side4 ?side5 ?side6 A21.out).mono ?_); (case side1 => repeat (first | exact (Kd.R_reads' HO_15.out).2.2 | (with_reducible refine Kd.C_alloc ?_ _) | (with_reducible refine Kd.C_drewN ?_ _) | (with_reducible refine Kd.C_drew ?_))); (case side2 => exact (Kd.R_reads' HO_15.out).2.1); (case side3 => repeat (first | exact (Kd.R_reads' HO_16.out).2.2 | (with_reducible refine Kd.C_alloc ?_ _) | (with_reducible refine Kd.C_drewN ?_ _) | (with_reducible refine Kd.C_drew ?_))); (case side4 => exact (Kd.R_reads' HO_16.out).2.1); (case side5 => repeat (first | exact (Kd.R_reads' HO_17.out).2.2 | (with_reducible refine Kd.C_alloc ?_ _) | (with_reducible refine Kd.C_drewN ?_ _) | (with_reducible refine Kd.C_drew ?_))); (case side6 => exact (Kd.R_reads' HO_17.out).2.1); rintro e w26 ⟨v216, rfl, ho0, hb⟩; have n0_ := Aside0.mk (Kd.R_below (by (with_reducible repeat (first | apply Kd.R_alloc | apply Kd.R_drewN | apply Kd.R_drew)); exact HO_15.out) hb); have n1_ := Aside0.mk (Kd.R_below (by (with_reducible repeat (first | apply Kd.R_alloc | apply Kd.R_drewN | apply Kd.R_drew)); exact HO_16.out) hb); have n2_ := Aside0.mk (Kd.R_below (by (with_reducible repeat (first | apply Kd.R_alloc | apply Kd.R_drewN | apply Kd.R_drew)); exact HO_17.out) hb); have n3_ := Aside0.mk (Kd.S_elder' (by (with_reducible repeat (first | apply Kd.S_alloc | apply Kd.S_drewN | apply Kd.S_drew)); exact HO213.out) (Kd.S_base ho0) hb); have n4_ := Aside0.mk (Kd.S_lower (Kd.S_new' (Kd.S_new' (Kd.S_new' (Kd.S_new' ho0 (Kd.R_lt (by (with_reducible repeat (first | apply Kd.R_alloc | apply Kd.R_drewN | apply Kd.R_drew)); exact HO_15.out))) (Kd.R_lt (by (with_reducible repeat (first | apply Kd.R_alloc | apply Kd.R_drewN | apply Kd.R_drew)); exact HO_16.out))) (Kd.R_lt (by (with_reducible repeat (first | apply Kd.R_alloc | apply Kd.R_drewN | apply Kd.R_drew)); exact HO_17.out))) (Kd.S_lt (by (with_reducible repeat (first | apply Kd.S_alloc | apply Kd.S_drewN | apply Kd.S_drew)); exact HO213.out))) (below_size (by repeat (first | (with_reducible first | exact HB.out | apply below_alloc | apply pw_below_drewN | apply below_drew1) | exact HB.out)))); have n5_ := Aside0.mk (below_step (by repeat (first | (with_reducible first | exact HB.out | apply below_alloc | apply pw_below_drewN | apply below_drew1) | exact HB.out)) hb); clear HO_15; clear HO_16; clear HO_17; clear HO213; clear HB; have HO_15 := n0_; have HO_16 := n1_; have HO_17 := n2_; have HO213 := n3_; have HO217 := n4_; have HB := n5_; clear n0_ n1_ n2_ n3_ n4_ n5_; (try clear hb); (try clear hb2); (try clear hk); (try clear hi); (try clear ho0))); try go_wp2_with (first | (go_at_call 10; (with_reducible refine (gds_Run.calls k2 (wrap64 ((wrap64 (1 + (wrap64 (Int.tmod a1 10)))) * (wrap64 (1 + (wrap64 (Int.tmod a2 50)))))) _ _ x15_1 _ _ x16_1 _ _ x17_2 t210 t211 _ ?side1 ?side2 ?side3 ?side4 ?side5 ?side6 A20.out).mono ?_); (case side1 => repeat (first | exact (Kd.R_reads' HO_15.out).2.2 | (with_reducible refine Kd.C_alloc ?_ _) | (with_reducible refine Kd.C_drewN ?_ _) | (with_reducible refine Kd.C_drew ?_))); (case side2 => exact (Kd.R_reads' HO_15.out).2.1); (case side3 => repeat (first | exact (Kd.R_reads' HO_16.out).2.2 | (with_reducible refine Kd.C_alloc ?_ _) | (with_reducible refine Kd.C_drewN ?_ _) | (with_reducible refine Kd.C_drew ?_))); (case side4 => exact (Kd.R_reads' HO_16.out).2.1); (case side5 => repeat (first | exact (Kd.R_reads' HO_17.out).2.2 | (with_reducible refine Kd.C_alloc ?_ _) | (with_reducible refine Kd.C_drewN ?_ _) | (with_reducible refine Kd.C_drew ?_))); (case side6 => exact (Kd.R_reads' HO_17.out).2.1); rintro e w25 ⟨v212, rfl, ho0, hb⟩; have n0_ := Aside0.mk (Kd.R_below (by (with_reducible repeat (first | apply Kd.R_alloc | apply Kd.R_drewN | apply Kd.R_drew)); exact HO_15.out) hb); have n1_ := Aside0.mk (Kd.R_below (by (with_reducible repeat (first | apply Kd.R_alloc | apply Kd.R_drewN | apply Kd.R_drew)); exact HO_16.out) hb); have n2_ := Aside0.mk (Kd.R_below (by (with_reducible repeat (first | apply Kd.R_alloc | apply Kd.R_drewN | apply Kd.R_drew)); exact HO_17.out) hb); have n3_ := Aside0.mk (Kd.S_lower (Kd.S_new' (Kd.S_new' (Kd.S_new' ho0 (Kd.R_lt (by (with_reducible repeat (first | apply Kd.R_alloc | apply Kd.R_drewN | apply Kd.R_drew)); exact HO_15.out))) (Kd.R_lt (by (with_reducible repeat (first | apply Kd.R_alloc | apply Kd.R_drewN | apply Kd.R_drew)); exact HO_16.out))) (Kd.R_lt (by (with_reducible repeat (first | apply Kd.R_alloc | apply Kd.R_drewN | apply Kd.R_drew)); exact HO_17.out))) (below_size (by repeat (first | (with_reducible first | exact HB.out | apply below_alloc | apply pw_below_drewN | apply below_drew1) | exact HB.out)))); have n4_ := Aside0.mk (below_step (by repeat (first | (with_reducible first | exact HB.out | apply below_alloc | apply pw_below_drewN | apply below_drew1) | exact HB.out)) hb); clear HO_15; clear HO_16; clear HO_17; clear HB; have HO_15 := n0_; have HO_16 := n1_; have HO_17 := n2_; have HO213 := n3_; have HB := n4_; clear n0_ n1_ n2_ n3_ n4_; (try clear hb); (try clear hb2); (try clear hk); (try clear hi); (try clear ho0)) | (go_at_call 10; (with_reducible refine (gds_Run.calls k2 (wrap64 ((wrap64 ((wrap64 ((wrap64 (1 + (wrap64 (Int.tmod a1 10)))) * (wrap64 (1 + (wrap64 (Int.tmod a2 50)))))) + (wrap64 (1 + (wrap64 (Int.tmod a2 50)))))) - 1)) _ _ x15_1 _ _ x16_1 _ _ x17_2 t214 t215 _ ?side1 ?side2 ?side3 ?side4 ?side5 ?side6 A21.out).mono ?_); (case side1 => repeat (first | exact (Kd.R_reads' HO_15.out).2.2 | (with_reducible refine Kd.C_alloc ?_ _) | (with_reducible refine Kd.C_drewN ?_ _) | (with_reducible refine Kd.C_drew ?_))); (case side2 => exact (Kd.R_reads' HO_15.out).2.1); (case side3 => repeat (first | exact (Kd.R_reads' HO_16.out).2.2 | (with_reducible refine Kd.C_alloc ?_ _) | (with_reducible refine Kd.C_drewN ?_ _) | (with_reducible refine Kd.C_drew ?_))); (case side4 => exact (Kd.R_reads' HO_16.out).2.1); (case side5 => repeat (first | exact (Kd.R_reads' HO_17.out).2.2 | (with_reducible refine Kd.C_alloc ?_ _) | (with_reducible refine Kd.C_drewN ?_ _) | (with_reducible refine Kd.C_drew ?_))); (case side6 => exact (Kd.R_reads' HO_17.out).2.1); rintro e w26 ⟨v216, rfl, ho0, hb⟩; have n0_ := Aside0.mk (Kd.R_below (by (with_reducible repeat (first | apply Kd.R_alloc | apply Kd.R_drewN | apply Kd.R_drew)); exact HO_15.out) hb); have n1_ := Aside0.mk (Kd.R_below (by (with_reducible repeat (first | apply Kd.R_alloc | apply Kd.R_drewN | apply Kd.R_drew)); exact HO_16.out) hb); have n2_ := Aside0.mk (Kd.R_below (by (with_reducible repeat (first | apply Kd.R_alloc | apply Kd.R_drewN | apply Kd.R_drew)); exact HO_17.out) hb); have n3_ := Aside0.mk (Kd.S_elder' (by (with_reducible repeat (first | apply Kd.S_alloc | apply Kd.S_drewN | apply Kd.S_drew)); exact HO213.out) (Kd.S_base ho0) hb); have n4_ := Aside0.mk (Kd.S_lower (Kd.S_new' (Kd.S_new' (Kd.S_new' (Kd.S_new' ho0 (Kd.R_lt (by (with_reducible repeat (first | apply Kd.R_alloc | apply Kd.R_drewN | apply Kd.R_drew)); exact HO_15.out))) (Kd.R_lt (by (with_reducible repeat (first | apply Kd.R_alloc | apply Kd.R_drewN | apply Kd.R_drew)); exact HO_16.out))) (Kd.R_lt (by (with_reducible repeat (first | apply Kd.R_alloc | apply Kd.R_drewN | apply Kd.R_drew)); exact HO_17.out))) (Kd.S_lt (by (with_reducible repeat (first | apply Kd.S_alloc | apply Kd.S_drewN | apply Kd.S_drew)); exact HO213.out))) (below_size (by repeat (first | (with_reducible first | exact HB.out | apply below_alloc | apply pw_below_drewN | apply below_drew1) | exact HB.out)))); have n5_ := Aside0.mk (below_step (by repeat (first | (with_reducible first | exact HB.out | apply below_alloc | apply pw_below_drewN | apply below_drew1) | exact HB.out)) hb); clear HO_15; clear HO_16; clear HO_17; clear HO213; clear HB; have HO_15 := n0_; have HO_16 := n1_; have HO_17 := n2_; have HO213 := n3_; have HO217 := n4_; have HB := n5_; clear n0_ n1_ n2_ n3_ n4_ n5_; (try clear hb); (try clear hb2); (try clear hk); (try clear hi); (try clear ho0))))
                go_loopg [24, 25] k2 (fun kq v24 v25 w' => ∃ (x24_3 : Int) (x25_3 : Int), v24 = .int .i64 x24_3 ∧ v25 = .int .i64 x25_3 ∧ Aside0 (linhaylaw18_GdsAlike.l2 kq t199 (wrap64 (1 + (wrap64 (Int.tmod a1 10)))) t210 t211 t214 t215 x24_3 x25_3 = some r) ∧ Aside0 (kq ≤ k2) ∧ Aside0 (Kd.S k40 40 w' w.heap.size (fun k_ => some k_ ≠ (v216 : Value).ownBlock) v212 t210) ∧ Aside0 (Kd.S k40 40 w' w.heap.size (fun k_ => some k_ ≠ (v212 : Value).ownBlock) v216 t214) ∧ Aside0 (Below w.heap.size w w'))
                case atStart => exact ⟨(0), (0), (by first | rfl | (simp; done) | (simp [*]; done)), (by first | rfl | (simp; done) | (simp [*]; done)), H', ⟨Nat.le_refl _⟩, ⟨by (with_reducible repeat (first | apply Kd.S_alloc | apply Kd.S_drewN | apply Kd.S_drew)); exact Kd.S_mono HO213.out (fun _ hk => hk.2)⟩, ⟨by (with_reducible repeat (first | apply Kd.S_alloc | apply Kd.S_drewN | apply Kd.S_drew)); exact Kd.S_mono HO217.out (fun _ hk => hk.2)⟩, ⟨by repeat (first | (with_reducible first | exact HB.out | apply below_alloc | apply pw_below_drewN | apply below_drew1) | exact HB.out)⟩⟩
                case round =>
                  clear H'
                  try clear c1
                  try clear p2
                  try clear q2
                  try clear hx2
                  try clear c4
                  try clear c5
                  try clear p6
                  try clear c7
                  try clear c7b0
                  try clear c7b1
                  try clear c10
                  try clear c10b0
                  try clear c11
                  try clear c12
                  try clear c15
                  try clear c15b0
                  try clear c16
                  try clear c16b0
                  try clear c17
                  try clear c17b0
                  try clear c17b1
                  try clear c18
                  try clear p20
                  try clear q20
                  try clear hx20
                  try clear hx206_0
                  try clear p2
                  try clear p206
                  try clear p6
                  try clear q206
                  obtain ⟨x24_3, x25_3, rfl, rfl, HA, HK3, HO_20, HO_22, HB⟩ := hrel
                  cases gk with
                  | zero => exact absurd HA.out (by simp [linhaylaw18_GdsAlike.l2])
                  | succ k3 =>
                    have H := HA.out
                    clear HA
                    simp only [linhaylaw18_GdsAlike.l2] at H
                    by_cases c27 : x25_3 < (t210.length : Int)
                    · rw [if_pos c27] at H
                      have c27b0 : decide (x25_3 < (t210.length : Int)) = true := decide_eq_true c27
                      clear c27
                      by_cases c28 : 0 ≤ x25_3
                      · rw [if_pos c28] at H
                        have c28b0 : decide (0 ≤ x25_3) = true := decide_eq_true c28
                        clear c28
                        obtain ⟨bq29, hbq29⟩ : ∃ b_ : Bool, b_ = ((rd_T40 t210 x25_3).f0) := ⟨_, rfl⟩
                        replace H : (if (bq29 = true) then (if (((rd_T40 t210 x25_3).f1).length : Int) > 1 then (none) else (if (((((rd_T40 t210 x25_3).f1).length : Int) == 1) != false) = true then (none) else (linhaylaw18_GdsAlike.l2 k3 t199 (wrap64 (1 + (wrap64 (Int.tmod a1 10)))) t210 t211 t214 t215 x24_3 (wrap64 (x25_3 + 1))))) else (if (((rd_T40 t210 x25_3).f1).length : Int) > 1 then (none) else (if (((((rd_T40 t210 x25_3).f1).length : Int) == 1) != (decide ((wrap64 (x24_3 + 1)) > (wrap64 (1 + (wrap64 (Int.tmod a1 10))))))) = true then (none) else (linhaylaw18_GdsAlike.l2 k3 t199 (wrap64 (1 + (wrap64 (Int.tmod a1 10)))) t210 t211 t214 t215 (wrap64 (x24_3 + 1)) (wrap64 (x25_3 + 1)))))) = some r := by rw [← hbq29] at H; exact H
                        have Nbq29 := Aside0.mk hbq29
                        clear hbq29
                        by_cases c30 : (bq29 = true)
                        · subst c30
                          have H1 : (if (((rd_T40 t210 x25_3).f1).length : Int) > 1 then (none) else (if (((((rd_T40 t210 x25_3).f1).length : Int) == 1) != false) = true then (none) else (linhaylaw18_GdsAlike.l2 k3 t199 (wrap64 (1 + (wrap64 (Int.tmod a1 10)))) t210 t211 t214 t215 x24_3 (wrap64 (x25_3 + 1))))) = some r := by rw [if_pos rfl] at H; exact H
                          clear H
                          have H := H1
                          clear H1
                          by_cases c31 : (((rd_T40 t210 x25_3).f1).length : Int) > 1
                          · rw [if_pos c31] at H
                            exact absurd H (by simp)
                          · rw [if_neg c31] at H
                            have c31b0 : decide (1 < (((rd_T40 t210 x25_3).f1).length : Int)) = false := decide_eq_false c31
                            have c31b1 : decide (1 < ((rd_T40 t210 x25_3).f1).length) = false := decide_eq_false (by omega)
                            clear c31
                            by_cases c32 : (((((rd_T40 t210 x25_3).f1).length : Int) == 1) != false) = true
                            · rw [if_pos c32] at H
                              exact absurd H (by simp)
                            · rw [if_neg c32] at H
                              have c32b0 : (((((rd_T40 t210 x25_3).f1).length : Int) == 1) != false) = false := by simpa using c32
                              (try (have c32b1 : decide (((((rd_T40 t210 x25_3).f1).length : Int) == 1) = false) = true := by simpa using c32))
                              (try (have c32b2 : (((((rd_T40 t210 x25_3).f1).length : Int) == 1) == false) = true := by simpa using c32))
                              clear c32
                              have H' := Aside0.mk H
                              clear H
                              obtain ⟨Ao33, co33, eo33⟩ := Kd.S_slice HO_20.out
                              subst eo33
                              have p219 : 0 ≤ (x25_3 : Int) := of_decide_eq_true (by first | (with_reducible assumption) | assumption)
                              have q219 : x25_3 < (t210.length : Int) := of_decide_eq_true (by first | (with_reducible assumption) | assumption)
                              obtain ⟨ad219, A219_1, c219_1, e219, hx219_0, hx219_1, hl219_1, hi219_1⟩ := at_T40 (Kd.S_reads' HO_20.out).2.2 x25_3 p219 q219
                              (try rw [← Nbq29.out] at hx219_0)
                              cases e219
                              obtain ⟨ce219, hce219, hMe219, hcc219⟩ := Kd.S_get HO_20.out z40 x25_3 p219 (by first | exact q219 | exact of_decide_eq_true (by first | (with_reducible assumption) | assumption) | (have e_ := (Kd.S_reads' HO_20.out).1; omega))
                              obtain ⟨ve219_1, rfl, ge219_1⟩ := k40_openM hMe219
                              have hv219_1 := hcc219 1 _ rfl
                              rw [add_field _ _ 1 (by omega)] at hv219_1
                              replace hv219_1 := Option.some.inj (hv219_1.symm.trans hx219_1)
                              rw [hv219_1] at ge219_1
                              have HL219_1 := Aside0.mk (show Kd.R (Kd.int .i64) 3 _ _ _ _ ((rd_T40 t210 x25_3).f1) from ge219_1)
                              clear hv219_1 ge219_1
                              clear hcc219 hce219
                              have HR219_1 := Aside0.mk hi219_1
                              have HC219_1 := Aside0.mk hl219_1
                              clear hi219_1 hl219_1
                              replace p219 := eq_true p219
                              replace q219 := eq_true q219
                              have p220 : 0 ≤ (x25_3 : Int) := of_decide_eq_true (by first | (with_reducible assumption) | assumption)
                              have q220 : x25_3 < (t210.length : Int) := of_decide_eq_true (by first | (with_reducible assumption) | assumption)
                              obtain ⟨ad220, A220_1, c220_1, e220, hx220_0, hx220_1, hl220_1, hi220_1⟩ := at_T40 (Kd.S_reads' HO_20.out).2.2 x25_3 p220 q220
                              (try rw [← Nbq29.out] at hx220_0)
                              obtain rfl : ad219 = ad220 := (by injection e220)
                              obtain ⟨ce220, hce220, hMe220, hcc220⟩ := Kd.S_get HO_20.out z40 x25_3 p220 (by first | exact q220 | exact of_decide_eq_true (by first | (with_reducible assumption) | assumption) | (have e_ := (Kd.S_reads' HO_20.out).1; omega))
                              obtain ⟨ve220_1, rfl, ge220_1⟩ := k40_openM hMe220
                              have hv220_1 := hcc220 1 _ rfl
                              rw [add_field _ _ 1 (by omega)] at hv220_1
                              replace hv220_1 := Option.some.inj (hv220_1.symm.trans hx220_1)
                              rw [hv220_1] at ge220_1
                              have HL220_1 := Aside0.mk (show Kd.R (Kd.int .i64) 3 _ _ _ _ ((rd_T40 t210 x25_3).f1) from ge220_1)
                              clear hv220_1 ge220_1
                              clear hcc220 hce220
                              have HR220_1 := Aside0.mk hi220_1
                              have HC220_1 := Aside0.mk hl220_1
                              clear hi220_1 hl220_1
                              replace p220 := eq_true p220
                              replace q220 := eq_true q220
                              have ea_ := Option.some.inj (hx219_1.symm.trans hx220_1)
                              injection ea_ with ea_ en_ ec_
                              subst ea_
                              subst ec_
                              clear en_
                              have p221 : 0 ≤ (x25_3 : Int) := of_decide_eq_true (by first | (with_reducible assumption) | assumption)
                              have q221 : x25_3 < (t210.length : Int) := of_decide_eq_true (by first | (with_reducible assumption) | assumption)
                              obtain ⟨ad221, A221_1, c221_1, e221, hx221_0, hx221_1, hl221_1, hi221_1⟩ := at_T40 (Kd.S_reads' HO_20.out).2.2 x25_3 p221 q221
                              (try rw [← Nbq29.out] at hx221_0)
                              obtain rfl : ad219 = ad221 := (by injection e221)
                              obtain ⟨ce221, hce221, hMe221, hcc221⟩ := Kd.S_get HO_20.out z40 x25_3 p221 (by first | exact q221 | exact of_decide_eq_true (by first | (with_reducible assumption) | assumption) | (have e_ := (Kd.S_reads' HO_20.out).1; omega))
                              obtain ⟨ve221_1, rfl, ge221_1⟩ := k40_openM hMe221
                              have hv221_1 := hcc221 1 _ rfl
                              rw [add_field _ _ 1 (by omega)] at hv221_1
                              replace hv221_1 := Option.some.inj (hv221_1.symm.trans hx221_1)
                              rw [hv221_1] at ge221_1
                              have HL221_1 := Aside0.mk (show Kd.R (Kd.int .i64) 3 _ _ _ _ ((rd_T40 t210 x25_3).f1) from ge221_1)
                              clear hv221_1 ge221_1
                              clear hcc221 hce221
                              have HR221_1 := Aside0.mk hi221_1
                              have HC221_1 := Aside0.mk hl221_1
                              clear hi221_1 hl221_1
                              replace p221 := eq_true p221
                              replace q221 := eq_true q221
                              have ea_ := Option.some.inj (hx219_1.symm.trans hx221_1)
                              injection ea_ with ea_ en_ ec_
                              subst ea_
                              subst ec_
                              clear en_
                              have p222 : 0 ≤ (x25_3 : Int) := of_decide_eq_true (by first | (with_reducible assumption) | assumption)
                              have q222 : x25_3 < (t210.length : Int) := of_decide_eq_true (by first | (with_reducible assumption) | assumption)
                              obtain ⟨ad222, A222_1, c222_1, e222, hx222_0, hx222_1, hl222_1, hi222_1⟩ := at_T40 (Kd.S_reads' HO_20.out).2.2 x25_3 p222 q222
                              (try rw [← Nbq29.out] at hx222_0)
                              obtain rfl : ad219 = ad222 := (by injection e222)
                              obtain ⟨ce222, hce222, hMe222, hcc222⟩ := Kd.S_get HO_20.out z40 x25_3 p222 (by first | exact q222 | exact of_decide_eq_true (by first | (with_reducible assumption) | assumption) | (have e_ := (Kd.S_reads' HO_20.out).1; omega))
                              obtain ⟨ve222_1, rfl, ge222_1⟩ := k40_openM hMe222
                              have hv222_1 := hcc222 1 _ rfl
                              rw [add_field _ _ 1 (by omega)] at hv222_1
                              replace hv222_1 := Option.some.inj (hv222_1.symm.trans hx222_1)
                              rw [hv222_1] at ge222_1
                              have HL222_1 := Aside0.mk (show Kd.R (Kd.int .i64) 3 _ _ _ _ ((rd_T40 t210 x25_3).f1) from ge222_1)
                              clear hv222_1 ge222_1
                              clear hcc222 hce222
                              have HR222_1 := Aside0.mk hi222_1
                              have HC222_1 := Aside0.mk hl222_1
                              clear hi222_1 hl222_1
                              replace p222 := eq_true p222
                              replace q222 := eq_true q222
                              have ea_ := Option.some.inj (hx219_1.symm.trans hx222_1)
                              injection ea_ with ea_ en_ ec_
                              subst ea_
                              subst ec_
                              clear en_
                              go_wp2
                              repeat (go_quiet (fail); try go_wp2)
                              go_roundg k3
                              case measure => have := HK1.out; have := HK2.out; have := HK3.out; omega
                              case rel => exact ⟨(x24_3), (wrap64 (x25_3 + 1)), (by first | rfl | (simp; done) | (simp [*]; done)), (by first | rfl | (simp; done) | (simp [*]; done)), H', ⟨by have := HK1.out; have := HK2.out; have := HK3.out; omega⟩, ⟨by (with_reducible repeat (first | apply Kd.S_alloc | apply Kd.S_drewN | apply Kd.S_drew)); exact HO_20.out⟩, ⟨by (with_reducible repeat (first | apply Kd.S_alloc | apply Kd.S_drewN | apply Kd.S_drew)); exact HO_22.out⟩, ⟨by repeat (first | (with_reducible first | exact HB.out | apply below_alloc | apply pw_below_drewN | apply below_drew1) | exact HB.out)⟩⟩
                        · replace c30 := Bool.eq_false_iff.mpr c30
                          subst c30
                          have H1 : (if (((rd_T40 t210 x25_3).f1).length : Int) > 1 then (none) else (if (((((rd_T40 t210 x25_3).f1).length : Int) == 1) != (decide ((wrap64 (x24_3 + 1)) > (wrap64 (1 + (wrap64 (Int.tmod a1 10))))))) = true then (none) else (linhaylaw18_GdsAlike.l2 k3 t199 (wrap64 (1 + (wrap64 (Int.tmod a1 10)))) t210 t211 t214 t215 (wrap64 (x24_3 + 1)) (wrap64 (x25_3 + 1))))) = some r := by rw [if_neg (show ¬ (false = true) by decide)] at H; exact H
                          clear H
                          have H := H1
                          clear H1
                          by_cases c34 : (((rd_T40 t210 x25_3).f1).length : Int) > 1
                          · rw [if_pos c34] at H
                            exact absurd H (by simp)
                          · rw [if_neg c34] at H
                            have c34b0 : decide (1 < (((rd_T40 t210 x25_3).f1).length : Int)) = false := decide_eq_false c34
                            have c34b1 : decide (1 < ((rd_T40 t210 x25_3).f1).length) = false := decide_eq_false (by omega)
                            clear c34
                            by_cases c35 : (((((rd_T40 t210 x25_3).f1).length : Int) == 1) != (decide ((wrap64 (x24_3 + 1)) > (wrap64 (1 + (wrap64 (Int.tmod a1 10))))))) = true
                            · rw [if_pos c35] at H
                              exact absurd H (by simp)
                            · rw [if_neg c35] at H
                              have c35b0 : (((((rd_T40 t210 x25_3).f1).length : Int) == 1) != (decide ((wrap64 (x24_3 + 1)) > (wrap64 (1 + (wrap64 (Int.tmod a1 10))))))) = false := by simpa using c35
                              (try (have c35b1 : decide (((((rd_T40 t210 x25_3).f1).length : Int) == 1) = (decide ((wrap64 (x24_3 + 1)) > (wrap64 (1 + (wrap64 (Int.tmod a1 10))))))) = true := by simpa using c35))
                              (try (have c35b2 : (((((rd_T40 t210 x25_3).f1).length : Int) == 1) == (decide ((wrap64 (x24_3 + 1)) > (wrap64 (1 + (wrap64 (Int.tmod a1 10))))))) = true := by simpa using c35))
                              clear c35
                              have H' := Aside0.mk H
                              clear H
                              obtain ⟨Ao36, co36, eo36⟩ := Kd.S_slice HO_20.out
                              subst eo36
                              have p219 : 0 ≤ (x25_3 : Int) := of_decide_eq_true (by first | (with_reducible assumption) | assumption)
                              have q219 : x25_3 < (t210.length : Int) := of_decide_eq_true (by first | (with_reducible assumption) | assumption)
                              obtain ⟨ad219, A219_1, c219_1, e219, hx219_0, hx219_1, hl219_1, hi219_1⟩ := at_T40 (Kd.S_reads' HO_20.out).2.2 x25_3 p219 q219
                              (try rw [← Nbq29.out] at hx219_0)
                              cases e219
                              obtain ⟨ce219, hce219, hMe219, hcc219⟩ := Kd.S_get HO_20.out z40 x25_3 p219 (by first | exact q219 | exact of_decide_eq_true (by first | (with_reducible assumption) | assumption) | (have e_ := (Kd.S_reads' HO_20.out).1; omega))
                              obtain ⟨ve219_1, rfl, ge219_1⟩ := k40_openM hMe219
                              have hv219_1 := hcc219 1 _ rfl
                              rw [add_field _ _ 1 (by omega)] at hv219_1
                              replace hv219_1 := Option.some.inj (hv219_1.symm.trans hx219_1)
                              rw [hv219_1] at ge219_1
                              have HL219_1 := Aside0.mk (show Kd.R (Kd.int .i64) 3 _ _ _ _ ((rd_T40 t210 x25_3).f1) from ge219_1)
                              clear hv219_1 ge219_1
                              clear hcc219 hce219
                              have HR219_1 := Aside0.mk hi219_1
                              have HC219_1 := Aside0.mk hl219_1
                              clear hi219_1 hl219_1
                              replace p219 := eq_true p219
                              replace q219 := eq_true q219
                              have p223 : 0 ≤ (x25_3 : Int) := of_decide_eq_true (by first | (with_reducible assumption) | assumption)
                              have q223 : x25_3 < (t210.length : Int) := of_decide_eq_true (by first | (with_reducible assumption) | assumption)
                              obtain ⟨ad223, A223_1, c223_1, e223, hx223_0, hx223_1, hl223_1, hi223_1⟩ := at_T40 (Kd.S_reads' HO_20.out).2.2 x25_3 p223 q223
                              (try rw [← Nbq29.out] at hx223_0)
                              obtain rfl : ad219 = ad223 := (by injection e223)
                              obtain ⟨ce223, hce223, hMe223, hcc223⟩ := Kd.S_get HO_20.out z40 x25_3 p223 (by first | exact q223 | exact of_decide_eq_true (by first | (with_reducible assumption) | assumption) | (have e_ := (Kd.S_reads' HO_20.out).1; omega))
                              obtain ⟨ve223_1, rfl, ge223_1⟩ := k40_openM hMe223
                              have hv223_1 := hcc223 1 _ rfl
                              rw [add_field _ _ 1 (by omega)] at hv223_1
                              replace hv223_1 := Option.some.inj (hv223_1.symm.trans hx223_1)
                              rw [hv223_1] at ge223_1
                              have HL223_1 := Aside0.mk (show Kd.R (Kd.int .i64) 3 _ _ _ _ ((rd_T40 t210 x25_3).f1) from ge223_1)
                              clear hv223_1 ge223_1
                              clear hcc223 hce223
                              have HR223_1 := Aside0.mk hi223_1
                              have HC223_1 := Aside0.mk hl223_1
                              clear hi223_1 hl223_1
                              replace p223 := eq_true p223
                              replace q223 := eq_true q223
                              have ea_ := Option.some.inj (hx219_1.symm.trans hx223_1)
                              injection ea_ with ea_ en_ ec_
                              subst ea_
                              subst ec_
                              clear en_
                              have p224 : 0 ≤ (x25_3 : Int) := of_decide_eq_true (by first | (with_reducible assumption) | assumption)
                              have q224 : x25_3 < (t210.length : Int) := of_decide_eq_true (by first | (with_reducible assumption) | assumption)
                              obtain ⟨ad224, A224_1, c224_1, e224, hx224_0, hx224_1, hl224_1, hi224_1⟩ := at_T40 (Kd.S_reads' HO_20.out).2.2 x25_3 p224 q224
                              (try rw [← Nbq29.out] at hx224_0)
                              obtain rfl : ad219 = ad224 := (by injection e224)
                              obtain ⟨ce224, hce224, hMe224, hcc224⟩ := Kd.S_get HO_20.out z40 x25_3 p224 (by first | exact q224 | exact of_decide_eq_true (by first | (with_reducible assumption) | assumption) | (have e_ := (Kd.S_reads' HO_20.out).1; omega))
                              obtain ⟨ve224_1, rfl, ge224_1⟩ := k40_openM hMe224
                              have hv224_1 := hcc224 1 _ rfl
                              rw [add_field _ _ 1 (by omega)] at hv224_1
                              replace hv224_1 := Option.some.inj (hv224_1.symm.trans hx224_1)
                              rw [hv224_1] at ge224_1
                              have HL224_1 := Aside0.mk (show Kd.R (Kd.int .i64) 3 _ _ _ _ ((rd_T40 t210 x25_3).f1) from ge224_1)
                              clear hv224_1 ge224_1
                              clear hcc224 hce224
                              have HR224_1 := Aside0.mk hi224_1
                              have HC224_1 := Aside0.mk hl224_1
                              clear hi224_1 hl224_1
                              replace p224 := eq_true p224
                              replace q224 := eq_true q224
                              have ea_ := Option.some.inj (hx219_1.symm.trans hx224_1)
                              injection ea_ with ea_ en_ ec_
                              subst ea_
                              subst ec_
                              clear en_
                              have p225 : 0 ≤ (x25_3 : Int) := of_decide_eq_true (by first | (with_reducible assumption) | assumption)
                              have q225 : x25_3 < (t210.length : Int) := of_decide_eq_true (by first | (with_reducible assumption) | assumption)
                              obtain ⟨ad225, A225_1, c225_1, e225, hx225_0, hx225_1, hl225_1, hi225_1⟩ := at_T40 (Kd.S_reads' HO_20.out).2.2 x25_3 p225 q225
                              (try rw [← Nbq29.out] at hx225_0)
                              obtain rfl : ad219 = ad225 := (by injection e225)
                              obtain ⟨ce225, hce225, hMe225, hcc225⟩ := Kd.S_get HO_20.out z40 x25_3 p225 (by first | exact q225 | exact of_decide_eq_true (by first | (with_reducible assumption) | assumption) | (have e_ := (Kd.S_reads' HO_20.out).1; omega))
                              obtain ⟨ve225_1, rfl, ge225_1⟩ := k40_openM hMe225
                              have hv225_1 := hcc225 1 _ rfl
                              rw [add_field _ _ 1 (by omega)] at hv225_1
                              replace hv225_1 := Option.some.inj (hv225_1.symm.trans hx225_1)
                              rw [hv225_1] at ge225_1
                              have HL225_1 := Aside0.mk (show Kd.R (Kd.int .i64) 3 _ _ _ _ ((rd_T40 t210 x25_3).f1) from ge225_1)
                              clear hv225_1 ge225_1
                              clear hcc225 hce225
                              have HR225_1 := Aside0.mk hi225_1
                              have HC225_1 := Aside0.mk hl225_1
                              clear hi225_1 hl225_1
                              replace p225 := eq_true p225
                              replace q225 := eq_true q225
                              have ea_ := Option.some.inj (hx219_1.symm.trans hx225_1)
                              injection ea_ with ea_ en_ ec_
                              subst ea_
                              subst ec_
                              clear en_
                              go_wp2
                              repeat (go_quiet (fail); try go_wp2)
                              go_roundg k3
                              case measure => have := HK1.out; have := HK2.out; have := HK3.out; omega
                              case rel => exact ⟨(wrap64 (x24_3 + 1)), (wrap64 (x25_3 + 1)), (by first | rfl | (simp; done) | (simp [*]; done)), (by first | rfl | (simp; done) | (simp [*]; done)), H', ⟨by have := HK1.out; have := HK2.out; have := HK3.out; omega⟩, ⟨by (with_reducible repeat (first | apply Kd.S_alloc | apply Kd.S_drewN | apply Kd.S_drew)); exact HO_20.out⟩, ⟨by (with_reducible repeat (first | apply Kd.S_alloc | apply Kd.S_drewN | apply Kd.S_drew)); exact HO_22.out⟩, ⟨by repeat (first | (with_reducible first | exact HB.out | apply below_alloc | apply pw_below_drewN | apply below_drew1) | exact HB.out)⟩⟩
                      · rw [if_neg c28] at H
                        exact absurd H (by simp)
                    · rw [if_neg c27] at H
                      have c27b0 : decide (x25_3 < (t210.length : Int)) = false := decide_eq_false c27
                      clear c27
                      by_cases c37 : t199 = true
                      · subst c37
                        have H1 : (if t211 = 0 then (if t215 = 0 then ((linhayref18_Same.f k3 t210 t214).bind fun t218 => (some t218)) else (none)) else (none)) = some r := by rw [if_pos rfl] at H; exact H
                        clear H
                        have H := H1
                        clear H1
                        by_cases c38 : t211 = 0
                        · rw [if_pos c38] at H
                          have c38b0 : (t211 == 0) = true := beq_iff_eq.mpr c38
                          have c38b1 : (t211 != 0) = false := bne_eq_false_iff_eq.mpr c38
                          clear c38
                          by_cases c39 : t215 = 0
                          · rw [if_pos c39] at H
                            have c39b0 : (t215 == 0) = true := beq_iff_eq.mpr c39
                            have c39b1 : (t215 != 0) = false := bne_eq_false_iff_eq.mpr c39
                            clear c39
                            replace H := Option.bind_eq_some_iff.mp H
                            obtain ⟨t218, A400, H⟩ := H
                            replace H : (some t218) = some r := H
                            have A40 := Aside0.mk A400
                            clear A400
                            obtain rfl := Option.some.inj H
                            obtain ⟨Ao41, co41, eo41⟩ := Kd.S_slice HO_20.out
                            subst eo41
                            obtain ⟨Ao42, co42, eo42⟩ := Kd.S_slice HO_22.out
                            subst eo42
                            go_wp2_with (first | (go_at_call 12; (with_reducible refine (linhayref18_Same.calls k3 _ _ t210 _ _ t214 t218 _ ?side1 ?side2 ?side3 ?side4 A40.out).mono ?_); (case side1 => repeat (first | exact (Kd.S_reads' HO_20.out).2.2 | (with_reducible refine Kd.C_alloc ?_ _) | (with_reducible refine Kd.C_drewN ?_ _) | (with_reducible refine Kd.C_drew ?_))); (case side2 => exact (Kd.S_reads' HO_20.out).2.1); (case side3 => repeat (first | exact (Kd.S_reads' HO_22.out).2.2 | (with_reducible refine Kd.C_alloc ?_ _) | (with_reducible refine Kd.C_drewN ?_ _) | (with_reducible refine Kd.C_drew ?_))); (case side4 => exact (Kd.S_reads' HO_22.out).2.1); rintro e w' ⟨rfl, ⟨nd, rfl⟩⟩; (try first | exact ⟨rfl, _, World.drewN_drewN _ _ _⟩ | exact ⟨rfl, _, Eq.trans (World.drewN_drewN _ _ _) (congrArg (World.drewN _) (Nat.add_assoc _ _ _))⟩)))
                            repeat (go_quiet (first | (go_at_call 12; (with_reducible refine (linhayref18_Same.calls k3 _ _ t210 _ _ t214 t218 _ ?side1 ?side2 ?side3 ?side4 A40.out).mono ?_); (case side1 => repeat (first | exact (Kd.S_reads' HO_20.out).2.2 | (with_reducible refine Kd.C_alloc ?_ _) | (with_reducible refine Kd.C_drewN ?_ _) | (with_reducible refine Kd.C_drew ?_))); (case side2 => exact (Kd.S_reads' HO_20.out).2.1); (case side3 => repeat (first | exact (Kd.S_reads' HO_22.out).2.2 | (with_reducible refine Kd.C_alloc ?_ _) | (with_reducible refine Kd.C_drewN ?_ _) | (with_reducible refine Kd.C_drew ?_))); (case side4 => exact (Kd.S_reads' HO_22.out).2.1); rintro e w' ⟨rfl, ⟨nd, rfl⟩⟩; (try first | exact ⟨rfl, _, World.drewN_drewN _ _ _⟩ | exact ⟨rfl, _, Eq.trans (World.drewN_drewN _ _ _) (congrArg (World.drewN _) (Nat.add_assoc _ _ _))⟩))); try go_wp2_with (first | (go_at_call 12; (with_reducible refine (linhayref18_Same.calls k3 _ _ t210 _ _ t214 t218 _ ?side1 ?side2 ?side3 ?side4 A40.out).mono ?_); (case side1 => repeat (first | exact (Kd.S_reads' HO_20.out).2.2 | (with_reducible refine Kd.C_alloc ?_ _) | (with_reducible refine Kd.C_drewN ?_ _) | (with_reducible refine Kd.C_drew ?_))); (case side2 => exact (Kd.S_reads' HO_20.out).2.1); (case side3 => repeat (first | exact (Kd.S_reads' HO_22.out).2.2 | (with_reducible refine Kd.C_alloc ?_ _) | (with_reducible refine Kd.C_drewN ?_ _) | (with_reducible refine Kd.C_drew ?_))); (case side4 => exact (Kd.S_reads' HO_22.out).2.1); rintro e w' ⟨rfl, ⟨nd, rfl⟩⟩; (try first | exact ⟨rfl, _, World.drewN_drewN _ _ _⟩ | exact ⟨rfl, _, Eq.trans (World.drewN_drewN _ _ _) (congrArg (World.drewN _) (Nat.add_assoc _ _ _))⟩))))
                            go_ret
                            exact ⟨by first | rfl | (simp [errW_none, errW_some] <;> rfl) | (simp [*, errW_none, errW_some] <;> rfl), by repeat (first | (with_reducible first | exact HB.out | apply below_alloc | apply pw_below_drewN | apply below_drew1) | exact HB.out)⟩
                          · rw [if_neg c39] at H
                            exact absurd H (by simp)
                        · rw [if_neg c38] at H
                          exact absurd H (by simp)
                      · replace c37 := Bool.eq_false_iff.mpr c37
                        subst c37
                        have H1 : (none) = some r := by rw [if_neg (show ¬ (false = true) by decide)] at H; exact H
                        clear H
                        have H := H1
                        clear H1
                        exact absurd H (by simp)

/-- THE ONE PURE STATEMENT of linhaylaw18_GdsAlike: yours. -/
def linhaylaw18_GdsAlike.Pure : Prop := ∀ (a0 : Int) (a1 : Int) (a2 : Int) (a3 : Int) (l4 : List Int), (Lit.int .u8 a0).wf = true → (Lit.int .u8 a1).wf = true → (Lit.int .u8 a2).wf = true → (Lit.int .u16 a3).wf = true → l4.length ≤ maxLen → l4.length * 1 ≤ 140737488351232 → (∀ x ∈ l4, (Lit.int .u8 x).wf = true) → ∃ k, linhaylaw18_GdsAlike.f k a0 a1 a2 a3 l4 = some true
theorem linhaylaw18_GdsAlike.walk (P : linhaylaw18_GdsAlike.Pure) (a0 : Int) (a1 : Int) (a2 : Int) (a3 : Int) (a4 : Option Addr) (len4 cap4 : Nat) (z4 : List Int) (w : World) (w0 : (Lit.int .u8 a0).wf = true) (w1 : (Lit.int .u8 a1).wf = true) (w2 : (Lit.int .u8 a2).wf = true) (w3 : (Lit.int .u16 a3).wf = true) (w4 : (a4 = none ∧ len4 = 0 ∧ cap4 = 0 ∧ z4 = []) ∨ ∃ x, a4 = some x ∧ len4 ≤ cap4 ∧ cap4 ≤ maxLen ∧ z4.length = cap4 ∧ (∀ i, i < z4.length → w.cell? (x.add i) = some (.int .u8 (z4.getD i 0))) ∧ ∀ n ∈ z4, (Lit.int .u8 n).wf = true) (y4 : len4 * 1 ≤ 140737488351232) :
    Calls Try.prog 5 #[.int .u8 a0, .int .u8 a1, .int .u8 a2, .int .u16 a3, .slice a4 len4 cap4] w fun e w' => e = .returned (.bool true) ∧ Below w.heap.size w w' := by
  obtain ⟨l4, rfl, hr4, hm4, hw4, hc4⟩ := ReadsInt.ofRowC w4
  obtain ⟨k, h⟩ := P a0 a1 a2 a3 l4 w0 w1 w2 w3 hm4 y4 hw4
  refine (linhaylaw18_GdsAlike.calls k a0 a1 a2 a3 _ _ l4 true w (Kd.C_of_reads (d := (0 : Int)) (h1 := fun _ => rfl) hr4) hc4 h).mono ?_
  rintro e w' ⟨rfl, hd⟩
  exact ⟨rfl, hd⟩

/-! ### linhaylaw18_GdsWeight: function 7 -/
def linhaylaw18_GdsWeight.f (k : Nat) (a0 : Int) (a1 : Int) (a2 : Int) (a3 : Int) (a4 : Int) : Option (Bool) := (linhaylaw18_awake.f k).bind fun t226 => (if t226 = true then ((gds_Weight.f k 1 (mn a0 a1) (mx (mx a2 a4) 1) a3).bind fun t227 => ((gds_Weight.f k 1 (mx a0 a1) (mx (mx a2 a4) 1) a4).bind fun t228 => (if t227 ≤ t228 then ((gds_Weight.f k 2 (mn a0 a1) (mx (mx a2 a4) 1) a3).bind fun t229 => ((gds_Weight.f k 2 (mx a0 a1) (mx (mx a2 a4) 1) a3).bind fun t230 => (if t229 ≤ t230 then ((gds_Weight.f k 1 a0 (mx (mx a2 a4) 1) 0).bind fun t231 => ((gds_Weight.f k 1 a0 (mx (mn a2 a4) 1) 0).bind fun t232 => (if t231 ≤ t232 then ((gds_Weight.f k 2 a0 (mx (mx a2 a4) 1) 1).bind fun t233 => ((gds_Weight.f k 1 a0 (mx (mx a2 a4) 1) 7).bind fun t234 => (if t233 = t234 then ((gds_Weight.f k 2 a0 (mx (mx a2 a4) 1) (mn a3 a4)).bind fun t235 => ((gds_Weight.f k 2 a0 (mx (mx a2 a4) 1) (mx a3 a4)).bind fun t236 => (some (decide (t235 ≤ t236))))) else (none)))) else (none)))) else (none)))) else (none)))) else (none))
theorem linhaylaw18_GdsWeight.mono : ∀ a0 a1 a2 a3 a4 k, LeO (linhaylaw18_GdsWeight.f k a0 a1 a2 a3 a4) (linhaylaw18_GdsWeight.f (k + 1) a0 a1 a2 a3 a4) := by
  intro a0 a1 a2 a3 a4 k
  unfold linhaylaw18_GdsWeight.f
  repeat' first
      | (with_reducible exact gds_Weight.mono _ _ _ _ _)
      | (with_reducible exact linhaylaw18_awake.mono _)
      | (with_reducible exact LeO.refl _)
      | (with_reducible exact LeO.none _)
      | (with_reducible refine LeO.ite ?_ ?_)
      | (with_reducible refine LeO.bind ?_ (fun _ => ?_))
      | exact gds_Weight.mono _ _ _ _ _
      | exact linhaylaw18_awake.mono _
      | exact LeO.none _
      | refine LeO.ite ?_ ?_
      | refine LeO.bind ?_ (fun _ => ?_)
set_option maxHeartbeats 8000000 in
set_option maxRecDepth 100000 in
theorem linhaylaw18_GdsWeight.calls (k : Nat) (a0 : Int) (a1 : Int) (a2 : Int) (a3 : Int) (a4 : Int) (r : Bool) (w : World) (h : linhaylaw18_GdsWeight.f k a0 a1 a2 a3 a4 = some r) :
    Calls Try.prog 7 #[.int .u64 a0, .int .u64 a1, .int .u64 a2, .int .u64 a3, .int .u64 a4] w fun e w' => e = .returned (.bool r) ∧ Below w.heap.size w w' := by
  have HB := Aside0.mk (Below.refl w.heap.size w)
  have H : ((linhaylaw18_awake.f k).bind fun t226 => (if t226 = true then ((gds_Weight.f k 1 (mn a0 a1) (mx (mx a2 a4) 1) a3).bind fun t227 => ((gds_Weight.f k 1 (mx a0 a1) (mx (mx a2 a4) 1) a4).bind fun t228 => (if t227 ≤ t228 then ((gds_Weight.f k 2 (mn a0 a1) (mx (mx a2 a4) 1) a3).bind fun t229 => ((gds_Weight.f k 2 (mx a0 a1) (mx (mx a2 a4) 1) a3).bind fun t230 => (if t229 ≤ t230 then ((gds_Weight.f k 1 a0 (mx (mx a2 a4) 1) 0).bind fun t231 => ((gds_Weight.f k 1 a0 (mx (mn a2 a4) 1) 0).bind fun t232 => (if t231 ≤ t232 then ((gds_Weight.f k 2 a0 (mx (mx a2 a4) 1) 1).bind fun t233 => ((gds_Weight.f k 1 a0 (mx (mx a2 a4) 1) 7).bind fun t234 => (if t233 = t234 then ((gds_Weight.f k 2 a0 (mx (mx a2 a4) 1) (mn a3 a4)).bind fun t235 => ((gds_Weight.f k 2 a0 (mx (mx a2 a4) 1) (mx a3 a4)).bind fun t236 => (some (decide (t235 ≤ t236))))) else (none)))) else (none)))) else (none)))) else (none)))) else (none))) = some r := h
  clear h
  replace H := Option.bind_eq_some_iff.mp H
  obtain ⟨t226, A60, H⟩ := H
  replace H : (if t226 = true then ((gds_Weight.f k 1 (mn a0 a1) (mx (mx a2 a4) 1) a3).bind fun t227 => ((gds_Weight.f k 1 (mx a0 a1) (mx (mx a2 a4) 1) a4).bind fun t228 => (if t227 ≤ t228 then ((gds_Weight.f k 2 (mn a0 a1) (mx (mx a2 a4) 1) a3).bind fun t229 => ((gds_Weight.f k 2 (mx a0 a1) (mx (mx a2 a4) 1) a3).bind fun t230 => (if t229 ≤ t230 then ((gds_Weight.f k 1 a0 (mx (mx a2 a4) 1) 0).bind fun t231 => ((gds_Weight.f k 1 a0 (mx (mn a2 a4) 1) 0).bind fun t232 => (if t231 ≤ t232 then ((gds_Weight.f k 2 a0 (mx (mx a2 a4) 1) 1).bind fun t233 => ((gds_Weight.f k 1 a0 (mx (mx a2 a4) 1) 7).bind fun t234 => (if t233 = t234 then ((gds_Weight.f k 2 a0 (mx (mx a2 a4) 1) (mn a3 a4)).bind fun t235 => ((gds_Weight.f k 2 a0 (mx (mx a2 a4) 1) (mx a3 a4)).bind fun t236 => (some (decide (t235 ≤ t236))))) else (none)))) else (none)))) else (none)))) else (none)))) else (none)) = some r := H
  have A6 := Aside0.mk A60
  clear A60
  obtain ⟨ji7, hji7⟩ : ∃ j_ : Int, (mn a0 a1) = j_ := ⟨_, rfl⟩
  replace H : (if t226 = true then ((gds_Weight.f k 1 (ji7) (mx (mx a2 a4) 1) a3).bind fun t227 => ((gds_Weight.f k 1 (mx a0 a1) (mx (mx a2 a4) 1) a4).bind fun t228 => (if t227 ≤ t228 then ((gds_Weight.f k 2 (ji7) (mx (mx a2 a4) 1) a3).bind fun t229 => ((gds_Weight.f k 2 (mx a0 a1) (mx (mx a2 a4) 1) a3).bind fun t230 => (if t229 ≤ t230 then ((gds_Weight.f k 1 a0 (mx (mx a2 a4) 1) 0).bind fun t231 => ((gds_Weight.f k 1 a0 (mx (mn a2 a4) 1) 0).bind fun t232 => (if t231 ≤ t232 then ((gds_Weight.f k 2 a0 (mx (mx a2 a4) 1) 1).bind fun t233 => ((gds_Weight.f k 1 a0 (mx (mx a2 a4) 1) 7).bind fun t234 => (if t233 = t234 then ((gds_Weight.f k 2 a0 (mx (mx a2 a4) 1) (mn a3 a4)).bind fun t235 => ((gds_Weight.f k 2 a0 (mx (mx a2 a4) 1) (mx a3 a4)).bind fun t236 => (some (decide (t235 ≤ t236))))) else (none)))) else (none)))) else (none)))) else (none)))) else (none)) = some r := by first | (rw [hji7] at H; exact H) | (simp only [hji7] at H ⊢; exact H)
  (try rw [hji7] at A6)
  have hji7_ : (if a1 < a0 then a1 else a0) = ji7 := hji7
  obtain ⟨ji8, hji8⟩ : ∃ j_ : Int, (mx a0 a1) = j_ := ⟨_, rfl⟩
  replace H : (if t226 = true then ((gds_Weight.f k 1 (ji7) (mx (mx a2 a4) 1) a3).bind fun t227 => ((gds_Weight.f k 1 (ji8) (mx (mx a2 a4) 1) a4).bind fun t228 => (if t227 ≤ t228 then ((gds_Weight.f k 2 (ji7) (mx (mx a2 a4) 1) a3).bind fun t229 => ((gds_Weight.f k 2 (ji8) (mx (mx a2 a4) 1) a3).bind fun t230 => (if t229 ≤ t230 then ((gds_Weight.f k 1 a0 (mx (mx a2 a4) 1) 0).bind fun t231 => ((gds_Weight.f k 1 a0 (mx (mn a2 a4) 1) 0).bind fun t232 => (if t231 ≤ t232 then ((gds_Weight.f k 2 a0 (mx (mx a2 a4) 1) 1).bind fun t233 => ((gds_Weight.f k 1 a0 (mx (mx a2 a4) 1) 7).bind fun t234 => (if t233 = t234 then ((gds_Weight.f k 2 a0 (mx (mx a2 a4) 1) (mn a3 a4)).bind fun t235 => ((gds_Weight.f k 2 a0 (mx (mx a2 a4) 1) (mx a3 a4)).bind fun t236 => (some (decide (t235 ≤ t236))))) else (none)))) else (none)))) else (none)))) else (none)))) else (none)) = some r := by first | (rw [hji8] at H; exact H) | (simp only [hji8] at H ⊢; exact H)
  (try rw [hji8] at A6)
  have hji8_ : (if a0 < a1 then a1 else a0) = ji8 := hji8
  obtain ⟨ji9, hji9⟩ : ∃ j_ : Int, (mn a2 a4) = j_ := ⟨_, rfl⟩
  replace H : (if t226 = true then ((gds_Weight.f k 1 (ji7) (mx (mx a2 a4) 1) a3).bind fun t227 => ((gds_Weight.f k 1 (ji8) (mx (mx a2 a4) 1) a4).bind fun t228 => (if t227 ≤ t228 then ((gds_Weight.f k 2 (ji7) (mx (mx a2 a4) 1) a3).bind fun t229 => ((gds_Weight.f k 2 (ji8) (mx (mx a2 a4) 1) a3).bind fun t230 => (if t229 ≤ t230 then ((gds_Weight.f k 1 a0 (mx (mx a2 a4) 1) 0).bind fun t231 => ((gds_Weight.f k 1 a0 (mx (ji9) 1) 0).bind fun t232 => (if t231 ≤ t232 then ((gds_Weight.f k 2 a0 (mx (mx a2 a4) 1) 1).bind fun t233 => ((gds_Weight.f k 1 a0 (mx (mx a2 a4) 1) 7).bind fun t234 => (if t233 = t234 then ((gds_Weight.f k 2 a0 (mx (mx a2 a4) 1) (mn a3 a4)).bind fun t235 => ((gds_Weight.f k 2 a0 (mx (mx a2 a4) 1) (mx a3 a4)).bind fun t236 => (some (decide (t235 ≤ t236))))) else (none)))) else (none)))) else (none)))) else (none)))) else (none)) = some r := by first | (rw [hji9] at H; exact H) | (simp only [hji9] at H ⊢; exact H)
  (try rw [hji9] at A6)
  have hji9_ : (if a4 < a2 then a4 else a2) = ji9 := hji9
  obtain ⟨ji10, hji10⟩ : ∃ j_ : Int, (mx (ji9) 1) = j_ := ⟨_, rfl⟩
  replace H : (if t226 = true then ((gds_Weight.f k 1 (ji7) (mx (mx a2 a4) 1) a3).bind fun t227 => ((gds_Weight.f k 1 (ji8) (mx (mx a2 a4) 1) a4).bind fun t228 => (if t227 ≤ t228 then ((gds_Weight.f k 2 (ji7) (mx (mx a2 a4) 1) a3).bind fun t229 => ((gds_Weight.f k 2 (ji8) (mx (mx a2 a4) 1) a3).bind fun t230 => (if t229 ≤ t230 then ((gds_Weight.f k 1 a0 (mx (mx a2 a4) 1) 0).bind fun t231 => ((gds_Weight.f k 1 a0 (ji10) 0).bind fun t232 => (if t231 ≤ t232 then ((gds_Weight.f k 2 a0 (mx (mx a2 a4) 1) 1).bind fun t233 => ((gds_Weight.f k 1 a0 (mx (mx a2 a4) 1) 7).bind fun t234 => (if t233 = t234 then ((gds_Weight.f k 2 a0 (mx (mx a2 a4) 1) (mn a3 a4)).bind fun t235 => ((gds_Weight.f k 2 a0 (mx (mx a2 a4) 1) (mx a3 a4)).bind fun t236 => (some (decide (t235 ≤ t236))))) else (none)))) else (none)))) else (none)))) else (none)))) else (none)) = some r := by first | (rw [hji10] at H; exact H) | (simp only [hji10] at H ⊢; exact H)
  (try rw [hji10] at A6)
  have hji10_ : (if (ji9) < 1 then 1 else (ji9)) = ji10 := hji10
  obtain ⟨ji11, hji11⟩ : ∃ j_ : Int, (mx a2 a4) = j_ := ⟨_, rfl⟩
  replace H : (if t226 = true then ((gds_Weight.f k 1 (ji7) (mx (ji11) 1) a3).bind fun t227 => ((gds_Weight.f k 1 (ji8) (mx (ji11) 1) a4).bind fun t228 => (if t227 ≤ t228 then ((gds_Weight.f k 2 (ji7) (mx (ji11) 1) a3).bind fun t229 => ((gds_Weight.f k 2 (ji8) (mx (ji11) 1) a3).bind fun t230 => (if t229 ≤ t230 then ((gds_Weight.f k 1 a0 (mx (ji11) 1) 0).bind fun t231 => ((gds_Weight.f k 1 a0 (ji10) 0).bind fun t232 => (if t231 ≤ t232 then ((gds_Weight.f k 2 a0 (mx (ji11) 1) 1).bind fun t233 => ((gds_Weight.f k 1 a0 (mx (ji11) 1) 7).bind fun t234 => (if t233 = t234 then ((gds_Weight.f k 2 a0 (mx (ji11) 1) (mn a3 a4)).bind fun t235 => ((gds_Weight.f k 2 a0 (mx (ji11) 1) (mx a3 a4)).bind fun t236 => (some (decide (t235 ≤ t236))))) else (none)))) else (none)))) else (none)))) else (none)))) else (none)) = some r := by first | (rw [hji11] at H; exact H) | (simp only [hji11] at H ⊢; exact H)
  (try rw [hji11] at A6)
  have hji11_ : (if a2 < a4 then a4 else a2) = ji11 := hji11
  obtain ⟨ji12, hji12⟩ : ∃ j_ : Int, (mx (ji11) 1) = j_ := ⟨_, rfl⟩
  replace H : (if t226 = true then ((gds_Weight.f k 1 (ji7) (ji12) a3).bind fun t227 => ((gds_Weight.f k 1 (ji8) (ji12) a4).bind fun t228 => (if t227 ≤ t228 then ((gds_Weight.f k 2 (ji7) (ji12) a3).bind fun t229 => ((gds_Weight.f k 2 (ji8) (ji12) a3).bind fun t230 => (if t229 ≤ t230 then ((gds_Weight.f k 1 a0 (ji12) 0).bind fun t231 => ((gds_Weight.f k 1 a0 (ji10) 0).bind fun t232 => (if t231 ≤ t232 then ((gds_Weight.f k 2 a0 (ji12) 1).bind fun t233 => ((gds_Weight.f k 1 a0 (ji12) 7).bind fun t234 => (if t233 = t234 then ((gds_Weight.f k 2 a0 (ji12) (mn a3 a4)).bind fun t235 => ((gds_Weight.f k 2 a0 (ji12) (mx a3 a4)).bind fun t236 => (some (decide (t235 ≤ t236))))) else (none)))) else (none)))) else (none)))) else (none)))) else (none)) = some r := by first | (rw [hji12] at H; exact H) | (simp only [hji12] at H ⊢; exact H)
  (try rw [hji12] at A6)
  have hji12_ : (if (ji11) < 1 then 1 else (ji11)) = ji12 := hji12
  by_cases c13 : t226 = true
  · subst c13
    have H1 : ((gds_Weight.f k 1 (ji7) (ji12) a3).bind fun t227 => ((gds_Weight.f k 1 (ji8) (ji12) a4).bind fun t228 => (if t227 ≤ t228 then ((gds_Weight.f k 2 (ji7) (ji12) a3).bind fun t229 => ((gds_Weight.f k 2 (ji8) (ji12) a3).bind fun t230 => (if t229 ≤ t230 then ((gds_Weight.f k 1 a0 (ji12) 0).bind fun t231 => ((gds_Weight.f k 1 a0 (ji10) 0).bind fun t232 => (if t231 ≤ t232 then ((gds_Weight.f k 2 a0 (ji12) 1).bind fun t233 => ((gds_Weight.f k 1 a0 (ji12) 7).bind fun t234 => (if t233 = t234 then ((gds_Weight.f k 2 a0 (ji12) (mn a3 a4)).bind fun t235 => ((gds_Weight.f k 2 a0 (ji12) (mx a3 a4)).bind fun t236 => (some (decide (t235 ≤ t236))))) else (none)))) else (none)))) else (none)))) else (none)))) = some r := by rw [if_pos rfl] at H; exact H
    clear H
    have H := H1
    clear H1
    replace H := Option.bind_eq_some_iff.mp H
    obtain ⟨t227, A140, H⟩ := H
    replace H : ((gds_Weight.f k 1 (ji8) (ji12) a4).bind fun t228 => (if t227 ≤ t228 then ((gds_Weight.f k 2 (ji7) (ji12) a3).bind fun t229 => ((gds_Weight.f k 2 (ji8) (ji12) a3).bind fun t230 => (if t229 ≤ t230 then ((gds_Weight.f k 1 a0 (ji12) 0).bind fun t231 => ((gds_Weight.f k 1 a0 (ji10) 0).bind fun t232 => (if t231 ≤ t232 then ((gds_Weight.f k 2 a0 (ji12) 1).bind fun t233 => ((gds_Weight.f k 1 a0 (ji12) 7).bind fun t234 => (if t233 = t234 then ((gds_Weight.f k 2 a0 (ji12) (mn a3 a4)).bind fun t235 => ((gds_Weight.f k 2 a0 (ji12) (mx a3 a4)).bind fun t236 => (some (decide (t235 ≤ t236))))) else (none)))) else (none)))) else (none)))) else (none))) = some r := H
    have A14 := Aside0.mk A140
    clear A140
    replace H := Option.bind_eq_some_iff.mp H
    obtain ⟨t228, A150, H⟩ := H
    replace H : (if t227 ≤ t228 then ((gds_Weight.f k 2 (ji7) (ji12) a3).bind fun t229 => ((gds_Weight.f k 2 (ji8) (ji12) a3).bind fun t230 => (if t229 ≤ t230 then ((gds_Weight.f k 1 a0 (ji12) 0).bind fun t231 => ((gds_Weight.f k 1 a0 (ji10) 0).bind fun t232 => (if t231 ≤ t232 then ((gds_Weight.f k 2 a0 (ji12) 1).bind fun t233 => ((gds_Weight.f k 1 a0 (ji12) 7).bind fun t234 => (if t233 = t234 then ((gds_Weight.f k 2 a0 (ji12) (mn a3 a4)).bind fun t235 => ((gds_Weight.f k 2 a0 (ji12) (mx a3 a4)).bind fun t236 => (some (decide (t235 ≤ t236))))) else (none)))) else (none)))) else (none)))) else (none)) = some r := H
    have A15 := Aside0.mk A150
    clear A150
    by_cases c16 : t227 ≤ t228
    · rw [if_pos c16] at H
      have c16b0 : decide (t227 ≤ t228) = true := decide_eq_true c16
      clear c16
      replace H := Option.bind_eq_some_iff.mp H
      obtain ⟨t229, A170, H⟩ := H
      replace H : ((gds_Weight.f k 2 (ji8) (ji12) a3).bind fun t230 => (if t229 ≤ t230 then ((gds_Weight.f k 1 a0 (ji12) 0).bind fun t231 => ((gds_Weight.f k 1 a0 (ji10) 0).bind fun t232 => (if t231 ≤ t232 then ((gds_Weight.f k 2 a0 (ji12) 1).bind fun t233 => ((gds_Weight.f k 1 a0 (ji12) 7).bind fun t234 => (if t233 = t234 then ((gds_Weight.f k 2 a0 (ji12) (mn a3 a4)).bind fun t235 => ((gds_Weight.f k 2 a0 (ji12) (mx a3 a4)).bind fun t236 => (some (decide (t235 ≤ t236))))) else (none)))) else (none)))) else (none))) = some r := H
      have A17 := Aside0.mk A170
      clear A170
      replace H := Option.bind_eq_some_iff.mp H
      obtain ⟨t230, A180, H⟩ := H
      replace H : (if t229 ≤ t230 then ((gds_Weight.f k 1 a0 (ji12) 0).bind fun t231 => ((gds_Weight.f k 1 a0 (ji10) 0).bind fun t232 => (if t231 ≤ t232 then ((gds_Weight.f k 2 a0 (ji12) 1).bind fun t233 => ((gds_Weight.f k 1 a0 (ji12) 7).bind fun t234 => (if t233 = t234 then ((gds_Weight.f k 2 a0 (ji12) (mn a3 a4)).bind fun t235 => ((gds_Weight.f k 2 a0 (ji12) (mx a3 a4)).bind fun t236 => (some (decide (t235 ≤ t236))))) else (none)))) else (none)))) else (none)) = some r := H
      have A18 := Aside0.mk A180
      clear A180
      by_cases c19 : t229 ≤ t230
      · rw [if_pos c19] at H
        have c19b0 : decide (t229 ≤ t230) = true := decide_eq_true c19
        clear c19
        replace H := Option.bind_eq_some_iff.mp H
        obtain ⟨t231, A200, H⟩ := H
        replace H : ((gds_Weight.f k 1 a0 (ji10) 0).bind fun t232 => (if t231 ≤ t232 then ((gds_Weight.f k 2 a0 (ji12) 1).bind fun t233 => ((gds_Weight.f k 1 a0 (ji12) 7).bind fun t234 => (if t233 = t234 then ((gds_Weight.f k 2 a0 (ji12) (mn a3 a4)).bind fun t235 => ((gds_Weight.f k 2 a0 (ji12) (mx a3 a4)).bind fun t236 => (some (decide (t235 ≤ t236))))) else (none)))) else (none))) = some r := H
        have A20 := Aside0.mk A200
        clear A200
        replace H := Option.bind_eq_some_iff.mp H
        obtain ⟨t232, A210, H⟩ := H
        replace H : (if t231 ≤ t232 then ((gds_Weight.f k 2 a0 (ji12) 1).bind fun t233 => ((gds_Weight.f k 1 a0 (ji12) 7).bind fun t234 => (if t233 = t234 then ((gds_Weight.f k 2 a0 (ji12) (mn a3 a4)).bind fun t235 => ((gds_Weight.f k 2 a0 (ji12) (mx a3 a4)).bind fun t236 => (some (decide (t235 ≤ t236))))) else (none)))) else (none)) = some r := H
        have A21 := Aside0.mk A210
        clear A210
        by_cases c22 : t231 ≤ t232
        · rw [if_pos c22] at H
          have c22b0 : decide (t231 ≤ t232) = true := decide_eq_true c22
          clear c22
          replace H := Option.bind_eq_some_iff.mp H
          obtain ⟨t233, A230, H⟩ := H
          replace H : ((gds_Weight.f k 1 a0 (ji12) 7).bind fun t234 => (if t233 = t234 then ((gds_Weight.f k 2 a0 (ji12) (mn a3 a4)).bind fun t235 => ((gds_Weight.f k 2 a0 (ji12) (mx a3 a4)).bind fun t236 => (some (decide (t235 ≤ t236))))) else (none))) = some r := H
          have A23 := Aside0.mk A230
          clear A230
          replace H := Option.bind_eq_some_iff.mp H
          obtain ⟨t234, A240, H⟩ := H
          replace H : (if t233 = t234 then ((gds_Weight.f k 2 a0 (ji12) (mn a3 a4)).bind fun t235 => ((gds_Weight.f k 2 a0 (ji12) (mx a3 a4)).bind fun t236 => (some (decide (t235 ≤ t236))))) else (none)) = some r := H
          have A24 := Aside0.mk A240
          clear A240
          by_cases c25 : t233 = t234
          · rw [if_pos c25] at H
            have c25b0 : (t233 == t234) = true := beq_iff_eq.mpr c25
            have c25b1 : (t233 != t234) = false := bne_eq_false_iff_eq.mpr c25
            clear c25
            obtain ⟨ji26, hji26⟩ : ∃ j_ : Int, (mn a3 a4) = j_ := ⟨_, rfl⟩
            replace H : ((gds_Weight.f k 2 a0 (ji12) (ji26)).bind fun t235 => ((gds_Weight.f k 2 a0 (ji12) (mx a3 a4)).bind fun t236 => (some (decide (t235 ≤ t236))))) = some r := by first | (rw [hji26] at H; exact H) | (simp only [hji26] at H ⊢; exact H)
            (try rw [hji26] at A6)
            (try rw [hji26] at A14)
            (try rw [hji26] at A15)
            (try rw [hji26] at A17)
            (try rw [hji26] at A18)
            (try rw [hji26] at A20)
            (try rw [hji26] at A21)
            (try rw [hji26] at A23)
            (try rw [hji26] at A24)
            have hji26_ : (if a4 < a3 then a4 else a3) = ji26 := hji26
            replace H := Option.bind_eq_some_iff.mp H
            obtain ⟨t235, A270, H⟩ := H
            replace H : ((gds_Weight.f k 2 a0 (ji12) (mx a3 a4)).bind fun t236 => (some (decide (t235 ≤ t236)))) = some r := H
            have A27 := Aside0.mk A270
            clear A270
            obtain ⟨ji28, hji28⟩ : ∃ j_ : Int, (mx a3 a4) = j_ := ⟨_, rfl⟩
            replace H : ((gds_Weight.f k 2 a0 (ji12) (ji28)).bind fun t236 => (some (decide (t235 ≤ t236)))) = some r := by first | (rw [hji28] at H; exact H) | (simp only [hji28] at H ⊢; exact H)
            (try rw [hji28] at A6)
            (try rw [hji28] at A14)
            (try rw [hji28] at A15)
            (try rw [hji28] at A17)
            (try rw [hji28] at A18)
            (try rw [hji28] at A20)
            (try rw [hji28] at A21)
            (try rw [hji28] at A23)
            (try rw [hji28] at A24)
            (try rw [hji28] at A27)
            have hji28_ : (if a3 < a4 then a4 else a3) = ji28 := hji28
            replace H := Option.bind_eq_some_iff.mp H
            obtain ⟨t236, A290, H⟩ := H
            replace H : (some (decide (t235 ≤ t236))) = some r := H
            have A29 := Aside0.mk A290
            clear A290
            obtain rfl := Option.some.inj H
            go_enter Try.func7, Try.ntmps7
            go_wp2_with (first | ((with_reducible refine gate_callee (f := 8) rfl ?_); refine goesL_ (some 16) rfl rfl Try.func8 (by kernel_rfl) rfl #[] rfl (by (try simp only [List.map_toArray, List.map_cons, List.map_nil]); first | done | rfl | (simp only [List.length_drop, List.length_take]; rfl)) ?_; (with_reducible refine (linhaylaw18_awake.calls k  true _ A6.out).mono ?_); rintro e w30 ⟨rfl, hb⟩; refine ⟨_, rfl, ?_⟩; have n0_ := Aside0.mk (below_step (by repeat (first | (with_reducible first | exact HB.out | apply below_alloc | apply pw_below_drewN | apply below_drew1) | exact HB.out)) hb); clear HB; have HB := n0_; clear n0_; (try clear hb); (try clear hb2); (try clear hk); (try clear hi)) | (go_at_call 15; (with_reducible refine (gds_Weight.calls k 1 ji7 ji12 a3 t227 _ A14.out).mono ?_); rintro e w31 ⟨rfl, hb⟩; have n0_ := Aside0.mk (below_step (by repeat (first | (with_reducible first | exact HB.out | apply below_alloc | apply pw_below_drewN | apply below_drew1) | exact HB.out)) hb); clear HB; have HB := n0_; clear n0_; (try clear hb); (try clear hb2); (try clear hk); (try clear hi)) | (go_at_call 15; (with_reducible refine (gds_Weight.calls k 1 ji8 ji12 a4 t228 _ A15.out).mono ?_); rintro e w32 ⟨rfl, hb⟩; have n0_ := Aside0.mk (below_step (by repeat (first | (with_reducible first | exact HB.out | apply below_alloc | apply pw_below_drewN | apply below_drew1) | exact HB.out)) hb); clear HB; have HB := n0_; clear n0_; (try clear hb); (try clear hb2); (try clear hk); (try clear hi)) | (go_at_call 15; (with_reducible refine (gds_Weight.calls k 2 ji7 ji12 a3 t229 _ A17.out).mono ?_); rintro e w33 ⟨rfl, hb⟩; have n0_ := Aside0.mk (below_step (by repeat (first | (with_reducible first | exact HB.out | apply below_alloc | apply pw_below_drewN | apply below_drew1) | exact HB.out)) hb); clear HB; have HB := n0_; clear n0_; (try clear hb); (try clear hb2); (try clear hk); (try clear hi)) | (go_at_call 15; (with_reducible refine (gds_Weight.calls k 2 ji8 ji12 a3 t230 _ A18.out).mono ?_); rintro e w34 ⟨rfl, hb⟩; have n0_ := Aside0.mk (below_step (by repeat (first | (with_reducible first | exact HB.out | apply below_alloc | apply pw_below_drewN | apply below_drew1) | exact HB.out)) hb); clear HB; have HB := n0_; clear n0_; (try clear hb); (try clear hb2); (try clear hk); (try clear hi)) | (go_at_call 15; (with_reducible refine (gds_Weight.calls k 1 a0 ji12 0 t231 _ A20.out).mono ?_); rintro e w35 ⟨rfl, hb⟩; have n0_ := Aside0.mk (below_step (by repeat (first | (with_reducible first | exact HB.out | apply below_alloc | apply pw_below_drewN | apply below_drew1) | exact HB.out)) hb); clear HB; have HB := n0_; clear n0_; (try clear hb); (try clear hb2); (try clear hk); (try clear hi)) | (go_at_call 15; (with_reducible refine (gds_Weight.calls k 1 a0 ji10 0 t232 _ A21.out).mono ?_); rintro e w36 ⟨rfl, hb⟩; have n0_ := Aside0.mk (below_step (by repeat (first | (with_reducible first | exact HB.out | apply below_alloc | apply pw_below_drewN | apply below_drew1) | exact HB.out)) hb); clear HB; have HB := n0_; clear n0_; (try clear hb); (try clear hb2); (try clear hk); (try clear hi)) | (go_at_call 15; (with_reducible refine (gds_Weight.calls k 2 a0 ji12 1 t233 _ A23.out).mono ?_); rintro e w37 ⟨rfl, hb⟩; have n0_ := Aside0.mk (below_step (by repeat (first | (with_reducible first | exact HB.out | apply below_alloc | apply pw_below_drewN | apply below_drew1) | exact HB.out)) hb); clear HB; have HB := n0_; clear n0_; (try clear hb); (try clear hb2); (try clear hk); (try clear hi)) | (go_at_call 15; (with_reducible refine (gds_Weight.calls k 1 a0 ji12 7 t234 _ A24.out).mono ?_); rintro e w38 ⟨rfl, hb⟩; have n0_ := Aside0.mk (below_step (by repeat (first | (with_reducible first | exact HB.out | apply below_alloc | apply pw_below_drewN | apply below_drew1) | exact HB.out)) hb); clear HB; have HB := n0_; clear n0_; (try clear hb); (try clear hb2); (try clear hk); (try clear hi)) | (go_at_call 15; (with_reducible refine (gds_Weight.calls k 2 a0 ji12 ji26 t235 _ A27.out).mono ?_); rintro e w39 ⟨rfl, hb⟩; have n0_ := Aside0.mk (below_step (by repeat (first | (with_reducible first | exact HB.out | apply below_alloc | apply pw_below_drewN | apply below_drew1) | exact HB.out)) hb); clear HB; have HB := n0_; clear n0_; (try clear hb); (try clear hb2); (try clear hk); (try clear hi)) | (go_at_call 15; (with_reducible refine (gds_Weight.calls k 2 a0 ji12 ji28 t236 _ A29.out).mono ?_); rintro e w40 ⟨rfl, hb⟩; have n0_ := Aside0.mk (below_step (by repeat (first | (with_reducible first | exact HB.out | apply below_alloc | apply pw_below_drewN | apply below_drew1) | exact HB.out)) hb); clear HB; have HB := n0_; clear n0_; (try clear hb); (try clear hb2); (try clear hk); (try clear hi)) | (go_at_call 8; (with_reducible refine (linhaylaw18_awake.calls k  true _ A6.out).mono ?_); rintro e w30 ⟨rfl, hb⟩; have n0_ := Aside0.mk (below_step (by repeat (first | (with_reducible first | exact HB.out | apply below_alloc | apply pw_below_drewN | apply below_drew1) | exact HB.out)) hb); clear HB; have HB := n0_; clear n0_; (try clear hb); (try clear hb2); (try clear hk); (try clear hi)))
            go_ret
            exact ⟨by first | rfl | (simp [errW_none, errW_some] <;> rfl) | (simp only [← hji7, ← hji8, ← hji9, ← hji10, ← hji11, ← hji12, ← hji26, ← hji28]; first | rfl | (simp [errW_none, errW_some] <;> rfl)) | (simp [*, errW_none, errW_some] <;> rfl), by repeat (first | (with_reducible first | exact HB.out | apply below_alloc | apply pw_below_drewN | apply below_drew1) | exact HB.out)⟩
          · rw [if_neg c25] at H
            exact absurd H (by simp)
        · rw [if_neg c22] at H
          exact absurd H (by simp)
      · rw [if_neg c19] at H
        exact absurd H (by simp)
    · rw [if_neg c16] at H
      exact absurd H (by simp)
  · replace c13 := Bool.eq_false_iff.mpr c13
    subst c13
    have H1 : (none) = some r := by rw [if_neg (show ¬ (false = true) by decide)] at H; exact H
    clear H
    have H := H1
    clear H1
    exact absurd H (by simp)

/-- THE ONE PURE STATEMENT of linhaylaw18_GdsWeight: yours. -/
def linhaylaw18_GdsWeight.Pure : Prop := ∀ (a0 : Int) (a1 : Int) (a2 : Int) (a3 : Int) (a4 : Int), (Lit.int .u64 a0).wf = true → (Lit.int .u64 a1).wf = true → (Lit.int .u64 a2).wf = true → (Lit.int .u64 a3).wf = true → (Lit.int .u64 a4).wf = true → ∃ k, linhaylaw18_GdsWeight.f k a0 a1 a2 a3 a4 = some true
theorem linhaylaw18_GdsWeight.walk (P : linhaylaw18_GdsWeight.Pure) (a0 : Int) (a1 : Int) (a2 : Int) (a3 : Int) (a4 : Int) (w : World) (w0 : (Lit.int .u64 a0).wf = true) (w1 : (Lit.int .u64 a1).wf = true) (w2 : (Lit.int .u64 a2).wf = true) (w3 : (Lit.int .u64 a3).wf = true) (w4 : (Lit.int .u64 a4).wf = true) :
    Calls Try.prog 7 #[.int .u64 a0, .int .u64 a1, .int .u64 a2, .int .u64 a3, .int .u64 a4] w fun e w' => e = .returned (.bool true) ∧ Below w.heap.size w w' := by
  obtain ⟨k, h⟩ := P a0 a1 a2 a3 a4 w0 w1 w2 w3 w4
  refine (linhaylaw18_GdsWeight.calls k a0 a1 a2 a3 a4 true w h).mono ?_
  rintro e w' ⟨rfl, hd⟩
  exact ⟨rfl, hd⟩

end Go.Proofs.Ytmacngkgokibeaa.Print
