/- Lean functions that answer what Go functions of the translation answer, and the proofs of it. Written by a program of this session (wip/tools/seatprint.py), over contracts that it proved by hand. Conditions: those that each theorem says. -/
import Derived.Test.YtnippnpbnmkfbaaPrint0
import Derived.Test.YtnippnpbnmkfbaaPrint7
import Derived.Test.YtnippnpbnmkfbaaPrint8
namespace Go.Proofs.Ytnippnpbnmkfbaa.Print
open Go.RowKit Go.Proofs.YtnippnpbnmkfbaaW.PrintWords Go.Proofs.YtnippnpbnmkfbaaW.PrintLast Go.Proofs.YtnippnpbnmkfbaaW.PrintMore
attribute [local go_sem] max2_int min2_int max_two min_two max_three min_three max_four min_four   -- for this text's walks alone
set_option linter.unusedVariables false
set_option linter.unusedSimpArgs false

/-! ### linhaylaw04_FixedSums: function 8 -/
def linhaylaw04_FixedSums.j0 : Nat → List Int → List Int → Bool → Bool → Option (Bool)
  | 0, _, _, _, _ => none
  | k + 1, x0, x1, x5, x16 => if x16 = true then (some x5) else ((some (([] : List Int) : List Int)).bind fun y282 => (if y282.length + x0.length < 17592186044416 then ((some (y282 ++ x0 : List Int)).bind fun y285 => (if y285.length + x1.length < 17592186044416 then ((some (y285 ++ x1 : List Int)).bind fun y288 => ((some (([] : List Int) : List Int)).bind fun y291 => (if y291.length + x1.length < 17592186044416 then ((some (y291 ++ x1 : List Int)).bind fun y294 => (if y294.length + x0.length < 17592186044416 then (if x5 = true then ((fixed_Sum.f k y288).bind fun t300 => ((fixed_Sum.f k (y294 ++ x0)).bind fun t301 => (if t300 = t301 then ((fixed_Sum.f k y288).bind fun t302 => ((fixed_Sum.f k x0).bind fun t303 => ((fixed_Sum.f k x1).bind fun t304 => ((fixed_Sum.f k (([t303, t304] : List Int))).bind fun t308 => (if t302 = t308 then ((fixed_Sum.f k y288).bind fun t309 => ((fixed_Sum.f k x0).bind fun t310 => (some (decide (t309 ≥ t310))))) else (none)))))) else (none)))) else (none)) else (none))) else (none)))) else (none))) else (none)))
def linhaylaw04_FixedSums.f (k : Nat) (l0 : List Int) (l1 : List Int) : Option (Bool) := (linhaylaw04_awake.f k).bind fun t281 => (if (l0.length : Int) > 100 then (linhaylaw04_FixedSums.j0 k l0 l1 t281 true) else (linhaylaw04_FixedSums.j0 k l0 l1 t281 (decide ((l1.length : Int) > 100))))
theorem linhaylaw04_FixedSums.mono_l : ∀ k, (∀ y0 y1 y2 y3, LeO (linhaylaw04_FixedSums.j0 k y0 y1 y2 y3) (linhaylaw04_FixedSums.j0 (k + 1) y0 y1 y2 y3))
  | 0 => fun _ _ _ _ r h => by simp [linhaylaw04_FixedSums.j0] at h
  | k + 1 => by
    have ih0 := linhaylaw04_FixedSums.mono_l k
    · intro y0 y1 y2 y3
      unfold linhaylaw04_FixedSums.j0
      repeat' first
      | (with_reducible exact ih0 _ _ _ _)
      | (with_reducible exact fixed_Sum.mono _ _)
      | (with_reducible exact linhaylaw04_awake.mono _)
      | (with_reducible exact LeO.refl _)
      | (with_reducible exact LeO.none _)
      | (with_reducible refine LeO.ite ?_ ?_)
      | (with_reducible refine LeO.bind ?_ (fun _ => ?_))
      | exact ih0 _ _ _ _
      | exact fixed_Sum.mono _ _
      | exact linhaylaw04_awake.mono _
      | exact LeO.none _
      | refine LeO.ite ?_ ?_
      | refine LeO.bind ?_ (fun _ => ?_)
theorem linhaylaw04_FixedSums.mono : ∀ a0 a1 k, LeO (linhaylaw04_FixedSums.f k a0 a1) (linhaylaw04_FixedSums.f (k + 1) a0 a1) := by
  intro a0 a1 k
  have ih0 := linhaylaw04_FixedSums.mono_l k
  unfold linhaylaw04_FixedSums.f
  repeat' first
      | (with_reducible exact ih0 _ _ _ _)
      | (with_reducible exact fixed_Sum.mono _ _)
      | (with_reducible exact linhaylaw04_awake.mono _)
      | (with_reducible exact LeO.refl _)
      | (with_reducible exact LeO.none _)
      | (with_reducible refine LeO.ite ?_ ?_)
      | (with_reducible refine LeO.bind ?_ (fun _ => ?_))
      | exact ih0 _ _ _ _
      | exact fixed_Sum.mono _ _
      | exact linhaylaw04_awake.mono _
      | exact LeO.none _
      | refine LeO.ite ?_ ?_
      | refine LeO.bind ?_ (fun _ => ?_)
set_option maxHeartbeats 8000000 in
set_option maxRecDepth 100000 in
theorem linhaylaw04_FixedSums.calls (k : Nat) (A0 : Option Addr) (c0 : Nat) (l0 : List Int) (A1 : Option Addr) (c1 : Nat) (l1 : List Int) (r : Bool) (w : World) (hr0 : Kd.C (Kd.int .u64) w A0 l0.length l0) (hc0 : l0.length ≤ c0) (hr1 : Kd.C (Kd.int .u64) w A1 l1.length l1) (hc1 : l1.length ≤ c1) (h : linhaylaw04_FixedSums.f k l0 l1 = some r) :
    Calls Try.prog 8 #[.slice A0 l0.length c0, .slice A1 l1.length c1] w fun e w' => e = .returned (.bool r) ∧ Below w.heap.size w w' := by
  have HR0 := Aside0.mk hr0
  have HC0 := Aside0.mk hc0
  clear hr0 hc0
  have HR1 := Aside0.mk hr1
  have HC1 := Aside0.mk hc1
  clear hr1 hc1
  have HB := Aside0.mk (Below.refl w.heap.size w)
  have H : ((linhaylaw04_awake.f k).bind fun t281 => (if (l0.length : Int) > 100 then (linhaylaw04_FixedSums.j0 k l0 l1 t281 true) else (linhaylaw04_FixedSums.j0 k l0 l1 t281 (decide ((l1.length : Int) > 100))))) = some r := h
  clear h
  replace H := Option.bind_eq_some_iff.mp H
  obtain ⟨t281, A30, H⟩ := H
  replace H : (if (l0.length : Int) > 100 then (linhaylaw04_FixedSums.j0 k l0 l1 t281 true) else (linhaylaw04_FixedSums.j0 k l0 l1 t281 (decide ((l1.length : Int) > 100)))) = some r := H
  have A3 := Aside0.mk A30
  clear A30
  have HC4 := Aside0.mk H
  clear H
  go_enter Try.func8, Try.ntmps8
  go_upto_region 2 with (first | ((with_reducible refine gate_callee (f := 9) rfl ?_); refine goesL_ (some 8) rfl rfl Try.func9 (by kernel_rfl) rfl #[] rfl (by (try simp only [List.map_toArray, List.map_cons, List.map_nil]); first | done | rfl | (simp only [List.length_drop, List.length_take]; rfl)) ?_; (with_reducible refine (linhaylaw04_awake.calls k  t281 _ A3.out).mono ?_); rintro e w5 ⟨rfl, hb⟩; refine ⟨_, rfl, ?_⟩; have n0_ := Aside0.mk (below_step (by repeat (first | (with_reducible first | exact HB.out | apply below_alloc | apply pw_below_drewN | apply below_drew1) | exact HB.out)) hb); clear HB; have HB := n0_; clear n0_; (try clear hb); (try clear hb2); (try clear hk); (try clear hi)) | (go_at_call 9; (with_reducible refine (linhaylaw04_awake.calls k  t281 _ A3.out).mono ?_); rintro e w5 ⟨rfl, hb⟩; have n0_ := Aside0.mk (below_step (by repeat (first | (with_reducible first | exact HB.out | apply below_alloc | apply pw_below_drewN | apply below_drew1) | exact HB.out)) hb); clear HB; have HB := n0_; clear n0_; (try clear hb); (try clear hb2); (try clear hk); (try clear hi)))
  (try simp only [Act.put, List.setIfInBounds_toArray, List.set_cons_zero, List.set_cons_succ])
  go_cut [16] (fun v16 wc => ∃ (kq : Nat) (x16_3 : Bool), v16 = .bool x16_3 ∧ Aside0 (linhaylaw04_FixedSums.j0 kq l0 l1 t281 x16_3 = some r) ∧ Aside0 (kq ≤ k) ∧ Aside0 (Below w.heap.size w wc))
  case first =>
    have H := HC4.out
    clear HC4
    by_cases c6 : (l0.length : Int) > 100
    · rw [if_pos c6] at H
      have c6b0 : decide (100 < (l0.length : Int)) = true := decide_eq_true c6
      have c6b1 : decide (100 < l0.length) = true := decide_eq_true (by omega)
      clear c6
      (first | rw [c6b0] | (simp only [i64_w, i32_w]; rw [c6b0]) | skip)
      have H' := Aside0.mk H
      clear H
      go_wp2
      go_meet
      case rel => exact ⟨_, (true), (by first | rfl | (simp; done) | (simp [*]; done)), H', ⟨by first | omega | exact Nat.le_refl _⟩, ⟨by repeat (first | (with_reducible first | exact HB.out | apply below_alloc | apply pw_below_drewN | apply below_drew1) | exact HB.out)⟩⟩
    · rw [if_neg c6] at H
      have c6b0 : decide (100 < (l0.length : Int)) = false := decide_eq_false c6
      have c6b1 : decide (100 < l0.length) = false := decide_eq_false (by omega)
      clear c6
      (first | rw [c6b0] | (simp only [i64_w, i32_w]; rw [c6b0]) | skip)
      have H' := Aside0.mk H
      clear H
      go_wp2
      go_meet
      case rel => exact ⟨_, (decide ((l1.length : Int) > 100)), (by first | rfl | (simp; done) | (simp [*]; done)), H', ⟨by first | omega | exact Nat.le_refl _⟩, ⟨by repeat (first | (with_reducible first | exact HB.out | apply below_alloc | apply pw_below_drewN | apply below_drew1) | exact HB.out)⟩⟩
  case rest =>
    clear HC4
    try clear c1
    try clear p2
    try clear c6
    try clear c6b0
    try clear c6b1
    obtain ⟨kq, x16_3, rfl, HA, HJ3, HB⟩ := hcut
    cases kq with
    | zero => exact absurd HA.out (by simp [linhaylaw04_FixedSums.j0])
    | succ kj3 =>
      have H := HA.out
      clear HA
      simp only [linhaylaw04_FixedSums.j0] at H
      by_cases c7 : x16_3 = true
      · subst c7
        have H1 : (some t281) = some r := by rw [if_pos rfl] at H; exact H
        clear H
        have H := H1
        clear H1
        obtain rfl := Option.some.inj H
        go_wp2
        go_ret
        exact ⟨by first | rfl | (simp [errW_none, errW_some] <;> rfl) | (simp [*, errW_none, errW_some] <;> rfl), by repeat (first | (with_reducible first | exact HB.out | apply below_alloc | apply pw_below_drewN | apply below_drew1) | exact HB.out)⟩
      · replace c7 := Bool.eq_false_iff.mpr c7
        subst c7
        have H1 : ((some (([] : List Int) : List Int)).bind fun y282 => (if y282.length + l0.length < 17592186044416 then ((some (y282 ++ l0 : List Int)).bind fun y285 => (if y285.length + l1.length < 17592186044416 then ((some (y285 ++ l1 : List Int)).bind fun y288 => ((some (([] : List Int) : List Int)).bind fun y291 => (if y291.length + l1.length < 17592186044416 then ((some (y291 ++ l1 : List Int)).bind fun y294 => (if y294.length + l0.length < 17592186044416 then (if t281 = true then ((fixed_Sum.f kj3 y288).bind fun t300 => ((fixed_Sum.f kj3 (y294 ++ l0)).bind fun t301 => (if t300 = t301 then ((fixed_Sum.f kj3 y288).bind fun t302 => ((fixed_Sum.f kj3 l0).bind fun t303 => ((fixed_Sum.f kj3 l1).bind fun t304 => ((fixed_Sum.f kj3 (([t303, t304] : List Int))).bind fun t308 => (if t302 = t308 then ((fixed_Sum.f kj3 y288).bind fun t309 => ((fixed_Sum.f kj3 l0).bind fun t310 => (some (decide (t309 ≥ t310))))) else (none)))))) else (none)))) else (none)) else (none))) else (none)))) else (none))) else (none))) = some r := by rw [if_neg (show ¬ (false = true) by decide)] at H; exact H
        clear H
        have H := H1
        clear H1
        obtain ⟨y282, hy282⟩ : ∃ y_ : List Int, y_ = (([] : List Int)) := ⟨_, rfl⟩
        replace H : (if y282.length + l0.length < 17592186044416 then ((some (y282 ++ l0 : List Int)).bind fun y285 => (if y285.length + l1.length < 17592186044416 then ((some (y285 ++ l1 : List Int)).bind fun y288 => ((some (([] : List Int) : List Int)).bind fun y291 => (if y291.length + l1.length < 17592186044416 then ((some (y291 ++ l1 : List Int)).bind fun y294 => (if y294.length + l0.length < 17592186044416 then (if t281 = true then ((fixed_Sum.f kj3 y288).bind fun t300 => ((fixed_Sum.f kj3 (y294 ++ l0)).bind fun t301 => (if t300 = t301 then ((fixed_Sum.f kj3 y288).bind fun t302 => ((fixed_Sum.f kj3 l0).bind fun t303 => ((fixed_Sum.f kj3 l1).bind fun t304 => ((fixed_Sum.f kj3 (([t303, t304] : List Int))).bind fun t308 => (if t302 = t308 then ((fixed_Sum.f kj3 y288).bind fun t309 => ((fixed_Sum.f kj3 l0).bind fun t310 => (some (decide (t309 ≥ t310))))) else (none)))))) else (none)))) else (none)) else (none))) else (none)))) else (none))) else (none)) = some r := by first | (rw [hy282]; with_reducible exact H) | (have H2_ := (Option.bind_some _ _).symm.trans H; rw [hy282]; with_reducible exact H2_) | (have H2_ := (Option.bind_some _ _).symm.trans H; with_reducible exact H2_) | with_reducible exact H | (rw [hy282]; exact H) | exact H
        have Ny282 := Aside0.mk hy282
        clear hy282
        by_cases c8 : y282.length + l0.length < 17592186044416
        · rw [if_pos c8] at H
          have LMc8 := Aside0.mk c8
          clear c8
          obtain ⟨y285, hy285⟩ : ∃ y_ : List Int, y_ = (y282 ++ l0) := ⟨_, rfl⟩
          replace H : (if y285.length + l1.length < 17592186044416 then ((some (y285 ++ l1 : List Int)).bind fun y288 => ((some (([] : List Int) : List Int)).bind fun y291 => (if y291.length + l1.length < 17592186044416 then ((some (y291 ++ l1 : List Int)).bind fun y294 => (if y294.length + l0.length < 17592186044416 then (if t281 = true then ((fixed_Sum.f kj3 y288).bind fun t300 => ((fixed_Sum.f kj3 (y294 ++ l0)).bind fun t301 => (if t300 = t301 then ((fixed_Sum.f kj3 y288).bind fun t302 => ((fixed_Sum.f kj3 l0).bind fun t303 => ((fixed_Sum.f kj3 l1).bind fun t304 => ((fixed_Sum.f kj3 (([t303, t304] : List Int))).bind fun t308 => (if t302 = t308 then ((fixed_Sum.f kj3 y288).bind fun t309 => ((fixed_Sum.f kj3 l0).bind fun t310 => (some (decide (t309 ≥ t310))))) else (none)))))) else (none)))) else (none)) else (none))) else (none)))) else (none)) = some r := by first | (rw [hy285]; with_reducible exact H) | (have H2_ := (Option.bind_some _ _).symm.trans H; rw [hy285]; with_reducible exact H2_) | (have H2_ := (Option.bind_some _ _).symm.trans H; with_reducible exact H2_) | with_reducible exact H | (rw [hy285]; exact H) | exact H
          have Ny285 := Aside0.mk hy285
          clear hy285
          by_cases c9 : y285.length + l1.length < 17592186044416
          · rw [if_pos c9] at H
            have LMc9 := Aside0.mk c9
            clear c9
            obtain ⟨y288, hy288⟩ : ∃ y_ : List Int, y_ = (y285 ++ l1) := ⟨_, rfl⟩
            replace H : ((some (([] : List Int) : List Int)).bind fun y291 => (if y291.length + l1.length < 17592186044416 then ((some (y291 ++ l1 : List Int)).bind fun y294 => (if y294.length + l0.length < 17592186044416 then (if t281 = true then ((fixed_Sum.f kj3 y288).bind fun t300 => ((fixed_Sum.f kj3 (y294 ++ l0)).bind fun t301 => (if t300 = t301 then ((fixed_Sum.f kj3 y288).bind fun t302 => ((fixed_Sum.f kj3 l0).bind fun t303 => ((fixed_Sum.f kj3 l1).bind fun t304 => ((fixed_Sum.f kj3 (([t303, t304] : List Int))).bind fun t308 => (if t302 = t308 then ((fixed_Sum.f kj3 y288).bind fun t309 => ((fixed_Sum.f kj3 l0).bind fun t310 => (some (decide (t309 ≥ t310))))) else (none)))))) else (none)))) else (none)) else (none))) else (none))) = some r := by first | (rw [hy288]; with_reducible exact H) | (have H2_ := (Option.bind_some _ _).symm.trans H; rw [hy288]; with_reducible exact H2_) | (have H2_ := (Option.bind_some _ _).symm.trans H; with_reducible exact H2_) | with_reducible exact H | (rw [hy288]; exact H) | exact H
            have Ny288 := Aside0.mk hy288
            clear hy288
            obtain ⟨y291, hy291⟩ : ∃ y_ : List Int, y_ = (([] : List Int)) := ⟨_, rfl⟩
            replace H : (if y291.length + l1.length < 17592186044416 then ((some (y291 ++ l1 : List Int)).bind fun y294 => (if y294.length + l0.length < 17592186044416 then (if t281 = true then ((fixed_Sum.f kj3 y288).bind fun t300 => ((fixed_Sum.f kj3 (y294 ++ l0)).bind fun t301 => (if t300 = t301 then ((fixed_Sum.f kj3 y288).bind fun t302 => ((fixed_Sum.f kj3 l0).bind fun t303 => ((fixed_Sum.f kj3 l1).bind fun t304 => ((fixed_Sum.f kj3 (([t303, t304] : List Int))).bind fun t308 => (if t302 = t308 then ((fixed_Sum.f kj3 y288).bind fun t309 => ((fixed_Sum.f kj3 l0).bind fun t310 => (some (decide (t309 ≥ t310))))) else (none)))))) else (none)))) else (none)) else (none))) else (none)) = some r := by first | (rw [hy291]; with_reducible exact H) | (have H2_ := (Option.bind_some _ _).symm.trans H; rw [hy291]; with_reducible exact H2_) | (have H2_ := (Option.bind_some _ _).symm.trans H; with_reducible exact H2_) | with_reducible exact H | (rw [hy291]; exact H) | exact H
            have Ny291 := Aside0.mk hy291
            clear hy291
            by_cases c10 : y291.length + l1.length < 17592186044416
            · rw [if_pos c10] at H
              have LMc10 := Aside0.mk c10
              clear c10
              obtain ⟨y294, hy294⟩ : ∃ y_ : List Int, y_ = (y291 ++ l1) := ⟨_, rfl⟩
              replace H : (if y294.length + l0.length < 17592186044416 then (if t281 = true then ((fixed_Sum.f kj3 y288).bind fun t300 => ((fixed_Sum.f kj3 (y294 ++ l0)).bind fun t301 => (if t300 = t301 then ((fixed_Sum.f kj3 y288).bind fun t302 => ((fixed_Sum.f kj3 l0).bind fun t303 => ((fixed_Sum.f kj3 l1).bind fun t304 => ((fixed_Sum.f kj3 (([t303, t304] : List Int))).bind fun t308 => (if t302 = t308 then ((fixed_Sum.f kj3 y288).bind fun t309 => ((fixed_Sum.f kj3 l0).bind fun t310 => (some (decide (t309 ≥ t310))))) else (none)))))) else (none)))) else (none)) else (none)) = some r := by first | (rw [hy294]; with_reducible exact H) | (have H2_ := (Option.bind_some _ _).symm.trans H; rw [hy294]; with_reducible exact H2_) | (have H2_ := (Option.bind_some _ _).symm.trans H; with_reducible exact H2_) | with_reducible exact H | (rw [hy294]; exact H) | exact H
              have Ny294 := Aside0.mk hy294
              clear hy294
              by_cases c11 : y294.length + l0.length < 17592186044416
              · rw [if_pos c11] at H
                have LMc11 := Aside0.mk c11
                clear c11
                obtain ⟨y297, hy297⟩ : ∃ y_ : List Int, y_ = (y294 ++ l0) := ⟨_, rfl⟩
                replace H : (if t281 = true then ((fixed_Sum.f kj3 y288).bind fun t300 => ((fixed_Sum.f kj3 y297).bind fun t301 => (if t300 = t301 then ((fixed_Sum.f kj3 y288).bind fun t302 => ((fixed_Sum.f kj3 l0).bind fun t303 => ((fixed_Sum.f kj3 l1).bind fun t304 => ((fixed_Sum.f kj3 (([t303, t304] : List Int))).bind fun t308 => (if t302 = t308 then ((fixed_Sum.f kj3 y288).bind fun t309 => ((fixed_Sum.f kj3 l0).bind fun t310 => (some (decide (t309 ≥ t310))))) else (none)))))) else (none)))) else (none)) = some r := by first | (rw [hy297]; with_reducible exact H) | (have H2_ := (Option.bind_some _ _).symm.trans H; rw [hy297]; with_reducible exact H2_) | (have H2_ := (Option.bind_some _ _).symm.trans H; with_reducible exact H2_) | with_reducible exact H | (rw [hy297]; exact H) | exact H
                have Ny297 := Aside0.mk hy297
                clear hy297
                by_cases c12 : t281 = true
                · subst c12
                  have H1 : ((fixed_Sum.f kj3 y288).bind fun t300 => ((fixed_Sum.f kj3 y297).bind fun t301 => (if t300 = t301 then ((fixed_Sum.f kj3 y288).bind fun t302 => ((fixed_Sum.f kj3 l0).bind fun t303 => ((fixed_Sum.f kj3 l1).bind fun t304 => ((fixed_Sum.f kj3 (([t303, t304] : List Int))).bind fun t308 => (if t302 = t308 then ((fixed_Sum.f kj3 y288).bind fun t309 => ((fixed_Sum.f kj3 l0).bind fun t310 => (some (decide (t309 ≥ t310))))) else (none)))))) else (none)))) = some r := by rw [if_pos rfl] at H; exact H
                  clear H
                  have H := H1
                  clear H1
                  replace H := Option.bind_eq_some_iff.mp H
                  obtain ⟨t300, A130, H⟩ := H
                  replace H : ((fixed_Sum.f kj3 y297).bind fun t301 => (if t300 = t301 then ((fixed_Sum.f kj3 y288).bind fun t302 => ((fixed_Sum.f kj3 l0).bind fun t303 => ((fixed_Sum.f kj3 l1).bind fun t304 => ((fixed_Sum.f kj3 (([t303, t304] : List Int))).bind fun t308 => (if t302 = t308 then ((fixed_Sum.f kj3 y288).bind fun t309 => ((fixed_Sum.f kj3 l0).bind fun t310 => (some (decide (t309 ≥ t310))))) else (none)))))) else (none))) = some r := H
                  have A13 := Aside0.mk A130
                  clear A130
                  replace H := Option.bind_eq_some_iff.mp H
                  obtain ⟨t301, A140, H⟩ := H
                  replace H : (if t300 = t301 then ((fixed_Sum.f kj3 y288).bind fun t302 => ((fixed_Sum.f kj3 l0).bind fun t303 => ((fixed_Sum.f kj3 l1).bind fun t304 => ((fixed_Sum.f kj3 (([t303, t304] : List Int))).bind fun t308 => (if t302 = t308 then ((fixed_Sum.f kj3 y288).bind fun t309 => ((fixed_Sum.f kj3 l0).bind fun t310 => (some (decide (t309 ≥ t310))))) else (none)))))) else (none)) = some r := H
                  have A14 := Aside0.mk A140
                  clear A140
                  by_cases c15 : t300 = t301
                  · rw [if_pos c15] at H
                    have c15b0 : (t300 == t301) = true := beq_iff_eq.mpr c15
                    have c15b1 : (t300 != t301) = false := bne_eq_false_iff_eq.mpr c15
                    clear c15
                    replace H := Option.bind_eq_some_iff.mp H
                    obtain ⟨t302, A160, H⟩ := H
                    obtain rfl := Option.some.inj (A13.out.symm.trans A160)
                    replace H : ((fixed_Sum.f kj3 l0).bind fun t303 => ((fixed_Sum.f kj3 l1).bind fun t304 => ((fixed_Sum.f kj3 (([t303, t304] : List Int))).bind fun t308 => (if t300 = t308 then ((fixed_Sum.f kj3 y288).bind fun t309 => ((fixed_Sum.f kj3 l0).bind fun t310 => (some (decide (t309 ≥ t310))))) else (none))))) = some r := H
                    have A16 := Aside0.mk A160
                    clear A160
                    replace H := Option.bind_eq_some_iff.mp H
                    obtain ⟨t303, A170, H⟩ := H
                    replace H : ((fixed_Sum.f kj3 l1).bind fun t304 => ((fixed_Sum.f kj3 (([t303, t304] : List Int))).bind fun t308 => (if t300 = t308 then ((fixed_Sum.f kj3 y288).bind fun t309 => ((fixed_Sum.f kj3 l0).bind fun t310 => (some (decide (t309 ≥ t310))))) else (none)))) = some r := H
                    have A17 := Aside0.mk A170
                    clear A170
                    replace H := Option.bind_eq_some_iff.mp H
                    obtain ⟨t304, A180, H⟩ := H
                    replace H : ((fixed_Sum.f kj3 (([t303, t304] : List Int))).bind fun t308 => (if t300 = t308 then ((fixed_Sum.f kj3 y288).bind fun t309 => ((fixed_Sum.f kj3 l0).bind fun t310 => (some (decide (t309 ≥ t310))))) else (none))) = some r := H
                    have A18 := Aside0.mk A180
                    clear A180
                    obtain ⟨y305, hy305⟩ : ∃ y_ : List Int, y_ = (([t303, t304] : List Int)) := ⟨_, rfl⟩
                    replace H : ((fixed_Sum.f kj3 y305).bind fun t308 => (if t300 = t308 then ((fixed_Sum.f kj3 y288).bind fun t309 => ((fixed_Sum.f kj3 l0).bind fun t310 => (some (decide (t309 ≥ t310))))) else (none))) = some r := by first | (rw [hy305]; with_reducible exact H) | (have H2_ := (Option.bind_some _ _).symm.trans H; rw [hy305]; with_reducible exact H2_) | (have H2_ := (Option.bind_some _ _).symm.trans H; with_reducible exact H2_) | with_reducible exact H | (rw [hy305]; exact H) | exact H
                    have Ny305 := Aside0.mk hy305
                    clear hy305
                    replace H := Option.bind_eq_some_iff.mp H
                    obtain ⟨t308, A190, H⟩ := H
                    replace H : (if t300 = t308 then ((fixed_Sum.f kj3 y288).bind fun t309 => ((fixed_Sum.f kj3 l0).bind fun t310 => (some (decide (t309 ≥ t310))))) else (none)) = some r := H
                    have A19 := Aside0.mk A190
                    clear A190
                    by_cases c20 : t300 = t308
                    · rw [if_pos c20] at H
                      have c20b0 : (t300 == t308) = true := beq_iff_eq.mpr c20
                      have c20b1 : (t300 != t308) = false := bne_eq_false_iff_eq.mpr c20
                      clear c20
                      replace H := Option.bind_eq_some_iff.mp H
                      obtain ⟨t309, A210, H⟩ := H
                      obtain rfl := Option.some.inj (A13.out.symm.trans A210)
                      replace H : ((fixed_Sum.f kj3 l0).bind fun t310 => (some (decide (t300 ≥ t310)))) = some r := H
                      have A21 := Aside0.mk A210
                      clear A210
                      replace H := Option.bind_eq_some_iff.mp H
                      obtain ⟨t310, A220, H⟩ := H
                      obtain rfl := Option.some.inj (A17.out.symm.trans A220)
                      replace H : (some (decide (t300 ≥ t303))) = some r := H
                      have A22 := Aside0.mk A220
                      clear A220
                      obtain rfl := Option.some.inj H
                      go_wp2_with (first | ((with_reducible refine gate_dst (N := 18) rfl ?_); (try (refine gate_guard (by rfl) ?_; dsimp only)); refine Kd.R_lit (Kd.int .u64) _ 22 ?hg (N := 18) ?hd (xs := ([] : List Int)) (inner := []) (ok := fun _ => True) (okp := fun _ => True) ?hr ?hp (fun _ hk => hk) trivial (Below.refl _ _) (Nat.le_refl _) (by simp) ?_; (case hd => rfl); (case hg => rfl); (case hr => first | (go_simp; done) | (go_simp; rfl)); (case hp => exact (Reps.none _ _)); intro v283 w23 ho24 hb hg_ hnew_; clear hg_ hnew_; (first | rw [← Ny282.out] at ho24 | (simp only [Int.reduceToNat] at ho24; rw [← Ny282.out] at ho24)); have n0_ := Aside0.mk (Kd.R_lower ho24 (below_size (by repeat (first | (with_reducible first | exact HB.out | apply below_alloc | apply pw_below_drewN | apply below_drew1) | exact HB.out)))); have n1_ := Aside0.mk (below_step (by repeat (first | (with_reducible first | exact HB.out | apply below_alloc | apply pw_below_drewN | apply below_drew1) | exact HB.out)) hb); clear HB; have HO284 := n0_; have HB := n1_; clear n0_ n1_; clear hb ho24) | ((with_reducible refine gate_builtin (b := .append) (xs := #[.tmp 18, .tmp 19]) rfl ?_); (try (refine gate_guard (by rfl) ?_; dsimp only)); at_builtin; refine Kd.R_append_rows (Kd.int .u64) (w0 := w) w.heap.size rfl (.tmp 18) (.tmp 19) 23 22 (.int .u64 0) 8 rfl Try.underlying23 info22 rfl (by decide) (by omega) v283 y282 l0 _ _ _ (fun _ => True) (fun _ => False) rfl rfl ?aO ?aR (fun _ _ h => h) (fun _ h => h.elim) ?aF ?aB ?aS ?aL ?_; (case aR => repeat (first | exact (Kd.C_below HR0.out HB.out) | (with_reducible refine Kd.C_alloc ?_ _) | (with_reducible refine Kd.C_drewN ?_ _) | (with_reducible refine Kd.C_drew ?_))); (case aB => exact (by repeat (first | (with_reducible first | exact HB.out | apply below_alloc | apply pw_below_drewN | apply below_drew1) | exact HB.out))); (case aF => exact (fun _ _ => trivial)); (case aO => exact (by (with_reducible repeat (first | apply Kd.R_alloc | apply Kd.R_drewN | apply Kd.R_drew)); exact HO284.out)); (case aS => exact (below_size (by repeat (first | (with_reducible first | exact HB.out | apply below_alloc | apply pw_below_drewN | apply below_drew1) | exact HB.out)))); (case aL => have := LMc8.out; omega); intro v286 w25 ho hb hg hat; rw [← Ny285.out] at ho; have n0_ := Aside0.mk (hb); have n1_ := Aside0.mk (ho); clear HB; clear HO284; have HB := n0_; have HO287 := n1_; clear n0_ n1_; clear ho hb hg hat) | ((with_reducible refine gate_builtin (b := .append) (xs := #[.tmp 20, .tmp 21]) rfl ?_); (try (refine gate_guard (by rfl) ?_; dsimp only)); at_builtin; refine Kd.R_append_rows (Kd.int .u64) (w0 := w) w.heap.size rfl (.tmp 20) (.tmp 21) 23 22 (.int .u64 0) 8 rfl Try.underlying23 info22 rfl (by decide) (by omega) v286 y285 l1 _ _ _ (fun _ => True) (fun _ => False) rfl rfl ?aO ?aR (fun _ _ h => h) (fun _ h => h.elim) ?aF ?aB ?aS ?aL ?_; (case aR => repeat (first | exact (Kd.C_below HR1.out HB.out) | (with_reducible refine Kd.C_alloc ?_ _) | (with_reducible refine Kd.C_drewN ?_ _) | (with_reducible refine Kd.C_drew ?_))); (case aB => exact (by repeat (first | (with_reducible first | exact HB.out | apply below_alloc | apply pw_below_drewN | apply below_drew1) | exact HB.out))); (case aF => exact (fun _ _ => trivial)); (case aO => exact (by (with_reducible repeat (first | apply Kd.R_alloc | apply Kd.R_drewN | apply Kd.R_drew)); exact HO287.out)); (case aS => exact (below_size (by repeat (first | (with_reducible first | exact HB.out | apply below_alloc | apply pw_below_drewN | apply below_drew1) | exact HB.out)))); (case aL => have := LMc9.out; omega); intro v289 w26 ho hb hg hat; rw [← Ny288.out] at ho; have n0_ := Aside0.mk (hb); have n1_ := Aside0.mk (ho); clear HB; clear HO287; have HB := n0_; have HO290 := n1_; clear n0_ n1_; clear ho hb hg hat) | ((with_reducible refine gate_dst (N := 23) rfl ?_); (try (refine gate_guard (by rfl) ?_; dsimp only)); refine Kd.R_lit (Kd.int .u64) _ 22 ?hg (N := 23) ?hd (xs := ([] : List Int)) (inner := []) (ok := fun _ => True) (okp := fun _ => True) ?hr ?hp (fun _ hk => hk) trivial (Below.refl _ _) (Nat.le_refl _) (by simp) ?_; (case hd => rfl); (case hg => rfl); (case hr => first | (go_simp; done) | (go_simp; rfl)); (case hp => exact (Reps.none _ _)); intro v292 w27 ho28 hb hg_ hnew_; clear hg_ hnew_; (first | rw [← Ny291.out] at ho28 | (simp only [Int.reduceToNat] at ho28; rw [← Ny291.out] at ho28)); have n0_ := Aside0.mk (Kd.R_elder' (by (with_reducible repeat (first | apply Kd.R_alloc | apply Kd.R_drewN | apply Kd.R_drew)); exact HO290.out) (Kd.R_base ho28) hb); have n1_ := Aside0.mk (Kd.R_lower (Kd.R_new' ho28 (Kd.R_lt (by (with_reducible repeat (first | apply Kd.R_alloc | apply Kd.R_drewN | apply Kd.R_drew)); exact HO290.out))) (below_size (by repeat (first | (with_reducible first | exact HB.out | apply below_alloc | apply pw_below_drewN | apply below_drew1) | exact HB.out)))); have n2_ := Aside0.mk (below_step (by repeat (first | (with_reducible first | exact HB.out | apply below_alloc | apply pw_below_drewN | apply below_drew1) | exact HB.out)) hb); clear HO290; clear HB; have HO290 := n0_; have HO293 := n1_; have HB := n2_; clear n0_ n1_ n2_; clear hb ho28) | ((with_reducible refine gate_builtin (b := .append) (xs := #[.tmp 23, .tmp 24]) rfl ?_); (try (refine gate_guard (by rfl) ?_; dsimp only)); at_builtin; refine Kd.R_append_rows (Kd.int .u64) (w0 := w) w.heap.size rfl (.tmp 23) (.tmp 24) 23 22 (.int .u64 0) 8 rfl Try.underlying23 info22 rfl (by decide) (by omega) v292 y291 l1 _ _ _ (fun k_ => some k_ ≠ (v289 : Value).ownBlock) (fun _ => False) rfl rfl ?aO ?aR (fun _ _ h => h) (fun _ h => h.elim) ?aF ?aB ?aS ?aL ?_; (case aR => repeat (first | exact (Kd.C_below HR1.out HB.out) | (with_reducible refine Kd.C_alloc ?_ _) | (with_reducible refine Kd.C_drewN ?_ _) | (with_reducible refine Kd.C_drew ?_))); (case aB => exact (by repeat (first | (with_reducible first | exact HB.out | apply below_alloc | apply pw_below_drewN | apply below_drew1) | exact HB.out))); (case aF => exact (fun k_ hk => Kd.fresh' (Kd.R_lt (by (with_reducible repeat (first | apply Kd.R_alloc | apply Kd.R_drewN | apply Kd.R_drew)); exact HO290.out)) k_ hk)); (case aO => exact (by (with_reducible repeat (first | apply Kd.R_alloc | apply Kd.R_drewN | apply Kd.R_drew)); exact Kd.R_mono HO293.out (fun _ hk => hk.2))); (case aS => exact (below_size (by repeat (first | (with_reducible first | exact HB.out | apply below_alloc | apply pw_below_drewN | apply below_drew1) | exact HB.out)))); (case aL => have := LMc10.out; omega); intro v295 w29 ho hb hg hat; rw [← Ny294.out] at ho; have n0_ := Aside0.mk (Kd.R_after (ok := (fun _ => True)) (by (with_reducible repeat (first | apply Kd.R_alloc | apply Kd.R_drewN | apply Kd.R_drew)); exact HO290.out) hg hat); have n1_ := Aside0.mk (hb); have n2_ := Aside0.mk (ho); clear HO290; clear HB; clear HO293; have HO290 := n0_; have HB := n1_; have HO296 := n2_; clear n0_ n1_ n2_; clear ho hb hg hat) | ((with_reducible refine gate_builtin (b := .append) (xs := #[.tmp 25, .tmp 26]) rfl ?_); (try (refine gate_guard (by rfl) ?_; dsimp only)); at_builtin; refine Kd.R_append_rows (Kd.int .u64) (w0 := w) w.heap.size rfl (.tmp 25) (.tmp 26) 23 22 (.int .u64 0) 8 rfl Try.underlying23 info22 rfl (by decide) (by omega) v295 y294 l0 _ _ _ (fun k_ => some k_ ≠ (v289 : Value).ownBlock) (fun _ => False) rfl rfl ?aO ?aR (fun _ _ h => h) (fun _ h => h.elim) ?aF ?aB ?aS ?aL ?_; (case aR => repeat (first | exact (Kd.C_below HR0.out HB.out) | (with_reducible refine Kd.C_alloc ?_ _) | (with_reducible refine Kd.C_drewN ?_ _) | (with_reducible refine Kd.C_drew ?_))); (case aB => exact (by repeat (first | (with_reducible first | exact HB.out | apply below_alloc | apply pw_below_drewN | apply below_drew1) | exact HB.out))); (case aF => exact (fun k_ hk => Kd.fresh' (Kd.R_lt (by (with_reducible repeat (first | apply Kd.R_alloc | apply Kd.R_drewN | apply Kd.R_drew)); exact HO290.out)) k_ hk)); (case aO => exact (by (with_reducible repeat (first | apply Kd.R_alloc | apply Kd.R_drewN | apply Kd.R_drew)); exact HO296.out)); (case aS => exact (below_size (by repeat (first | (with_reducible first | exact HB.out | apply below_alloc | apply pw_below_drewN | apply below_drew1) | exact HB.out)))); (case aL => have := LMc11.out; omega); intro v298 w30 ho hb hg hat; rw [← Ny297.out] at ho; have n0_ := Aside0.mk (Kd.R_after (ok := (fun _ => True)) (by (with_reducible repeat (first | apply Kd.R_alloc | apply Kd.R_drewN | apply Kd.R_drew)); exact HO290.out) hg hat); have n1_ := Aside0.mk (hb); have n2_ := Aside0.mk (ho); clear HO290; clear HB; clear HO296; have HO290 := n0_; have HB := n1_; have HO299 := n2_; clear n0_ n1_ n2_; clear ho hb hg hat; obtain ⟨Ao31, co31, eo31⟩ := Kd.R_slice HO290.out; subst eo31) | (go_at_call 22; (with_reducible refine (fixed_Sum.calls kj3 _ _ y288 t300 _ ?side1 ?side2 A13.out).mono ?_); (case side1 => repeat (first | exact (Kd.R_reads' HO290.out).2.2 | (with_reducible refine Kd.C_alloc ?_ _) | (with_reducible refine Kd.C_drewN ?_ _) | (with_reducible refine Kd.C_drew ?_))); (case side2 => exact (Kd.R_reads' HO290.out).2.1); rintro e w' ⟨rfl, ⟨nd, rfl⟩⟩; obtain ⟨Ao32, co32, eo32⟩ := Kd.R_slice HO299.out; subst eo32) | (go_at_call 22; (with_reducible refine (fixed_Sum.calls kj3 _ _ y297 t301 _ ?side1 ?side2 A14.out).mono ?_); (case side1 => repeat (first | exact (Kd.R_reads' HO299.out).2.2 | (with_reducible refine Kd.C_alloc ?_ _) | (with_reducible refine Kd.C_drewN ?_ _) | (with_reducible refine Kd.C_drew ?_))); (case side2 => exact (Kd.R_reads' HO299.out).2.1); rintro e w' ⟨rfl, ⟨nd, rfl⟩⟩) | (go_at_call 22; (with_reducible refine (fixed_Sum.calls kj3 _ _ y288 t300 _ ?side1 ?side2 A16.out).mono ?_); (case side1 => repeat (first | exact (Kd.R_reads' HO290.out).2.2 | (with_reducible refine Kd.C_alloc ?_ _) | (with_reducible refine Kd.C_drewN ?_ _) | (with_reducible refine Kd.C_drew ?_))); (case side2 => exact (Kd.R_reads' HO290.out).2.1); rintro e w' ⟨rfl, ⟨nd, rfl⟩⟩) | (go_at_call 22; (with_reducible refine (fixed_Sum.calls kj3 _ _ l0 t303 _ ?side1 ?side2 A17.out).mono ?_); (case side1 => repeat (first | exact (Kd.C_below HR0.out (by repeat (first | (with_reducible first | exact HB.out | apply below_alloc | apply pw_below_drewN | apply below_drew1) | exact HB.out))) | (with_reducible refine Kd.C_alloc ?_ _) | (with_reducible refine Kd.C_drewN ?_ _) | (with_reducible refine Kd.C_drew ?_))); (case side2 => exact HC0.out); rintro e w' ⟨rfl, ⟨nd, rfl⟩⟩) | (go_at_call 22; (with_reducible refine (fixed_Sum.calls kj3 _ _ l1 t304 _ ?side1 ?side2 A18.out).mono ?_); (case side1 => repeat (first | exact (Kd.C_below HR1.out (by repeat (first | (with_reducible first | exact HB.out | apply below_alloc | apply pw_below_drewN | apply below_drew1) | exact HB.out))) | (with_reducible refine Kd.C_alloc ?_ _) | (with_reducible refine Kd.C_drewN ?_ _) | (with_reducible refine Kd.C_drew ?_))); (case side2 => exact HC1.out); rintro e w' ⟨rfl, ⟨nd, rfl⟩⟩) | ((with_reducible refine gate_dst (N := 43) rfl ?_); (try (refine gate_guard (by rfl) ?_; dsimp only)); refine Kd.R_lit (Kd.int .u64) _ 22 ?hg (N := 43) ?hd (xs := ([t303, t304] : List Int)) (inner := [.int .u64 t303, .int .u64 t304]) (ok := fun _ => True) (okp := fun _ => True) ?hr ?hp (fun _ hk => hk) trivial (Below.refl _ _) (Nat.le_refl _) (by simp) ?_; (case hd => rfl); (case hg => rfl); (case hr => first | (go_simp; done) | (go_simp; rfl)); (case hp => exact (Reps.one (show Kd.M (Kd.int .u64) _ _ _ t303 [.int .u64 t303] from rfl) (Reps.one (show Kd.M (Kd.int .u64) _ _ _ t304 [.int .u64 t304] from rfl) (Reps.none _ _)))); intro v306 w33 ho34 hb hg_ hnew_; clear hg_ hnew_; (first | rw [← Ny305.out] at ho34 | (simp only [Int.reduceToNat] at ho34; rw [← Ny305.out] at ho34)); have n0_ := Aside0.mk (Kd.R_elder' (by (with_reducible repeat (first | apply Kd.R_alloc | apply Kd.R_drewN | apply Kd.R_drew)); exact HO290.out) (Kd.R_base ho34) hb); have n1_ := Aside0.mk (Kd.R_elder' (by (with_reducible repeat (first | apply Kd.R_alloc | apply Kd.R_drewN | apply Kd.R_drew)); exact HO299.out) (Kd.R_base ho34) hb); have n2_ := Aside0.mk (Kd.R_lower (Kd.R_new' (Kd.R_new' ho34 (Kd.R_lt (by (with_reducible repeat (first | apply Kd.R_alloc | apply Kd.R_drewN | apply Kd.R_drew)); exact HO290.out))) (Kd.R_lt (by (with_reducible repeat (first | apply Kd.R_alloc | apply Kd.R_drewN | apply Kd.R_drew)); exact HO299.out))) (below_size (by repeat (first | (with_reducible first | exact HB.out | apply below_alloc | apply pw_below_drewN | apply below_drew1) | exact HB.out)))); have n3_ := Aside0.mk (below_step (by repeat (first | (with_reducible first | exact HB.out | apply below_alloc | apply pw_below_drewN | apply below_drew1) | exact HB.out)) hb); clear HO290; clear HO299; clear HB; have HO290 := n0_; have HO299 := n1_; have HO307 := n2_; have HB := n3_; clear n0_ n1_ n2_ n3_; clear hb ho34; obtain ⟨Ao35, co35, eo35⟩ := Kd.R_slice HO307.out; subst eo35) | (go_at_call 22; (with_reducible refine (fixed_Sum.calls kj3 _ _ y305 t308 _ ?side1 ?side2 A19.out).mono ?_); (case side1 => repeat (first | exact (Kd.R_reads' HO307.out).2.2 | (with_reducible refine Kd.C_alloc ?_ _) | (with_reducible refine Kd.C_drewN ?_ _) | (with_reducible refine Kd.C_drew ?_))); (case side2 => exact (Kd.R_reads' HO307.out).2.1); rintro e w' ⟨rfl, ⟨nd, rfl⟩⟩) | (go_at_call 22; (with_reducible refine (fixed_Sum.calls kj3 _ _ y288 t300 _ ?side1 ?side2 A21.out).mono ?_); (case side1 => repeat (first | exact (Kd.R_reads' HO290.out).2.2 | (with_reducible refine Kd.C_alloc ?_ _) | (with_reducible refine Kd.C_drewN ?_ _) | (with_reducible refine Kd.C_drew ?_))); (case side2 => exact (Kd.R_reads' HO290.out).2.1); rintro e w' ⟨rfl, ⟨nd, rfl⟩⟩) | (go_at_call 22; (with_reducible refine (fixed_Sum.calls kj3 _ _ l0 t303 _ ?side1 ?side2 A22.out).mono ?_); (case side1 => repeat (first | exact (Kd.C_below HR0.out (by repeat (first | (with_reducible first | exact HB.out | apply below_alloc | apply pw_below_drewN | apply below_drew1) | exact HB.out))) | (with_reducible refine Kd.C_alloc ?_ _) | (with_reducible refine Kd.C_drewN ?_ _) | (with_reducible refine Kd.C_drew ?_))); (case side2 => exact HC0.out); rintro e w' ⟨rfl, ⟨nd, rfl⟩⟩))
                      go_ret
                      exact ⟨by first | rfl | (simp [errW_none, errW_some] <;> rfl) | (simp [*, errW_none, errW_some] <;> rfl), by repeat (first | (with_reducible first | exact HB.out | apply below_alloc | apply pw_below_drewN | apply below_drew1) | exact HB.out)⟩
                    · rw [if_neg c20] at H
                      exact absurd H (by simp)
                  · rw [if_neg c15] at H
                    exact absurd H (by simp)
                · replace c12 := Bool.eq_false_iff.mpr c12
                  subst c12
                  have H1 : (none) = some r := by rw [if_neg (show ¬ (false = true) by decide)] at H; exact H
                  clear H
                  have H := H1
                  clear H1
                  exact absurd H (by simp)
              · rw [if_neg c11] at H
                exact absurd H (by simp)
            · rw [if_neg c10] at H
              exact absurd H (by simp)
          · rw [if_neg c9] at H
            exact absurd H (by simp)
        · rw [if_neg c8] at H
          exact absurd H (by simp)

/-- THE ONE PURE STATEMENT of linhaylaw04_FixedSums: yours. -/
def linhaylaw04_FixedSums.Pure : Prop := ∀ (l0 : List Int) (l1 : List Int), l0.length ≤ maxLen → l0.length * 8 ≤ 140737488351232 → (∀ x ∈ l0, (Lit.int .u64 x).wf = true) → l1.length ≤ maxLen → l1.length * 8 ≤ 140737488351232 → (∀ x ∈ l1, (Lit.int .u64 x).wf = true) → ∃ k, linhaylaw04_FixedSums.f k l0 l1 = some true
theorem linhaylaw04_FixedSums.walk (P : linhaylaw04_FixedSums.Pure) (a0 : Option Addr) (len0 cap0 : Nat) (z0 : List Int) (a1 : Option Addr) (len1 cap1 : Nat) (z1 : List Int) (w : World) (w0 : (a0 = none ∧ len0 = 0 ∧ cap0 = 0 ∧ z0 = []) ∨ ∃ x, a0 = some x ∧ len0 ≤ cap0 ∧ cap0 ≤ maxLen ∧ z0.length = cap0 ∧ (∀ i, i < z0.length → w.cell? (x.add i) = some (.int .u64 (z0.getD i 0))) ∧ ∀ n ∈ z0, (Lit.int .u64 n).wf = true) (y0 : len0 * 8 ≤ 140737488351232) (w1 : (a1 = none ∧ len1 = 0 ∧ cap1 = 0 ∧ z1 = []) ∨ ∃ x, a1 = some x ∧ len1 ≤ cap1 ∧ cap1 ≤ maxLen ∧ z1.length = cap1 ∧ (∀ i, i < z1.length → w.cell? (x.add i) = some (.int .u64 (z1.getD i 0))) ∧ ∀ n ∈ z1, (Lit.int .u64 n).wf = true) (y1 : len1 * 8 ≤ 140737488351232) :
    Calls Try.prog 8 #[.slice a0 len0 cap0, .slice a1 len1 cap1] w fun e w' => e = .returned (.bool true) ∧ Below w.heap.size w w' := by
  obtain ⟨l0, rfl, hr0, hm0, hw0, hc0⟩ := ReadsInt.ofRowC w0
  obtain ⟨l1, rfl, hr1, hm1, hw1, hc1⟩ := ReadsInt.ofRowC w1
  obtain ⟨k, h⟩ := P l0 l1 hm0 y0 hw0 hm1 y1 hw1
  refine (linhaylaw04_FixedSums.calls k _ _ l0 _ _ l1 true w (Kd.C_of_reads (d := (0 : Int)) (h1 := fun _ => rfl) hr0) hc0 (Kd.C_of_reads (d := (0 : Int)) (h1 := fun _ => rfl) hr1) hc1 h).mono ?_
  rintro e w' ⟨rfl, hd⟩
  exact ⟨rfl, hd⟩

end Go.Proofs.Ytnippnpbnmkfbaa.Print
