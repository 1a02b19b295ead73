/- Lean functions that answer what Go functions of the translation answer, and the proofs of it. Written by a program of this session (wip/tools/seatprint.py), over contracts that it proved by hand. Conditions: those that each theorem says. -/
import Derived.Test.YtnippnpbnmkfbaaPrint0
import Derived.Test.YtnippnpbnmkfbaaPrint5
import Derived.Test.YtnippnpbnmkfbaaPrint8
namespace Go.Proofs.Ytnippnpbnmkfbaa.Print
open Go.RowKit Go.Proofs.YtnippnpbnmkfbaaW.PrintWords Go.Proofs.YtnippnpbnmkfbaaW.PrintLast Go.Proofs.YtnippnpbnmkfbaaW.PrintMore
attribute [local go_sem] max2_int min2_int max_two min_two max_three min_three max_four min_four   -- for this text's walks alone
set_option linter.unusedVariables false
set_option linter.unusedSimpArgs false

/-! ### linhaylaw04_FixedSmall: function 6 -/
def linhaylaw04_FixedSmall.f (k : Nat) (a0 : Int) (a1 : Int) (a2 : Int) : Option (Bool) := (linhaylaw04_awake.f k).bind fun t269 => (if t269 = true then ((fixed_Mul.f k a0 (mn a1 4294967296)).bind fun t270 => (if t270 ≤ a0 then ((fixed_Mul.f k a0 a1).bind fun t271 => ((fixed_Mul.f k a1 a0).bind fun t272 => (if t271 = t272 then ((fixed_Mul.f k (mn a0 a2) a1).bind fun t273 => ((fixed_Mul.f k (mx a0 a2) a1).bind fun t274 => (if t273 ≤ t274 then ((fixed_Mul.f k a0 0).bind fun t275 => (some (t275 == 0))) else (none)))) else (none)))) else (none))) else (none))
theorem linhaylaw04_FixedSmall.mono : ∀ a0 a1 a2 k, LeO (linhaylaw04_FixedSmall.f k a0 a1 a2) (linhaylaw04_FixedSmall.f (k + 1) a0 a1 a2) := by
  intro a0 a1 a2 k
  unfold linhaylaw04_FixedSmall.f
  repeat' first
      | (with_reducible exact fixed_Mul.mono _ _ _)
      | (with_reducible exact linhaylaw04_awake.mono _)
      | (with_reducible exact LeO.refl _)
      | (with_reducible exact LeO.none _)
      | (with_reducible refine LeO.ite ?_ ?_)
      | (with_reducible refine LeO.bind ?_ (fun _ => ?_))
      | exact fixed_Mul.mono _ _ _
      | exact linhaylaw04_awake.mono _
      | exact LeO.none _
      | refine LeO.ite ?_ ?_
      | refine LeO.bind ?_ (fun _ => ?_)
set_option maxHeartbeats 8000000 in
set_option maxRecDepth 100000 in
theorem linhaylaw04_FixedSmall.calls (k : Nat) (a0 : Int) (a1 : Int) (a2 : Int) (r : Bool) (w : World) (h : linhaylaw04_FixedSmall.f k a0 a1 a2 = some r) :
    Calls Try.prog 6 #[.int .u64 a0, .int .u64 a1, .int .u64 a2] w fun e w' => e = .returned (.bool r) ∧ Below w.heap.size w w' := by
  have HB := Aside0.mk (Below.refl w.heap.size w)
  have H : ((linhaylaw04_awake.f k).bind fun t269 => (if t269 = true then ((fixed_Mul.f k a0 (mn a1 4294967296)).bind fun t270 => (if t270 ≤ a0 then ((fixed_Mul.f k a0 a1).bind fun t271 => ((fixed_Mul.f k a1 a0).bind fun t272 => (if t271 = t272 then ((fixed_Mul.f k (mn a0 a2) a1).bind fun t273 => ((fixed_Mul.f k (mx a0 a2) a1).bind fun t274 => (if t273 ≤ t274 then ((fixed_Mul.f k a0 0).bind fun t275 => (some (t275 == 0))) else (none)))) else (none)))) else (none))) else (none))) = some r := h
  clear h
  replace H := Option.bind_eq_some_iff.mp H
  obtain ⟨t269, A40, H⟩ := H
  replace H : (if t269 = true then ((fixed_Mul.f k a0 (mn a1 4294967296)).bind fun t270 => (if t270 ≤ a0 then ((fixed_Mul.f k a0 a1).bind fun t271 => ((fixed_Mul.f k a1 a0).bind fun t272 => (if t271 = t272 then ((fixed_Mul.f k (mn a0 a2) a1).bind fun t273 => ((fixed_Mul.f k (mx a0 a2) a1).bind fun t274 => (if t273 ≤ t274 then ((fixed_Mul.f k a0 0).bind fun t275 => (some (t275 == 0))) else (none)))) else (none)))) else (none))) else (none)) = some r := H
  have A4 := Aside0.mk A40
  clear A40
  obtain ⟨ji5, hji5⟩ : ∃ j_ : Int, (mn a1 4294967296) = j_ := ⟨_, rfl⟩
  replace H : (if t269 = true then ((fixed_Mul.f k a0 (ji5)).bind fun t270 => (if t270 ≤ a0 then ((fixed_Mul.f k a0 a1).bind fun t271 => ((fixed_Mul.f k a1 a0).bind fun t272 => (if t271 = t272 then ((fixed_Mul.f k (mn a0 a2) a1).bind fun t273 => ((fixed_Mul.f k (mx a0 a2) a1).bind fun t274 => (if t273 ≤ t274 then ((fixed_Mul.f k a0 0).bind fun t275 => (some (t275 == 0))) else (none)))) else (none)))) else (none))) else (none)) = some r := by first | (rw [hji5] at H; exact H) | (simp only [hji5] at H ⊢; exact H)
  (try rw [hji5] at A4)
  (try (have hji5h : ji5 ≤ 4294967296 := by (rw [← hji5]; unfold mn; (repeat' split) <;> omega)))
  (try (have hji5g : ji5 ≤ 64 := by omega))
  have hji5_ : (if 4294967296 < a1 then 4294967296 else a1) = ji5 := hji5
  by_cases c6 : t269 = true
  · subst c6
    have H1 : ((fixed_Mul.f k a0 (ji5)).bind fun t270 => (if t270 ≤ a0 then ((fixed_Mul.f k a0 a1).bind fun t271 => ((fixed_Mul.f k a1 a0).bind fun t272 => (if t271 = t272 then ((fixed_Mul.f k (mn a0 a2) a1).bind fun t273 => ((fixed_Mul.f k (mx a0 a2) a1).bind fun t274 => (if t273 ≤ t274 then ((fixed_Mul.f k a0 0).bind fun t275 => (some (t275 == 0))) else (none)))) else (none)))) else (none))) = some r := by rw [if_pos rfl] at H; exact H
    clear H
    have H := H1
    clear H1
    replace H := Option.bind_eq_some_iff.mp H
    obtain ⟨t270, A70, H⟩ := H
    replace H : (if t270 ≤ a0 then ((fixed_Mul.f k a0 a1).bind fun t271 => ((fixed_Mul.f k a1 a0).bind fun t272 => (if t271 = t272 then ((fixed_Mul.f k (mn a0 a2) a1).bind fun t273 => ((fixed_Mul.f k (mx a0 a2) a1).bind fun t274 => (if t273 ≤ t274 then ((fixed_Mul.f k a0 0).bind fun t275 => (some (t275 == 0))) else (none)))) else (none)))) else (none)) = some r := H
    have A7 := Aside0.mk A70
    clear A70
    by_cases c8 : t270 ≤ a0
    · rw [if_pos c8] at H
      have c8b0 : decide (t270 ≤ a0) = true := decide_eq_true c8
      clear c8
      replace H := Option.bind_eq_some_iff.mp H
      obtain ⟨t271, A90, H⟩ := H
      replace H : ((fixed_Mul.f k a1 a0).bind fun t272 => (if t271 = t272 then ((fixed_Mul.f k (mn a0 a2) a1).bind fun t273 => ((fixed_Mul.f k (mx a0 a2) a1).bind fun t274 => (if t273 ≤ t274 then ((fixed_Mul.f k a0 0).bind fun t275 => (some (t275 == 0))) else (none)))) else (none))) = some r := H
      have A9 := Aside0.mk A90
      clear A90
      replace H := Option.bind_eq_some_iff.mp H
      obtain ⟨t272, A100, H⟩ := H
      replace H : (if t271 = t272 then ((fixed_Mul.f k (mn a0 a2) a1).bind fun t273 => ((fixed_Mul.f k (mx a0 a2) a1).bind fun t274 => (if t273 ≤ t274 then ((fixed_Mul.f k a0 0).bind fun t275 => (some (t275 == 0))) else (none)))) else (none)) = some r := H
      have A10 := Aside0.mk A100
      clear A100
      by_cases c11 : t271 = t272
      · rw [if_pos c11] at H
        have c11b0 : (t271 == t272) = true := beq_iff_eq.mpr c11
        have c11b1 : (t271 != t272) = false := bne_eq_false_iff_eq.mpr c11
        clear c11
        obtain ⟨ji12, hji12⟩ : ∃ j_ : Int, (mn a0 a2) = j_ := ⟨_, rfl⟩
        replace H : ((fixed_Mul.f k (ji12) a1).bind fun t273 => ((fixed_Mul.f k (mx a0 a2) a1).bind fun t274 => (if t273 ≤ t274 then ((fixed_Mul.f k a0 0).bind fun t275 => (some (t275 == 0))) else (none)))) = some r := by first | (rw [hji12] at H; exact H) | (simp only [hji12] at H ⊢; exact H)
        (try rw [hji12] at A4)
        (try rw [hji12] at A7)
        (try rw [hji12] at A9)
        (try rw [hji12] at A10)
        have hji12_ : (if a2 < a0 then a2 else a0) = ji12 := hji12
        replace H := Option.bind_eq_some_iff.mp H
        obtain ⟨t273, A130, H⟩ := H
        replace H : ((fixed_Mul.f k (mx a0 a2) a1).bind fun t274 => (if t273 ≤ t274 then ((fixed_Mul.f k a0 0).bind fun t275 => (some (t275 == 0))) else (none))) = some r := H
        have A13 := Aside0.mk A130
        clear A130
        obtain ⟨ji14, hji14⟩ : ∃ j_ : Int, (mx a0 a2) = j_ := ⟨_, rfl⟩
        replace H : ((fixed_Mul.f k (ji14) a1).bind fun t274 => (if t273 ≤ t274 then ((fixed_Mul.f k a0 0).bind fun t275 => (some (t275 == 0))) else (none))) = some r := by first | (rw [hji14] at H; exact H) | (simp only [hji14] at H ⊢; exact H)
        (try rw [hji14] at A4)
        (try rw [hji14] at A7)
        (try rw [hji14] at A9)
        (try rw [hji14] at A10)
        (try rw [hji14] at A13)
        have hji14_ : (if a0 < a2 then a2 else a0) = ji14 := hji14
        replace H := Option.bind_eq_some_iff.mp H
        obtain ⟨t274, A150, H⟩ := H
        replace H : (if t273 ≤ t274 then ((fixed_Mul.f k a0 0).bind fun t275 => (some (t275 == 0))) else (none)) = some r := H
        have A15 := Aside0.mk A150
        clear A150
        by_cases c16 : t273 ≤ t274
        · rw [if_pos c16] at H
          have c16b0 : decide (t273 ≤ t274) = true := decide_eq_true c16
          clear c16
          replace H := Option.bind_eq_some_iff.mp H
          obtain ⟨t275, A170, H⟩ := H
          replace H : (some (t275 == 0)) = some r := H
          have A17 := Aside0.mk A170
          clear A170
          obtain rfl := Option.some.inj H
          go_enter Try.func6, Try.ntmps6
          go_wp2_with (first | ((with_reducible refine gate_callee (f := 9) rfl ?_); refine goesL_ (some 9) rfl rfl Try.func9 (by kernel_rfl) rfl #[] rfl (by (try simp only [List.map_toArray, List.map_cons, List.map_nil]); first | done | rfl | (simp only [List.length_drop, List.length_take]; rfl)) ?_; (with_reducible refine (linhaylaw04_awake.calls k  true _ A4.out).mono ?_); rintro e w18 ⟨rfl, hb⟩; refine ⟨_, rfl, ?_⟩; have n0_ := Aside0.mk (below_step (by repeat (first | (with_reducible first | exact HB.out | apply below_alloc | apply pw_below_drewN | apply below_drew1) | exact HB.out)) hb); clear HB; have HB := n0_; clear n0_; (try clear hb); (try clear hb2); (try clear hk); (try clear hi)) | (go_at_call 14; (with_reducible refine (fixed_Mul.calls k a0 ji5 t270 _ A7.out).mono ?_); rintro e w19 ⟨rfl, hb⟩; have n0_ := Aside0.mk (below_step (by repeat (first | (with_reducible first | exact HB.out | apply below_alloc | apply pw_below_drewN | apply below_drew1) | exact HB.out)) hb); clear HB; have HB := n0_; clear n0_; (try clear hb); (try clear hb2); (try clear hk); (try clear hi)) | (go_at_call 14; (with_reducible refine (fixed_Mul.calls k a0 a1 t271 _ A9.out).mono ?_); rintro e w20 ⟨rfl, hb⟩; have n0_ := Aside0.mk (below_step (by repeat (first | (with_reducible first | exact HB.out | apply below_alloc | apply pw_below_drewN | apply below_drew1) | exact HB.out)) hb); clear HB; have HB := n0_; clear n0_; (try clear hb); (try clear hb2); (try clear hk); (try clear hi)) | (go_at_call 14; (with_reducible refine (fixed_Mul.calls k a1 a0 t272 _ A10.out).mono ?_); rintro e w21 ⟨rfl, hb⟩; have n0_ := Aside0.mk (below_step (by repeat (first | (with_reducible first | exact HB.out | apply below_alloc | apply pw_below_drewN | apply below_drew1) | exact HB.out)) hb); clear HB; have HB := n0_; clear n0_; (try clear hb); (try clear hb2); (try clear hk); (try clear hi)) | (go_at_call 14; (with_reducible refine (fixed_Mul.calls k ji12 a1 t273 _ A13.out).mono ?_); rintro e w22 ⟨rfl, hb⟩; have n0_ := Aside0.mk (below_step (by repeat (first | (with_reducible first | exact HB.out | apply below_alloc | apply pw_below_drewN | apply below_drew1) | exact HB.out)) hb); clear HB; have HB := n0_; clear n0_; (try clear hb); (try clear hb2); (try clear hk); (try clear hi)) | (go_at_call 14; (with_reducible refine (fixed_Mul.calls k ji14 a1 t274 _ A15.out).mono ?_); rintro e w23 ⟨rfl, hb⟩; have n0_ := Aside0.mk (below_step (by repeat (first | (with_reducible first | exact HB.out | apply below_alloc | apply pw_below_drewN | apply below_drew1) | exact HB.out)) hb); clear HB; have HB := n0_; clear n0_; (try clear hb); (try clear hb2); (try clear hk); (try clear hi)) | (go_at_call 14; (with_reducible refine (fixed_Mul.calls k a0 0 t275 _ A17.out).mono ?_); rintro e w24 ⟨rfl, hb⟩; have n0_ := Aside0.mk (below_step (by repeat (first | (with_reducible first | exact HB.out | apply below_alloc | apply pw_below_drewN | apply below_drew1) | exact HB.out)) hb); clear HB; have HB := n0_; clear n0_; (try clear hb); (try clear hb2); (try clear hk); (try clear hi)) | (go_at_call 9; (with_reducible refine (linhaylaw04_awake.calls k  true _ A4.out).mono ?_); rintro e w18 ⟨rfl, hb⟩; have n0_ := Aside0.mk (below_step (by repeat (first | (with_reducible first | exact HB.out | apply below_alloc | apply pw_below_drewN | apply below_drew1) | exact HB.out)) hb); clear HB; have HB := n0_; clear n0_; (try clear hb); (try clear hb2); (try clear hk); (try clear hi)))
          go_ret
          exact ⟨by first | rfl | (simp [errW_none, errW_some] <;> rfl) | (simp only [← hji5, ← hji12, ← hji14]; first | rfl | (simp [errW_none, errW_some] <;> rfl)) | (simp [*, errW_none, errW_some] <;> rfl), by repeat (first | (with_reducible first | exact HB.out | apply below_alloc | apply pw_below_drewN | apply below_drew1) | exact HB.out)⟩
        · rw [if_neg c16] at H
          exact absurd H (by simp)
      · rw [if_neg c11] at H
        exact absurd H (by simp)
    · rw [if_neg c8] at H
      exact absurd H (by simp)
  · replace c6 := Bool.eq_false_iff.mpr c6
    subst c6
    have H1 : (none) = some r := by rw [if_neg (show ¬ (false = true) by decide)] at H; exact H
    clear H
    have H := H1
    clear H1
    exact absurd H (by simp)

/-- THE ONE PURE STATEMENT of linhaylaw04_FixedSmall: yours. -/
def linhaylaw04_FixedSmall.Pure : Prop := ∀ (a0 : Int) (a1 : Int) (a2 : Int), (Lit.int .u64 a0).wf = true → (Lit.int .u64 a1).wf = true → (Lit.int .u64 a2).wf = true → ∃ k, linhaylaw04_FixedSmall.f k a0 a1 a2 = some true
theorem linhaylaw04_FixedSmall.walk (P : linhaylaw04_FixedSmall.Pure) (a0 : Int) (a1 : Int) (a2 : Int) (w : World) (w0 : (Lit.int .u64 a0).wf = true) (w1 : (Lit.int .u64 a1).wf = true) (w2 : (Lit.int .u64 a2).wf = true) :
    Calls Try.prog 6 #[.int .u64 a0, .int .u64 a1, .int .u64 a2] w fun e w' => e = .returned (.bool true) ∧ Below w.heap.size w w' := by
  obtain ⟨k, h⟩ := P a0 a1 a2 w0 w1 w2
  refine (linhaylaw04_FixedSmall.calls k a0 a1 a2 true w h).mono ?_
  rintro e w' ⟨rfl, hd⟩
  exact ⟨rfl, hd⟩

/-! ### linhaylaw04_FixedBack: function 7 -/
def linhaylaw04_FixedBack.f (k : Nat) (a0 : Int) (a1 : Int) : Option (Bool) := (linhaylaw04_awake.f k).bind fun t276 => ((fixed_Div.f k a0 a1).bind fun bt277 => (if bt277.2 = 0 then ((fixed_Mul.f k bt277.1 a1).bind fun t279 => (if t276 = true then (if t279 ≤ a0 then ((fixed_Whole.f a1).bind fun t280 => (some (decide ((IntKind.u64.wrap (a0 - t279)) ≤ (IntKind.u64.wrap (t280 + 1)))))) else (none)) else (none))) else (if t276 = true then (if bt277.1 = 0 then (some ((a1 == 0) == (bt277.2 == 20))) else (none)) else (none))))
theorem linhaylaw04_FixedBack.mono : ∀ a0 a1 k, LeO (linhaylaw04_FixedBack.f k a0 a1) (linhaylaw04_FixedBack.f (k + 1) a0 a1) := by
  intro a0 a1 k
  unfold linhaylaw04_FixedBack.f
  repeat' first
      | (with_reducible exact fixed_Div.mono _ _ _)
      | (with_reducible exact fixed_Mul.mono _ _ _)
      | (with_reducible exact linhaylaw04_awake.mono _)
      | (with_reducible exact LeO.refl _)
      | (with_reducible exact LeO.none _)
      | (with_reducible refine LeO.ite ?_ ?_)
      | (with_reducible refine LeO.bind ?_ (fun _ => ?_))
      | exact fixed_Div.mono _ _ _
      | exact fixed_Mul.mono _ _ _
      | exact linhaylaw04_awake.mono _
      | exact LeO.none _
      | refine LeO.ite ?_ ?_
      | refine LeO.bind ?_ (fun _ => ?_)
set_option maxHeartbeats 8000000 in
set_option maxRecDepth 100000 in
theorem linhaylaw04_FixedBack.calls (k : Nat) (a0 : Int) (a1 : Int) (r : Bool) (w : World) (h : linhaylaw04_FixedBack.f k a0 a1 = some r) :
    Calls Try.prog 7 #[.int .u64 a0, .int .u64 a1] w fun e w' => e = .returned (.bool r) ∧ Below w.heap.size w w' := by
  have HB := Aside0.mk (Below.refl w.heap.size w)
  have H : ((linhaylaw04_awake.f k).bind fun t276 => ((fixed_Div.f k a0 a1).bind fun bt277 => (if bt277.2 = 0 then ((fixed_Mul.f k bt277.1 a1).bind fun t279 => (if t276 = true then (if t279 ≤ a0 then ((fixed_Whole.f a1).bind fun t280 => (some (decide ((IntKind.u64.wrap (a0 - t279)) ≤ (IntKind.u64.wrap (t280 + 1)))))) else (none)) else (none))) else (if t276 = true then (if bt277.1 = 0 then (some ((a1 == 0) == (bt277.2 == 20))) else (none)) else (none))))) = some r := h
  clear h
  replace H := Option.bind_eq_some_iff.mp H
  obtain ⟨t276, A30, H⟩ := H
  replace H : ((fixed_Div.f k a0 a1).bind fun bt277 => (if bt277.2 = 0 then ((fixed_Mul.f k bt277.1 a1).bind fun t279 => (if t276 = true then (if t279 ≤ a0 then ((fixed_Whole.f a1).bind fun t280 => (some (decide ((IntKind.u64.wrap (a0 - t279)) ≤ (IntKind.u64.wrap (t280 + 1)))))) else (none)) else (none))) else (if t276 = true then (if bt277.1 = 0 then (some ((a1 == 0) == (bt277.2 == 20))) else (none)) else (none)))) = some r := H
  have A3 := Aside0.mk A30
  clear A30
  replace H := Option.bind_eq_some_iff.mp H
  obtain ⟨⟨t277, t278⟩, A40, H⟩ := H
  replace H : (if t278 = 0 then ((fixed_Mul.f k t277 a1).bind fun t279 => (if t276 = true then (if t279 ≤ a0 then ((fixed_Whole.f a1).bind fun t280 => (some (decide ((IntKind.u64.wrap (a0 - t279)) ≤ (IntKind.u64.wrap (t280 + 1)))))) else (none)) else (none))) else (if t276 = true then (if t277 = 0 then (some ((a1 == 0) == (t278 == 20))) else (none)) else (none))) = some r := H
  have A4 := Aside0.mk A40
  clear A40
  by_cases c5 : t278 = 0
  · rw [if_pos c5] at H
    have c5b0 : (t278 == 0) = true := beq_iff_eq.mpr c5
    have c5b1 : (t278 != 0) = false := bne_eq_false_iff_eq.mpr c5
    clear c5
    replace H := Option.bind_eq_some_iff.mp H
    obtain ⟨t279, A60, H⟩ := H
    replace H : (if t276 = true then (if t279 ≤ a0 then ((fixed_Whole.f a1).bind fun t280 => (some (decide ((IntKind.u64.wrap (a0 - t279)) ≤ (IntKind.u64.wrap (t280 + 1)))))) else (none)) else (none)) = some r := H
    have A6 := Aside0.mk A60
    clear A60
    by_cases c7 : t276 = true
    · subst c7
      have H1 : (if t279 ≤ a0 then ((fixed_Whole.f a1).bind fun t280 => (some (decide ((IntKind.u64.wrap (a0 - t279)) ≤ (IntKind.u64.wrap (t280 + 1)))))) else (none)) = some r := by rw [if_pos rfl] at H; exact H
      clear H
      have H := H1
      clear H1
      by_cases c8 : t279 ≤ a0
      · rw [if_pos c8] at H
        have c8b0 : decide (t279 ≤ a0) = true := decide_eq_true c8
        clear c8
        replace H := Option.bind_eq_some_iff.mp H
        obtain ⟨t280, A90, H⟩ := H
        replace H : (some (decide ((IntKind.u64.wrap (a0 - t279)) ≤ (IntKind.u64.wrap (t280 + 1))))) = some r := H
        have A9 := Aside0.mk A90
        clear A90
        obtain rfl := Option.some.inj H
        go_enter Try.func7, Try.ntmps7
        go_wp2_with (first | ((with_reducible refine gate_callee (f := 9) rfl ?_); refine goesL_ (some 9) rfl rfl Try.func9 (by kernel_rfl) rfl #[] rfl (by (try simp only [List.map_toArray, List.map_cons, List.map_nil]); first | done | rfl | (simp only [List.length_drop, List.length_take]; rfl)) ?_; (with_reducible refine (linhaylaw04_awake.calls k  true _ A3.out).mono ?_); rintro e w10 ⟨rfl, hb⟩; refine ⟨_, rfl, ?_⟩; have n0_ := Aside0.mk (below_step (by repeat (first | (with_reducible first | exact HB.out | apply below_alloc | apply pw_below_drewN | apply below_drew1) | exact HB.out)) hb); clear HB; have HB := n0_; clear n0_; (try clear hb); (try clear hb2); (try clear hk); (try clear hi)) | ((with_reducible refine gate_callee (f := 12) rfl ?_); refine goesL_ (some 13) rfl rfl Try.func12 (by kernel_rfl) rfl #[.int .u64 a0, .int .u64 a1] rfl (by (try simp only [List.map_toArray, List.map_cons, List.map_nil]); first | done | rfl | (simp only [List.length_drop, List.length_take]; rfl)) ?_; (with_reducible refine (fixed_Div.calls k a0 a1 t277 t278 _ A4.out).mono ?_); rintro e w11 ⟨rfl, hb⟩; refine ⟨_, rfl, ?_⟩; have n0_ := Aside0.mk (below_step (by repeat (first | (with_reducible first | exact HB.out | apply below_alloc | apply pw_below_drewN | apply below_drew1) | exact HB.out)) hb); clear HB; have HB := n0_; clear n0_; (try clear hb); (try clear hb2); (try clear hk); (try clear hi)) | ((with_reducible refine gate_callee (f := 14) rfl ?_); refine goesL_ (some 32) rfl rfl Try.func14 (by kernel_rfl) rfl #[.int .u64 t277, .int .u64 a1] rfl (by (try simp only [List.map_toArray, List.map_cons, List.map_nil]); first | done | rfl | (simp only [List.length_drop, List.length_take]; rfl)) ?_; (with_reducible refine (fixed_Mul.calls k t277 a1 t279 _ A6.out).mono ?_); rintro e w12 ⟨rfl, hb⟩; refine ⟨_, rfl, ?_⟩; have n0_ := Aside0.mk (below_step (by repeat (first | (with_reducible first | exact HB.out | apply below_alloc | apply pw_below_drewN | apply below_drew1) | exact HB.out)) hb); clear HB; have HB := n0_; clear n0_; (try clear hb); (try clear hb2); (try clear hk); (try clear hi)) | (go_at_call 16; (with_reducible refine (fixed_Whole.calls a1 t280 _ A9.out).mono ?_); rintro e w' ⟨rfl, ⟨nd, rfl⟩⟩) | (go_at_call 9; (with_reducible refine (linhaylaw04_awake.calls k  true _ A3.out).mono ?_); rintro e w10 ⟨rfl, hb⟩; have n0_ := Aside0.mk (below_step (by repeat (first | (with_reducible first | exact HB.out | apply below_alloc | apply pw_below_drewN | apply below_drew1) | exact HB.out)) hb); clear HB; have HB := n0_; clear n0_; (try clear hb); (try clear hb2); (try clear hk); (try clear hi)) | (go_at_call 12; (with_reducible refine (fixed_Div.calls k a0 a1 t277 t278 _ A4.out).mono ?_); rintro e w11 ⟨rfl, hb⟩; have n0_ := Aside0.mk (below_step (by repeat (first | (with_reducible first | exact HB.out | apply below_alloc | apply pw_below_drewN | apply below_drew1) | exact HB.out)) hb); clear HB; have HB := n0_; clear n0_; (try clear hb); (try clear hb2); (try clear hk); (try clear hi)) | (go_at_call 14; (with_reducible refine (fixed_Mul.calls k t277 a1 t279 _ A6.out).mono ?_); rintro e w12 ⟨rfl, hb⟩; have n0_ := Aside0.mk (below_step (by repeat (first | (with_reducible first | exact HB.out | apply below_alloc | apply pw_below_drewN | apply below_drew1) | exact HB.out)) hb); clear HB; have HB := n0_; clear n0_; (try clear hb); (try clear hb2); (try clear hk); (try clear hi)))
        go_ret
        exact ⟨by first | rfl | (simp [errW_none, errW_some] <;> rfl) | (simp [*, errW_none, errW_some] <;> rfl), by repeat (first | (with_reducible first | exact HB.out | apply below_alloc | apply pw_below_drewN | apply below_drew1) | exact HB.out)⟩
      · rw [if_neg c8] at H
        exact absurd H (by simp)
    · replace c7 := Bool.eq_false_iff.mpr c7
      subst c7
      have H1 : (none) = some r := by rw [if_neg (show ¬ (false = true) by decide)] at H; exact H
      clear H
      have H := H1
      clear H1
      exact absurd H (by simp)
  · rw [if_neg c5] at H
    have c5b0 : (t278 == 0) = false := beq_eq_false_iff_ne.mpr c5
    have c5b1 : (t278 != 0) = true := bne_iff_ne.mpr c5
    by_cases c13 : t276 = true
    · subst c13
      have H1 : (if t277 = 0 then (some ((a1 == 0) == (t278 == 20))) else (none)) = some r := by rw [if_pos rfl] at H; exact H
      clear H
      have H := H1
      clear H1
      by_cases c14 : t277 = 0
      · rw [if_pos c14] at H
        have c14b0 : (t277 == 0) = true := beq_iff_eq.mpr c14
        have c14b1 : (t277 != 0) = false := bne_eq_false_iff_eq.mpr c14
        clear c14
        obtain rfl := Option.some.inj H
        go_enter Try.func7, Try.ntmps7
        go_wp2_with (first | ((with_reducible refine gate_callee (f := 9) rfl ?_); refine goesL_ (some 9) rfl rfl Try.func9 (by kernel_rfl) rfl #[] rfl (by (try simp only [List.map_toArray, List.map_cons, List.map_nil]); first | done | rfl | (simp only [List.length_drop, List.length_take]; rfl)) ?_; (with_reducible refine (linhaylaw04_awake.calls k  true _ A3.out).mono ?_); rintro e w15 ⟨rfl, hb⟩; refine ⟨_, rfl, ?_⟩; have n0_ := Aside0.mk (below_step (by repeat (first | (with_reducible first | exact HB.out | apply below_alloc | apply pw_below_drewN | apply below_drew1) | exact HB.out)) hb); clear HB; have HB := n0_; clear n0_; (try clear hb); (try clear hb2); (try clear hk); (try clear hi)) | ((with_reducible refine gate_callee (f := 12) rfl ?_); refine goesL_ (some 13) rfl rfl Try.func12 (by kernel_rfl) rfl #[.int .u64 a0, .int .u64 a1] rfl (by (try simp only [List.map_toArray, List.map_cons, List.map_nil]); first | done | rfl | (simp only [List.length_drop, List.length_take]; rfl)) ?_; (with_reducible refine (fixed_Div.calls k a0 a1 t277 t278 _ A4.out).mono ?_); rintro e w16 ⟨rfl, hb⟩; refine ⟨_, rfl, ?_⟩; have n0_ := Aside0.mk (below_step (by repeat (first | (with_reducible first | exact HB.out | apply below_alloc | apply pw_below_drewN | apply below_drew1) | exact HB.out)) hb); clear HB; have HB := n0_; clear n0_; (try clear hb); (try clear hb2); (try clear hk); (try clear hi)) | (go_at_call 9; (with_reducible refine (linhaylaw04_awake.calls k  true _ A3.out).mono ?_); rintro e w15 ⟨rfl, hb⟩; have n0_ := Aside0.mk (below_step (by repeat (first | (with_reducible first | exact HB.out | apply below_alloc | apply pw_below_drewN | apply below_drew1) | exact HB.out)) hb); clear HB; have HB := n0_; clear n0_; (try clear hb); (try clear hb2); (try clear hk); (try clear hi)) | (go_at_call 12; (with_reducible refine (fixed_Div.calls k a0 a1 t277 t278 _ A4.out).mono ?_); rintro e w16 ⟨rfl, hb⟩; have n0_ := Aside0.mk (below_step (by repeat (first | (with_reducible first | exact HB.out | apply below_alloc | apply pw_below_drewN | apply below_drew1) | exact HB.out)) hb); clear HB; have HB := n0_; clear n0_; (try clear hb); (try clear hb2); (try clear hk); (try clear hi)))
        go_ret
        exact ⟨by first | rfl | (simp [errW_none, errW_some] <;> rfl) | (simp [*, errW_none, errW_some] <;> rfl), by repeat (first | (with_reducible first | exact HB.out | apply below_alloc | apply pw_below_drewN | apply below_drew1) | exact HB.out)⟩
      · rw [if_neg c14] at H
        exact absurd H (by simp)
    · replace c13 := Bool.eq_false_iff.mpr c13
      subst c13
      have H1 : (none) = some r := by rw [if_neg (show ¬ (false = true) by decide)] at H; exact H
      clear H
      have H := H1
      clear H1
      exact absurd H (by simp)

/-- THE ONE PURE STATEMENT of linhaylaw04_FixedBack: yours. -/
def linhaylaw04_FixedBack.Pure : Prop := ∀ (a0 : Int) (a1 : Int), (Lit.int .u64 a0).wf = true → (Lit.int .u64 a1).wf = true → ∃ k, linhaylaw04_FixedBack.f k a0 a1 = some true
theorem linhaylaw04_FixedBack.walk (P : linhaylaw04_FixedBack.Pure) (a0 : Int) (a1 : Int) (w : World) (w0 : (Lit.int .u64 a0).wf = true) (w1 : (Lit.int .u64 a1).wf = true) :
    Calls Try.prog 7 #[.int .u64 a0, .int .u64 a1] w fun e w' => e = .returned (.bool true) ∧ Below w.heap.size w w' := by
  obtain ⟨k, h⟩ := P a0 a1 w0 w1
  refine (linhaylaw04_FixedBack.calls k a0 a1 true w h).mono ?_
  rintro e w' ⟨rfl, hd⟩
  exact ⟨rfl, hd⟩

end Go.Proofs.Ytnippnpbnmkfbaa.Print
