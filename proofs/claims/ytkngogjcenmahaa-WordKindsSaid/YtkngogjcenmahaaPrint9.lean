/- Lean functions that answer what Go functions of the translation answer, and the proofs of it. Written by a program of this session (wip/tools/seatprint.py), over contracts that it proved by hand. Conditions: those that each theorem says. -/
import Derived.Test.YtkngogjcenmahaaPrint0
import Derived.Test.YtkngogjcenmahaaPrint2
namespace Go.Proofs.Ytkngogjcenmahaa.Print
open Go.RowKit Go.Proofs.YtkngogjcenmahaaW.PrintWords Go.Proofs.YtkngogjcenmahaaW.PrintLast Go.Proofs.YtkngogjcenmahaaW.PrintMore
attribute [local go_sem] max2_int min2_int max_two min_two max_three min_three max_four min_four   -- for this text's walks alone
set_option linter.unusedVariables false
set_option linter.unusedSimpArgs false

/-! ### linhaylaw01_WordKinds: function 7 -/
def linhaylaw01_WordKinds.j0 : Nat → Int → Int → Int → Bool → Bool → Option (Bool)
  | 0, _, _, _, _, _ => none
  | k + 1, x0, x1, x2, x7, x8 => if x7 = true then (if x8 = true then ((word_Of.f x2).bind fun t189 => ((word_Int.f t189).bind fun t190 => (if t190 = (mx x2 0) then ((word_Int.f (mn x0 x1)).bind fun t191 => ((word_Int.f (mx x0 x1)).bind fun t192 => (if t191 ≤ t192 then ((word_Int.f x0).bind fun t193 => (some (decide (t193 ≥ 0)))) else (some false)))) else (some false)))) else (some false)) else (some false)
def linhaylaw01_WordKinds.f (k : Nat) (a0 : Int) (a1 : Int) (a2 : Int) : Option (Bool) := (linhaylaw01_awake.f).bind fun t183 => (if a0 > 9223372036854775807 then ((word_Int.f a0).bind fun t184 => (if t184 = 9223372036854775807 then (linhaylaw01_WordKinds.j0 k a0 a1 a2 t183 true) else ((word_Int.f a0).bind fun t185 => ((word_Of.f t185).bind fun t186 => (linhaylaw01_WordKinds.j0 k a0 a1 a2 t183 (t186 == a0)))))) else ((word_Int.f a0).bind fun t187 => ((word_Of.f t187).bind fun t188 => (linhaylaw01_WordKinds.j0 k a0 a1 a2 t183 (t188 == a0)))))
theorem linhaylaw01_WordKinds.mono_l : ∀ k, (∀ y0 y1 y2 y3 y4, LeO (linhaylaw01_WordKinds.j0 k y0 y1 y2 y3 y4) (linhaylaw01_WordKinds.j0 (k + 1) y0 y1 y2 y3 y4))
  | 0 => fun _ _ _ _ _ r h => by simp [linhaylaw01_WordKinds.j0] at h
  | k + 1 => by
    have ih0 := linhaylaw01_WordKinds.mono_l k
    · intro y0 y1 y2 y3 y4
      unfold linhaylaw01_WordKinds.j0
      repeat' first
      | (with_reducible exact ih0 _ _ _ _ _)
      | (with_reducible exact LeO.refl _)
      | (with_reducible exact LeO.none _)
      | (with_reducible refine LeO.ite ?_ ?_)
      | (with_reducible refine LeO.bind ?_ (fun _ => ?_))
      | exact ih0 _ _ _ _ _
      | exact LeO.none _
      | refine LeO.ite ?_ ?_
      | refine LeO.bind ?_ (fun _ => ?_)
theorem linhaylaw01_WordKinds.mono : ∀ a0 a1 a2 k, LeO (linhaylaw01_WordKinds.f k a0 a1 a2) (linhaylaw01_WordKinds.f (k + 1) a0 a1 a2) := by
  intro a0 a1 a2 k
  have ih0 := linhaylaw01_WordKinds.mono_l k
  unfold linhaylaw01_WordKinds.f
  repeat' first
      | (with_reducible exact ih0 _ _ _ _ _)
      | (with_reducible exact LeO.refl _)
      | (with_reducible exact LeO.none _)
      | (with_reducible refine LeO.ite ?_ ?_)
      | (with_reducible refine LeO.bind ?_ (fun _ => ?_))
      | exact ih0 _ _ _ _ _
      | exact LeO.none _
      | refine LeO.ite ?_ ?_
      | refine LeO.bind ?_ (fun _ => ?_)
set_option maxHeartbeats 8000000 in
set_option maxRecDepth 100000 in
theorem linhaylaw01_WordKinds.calls (k : Nat) (a0 : Int) (a1 : Int) (a2 : Int) (r : Bool) (w : World) (h : linhaylaw01_WordKinds.f k a0 a1 a2 = some r) :
    Calls Try.prog 7 #[.int .u64 a0, .int .u64 a1, .int .i64 a2] w fun e w' => e = .returned (.bool r) ∧ Below w.heap.size w w' := by
  have HB := Aside0.mk (Below.refl w.heap.size w)
  have H : ((linhaylaw01_awake.f).bind fun t183 => (if a0 > 9223372036854775807 then ((word_Int.f a0).bind fun t184 => (if t184 = 9223372036854775807 then (linhaylaw01_WordKinds.j0 k a0 a1 a2 t183 true) else ((word_Int.f a0).bind fun t185 => ((word_Of.f t185).bind fun t186 => (linhaylaw01_WordKinds.j0 k a0 a1 a2 t183 (t186 == a0)))))) else ((word_Int.f a0).bind fun t187 => ((word_Of.f t187).bind fun t188 => (linhaylaw01_WordKinds.j0 k a0 a1 a2 t183 (t188 == a0)))))) = some r := h
  clear h
  replace H := Option.bind_eq_some_iff.mp H
  obtain ⟨t183, A40, H⟩ := H
  replace H : (if a0 > 9223372036854775807 then ((word_Int.f a0).bind fun t184 => (if t184 = 9223372036854775807 then (linhaylaw01_WordKinds.j0 k a0 a1 a2 t183 true) else ((word_Int.f a0).bind fun t185 => ((word_Of.f t185).bind fun t186 => (linhaylaw01_WordKinds.j0 k a0 a1 a2 t183 (t186 == a0)))))) else ((word_Int.f a0).bind fun t187 => ((word_Of.f t187).bind fun t188 => (linhaylaw01_WordKinds.j0 k a0 a1 a2 t183 (t188 == a0))))) = some r := H
  have A4 := Aside0.mk A40
  clear A40
  have HC5 := Aside0.mk H
  clear H
  go_enter Try.func7, Try.ntmps7
  go_upto_region 2 with (first | ((with_reducible refine gate_callee (f := 8) rfl ?_); refine goesL_ (some 9) rfl rfl Try.func8 (by kernel_rfl) rfl #[] rfl (by (try simp only [List.map_toArray, List.map_cons, List.map_nil]); first | done | rfl | (simp only [List.length_drop, List.length_take]; rfl)) ?_; (with_reducible refine (linhaylaw01_awake.calls  t183 _ A4.out).mono ?_); rintro e w6 ⟨rfl, hb⟩; refine ⟨_, rfl, ?_⟩; have n0_ := Aside0.mk (below_step (by repeat (first | (with_reducible first | exact HB.out | apply below_alloc | apply pw_below_drewN | apply below_drew1) | exact HB.out)) hb); clear HB; have HB := n0_; clear n0_; (try clear hb); (try clear hb2); (try clear hk); (try clear hi)))
  (try simp only [Act.put, List.setIfInBounds_toArray, List.set_cons_zero, List.set_cons_succ])
  go_cut [8] (fun v8 wc => ∃ (kq : Nat) (x8_4 : Bool), v8 = .bool x8_4 ∧ Aside0 (linhaylaw01_WordKinds.j0 kq a0 a1 a2 t183 x8_4 = some r) ∧ Aside0 (kq ≤ k) ∧ Aside0 (Below w.heap.size w wc))
  case first =>
    have H := HC5.out
    clear HC5
    by_cases c7 : a0 > 9223372036854775807
    · rw [if_pos c7] at H
      have c7b0 : decide (9223372036854775807 < a0) = true := decide_eq_true c7
      clear c7
      (first | rw [c7b0] | (simp only [i64_w, i32_w]; rw [c7b0]) | skip)
      replace H := Option.bind_eq_some_iff.mp H
      obtain ⟨t184, A80, H⟩ := H
      replace H : (if t184 = 9223372036854775807 then (linhaylaw01_WordKinds.j0 k a0 a1 a2 t183 true) else ((word_Int.f a0).bind fun t185 => ((word_Of.f t185).bind fun t186 => (linhaylaw01_WordKinds.j0 k a0 a1 a2 t183 (t186 == a0))))) = some r := H
      have A8 := Aside0.mk A80
      clear A80
      by_cases c9 : t184 = 9223372036854775807
      · rw [if_pos c9] at H
        have c9b0 : (t184 == 9223372036854775807) = true := beq_iff_eq.mpr c9
        have c9b1 : (t184 != 9223372036854775807) = false := bne_eq_false_iff_eq.mpr c9
        clear c9
        have H' := Aside0.mk H
        clear H
        go_wp2_with (first | (go_at_call 25; (with_reducible refine (word_Int.calls a0 t184 _ A8.out).mono ?_); rintro e w' ⟨rfl, ⟨nd, rfl⟩⟩))
        go_meet
        case rel => exact ⟨_, (true), (by first | rfl | (simp; done) | (simp [*]; done)), H', ⟨by first | omega | exact Nat.le_refl _⟩, ⟨by repeat (first | (with_reducible first | exact HB.out | apply below_alloc | apply pw_below_drewN | apply below_drew1) | exact HB.out)⟩⟩
      · rw [if_neg c9] at H
        have c9b0 : (t184 == 9223372036854775807) = false := beq_eq_false_iff_ne.mpr c9
        have c9b1 : (t184 != 9223372036854775807) = true := bne_iff_ne.mpr c9
        replace H := Option.bind_eq_some_iff.mp H
        obtain ⟨t185, A100, H⟩ := H
        obtain rfl := Option.some.inj (A8.out.symm.trans A100)
        replace H : ((word_Of.f t184).bind fun t186 => (linhaylaw01_WordKinds.j0 k a0 a1 a2 t183 (t186 == a0))) = some r := H
        have A10 := Aside0.mk A100
        clear A100
        replace H := Option.bind_eq_some_iff.mp H
        obtain ⟨t186, A110, H⟩ := H
        replace H : (linhaylaw01_WordKinds.j0 k a0 a1 a2 t183 (t186 == a0)) = some r := H
        have A11 := Aside0.mk A110
        clear A110
        have H' := Aside0.mk H
        clear H
        go_wp2_with (first | (go_at_call 25; (with_reducible refine (word_Int.calls a0 t184 _ A8.out).mono ?_); rintro e w' ⟨rfl, ⟨nd, rfl⟩⟩) | (go_at_call 25; (with_reducible refine (word_Int.calls a0 t184 _ A10.out).mono ?_); rintro e w' ⟨rfl, ⟨nd, rfl⟩⟩) | (go_at_call 23; (with_reducible refine (word_Of.calls t184 t186 _ A11.out).mono ?_); rintro e w' ⟨rfl, ⟨nd, rfl⟩⟩))
        go_meet
        case rel => exact ⟨_, ((t186 == a0)), (by first | rfl | (simp; done) | (simp [*]; done)), H', ⟨by first | omega | exact Nat.le_refl _⟩, ⟨by repeat (first | (with_reducible first | exact HB.out | apply below_alloc | apply pw_below_drewN | apply below_drew1) | exact HB.out)⟩⟩
    · rw [if_neg c7] at H
      have c7b0 : decide (9223372036854775807 < a0) = false := decide_eq_false c7
      clear c7
      (first | rw [c7b0] | (simp only [i64_w, i32_w]; rw [c7b0]) | skip)
      replace H := Option.bind_eq_some_iff.mp H
      obtain ⟨t187, A120, H⟩ := H
      replace H : ((word_Of.f t187).bind fun t188 => (linhaylaw01_WordKinds.j0 k a0 a1 a2 t183 (t188 == a0))) = some r := H
      have A12 := Aside0.mk A120
      clear A120
      replace H := Option.bind_eq_some_iff.mp H
      obtain ⟨t188, A130, H⟩ := H
      replace H : (linhaylaw01_WordKinds.j0 k a0 a1 a2 t183 (t188 == a0)) = some r := H
      have A13 := Aside0.mk A130
      clear A130
      have H' := Aside0.mk H
      clear H
      go_wp2_with (first | (go_at_call 25; (with_reducible refine (word_Int.calls a0 t187 _ A12.out).mono ?_); rintro e w' ⟨rfl, ⟨nd, rfl⟩⟩) | (go_at_call 23; (with_reducible refine (word_Of.calls t187 t188 _ A13.out).mono ?_); rintro e w' ⟨rfl, ⟨nd, rfl⟩⟩))
      go_meet
      case rel => exact ⟨_, ((t188 == a0)), (by first | rfl | (simp; done) | (simp [*]; done)), H', ⟨by first | omega | exact Nat.le_refl _⟩, ⟨by repeat (first | (with_reducible first | exact HB.out | apply below_alloc | apply pw_below_drewN | apply below_drew1) | exact HB.out)⟩⟩
  case rest =>
    clear HC5
    try clear p2
    try clear c7
    try clear c7b0
    try clear c8
    try clear c9
    try clear c9b0
    try clear c9b1
    obtain ⟨kq, x8_4, rfl, HA, HJ4, HB⟩ := hcut
    cases kq with
    | zero => exact absurd HA.out (by simp [linhaylaw01_WordKinds.j0])
    | succ kj4 =>
      have H := HA.out
      clear HA
      simp only [linhaylaw01_WordKinds.j0] at H
      by_cases c14 : t183 = true
      · subst c14
        have H1 : (if x8_4 = true then ((word_Of.f a2).bind fun t189 => ((word_Int.f t189).bind fun t190 => (if t190 = (mx a2 0) then ((word_Int.f (mn a0 a1)).bind fun t191 => ((word_Int.f (mx a0 a1)).bind fun t192 => (if t191 ≤ t192 then ((word_Int.f a0).bind fun t193 => (some (decide (t193 ≥ 0)))) else (some false)))) else (some false)))) else (some false)) = some r := by rw [if_pos rfl] at H; exact H
        clear H
        have H := H1
        clear H1
        by_cases c15 : x8_4 = true
        · subst c15
          have H1 : ((word_Of.f a2).bind fun t189 => ((word_Int.f t189).bind fun t190 => (if t190 = (mx a2 0) then ((word_Int.f (mn a0 a1)).bind fun t191 => ((word_Int.f (mx a0 a1)).bind fun t192 => (if t191 ≤ t192 then ((word_Int.f a0).bind fun t193 => (some (decide (t193 ≥ 0)))) else (some false)))) else (some false)))) = some r := by rw [if_pos rfl] at H; exact H
          clear H
          have H := H1
          clear H1
          replace H := Option.bind_eq_some_iff.mp H
          obtain ⟨t189, A160, H⟩ := H
          replace H : ((word_Int.f t189).bind fun t190 => (if t190 = (mx a2 0) then ((word_Int.f (mn a0 a1)).bind fun t191 => ((word_Int.f (mx a0 a1)).bind fun t192 => (if t191 ≤ t192 then ((word_Int.f a0).bind fun t193 => (some (decide (t193 ≥ 0)))) else (some false)))) else (some false))) = some r := H
          have A16 := Aside0.mk A160
          clear A160
          replace H := Option.bind_eq_some_iff.mp H
          obtain ⟨t190, A170, H⟩ := H
          replace H : (if t190 = (mx a2 0) then ((word_Int.f (mn a0 a1)).bind fun t191 => ((word_Int.f (mx a0 a1)).bind fun t192 => (if t191 ≤ t192 then ((word_Int.f a0).bind fun t193 => (some (decide (t193 ≥ 0)))) else (some false)))) else (some false)) = some r := H
          have A17 := Aside0.mk A170
          clear A170
          obtain ⟨ji18, hji18⟩ : ∃ j_ : Int, (mx a2 0) = j_ := ⟨_, rfl⟩
          replace H : (if t190 = (ji18) then ((word_Int.f (mn a0 a1)).bind fun t191 => ((word_Int.f (mx a0 a1)).bind fun t192 => (if t191 ≤ t192 then ((word_Int.f a0).bind fun t193 => (some (decide (t193 ≥ 0)))) else (some false)))) else (some false)) = some r := by first | (rw [hji18] at H; exact H) | (simp only [hji18] at H ⊢; exact H)
          (try rw [hji18] at A16)
          (try rw [hji18] at A17)
          have hji18_ : (if a2 < 0 then 0 else a2) = ji18 := hji18
          by_cases c19 : t190 = (ji18)
          · rw [if_pos c19] at H
            have c19b0 : (t190 == (ji18)) = true := beq_iff_eq.mpr c19
            have c19b1 : (t190 != (ji18)) = false := bne_eq_false_iff_eq.mpr c19
            clear c19
            obtain ⟨ji20, hji20⟩ : ∃ j_ : Int, (mn a0 a1) = j_ := ⟨_, rfl⟩
            replace H : ((word_Int.f (ji20)).bind fun t191 => ((word_Int.f (mx a0 a1)).bind fun t192 => (if t191 ≤ t192 then ((word_Int.f a0).bind fun t193 => (some (decide (t193 ≥ 0)))) else (some false)))) = some r := by first | (rw [hji20] at H; exact H) | (simp only [hji20] at H ⊢; exact H)
            (try rw [hji20] at A16)
            (try rw [hji20] at A17)
            have hji20_ : (if a1 < a0 then a1 else a0) = ji20 := hji20
            replace H := Option.bind_eq_some_iff.mp H
            obtain ⟨t191, A210, H⟩ := H
            replace H : ((word_Int.f (mx a0 a1)).bind fun t192 => (if t191 ≤ t192 then ((word_Int.f a0).bind fun t193 => (some (decide (t193 ≥ 0)))) else (some false))) = some r := H
            have A21 := Aside0.mk A210
            clear A210
            obtain ⟨ji22, hji22⟩ : ∃ j_ : Int, (mx a0 a1) = j_ := ⟨_, rfl⟩
            replace H : ((word_Int.f (ji22)).bind fun t192 => (if t191 ≤ t192 then ((word_Int.f a0).bind fun t193 => (some (decide (t193 ≥ 0)))) else (some false))) = some r := by first | (rw [hji22] at H; exact H) | (simp only [hji22] at H ⊢; exact H)
            (try rw [hji22] at A16)
            (try rw [hji22] at A17)
            (try rw [hji22] at A21)
            have hji22_ : (if a0 < a1 then a1 else a0) = ji22 := hji22
            replace H := Option.bind_eq_some_iff.mp H
            obtain ⟨t192, A230, H⟩ := H
            replace H : (if t191 ≤ t192 then ((word_Int.f a0).bind fun t193 => (some (decide (t193 ≥ 0)))) else (some false)) = some r := H
            have A23 := Aside0.mk A230
            clear A230
            by_cases c24 : t191 ≤ t192
            · rw [if_pos c24] at H
              have c24b0 : decide (t191 ≤ t192) = true := decide_eq_true c24
              clear c24
              replace H := Option.bind_eq_some_iff.mp H
              obtain ⟨t193, A250, H⟩ := H
              replace H : (some (decide (t193 ≥ 0))) = some r := H
              have A25 := Aside0.mk A250
              clear A250
              obtain rfl := Option.some.inj H
              go_wp2_with (first | (go_at_call 23; (with_reducible refine (word_Of.calls a2 t189 _ A16.out).mono ?_); rintro e w' ⟨rfl, ⟨nd, rfl⟩⟩) | (go_at_call 25; (with_reducible refine (word_Int.calls t189 t190 _ A17.out).mono ?_); rintro e w' ⟨rfl, ⟨nd, rfl⟩⟩) | (go_at_call 25; (with_reducible refine (word_Int.calls ji20 t191 _ A21.out).mono ?_); rintro e w' ⟨rfl, ⟨nd, rfl⟩⟩) | (go_at_call 25; (with_reducible refine (word_Int.calls ji22 t192 _ A23.out).mono ?_); rintro e w' ⟨rfl, ⟨nd, rfl⟩⟩) | (go_at_call 25; (with_reducible refine (word_Int.calls a0 t193 _ A25.out).mono ?_); rintro e w' ⟨rfl, ⟨nd, rfl⟩⟩))
              go_ret
              exact ⟨by first | rfl | (simp [errW_none, errW_some] <;> rfl) | (simp only [← hji18, ← hji20, ← hji22]; first | rfl | (simp [errW_none, errW_some] <;> rfl)) | (simp [*, errW_none, errW_some] <;> rfl), by repeat (first | (with_reducible first | exact HB.out | apply below_alloc | apply pw_below_drewN | apply below_drew1) | exact HB.out)⟩
            · rw [if_neg c24] at H
              have c24b0 : decide (t191 ≤ t192) = false := decide_eq_false c24
              clear c24
              obtain rfl := Option.some.inj H
              go_wp2_with (first | (go_at_call 23; (with_reducible refine (word_Of.calls a2 t189 _ A16.out).mono ?_); rintro e w' ⟨rfl, ⟨nd, rfl⟩⟩) | (go_at_call 25; (with_reducible refine (word_Int.calls t189 t190 _ A17.out).mono ?_); rintro e w' ⟨rfl, ⟨nd, rfl⟩⟩) | (go_at_call 25; (with_reducible refine (word_Int.calls ji20 t191 _ A21.out).mono ?_); rintro e w' ⟨rfl, ⟨nd, rfl⟩⟩) | (go_at_call 25; (with_reducible refine (word_Int.calls ji22 t192 _ A23.out).mono ?_); rintro e w' ⟨rfl, ⟨nd, rfl⟩⟩))
              go_ret
              exact ⟨by first | rfl | (simp [errW_none, errW_some] <;> rfl) | (simp only [← hji18, ← hji20, ← hji22]; first | rfl | (simp [errW_none, errW_some] <;> rfl)) | (simp [*, errW_none, errW_some] <;> rfl), by repeat (first | (with_reducible first | exact HB.out | apply below_alloc | apply pw_below_drewN | apply below_drew1) | exact HB.out)⟩
          · rw [if_neg c19] at H
            have c19b0 : (t190 == (ji18)) = false := beq_eq_false_iff_ne.mpr c19
            have c19b1 : (t190 != (ji18)) = true := bne_iff_ne.mpr c19
            obtain rfl := Option.some.inj H
            go_wp2_with (first | (go_at_call 23; (with_reducible refine (word_Of.calls a2 t189 _ A16.out).mono ?_); rintro e w' ⟨rfl, ⟨nd, rfl⟩⟩) | (go_at_call 25; (with_reducible refine (word_Int.calls t189 t190 _ A17.out).mono ?_); rintro e w' ⟨rfl, ⟨nd, rfl⟩⟩))
            go_ret
            exact ⟨by first | rfl | (simp [errW_none, errW_some] <;> rfl) | (simp only [← hji18]; first | rfl | (simp [errW_none, errW_some] <;> rfl)) | (simp [*, errW_none, errW_some] <;> rfl), by repeat (first | (with_reducible first | exact HB.out | apply below_alloc | apply pw_below_drewN | apply below_drew1) | exact HB.out)⟩
        · replace c15 := Bool.eq_false_iff.mpr c15
          subst c15
          have H1 : (some false) = some r := by rw [if_neg (show ¬ (false = true) by decide)] at H; exact H
          clear H
          have H := H1
          clear H1
          obtain rfl := Option.some.inj H
          go_wp2
          go_ret
          exact ⟨by first | rfl | (simp [errW_none, errW_some] <;> rfl) | (simp [*, errW_none, errW_some] <;> rfl), by repeat (first | (with_reducible first | exact HB.out | apply below_alloc | apply pw_below_drewN | apply below_drew1) | exact HB.out)⟩
      · replace c14 := Bool.eq_false_iff.mpr c14
        subst c14
        have H1 : (some false) = some r := by rw [if_neg (show ¬ (false = true) by decide)] at H; exact H
        clear H
        have H := H1
        clear H1
        obtain rfl := Option.some.inj H
        go_wp2
        go_ret
        exact ⟨by first | rfl | (simp [errW_none, errW_some] <;> rfl) | (simp [*, errW_none, errW_some] <;> rfl), by repeat (first | (with_reducible first | exact HB.out | apply below_alloc | apply pw_below_drewN | apply below_drew1) | exact HB.out)⟩

/-- THE ONE PURE STATEMENT of linhaylaw01_WordKinds: yours. -/
def linhaylaw01_WordKinds.Pure : Prop := ∀ (a0 : Int) (a1 : Int) (a2 : Int), (Lit.int .u64 a0).wf = true → (Lit.int .u64 a1).wf = true → (Lit.int .i64 a2).wf = true → ∃ k, linhaylaw01_WordKinds.f k a0 a1 a2 = some true
theorem linhaylaw01_WordKinds.walk (P : linhaylaw01_WordKinds.Pure) (a0 : Int) (a1 : Int) (a2 : Int) (w : World) (w0 : (Lit.int .u64 a0).wf = true) (w1 : (Lit.int .u64 a1).wf = true) (w2 : (Lit.int .i64 a2).wf = true) :
    Calls Try.prog 7 #[.int .u64 a0, .int .u64 a1, .int .i64 a2] w fun e w' => e = .returned (.bool true) ∧ Below w.heap.size w w' := by
  obtain ⟨k, h⟩ := P a0 a1 a2 w0 w1 w2
  refine (linhaylaw01_WordKinds.calls k a0 a1 a2 true w h).mono ?_
  rintro e w' ⟨rfl, hd⟩
  exact ⟨rfl, hd⟩

end Go.Proofs.Ytkngogjcenmahaa.Print
