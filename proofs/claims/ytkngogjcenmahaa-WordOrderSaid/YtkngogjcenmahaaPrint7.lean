/- Lean functions that answer what Go functions of the translation answer, and the proofs of it. Written by a program of this session (wip/tools/seatprint.py), over contracts that it proved by hand. Conditions: those that each theorem says. -/
import Derived.Test.YtkngogjcenmahaaPrint0
import Derived.Test.YtkngogjcenmahaaPrint1
import Derived.Test.YtkngogjcenmahaaPrint2
namespace Go.Proofs.Ytkngogjcenmahaa.Print
open Go.RowKit Go.Proofs.YtkngogjcenmahaaW.PrintWords Go.Proofs.YtkngogjcenmahaaW.PrintLast Go.Proofs.YtkngogjcenmahaaW.PrintMore
attribute [local go_sem] max2_int min2_int max_two min_two max_three min_three max_four min_four   -- for this text's walks alone
set_option linter.unusedVariables false
set_option linter.unusedSimpArgs false

/-! ### linhaylaw01_WordOrder: function 5 -/
def linhaylaw01_WordOrder.j0 : Nat → Int → Bool → Int → Int → Bool → Option (Bool)
  | 0, _, _, _, _, _ => none
  | k + 1, x2, x7, x8, x9, x10 => if x7 = true then (if x10 = true then ((word_Add.f x8 x2).bind fun t165 => ((word_Add.f x9 x2).bind fun t166 => (if t165 ≤ t166 then ((word_Mul.f x8 x2).bind fun t167 => ((word_Mul.f x9 x2).bind fun t168 => (if t167 ≤ t168 then ((word_Sub.f x8 x2).bind fun t169 => ((word_Sub.f x9 x2).bind fun t170 => (if t169 ≤ t170 then ((word_Sub.f x2 x8).bind fun t171 => ((word_Sub.f x2 x9).bind fun t172 => (some (decide (t171 ≥ t172))))) else (some false)))) else (some false)))) else (some false)))) else (some false)) else (some false)
def linhaylaw01_WordOrder.f (k : Nat) (a0 : Int) (a1 : Int) (a2 : Int) : Option (Bool) := (linhaylaw01_awake.f).bind fun t156 => ((word_Add.f a0 a1).bind fun t157 => ((word_Add.f a1 a0).bind fun t158 => (if t157 = t158 then ((word_Mul.f a0 a1).bind fun t159 => ((word_Mul.f a1 a0).bind fun t160 => (if t159 = t160 then ((word_Add.f a0 a1).bind fun t161 => ((word_Add.f t161 a2).bind fun t162 => ((word_Add.f a1 a2).bind fun t163 => ((word_Add.f a0 t163).bind fun t164 => (linhaylaw01_WordOrder.j0 k a2 t156 (mn a0 a1) (mx a0 a1) (t162 == t164)))))) else (linhaylaw01_WordOrder.j0 k a2 t156 (mn a0 a1) (mx a0 a1) false)))) else (linhaylaw01_WordOrder.j0 k a2 t156 (mn a0 a1) (mx a0 a1) false))))
theorem linhaylaw01_WordOrder.mono_l : ∀ k, (∀ y0 y1 y2 y3 y4, LeO (linhaylaw01_WordOrder.j0 k y0 y1 y2 y3 y4) (linhaylaw01_WordOrder.j0 (k + 1) y0 y1 y2 y3 y4))
  | 0 => fun _ _ _ _ _ r h => by simp [linhaylaw01_WordOrder.j0] at h
  | k + 1 => by
    have ih0 := linhaylaw01_WordOrder.mono_l k
    · intro y0 y1 y2 y3 y4
      unfold linhaylaw01_WordOrder.j0
      repeat' first
      | (with_reducible exact ih0 _ _ _ _ _)
      | (with_reducible exact LeO.refl _)
      | (with_reducible exact LeO.none _)
      | (with_reducible refine LeO.ite ?_ ?_)
      | (with_reducible refine LeO.bind ?_ (fun _ => ?_))
      | exact ih0 _ _ _ _ _
      | exact LeO.none _
      | refine LeO.ite ?_ ?_
      | refine LeO.bind ?_ (fun _ => ?_)
theorem linhaylaw01_WordOrder.mono : ∀ a0 a1 a2 k, LeO (linhaylaw01_WordOrder.f k a0 a1 a2) (linhaylaw01_WordOrder.f (k + 1) a0 a1 a2) := by
  intro a0 a1 a2 k
  have ih0 := linhaylaw01_WordOrder.mono_l k
  unfold linhaylaw01_WordOrder.f
  repeat' first
      | (with_reducible exact ih0 _ _ _ _ _)
      | (with_reducible exact LeO.refl _)
      | (with_reducible exact LeO.none _)
      | (with_reducible refine LeO.ite ?_ ?_)
      | (with_reducible refine LeO.bind ?_ (fun _ => ?_))
      | exact ih0 _ _ _ _ _
      | exact LeO.none _
      | refine LeO.ite ?_ ?_
      | refine LeO.bind ?_ (fun _ => ?_)
set_option maxHeartbeats 8000000 in
set_option maxRecDepth 100000 in
theorem linhaylaw01_WordOrder.calls (k : Nat) (a0 : Int) (a1 : Int) (a2 : Int) (r : Bool) (w : World) (h : linhaylaw01_WordOrder.f k a0 a1 a2 = some r) :
    Calls Try.prog 5 #[.int .u64 a0, .int .u64 a1, .int .u64 a2] w fun e w' => e = .returned (.bool r) ∧ Below w.heap.size w w' := by
  have HB := Aside0.mk (Below.refl w.heap.size w)
  have H : ((linhaylaw01_awake.f).bind fun t156 => ((word_Add.f a0 a1).bind fun t157 => ((word_Add.f a1 a0).bind fun t158 => (if t157 = t158 then ((word_Mul.f a0 a1).bind fun t159 => ((word_Mul.f a1 a0).bind fun t160 => (if t159 = t160 then ((word_Add.f a0 a1).bind fun t161 => ((word_Add.f t161 a2).bind fun t162 => ((word_Add.f a1 a2).bind fun t163 => ((word_Add.f a0 t163).bind fun t164 => (linhaylaw01_WordOrder.j0 k a2 t156 (mn a0 a1) (mx a0 a1) (t162 == t164)))))) else (linhaylaw01_WordOrder.j0 k a2 t156 (mn a0 a1) (mx a0 a1) false)))) else (linhaylaw01_WordOrder.j0 k a2 t156 (mn a0 a1) (mx a0 a1) false))))) = some r := h
  clear h
  replace H := Option.bind_eq_some_iff.mp H
  obtain ⟨t156, A40, H⟩ := H
  replace H : ((word_Add.f a0 a1).bind fun t157 => ((word_Add.f a1 a0).bind fun t158 => (if t157 = t158 then ((word_Mul.f a0 a1).bind fun t159 => ((word_Mul.f a1 a0).bind fun t160 => (if t159 = t160 then ((word_Add.f a0 a1).bind fun t161 => ((word_Add.f t161 a2).bind fun t162 => ((word_Add.f a1 a2).bind fun t163 => ((word_Add.f a0 t163).bind fun t164 => (linhaylaw01_WordOrder.j0 k a2 t156 (mn a0 a1) (mx a0 a1) (t162 == t164)))))) else (linhaylaw01_WordOrder.j0 k a2 t156 (mn a0 a1) (mx a0 a1) false)))) else (linhaylaw01_WordOrder.j0 k a2 t156 (mn a0 a1) (mx a0 a1) false)))) = some r := H
  have A4 := Aside0.mk A40
  clear A40
  obtain ⟨ji5, hji5⟩ : ∃ j_ : Int, (mn a0 a1) = j_ := ⟨_, rfl⟩
  replace H : ((word_Add.f a0 a1).bind fun t157 => ((word_Add.f a1 a0).bind fun t158 => (if t157 = t158 then ((word_Mul.f a0 a1).bind fun t159 => ((word_Mul.f a1 a0).bind fun t160 => (if t159 = t160 then ((word_Add.f a0 a1).bind fun t161 => ((word_Add.f t161 a2).bind fun t162 => ((word_Add.f a1 a2).bind fun t163 => ((word_Add.f a0 t163).bind fun t164 => (linhaylaw01_WordOrder.j0 k a2 t156 ji5 (mx a0 a1) (t162 == t164)))))) else (linhaylaw01_WordOrder.j0 k a2 t156 ji5 (mx a0 a1) false)))) else (linhaylaw01_WordOrder.j0 k a2 t156 ji5 (mx a0 a1) false)))) = some r := by first | (rw [hji5] at H; exact H) | (simp only [hji5] at H ⊢; exact H)
  (try rw [hji5] at A4)
  have hji5_ : (if a1 < a0 then a1 else a0) = ji5 := hji5
  obtain ⟨ji6, hji6⟩ : ∃ j_ : Int, (mx a0 a1) = j_ := ⟨_, rfl⟩
  replace H : ((word_Add.f a0 a1).bind fun t157 => ((word_Add.f a1 a0).bind fun t158 => (if t157 = t158 then ((word_Mul.f a0 a1).bind fun t159 => ((word_Mul.f a1 a0).bind fun t160 => (if t159 = t160 then ((word_Add.f a0 a1).bind fun t161 => ((word_Add.f t161 a2).bind fun t162 => ((word_Add.f a1 a2).bind fun t163 => ((word_Add.f a0 t163).bind fun t164 => (linhaylaw01_WordOrder.j0 k a2 t156 ji5 ji6 (t162 == t164)))))) else (linhaylaw01_WordOrder.j0 k a2 t156 ji5 ji6 false)))) else (linhaylaw01_WordOrder.j0 k a2 t156 ji5 ji6 false)))) = some r := by first | (rw [hji6] at H; exact H) | (simp only [hji6] at H ⊢; exact H)
  (try rw [hji6] at A4)
  have hji6_ : (if a0 < a1 then a1 else a0) = ji6 := hji6
  have HC7 := Aside0.mk H
  clear H
  go_enter Try.func5, Try.ntmps5
  go_upto_region 4 with (first | ((with_reducible refine gate_callee (f := 8) rfl ?_); refine goesL_ (some 11) rfl rfl Try.func8 (by kernel_rfl) rfl #[] rfl (by (try simp only [List.map_toArray, List.map_cons, List.map_nil]); first | done | rfl | (simp only [List.length_drop, List.length_take]; rfl)) ?_; (with_reducible refine (linhaylaw01_awake.calls  t156 _ A4.out).mono ?_); rintro e w8 ⟨rfl, hb⟩; refine ⟨_, rfl, ?_⟩; have n0_ := Aside0.mk (below_step (by repeat (first | (with_reducible first | exact HB.out | apply below_alloc | apply pw_below_drewN | apply below_drew1) | exact HB.out)) hb); clear HB; have HB := n0_; clear n0_; (try clear hb); (try clear hb2); (try clear hk); (try clear hi)))
  (try simp only [Act.put, List.setIfInBounds_toArray, List.set_cons_zero, List.set_cons_succ])
  go_cut [10] (fun v10 wc => ∃ (kq : Nat) (x10_6 : Bool), v10 = .bool x10_6 ∧ Aside0 (linhaylaw01_WordOrder.j0 kq a2 t156 ji5 ji6 x10_6 = some r) ∧ Aside0 (kq ≤ k) ∧ Aside0 (Below w.heap.size w wc))
  case first =>
    have H := HC7.out
    clear HC7
    replace H := Option.bind_eq_some_iff.mp H
    obtain ⟨t157, A90, H⟩ := H
    replace H : ((word_Add.f a1 a0).bind fun t158 => (if t157 = t158 then ((word_Mul.f a0 a1).bind fun t159 => ((word_Mul.f a1 a0).bind fun t160 => (if t159 = t160 then ((word_Add.f a0 a1).bind fun t161 => ((word_Add.f t161 a2).bind fun t162 => ((word_Add.f a1 a2).bind fun t163 => ((word_Add.f a0 t163).bind fun t164 => (linhaylaw01_WordOrder.j0 k a2 t156 ji5 ji6 (t162 == t164)))))) else (linhaylaw01_WordOrder.j0 k a2 t156 ji5 ji6 false)))) else (linhaylaw01_WordOrder.j0 k a2 t156 ji5 ji6 false))) = some r := H
    have A9 := Aside0.mk A90
    clear A90
    replace H := Option.bind_eq_some_iff.mp H
    obtain ⟨t158, A100, H⟩ := H
    replace H : (if t157 = t158 then ((word_Mul.f a0 a1).bind fun t159 => ((word_Mul.f a1 a0).bind fun t160 => (if t159 = t160 then ((word_Add.f a0 a1).bind fun t161 => ((word_Add.f t161 a2).bind fun t162 => ((word_Add.f a1 a2).bind fun t163 => ((word_Add.f a0 t163).bind fun t164 => (linhaylaw01_WordOrder.j0 k a2 t156 ji5 ji6 (t162 == t164)))))) else (linhaylaw01_WordOrder.j0 k a2 t156 ji5 ji6 false)))) else (linhaylaw01_WordOrder.j0 k a2 t156 ji5 ji6 false)) = some r := H
    have A10 := Aside0.mk A100
    clear A100
    by_cases c11 : t157 = t158
    · rw [if_pos c11] at H
      have c11b0 : (t157 == t158) = true := beq_iff_eq.mpr c11
      have c11b1 : (t157 != t158) = false := bne_eq_false_iff_eq.mpr c11
      clear c11
      (first | rw [c11b0] | (simp only [i64_w, i32_w]; rw [c11b0]) | skip)
      replace H := Option.bind_eq_some_iff.mp H
      obtain ⟨t159, A120, H⟩ := H
      replace H : ((word_Mul.f a1 a0).bind fun t160 => (if t159 = t160 then ((word_Add.f a0 a1).bind fun t161 => ((word_Add.f t161 a2).bind fun t162 => ((word_Add.f a1 a2).bind fun t163 => ((word_Add.f a0 t163).bind fun t164 => (linhaylaw01_WordOrder.j0 k a2 t156 ji5 ji6 (t162 == t164)))))) else (linhaylaw01_WordOrder.j0 k a2 t156 ji5 ji6 false))) = some r := H
      have A12 := Aside0.mk A120
      clear A120
      replace H := Option.bind_eq_some_iff.mp H
      obtain ⟨t160, A130, H⟩ := H
      replace H : (if t159 = t160 then ((word_Add.f a0 a1).bind fun t161 => ((word_Add.f t161 a2).bind fun t162 => ((word_Add.f a1 a2).bind fun t163 => ((word_Add.f a0 t163).bind fun t164 => (linhaylaw01_WordOrder.j0 k a2 t156 ji5 ji6 (t162 == t164)))))) else (linhaylaw01_WordOrder.j0 k a2 t156 ji5 ji6 false)) = some r := H
      have A13 := Aside0.mk A130
      clear A130
      by_cases c14 : t159 = t160
      · rw [if_pos c14] at H
        have c14b0 : (t159 == t160) = true := beq_iff_eq.mpr c14
        have c14b1 : (t159 != t160) = false := bne_eq_false_iff_eq.mpr c14
        clear c14
        replace H := Option.bind_eq_some_iff.mp H
        obtain ⟨t161, A150, H⟩ := H
        obtain rfl := Option.some.inj (A9.out.symm.trans A150)
        replace H : ((word_Add.f t157 a2).bind fun t162 => ((word_Add.f a1 a2).bind fun t163 => ((word_Add.f a0 t163).bind fun t164 => (linhaylaw01_WordOrder.j0 k a2 t156 ji5 ji6 (t162 == t164))))) = some r := H
        have A15 := Aside0.mk A150
        clear A150
        replace H := Option.bind_eq_some_iff.mp H
        obtain ⟨t162, A160, H⟩ := H
        replace H : ((word_Add.f a1 a2).bind fun t163 => ((word_Add.f a0 t163).bind fun t164 => (linhaylaw01_WordOrder.j0 k a2 t156 ji5 ji6 (t162 == t164)))) = some r := H
        have A16 := Aside0.mk A160
        clear A160
        replace H := Option.bind_eq_some_iff.mp H
        obtain ⟨t163, A170, H⟩ := H
        replace H : ((word_Add.f a0 t163).bind fun t164 => (linhaylaw01_WordOrder.j0 k a2 t156 ji5 ji6 (t162 == t164))) = some r := H
        have A17 := Aside0.mk A170
        clear A170
        replace H := Option.bind_eq_some_iff.mp H
        obtain ⟨t164, A180, H⟩ := H
        replace H : (linhaylaw01_WordOrder.j0 k a2 t156 ji5 ji6 (t162 == t164)) = some r := H
        have A18 := Aside0.mk A180
        clear A180
        have H' := Aside0.mk H
        clear H
        go_wp2_with (first | ((with_reducible refine gate_callee (f := 13) rfl ?_); refine goesL_ (some 20) rfl rfl Try.func13 (by kernel_rfl) rfl #[.int .u64 a0, .int .u64 a1] rfl (by (try simp only [List.map_toArray, List.map_cons, List.map_nil]); first | done | rfl | (simp only [List.length_drop, List.length_take]; rfl)) ?_; (with_reducible refine (word_Add.calls a0 a1 t157 _ A9.out).mono ?_); rintro e w' ⟨rfl, ⟨nd, rfl⟩⟩; refine ⟨_, rfl, ?_⟩) | ((with_reducible refine gate_callee (f := 13) rfl ?_); refine goesL_ (some 23) rfl rfl Try.func13 (by kernel_rfl) rfl #[.int .u64 a1, .int .u64 a0] rfl (by (try simp only [List.map_toArray, List.map_cons, List.map_nil]); first | done | rfl | (simp only [List.length_drop, List.length_take]; rfl)) ?_; (with_reducible refine (word_Add.calls a1 a0 t158 _ A10.out).mono ?_); rintro e w' ⟨rfl, ⟨nd, rfl⟩⟩; refine ⟨_, rfl, ?_⟩) | (go_at_call 17; (with_reducible refine (word_Mul.calls a0 a1 t159 _ A12.out).mono ?_); rintro e w' ⟨rfl, ⟨nd, rfl⟩⟩) | (go_at_call 17; (with_reducible refine (word_Mul.calls a1 a0 t160 _ A13.out).mono ?_); rintro e w' ⟨rfl, ⟨nd, rfl⟩⟩) | (go_at_call 13; (with_reducible refine (word_Add.calls a0 a1 t157 _ A15.out).mono ?_); rintro e w' ⟨rfl, ⟨nd, rfl⟩⟩) | (go_at_call 13; (with_reducible refine (word_Add.calls t157 a2 t162 _ A16.out).mono ?_); rintro e w' ⟨rfl, ⟨nd, rfl⟩⟩) | (go_at_call 13; (with_reducible refine (word_Add.calls a1 a2 t163 _ A17.out).mono ?_); rintro e w' ⟨rfl, ⟨nd, rfl⟩⟩) | (go_at_call 13; (with_reducible refine (word_Add.calls a0 t163 t164 _ A18.out).mono ?_); rintro e w' ⟨rfl, ⟨nd, rfl⟩⟩) | (go_at_call 13; (with_reducible refine (word_Add.calls a0 a1 t157 _ A9.out).mono ?_); rintro e w' ⟨rfl, ⟨nd, rfl⟩⟩) | (go_at_call 13; (with_reducible refine (word_Add.calls a1 a0 t158 _ A10.out).mono ?_); rintro e w' ⟨rfl, ⟨nd, rfl⟩⟩))
        go_meet
        case rel => exact ⟨_, ((t162 == t164)), (by first | rfl | (simp; done) | (simp [*]; done)), H', ⟨by first | omega | exact Nat.le_refl _⟩, ⟨by repeat (first | (with_reducible first | exact HB.out | apply below_alloc | apply pw_below_drewN | apply below_drew1) | exact HB.out)⟩⟩
      · rw [if_neg c14] at H
        have c14b0 : (t159 == t160) = false := beq_eq_false_iff_ne.mpr c14
        have c14b1 : (t159 != t160) = true := bne_iff_ne.mpr c14
        have H' := Aside0.mk H
        clear H
        go_wp2_with (first | ((with_reducible refine gate_callee (f := 13) rfl ?_); refine goesL_ (some 20) rfl rfl Try.func13 (by kernel_rfl) rfl #[.int .u64 a0, .int .u64 a1] rfl (by (try simp only [List.map_toArray, List.map_cons, List.map_nil]); first | done | rfl | (simp only [List.length_drop, List.length_take]; rfl)) ?_; (with_reducible refine (word_Add.calls a0 a1 t157 _ A9.out).mono ?_); rintro e w' ⟨rfl, ⟨nd, rfl⟩⟩; refine ⟨_, rfl, ?_⟩) | ((with_reducible refine gate_callee (f := 13) rfl ?_); refine goesL_ (some 23) rfl rfl Try.func13 (by kernel_rfl) rfl #[.int .u64 a1, .int .u64 a0] rfl (by (try simp only [List.map_toArray, List.map_cons, List.map_nil]); first | done | rfl | (simp only [List.length_drop, List.length_take]; rfl)) ?_; (with_reducible refine (word_Add.calls a1 a0 t158 _ A10.out).mono ?_); rintro e w' ⟨rfl, ⟨nd, rfl⟩⟩; refine ⟨_, rfl, ?_⟩) | (go_at_call 17; (with_reducible refine (word_Mul.calls a0 a1 t159 _ A12.out).mono ?_); rintro e w' ⟨rfl, ⟨nd, rfl⟩⟩) | (go_at_call 17; (with_reducible refine (word_Mul.calls a1 a0 t160 _ A13.out).mono ?_); rintro e w' ⟨rfl, ⟨nd, rfl⟩⟩) | (go_at_call 13; (with_reducible refine (word_Add.calls a0 a1 t157 _ A9.out).mono ?_); rintro e w' ⟨rfl, ⟨nd, rfl⟩⟩) | (go_at_call 13; (with_reducible refine (word_Add.calls a1 a0 t158 _ A10.out).mono ?_); rintro e w' ⟨rfl, ⟨nd, rfl⟩⟩))
        go_meet
        case rel => exact ⟨_, (false), (by first | rfl | (simp; done) | (simp [*]; done)), H', ⟨by first | omega | exact Nat.le_refl _⟩, ⟨by repeat (first | (with_reducible first | exact HB.out | apply below_alloc | apply pw_below_drewN | apply below_drew1) | exact HB.out)⟩⟩
    · rw [if_neg c11] at H
      have c11b0 : (t157 == t158) = false := beq_eq_false_iff_ne.mpr c11
      have c11b1 : (t157 != t158) = true := bne_iff_ne.mpr c11
      (first | rw [c11b0] | (simp only [i64_w, i32_w]; rw [c11b0]) | skip)
      have H' := Aside0.mk H
      clear H
      go_wp2_with (first | ((with_reducible refine gate_callee (f := 13) rfl ?_); refine goesL_ (some 20) rfl rfl Try.func13 (by kernel_rfl) rfl #[.int .u64 a0, .int .u64 a1] rfl (by (try simp only [List.map_toArray, List.map_cons, List.map_nil]); first | done | rfl | (simp only [List.length_drop, List.length_take]; rfl)) ?_; (with_reducible refine (word_Add.calls a0 a1 t157 _ A9.out).mono ?_); rintro e w' ⟨rfl, ⟨nd, rfl⟩⟩; refine ⟨_, rfl, ?_⟩) | ((with_reducible refine gate_callee (f := 13) rfl ?_); refine goesL_ (some 23) rfl rfl Try.func13 (by kernel_rfl) rfl #[.int .u64 a1, .int .u64 a0] rfl (by (try simp only [List.map_toArray, List.map_cons, List.map_nil]); first | done | rfl | (simp only [List.length_drop, List.length_take]; rfl)) ?_; (with_reducible refine (word_Add.calls a1 a0 t158 _ A10.out).mono ?_); rintro e w' ⟨rfl, ⟨nd, rfl⟩⟩; refine ⟨_, rfl, ?_⟩) | (go_at_call 13; (with_reducible refine (word_Add.calls a0 a1 t157 _ A9.out).mono ?_); rintro e w' ⟨rfl, ⟨nd, rfl⟩⟩) | (go_at_call 13; (with_reducible refine (word_Add.calls a1 a0 t158 _ A10.out).mono ?_); rintro e w' ⟨rfl, ⟨nd, rfl⟩⟩))
      go_meet
      case rel => exact ⟨_, (false), (by first | rfl | (simp; done) | (simp [*]; done)), H', ⟨by first | omega | exact Nat.le_refl _⟩, ⟨by repeat (first | (with_reducible first | exact HB.out | apply below_alloc | apply pw_below_drewN | apply below_drew1) | exact HB.out)⟩⟩
  case rest =>
    clear HC7
    try clear c1
    try clear p2
    try clear c5
    try clear c8
    try clear c11
    try clear c11b0
    try clear c11b1
    try clear c13
    try clear c14
    try clear c14b0
    try clear c14b1
    obtain ⟨kq, x10_6, rfl, HA, HJ6, HB⟩ := hcut
    cases kq with
    | zero => exact absurd HA.out (by simp [linhaylaw01_WordOrder.j0])
    | succ kj6 =>
      have H := HA.out
      clear HA
      simp only [linhaylaw01_WordOrder.j0] at H
      by_cases c19 : t156 = true
      · subst c19
        have H1 : (if x10_6 = true then ((word_Add.f ji5 a2).bind fun t165 => ((word_Add.f ji6 a2).bind fun t166 => (if t165 ≤ t166 then ((word_Mul.f ji5 a2).bind fun t167 => ((word_Mul.f ji6 a2).bind fun t168 => (if t167 ≤ t168 then ((word_Sub.f ji5 a2).bind fun t169 => ((word_Sub.f ji6 a2).bind fun t170 => (if t169 ≤ t170 then ((word_Sub.f a2 ji5).bind fun t171 => ((word_Sub.f a2 ji6).bind fun t172 => (some (decide (t171 ≥ t172))))) else (some false)))) else (some false)))) else (some false)))) else (some false)) = some r := by rw [if_pos rfl] at H; exact H
        clear H
        have H := H1
        clear H1
        by_cases c20 : x10_6 = true
        · subst c20
          have H1 : ((word_Add.f ji5 a2).bind fun t165 => ((word_Add.f ji6 a2).bind fun t166 => (if t165 ≤ t166 then ((word_Mul.f ji5 a2).bind fun t167 => ((word_Mul.f ji6 a2).bind fun t168 => (if t167 ≤ t168 then ((word_Sub.f ji5 a2).bind fun t169 => ((word_Sub.f ji6 a2).bind fun t170 => (if t169 ≤ t170 then ((word_Sub.f a2 ji5).bind fun t171 => ((word_Sub.f a2 ji6).bind fun t172 => (some (decide (t171 ≥ t172))))) else (some false)))) else (some false)))) else (some false)))) = some r := by rw [if_pos rfl] at H; exact H
          clear H
          have H := H1
          clear H1
          replace H := Option.bind_eq_some_iff.mp H
          obtain ⟨t165, A210, H⟩ := H
          replace H : ((word_Add.f ji6 a2).bind fun t166 => (if t165 ≤ t166 then ((word_Mul.f ji5 a2).bind fun t167 => ((word_Mul.f ji6 a2).bind fun t168 => (if t167 ≤ t168 then ((word_Sub.f ji5 a2).bind fun t169 => ((word_Sub.f ji6 a2).bind fun t170 => (if t169 ≤ t170 then ((word_Sub.f a2 ji5).bind fun t171 => ((word_Sub.f a2 ji6).bind fun t172 => (some (decide (t171 ≥ t172))))) else (some false)))) else (some false)))) else (some false))) = some r := H
          have A21 := Aside0.mk A210
          clear A210
          replace H := Option.bind_eq_some_iff.mp H
          obtain ⟨t166, A220, H⟩ := H
          replace H : (if t165 ≤ t166 then ((word_Mul.f ji5 a2).bind fun t167 => ((word_Mul.f ji6 a2).bind fun t168 => (if t167 ≤ t168 then ((word_Sub.f ji5 a2).bind fun t169 => ((word_Sub.f ji6 a2).bind fun t170 => (if t169 ≤ t170 then ((word_Sub.f a2 ji5).bind fun t171 => ((word_Sub.f a2 ji6).bind fun t172 => (some (decide (t171 ≥ t172))))) else (some false)))) else (some false)))) else (some false)) = some r := H
          have A22 := Aside0.mk A220
          clear A220
          by_cases c23 : t165 ≤ t166
          · rw [if_pos c23] at H
            have c23b0 : decide (t165 ≤ t166) = true := decide_eq_true c23
            clear c23
            replace H := Option.bind_eq_some_iff.mp H
            obtain ⟨t167, A240, H⟩ := H
            replace H : ((word_Mul.f ji6 a2).bind fun t168 => (if t167 ≤ t168 then ((word_Sub.f ji5 a2).bind fun t169 => ((word_Sub.f ji6 a2).bind fun t170 => (if t169 ≤ t170 then ((word_Sub.f a2 ji5).bind fun t171 => ((word_Sub.f a2 ji6).bind fun t172 => (some (decide (t171 ≥ t172))))) else (some false)))) else (some false))) = some r := H
            have A24 := Aside0.mk A240
            clear A240
            replace H := Option.bind_eq_some_iff.mp H
            obtain ⟨t168, A250, H⟩ := H
            replace H : (if t167 ≤ t168 then ((word_Sub.f ji5 a2).bind fun t169 => ((word_Sub.f ji6 a2).bind fun t170 => (if t169 ≤ t170 then ((word_Sub.f a2 ji5).bind fun t171 => ((word_Sub.f a2 ji6).bind fun t172 => (some (decide (t171 ≥ t172))))) else (some false)))) else (some false)) = some r := H
            have A25 := Aside0.mk A250
            clear A250
            by_cases c26 : t167 ≤ t168
            · rw [if_pos c26] at H
              have c26b0 : decide (t167 ≤ t168) = true := decide_eq_true c26
              clear c26
              replace H := Option.bind_eq_some_iff.mp H
              obtain ⟨t169, A270, H⟩ := H
              replace H : ((word_Sub.f ji6 a2).bind fun t170 => (if t169 ≤ t170 then ((word_Sub.f a2 ji5).bind fun t171 => ((word_Sub.f a2 ji6).bind fun t172 => (some (decide (t171 ≥ t172))))) else (some false))) = some r := H
              have A27 := Aside0.mk A270
              clear A270
              replace H := Option.bind_eq_some_iff.mp H
              obtain ⟨t170, A280, H⟩ := H
              replace H : (if t169 ≤ t170 then ((word_Sub.f a2 ji5).bind fun t171 => ((word_Sub.f a2 ji6).bind fun t172 => (some (decide (t171 ≥ t172))))) else (some false)) = some r := H
              have A28 := Aside0.mk A280
              clear A280
              by_cases c29 : t169 ≤ t170
              · rw [if_pos c29] at H
                have c29b0 : decide (t169 ≤ t170) = true := decide_eq_true c29
                clear c29
                replace H := Option.bind_eq_some_iff.mp H
                obtain ⟨t171, A300, H⟩ := H
                replace H : ((word_Sub.f a2 ji6).bind fun t172 => (some (decide (t171 ≥ t172)))) = some r := H
                have A30 := Aside0.mk A300
                clear A300
                replace H := Option.bind_eq_some_iff.mp H
                obtain ⟨t172, A310, H⟩ := H
                replace H : (some (decide (t171 ≥ t172))) = some r := H
                have A31 := Aside0.mk A310
                clear A310
                obtain rfl := Option.some.inj H
                go_wp2_with (first | (go_at_call 13; (with_reducible refine (word_Add.calls ji5 a2 t165 _ A21.out).mono ?_); rintro e w' ⟨rfl, ⟨nd, rfl⟩⟩) | (go_at_call 13; (with_reducible refine (word_Add.calls ji6 a2 t166 _ A22.out).mono ?_); rintro e w' ⟨rfl, ⟨nd, rfl⟩⟩) | (go_at_call 17; (with_reducible refine (word_Mul.calls ji5 a2 t167 _ A24.out).mono ?_); rintro e w' ⟨rfl, ⟨nd, rfl⟩⟩) | (go_at_call 17; (with_reducible refine (word_Mul.calls ji6 a2 t168 _ A25.out).mono ?_); rintro e w' ⟨rfl, ⟨nd, rfl⟩⟩) | (go_at_call 15; (with_reducible refine (word_Sub.calls ji5 a2 t169 _ A27.out).mono ?_); rintro e w32 ⟨rfl, hb⟩; have n0_ := Aside0.mk (below_step (by repeat (first | (with_reducible first | exact HB.out | apply below_alloc | apply pw_below_drewN | apply below_drew1) | exact HB.out)) hb); clear HB; have HB := n0_; clear n0_; (try clear hb); (try clear hb2); (try clear hk); (try clear hi)) | (go_at_call 15; (with_reducible refine (word_Sub.calls ji6 a2 t170 _ A28.out).mono ?_); rintro e w33 ⟨rfl, hb⟩; have n0_ := Aside0.mk (below_step (by repeat (first | (with_reducible first | exact HB.out | apply below_alloc | apply pw_below_drewN | apply below_drew1) | exact HB.out)) hb); clear HB; have HB := n0_; clear n0_; (try clear hb); (try clear hb2); (try clear hk); (try clear hi)) | (go_at_call 15; (with_reducible refine (word_Sub.calls a2 ji5 t171 _ A30.out).mono ?_); rintro e w34 ⟨rfl, hb⟩; have n0_ := Aside0.mk (below_step (by repeat (first | (with_reducible first | exact HB.out | apply below_alloc | apply pw_below_drewN | apply below_drew1) | exact HB.out)) hb); clear HB; have HB := n0_; clear n0_; (try clear hb); (try clear hb2); (try clear hk); (try clear hi)) | (go_at_call 15; (with_reducible refine (word_Sub.calls a2 ji6 t172 _ A31.out).mono ?_); rintro e w35 ⟨rfl, hb⟩; have n0_ := Aside0.mk (below_step (by repeat (first | (with_reducible first | exact HB.out | apply below_alloc | apply pw_below_drewN | apply below_drew1) | exact HB.out)) hb); clear HB; have HB := n0_; clear n0_; (try clear hb); (try clear hb2); (try clear hk); (try clear hi)))
                go_ret
                exact ⟨by first | rfl | (simp [errW_none, errW_some] <;> rfl) | (simp only [← hji5, ← hji6]; first | rfl | (simp [errW_none, errW_some] <;> rfl)) | (simp [*, errW_none, errW_some] <;> rfl), by repeat (first | (with_reducible first | exact HB.out | apply below_alloc | apply pw_below_drewN | apply below_drew1) | exact HB.out)⟩
              · rw [if_neg c29] at H
                have c29b0 : decide (t169 ≤ t170) = false := decide_eq_false c29
                clear c29
                obtain rfl := Option.some.inj H
                go_wp2_with (first | (go_at_call 13; (with_reducible refine (word_Add.calls ji5 a2 t165 _ A21.out).mono ?_); rintro e w' ⟨rfl, ⟨nd, rfl⟩⟩) | (go_at_call 13; (with_reducible refine (word_Add.calls ji6 a2 t166 _ A22.out).mono ?_); rintro e w' ⟨rfl, ⟨nd, rfl⟩⟩) | (go_at_call 17; (with_reducible refine (word_Mul.calls ji5 a2 t167 _ A24.out).mono ?_); rintro e w' ⟨rfl, ⟨nd, rfl⟩⟩) | (go_at_call 17; (with_reducible refine (word_Mul.calls ji6 a2 t168 _ A25.out).mono ?_); rintro e w' ⟨rfl, ⟨nd, rfl⟩⟩) | (go_at_call 15; (with_reducible refine (word_Sub.calls ji5 a2 t169 _ A27.out).mono ?_); rintro e w36 ⟨rfl, hb⟩; have n0_ := Aside0.mk (below_step (by repeat (first | (with_reducible first | exact HB.out | apply below_alloc | apply pw_below_drewN | apply below_drew1) | exact HB.out)) hb); clear HB; have HB := n0_; clear n0_; (try clear hb); (try clear hb2); (try clear hk); (try clear hi)) | (go_at_call 15; (with_reducible refine (word_Sub.calls ji6 a2 t170 _ A28.out).mono ?_); rintro e w37 ⟨rfl, hb⟩; have n0_ := Aside0.mk (below_step (by repeat (first | (with_reducible first | exact HB.out | apply below_alloc | apply pw_below_drewN | apply below_drew1) | exact HB.out)) hb); clear HB; have HB := n0_; clear n0_; (try clear hb); (try clear hb2); (try clear hk); (try clear hi)))
                go_ret
                exact ⟨by first | rfl | (simp [errW_none, errW_some] <;> rfl) | (simp only [← hji5, ← hji6]; first | rfl | (simp [errW_none, errW_some] <;> rfl)) | (simp [*, errW_none, errW_some] <;> rfl), by repeat (first | (with_reducible first | exact HB.out | apply below_alloc | apply pw_below_drewN | apply below_drew1) | exact HB.out)⟩
            · rw [if_neg c26] at H
              have c26b0 : decide (t167 ≤ t168) = false := decide_eq_false c26
              clear c26
              obtain rfl := Option.some.inj H
              go_wp2_with (first | (go_at_call 13; (with_reducible refine (word_Add.calls ji5 a2 t165 _ A21.out).mono ?_); rintro e w' ⟨rfl, ⟨nd, rfl⟩⟩) | (go_at_call 13; (with_reducible refine (word_Add.calls ji6 a2 t166 _ A22.out).mono ?_); rintro e w' ⟨rfl, ⟨nd, rfl⟩⟩) | (go_at_call 17; (with_reducible refine (word_Mul.calls ji5 a2 t167 _ A24.out).mono ?_); rintro e w' ⟨rfl, ⟨nd, rfl⟩⟩) | (go_at_call 17; (with_reducible refine (word_Mul.calls ji6 a2 t168 _ A25.out).mono ?_); rintro e w' ⟨rfl, ⟨nd, rfl⟩⟩))
              go_ret
              exact ⟨by first | rfl | (simp [errW_none, errW_some] <;> rfl) | (simp only [← hji5, ← hji6]; first | rfl | (simp [errW_none, errW_some] <;> rfl)) | (simp [*, errW_none, errW_some] <;> rfl), by repeat (first | (with_reducible first | exact HB.out | apply below_alloc | apply pw_below_drewN | apply below_drew1) | exact HB.out)⟩
          · rw [if_neg c23] at H
            have c23b0 : decide (t165 ≤ t166) = false := decide_eq_false c23
            clear c23
            obtain rfl := Option.some.inj H
            go_wp2_with (first | (go_at_call 13; (with_reducible refine (word_Add.calls ji5 a2 t165 _ A21.out).mono ?_); rintro e w' ⟨rfl, ⟨nd, rfl⟩⟩) | (go_at_call 13; (with_reducible refine (word_Add.calls ji6 a2 t166 _ A22.out).mono ?_); rintro e w' ⟨rfl, ⟨nd, rfl⟩⟩))
            go_ret
            exact ⟨by first | rfl | (simp [errW_none, errW_some] <;> rfl) | (simp only [← hji5, ← hji6]; first | rfl | (simp [errW_none, errW_some] <;> rfl)) | (simp [*, errW_none, errW_some] <;> rfl), by repeat (first | (with_reducible first | exact HB.out | apply below_alloc | apply pw_below_drewN | apply below_drew1) | exact HB.out)⟩
        · replace c20 := Bool.eq_false_iff.mpr c20
          subst c20
          have H1 : (some false) = some r := by rw [if_neg (show ¬ (false = true) by decide)] at H; exact H
          clear H
          have H := H1
          clear H1
          obtain rfl := Option.some.inj H
          go_wp2
          go_ret
          exact ⟨by first | rfl | (simp [errW_none, errW_some] <;> rfl) | (simp only [← hji5, ← hji6]; first | rfl | (simp [errW_none, errW_some] <;> rfl)) | (simp [*, errW_none, errW_some] <;> rfl), by repeat (first | (with_reducible first | exact HB.out | apply below_alloc | apply pw_below_drewN | apply below_drew1) | exact HB.out)⟩
      · replace c19 := Bool.eq_false_iff.mpr c19
        subst c19
        have H1 : (some false) = some r := by rw [if_neg (show ¬ (false = true) by decide)] at H; exact H
        clear H
        have H := H1
        clear H1
        obtain rfl := Option.some.inj H
        go_wp2
        go_ret
        exact ⟨by first | rfl | (simp [errW_none, errW_some] <;> rfl) | (simp only [← hji5, ← hji6]; first | rfl | (simp [errW_none, errW_some] <;> rfl)) | (simp [*, errW_none, errW_some] <;> rfl), by repeat (first | (with_reducible first | exact HB.out | apply below_alloc | apply pw_below_drewN | apply below_drew1) | exact HB.out)⟩

/-- THE ONE PURE STATEMENT of linhaylaw01_WordOrder: yours. -/
def linhaylaw01_WordOrder.Pure : Prop := ∀ (a0 : Int) (a1 : Int) (a2 : Int), (Lit.int .u64 a0).wf = true → (Lit.int .u64 a1).wf = true → (Lit.int .u64 a2).wf = true → ∃ k, linhaylaw01_WordOrder.f k a0 a1 a2 = some true
theorem linhaylaw01_WordOrder.walk (P : linhaylaw01_WordOrder.Pure) (a0 : Int) (a1 : Int) (a2 : Int) (w : World) (w0 : (Lit.int .u64 a0).wf = true) (w1 : (Lit.int .u64 a1).wf = true) (w2 : (Lit.int .u64 a2).wf = true) :
    Calls Try.prog 5 #[.int .u64 a0, .int .u64 a1, .int .u64 a2] w fun e w' => e = .returned (.bool true) ∧ Below w.heap.size w w' := by
  obtain ⟨k, h⟩ := P a0 a1 a2 w0 w1 w2
  refine (linhaylaw01_WordOrder.calls k a0 a1 a2 true w h).mono ?_
  rintro e w' ⟨rfl, hd⟩
  exact ⟨rfl, hd⟩

end Go.Proofs.Ytkngogjcenmahaa.Print
