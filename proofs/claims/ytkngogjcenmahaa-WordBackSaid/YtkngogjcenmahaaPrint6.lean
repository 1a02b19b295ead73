/- Lean functions that answer what Go functions of the translation answer, and the proofs of it. Written by a program of this session (wip/tools/seatprint.py), over contracts that it proved by hand. Conditions: those that each theorem says. -/
import Derived.Test.YtkngogjcenmahaaPrint0
import Derived.Test.YtkngogjcenmahaaPrint1
import Derived.Test.YtkngogjcenmahaaPrint2
namespace Go.Proofs.Ytkngogjcenmahaa.Print
open Go.RowKit Go.Proofs.YtkngogjcenmahaaW.PrintWords Go.Proofs.YtkngogjcenmahaaW.PrintLast Go.Proofs.YtkngogjcenmahaaW.PrintMore
attribute [local go_sem] max2_int min2_int max_two min_two max_three min_three max_four min_four   -- for this text's walks alone
set_option linter.unusedVariables false
set_option linter.unusedSimpArgs false

/-! ### linhaylaw01_WordBack: function 4 -/
def linhaylaw01_WordBack.j0 : Nat → Int → Int → Int → Bool → Int → Int → Bool → Option (Bool)
  | 0, _, _, _, _, _, _, _ => none
  | k + 1, x0, x1, x2, x7, x8, x9, x10 => (word_Shl.f x0 x2).bind fun t148 => (if x7 = true then (if x10 = true then (if t148 = 18446744073709551615 then ((word_Shr.f x0 x2).bind fun t149 => ((word_Shl.f t149 x2).bind fun t150 => (if t150 ≤ x0 then (if x9 = 0 then (some true) else (if x8 = 0 then ((word_Add.f x0 x1).bind fun t151 => (some (t151 == 18446744073709551615))) else (some false))) else (some false)))) else ((word_Shr.f t148 x2).bind fun t152 => (if t152 = x0 then ((word_Shr.f x0 x2).bind fun t153 => ((word_Shl.f t153 x2).bind fun t154 => (if t154 ≤ x0 then (if x9 = 0 then (some true) else (if x8 = 0 then ((word_Add.f x0 x1).bind fun t155 => (some (t155 == 18446744073709551615))) else (some false))) else (some false)))) else (some false)))) else (some false)) else (some false))
def linhaylaw01_WordBack.f (k : Nat) (a0 : Int) (a1 : Int) (a2 : Int) : Option (Bool) := (linhaylaw01_awake.f).bind fun t142 => ((word_Plus.f a0 a1).bind fun bt143 => (if bt143.2 = 0 then ((word_Sub.f bt143.1 a1).bind fun t145 => (if t145 = a0 then ((word_Sub.f bt143.1 a0).bind fun t146 => (if t146 = a1 then ((word_Add.f a0 a1).bind fun t147 => (linhaylaw01_WordBack.j0 k a0 a1 a2 t142 bt143.1 bt143.2 (t147 == bt143.1))) else (linhaylaw01_WordBack.j0 k a0 a1 a2 t142 bt143.1 bt143.2 false))) else (linhaylaw01_WordBack.j0 k a0 a1 a2 t142 bt143.1 bt143.2 false))) else (linhaylaw01_WordBack.j0 k a0 a1 a2 t142 bt143.1 bt143.2 true)))
theorem linhaylaw01_WordBack.mono_l : ∀ k, (∀ y0 y1 y2 y3 y4 y5 y6, LeO (linhaylaw01_WordBack.j0 k y0 y1 y2 y3 y4 y5 y6) (linhaylaw01_WordBack.j0 (k + 1) y0 y1 y2 y3 y4 y5 y6))
  | 0 => fun _ _ _ _ _ _ _ r h => by simp [linhaylaw01_WordBack.j0] at h
  | k + 1 => by
    have ih0 := linhaylaw01_WordBack.mono_l k
    · intro y0 y1 y2 y3 y4 y5 y6
      unfold linhaylaw01_WordBack.j0
      repeat' first
      | (with_reducible exact ih0 _ _ _ _ _ _ _)
      | (with_reducible exact LeO.refl _)
      | (with_reducible exact LeO.none _)
      | (with_reducible refine LeO.ite ?_ ?_)
      | (with_reducible refine LeO.bind ?_ (fun _ => ?_))
      | exact ih0 _ _ _ _ _ _ _
      | exact LeO.none _
      | refine LeO.ite ?_ ?_
      | refine LeO.bind ?_ (fun _ => ?_)
theorem linhaylaw01_WordBack.mono : ∀ a0 a1 a2 k, LeO (linhaylaw01_WordBack.f k a0 a1 a2) (linhaylaw01_WordBack.f (k + 1) a0 a1 a2) := by
  intro a0 a1 a2 k
  have ih0 := linhaylaw01_WordBack.mono_l k
  unfold linhaylaw01_WordBack.f
  repeat' first
      | (with_reducible exact ih0 _ _ _ _ _ _ _)
      | (with_reducible exact LeO.refl _)
      | (with_reducible exact LeO.none _)
      | (with_reducible refine LeO.ite ?_ ?_)
      | (with_reducible refine LeO.bind ?_ (fun _ => ?_))
      | exact ih0 _ _ _ _ _ _ _
      | exact LeO.none _
      | refine LeO.ite ?_ ?_
      | refine LeO.bind ?_ (fun _ => ?_)
set_option maxHeartbeats 8000000 in
set_option maxRecDepth 100000 in
theorem linhaylaw01_WordBack.calls (k : Nat) (a0 : Int) (a1 : Int) (a2 : Int) (r : Bool) (w : World) (h : linhaylaw01_WordBack.f k a0 a1 a2 = some r) :
    Calls Try.prog 4 #[.int .u64 a0, .int .u64 a1, .int .u64 a2] w fun e w' => e = .returned (.bool r) ∧ Below w.heap.size w w' := by
  have HB := Aside0.mk (Below.refl w.heap.size w)
  have H : ((linhaylaw01_awake.f).bind fun t142 => ((word_Plus.f a0 a1).bind fun bt143 => (if bt143.2 = 0 then ((word_Sub.f bt143.1 a1).bind fun t145 => (if t145 = a0 then ((word_Sub.f bt143.1 a0).bind fun t146 => (if t146 = a1 then ((word_Add.f a0 a1).bind fun t147 => (linhaylaw01_WordBack.j0 k a0 a1 a2 t142 bt143.1 bt143.2 (t147 == bt143.1))) else (linhaylaw01_WordBack.j0 k a0 a1 a2 t142 bt143.1 bt143.2 false))) else (linhaylaw01_WordBack.j0 k a0 a1 a2 t142 bt143.1 bt143.2 false))) else (linhaylaw01_WordBack.j0 k a0 a1 a2 t142 bt143.1 bt143.2 true)))) = some r := h
  clear h
  replace H := Option.bind_eq_some_iff.mp H
  obtain ⟨t142, A40, H⟩ := H
  replace H : ((word_Plus.f a0 a1).bind fun bt143 => (if bt143.2 = 0 then ((word_Sub.f bt143.1 a1).bind fun t145 => (if t145 = a0 then ((word_Sub.f bt143.1 a0).bind fun t146 => (if t146 = a1 then ((word_Add.f a0 a1).bind fun t147 => (linhaylaw01_WordBack.j0 k a0 a1 a2 t142 bt143.1 bt143.2 (t147 == bt143.1))) else (linhaylaw01_WordBack.j0 k a0 a1 a2 t142 bt143.1 bt143.2 false))) else (linhaylaw01_WordBack.j0 k a0 a1 a2 t142 bt143.1 bt143.2 false))) else (linhaylaw01_WordBack.j0 k a0 a1 a2 t142 bt143.1 bt143.2 true))) = some r := H
  have A4 := Aside0.mk A40
  clear A40
  replace H := Option.bind_eq_some_iff.mp H
  obtain ⟨⟨t143, t144⟩, A50, H⟩ := H
  replace H : (if t144 = 0 then ((word_Sub.f t143 a1).bind fun t145 => (if t145 = a0 then ((word_Sub.f t143 a0).bind fun t146 => (if t146 = a1 then ((word_Add.f a0 a1).bind fun t147 => (linhaylaw01_WordBack.j0 k a0 a1 a2 t142 t143 t144 (t147 == t143))) else (linhaylaw01_WordBack.j0 k a0 a1 a2 t142 t143 t144 false))) else (linhaylaw01_WordBack.j0 k a0 a1 a2 t142 t143 t144 false))) else (linhaylaw01_WordBack.j0 k a0 a1 a2 t142 t143 t144 true)) = some r := H
  have A5 := Aside0.mk A50
  clear A50
  have HC6 := Aside0.mk H
  clear H
  go_enter Try.func4, Try.ntmps4
  go_upto_region 3 with (first | ((with_reducible refine gate_callee (f := 8) rfl ?_); refine goesL_ (some 12) rfl rfl Try.func8 (by kernel_rfl) rfl #[] rfl (by (try simp only [List.map_toArray, List.map_cons, List.map_nil]); first | done | rfl | (simp only [List.length_drop, List.length_take]; rfl)) ?_; (with_reducible refine (linhaylaw01_awake.calls  t142 _ A4.out).mono ?_); rintro e w7 ⟨rfl, hb⟩; refine ⟨_, rfl, ?_⟩; have n0_ := Aside0.mk (below_step (by repeat (first | (with_reducible first | exact HB.out | apply below_alloc | apply pw_below_drewN | apply below_drew1) | exact HB.out)) hb); clear HB; have HB := n0_; clear n0_; (try clear hb); (try clear hb2); (try clear hk); (try clear hi)) | ((with_reducible refine gate_callee (f := 9) rfl ?_); refine goesL_ (some 16) rfl rfl Try.func9 (by kernel_rfl) rfl #[.int .u64 a0, .int .u64 a1] rfl (by (try simp only [List.map_toArray, List.map_cons, List.map_nil]); first | done | rfl | (simp only [List.length_drop, List.length_take]; rfl)) ?_; (with_reducible refine (word_Plus.calls a0 a1 t143 t144 _ A5.out).mono ?_); rintro e w' ⟨rfl, ⟨nd, rfl⟩⟩; refine ⟨_, rfl, ?_⟩))
  (try simp only [Act.put, List.setIfInBounds_toArray, List.set_cons_zero, List.set_cons_succ])
  go_cut [10] (fun v10 wc => ∃ (kq : Nat) (x10_5 : Bool), v10 = .bool x10_5 ∧ Aside0 (linhaylaw01_WordBack.j0 kq a0 a1 a2 t142 t143 t144 x10_5 = some r) ∧ Aside0 (kq ≤ k) ∧ Aside0 (Below w.heap.size w wc))
  case first =>
    have H := HC6.out
    clear HC6
    by_cases c8 : t144 = 0
    · rw [if_pos c8] at H
      have c8b0 : (t144 == 0) = true := beq_iff_eq.mpr c8
      have c8b1 : (t144 != 0) = false := bne_eq_false_iff_eq.mpr c8
      clear c8
      (first | rw [c8b0] | (simp only [i64_w, i32_w]; rw [c8b0]) | skip)
      replace H := Option.bind_eq_some_iff.mp H
      obtain ⟨t145, A90, H⟩ := H
      replace H : (if t145 = a0 then ((word_Sub.f t143 a0).bind fun t146 => (if t146 = a1 then ((word_Add.f a0 a1).bind fun t147 => (linhaylaw01_WordBack.j0 k a0 a1 a2 t142 t143 t144 (t147 == t143))) else (linhaylaw01_WordBack.j0 k a0 a1 a2 t142 t143 t144 false))) else (linhaylaw01_WordBack.j0 k a0 a1 a2 t142 t143 t144 false)) = some r := H
      have A9 := Aside0.mk A90
      clear A90
      by_cases c10 : t145 = a0
      · rw [if_pos c10] at H
        have c10b0 : (t145 == a0) = true := beq_iff_eq.mpr c10
        have c10b1 : (t145 != a0) = false := bne_eq_false_iff_eq.mpr c10
        clear c10
        replace H := Option.bind_eq_some_iff.mp H
        obtain ⟨t146, A110, H⟩ := H
        replace H : (if t146 = a1 then ((word_Add.f a0 a1).bind fun t147 => (linhaylaw01_WordBack.j0 k a0 a1 a2 t142 t143 t144 (t147 == t143))) else (linhaylaw01_WordBack.j0 k a0 a1 a2 t142 t143 t144 false)) = some r := H
        have A11 := Aside0.mk A110
        clear A110
        by_cases c12 : t146 = a1
        · rw [if_pos c12] at H
          have c12b0 : (t146 == a1) = true := beq_iff_eq.mpr c12
          have c12b1 : (t146 != a1) = false := bne_eq_false_iff_eq.mpr c12
          clear c12
          replace H := Option.bind_eq_some_iff.mp H
          obtain ⟨t147, A130, H⟩ := H
          replace H : (linhaylaw01_WordBack.j0 k a0 a1 a2 t142 t143 t144 (t147 == t143)) = some r := H
          have A13 := Aside0.mk A130
          clear A130
          have H' := Aside0.mk H
          clear H
          go_wp2_with (first | (go_at_call 15; (with_reducible refine (word_Sub.calls t143 a1 t145 _ A9.out).mono ?_); rintro e w14 ⟨rfl, hb⟩; have n0_ := Aside0.mk (below_step (by repeat (first | (with_reducible first | exact HB.out | apply below_alloc | apply pw_below_drewN | apply below_drew1) | exact HB.out)) hb); clear HB; have HB := n0_; clear n0_; (try clear hb); (try clear hb2); (try clear hk); (try clear hi)) | (go_at_call 15; (with_reducible refine (word_Sub.calls t143 a0 t146 _ A11.out).mono ?_); rintro e w15 ⟨rfl, hb⟩; have n0_ := Aside0.mk (below_step (by repeat (first | (with_reducible first | exact HB.out | apply below_alloc | apply pw_below_drewN | apply below_drew1) | exact HB.out)) hb); clear HB; have HB := n0_; clear n0_; (try clear hb); (try clear hb2); (try clear hk); (try clear hi)) | (go_at_call 13; (with_reducible refine (word_Add.calls a0 a1 t147 _ A13.out).mono ?_); rintro e w' ⟨rfl, ⟨nd, rfl⟩⟩))
          go_meet
          case rel => exact ⟨_, ((t147 == t143)), (by first | rfl | (simp; done) | (simp [*]; done)), H', ⟨by first | omega | exact Nat.le_refl _⟩, ⟨by repeat (first | (with_reducible first | exact HB.out | apply below_alloc | apply pw_below_drewN | apply below_drew1) | exact HB.out)⟩⟩
        · rw [if_neg c12] at H
          have c12b0 : (t146 == a1) = false := beq_eq_false_iff_ne.mpr c12
          have c12b1 : (t146 != a1) = true := bne_iff_ne.mpr c12
          have H' := Aside0.mk H
          clear H
          go_wp2_with (first | (go_at_call 15; (with_reducible refine (word_Sub.calls t143 a1 t145 _ A9.out).mono ?_); rintro e w16 ⟨rfl, hb⟩; have n0_ := Aside0.mk (below_step (by repeat (first | (with_reducible first | exact HB.out | apply below_alloc | apply pw_below_drewN | apply below_drew1) | exact HB.out)) hb); clear HB; have HB := n0_; clear n0_; (try clear hb); (try clear hb2); (try clear hk); (try clear hi)) | (go_at_call 15; (with_reducible refine (word_Sub.calls t143 a0 t146 _ A11.out).mono ?_); rintro e w17 ⟨rfl, hb⟩; have n0_ := Aside0.mk (below_step (by repeat (first | (with_reducible first | exact HB.out | apply below_alloc | apply pw_below_drewN | apply below_drew1) | exact HB.out)) hb); clear HB; have HB := n0_; clear n0_; (try clear hb); (try clear hb2); (try clear hk); (try clear hi)))
          go_meet
          case rel => exact ⟨_, (false), (by first | rfl | (simp; done) | (simp [*]; done)), H', ⟨by first | omega | exact Nat.le_refl _⟩, ⟨by repeat (first | (with_reducible first | exact HB.out | apply below_alloc | apply pw_below_drewN | apply below_drew1) | exact HB.out)⟩⟩
      · rw [if_neg c10] at H
        have c10b0 : (t145 == a0) = false := beq_eq_false_iff_ne.mpr c10
        have c10b1 : (t145 != a0) = true := bne_iff_ne.mpr c10
        have H' := Aside0.mk H
        clear H
        go_wp2_with (first | (go_at_call 15; (with_reducible refine (word_Sub.calls t143 a1 t145 _ A9.out).mono ?_); rintro e w18 ⟨rfl, hb⟩; have n0_ := Aside0.mk (below_step (by repeat (first | (with_reducible first | exact HB.out | apply below_alloc | apply pw_below_drewN | apply below_drew1) | exact HB.out)) hb); clear HB; have HB := n0_; clear n0_; (try clear hb); (try clear hb2); (try clear hk); (try clear hi)))
        go_meet
        case rel => exact ⟨_, (false), (by first | rfl | (simp; done) | (simp [*]; done)), H', ⟨by first | omega | exact Nat.le_refl _⟩, ⟨by repeat (first | (with_reducible first | exact HB.out | apply below_alloc | apply pw_below_drewN | apply below_drew1) | exact HB.out)⟩⟩
    · rw [if_neg c8] at H
      have c8b0 : (t144 == 0) = false := beq_eq_false_iff_ne.mpr c8
      have c8b1 : (t144 != 0) = true := bne_iff_ne.mpr c8
      (first | rw [c8b0] | (simp only [i64_w, i32_w]; rw [c8b0]) | skip)
      have H' := Aside0.mk H
      clear H
      go_wp2
      go_meet
      case rel => exact ⟨_, (true), (by first | rfl | (simp; done) | (simp [*]; done)), H', ⟨by first | omega | exact Nat.le_refl _⟩, ⟨by repeat (first | (with_reducible first | exact HB.out | apply below_alloc | apply pw_below_drewN | apply below_drew1) | exact HB.out)⟩⟩
  case rest =>
    clear HC6
    try clear c1
    try clear p2
    try clear c4
    try clear c8
    try clear c8b0
    try clear c8b1
    try clear c9
    try clear c10
    try clear c10b0
    try clear c10b1
    try clear c12
    try clear c12b0
    try clear c12b1
    obtain ⟨kq, x10_5, rfl, HA, HJ5, HB⟩ := hcut
    cases kq with
    | zero => exact absurd HA.out (by simp [linhaylaw01_WordBack.j0])
    | succ kj5 =>
      have H := HA.out
      clear HA
      simp only [linhaylaw01_WordBack.j0] at H
      replace H := Option.bind_eq_some_iff.mp H
      obtain ⟨t148, A190, H⟩ := H
      replace H : (if t142 = true then (if x10_5 = true then (if t148 = 18446744073709551615 then ((word_Shr.f a0 a2).bind fun t149 => ((word_Shl.f t149 a2).bind fun t150 => (if t150 ≤ a0 then (if t144 = 0 then (some true) else (if t143 = 0 then ((word_Add.f a0 a1).bind fun t151 => (some (t151 == 18446744073709551615))) else (some false))) else (some false)))) else ((word_Shr.f t148 a2).bind fun t152 => (if t152 = a0 then ((word_Shr.f a0 a2).bind fun t153 => ((word_Shl.f t153 a2).bind fun t154 => (if t154 ≤ a0 then (if t144 = 0 then (some true) else (if t143 = 0 then ((word_Add.f a0 a1).bind fun t155 => (some (t155 == 18446744073709551615))) else (some false))) else (some false)))) else (some false)))) else (some false)) else (some false)) = some r := H
      have A19 := Aside0.mk A190
      clear A190
      by_cases c20 : t142 = true
      · subst c20
        have H1 : (if x10_5 = true then (if t148 = 18446744073709551615 then ((word_Shr.f a0 a2).bind fun t149 => ((word_Shl.f t149 a2).bind fun t150 => (if t150 ≤ a0 then (if t144 = 0 then (some true) else (if t143 = 0 then ((word_Add.f a0 a1).bind fun t151 => (some (t151 == 18446744073709551615))) else (some false))) else (some false)))) else ((word_Shr.f t148 a2).bind fun t152 => (if t152 = a0 then ((word_Shr.f a0 a2).bind fun t153 => ((word_Shl.f t153 a2).bind fun t154 => (if t154 ≤ a0 then (if t144 = 0 then (some true) else (if t143 = 0 then ((word_Add.f a0 a1).bind fun t155 => (some (t155 == 18446744073709551615))) else (some false))) else (some false)))) else (some false)))) else (some false)) = some r := by rw [if_pos rfl] at H; exact H
        clear H
        have H := H1
        clear H1
        by_cases c21 : x10_5 = true
        · subst c21
          have H1 : (if t148 = 18446744073709551615 then ((word_Shr.f a0 a2).bind fun t149 => ((word_Shl.f t149 a2).bind fun t150 => (if t150 ≤ a0 then (if t144 = 0 then (some true) else (if t143 = 0 then ((word_Add.f a0 a1).bind fun t151 => (some (t151 == 18446744073709551615))) else (some false))) else (some false)))) else ((word_Shr.f t148 a2).bind fun t152 => (if t152 = a0 then ((word_Shr.f a0 a2).bind fun t153 => ((word_Shl.f t153 a2).bind fun t154 => (if t154 ≤ a0 then (if t144 = 0 then (some true) else (if t143 = 0 then ((word_Add.f a0 a1).bind fun t155 => (some (t155 == 18446744073709551615))) else (some false))) else (some false)))) else (some false)))) = some r := by rw [if_pos rfl] at H; exact H
          clear H
          have H := H1
          clear H1
          by_cases c22 : t148 = 18446744073709551615
          · rw [if_pos c22] at H
            have c22b0 : (t148 == 18446744073709551615) = true := beq_iff_eq.mpr c22
            have c22b1 : (t148 != 18446744073709551615) = false := bne_eq_false_iff_eq.mpr c22
            clear c22
            replace H := Option.bind_eq_some_iff.mp H
            obtain ⟨t149, A230, H⟩ := H
            replace H : ((word_Shl.f t149 a2).bind fun t150 => (if t150 ≤ a0 then (if t144 = 0 then (some true) else (if t143 = 0 then ((word_Add.f a0 a1).bind fun t151 => (some (t151 == 18446744073709551615))) else (some false))) else (some false))) = some r := H
            have A23 := Aside0.mk A230
            clear A230
            replace H := Option.bind_eq_some_iff.mp H
            obtain ⟨t150, A240, H⟩ := H
            replace H : (if t150 ≤ a0 then (if t144 = 0 then (some true) else (if t143 = 0 then ((word_Add.f a0 a1).bind fun t151 => (some (t151 == 18446744073709551615))) else (some false))) else (some false)) = some r := H
            have A24 := Aside0.mk A240
            clear A240
            by_cases c25 : t150 ≤ a0
            · rw [if_pos c25] at H
              have c25b0 : decide (t150 ≤ a0) = true := decide_eq_true c25
              clear c25
              by_cases c26 : t144 = 0
              · rw [if_pos c26] at H
                have c26b0 : (t144 == 0) = true := beq_iff_eq.mpr c26
                have c26b1 : (t144 != 0) = false := bne_eq_false_iff_eq.mpr c26
                clear c26
                obtain rfl := Option.some.inj H
                go_wp2_with (first | ((with_reducible refine gate_callee (f := 19) rfl ?_); refine goesL_ (some 44) rfl rfl Try.func19 (by kernel_rfl) rfl #[.int .u64 a0, .int .u64 a2] rfl (by (try simp only [List.map_toArray, List.map_cons, List.map_nil]); first | done | rfl | (simp only [List.length_drop, List.length_take]; rfl)) ?_; (with_reducible refine (word_Shl.calls a0 a2 t148 _ A19.out).mono ?_); rintro e w' ⟨rfl, ⟨nd, rfl⟩⟩; refine ⟨_, rfl, ?_⟩) | (go_at_call 21; (with_reducible refine (word_Shr.calls a0 a2 t149 _ A23.out).mono ?_); rintro e w' ⟨rfl, ⟨nd, rfl⟩⟩) | (go_at_call 19; (with_reducible refine (word_Shl.calls t149 a2 t150 _ A24.out).mono ?_); rintro e w' ⟨rfl, ⟨nd, rfl⟩⟩) | (go_at_call 19; (with_reducible refine (word_Shl.calls a0 a2 t148 _ A19.out).mono ?_); rintro e w' ⟨rfl, ⟨nd, rfl⟩⟩))
                go_ret
                exact ⟨by first | rfl | (simp [errW_none, errW_some] <;> rfl) | (simp [*, errW_none, errW_some] <;> rfl), by repeat (first | (with_reducible first | exact HB.out | apply below_alloc | apply pw_below_drewN | apply below_drew1) | exact HB.out)⟩
              · rw [if_neg c26] at H
                have c26b0 : (t144 == 0) = false := beq_eq_false_iff_ne.mpr c26
                have c26b1 : (t144 != 0) = true := bne_iff_ne.mpr c26
                by_cases c27 : t143 = 0
                · rw [if_pos c27] at H
                  have c27b0 : (t143 == 0) = true := beq_iff_eq.mpr c27
                  have c27b1 : (t143 != 0) = false := bne_eq_false_iff_eq.mpr c27
                  clear c27
                  replace H := Option.bind_eq_some_iff.mp H
                  obtain ⟨t151, A280, H⟩ := H
                  replace H : (some (t151 == 18446744073709551615)) = some r := H
                  have A28 := Aside0.mk A280
                  clear A280
                  obtain rfl := Option.some.inj H
                  go_wp2_with (first | ((with_reducible refine gate_callee (f := 19) rfl ?_); refine goesL_ (some 44) rfl rfl Try.func19 (by kernel_rfl) rfl #[.int .u64 a0, .int .u64 a2] rfl (by (try simp only [List.map_toArray, List.map_cons, List.map_nil]); first | done | rfl | (simp only [List.length_drop, List.length_take]; rfl)) ?_; (with_reducible refine (word_Shl.calls a0 a2 t148 _ A19.out).mono ?_); rintro e w' ⟨rfl, ⟨nd, rfl⟩⟩; refine ⟨_, rfl, ?_⟩) | (go_at_call 21; (with_reducible refine (word_Shr.calls a0 a2 t149 _ A23.out).mono ?_); rintro e w' ⟨rfl, ⟨nd, rfl⟩⟩) | (go_at_call 19; (with_reducible refine (word_Shl.calls t149 a2 t150 _ A24.out).mono ?_); rintro e w' ⟨rfl, ⟨nd, rfl⟩⟩) | (go_at_call 13; (with_reducible refine (word_Add.calls a0 a1 t151 _ A28.out).mono ?_); rintro e w' ⟨rfl, ⟨nd, rfl⟩⟩) | (go_at_call 19; (with_reducible refine (word_Shl.calls a0 a2 t148 _ A19.out).mono ?_); rintro e w' ⟨rfl, ⟨nd, rfl⟩⟩))
                  go_ret
                  exact ⟨by first | rfl | (simp [errW_none, errW_some] <;> rfl) | (simp [*, errW_none, errW_some] <;> rfl), by repeat (first | (with_reducible first | exact HB.out | apply below_alloc | apply pw_below_drewN | apply below_drew1) | exact HB.out)⟩
                · rw [if_neg c27] at H
                  have c27b0 : (t143 == 0) = false := beq_eq_false_iff_ne.mpr c27
                  have c27b1 : (t143 != 0) = true := bne_iff_ne.mpr c27
                  obtain rfl := Option.some.inj H
                  go_wp2_with (first | ((with_reducible refine gate_callee (f := 19) rfl ?_); refine goesL_ (some 44) rfl rfl Try.func19 (by kernel_rfl) rfl #[.int .u64 a0, .int .u64 a2] rfl (by (try simp only [List.map_toArray, List.map_cons, List.map_nil]); first | done | rfl | (simp only [List.length_drop, List.length_take]; rfl)) ?_; (with_reducible refine (word_Shl.calls a0 a2 t148 _ A19.out).mono ?_); rintro e w' ⟨rfl, ⟨nd, rfl⟩⟩; refine ⟨_, rfl, ?_⟩) | (go_at_call 21; (with_reducible refine (word_Shr.calls a0 a2 t149 _ A23.out).mono ?_); rintro e w' ⟨rfl, ⟨nd, rfl⟩⟩) | (go_at_call 19; (with_reducible refine (word_Shl.calls t149 a2 t150 _ A24.out).mono ?_); rintro e w' ⟨rfl, ⟨nd, rfl⟩⟩) | (go_at_call 19; (with_reducible refine (word_Shl.calls a0 a2 t148 _ A19.out).mono ?_); rintro e w' ⟨rfl, ⟨nd, rfl⟩⟩))
                  go_ret
                  exact ⟨by first | rfl | (simp [errW_none, errW_some] <;> rfl) | (simp [*, errW_none, errW_some] <;> rfl), by repeat (first | (with_reducible first | exact HB.out | apply below_alloc | apply pw_below_drewN | apply below_drew1) | exact HB.out)⟩
            · rw [if_neg c25] at H
              have c25b0 : decide (t150 ≤ a0) = false := decide_eq_false c25
              clear c25
              obtain rfl := Option.some.inj H
              go_wp2_with (first | ((with_reducible refine gate_callee (f := 19) rfl ?_); refine goesL_ (some 44) rfl rfl Try.func19 (by kernel_rfl) rfl #[.int .u64 a0, .int .u64 a2] rfl (by (try simp only [List.map_toArray, List.map_cons, List.map_nil]); first | done | rfl | (simp only [List.length_drop, List.length_take]; rfl)) ?_; (with_reducible refine (word_Shl.calls a0 a2 t148 _ A19.out).mono ?_); rintro e w' ⟨rfl, ⟨nd, rfl⟩⟩; refine ⟨_, rfl, ?_⟩) | (go_at_call 21; (with_reducible refine (word_Shr.calls a0 a2 t149 _ A23.out).mono ?_); rintro e w' ⟨rfl, ⟨nd, rfl⟩⟩) | (go_at_call 19; (with_reducible refine (word_Shl.calls t149 a2 t150 _ A24.out).mono ?_); rintro e w' ⟨rfl, ⟨nd, rfl⟩⟩) | (go_at_call 19; (with_reducible refine (word_Shl.calls a0 a2 t148 _ A19.out).mono ?_); rintro e w' ⟨rfl, ⟨nd, rfl⟩⟩))
              go_ret
              exact ⟨by first | rfl | (simp [errW_none, errW_some] <;> rfl) | (simp [*, errW_none, errW_some] <;> rfl), by repeat (first | (with_reducible first | exact HB.out | apply below_alloc | apply pw_below_drewN | apply below_drew1) | exact HB.out)⟩
          · rw [if_neg c22] at H
            have c22b0 : (t148 == 18446744073709551615) = false := beq_eq_false_iff_ne.mpr c22
            have c22b1 : (t148 != 18446744073709551615) = true := bne_iff_ne.mpr c22
            replace H := Option.bind_eq_some_iff.mp H
            obtain ⟨t152, A290, H⟩ := H
            replace H : (if t152 = a0 then ((word_Shr.f a0 a2).bind fun t153 => ((word_Shl.f t153 a2).bind fun t154 => (if t154 ≤ a0 then (if t144 = 0 then (some true) else (if t143 = 0 then ((word_Add.f a0 a1).bind fun t155 => (some (t155 == 18446744073709551615))) else (some false))) else (some false)))) else (some false)) = some r := H
            have A29 := Aside0.mk A290
            clear A290
            by_cases c30 : t152 = a0
            · rw [if_pos c30] at H
              have c30b0 : (t152 == a0) = true := beq_iff_eq.mpr c30
              have c30b1 : (t152 != a0) = false := bne_eq_false_iff_eq.mpr c30
              clear c30
              replace H := Option.bind_eq_some_iff.mp H
              obtain ⟨t153, A310, H⟩ := H
              replace H : ((word_Shl.f t153 a2).bind fun t154 => (if t154 ≤ a0 then (if t144 = 0 then (some true) else (if t143 = 0 then ((word_Add.f a0 a1).bind fun t155 => (some (t155 == 18446744073709551615))) else (some false))) else (some false))) = some r := H
              have A31 := Aside0.mk A310
              clear A310
              replace H := Option.bind_eq_some_iff.mp H
              obtain ⟨t154, A320, H⟩ := H
              replace H : (if t154 ≤ a0 then (if t144 = 0 then (some true) else (if t143 = 0 then ((word_Add.f a0 a1).bind fun t155 => (some (t155 == 18446744073709551615))) else (some false))) else (some false)) = some r := H
              have A32 := Aside0.mk A320
              clear A320
              by_cases c33 : t154 ≤ a0
              · rw [if_pos c33] at H
                have c33b0 : decide (t154 ≤ a0) = true := decide_eq_true c33
                clear c33
                by_cases c34 : t144 = 0
                · rw [if_pos c34] at H
                  have c34b0 : (t144 == 0) = true := beq_iff_eq.mpr c34
                  have c34b1 : (t144 != 0) = false := bne_eq_false_iff_eq.mpr c34
                  clear c34
                  obtain rfl := Option.some.inj H
                  go_wp2_with (first | ((with_reducible refine gate_callee (f := 19) rfl ?_); refine goesL_ (some 44) rfl rfl Try.func19 (by kernel_rfl) rfl #[.int .u64 a0, .int .u64 a2] rfl (by (try simp only [List.map_toArray, List.map_cons, List.map_nil]); first | done | rfl | (simp only [List.length_drop, List.length_take]; rfl)) ?_; (with_reducible refine (word_Shl.calls a0 a2 t148 _ A19.out).mono ?_); rintro e w' ⟨rfl, ⟨nd, rfl⟩⟩; refine ⟨_, rfl, ?_⟩) | (go_at_call 21; (with_reducible refine (word_Shr.calls t148 a2 t152 _ A29.out).mono ?_); rintro e w' ⟨rfl, ⟨nd, rfl⟩⟩) | (go_at_call 21; (with_reducible refine (word_Shr.calls a0 a2 t153 _ A31.out).mono ?_); rintro e w' ⟨rfl, ⟨nd, rfl⟩⟩) | (go_at_call 19; (with_reducible refine (word_Shl.calls t153 a2 t154 _ A32.out).mono ?_); rintro e w' ⟨rfl, ⟨nd, rfl⟩⟩) | (go_at_call 19; (with_reducible refine (word_Shl.calls a0 a2 t148 _ A19.out).mono ?_); rintro e w' ⟨rfl, ⟨nd, rfl⟩⟩))
                  go_ret
                  exact ⟨by first | rfl | (simp [errW_none, errW_some] <;> rfl) | (simp [*, errW_none, errW_some] <;> rfl), by repeat (first | (with_reducible first | exact HB.out | apply below_alloc | apply pw_below_drewN | apply below_drew1) | exact HB.out)⟩
                · rw [if_neg c34] at H
                  have c34b0 : (t144 == 0) = false := beq_eq_false_iff_ne.mpr c34
                  have c34b1 : (t144 != 0) = true := bne_iff_ne.mpr c34
                  by_cases c35 : t143 = 0
                  · rw [if_pos c35] at H
                    have c35b0 : (t143 == 0) = true := beq_iff_eq.mpr c35
                    have c35b1 : (t143 != 0) = false := bne_eq_false_iff_eq.mpr c35
                    clear c35
                    replace H := Option.bind_eq_some_iff.mp H
                    obtain ⟨t155, A360, H⟩ := H
                    replace H : (some (t155 == 18446744073709551615)) = some r := H
                    have A36 := Aside0.mk A360
                    clear A360
                    obtain rfl := Option.some.inj H
                    go_wp2_with (first | ((with_reducible refine gate_callee (f := 19) rfl ?_); refine goesL_ (some 44) rfl rfl Try.func19 (by kernel_rfl) rfl #[.int .u64 a0, .int .u64 a2] rfl (by (try simp only [List.map_toArray, List.map_cons, List.map_nil]); first | done | rfl | (simp only [List.length_drop, List.length_take]; rfl)) ?_; (with_reducible refine (word_Shl.calls a0 a2 t148 _ A19.out).mono ?_); rintro e w' ⟨rfl, ⟨nd, rfl⟩⟩; refine ⟨_, rfl, ?_⟩) | (go_at_call 21; (with_reducible refine (word_Shr.calls t148 a2 t152 _ A29.out).mono ?_); rintro e w' ⟨rfl, ⟨nd, rfl⟩⟩) | (go_at_call 21; (with_reducible refine (word_Shr.calls a0 a2 t153 _ A31.out).mono ?_); rintro e w' ⟨rfl, ⟨nd, rfl⟩⟩) | (go_at_call 19; (with_reducible refine (word_Shl.calls t153 a2 t154 _ A32.out).mono ?_); rintro e w' ⟨rfl, ⟨nd, rfl⟩⟩) | (go_at_call 13; (with_reducible refine (word_Add.calls a0 a1 t155 _ A36.out).mono ?_); rintro e w' ⟨rfl, ⟨nd, rfl⟩⟩) | (go_at_call 19; (with_reducible refine (word_Shl.calls a0 a2 t148 _ A19.out).mono ?_); rintro e w' ⟨rfl, ⟨nd, rfl⟩⟩))
                    go_ret
                    exact ⟨by first | rfl | (simp [errW_none, errW_some] <;> rfl) | (simp [*, errW_none, errW_some] <;> rfl), by repeat (first | (with_reducible first | exact HB.out | apply below_alloc | apply pw_below_drewN | apply below_drew1) | exact HB.out)⟩
                  · rw [if_neg c35] at H
                    have c35b0 : (t143 == 0) = false := beq_eq_false_iff_ne.mpr c35
                    have c35b1 : (t143 != 0) = true := bne_iff_ne.mpr c35
                    obtain rfl := Option.some.inj H
                    go_wp2_with (first | ((with_reducible refine gate_callee (f := 19) rfl ?_); refine goesL_ (some 44) rfl rfl Try.func19 (by kernel_rfl) rfl #[.int .u64 a0, .int .u64 a2] rfl (by (try simp only [List.map_toArray, List.map_cons, List.map_nil]); first | done | rfl | (simp only [List.length_drop, List.length_take]; rfl)) ?_; (with_reducible refine (word_Shl.calls a0 a2 t148 _ A19.out).mono ?_); rintro e w' ⟨rfl, ⟨nd, rfl⟩⟩; refine ⟨_, rfl, ?_⟩) | (go_at_call 21; (with_reducible refine (word_Shr.calls t148 a2 t152 _ A29.out).mono ?_); rintro e w' ⟨rfl, ⟨nd, rfl⟩⟩) | (go_at_call 21; (with_reducible refine (word_Shr.calls a0 a2 t153 _ A31.out).mono ?_); rintro e w' ⟨rfl, ⟨nd, rfl⟩⟩) | (go_at_call 19; (with_reducible refine (word_Shl.calls t153 a2 t154 _ A32.out).mono ?_); rintro e w' ⟨rfl, ⟨nd, rfl⟩⟩) | (go_at_call 19; (with_reducible refine (word_Shl.calls a0 a2 t148 _ A19.out).mono ?_); rintro e w' ⟨rfl, ⟨nd, rfl⟩⟩))
                    go_ret
                    exact ⟨by first | rfl | (simp [errW_none, errW_some] <;> rfl) | (simp [*, errW_none, errW_some] <;> rfl), by repeat (first | (with_reducible first | exact HB.out | apply below_alloc | apply pw_below_drewN | apply below_drew1) | exact HB.out)⟩
              · rw [if_neg c33] at H
                have c33b0 : decide (t154 ≤ a0) = false := decide_eq_false c33
                clear c33
                obtain rfl := Option.some.inj H
                go_wp2_with (first | ((with_reducible refine gate_callee (f := 19) rfl ?_); refine goesL_ (some 44) rfl rfl Try.func19 (by kernel_rfl) rfl #[.int .u64 a0, .int .u64 a2] rfl (by (try simp only [List.map_toArray, List.map_cons, List.map_nil]); first | done | rfl | (simp only [List.length_drop, List.length_take]; rfl)) ?_; (with_reducible refine (word_Shl.calls a0 a2 t148 _ A19.out).mono ?_); rintro e w' ⟨rfl, ⟨nd, rfl⟩⟩; refine ⟨_, rfl, ?_⟩) | (go_at_call 21; (with_reducible refine (word_Shr.calls t148 a2 t152 _ A29.out).mono ?_); rintro e w' ⟨rfl, ⟨nd, rfl⟩⟩) | (go_at_call 21; (with_reducible refine (word_Shr.calls a0 a2 t153 _ A31.out).mono ?_); rintro e w' ⟨rfl, ⟨nd, rfl⟩⟩) | (go_at_call 19; (with_reducible refine (word_Shl.calls t153 a2 t154 _ A32.out).mono ?_); rintro e w' ⟨rfl, ⟨nd, rfl⟩⟩) | (go_at_call 19; (with_reducible refine (word_Shl.calls a0 a2 t148 _ A19.out).mono ?_); rintro e w' ⟨rfl, ⟨nd, rfl⟩⟩))
                go_ret
                exact ⟨by first | rfl | (simp [errW_none, errW_some] <;> rfl) | (simp [*, errW_none, errW_some] <;> rfl), by repeat (first | (with_reducible first | exact HB.out | apply below_alloc | apply pw_below_drewN | apply below_drew1) | exact HB.out)⟩
            · rw [if_neg c30] at H
              have c30b0 : (t152 == a0) = false := beq_eq_false_iff_ne.mpr c30
              have c30b1 : (t152 != a0) = true := bne_iff_ne.mpr c30
              obtain rfl := Option.some.inj H
              go_wp2_with (first | ((with_reducible refine gate_callee (f := 19) rfl ?_); refine goesL_ (some 44) rfl rfl Try.func19 (by kernel_rfl) rfl #[.int .u64 a0, .int .u64 a2] rfl (by (try simp only [List.map_toArray, List.map_cons, List.map_nil]); first | done | rfl | (simp only [List.length_drop, List.length_take]; rfl)) ?_; (with_reducible refine (word_Shl.calls a0 a2 t148 _ A19.out).mono ?_); rintro e w' ⟨rfl, ⟨nd, rfl⟩⟩; refine ⟨_, rfl, ?_⟩) | (go_at_call 21; (with_reducible refine (word_Shr.calls t148 a2 t152 _ A29.out).mono ?_); rintro e w' ⟨rfl, ⟨nd, rfl⟩⟩) | (go_at_call 19; (with_reducible refine (word_Shl.calls a0 a2 t148 _ A19.out).mono ?_); rintro e w' ⟨rfl, ⟨nd, rfl⟩⟩))
              go_ret
              exact ⟨by first | rfl | (simp [errW_none, errW_some] <;> rfl) | (simp [*, errW_none, errW_some] <;> rfl), by repeat (first | (with_reducible first | exact HB.out | apply below_alloc | apply pw_below_drewN | apply below_drew1) | exact HB.out)⟩
        · replace c21 := Bool.eq_false_iff.mpr c21
          subst c21
          have H1 : (some false) = some r := by rw [if_neg (show ¬ (false = true) by decide)] at H; exact H
          clear H
          have H := H1
          clear H1
          obtain rfl := Option.some.inj H
          go_wp2_with (first | ((with_reducible refine gate_callee (f := 19) rfl ?_); refine goesL_ (some 44) rfl rfl Try.func19 (by kernel_rfl) rfl #[.int .u64 a0, .int .u64 a2] rfl (by (try simp only [List.map_toArray, List.map_cons, List.map_nil]); first | done | rfl | (simp only [List.length_drop, List.length_take]; rfl)) ?_; (with_reducible refine (word_Shl.calls a0 a2 t148 _ A19.out).mono ?_); rintro e w' ⟨rfl, ⟨nd, rfl⟩⟩; refine ⟨_, rfl, ?_⟩) | (go_at_call 19; (with_reducible refine (word_Shl.calls a0 a2 t148 _ A19.out).mono ?_); rintro e w' ⟨rfl, ⟨nd, rfl⟩⟩))
          go_ret
          exact ⟨by first | rfl | (simp [errW_none, errW_some] <;> rfl) | (simp [*, errW_none, errW_some] <;> rfl), by repeat (first | (with_reducible first | exact HB.out | apply below_alloc | apply pw_below_drewN | apply below_drew1) | exact HB.out)⟩
      · replace c20 := Bool.eq_false_iff.mpr c20
        subst c20
        have H1 : (some false) = some r := by rw [if_neg (show ¬ (false = true) by decide)] at H; exact H
        clear H
        have H := H1
        clear H1
        obtain rfl := Option.some.inj H
        go_wp2_with (first | ((with_reducible refine gate_callee (f := 19) rfl ?_); refine goesL_ (some 44) rfl rfl Try.func19 (by kernel_rfl) rfl #[.int .u64 a0, .int .u64 a2] rfl (by (try simp only [List.map_toArray, List.map_cons, List.map_nil]); first | done | rfl | (simp only [List.length_drop, List.length_take]; rfl)) ?_; (with_reducible refine (word_Shl.calls a0 a2 t148 _ A19.out).mono ?_); rintro e w' ⟨rfl, ⟨nd, rfl⟩⟩; refine ⟨_, rfl, ?_⟩) | (go_at_call 19; (with_reducible refine (word_Shl.calls a0 a2 t148 _ A19.out).mono ?_); rintro e w' ⟨rfl, ⟨nd, rfl⟩⟩))
        go_ret
        exact ⟨by first | rfl | (simp [errW_none, errW_some] <;> rfl) | (simp [*, errW_none, errW_some] <;> rfl), by repeat (first | (with_reducible first | exact HB.out | apply below_alloc | apply pw_below_drewN | apply below_drew1) | exact HB.out)⟩

/-- THE ONE PURE STATEMENT of linhaylaw01_WordBack: yours. -/
def linhaylaw01_WordBack.Pure : Prop := ∀ (a0 : Int) (a1 : Int) (a2 : Int), (Lit.int .u64 a0).wf = true → (Lit.int .u64 a1).wf = true → (Lit.int .u64 a2).wf = true → ∃ k, linhaylaw01_WordBack.f k a0 a1 a2 = some true
theorem linhaylaw01_WordBack.walk (P : linhaylaw01_WordBack.Pure) (a0 : Int) (a1 : Int) (a2 : Int) (w : World) (w0 : (Lit.int .u64 a0).wf = true) (w1 : (Lit.int .u64 a1).wf = true) (w2 : (Lit.int .u64 a2).wf = true) :
    Calls Try.prog 4 #[.int .u64 a0, .int .u64 a1, .int .u64 a2] w fun e w' => e = .returned (.bool true) ∧ Below w.heap.size w w' := by
  obtain ⟨k, h⟩ := P a0 a1 a2 w0 w1 w2
  refine (linhaylaw01_WordBack.calls k a0 a1 a2 true w h).mono ?_
  rintro e w' ⟨rfl, hd⟩
  exact ⟨rfl, hd⟩

end Go.Proofs.Ytkngogjcenmahaa.Print
