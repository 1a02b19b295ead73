/- Lean functions that answer what Go functions of the translation answer, and the proofs of it. Written by a program of this session (wip/tools/seatprint.py), over contracts that it proved by hand. Conditions: those that each theorem says. -/
import Derived.Test.YtnippnpbnmkfbaaPrint0
import Derived.Test.YtnippnpbnmkfbaaPrint5
import Derived.Test.YtnippnpbnmkfbaaPrint7
import Derived.Test.YtnippnpbnmkfbaaPrint8
import Derived.Test.YtnippnpbnmkfbaaPrint12
import Derived.Test.YtnippnpbnmkfbaaPrint13
import Derived.Test.YtnippnpbnmkfbaaPrint14
namespace Go.Proofs.Ytnippnpbnmkfbaa.Print
open Go.RowKit Go.Proofs.YtnippnpbnmkfbaaW.PrintWords Go.Proofs.YtnippnpbnmkfbaaW.PrintLast Go.Proofs.YtnippnpbnmkfbaaW.PrintMore
attribute [local go_sem] max2_int min2_int max_two min_two max_three min_three max_four min_four   -- for this text's walks alone
set_option linter.unusedVariables false
set_option linter.unusedSimpArgs false

/-! ### linhaylaw04_FixedTells: function 3 -/
def linhaylaw04_FixedTells.f (k : Nat) (a0 : Int) (a1 : Int) (a2 : Int) (l3 : List Int) : Option (Bool) := (linhaylaw04_awake.f k).bind fun t212 => (if (l3.length : Int) > 100 then (some t212) else ((fixed_Of.f k a0 a1).bind fun bt213 => ((linhayref04_Of.f k a0 a1).bind fun bt215 => ((fixed_Div.f k a0 a1).bind fun bt217 => ((linhayref04_Div.f k a0 a1).bind fun bt219 => (if t212 = true then (if bt213.1 = bt215.1 then (if bt213.2 = bt215.2 then (if bt217.1 = bt219.1 then (if bt217.2 = bt219.2 then ((fixed_Mul.f k a0 a1).bind fun t221 => ((linhayref04_Mul.f k a0 a1).bind fun t222 => (if t221 = t222 then ((fixed_Whole.f a0).bind fun t223 => ((linhayref04_Whole.f a0).bind fun t224 => (if t223 = t224 then ((fixed_Part.f a0).bind fun t225 => ((linhayref04_Part.f a0).bind fun t226 => (if t225 = t226 then ((fixed_Mix.f k a0 a1 a2).bind fun t227 => ((linhayref04_Mix.f k a0 a1 a2).bind fun t228 => (if t227 = t228 then ((fixed_Sum.f k l3).bind fun t229 => ((linhayref04_Sum.f k l3).bind fun t230 => (some (t229 == t230)))) else (none)))) else (none)))) else (none)))) else (none)))) else (none)) else (none)) else (none)) else (none)) else (none)))))))
theorem linhaylaw04_FixedTells.mono : ∀ a0 a1 a2 a3 k, LeO (linhaylaw04_FixedTells.f k a0 a1 a2 a3) (linhaylaw04_FixedTells.f (k + 1) a0 a1 a2 a3) := by
  intro a0 a1 a2 a3 k
  unfold linhaylaw04_FixedTells.f
  repeat' first
      | (with_reducible exact fixed_Div.mono _ _ _)
      | (with_reducible exact fixed_Mix.mono _ _ _ _)
      | (with_reducible exact fixed_Mul.mono _ _ _)
      | (with_reducible exact fixed_Of.mono _ _ _)
      | (with_reducible exact fixed_Sum.mono _ _)
      | (with_reducible exact linhaylaw04_awake.mono _)
      | (with_reducible exact linhayref04_Div.mono _ _ _)
      | (with_reducible exact linhayref04_Mix.mono _ _ _ _)
      | (with_reducible exact linhayref04_Mul.mono _ _ _)
      | (with_reducible exact linhayref04_Of.mono _ _ _)
      | (with_reducible exact linhayref04_Sum.mono _ _)
      | (with_reducible exact LeO.refl _)
      | (with_reducible exact LeO.none _)
      | (with_reducible refine LeO.ite ?_ ?_)
      | (with_reducible refine LeO.bind ?_ (fun _ => ?_))
      | exact fixed_Div.mono _ _ _
      | exact fixed_Mix.mono _ _ _ _
      | exact fixed_Mul.mono _ _ _
      | exact fixed_Of.mono _ _ _
      | exact fixed_Sum.mono _ _
      | exact linhaylaw04_awake.mono _
      | exact linhayref04_Div.mono _ _ _
      | exact linhayref04_Mix.mono _ _ _ _
      | exact linhayref04_Mul.mono _ _ _
      | exact linhayref04_Of.mono _ _ _
      | exact linhayref04_Sum.mono _ _
      | exact LeO.none _
      | refine LeO.ite ?_ ?_
      | refine LeO.bind ?_ (fun _ => ?_)
set_option maxHeartbeats 8000000 in
set_option maxRecDepth 100000 in
theorem linhaylaw04_FixedTells.calls (k : Nat) (a0 : Int) (a1 : Int) (a2 : Int) (A3 : Option Addr) (c3 : Nat) (l3 : List Int) (r : Bool) (w : World) (hr3 : Kd.C (Kd.int .u64) w A3 l3.length l3) (hc3 : l3.length ≤ c3) (h : linhaylaw04_FixedTells.f k a0 a1 a2 l3 = some r) :
    Calls Try.prog 3 #[.int .u64 a0, .int .u64 a1, .int .u64 a2, .slice A3 l3.length c3] w fun e w' => e = .returned (.bool r) ∧ Below w.heap.size w w' := by
  have HR3 := Aside0.mk hr3
  have HC3 := Aside0.mk hc3
  clear hr3 hc3
  have HB := Aside0.mk (Below.refl w.heap.size w)
  have H : ((linhaylaw04_awake.f k).bind fun t212 => (if (l3.length : Int) > 100 then (some t212) else ((fixed_Of.f k a0 a1).bind fun bt213 => ((linhayref04_Of.f k a0 a1).bind fun bt215 => ((fixed_Div.f k a0 a1).bind fun bt217 => ((linhayref04_Div.f k a0 a1).bind fun bt219 => (if t212 = true then (if bt213.1 = bt215.1 then (if bt213.2 = bt215.2 then (if bt217.1 = bt219.1 then (if bt217.2 = bt219.2 then ((fixed_Mul.f k a0 a1).bind fun t221 => ((linhayref04_Mul.f k a0 a1).bind fun t222 => (if t221 = t222 then ((fixed_Whole.f a0).bind fun t223 => ((linhayref04_Whole.f a0).bind fun t224 => (if t223 = t224 then ((fixed_Part.f a0).bind fun t225 => ((linhayref04_Part.f a0).bind fun t226 => (if t225 = t226 then ((fixed_Mix.f k a0 a1 a2).bind fun t227 => ((linhayref04_Mix.f k a0 a1 a2).bind fun t228 => (if t227 = t228 then ((fixed_Sum.f k l3).bind fun t229 => ((linhayref04_Sum.f k l3).bind fun t230 => (some (t229 == t230)))) else (none)))) else (none)))) else (none)))) else (none)))) else (none)) else (none)) else (none)) else (none)) else (none)))))))) = some r := h
  clear h
  replace H := Option.bind_eq_some_iff.mp H
  obtain ⟨t212, A50, H⟩ := H
  replace H : (if (l3.length : Int) > 100 then (some t212) else ((fixed_Of.f k a0 a1).bind fun bt213 => ((linhayref04_Of.f k a0 a1).bind fun bt215 => ((fixed_Div.f k a0 a1).bind fun bt217 => ((linhayref04_Div.f k a0 a1).bind fun bt219 => (if t212 = true then (if bt213.1 = bt215.1 then (if bt213.2 = bt215.2 then (if bt217.1 = bt219.1 then (if bt217.2 = bt219.2 then ((fixed_Mul.f k a0 a1).bind fun t221 => ((linhayref04_Mul.f k a0 a1).bind fun t222 => (if t221 = t222 then ((fixed_Whole.f a0).bind fun t223 => ((linhayref04_Whole.f a0).bind fun t224 => (if t223 = t224 then ((fixed_Part.f a0).bind fun t225 => ((linhayref04_Part.f a0).bind fun t226 => (if t225 = t226 then ((fixed_Mix.f k a0 a1 a2).bind fun t227 => ((linhayref04_Mix.f k a0 a1 a2).bind fun t228 => (if t227 = t228 then ((fixed_Sum.f k l3).bind fun t229 => ((linhayref04_Sum.f k l3).bind fun t230 => (some (t229 == t230)))) else (none)))) else (none)))) else (none)))) else (none)))) else (none)) else (none)) else (none)) else (none)) else (none))))))) = some r := H
  have A5 := Aside0.mk A50
  clear A50
  by_cases c6 : (l3.length : Int) > 100
  · rw [if_pos c6] at H
    have c6b0 : decide (100 < (l3.length : Int)) = true := decide_eq_true c6
    have c6b1 : decide (100 < l3.length) = true := decide_eq_true (by omega)
    clear c6
    obtain rfl := Option.some.inj H
    go_enter Try.func3, Try.ntmps3
    go_wp2_with (first | ((with_reducible refine gate_callee (f := 9) rfl ?_); refine goesL_ (some 18) rfl rfl Try.func9 (by kernel_rfl) rfl #[] rfl (by (try simp only [List.map_toArray, List.map_cons, List.map_nil]); first | done | rfl | (simp only [List.length_drop, List.length_take]; rfl)) ?_; (with_reducible refine (linhaylaw04_awake.calls k  t212 _ A5.out).mono ?_); rintro e w7 ⟨rfl, hb⟩; refine ⟨_, rfl, ?_⟩; have n0_ := Aside0.mk (below_step (by repeat (first | (with_reducible first | exact HB.out | apply below_alloc | apply pw_below_drewN | apply below_drew1) | exact HB.out)) hb); clear HB; have HB := n0_; clear n0_; (try clear hb); (try clear hb2); (try clear hk); (try clear hi)) | (go_at_call 9; (with_reducible refine (linhaylaw04_awake.calls k  t212 _ A5.out).mono ?_); rintro e w7 ⟨rfl, hb⟩; have n0_ := Aside0.mk (below_step (by repeat (first | (with_reducible first | exact HB.out | apply below_alloc | apply pw_below_drewN | apply below_drew1) | exact HB.out)) hb); clear HB; have HB := n0_; clear n0_; (try clear hb); (try clear hb2); (try clear hk); (try clear hi)))
    go_ret
    exact ⟨by first | rfl | (simp [errW_none, errW_some] <;> rfl) | (simp [*, errW_none, errW_some] <;> rfl), by repeat (first | (with_reducible first | exact HB.out | apply below_alloc | apply pw_below_drewN | apply below_drew1) | exact HB.out)⟩
  · rw [if_neg c6] at H
    have c6b0 : decide (100 < (l3.length : Int)) = false := decide_eq_false c6
    have c6b1 : decide (100 < l3.length) = false := decide_eq_false (by omega)
    clear c6
    replace H := Option.bind_eq_some_iff.mp H
    obtain ⟨⟨t213, t214⟩, A80, H⟩ := H
    replace H : ((linhayref04_Of.f k a0 a1).bind fun bt215 => ((fixed_Div.f k a0 a1).bind fun bt217 => ((linhayref04_Div.f k a0 a1).bind fun bt219 => (if t212 = true then (if t213 = bt215.1 then (if t214 = bt215.2 then (if bt217.1 = bt219.1 then (if bt217.2 = bt219.2 then ((fixed_Mul.f k a0 a1).bind fun t221 => ((linhayref04_Mul.f k a0 a1).bind fun t222 => (if t221 = t222 then ((fixed_Whole.f a0).bind fun t223 => ((linhayref04_Whole.f a0).bind fun t224 => (if t223 = t224 then ((fixed_Part.f a0).bind fun t225 => ((linhayref04_Part.f a0).bind fun t226 => (if t225 = t226 then ((fixed_Mix.f k a0 a1 a2).bind fun t227 => ((linhayref04_Mix.f k a0 a1 a2).bind fun t228 => (if t227 = t228 then ((fixed_Sum.f k l3).bind fun t229 => ((linhayref04_Sum.f k l3).bind fun t230 => (some (t229 == t230)))) else (none)))) else (none)))) else (none)))) else (none)))) else (none)) else (none)) else (none)) else (none)) else (none))))) = some r := H
    have A8 := Aside0.mk A80
    clear A80
    replace H := Option.bind_eq_some_iff.mp H
    obtain ⟨⟨t215, t216⟩, A90, H⟩ := H
    replace H : ((fixed_Div.f k a0 a1).bind fun bt217 => ((linhayref04_Div.f k a0 a1).bind fun bt219 => (if t212 = true then (if t213 = t215 then (if t214 = t216 then (if bt217.1 = bt219.1 then (if bt217.2 = bt219.2 then ((fixed_Mul.f k a0 a1).bind fun t221 => ((linhayref04_Mul.f k a0 a1).bind fun t222 => (if t221 = t222 then ((fixed_Whole.f a0).bind fun t223 => ((linhayref04_Whole.f a0).bind fun t224 => (if t223 = t224 then ((fixed_Part.f a0).bind fun t225 => ((linhayref04_Part.f a0).bind fun t226 => (if t225 = t226 then ((fixed_Mix.f k a0 a1 a2).bind fun t227 => ((linhayref04_Mix.f k a0 a1 a2).bind fun t228 => (if t227 = t228 then ((fixed_Sum.f k l3).bind fun t229 => ((linhayref04_Sum.f k l3).bind fun t230 => (some (t229 == t230)))) else (none)))) else (none)))) else (none)))) else (none)))) else (none)) else (none)) else (none)) else (none)) else (none)))) = some r := H
    have A9 := Aside0.mk A90
    clear A90
    replace H := Option.bind_eq_some_iff.mp H
    obtain ⟨⟨t217, t218⟩, A100, H⟩ := H
    replace H : ((linhayref04_Div.f k a0 a1).bind fun bt219 => (if t212 = true then (if t213 = t215 then (if t214 = t216 then (if t217 = bt219.1 then (if t218 = bt219.2 then ((fixed_Mul.f k a0 a1).bind fun t221 => ((linhayref04_Mul.f k a0 a1).bind fun t222 => (if t221 = t222 then ((fixed_Whole.f a0).bind fun t223 => ((linhayref04_Whole.f a0).bind fun t224 => (if t223 = t224 then ((fixed_Part.f a0).bind fun t225 => ((linhayref04_Part.f a0).bind fun t226 => (if t225 = t226 then ((fixed_Mix.f k a0 a1 a2).bind fun t227 => ((linhayref04_Mix.f k a0 a1 a2).bind fun t228 => (if t227 = t228 then ((fixed_Sum.f k l3).bind fun t229 => ((linhayref04_Sum.f k l3).bind fun t230 => (some (t229 == t230)))) else (none)))) else (none)))) else (none)))) else (none)))) else (none)) else (none)) else (none)) else (none)) else (none))) = some r := H
    have A10 := Aside0.mk A100
    clear A100
    replace H := Option.bind_eq_some_iff.mp H
    obtain ⟨⟨t219, t220⟩, A110, H⟩ := H
    replace H : (if t212 = true then (if t213 = t215 then (if t214 = t216 then (if t217 = t219 then (if t218 = t220 then ((fixed_Mul.f k a0 a1).bind fun t221 => ((linhayref04_Mul.f k a0 a1).bind fun t222 => (if t221 = t222 then ((fixed_Whole.f a0).bind fun t223 => ((linhayref04_Whole.f a0).bind fun t224 => (if t223 = t224 then ((fixed_Part.f a0).bind fun t225 => ((linhayref04_Part.f a0).bind fun t226 => (if t225 = t226 then ((fixed_Mix.f k a0 a1 a2).bind fun t227 => ((linhayref04_Mix.f k a0 a1 a2).bind fun t228 => (if t227 = t228 then ((fixed_Sum.f k l3).bind fun t229 => ((linhayref04_Sum.f k l3).bind fun t230 => (some (t229 == t230)))) else (none)))) else (none)))) else (none)))) else (none)))) else (none)) else (none)) else (none)) else (none)) else (none)) = some r := H
    have A11 := Aside0.mk A110
    clear A110
    by_cases c12 : t212 = true
    · subst c12
      have H1 : (if t213 = t215 then (if t214 = t216 then (if t217 = t219 then (if t218 = t220 then ((fixed_Mul.f k a0 a1).bind fun t221 => ((linhayref04_Mul.f k a0 a1).bind fun t222 => (if t221 = t222 then ((fixed_Whole.f a0).bind fun t223 => ((linhayref04_Whole.f a0).bind fun t224 => (if t223 = t224 then ((fixed_Part.f a0).bind fun t225 => ((linhayref04_Part.f a0).bind fun t226 => (if t225 = t226 then ((fixed_Mix.f k a0 a1 a2).bind fun t227 => ((linhayref04_Mix.f k a0 a1 a2).bind fun t228 => (if t227 = t228 then ((fixed_Sum.f k l3).bind fun t229 => ((linhayref04_Sum.f k l3).bind fun t230 => (some (t229 == t230)))) else (none)))) else (none)))) else (none)))) else (none)))) else (none)) else (none)) else (none)) else (none)) = some r := by rw [if_pos rfl] at H; exact H
      clear H
      have H := H1
      clear H1
      by_cases c13 : t213 = t215
      · rw [if_pos c13] at H
        have c13b0 : (t213 == t215) = true := beq_iff_eq.mpr c13
        have c13b1 : (t213 != t215) = false := bne_eq_false_iff_eq.mpr c13
        clear c13
        by_cases c14 : t214 = t216
        · rw [if_pos c14] at H
          have c14b0 : (t214 == t216) = true := beq_iff_eq.mpr c14
          have c14b1 : (t214 != t216) = false := bne_eq_false_iff_eq.mpr c14
          clear c14
          by_cases c15 : t217 = t219
          · rw [if_pos c15] at H
            have c15b0 : (t217 == t219) = true := beq_iff_eq.mpr c15
            have c15b1 : (t217 != t219) = false := bne_eq_false_iff_eq.mpr c15
            clear c15
            by_cases c16 : t218 = t220
            · rw [if_pos c16] at H
              have c16b0 : (t218 == t220) = true := beq_iff_eq.mpr c16
              have c16b1 : (t218 != t220) = false := bne_eq_false_iff_eq.mpr c16
              clear c16
              replace H := Option.bind_eq_some_iff.mp H
              obtain ⟨t221, A170, H⟩ := H
              replace H : ((linhayref04_Mul.f k a0 a1).bind fun t222 => (if t221 = t222 then ((fixed_Whole.f a0).bind fun t223 => ((linhayref04_Whole.f a0).bind fun t224 => (if t223 = t224 then ((fixed_Part.f a0).bind fun t225 => ((linhayref04_Part.f a0).bind fun t226 => (if t225 = t226 then ((fixed_Mix.f k a0 a1 a2).bind fun t227 => ((linhayref04_Mix.f k a0 a1 a2).bind fun t228 => (if t227 = t228 then ((fixed_Sum.f k l3).bind fun t229 => ((linhayref04_Sum.f k l3).bind fun t230 => (some (t229 == t230)))) else (none)))) else (none)))) else (none)))) else (none))) = some r := H
              have A17 := Aside0.mk A170
              clear A170
              replace H := Option.bind_eq_some_iff.mp H
              obtain ⟨t222, A180, H⟩ := H
              replace H : (if t221 = t222 then ((fixed_Whole.f a0).bind fun t223 => ((linhayref04_Whole.f a0).bind fun t224 => (if t223 = t224 then ((fixed_Part.f a0).bind fun t225 => ((linhayref04_Part.f a0).bind fun t226 => (if t225 = t226 then ((fixed_Mix.f k a0 a1 a2).bind fun t227 => ((linhayref04_Mix.f k a0 a1 a2).bind fun t228 => (if t227 = t228 then ((fixed_Sum.f k l3).bind fun t229 => ((linhayref04_Sum.f k l3).bind fun t230 => (some (t229 == t230)))) else (none)))) else (none)))) else (none)))) else (none)) = some r := H
              have A18 := Aside0.mk A180
              clear A180
              by_cases c19 : t221 = t222
              · rw [if_pos c19] at H
                have c19b0 : (t221 == t222) = true := beq_iff_eq.mpr c19
                have c19b1 : (t221 != t222) = false := bne_eq_false_iff_eq.mpr c19
                clear c19
                replace H := Option.bind_eq_some_iff.mp H
                obtain ⟨t223, A200, H⟩ := H
                replace H : ((linhayref04_Whole.f a0).bind fun t224 => (if t223 = t224 then ((fixed_Part.f a0).bind fun t225 => ((linhayref04_Part.f a0).bind fun t226 => (if t225 = t226 then ((fixed_Mix.f k a0 a1 a2).bind fun t227 => ((linhayref04_Mix.f k a0 a1 a2).bind fun t228 => (if t227 = t228 then ((fixed_Sum.f k l3).bind fun t229 => ((linhayref04_Sum.f k l3).bind fun t230 => (some (t229 == t230)))) else (none)))) else (none)))) else (none))) = some r := H
                have A20 := Aside0.mk A200
                clear A200
                replace H := Option.bind_eq_some_iff.mp H
                obtain ⟨t224, A210, H⟩ := H
                replace H : (if t223 = t224 then ((fixed_Part.f a0).bind fun t225 => ((linhayref04_Part.f a0).bind fun t226 => (if t225 = t226 then ((fixed_Mix.f k a0 a1 a2).bind fun t227 => ((linhayref04_Mix.f k a0 a1 a2).bind fun t228 => (if t227 = t228 then ((fixed_Sum.f k l3).bind fun t229 => ((linhayref04_Sum.f k l3).bind fun t230 => (some (t229 == t230)))) else (none)))) else (none)))) else (none)) = some r := H
                have A21 := Aside0.mk A210
                clear A210
                by_cases c22 : t223 = t224
                · rw [if_pos c22] at H
                  have c22b0 : (t223 == t224) = true := beq_iff_eq.mpr c22
                  have c22b1 : (t223 != t224) = false := bne_eq_false_iff_eq.mpr c22
                  clear c22
                  replace H := Option.bind_eq_some_iff.mp H
                  obtain ⟨t225, A230, H⟩ := H
                  replace H : ((linhayref04_Part.f a0).bind fun t226 => (if t225 = t226 then ((fixed_Mix.f k a0 a1 a2).bind fun t227 => ((linhayref04_Mix.f k a0 a1 a2).bind fun t228 => (if t227 = t228 then ((fixed_Sum.f k l3).bind fun t229 => ((linhayref04_Sum.f k l3).bind fun t230 => (some (t229 == t230)))) else (none)))) else (none))) = some r := H
                  have A23 := Aside0.mk A230
                  clear A230
                  replace H := Option.bind_eq_some_iff.mp H
                  obtain ⟨t226, A240, H⟩ := H
                  replace H : (if t225 = t226 then ((fixed_Mix.f k a0 a1 a2).bind fun t227 => ((linhayref04_Mix.f k a0 a1 a2).bind fun t228 => (if t227 = t228 then ((fixed_Sum.f k l3).bind fun t229 => ((linhayref04_Sum.f k l3).bind fun t230 => (some (t229 == t230)))) else (none)))) else (none)) = some r := H
                  have A24 := Aside0.mk A240
                  clear A240
                  by_cases c25 : t225 = t226
                  · rw [if_pos c25] at H
                    have c25b0 : (t225 == t226) = true := beq_iff_eq.mpr c25
                    have c25b1 : (t225 != t226) = false := bne_eq_false_iff_eq.mpr c25
                    clear c25
                    replace H := Option.bind_eq_some_iff.mp H
                    obtain ⟨t227, A260, H⟩ := H
                    replace H : ((linhayref04_Mix.f k a0 a1 a2).bind fun t228 => (if t227 = t228 then ((fixed_Sum.f k l3).bind fun t229 => ((linhayref04_Sum.f k l3).bind fun t230 => (some (t229 == t230)))) else (none))) = some r := H
                    have A26 := Aside0.mk A260
                    clear A260
                    replace H := Option.bind_eq_some_iff.mp H
                    obtain ⟨t228, A270, H⟩ := H
                    replace H : (if t227 = t228 then ((fixed_Sum.f k l3).bind fun t229 => ((linhayref04_Sum.f k l3).bind fun t230 => (some (t229 == t230)))) else (none)) = some r := H
                    have A27 := Aside0.mk A270
                    clear A270
                    by_cases c28 : t227 = t228
                    · rw [if_pos c28] at H
                      have c28b0 : (t227 == t228) = true := beq_iff_eq.mpr c28
                      have c28b1 : (t227 != t228) = false := bne_eq_false_iff_eq.mpr c28
                      clear c28
                      replace H := Option.bind_eq_some_iff.mp H
                      obtain ⟨t229, A290, H⟩ := H
                      replace H : ((linhayref04_Sum.f k l3).bind fun t230 => (some (t229 == t230))) = some r := H
                      have A29 := Aside0.mk A290
                      clear A290
                      replace H := Option.bind_eq_some_iff.mp H
                      obtain ⟨t230, A300, H⟩ := H
                      replace H : (some (t229 == t230)) = some r := H
                      have A30 := Aside0.mk A300
                      clear A300
                      obtain rfl := Option.some.inj H
                      go_enter Try.func3, Try.ntmps3
                      go_wp2_with (first | ((with_reducible refine gate_callee (f := 9) rfl ?_); refine goesL_ (some 18) rfl rfl Try.func9 (by kernel_rfl) rfl #[] rfl (by (try simp only [List.map_toArray, List.map_cons, List.map_nil]); first | done | rfl | (simp only [List.length_drop, List.length_take]; rfl)) ?_; (with_reducible refine (linhaylaw04_awake.calls k  true _ A5.out).mono ?_); rintro e w31 ⟨rfl, hb⟩; refine ⟨_, rfl, ?_⟩; have n0_ := Aside0.mk (below_step (by repeat (first | (with_reducible first | exact HB.out | apply below_alloc | apply pw_below_drewN | apply below_drew1) | exact HB.out)) hb); clear HB; have HB := n0_; clear n0_; (try clear hb); (try clear hb2); (try clear hk); (try clear hi)) | ((with_reducible refine gate_callee (f := 10) rfl ?_); refine goesL_ (some 26) rfl rfl Try.func10 (by kernel_rfl) rfl #[.int .u64 a0, .int .u64 a1] rfl (by (try simp only [List.map_toArray, List.map_cons, List.map_nil]); first | done | rfl | (simp only [List.length_drop, List.length_take]; rfl)) ?_; (with_reducible refine (fixed_Of.calls k a0 a1 t213 t214 _ A8.out).mono ?_); rintro e w32 ⟨rfl, hb⟩; refine ⟨_, rfl, ?_⟩; have n0_ := Aside0.mk (below_step (by repeat (first | (with_reducible first | exact HB.out | apply below_alloc | apply pw_below_drewN | apply below_drew1) | exact HB.out)) hb); clear HB; have HB := n0_; clear n0_; (try clear hb); (try clear hb2); (try clear hk); (try clear hi)) | ((with_reducible refine gate_callee (f := 11) rfl ?_); refine goesL_ (some 32) rfl rfl Try.func11 (by kernel_rfl) rfl #[.int .u64 a0, .int .u64 a1] rfl (by (try simp only [List.map_toArray, List.map_cons, List.map_nil]); first | done | rfl | (simp only [List.length_drop, List.length_take]; rfl)) ?_; (with_reducible refine (linhayref04_Of.calls k a0 a1 t215 t216 _ A9.out).mono ?_); rintro e w33 ⟨rfl, hb⟩; refine ⟨_, rfl, ?_⟩; have n0_ := Aside0.mk (below_step (by repeat (first | (with_reducible first | exact HB.out | apply below_alloc | apply pw_below_drewN | apply below_drew1) | exact HB.out)) hb); clear HB; have HB := n0_; clear n0_; (try clear hb); (try clear hb2); (try clear hk); (try clear hi)) | ((with_reducible refine gate_callee (f := 12) rfl ?_); refine goesL_ (some 38) rfl rfl Try.func12 (by kernel_rfl) rfl #[.int .u64 a0, .int .u64 a1] rfl (by (try simp only [List.map_toArray, List.map_cons, List.map_nil]); first | done | rfl | (simp only [List.length_drop, List.length_take]; rfl)) ?_; (with_reducible refine (fixed_Div.calls k a0 a1 t217 t218 _ A10.out).mono ?_); rintro e w34 ⟨rfl, hb⟩; refine ⟨_, rfl, ?_⟩; have n0_ := Aside0.mk (below_step (by repeat (first | (with_reducible first | exact HB.out | apply below_alloc | apply pw_below_drewN | apply below_drew1) | exact HB.out)) hb); clear HB; have HB := n0_; clear n0_; (try clear hb); (try clear hb2); (try clear hk); (try clear hi)) | ((with_reducible refine gate_callee (f := 13) rfl ?_); refine goesL_ (some 44) rfl rfl Try.func13 (by kernel_rfl) rfl #[.int .u64 a0, .int .u64 a1] rfl (by (try simp only [List.map_toArray, List.map_cons, List.map_nil]); first | done | rfl | (simp only [List.length_drop, List.length_take]; rfl)) ?_; (with_reducible refine (linhayref04_Div.calls k a0 a1 t219 t220 _ A11.out).mono ?_); rintro e w35 ⟨rfl, hb⟩; refine ⟨_, rfl, ?_⟩; have n0_ := Aside0.mk (below_step (by repeat (first | (with_reducible first | exact HB.out | apply below_alloc | apply pw_below_drewN | apply below_drew1) | exact HB.out)) hb); clear HB; have HB := n0_; clear n0_; (try clear hb); (try clear hb2); (try clear hk); (try clear hi)) | (go_at_call 14; (with_reducible refine (fixed_Mul.calls k a0 a1 t221 _ A17.out).mono ?_); rintro e w36 ⟨rfl, hb⟩; have n0_ := Aside0.mk (below_step (by repeat (first | (with_reducible first | exact HB.out | apply below_alloc | apply pw_below_drewN | apply below_drew1) | exact HB.out)) hb); clear HB; have HB := n0_; clear n0_; (try clear hb); (try clear hb2); (try clear hk); (try clear hi)) | (go_at_call 15; (with_reducible refine (linhayref04_Mul.calls k a0 a1 t222 _ A18.out).mono ?_); rintro e w37 ⟨rfl, hb⟩; have n0_ := Aside0.mk (below_step (by repeat (first | (with_reducible first | exact HB.out | apply below_alloc | apply pw_below_drewN | apply below_drew1) | exact HB.out)) hb); clear HB; have HB := n0_; clear n0_; (try clear hb); (try clear hb2); (try clear hk); (try clear hi)) | (go_at_call 16; (with_reducible refine (fixed_Whole.calls a0 t223 _ A20.out).mono ?_); rintro e w' ⟨rfl, ⟨nd, rfl⟩⟩) | (go_at_call 17; (with_reducible refine (linhayref04_Whole.calls a0 t224 _ A21.out).mono ?_); rintro e w' ⟨rfl, ⟨nd, rfl⟩⟩) | (go_at_call 18; (with_reducible refine (fixed_Part.calls a0 t225 _ A23.out).mono ?_); rintro e w' ⟨rfl, ⟨nd, rfl⟩⟩) | (go_at_call 19; (with_reducible refine (linhayref04_Part.calls a0 t226 _ A24.out).mono ?_); rintro e w' ⟨rfl, ⟨nd, rfl⟩⟩) | (go_at_call 20; (with_reducible refine (fixed_Mix.calls k a0 a1 a2 t227 _ A26.out).mono ?_); rintro e w38 ⟨rfl, hb⟩; have n0_ := Aside0.mk (below_step (by repeat (first | (with_reducible first | exact HB.out | apply below_alloc | apply pw_below_drewN | apply below_drew1) | exact HB.out)) hb); clear HB; have HB := n0_; clear n0_; (try clear hb); (try clear hb2); (try clear hk); (try clear hi)) | (go_at_call 21; (with_reducible refine (linhayref04_Mix.calls k a0 a1 a2 t228 _ A27.out).mono ?_); rintro e w39 ⟨rfl, hb⟩; have n0_ := Aside0.mk (below_step (by repeat (first | (with_reducible first | exact HB.out | apply below_alloc | apply pw_below_drewN | apply below_drew1) | exact HB.out)) hb); clear HB; have HB := n0_; clear n0_; (try clear hb); (try clear hb2); (try clear hk); (try clear hi)) | (go_at_call 22; (with_reducible refine (fixed_Sum.calls k _ _ l3 t229 _ ?side1 ?side2 A29.out).mono ?_); (case side1 => repeat (first | exact (Kd.C_below HR3.out HB.out) | (with_reducible refine Kd.C_alloc ?_ _) | (with_reducible refine Kd.C_drewN ?_ _) | (with_reducible refine Kd.C_drew ?_))); (case side2 => exact HC3.out); rintro e w' ⟨rfl, ⟨nd, rfl⟩⟩) | (go_at_call 23; (with_reducible refine (linhayref04_Sum.calls k _ _ l3 t230 _ ?side1 ?side2 A30.out).mono ?_); (case side1 => repeat (first | exact (Kd.C_below HR3.out (by repeat (first | (with_reducible first | exact HB.out | apply below_alloc | apply pw_below_drewN | apply below_drew1) | exact HB.out))) | (with_reducible refine Kd.C_alloc ?_ _) | (with_reducible refine Kd.C_drewN ?_ _) | (with_reducible refine Kd.C_drew ?_))); (case side2 => exact HC3.out); rintro e w' ⟨rfl, ⟨nd, rfl⟩⟩) | (go_at_call 9; (with_reducible refine (linhaylaw04_awake.calls k  true _ A5.out).mono ?_); rintro e w31 ⟨rfl, hb⟩; have n0_ := Aside0.mk (below_step (by repeat (first | (with_reducible first | exact HB.out | apply below_alloc | apply pw_below_drewN | apply below_drew1) | exact HB.out)) hb); clear HB; have HB := n0_; clear n0_; (try clear hb); (try clear hb2); (try clear hk); (try clear hi)) | (go_at_call 10; (with_reducible refine (fixed_Of.calls k a0 a1 t213 t214 _ A8.out).mono ?_); rintro e w32 ⟨rfl, hb⟩; have n0_ := Aside0.mk (below_step (by repeat (first | (with_reducible first | exact HB.out | apply below_alloc | apply pw_below_drewN | apply below_drew1) | exact HB.out)) hb); clear HB; have HB := n0_; clear n0_; (try clear hb); (try clear hb2); (try clear hk); (try clear hi)) | (go_at_call 11; (with_reducible refine (linhayref04_Of.calls k a0 a1 t215 t216 _ A9.out).mono ?_); rintro e w33 ⟨rfl, hb⟩; have n0_ := Aside0.mk (below_step (by repeat (first | (with_reducible first | exact HB.out | apply below_alloc | apply pw_below_drewN | apply below_drew1) | exact HB.out)) hb); clear HB; have HB := n0_; clear n0_; (try clear hb); (try clear hb2); (try clear hk); (try clear hi)) | (go_at_call 12; (with_reducible refine (fixed_Div.calls k a0 a1 t217 t218 _ A10.out).mono ?_); rintro e w34 ⟨rfl, hb⟩; have n0_ := Aside0.mk (below_step (by repeat (first | (with_reducible first | exact HB.out | apply below_alloc | apply pw_below_drewN | apply below_drew1) | exact HB.out)) hb); clear HB; have HB := n0_; clear n0_; (try clear hb); (try clear hb2); (try clear hk); (try clear hi)) | (go_at_call 13; (with_reducible refine (linhayref04_Div.calls k a0 a1 t219 t220 _ A11.out).mono ?_); rintro e w35 ⟨rfl, hb⟩; have n0_ := Aside0.mk (below_step (by repeat (first | (with_reducible first | exact HB.out | apply below_alloc | apply pw_below_drewN | apply below_drew1) | exact HB.out)) hb); clear HB; have HB := n0_; clear n0_; (try clear hb); (try clear hb2); (try clear hk); (try clear hi)))
                      go_ret
                      exact ⟨by first | rfl | (simp [errW_none, errW_some] <;> rfl) | (simp [*, errW_none, errW_some] <;> rfl), by repeat (first | (with_reducible first | exact HB.out | apply below_alloc | apply pw_below_drewN | apply below_drew1) | exact HB.out)⟩
                    · rw [if_neg c28] at H
                      exact absurd H (by simp)
                  · rw [if_neg c25] at H
                    exact absurd H (by simp)
                · rw [if_neg c22] at H
                  exact absurd H (by simp)
              · rw [if_neg c19] at H
                exact absurd H (by simp)
            · rw [if_neg c16] at H
              exact absurd H (by simp)
          · rw [if_neg c15] at H
            exact absurd H (by simp)
        · rw [if_neg c14] at H
          exact absurd H (by simp)
      · rw [if_neg c13] at H
        exact absurd H (by simp)
    · replace c12 := Bool.eq_false_iff.mpr c12
      subst c12
      have H1 : (none) = some r := by rw [if_neg (show ¬ (false = true) by decide)] at H; exact H
      clear H
      have H := H1
      clear H1
      exact absurd H (by simp)

/-- THE ONE PURE STATEMENT of linhaylaw04_FixedTells: yours. -/
def linhaylaw04_FixedTells.Pure : Prop := ∀ (a0 : Int) (a1 : Int) (a2 : Int) (l3 : List Int), (Lit.int .u64 a0).wf = true → (Lit.int .u64 a1).wf = true → (Lit.int .u64 a2).wf = true → l3.length ≤ maxLen → l3.length * 8 ≤ 140737488351232 → (∀ x ∈ l3, (Lit.int .u64 x).wf = true) → ∃ k, linhaylaw04_FixedTells.f k a0 a1 a2 l3 = some true
theorem linhaylaw04_FixedTells.walk (P : linhaylaw04_FixedTells.Pure) (a0 : Int) (a1 : Int) (a2 : Int) (a3 : Option Addr) (len3 cap3 : Nat) (z3 : List Int) (w : World) (w0 : (Lit.int .u64 a0).wf = true) (w1 : (Lit.int .u64 a1).wf = true) (w2 : (Lit.int .u64 a2).wf = true) (w3 : (a3 = none ∧ len3 = 0 ∧ cap3 = 0 ∧ z3 = []) ∨ ∃ x, a3 = some x ∧ len3 ≤ cap3 ∧ cap3 ≤ maxLen ∧ z3.length = cap3 ∧ (∀ i, i < z3.length → w.cell? (x.add i) = some (.int .u64 (z3.getD i 0))) ∧ ∀ n ∈ z3, (Lit.int .u64 n).wf = true) (y3 : len3 * 8 ≤ 140737488351232) :
    Calls Try.prog 3 #[.int .u64 a0, .int .u64 a1, .int .u64 a2, .slice a3 len3 cap3] w fun e w' => e = .returned (.bool true) ∧ Below w.heap.size w w' := by
  obtain ⟨l3, rfl, hr3, hm3, hw3, hc3⟩ := ReadsInt.ofRowC w3
  obtain ⟨k, h⟩ := P a0 a1 a2 l3 w0 w1 w2 hm3 y3 hw3
  refine (linhaylaw04_FixedTells.calls k a0 a1 a2 _ _ l3 true w (Kd.C_of_reads (d := (0 : Int)) (h1 := fun _ => rfl) hr3) hc3 h).mono ?_
  rintro e w' ⟨rfl, hd⟩
  exact ⟨rfl, hd⟩

end Go.Proofs.Ytnippnpbnmkfbaa.Print
