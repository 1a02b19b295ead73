/- Lean functions that answer what Go functions of the translation answer, and the proofs of it. Written by a program of this session (wip/tools/seatprint.py), over contracts that it proved by hand. Conditions: those that each theorem says. -/
import Derived.Test.YtnippnpbnmkfbaaPrint0
import Derived.Test.YtnippnpbnmkfbaaPrint5
import Derived.Test.YtnippnpbnmkfbaaPrint7
namespace Go.Proofs.Ytnippnpbnmkfbaa.Print
open Go.RowKit Go.Proofs.YtnippnpbnmkfbaaW.PrintWords Go.Proofs.YtnippnpbnmkfbaaW.PrintLast Go.Proofs.YtnippnpbnmkfbaaW.PrintMore
attribute [local go_sem] max2_int min2_int max_two min_two max_three min_three max_four min_four   -- for this text's walks alone
set_option linter.unusedVariables false
set_option linter.unusedSimpArgs false

/-! ### linhaylaw04_awake: function 9 -/
def linhaylaw04_awake.f (k : Nat)  : Option (Bool) := (fixed_Of.f k 3 2).bind fun bt154 => ((fixed_Of.f k 4294967296 1).bind fun bt156 => ((fixed_Div.f k 5 0).bind fun bt158 => ((fixed_Mul.f k bt154.1 bt154.1).bind fun t160 => ((fixed_Div.f k t160 bt154.1).bind fun bt161 => (if bt154.1 = 6442450944 then (if bt154.2 = 0 then (if bt156.2 = 10 then (if bt158.2 = 20 then ((fixed_Mul.f k bt154.1 bt154.1).bind fun t163 => (if t163 = 9663676416 then (if bt161.1 = bt154.1 then (if bt161.2 = 0 then ((fixed_Mul.f k 9223372036854775808 9223372036854775808).bind fun t164 => (if t164 = 18446744073709551615 then ((fixed_Whole.f 9663676416).bind fun t165 => (if t165 = 2 then ((fixed_Part.f 9663676416).bind fun t166 => (if t166 = 1073741824 then ((fixed_Mix.f k 0 4294967296 1073741824).bind fun t167 => (if t167 = 1073741824 then ((fixed_Mix.f k 7 9 1099511627776).bind fun t168 => (if t168 = 9 then ((fixed_Sum.f k (([9223372036854775808, 9223372036854775808, 1] : List Int))).bind fun t172 => (if t172 = 18446744073709551615 then ((fixed_Sum.f k ([] : List Int)).bind fun t173 => (if t173 = 0 then (some true) else (none))) else (none))) else (none))) else (none))) else (none))) else (none))) else (none))) else (none)) else (none)) else (none))) else (none)) else (none)) else (none)) else (none))))))
theorem linhaylaw04_awake.mono : ∀ k, LeO (linhaylaw04_awake.f k ) (linhaylaw04_awake.f (k + 1) ) := by
  intro  k
  unfold linhaylaw04_awake.f
  repeat' first
      | (with_reducible exact fixed_Div.mono _ _ _)
      | (with_reducible exact fixed_Mix.mono _ _ _ _)
      | (with_reducible exact fixed_Mul.mono _ _ _)
      | (with_reducible exact fixed_Of.mono _ _ _)
      | (with_reducible exact fixed_Sum.mono _ _)
      | (with_reducible exact LeO.refl _)
      | (with_reducible exact LeO.none _)
      | (with_reducible refine LeO.ite ?_ ?_)
      | (with_reducible refine LeO.bind ?_ (fun _ => ?_))
      | exact fixed_Div.mono _ _ _
      | exact fixed_Mix.mono _ _ _ _
      | exact fixed_Mul.mono _ _ _
      | exact fixed_Of.mono _ _ _
      | exact fixed_Sum.mono _ _
      | exact LeO.none _
      | refine LeO.ite ?_ ?_
      | refine LeO.bind ?_ (fun _ => ?_)
set_option maxHeartbeats 8000000 in
set_option maxRecDepth 100000 in
theorem linhaylaw04_awake.calls (k : Nat)  (r : Bool) (w : World) (h : linhaylaw04_awake.f k  = some r) :
    Calls Try.prog 9 #[] w fun e w' => e = .returned (.bool r) ∧ Below w.heap.size w w' := by
  have HB := Aside0.mk (Below.refl w.heap.size w)
  have H : ((fixed_Of.f k 3 2).bind fun bt154 => ((fixed_Of.f k 4294967296 1).bind fun bt156 => ((fixed_Div.f k 5 0).bind fun bt158 => ((fixed_Mul.f k bt154.1 bt154.1).bind fun t160 => ((fixed_Div.f k t160 bt154.1).bind fun bt161 => (if bt154.1 = 6442450944 then (if bt154.2 = 0 then (if bt156.2 = 10 then (if bt158.2 = 20 then ((fixed_Mul.f k bt154.1 bt154.1).bind fun t163 => (if t163 = 9663676416 then (if bt161.1 = bt154.1 then (if bt161.2 = 0 then ((fixed_Mul.f k 9223372036854775808 9223372036854775808).bind fun t164 => (if t164 = 18446744073709551615 then ((fixed_Whole.f 9663676416).bind fun t165 => (if t165 = 2 then ((fixed_Part.f 9663676416).bind fun t166 => (if t166 = 1073741824 then ((fixed_Mix.f k 0 4294967296 1073741824).bind fun t167 => (if t167 = 1073741824 then ((fixed_Mix.f k 7 9 1099511627776).bind fun t168 => (if t168 = 9 then ((fixed_Sum.f k (([9223372036854775808, 9223372036854775808, 1] : List Int))).bind fun t172 => (if t172 = 18446744073709551615 then ((fixed_Sum.f k ([] : List Int)).bind fun t173 => (if t173 = 0 then (some true) else (none))) else (none))) else (none))) else (none))) else (none))) else (none))) else (none))) else (none)) else (none)) else (none))) else (none)) else (none)) else (none)) else (none))))))) = some r := h
  clear h
  replace H := Option.bind_eq_some_iff.mp H
  obtain ⟨⟨t154, t155⟩, A10, H⟩ := H
  replace H : ((fixed_Of.f k 4294967296 1).bind fun bt156 => ((fixed_Div.f k 5 0).bind fun bt158 => ((fixed_Mul.f k t154 t154).bind fun t160 => ((fixed_Div.f k t160 t154).bind fun bt161 => (if t154 = 6442450944 then (if t155 = 0 then (if bt156.2 = 10 then (if bt158.2 = 20 then ((fixed_Mul.f k t154 t154).bind fun t163 => (if t163 = 9663676416 then (if bt161.1 = t154 then (if bt161.2 = 0 then ((fixed_Mul.f k 9223372036854775808 9223372036854775808).bind fun t164 => (if t164 = 18446744073709551615 then ((fixed_Whole.f 9663676416).bind fun t165 => (if t165 = 2 then ((fixed_Part.f 9663676416).bind fun t166 => (if t166 = 1073741824 then ((fixed_Mix.f k 0 4294967296 1073741824).bind fun t167 => (if t167 = 1073741824 then ((fixed_Mix.f k 7 9 1099511627776).bind fun t168 => (if t168 = 9 then ((fixed_Sum.f k (([9223372036854775808, 9223372036854775808, 1] : List Int))).bind fun t172 => (if t172 = 18446744073709551615 then ((fixed_Sum.f k ([] : List Int)).bind fun t173 => (if t173 = 0 then (some true) else (none))) else (none))) else (none))) else (none))) else (none))) else (none))) else (none))) else (none)) else (none)) else (none))) else (none)) else (none)) else (none)) else (none)))))) = some r := H
  have A1 := Aside0.mk A10
  clear A10
  replace H := Option.bind_eq_some_iff.mp H
  obtain ⟨⟨t156, t157⟩, A20, H⟩ := H
  replace H : ((fixed_Div.f k 5 0).bind fun bt158 => ((fixed_Mul.f k t154 t154).bind fun t160 => ((fixed_Div.f k t160 t154).bind fun bt161 => (if t154 = 6442450944 then (if t155 = 0 then (if t157 = 10 then (if bt158.2 = 20 then ((fixed_Mul.f k t154 t154).bind fun t163 => (if t163 = 9663676416 then (if bt161.1 = t154 then (if bt161.2 = 0 then ((fixed_Mul.f k 9223372036854775808 9223372036854775808).bind fun t164 => (if t164 = 18446744073709551615 then ((fixed_Whole.f 9663676416).bind fun t165 => (if t165 = 2 then ((fixed_Part.f 9663676416).bind fun t166 => (if t166 = 1073741824 then ((fixed_Mix.f k 0 4294967296 1073741824).bind fun t167 => (if t167 = 1073741824 then ((fixed_Mix.f k 7 9 1099511627776).bind fun t168 => (if t168 = 9 then ((fixed_Sum.f k (([9223372036854775808, 9223372036854775808, 1] : List Int))).bind fun t172 => (if t172 = 18446744073709551615 then ((fixed_Sum.f k ([] : List Int)).bind fun t173 => (if t173 = 0 then (some true) else (none))) else (none))) else (none))) else (none))) else (none))) else (none))) else (none))) else (none)) else (none)) else (none))) else (none)) else (none)) else (none)) else (none))))) = some r := H
  have A2 := Aside0.mk A20
  clear A20
  replace H := Option.bind_eq_some_iff.mp H
  obtain ⟨⟨t158, t159⟩, A30, H⟩ := H
  replace H : ((fixed_Mul.f k t154 t154).bind fun t160 => ((fixed_Div.f k t160 t154).bind fun bt161 => (if t154 = 6442450944 then (if t155 = 0 then (if t157 = 10 then (if t159 = 20 then ((fixed_Mul.f k t154 t154).bind fun t163 => (if t163 = 9663676416 then (if bt161.1 = t154 then (if bt161.2 = 0 then ((fixed_Mul.f k 9223372036854775808 9223372036854775808).bind fun t164 => (if t164 = 18446744073709551615 then ((fixed_Whole.f 9663676416).bind fun t165 => (if t165 = 2 then ((fixed_Part.f 9663676416).bind fun t166 => (if t166 = 1073741824 then ((fixed_Mix.f k 0 4294967296 1073741824).bind fun t167 => (if t167 = 1073741824 then ((fixed_Mix.f k 7 9 1099511627776).bind fun t168 => (if t168 = 9 then ((fixed_Sum.f k (([9223372036854775808, 9223372036854775808, 1] : List Int))).bind fun t172 => (if t172 = 18446744073709551615 then ((fixed_Sum.f k ([] : List Int)).bind fun t173 => (if t173 = 0 then (some true) else (none))) else (none))) else (none))) else (none))) else (none))) else (none))) else (none))) else (none)) else (none)) else (none))) else (none)) else (none)) else (none)) else (none)))) = some r := H
  have A3 := Aside0.mk A30
  clear A30
  replace H := Option.bind_eq_some_iff.mp H
  obtain ⟨t160, A40, H⟩ := H
  replace H : ((fixed_Div.f k t160 t154).bind fun bt161 => (if t154 = 6442450944 then (if t155 = 0 then (if t157 = 10 then (if t159 = 20 then ((fixed_Mul.f k t154 t154).bind fun t163 => (if t163 = 9663676416 then (if bt161.1 = t154 then (if bt161.2 = 0 then ((fixed_Mul.f k 9223372036854775808 9223372036854775808).bind fun t164 => (if t164 = 18446744073709551615 then ((fixed_Whole.f 9663676416).bind fun t165 => (if t165 = 2 then ((fixed_Part.f 9663676416).bind fun t166 => (if t166 = 1073741824 then ((fixed_Mix.f k 0 4294967296 1073741824).bind fun t167 => (if t167 = 1073741824 then ((fixed_Mix.f k 7 9 1099511627776).bind fun t168 => (if t168 = 9 then ((fixed_Sum.f k (([9223372036854775808, 9223372036854775808, 1] : List Int))).bind fun t172 => (if t172 = 18446744073709551615 then ((fixed_Sum.f k ([] : List Int)).bind fun t173 => (if t173 = 0 then (some true) else (none))) else (none))) else (none))) else (none))) else (none))) else (none))) else (none))) else (none)) else (none)) else (none))) else (none)) else (none)) else (none)) else (none))) = some r := H
  have A4 := Aside0.mk A40
  clear A40
  replace H := Option.bind_eq_some_iff.mp H
  obtain ⟨⟨t161, t162⟩, A50, H⟩ := H
  replace H : (if t154 = 6442450944 then (if t155 = 0 then (if t157 = 10 then (if t159 = 20 then ((fixed_Mul.f k t154 t154).bind fun t163 => (if t163 = 9663676416 then (if t161 = t154 then (if t162 = 0 then ((fixed_Mul.f k 9223372036854775808 9223372036854775808).bind fun t164 => (if t164 = 18446744073709551615 then ((fixed_Whole.f 9663676416).bind fun t165 => (if t165 = 2 then ((fixed_Part.f 9663676416).bind fun t166 => (if t166 = 1073741824 then ((fixed_Mix.f k 0 4294967296 1073741824).bind fun t167 => (if t167 = 1073741824 then ((fixed_Mix.f k 7 9 1099511627776).bind fun t168 => (if t168 = 9 then ((fixed_Sum.f k (([9223372036854775808, 9223372036854775808, 1] : List Int))).bind fun t172 => (if t172 = 18446744073709551615 then ((fixed_Sum.f k ([] : List Int)).bind fun t173 => (if t173 = 0 then (some true) else (none))) else (none))) else (none))) else (none))) else (none))) else (none))) else (none))) else (none)) else (none)) else (none))) else (none)) else (none)) else (none)) else (none)) = some r := H
  have A5 := Aside0.mk A50
  clear A50
  by_cases c6 : t154 = 6442450944
  · rw [if_pos c6] at H
    have c6b0 : (t154 == 6442450944) = true := beq_iff_eq.mpr c6
    have c6b1 : (t154 != 6442450944) = false := bne_eq_false_iff_eq.mpr c6
    clear c6
    by_cases c7 : t155 = 0
    · rw [if_pos c7] at H
      have c7b0 : (t155 == 0) = true := beq_iff_eq.mpr c7
      have c7b1 : (t155 != 0) = false := bne_eq_false_iff_eq.mpr c7
      clear c7
      by_cases c8 : t157 = 10
      · rw [if_pos c8] at H
        have c8b0 : (t157 == 10) = true := beq_iff_eq.mpr c8
        have c8b1 : (t157 != 10) = false := bne_eq_false_iff_eq.mpr c8
        clear c8
        by_cases c9 : t159 = 20
        · rw [if_pos c9] at H
          have c9b0 : (t159 == 20) = true := beq_iff_eq.mpr c9
          have c9b1 : (t159 != 20) = false := bne_eq_false_iff_eq.mpr c9
          clear c9
          replace H := Option.bind_eq_some_iff.mp H
          obtain ⟨t163, A100, H⟩ := H
          obtain rfl := Option.some.inj (A4.out.symm.trans A100)
          replace H : (if t160 = 9663676416 then (if t161 = t154 then (if t162 = 0 then ((fixed_Mul.f k 9223372036854775808 9223372036854775808).bind fun t164 => (if t164 = 18446744073709551615 then ((fixed_Whole.f 9663676416).bind fun t165 => (if t165 = 2 then ((fixed_Part.f 9663676416).bind fun t166 => (if t166 = 1073741824 then ((fixed_Mix.f k 0 4294967296 1073741824).bind fun t167 => (if t167 = 1073741824 then ((fixed_Mix.f k 7 9 1099511627776).bind fun t168 => (if t168 = 9 then ((fixed_Sum.f k (([9223372036854775808, 9223372036854775808, 1] : List Int))).bind fun t172 => (if t172 = 18446744073709551615 then ((fixed_Sum.f k ([] : List Int)).bind fun t173 => (if t173 = 0 then (some true) else (none))) else (none))) else (none))) else (none))) else (none))) else (none))) else (none))) else (none)) else (none)) else (none)) = some r := H
          have A10 := Aside0.mk A100
          clear A100
          by_cases c11 : t160 = 9663676416
          · rw [if_pos c11] at H
            have c11b0 : (t160 == 9663676416) = true := beq_iff_eq.mpr c11
            have c11b1 : (t160 != 9663676416) = false := bne_eq_false_iff_eq.mpr c11
            clear c11
            by_cases c12 : t161 = t154
            · rw [if_pos c12] at H
              have c12b0 : (t161 == t154) = true := beq_iff_eq.mpr c12
              have c12b1 : (t161 != t154) = false := bne_eq_false_iff_eq.mpr c12
              clear c12
              by_cases c13 : t162 = 0
              · rw [if_pos c13] at H
                have c13b0 : (t162 == 0) = true := beq_iff_eq.mpr c13
                have c13b1 : (t162 != 0) = false := bne_eq_false_iff_eq.mpr c13
                clear c13
                replace H := Option.bind_eq_some_iff.mp H
                obtain ⟨t164, A140, H⟩ := H
                replace H : (if t164 = 18446744073709551615 then ((fixed_Whole.f 9663676416).bind fun t165 => (if t165 = 2 then ((fixed_Part.f 9663676416).bind fun t166 => (if t166 = 1073741824 then ((fixed_Mix.f k 0 4294967296 1073741824).bind fun t167 => (if t167 = 1073741824 then ((fixed_Mix.f k 7 9 1099511627776).bind fun t168 => (if t168 = 9 then ((fixed_Sum.f k (([9223372036854775808, 9223372036854775808, 1] : List Int))).bind fun t172 => (if t172 = 18446744073709551615 then ((fixed_Sum.f k ([] : List Int)).bind fun t173 => (if t173 = 0 then (some true) else (none))) else (none))) else (none))) else (none))) else (none))) else (none))) else (none)) = some r := H
                have A14 := Aside0.mk A140
                clear A140
                by_cases c15 : t164 = 18446744073709551615
                · rw [if_pos c15] at H
                  have c15b0 : (t164 == 18446744073709551615) = true := beq_iff_eq.mpr c15
                  have c15b1 : (t164 != 18446744073709551615) = false := bne_eq_false_iff_eq.mpr c15
                  clear c15
                  replace H := Option.bind_eq_some_iff.mp H
                  obtain ⟨t165, A160, H⟩ := H
                  replace H : (if t165 = 2 then ((fixed_Part.f 9663676416).bind fun t166 => (if t166 = 1073741824 then ((fixed_Mix.f k 0 4294967296 1073741824).bind fun t167 => (if t167 = 1073741824 then ((fixed_Mix.f k 7 9 1099511627776).bind fun t168 => (if t168 = 9 then ((fixed_Sum.f k (([9223372036854775808, 9223372036854775808, 1] : List Int))).bind fun t172 => (if t172 = 18446744073709551615 then ((fixed_Sum.f k ([] : List Int)).bind fun t173 => (if t173 = 0 then (some true) else (none))) else (none))) else (none))) else (none))) else (none))) else (none)) = some r := H
                  have A16 := Aside0.mk A160
                  clear A160
                  by_cases c17 : t165 = 2
                  · rw [if_pos c17] at H
                    have c17b0 : (t165 == 2) = true := beq_iff_eq.mpr c17
                    have c17b1 : (t165 != 2) = false := bne_eq_false_iff_eq.mpr c17
                    clear c17
                    replace H := Option.bind_eq_some_iff.mp H
                    obtain ⟨t166, A180, H⟩ := H
                    replace H : (if t166 = 1073741824 then ((fixed_Mix.f k 0 4294967296 1073741824).bind fun t167 => (if t167 = 1073741824 then ((fixed_Mix.f k 7 9 1099511627776).bind fun t168 => (if t168 = 9 then ((fixed_Sum.f k (([9223372036854775808, 9223372036854775808, 1] : List Int))).bind fun t172 => (if t172 = 18446744073709551615 then ((fixed_Sum.f k ([] : List Int)).bind fun t173 => (if t173 = 0 then (some true) else (none))) else (none))) else (none))) else (none))) else (none)) = some r := H
                    have A18 := Aside0.mk A180
                    clear A180
                    by_cases c19 : t166 = 1073741824
                    · rw [if_pos c19] at H
                      have c19b0 : (t166 == 1073741824) = true := beq_iff_eq.mpr c19
                      have c19b1 : (t166 != 1073741824) = false := bne_eq_false_iff_eq.mpr c19
                      clear c19
                      replace H := Option.bind_eq_some_iff.mp H
                      obtain ⟨t167, A200, H⟩ := H
                      replace H : (if t167 = 1073741824 then ((fixed_Mix.f k 7 9 1099511627776).bind fun t168 => (if t168 = 9 then ((fixed_Sum.f k (([9223372036854775808, 9223372036854775808, 1] : List Int))).bind fun t172 => (if t172 = 18446744073709551615 then ((fixed_Sum.f k ([] : List Int)).bind fun t173 => (if t173 = 0 then (some true) else (none))) else (none))) else (none))) else (none)) = some r := H
                      have A20 := Aside0.mk A200
                      clear A200
                      by_cases c21 : t167 = 1073741824
                      · rw [if_pos c21] at H
                        have c21b0 : (t167 == 1073741824) = true := beq_iff_eq.mpr c21
                        have c21b1 : (t167 != 1073741824) = false := bne_eq_false_iff_eq.mpr c21
                        clear c21
                        replace H := Option.bind_eq_some_iff.mp H
                        obtain ⟨t168, A220, H⟩ := H
                        replace H : (if t168 = 9 then ((fixed_Sum.f k (([9223372036854775808, 9223372036854775808, 1] : List Int))).bind fun t172 => (if t172 = 18446744073709551615 then ((fixed_Sum.f k ([] : List Int)).bind fun t173 => (if t173 = 0 then (some true) else (none))) else (none))) else (none)) = some r := H
                        have A22 := Aside0.mk A220
                        clear A220
                        by_cases c23 : t168 = 9
                        · rw [if_pos c23] at H
                          have c23b0 : (t168 == 9) = true := beq_iff_eq.mpr c23
                          have c23b1 : (t168 != 9) = false := bne_eq_false_iff_eq.mpr c23
                          clear c23
                          obtain ⟨y169, hy169⟩ : ∃ y_ : List Int, y_ = (([9223372036854775808, 9223372036854775808, 1] : List Int)) := ⟨_, rfl⟩
                          replace H : ((fixed_Sum.f k y169).bind fun t172 => (if t172 = 18446744073709551615 then ((fixed_Sum.f k ([] : List Int)).bind fun t173 => (if t173 = 0 then (some true) else (none))) else (none))) = some r := by first | (rw [hy169]; with_reducible exact H) | (have H2_ := (Option.bind_some _ _).symm.trans H; rw [hy169]; with_reducible exact H2_) | (have H2_ := (Option.bind_some _ _).symm.trans H; with_reducible exact H2_) | with_reducible exact H | (rw [hy169]; exact H) | exact H
                          have Ny169 := Aside0.mk hy169
                          clear hy169
                          replace H := Option.bind_eq_some_iff.mp H
                          obtain ⟨t172, A240, H⟩ := H
                          replace H : (if t172 = 18446744073709551615 then ((fixed_Sum.f k ([] : List Int)).bind fun t173 => (if t173 = 0 then (some true) else (none))) else (none)) = some r := H
                          have A24 := Aside0.mk A240
                          clear A240
                          by_cases c25 : t172 = 18446744073709551615
                          · rw [if_pos c25] at H
                            have c25b0 : (t172 == 18446744073709551615) = true := beq_iff_eq.mpr c25
                            have c25b1 : (t172 != 18446744073709551615) = false := bne_eq_false_iff_eq.mpr c25
                            clear c25
                            replace H := Option.bind_eq_some_iff.mp H
                            obtain ⟨t173, A260, H⟩ := H
                            replace H : (if t173 = 0 then (some true) else (none)) = some r := H
                            have A26 := Aside0.mk A260
                            clear A260
                            by_cases c27 : t173 = 0
                            · rw [if_pos c27] at H
                              have c27b0 : (t173 == 0) = true := beq_iff_eq.mpr c27
                              have c27b1 : (t173 != 0) = false := bne_eq_false_iff_eq.mpr c27
                              clear c27
                              obtain rfl := Option.some.inj H
                              go_enter Try.func9, Try.ntmps9
                              go_wp2_with (first | ((with_reducible refine gate_callee (f := 10) rfl ?_); refine goesL_ (some 10) rfl rfl Try.func10 (by kernel_rfl) rfl #[.int .u64 3, .int .u64 2] rfl (by (try simp only [List.map_toArray, List.map_cons, List.map_nil]); first | done | rfl | (simp only [List.length_drop, List.length_take]; rfl)) ?_; (with_reducible refine (fixed_Of.calls k 3 2 t154 t155 _ A1.out).mono ?_); rintro e w28 ⟨rfl, hb⟩; refine ⟨_, rfl, ?_⟩; have n0_ := Aside0.mk (below_step (by repeat (first | (with_reducible first | exact HB.out | apply below_alloc | apply pw_below_drewN | apply below_drew1) | exact HB.out)) hb); clear HB; have HB := n0_; clear n0_; (try clear hb); (try clear hb2); (try clear hk); (try clear hi)) | ((with_reducible refine gate_callee (f := 10) rfl ?_); refine goesL_ (some 14) rfl rfl Try.func10 (by kernel_rfl) rfl #[.int .u64 4294967296, .int .u64 1] rfl (by (try simp only [List.map_toArray, List.map_cons, List.map_nil]); first | done | rfl | (simp only [List.length_drop, List.length_take]; rfl)) ?_; (with_reducible refine (fixed_Of.calls k 4294967296 1 t156 t157 _ A2.out).mono ?_); rintro e w29 ⟨rfl, hb⟩; refine ⟨_, rfl, ?_⟩; have n0_ := Aside0.mk (below_step (by repeat (first | (with_reducible first | exact HB.out | apply below_alloc | apply pw_below_drewN | apply below_drew1) | exact HB.out)) hb); clear HB; have HB := n0_; clear n0_; (try clear hb); (try clear hb2); (try clear hk); (try clear hi)) | ((with_reducible refine gate_callee (f := 12) rfl ?_); refine goesL_ (some 18) rfl rfl Try.func12 (by kernel_rfl) rfl #[.int .u64 5, .int .u64 0] rfl (by (try simp only [List.map_toArray, List.map_cons, List.map_nil]); first | done | rfl | (simp only [List.length_drop, List.length_take]; rfl)) ?_; (with_reducible refine (fixed_Div.calls k 5 0 t158 t159 _ A3.out).mono ?_); rintro e w30 ⟨rfl, hb⟩; refine ⟨_, rfl, ?_⟩; have n0_ := Aside0.mk (below_step (by repeat (first | (with_reducible first | exact HB.out | apply below_alloc | apply pw_below_drewN | apply below_drew1) | exact HB.out)) hb); clear HB; have HB := n0_; clear n0_; (try clear hb); (try clear hb2); (try clear hk); (try clear hi)) | ((with_reducible refine gate_callee (f := 14) rfl ?_); refine goesL_ (some 24) rfl rfl Try.func14 (by kernel_rfl) rfl #[.int .u64 t154, .int .u64 t154] rfl (by (try simp only [List.map_toArray, List.map_cons, List.map_nil]); first | done | rfl | (simp only [List.length_drop, List.length_take]; rfl)) ?_; (with_reducible refine (fixed_Mul.calls k t154 t154 t160 _ A4.out).mono ?_); rintro e w31 ⟨rfl, hb⟩; refine ⟨_, rfl, ?_⟩; have n0_ := Aside0.mk (below_step (by repeat (first | (with_reducible first | exact HB.out | apply below_alloc | apply pw_below_drewN | apply below_drew1) | exact HB.out)) hb); clear HB; have HB := n0_; clear n0_; (try clear hb); (try clear hb2); (try clear hk); (try clear hi)) | ((with_reducible refine gate_callee (f := 12) rfl ?_); refine goesL_ (some 26) rfl rfl Try.func12 (by kernel_rfl) rfl #[.int .u64 t160, .int .u64 t154] rfl (by (try simp only [List.map_toArray, List.map_cons, List.map_nil]); first | done | rfl | (simp only [List.length_drop, List.length_take]; rfl)) ?_; (with_reducible refine (fixed_Div.calls k t160 t154 t161 t162 _ A5.out).mono ?_); rintro e w32 ⟨rfl, hb⟩; refine ⟨_, rfl, ?_⟩; have n0_ := Aside0.mk (below_step (by repeat (first | (with_reducible first | exact HB.out | apply below_alloc | apply pw_below_drewN | apply below_drew1) | exact HB.out)) hb); clear HB; have HB := n0_; clear n0_; (try clear hb); (try clear hb2); (try clear hk); (try clear hi)) | (go_at_call 14; (with_reducible refine (fixed_Mul.calls k t154 t154 t160 _ A10.out).mono ?_); rintro e w33 ⟨rfl, hb⟩; have n0_ := Aside0.mk (below_step (by repeat (first | (with_reducible first | exact HB.out | apply below_alloc | apply pw_below_drewN | apply below_drew1) | exact HB.out)) hb); clear HB; have HB := n0_; clear n0_; (try clear hb); (try clear hb2); (try clear hk); (try clear hi)) | (go_at_call 14; (with_reducible refine (fixed_Mul.calls k 9223372036854775808 9223372036854775808 t164 _ A14.out).mono ?_); rintro e w34 ⟨rfl, hb⟩; have n0_ := Aside0.mk (below_step (by repeat (first | (with_reducible first | exact HB.out | apply below_alloc | apply pw_below_drewN | apply below_drew1) | exact HB.out)) hb); clear HB; have HB := n0_; clear n0_; (try clear hb); (try clear hb2); (try clear hk); (try clear hi)) | (go_at_call 16; (with_reducible refine (fixed_Whole.calls 9663676416 t165 _ A16.out).mono ?_); rintro e w' ⟨rfl, ⟨nd, rfl⟩⟩) | (go_at_call 18; (with_reducible refine (fixed_Part.calls 9663676416 t166 _ A18.out).mono ?_); rintro e w' ⟨rfl, ⟨nd, rfl⟩⟩) | (go_at_call 20; (with_reducible refine (fixed_Mix.calls k 0 4294967296 1073741824 t167 _ A20.out).mono ?_); rintro e w35 ⟨rfl, hb⟩; have n0_ := Aside0.mk (below_step (by repeat (first | (with_reducible first | exact HB.out | apply below_alloc | apply pw_below_drewN | apply below_drew1) | exact HB.out)) hb); clear HB; have HB := n0_; clear n0_; (try clear hb); (try clear hb2); (try clear hk); (try clear hi)) | (go_at_call 20; (with_reducible refine (fixed_Mix.calls k 7 9 1099511627776 t168 _ A22.out).mono ?_); rintro e w36 ⟨rfl, hb⟩; have n0_ := Aside0.mk (below_step (by repeat (first | (with_reducible first | exact HB.out | apply below_alloc | apply pw_below_drewN | apply below_drew1) | exact HB.out)) hb); clear HB; have HB := n0_; clear n0_; (try clear hb); (try clear hb2); (try clear hk); (try clear hi)) | ((with_reducible refine gate_dst (N := 79) rfl ?_); (try (refine gate_guard (by rfl) ?_; dsimp only)); refine Kd.R_lit (Kd.int .u64) _ 22 ?hg (N := 79) ?hd (xs := ([9223372036854775808, 9223372036854775808, 1] : List Int)) (inner := [.int .u64 9223372036854775808, .int .u64 9223372036854775808, .int .u64 1]) (ok := fun _ => True) (okp := fun _ => True) ?hr ?hp (fun _ hk => hk) trivial (Below.refl _ _) (Nat.le_refl _) (by simp) ?_; (case hd => rfl); (case hg => rfl); (case hr => first | (go_simp; done) | (go_simp; rfl)); (case hp => exact (Reps.one (show Kd.M (Kd.int .u64) _ _ _ 9223372036854775808 [.int .u64 9223372036854775808] from rfl) (Reps.one (show Kd.M (Kd.int .u64) _ _ _ 9223372036854775808 [.int .u64 9223372036854775808] from rfl) (Reps.one (show Kd.M (Kd.int .u64) _ _ _ 1 [.int .u64 1] from rfl) (Reps.none _ _))))); intro v170 w37 ho38 hb hg_ hnew_; clear hg_ hnew_; (first | rw [← Ny169.out] at ho38 | (simp only [Int.reduceToNat] at ho38; rw [← Ny169.out] at ho38)); have n0_ := Aside0.mk (Kd.R_lower ho38 (below_size (by repeat (first | (with_reducible first | exact HB.out | apply below_alloc | apply pw_below_drewN | apply below_drew1) | exact HB.out)))); have n1_ := Aside0.mk (below_step (by repeat (first | (with_reducible first | exact HB.out | apply below_alloc | apply pw_below_drewN | apply below_drew1) | exact HB.out)) hb); clear HB; have HO171 := n0_; have HB := n1_; clear n0_ n1_; clear hb ho38; obtain ⟨Ao39, co39, eo39⟩ := Kd.R_slice HO171.out; subst eo39) | (go_at_call 22; (with_reducible refine (fixed_Sum.calls k _ _ y169 t172 _ ?side1 ?side2 A24.out).mono ?_); (case side1 => repeat (first | exact (Kd.R_reads' HO171.out).2.2 | (with_reducible refine Kd.C_alloc ?_ _) | (with_reducible refine Kd.C_drewN ?_ _) | (with_reducible refine Kd.C_drew ?_))); (case side2 => exact (Kd.R_reads' HO171.out).2.1); rintro e w' ⟨rfl, ⟨nd, rfl⟩⟩) | (go_at_call 22; (refine (fixed_Sum.calls k _ _ ([] : List Int) t173 _ ?side1 ?side2 A26.out).mono ?_); (case side1 => exact Kd.C_nil _ _); (case side2 => exact Nat.le_refl _); rintro e w' ⟨rfl, ⟨nd, rfl⟩⟩) | (go_at_call 10; (with_reducible refine (fixed_Of.calls k 3 2 t154 t155 _ A1.out).mono ?_); rintro e w28 ⟨rfl, hb⟩; have n0_ := Aside0.mk (below_step (by repeat (first | (with_reducible first | exact HB.out | apply below_alloc | apply pw_below_drewN | apply below_drew1) | exact HB.out)) hb); clear HB; have HB := n0_; clear n0_; (try clear hb); (try clear hb2); (try clear hk); (try clear hi)) | (go_at_call 10; (with_reducible refine (fixed_Of.calls k 4294967296 1 t156 t157 _ A2.out).mono ?_); rintro e w29 ⟨rfl, hb⟩; have n0_ := Aside0.mk (below_step (by repeat (first | (with_reducible first | exact HB.out | apply below_alloc | apply pw_below_drewN | apply below_drew1) | exact HB.out)) hb); clear HB; have HB := n0_; clear n0_; (try clear hb); (try clear hb2); (try clear hk); (try clear hi)) | (go_at_call 12; (with_reducible refine (fixed_Div.calls k 5 0 t158 t159 _ A3.out).mono ?_); rintro e w30 ⟨rfl, hb⟩; have n0_ := Aside0.mk (below_step (by repeat (first | (with_reducible first | exact HB.out | apply below_alloc | apply pw_below_drewN | apply below_drew1) | exact HB.out)) hb); clear HB; have HB := n0_; clear n0_; (try clear hb); (try clear hb2); (try clear hk); (try clear hi)) | (go_at_call 14; (with_reducible refine (fixed_Mul.calls k t154 t154 t160 _ A4.out).mono ?_); rintro e w31 ⟨rfl, hb⟩; have n0_ := Aside0.mk (below_step (by repeat (first | (with_reducible first | exact HB.out | apply below_alloc | apply pw_below_drewN | apply below_drew1) | exact HB.out)) hb); clear HB; have HB := n0_; clear n0_; (try clear hb); (try clear hb2); (try clear hk); (try clear hi)) | (go_at_call 12; (with_reducible refine (fixed_Div.calls k t160 t154 t161 t162 _ A5.out).mono ?_); rintro e w32 ⟨rfl, hb⟩; have n0_ := Aside0.mk (below_step (by repeat (first | (with_reducible first | exact HB.out | apply below_alloc | apply pw_below_drewN | apply below_drew1) | exact HB.out)) hb); clear HB; have HB := n0_; clear n0_; (try clear hb); (try clear hb2); (try clear hk); (try clear hi)))
                              go_ret
                              exact ⟨by first | rfl | (simp [errW_none, errW_some] <;> rfl) | (simp [*, errW_none, errW_some] <;> rfl), by repeat (first | (with_reducible first | exact HB.out | apply below_alloc | apply pw_below_drewN | apply below_drew1) | exact HB.out)⟩
                            · rw [if_neg c27] at H
                              exact absurd H (by simp)
                          · rw [if_neg c25] at H
                            exact absurd H (by simp)
                        · rw [if_neg c23] at H
                          exact absurd H (by simp)
                      · rw [if_neg c21] at H
                        exact absurd H (by simp)
                    · rw [if_neg c19] at H
                      exact absurd H (by simp)
                  · rw [if_neg c17] at H
                    exact absurd H (by simp)
                · rw [if_neg c15] at H
                  exact absurd H (by simp)
              · rw [if_neg c13] at H
                exact absurd H (by simp)
            · rw [if_neg c12] at H
              exact absurd H (by simp)
          · rw [if_neg c11] at H
            exact absurd H (by simp)
        · rw [if_neg c9] at H
          exact absurd H (by simp)
      · rw [if_neg c8] at H
        exact absurd H (by simp)
    · rw [if_neg c7] at H
      exact absurd H (by simp)
  · rw [if_neg c6] at H
    exact absurd H (by simp)

/-! ### linhayref02_digits: function 40 -/
set_option maxHeartbeats 1000000 in
theorem linhayref02_digits.walk (a b : Int) (w : World) (ha : 0 ≤ a) (hb : 0 ≤ b) (ha' : a < 18446744073709551616) (hb' : b < 18446744073709551616) :
    Calls Try.prog 40 #[.agg #[.int .u64 a, .int .u64 b]] w fun e w' => e = .returned (.agg #[.int .u64 (b % 4294967296), .int .u64 (b / 4294967296), .int .u64 (a % 4294967296), .int .u64 (a / 4294967296)]) ∧ w' = (w.alloc (.cells #[.int .u64 a, .int .u64 b] 43)).alloc (.cells #[.int .u64 (b % 4294967296), .int .u64 (b / 4294967296), .int .u64 (a % 4294967296), .int .u64 (a / 4294967296)] 57) := by
  go_enter Try.func40, Try.ntmps40
  go_wp2
  refine bodyPost_ret (v := .agg #[.int .u64 (b % 4294967296), .int .u64 (b / 4294967296), .int .u64 (a % 4294967296), .int .u64 (a / 4294967296)]) (by simp [results, Try.results40, go_sem]) rfl ⟨rfl, rfl⟩

/-! ### linhayref02_whole: function 41 -/
set_option maxHeartbeats 1000000 in
theorem linhayref02_whole.walk (a b c d : Int) (w : World) (ha : 0 ≤ a) (hb : 0 ≤ b) (hc : 0 ≤ c) (hd : 0 ≤ d) (ha' : a < 4294967296) (hb' : b < 4294967296) (hc' : c < 4294967296) (hd' : d < 4294967296) :
    Calls Try.prog 41 #[.agg #[.int .u64 a, .int .u64 b, .int .u64 c, .int .u64 d]] w fun e w' => e = .returned (.agg #[.int .u64 (d * 4294967296 + c), .int .u64 (b * 4294967296 + a)]) ∧ w' = (w.alloc (.cells #[.int .u64 a, .int .u64 b, .int .u64 c, .int .u64 d] 57)).alloc (.cells #[.int .u64 (d * 4294967296 + c), .int .u64 (b * 4294967296 + a)] 43) := by
  go_enter Try.func41, Try.ntmps41
  go_wp2
  refine bodyPost_ret (v := .agg #[.int .u64 (d * 4294967296 + c), .int .u64 (b * 4294967296 + a)]) (by simp [results, Try.results41, go_sem]) rfl ⟨rfl, rfl⟩

end Go.Proofs.Ytnippnpbnmkfbaa.Print
