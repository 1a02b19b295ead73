/- Lean functions that answer what Go functions of the translation answer, and the proofs of it. Written by a program of this session (wip/tools/seatprint.py), over contracts that it proved by hand. Conditions: those that each theorem says. -/
import Derived.Test.YtnobdpenncfghaaPrint0
import Derived.Test.YtnobdpenncfghaaPrint5
import Derived.Test.YtnobdpenncfghaaPrint8
import Derived.Test.YtnobdpenncfghaaPrint12
import Derived.Test.YtnobdpenncfghaaPrint14
import Derived.Test.YtnobdpenncfghaaPrint15
namespace Go.Proofs.Ytnobdpenncfghaa.Print
open Go.RowKit Go.Proofs.YtnobdpenncfghaaW.PrintWords Go.Proofs.YtnobdpenncfghaaW.PrintLast Go.Proofs.YtnobdpenncfghaaW.PrintMore
attribute [local go_sem] max2_int min2_int max_two min_two max_three min_three max_four min_four   -- for this text's walks alone
set_option linter.unusedVariables false
set_option linter.unusedSimpArgs false

/-! ### linhaylaw03_awake: function 9 -/
def linhaylaw03_awake.f (k : Nat)  : Option (Bool) := (ratio_Cmp.f k 1 3 2 6).bind fun bt171 => ((ratio_Cmp.f k 18446744073709551615 18446744073709551614 18446744073709551614 18446744073709551613).bind fun bt173 => ((ratio_Cmp.f k 0 0 1 1).bind fun bt175 => ((ratio_Least.f k (([(⟨1, 0⟩ : S24), (⟨2, 3⟩ : S24), (⟨1, 2⟩ : S24), (⟨2, 4⟩ : S24)] : List (S24)))).bind fun bt180 => ((ratio_Least.f k (([(⟨1, 0⟩ : S24)] : List (S24)))).bind fun bt185 => ((ratio_Floor.f k 7 5 4).bind fun bt187 => ((ratio_Ceil.f k 7 5 4).bind fun bt189 => ((ratio_Near.f k 7 5 4).bind fun bt191 => ((ratio_Floor.f k 9223372036854775808 2 1).bind fun bt193 => ((ratio_Near.f k 1 1 0).bind fun bt195 => (if bt171.1 = 0 then (if bt171.2 = 0 then (if bt173.1 = (-1) then (if bt175.2 = 20 then (if bt180.1 = 2 then (if bt180.2 = true then (if bt185.2 = true then (none) else (if bt187.1 = 8 then (if bt187.2 = 0 then (if bt189.1 = 9 then (if bt189.2 = 0 then (if bt191.1 = 9 then (if bt191.2 = 0 then (if bt193.2 = 10 then (some (bt195.2 == 20)) else (none)) else (none)) else (none)) else (none)) else (none)) else (none)) else (none))) else (none)) else (none)) else (none)) else (none)) else (none)) else (none)))))))))))
theorem linhaylaw03_awake.mono : ∀ k, LeO (linhaylaw03_awake.f k ) (linhaylaw03_awake.f (k + 1) ) := by
  intro  k
  unfold linhaylaw03_awake.f
  repeat' first
      | (with_reducible exact ratio_Ceil.mono _ _ _ _)
      | (with_reducible exact ratio_Cmp.mono _ _ _ _ _)
      | (with_reducible exact ratio_Floor.mono _ _ _ _)
      | (with_reducible exact ratio_Least.mono _ _)
      | (with_reducible exact ratio_Near.mono _ _ _ _)
      | (with_reducible exact LeO.refl _)
      | (with_reducible exact LeO.none _)
      | (with_reducible refine LeO.ite ?_ ?_)
      | (with_reducible refine LeO.bind ?_ (fun _ => ?_))
      | exact ratio_Ceil.mono _ _ _ _
      | exact ratio_Cmp.mono _ _ _ _ _
      | exact ratio_Floor.mono _ _ _ _
      | exact ratio_Least.mono _ _
      | exact ratio_Near.mono _ _ _ _
      | exact LeO.none _
      | refine LeO.ite ?_ ?_
      | refine LeO.bind ?_ (fun _ => ?_)
set_option maxHeartbeats 8000000 in
set_option maxRecDepth 100000 in
theorem linhaylaw03_awake.calls (k : Nat)  (r : Bool) (w : World) (h : linhaylaw03_awake.f k  = some r) :
    Calls Try.prog 9 #[] w fun e w' => e = .returned (.bool r) ∧ Below w.heap.size w w' := by
  have hu24 := Try.underlying24
  have HB := Aside0.mk (Below.refl w.heap.size w)
  have H : ((ratio_Cmp.f k 1 3 2 6).bind fun bt171 => ((ratio_Cmp.f k 18446744073709551615 18446744073709551614 18446744073709551614 18446744073709551613).bind fun bt173 => ((ratio_Cmp.f k 0 0 1 1).bind fun bt175 => ((ratio_Least.f k (([(⟨1, 0⟩ : S24), (⟨2, 3⟩ : S24), (⟨1, 2⟩ : S24), (⟨2, 4⟩ : S24)] : List (S24)))).bind fun bt180 => ((ratio_Least.f k (([(⟨1, 0⟩ : S24)] : List (S24)))).bind fun bt185 => ((ratio_Floor.f k 7 5 4).bind fun bt187 => ((ratio_Ceil.f k 7 5 4).bind fun bt189 => ((ratio_Near.f k 7 5 4).bind fun bt191 => ((ratio_Floor.f k 9223372036854775808 2 1).bind fun bt193 => ((ratio_Near.f k 1 1 0).bind fun bt195 => (if bt171.1 = 0 then (if bt171.2 = 0 then (if bt173.1 = (-1) then (if bt175.2 = 20 then (if bt180.1 = 2 then (if bt180.2 = true then (if bt185.2 = true then (none) else (if bt187.1 = 8 then (if bt187.2 = 0 then (if bt189.1 = 9 then (if bt189.2 = 0 then (if bt191.1 = 9 then (if bt191.2 = 0 then (if bt193.2 = 10 then (some (bt195.2 == 20)) else (none)) else (none)) else (none)) else (none)) else (none)) else (none)) else (none))) else (none)) else (none)) else (none)) else (none)) else (none)) else (none)))))))))))) = some r := h
  clear h
  replace H := Option.bind_eq_some_iff.mp H
  obtain ⟨⟨t171, t172⟩, A10, H⟩ := H
  replace H : ((ratio_Cmp.f k 18446744073709551615 18446744073709551614 18446744073709551614 18446744073709551613).bind fun bt173 => ((ratio_Cmp.f k 0 0 1 1).bind fun bt175 => ((ratio_Least.f k (([(⟨1, 0⟩ : S24), (⟨2, 3⟩ : S24), (⟨1, 2⟩ : S24), (⟨2, 4⟩ : S24)] : List (S24)))).bind fun bt180 => ((ratio_Least.f k (([(⟨1, 0⟩ : S24)] : List (S24)))).bind fun bt185 => ((ratio_Floor.f k 7 5 4).bind fun bt187 => ((ratio_Ceil.f k 7 5 4).bind fun bt189 => ((ratio_Near.f k 7 5 4).bind fun bt191 => ((ratio_Floor.f k 9223372036854775808 2 1).bind fun bt193 => ((ratio_Near.f k 1 1 0).bind fun bt195 => (if t171 = 0 then (if t172 = 0 then (if bt173.1 = (-1) then (if bt175.2 = 20 then (if bt180.1 = 2 then (if bt180.2 = true then (if bt185.2 = true then (none) else (if bt187.1 = 8 then (if bt187.2 = 0 then (if bt189.1 = 9 then (if bt189.2 = 0 then (if bt191.1 = 9 then (if bt191.2 = 0 then (if bt193.2 = 10 then (some (bt195.2 == 20)) else (none)) else (none)) else (none)) else (none)) else (none)) else (none)) else (none))) else (none)) else (none)) else (none)) else (none)) else (none)) else (none))))))))))) = some r := H
  have A1 := Aside0.mk A10
  clear A10
  replace H := Option.bind_eq_some_iff.mp H
  obtain ⟨⟨t173, t174⟩, A20, H⟩ := H
  replace H : ((ratio_Cmp.f k 0 0 1 1).bind fun bt175 => ((ratio_Least.f k (([(⟨1, 0⟩ : S24), (⟨2, 3⟩ : S24), (⟨1, 2⟩ : S24), (⟨2, 4⟩ : S24)] : List (S24)))).bind fun bt180 => ((ratio_Least.f k (([(⟨1, 0⟩ : S24)] : List (S24)))).bind fun bt185 => ((ratio_Floor.f k 7 5 4).bind fun bt187 => ((ratio_Ceil.f k 7 5 4).bind fun bt189 => ((ratio_Near.f k 7 5 4).bind fun bt191 => ((ratio_Floor.f k 9223372036854775808 2 1).bind fun bt193 => ((ratio_Near.f k 1 1 0).bind fun bt195 => (if t171 = 0 then (if t172 = 0 then (if t173 = (-1) then (if bt175.2 = 20 then (if bt180.1 = 2 then (if bt180.2 = true then (if bt185.2 = true then (none) else (if bt187.1 = 8 then (if bt187.2 = 0 then (if bt189.1 = 9 then (if bt189.2 = 0 then (if bt191.1 = 9 then (if bt191.2 = 0 then (if bt193.2 = 10 then (some (bt195.2 == 20)) else (none)) else (none)) else (none)) else (none)) else (none)) else (none)) else (none))) else (none)) else (none)) else (none)) else (none)) else (none)) else (none)))))))))) = some r := H
  have A2 := Aside0.mk A20
  clear A20
  replace H := Option.bind_eq_some_iff.mp H
  obtain ⟨⟨t175, t176⟩, A30, H⟩ := H
  replace H : ((ratio_Least.f k (([(⟨1, 0⟩ : S24), (⟨2, 3⟩ : S24), (⟨1, 2⟩ : S24), (⟨2, 4⟩ : S24)] : List (S24)))).bind fun bt180 => ((ratio_Least.f k (([(⟨1, 0⟩ : S24)] : List (S24)))).bind fun bt185 => ((ratio_Floor.f k 7 5 4).bind fun bt187 => ((ratio_Ceil.f k 7 5 4).bind fun bt189 => ((ratio_Near.f k 7 5 4).bind fun bt191 => ((ratio_Floor.f k 9223372036854775808 2 1).bind fun bt193 => ((ratio_Near.f k 1 1 0).bind fun bt195 => (if t171 = 0 then (if t172 = 0 then (if t173 = (-1) then (if t176 = 20 then (if bt180.1 = 2 then (if bt180.2 = true then (if bt185.2 = true then (none) else (if bt187.1 = 8 then (if bt187.2 = 0 then (if bt189.1 = 9 then (if bt189.2 = 0 then (if bt191.1 = 9 then (if bt191.2 = 0 then (if bt193.2 = 10 then (some (bt195.2 == 20)) else (none)) else (none)) else (none)) else (none)) else (none)) else (none)) else (none))) else (none)) else (none)) else (none)) else (none)) else (none)) else (none))))))))) = some r := H
  have A3 := Aside0.mk A30
  clear A30
  obtain ⟨y177, hy177⟩ : ∃ y_ : List (S24), y_ = (([(⟨1, 0⟩ : S24), (⟨2, 3⟩ : S24), (⟨1, 2⟩ : S24), (⟨2, 4⟩ : S24)] : List (S24))) := ⟨_, rfl⟩
  replace H : ((ratio_Least.f k y177).bind fun bt180 => ((ratio_Least.f k (([(⟨1, 0⟩ : S24)] : List (S24)))).bind fun bt185 => ((ratio_Floor.f k 7 5 4).bind fun bt187 => ((ratio_Ceil.f k 7 5 4).bind fun bt189 => ((ratio_Near.f k 7 5 4).bind fun bt191 => ((ratio_Floor.f k 9223372036854775808 2 1).bind fun bt193 => ((ratio_Near.f k 1 1 0).bind fun bt195 => (if t171 = 0 then (if t172 = 0 then (if t173 = (-1) then (if t176 = 20 then (if bt180.1 = 2 then (if bt180.2 = true then (if bt185.2 = true then (none) else (if bt187.1 = 8 then (if bt187.2 = 0 then (if bt189.1 = 9 then (if bt189.2 = 0 then (if bt191.1 = 9 then (if bt191.2 = 0 then (if bt193.2 = 10 then (some (bt195.2 == 20)) else (none)) else (none)) else (none)) else (none)) else (none)) else (none)) else (none))) else (none)) else (none)) else (none)) else (none)) else (none)) else (none))))))))) = some r := by first | (rw [hy177]; with_reducible exact H) | (have H2_ := (Option.bind_some _ _).symm.trans H; rw [hy177]; with_reducible exact H2_) | (have H2_ := (Option.bind_some _ _).symm.trans H; with_reducible exact H2_) | with_reducible exact H | (rw [hy177]; exact H) | exact H
  have Ny177 := Aside0.mk hy177
  clear hy177
  replace H := Option.bind_eq_some_iff.mp H
  obtain ⟨⟨t180, t181⟩, A40, H⟩ := H
  replace H : ((ratio_Least.f k (([(⟨1, 0⟩ : S24)] : List (S24)))).bind fun bt185 => ((ratio_Floor.f k 7 5 4).bind fun bt187 => ((ratio_Ceil.f k 7 5 4).bind fun bt189 => ((ratio_Near.f k 7 5 4).bind fun bt191 => ((ratio_Floor.f k 9223372036854775808 2 1).bind fun bt193 => ((ratio_Near.f k 1 1 0).bind fun bt195 => (if t171 = 0 then (if t172 = 0 then (if t173 = (-1) then (if t176 = 20 then (if t180 = 2 then (if t181 = true then (if bt185.2 = true then (none) else (if bt187.1 = 8 then (if bt187.2 = 0 then (if bt189.1 = 9 then (if bt189.2 = 0 then (if bt191.1 = 9 then (if bt191.2 = 0 then (if bt193.2 = 10 then (some (bt195.2 == 20)) else (none)) else (none)) else (none)) else (none)) else (none)) else (none)) else (none))) else (none)) else (none)) else (none)) else (none)) else (none)) else (none)))))))) = some r := H
  have A4 := Aside0.mk A40
  clear A40
  obtain ⟨y182, hy182⟩ : ∃ y_ : List (S24), y_ = (([(⟨1, 0⟩ : S24)] : List (S24))) := ⟨_, rfl⟩
  replace H : ((ratio_Least.f k y182).bind fun bt185 => ((ratio_Floor.f k 7 5 4).bind fun bt187 => ((ratio_Ceil.f k 7 5 4).bind fun bt189 => ((ratio_Near.f k 7 5 4).bind fun bt191 => ((ratio_Floor.f k 9223372036854775808 2 1).bind fun bt193 => ((ratio_Near.f k 1 1 0).bind fun bt195 => (if t171 = 0 then (if t172 = 0 then (if t173 = (-1) then (if t176 = 20 then (if t180 = 2 then (if t181 = true then (if bt185.2 = true then (none) else (if bt187.1 = 8 then (if bt187.2 = 0 then (if bt189.1 = 9 then (if bt189.2 = 0 then (if bt191.1 = 9 then (if bt191.2 = 0 then (if bt193.2 = 10 then (some (bt195.2 == 20)) else (none)) else (none)) else (none)) else (none)) else (none)) else (none)) else (none))) else (none)) else (none)) else (none)) else (none)) else (none)) else (none)))))))) = some r := by first | (rw [hy182]; with_reducible exact H) | (have H2_ := (Option.bind_some _ _).symm.trans H; rw [hy182]; with_reducible exact H2_) | (have H2_ := (Option.bind_some _ _).symm.trans H; with_reducible exact H2_) | with_reducible exact H | (rw [hy182]; exact H) | exact H
  have Ny182 := Aside0.mk hy182
  clear hy182
  replace H := Option.bind_eq_some_iff.mp H
  obtain ⟨⟨t185, t186⟩, A50, H⟩ := H
  replace H : ((ratio_Floor.f k 7 5 4).bind fun bt187 => ((ratio_Ceil.f k 7 5 4).bind fun bt189 => ((ratio_Near.f k 7 5 4).bind fun bt191 => ((ratio_Floor.f k 9223372036854775808 2 1).bind fun bt193 => ((ratio_Near.f k 1 1 0).bind fun bt195 => (if t171 = 0 then (if t172 = 0 then (if t173 = (-1) then (if t176 = 20 then (if t180 = 2 then (if t181 = true then (if t186 = true then (none) else (if bt187.1 = 8 then (if bt187.2 = 0 then (if bt189.1 = 9 then (if bt189.2 = 0 then (if bt191.1 = 9 then (if bt191.2 = 0 then (if bt193.2 = 10 then (some (bt195.2 == 20)) else (none)) else (none)) else (none)) else (none)) else (none)) else (none)) else (none))) else (none)) else (none)) else (none)) else (none)) else (none)) else (none))))))) = some r := H
  have A5 := Aside0.mk A50
  clear A50
  replace H := Option.bind_eq_some_iff.mp H
  obtain ⟨⟨t187, t188⟩, A60, H⟩ := H
  replace H : ((ratio_Ceil.f k 7 5 4).bind fun bt189 => ((ratio_Near.f k 7 5 4).bind fun bt191 => ((ratio_Floor.f k 9223372036854775808 2 1).bind fun bt193 => ((ratio_Near.f k 1 1 0).bind fun bt195 => (if t171 = 0 then (if t172 = 0 then (if t173 = (-1) then (if t176 = 20 then (if t180 = 2 then (if t181 = true then (if t186 = true then (none) else (if t187 = 8 then (if t188 = 0 then (if bt189.1 = 9 then (if bt189.2 = 0 then (if bt191.1 = 9 then (if bt191.2 = 0 then (if bt193.2 = 10 then (some (bt195.2 == 20)) else (none)) else (none)) else (none)) else (none)) else (none)) else (none)) else (none))) else (none)) else (none)) else (none)) else (none)) else (none)) else (none)))))) = some r := H
  have A6 := Aside0.mk A60
  clear A60
  replace H := Option.bind_eq_some_iff.mp H
  obtain ⟨⟨t189, t190⟩, A70, H⟩ := H
  replace H : ((ratio_Near.f k 7 5 4).bind fun bt191 => ((ratio_Floor.f k 9223372036854775808 2 1).bind fun bt193 => ((ratio_Near.f k 1 1 0).bind fun bt195 => (if t171 = 0 then (if t172 = 0 then (if t173 = (-1) then (if t176 = 20 then (if t180 = 2 then (if t181 = true then (if t186 = true then (none) else (if t187 = 8 then (if t188 = 0 then (if t189 = 9 then (if t190 = 0 then (if bt191.1 = 9 then (if bt191.2 = 0 then (if bt193.2 = 10 then (some (bt195.2 == 20)) else (none)) else (none)) else (none)) else (none)) else (none)) else (none)) else (none))) else (none)) else (none)) else (none)) else (none)) else (none)) else (none))))) = some r := H
  have A7 := Aside0.mk A70
  clear A70
  replace H := Option.bind_eq_some_iff.mp H
  obtain ⟨⟨t191, t192⟩, A80, H⟩ := H
  replace H : ((ratio_Floor.f k 9223372036854775808 2 1).bind fun bt193 => ((ratio_Near.f k 1 1 0).bind fun bt195 => (if t171 = 0 then (if t172 = 0 then (if t173 = (-1) then (if t176 = 20 then (if t180 = 2 then (if t181 = true then (if t186 = true then (none) else (if t187 = 8 then (if t188 = 0 then (if t189 = 9 then (if t190 = 0 then (if t191 = 9 then (if t192 = 0 then (if bt193.2 = 10 then (some (bt195.2 == 20)) else (none)) else (none)) else (none)) else (none)) else (none)) else (none)) else (none))) else (none)) else (none)) else (none)) else (none)) else (none)) else (none)))) = some r := H
  have A8 := Aside0.mk A80
  clear A80
  replace H := Option.bind_eq_some_iff.mp H
  obtain ⟨⟨t193, t194⟩, A90, H⟩ := H
  replace H : ((ratio_Near.f k 1 1 0).bind fun bt195 => (if t171 = 0 then (if t172 = 0 then (if t173 = (-1) then (if t176 = 20 then (if t180 = 2 then (if t181 = true then (if t186 = true then (none) else (if t187 = 8 then (if t188 = 0 then (if t189 = 9 then (if t190 = 0 then (if t191 = 9 then (if t192 = 0 then (if t194 = 10 then (some (bt195.2 == 20)) else (none)) else (none)) else (none)) else (none)) else (none)) else (none)) else (none))) else (none)) else (none)) else (none)) else (none)) else (none)) else (none))) = some r := H
  have A9 := Aside0.mk A90
  clear A90
  replace H := Option.bind_eq_some_iff.mp H
  obtain ⟨⟨t195, t196⟩, A100, H⟩ := H
  replace H : (if t171 = 0 then (if t172 = 0 then (if t173 = (-1) then (if t176 = 20 then (if t180 = 2 then (if t181 = true then (if t186 = true then (none) else (if t187 = 8 then (if t188 = 0 then (if t189 = 9 then (if t190 = 0 then (if t191 = 9 then (if t192 = 0 then (if t194 = 10 then (some (t196 == 20)) else (none)) else (none)) else (none)) else (none)) else (none)) else (none)) else (none))) else (none)) else (none)) else (none)) else (none)) else (none)) else (none)) = some r := H
  have A10 := Aside0.mk A100
  clear A100
  by_cases c11 : t171 = 0
  · rw [if_pos c11] at H
    have c11b0 : (t171 == 0) = true := beq_iff_eq.mpr c11
    have c11b1 : (t171 != 0) = false := bne_eq_false_iff_eq.mpr c11
    clear c11
    by_cases c12 : t172 = 0
    · rw [if_pos c12] at H
      have c12b0 : (t172 == 0) = true := beq_iff_eq.mpr c12
      have c12b1 : (t172 != 0) = false := bne_eq_false_iff_eq.mpr c12
      clear c12
      by_cases c13 : t173 = (-1)
      · rw [if_pos c13] at H
        have c13b0 : (t173 == (-1)) = true := beq_iff_eq.mpr c13
        have c13b1 : (t173 != (-1)) = false := bne_eq_false_iff_eq.mpr c13
        clear c13
        by_cases c14 : t176 = 20
        · rw [if_pos c14] at H
          have c14b0 : (t176 == 20) = true := beq_iff_eq.mpr c14
          have c14b1 : (t176 != 20) = false := bne_eq_false_iff_eq.mpr c14
          clear c14
          by_cases c15 : t180 = 2
          · rw [if_pos c15] at H
            have c15b0 : (t180 == 2) = true := beq_iff_eq.mpr c15
            have c15b1 : (t180 != 2) = false := bne_eq_false_iff_eq.mpr c15
            clear c15
            by_cases c16 : t181 = true
            · subst c16
              have H1 : (if t186 = true then (none) else (if t187 = 8 then (if t188 = 0 then (if t189 = 9 then (if t190 = 0 then (if t191 = 9 then (if t192 = 0 then (if t194 = 10 then (some (t196 == 20)) else (none)) else (none)) else (none)) else (none)) else (none)) else (none)) else (none))) = some r := by rw [if_pos rfl] at H; exact H
              clear H
              have H := H1
              clear H1
              by_cases c17 : t186 = true
              · subst c17
                have H1 : (none) = some r := by rw [if_pos rfl] at H; exact H
                clear H
                have H := H1
                clear H1
                exact absurd H (by simp)
              · replace c17 := Bool.eq_false_iff.mpr c17
                subst c17
                have H1 : (if t187 = 8 then (if t188 = 0 then (if t189 = 9 then (if t190 = 0 then (if t191 = 9 then (if t192 = 0 then (if t194 = 10 then (some (t196 == 20)) else (none)) else (none)) else (none)) else (none)) else (none)) else (none)) else (none)) = some r := by rw [if_neg (show ¬ (false = true) by decide)] at H; exact H
                clear H
                have H := H1
                clear H1
                by_cases c18 : t187 = 8
                · rw [if_pos c18] at H
                  have c18b0 : (t187 == 8) = true := beq_iff_eq.mpr c18
                  have c18b1 : (t187 != 8) = false := bne_eq_false_iff_eq.mpr c18
                  clear c18
                  by_cases c19 : t188 = 0
                  · rw [if_pos c19] at H
                    have c19b0 : (t188 == 0) = true := beq_iff_eq.mpr c19
                    have c19b1 : (t188 != 0) = false := bne_eq_false_iff_eq.mpr c19
                    clear c19
                    by_cases c20 : t189 = 9
                    · rw [if_pos c20] at H
                      have c20b0 : (t189 == 9) = true := beq_iff_eq.mpr c20
                      have c20b1 : (t189 != 9) = false := bne_eq_false_iff_eq.mpr c20
                      clear c20
                      by_cases c21 : t190 = 0
                      · rw [if_pos c21] at H
                        have c21b0 : (t190 == 0) = true := beq_iff_eq.mpr c21
                        have c21b1 : (t190 != 0) = false := bne_eq_false_iff_eq.mpr c21
                        clear c21
                        by_cases c22 : t191 = 9
                        · rw [if_pos c22] at H
                          have c22b0 : (t191 == 9) = true := beq_iff_eq.mpr c22
                          have c22b1 : (t191 != 9) = false := bne_eq_false_iff_eq.mpr c22
                          clear c22
                          by_cases c23 : t192 = 0
                          · rw [if_pos c23] at H
                            have c23b0 : (t192 == 0) = true := beq_iff_eq.mpr c23
                            have c23b1 : (t192 != 0) = false := bne_eq_false_iff_eq.mpr c23
                            clear c23
                            by_cases c24 : t194 = 10
                            · rw [if_pos c24] at H
                              have c24b0 : (t194 == 10) = true := beq_iff_eq.mpr c24
                              have c24b1 : (t194 != 10) = false := bne_eq_false_iff_eq.mpr c24
                              clear c24
                              obtain rfl := Option.some.inj H
                              go_enter Try.func9, Try.ntmps9
                              go_wp2_with (first | ((with_reducible refine gate_callee (f := 10) rfl ?_); refine goesL_ (some 24) rfl rfl Try.func10 (by kernel_rfl) rfl #[.agg #[.int .u64 1, .int .u64 3], .agg #[.int .u64 2, .int .u64 6]] rfl (by (try simp only [List.map_toArray, List.map_cons, List.map_nil]); first | done | rfl | (simp only [List.length_drop, List.length_take]; rfl)) ?_; (with_reducible refine (ratio_Cmp.calls k 1 3 2 6 t171 t172 _ A1.out).mono ?_); rintro e w25 ⟨rfl, hb⟩; refine ⟨_, rfl, ?_⟩; have n0_ := Aside0.mk (below_step (by repeat (first | (with_reducible first | exact HB.out | apply below_alloc | apply pw_below_drewN | apply below_drew1) | exact HB.out)) hb); clear HB; have HB := n0_; clear n0_; (try clear hb); (try clear hb2); (try clear hk); (try clear hi)) | ((with_reducible refine gate_callee (f := 10) rfl ?_); refine goesL_ (some 30) rfl rfl Try.func10 (by kernel_rfl) rfl #[.agg #[.int .u64 18446744073709551615, .int .u64 18446744073709551614], .agg #[.int .u64 18446744073709551614, .int .u64 18446744073709551613]] rfl (by (try simp only [List.map_toArray, List.map_cons, List.map_nil]); first | done | rfl | (simp only [List.length_drop, List.length_take]; rfl)) ?_; (with_reducible refine (ratio_Cmp.calls k 18446744073709551615 18446744073709551614 18446744073709551614 18446744073709551613 t173 t174 _ A2.out).mono ?_); rintro e w26 ⟨rfl, hb⟩; refine ⟨_, rfl, ?_⟩; have n0_ := Aside0.mk (below_step (by repeat (first | (with_reducible first | exact HB.out | apply below_alloc | apply pw_below_drewN | apply below_drew1) | exact HB.out)) hb); clear HB; have HB := n0_; clear n0_; (try clear hb); (try clear hb2); (try clear hk); (try clear hi)) | ((with_reducible refine gate_callee (f := 10) rfl ?_); refine goesL_ (some 36) rfl rfl Try.func10 (by kernel_rfl) rfl #[.agg #[.int .u64 0, .int .u64 0], .agg #[.int .u64 1, .int .u64 1]] rfl (by (try simp only [List.map_toArray, List.map_cons, List.map_nil]); first | done | rfl | (simp only [List.length_drop, List.length_take]; rfl)) ?_; (with_reducible refine (ratio_Cmp.calls k 0 0 1 1 t175 t176 _ A3.out).mono ?_); rintro e w27 ⟨rfl, hb⟩; refine ⟨_, rfl, ?_⟩; have n0_ := Aside0.mk (below_step (by repeat (first | (with_reducible first | exact HB.out | apply below_alloc | apply pw_below_drewN | apply below_drew1) | exact HB.out)) hb); clear HB; have HB := n0_; clear n0_; (try clear hb); (try clear hb2); (try clear hk); (try clear hi)) | ((with_reducible refine gate_dst (N := 44) rfl ?_); refine Kd.R_lit k24 _ 24 ?hg (N := 44) ?hd (xs := ([(⟨1, 0⟩ : S24), (⟨2, 3⟩ : S24), (⟨1, 2⟩ : S24), (⟨2, 4⟩ : S24)] : List (S24))) (inner := [.int .u64 1, .int .u64 0, .int .u64 2, .int .u64 3, .int .u64 1, .int .u64 2, .int .u64 2, .int .u64 4]) (ok := fun _ => True) (okp := fun _ => True) ?hr ?hp (fun _ hk => hk) trivial (Below.refl _ _) (Nat.le_refl _) (by simp) ?_; (case hd => rfl); (case hg => rfl); (case hr => first | (go_simp; done) | (go_simp; rfl)); (case hp => exact (Reps.c2 (show Kd.M k24 _ _ _ (⟨1, 0⟩ : S24) [.int .u64 1, .int .u64 0] from (k24_mkM _ _ _ (⟨1, 0⟩ : S24) )) (Reps.c2 (show Kd.M k24 _ _ _ (⟨2, 3⟩ : S24) [.int .u64 2, .int .u64 3] from (k24_mkM _ _ _ (⟨2, 3⟩ : S24) )) (Reps.c2 (show Kd.M k24 _ _ _ (⟨1, 2⟩ : S24) [.int .u64 1, .int .u64 2] from (k24_mkM _ _ _ (⟨1, 2⟩ : S24) )) (Reps.c2 (show Kd.M k24 _ _ _ (⟨2, 4⟩ : S24) [.int .u64 2, .int .u64 4] from (k24_mkM _ _ _ (⟨2, 4⟩ : S24) )) (Reps.none _ _)))))); intro v178 w28 ho29 hb hg_ hnew_; clear hg_ hnew_; (first | rw [← Ny177.out] at ho29 | (simp only [Int.reduceToNat] at ho29; rw [← Ny177.out] at ho29)); have n0_ := Aside0.mk (Kd.R_lower ho29 (below_size (by repeat (first | (with_reducible first | exact HB.out | apply below_alloc | apply pw_below_drewN | apply below_drew1) | exact HB.out)))); have n1_ := Aside0.mk (below_step (by repeat (first | (with_reducible first | exact HB.out | apply below_alloc | apply pw_below_drewN | apply below_drew1) | exact HB.out)) hb); clear HB; have HO179 := n0_; have HB := n1_; clear n0_ n1_; clear hb ho29; obtain ⟨Ao30, co30, eo30⟩ := Kd.R_slice HO179.out; subst eo30) | ((with_reducible refine gate_callee (f := 12) rfl ?_); refine goesL_ (some 45) rfl rfl Try.func12 (by kernel_rfl) rfl #[.slice Ao30 y177.length co30] rfl (by (try simp only [List.map_toArray, List.map_cons, List.map_nil]); first | done | rfl | (simp only [List.length_drop, List.length_take]; rfl)) ?_; (with_reducible refine (ratio_Least.calls k _ _ y177 t180 true _ ?side1 ?side2 A4.out).mono ?_); (case side1 => repeat (first | exact (Kd.R_reads' HO179.out).2.2 | (with_reducible refine Kd.C_alloc ?_ _) | (with_reducible refine Kd.C_drewN ?_ _) | (with_reducible refine Kd.C_drew ?_))); (case side2 => exact (Kd.R_reads' HO179.out).2.1); rintro e w31 ⟨rfl, hb⟩; refine ⟨_, rfl, ?_⟩; have n0_ := Aside0.mk (Kd.R_below (by (with_reducible repeat (first | apply Kd.R_alloc | apply Kd.R_drewN | apply Kd.R_drew)); exact HO179.out) hb); have n1_ := Aside0.mk (below_step (by repeat (first | (with_reducible first | exact HB.out | apply below_alloc | apply pw_below_drewN | apply below_drew1) | exact HB.out)) hb); clear HO179; clear HB; have HO179 := n0_; have HB := n1_; clear n0_ n1_; (try clear hb); (try clear hb2); (try clear hk); (try clear hi)) | ((with_reducible refine gate_dst (N := 50) rfl ?_); refine Kd.R_lit k24 _ 24 ?hg (N := 50) ?hd (xs := ([(⟨1, 0⟩ : S24)] : List (S24))) (inner := [.int .u64 1, .int .u64 0]) (ok := fun _ => True) (okp := fun _ => True) ?hr ?hp (fun _ hk => hk) trivial (Below.refl _ _) (Nat.le_refl _) (by simp) ?_; (case hd => rfl); (case hg => rfl); (case hr => first | (go_simp; done) | (go_simp; rfl)); (case hp => exact (Reps.c2 (show Kd.M k24 _ _ _ (⟨1, 0⟩ : S24) [.int .u64 1, .int .u64 0] from (k24_mkM _ _ _ (⟨1, 0⟩ : S24) )) (Reps.none _ _))); intro v183 w32 ho33 hb hg_ hnew_; clear hg_ hnew_; (first | rw [← Ny182.out] at ho33 | (simp only [Int.reduceToNat] at ho33; rw [← Ny182.out] at ho33)); have n0_ := Aside0.mk (Kd.R_elder' (by (with_reducible repeat (first | apply Kd.R_alloc | apply Kd.R_drewN | apply Kd.R_drew)); exact HO179.out) (Kd.R_base ho33) hb); have n1_ := Aside0.mk (Kd.R_lower (Kd.R_new' ho33 (Kd.R_lt (by (with_reducible repeat (first | apply Kd.R_alloc | apply Kd.R_drewN | apply Kd.R_drew)); exact HO179.out))) (below_size (by repeat (first | (with_reducible first | exact HB.out | apply below_alloc | apply pw_below_drewN | apply below_drew1) | exact HB.out)))); have n2_ := Aside0.mk (below_step (by repeat (first | (with_reducible first | exact HB.out | apply below_alloc | apply pw_below_drewN | apply below_drew1) | exact HB.out)) hb); clear HO179; clear HB; have HO179 := n0_; have HO184 := n1_; have HB := n2_; clear n0_ n1_ n2_; clear hb ho33; obtain ⟨Ao34, co34, eo34⟩ := Kd.R_slice HO184.out; subst eo34) | ((with_reducible refine gate_callee (f := 12) rfl ?_); refine goesL_ (some 51) rfl rfl Try.func12 (by kernel_rfl) rfl #[.slice Ao34 y182.length co34] rfl (by (try simp only [List.map_toArray, List.map_cons, List.map_nil]); first | done | rfl | (simp only [List.length_drop, List.length_take]; rfl)) ?_; (with_reducible refine (ratio_Least.calls k _ _ y182 t185 false _ ?side1 ?side2 A5.out).mono ?_); (case side1 => repeat (first | exact (Kd.R_reads' HO184.out).2.2 | (with_reducible refine Kd.C_alloc ?_ _) | (with_reducible refine Kd.C_drewN ?_ _) | (with_reducible refine Kd.C_drew ?_))); (case side2 => exact (Kd.R_reads' HO184.out).2.1); rintro e w35 ⟨rfl, hb⟩; refine ⟨_, rfl, ?_⟩; have n0_ := Aside0.mk (Kd.R_below (by (with_reducible repeat (first | apply Kd.R_alloc | apply Kd.R_drewN | apply Kd.R_drew)); exact HO179.out) hb); have n1_ := Aside0.mk (Kd.R_below (by (with_reducible repeat (first | apply Kd.R_alloc | apply Kd.R_drewN | apply Kd.R_drew)); exact HO184.out) hb); have n2_ := Aside0.mk (below_step (by repeat (first | (with_reducible first | exact HB.out | apply below_alloc | apply pw_below_drewN | apply below_drew1) | exact HB.out)) hb); clear HO179; clear HO184; clear HB; have HO179 := n0_; have HO184 := n1_; have HB := n2_; clear n0_ n1_ n2_; (try clear hb); (try clear hb2); (try clear hk); (try clear hi)) | ((with_reducible refine gate_callee (f := 14) rfl ?_); refine goesL_ (some 55) rfl rfl Try.func14 (by kernel_rfl) rfl #[.int .u64 7, .int .u64 5, .int .u64 4] rfl (by (try simp only [List.map_toArray, List.map_cons, List.map_nil]); first | done | rfl | (simp only [List.length_drop, List.length_take]; rfl)) ?_; (with_reducible refine (ratio_Floor.calls k 7 5 4 t187 t188 _ A6.out).mono ?_); rintro e w36 ⟨rfl, hb⟩; refine ⟨_, rfl, ?_⟩; have n0_ := Aside0.mk (Kd.R_below (by (with_reducible repeat (first | apply Kd.R_alloc | apply Kd.R_drewN | apply Kd.R_drew)); exact HO179.out) hb); have n1_ := Aside0.mk (Kd.R_below (by (with_reducible repeat (first | apply Kd.R_alloc | apply Kd.R_drewN | apply Kd.R_drew)); exact HO184.out) hb); have n2_ := Aside0.mk (below_step (by repeat (first | (with_reducible first | exact HB.out | apply below_alloc | apply pw_below_drewN | apply below_drew1) | exact HB.out)) hb); clear HO179; clear HO184; clear HB; have HO179 := n0_; have HO184 := n1_; have HB := n2_; clear n0_ n1_ n2_; (try clear hb); (try clear hb2); (try clear hk); (try clear hi)) | ((with_reducible refine gate_callee (f := 16) rfl ?_); refine goesL_ (some 59) rfl rfl Try.func16 (by kernel_rfl) rfl #[.int .u64 7, .int .u64 5, .int .u64 4] rfl (by (try simp only [List.map_toArray, List.map_cons, List.map_nil]); first | done | rfl | (simp only [List.length_drop, List.length_take]; rfl)) ?_; (with_reducible refine (ratio_Ceil.calls k 7 5 4 t189 t190 _ A7.out).mono ?_); rintro e w37 ⟨rfl, hb⟩; refine ⟨_, rfl, ?_⟩; have n0_ := Aside0.mk (Kd.R_below (by (with_reducible repeat (first | apply Kd.R_alloc | apply Kd.R_drewN | apply Kd.R_drew)); exact HO179.out) hb); have n1_ := Aside0.mk (Kd.R_below (by (with_reducible repeat (first | apply Kd.R_alloc | apply Kd.R_drewN | apply Kd.R_drew)); exact HO184.out) hb); have n2_ := Aside0.mk (below_step (by repeat (first | (with_reducible first | exact HB.out | apply below_alloc | apply pw_below_drewN | apply below_drew1) | exact HB.out)) hb); clear HO179; clear HO184; clear HB; have HO179 := n0_; have HO184 := n1_; have HB := n2_; clear n0_ n1_ n2_; (try clear hb); (try clear hb2); (try clear hk); (try clear hi)) | ((with_reducible refine gate_callee (f := 18) rfl ?_); refine goesL_ (some 63) rfl rfl Try.func18 (by kernel_rfl) rfl #[.int .u64 7, .int .u64 5, .int .u64 4] rfl (by (try simp only [List.map_toArray, List.map_cons, List.map_nil]); first | done | rfl | (simp only [List.length_drop, List.length_take]; rfl)) ?_; (with_reducible refine (ratio_Near.calls k 7 5 4 t191 t192 _ A8.out).mono ?_); rintro e w38 ⟨rfl, hb⟩; refine ⟨_, rfl, ?_⟩; have n0_ := Aside0.mk (Kd.R_below (by (with_reducible repeat (first | apply Kd.R_alloc | apply Kd.R_drewN | apply Kd.R_drew)); exact HO179.out) hb); have n1_ := Aside0.mk (Kd.R_below (by (with_reducible repeat (first | apply Kd.R_alloc | apply Kd.R_drewN | apply Kd.R_drew)); exact HO184.out) hb); have n2_ := Aside0.mk (below_step (by repeat (first | (with_reducible first | exact HB.out | apply below_alloc | apply pw_below_drewN | apply below_drew1) | exact HB.out)) hb); clear HO179; clear HO184; clear HB; have HO179 := n0_; have HO184 := n1_; have HB := n2_; clear n0_ n1_ n2_; (try clear hb); (try clear hb2); (try clear hk); (try clear hi)) | ((with_reducible refine gate_callee (f := 14) rfl ?_); refine goesL_ (some 67) rfl rfl Try.func14 (by kernel_rfl) rfl #[.int .u64 9223372036854775808, .int .u64 2, .int .u64 1] rfl (by (try simp only [List.map_toArray, List.map_cons, List.map_nil]); first | done | rfl | (simp only [List.length_drop, List.length_take]; rfl)) ?_; (with_reducible refine (ratio_Floor.calls k 9223372036854775808 2 1 t193 t194 _ A9.out).mono ?_); rintro e w39 ⟨rfl, hb⟩; refine ⟨_, rfl, ?_⟩; have n0_ := Aside0.mk (Kd.R_below (by (with_reducible repeat (first | apply Kd.R_alloc | apply Kd.R_drewN | apply Kd.R_drew)); exact HO179.out) hb); have n1_ := Aside0.mk (Kd.R_below (by (with_reducible repeat (first | apply Kd.R_alloc | apply Kd.R_drewN | apply Kd.R_drew)); exact HO184.out) hb); have n2_ := Aside0.mk (below_step (by repeat (first | (with_reducible first | exact HB.out | apply below_alloc | apply pw_below_drewN | apply below_drew1) | exact HB.out)) hb); clear HO179; clear HO184; clear HB; have HO179 := n0_; have HO184 := n1_; have HB := n2_; clear n0_ n1_ n2_; (try clear hb); (try clear hb2); (try clear hk); (try clear hi)) | ((with_reducible refine gate_callee (f := 18) rfl ?_); refine goesL_ (some 71) rfl rfl Try.func18 (by kernel_rfl) rfl #[.int .u64 1, .int .u64 1, .int .u64 0] rfl (by (try simp only [List.map_toArray, List.map_cons, List.map_nil]); first | done | rfl | (simp only [List.length_drop, List.length_take]; rfl)) ?_; (with_reducible refine (ratio_Near.calls k 1 1 0 t195 t196 _ A10.out).mono ?_); rintro e w40 ⟨rfl, hb⟩; refine ⟨_, rfl, ?_⟩; have n0_ := Aside0.mk (Kd.R_below (by (with_reducible repeat (first | apply Kd.R_alloc | apply Kd.R_drewN | apply Kd.R_drew)); exact HO179.out) hb); have n1_ := Aside0.mk (Kd.R_below (by (with_reducible repeat (first | apply Kd.R_alloc | apply Kd.R_drewN | apply Kd.R_drew)); exact HO184.out) hb); have n2_ := Aside0.mk (below_step (by repeat (first | (with_reducible first | exact HB.out | apply below_alloc | apply pw_below_drewN | apply below_drew1) | exact HB.out)) hb); clear HO179; clear HO184; clear HB; have HO179 := n0_; have HO184 := n1_; have HB := n2_; clear n0_ n1_ n2_; (try clear hb); (try clear hb2); (try clear hk); (try clear hi)) | (go_at_call 10; (with_reducible refine (ratio_Cmp.calls k 1 3 2 6 t171 t172 _ A1.out).mono ?_); rintro e w25 ⟨rfl, hb⟩; have n0_ := Aside0.mk (below_step (by repeat (first | (with_reducible first | exact HB.out | apply below_alloc | apply pw_below_drewN | apply below_drew1) | exact HB.out)) hb); clear HB; have HB := n0_; clear n0_; (try clear hb); (try clear hb2); (try clear hk); (try clear hi)) | (go_at_call 10; (with_reducible refine (ratio_Cmp.calls k 18446744073709551615 18446744073709551614 18446744073709551614 18446744073709551613 t173 t174 _ A2.out).mono ?_); rintro e w26 ⟨rfl, hb⟩; have n0_ := Aside0.mk (below_step (by repeat (first | (with_reducible first | exact HB.out | apply below_alloc | apply pw_below_drewN | apply below_drew1) | exact HB.out)) hb); clear HB; have HB := n0_; clear n0_; (try clear hb); (try clear hb2); (try clear hk); (try clear hi)) | (go_at_call 10; (with_reducible refine (ratio_Cmp.calls k 0 0 1 1 t175 t176 _ A3.out).mono ?_); rintro e w27 ⟨rfl, hb⟩; have n0_ := Aside0.mk (below_step (by repeat (first | (with_reducible first | exact HB.out | apply below_alloc | apply pw_below_drewN | apply below_drew1) | exact HB.out)) hb); clear HB; have HB := n0_; clear n0_; (try clear hb); (try clear hb2); (try clear hk); (try clear hi)) | (go_at_call 12; (with_reducible refine (ratio_Least.calls k _ _ y177 t180 true _ ?side1 ?side2 A4.out).mono ?_); (case side1 => repeat (first | exact (Kd.R_reads' HO179.out).2.2 | (with_reducible refine Kd.C_alloc ?_ _) | (with_reducible refine Kd.C_drewN ?_ _) | (with_reducible refine Kd.C_drew ?_))); (case side2 => exact (Kd.R_reads' HO179.out).2.1); rintro e w31 ⟨rfl, hb⟩; have n0_ := Aside0.mk (Kd.R_below (by (with_reducible repeat (first | apply Kd.R_alloc | apply Kd.R_drewN | apply Kd.R_drew)); exact HO179.out) hb); have n1_ := Aside0.mk (below_step (by repeat (first | (with_reducible first | exact HB.out | apply below_alloc | apply pw_below_drewN | apply below_drew1) | exact HB.out)) hb); clear HO179; clear HB; have HO179 := n0_; have HB := n1_; clear n0_ n1_; (try clear hb); (try clear hb2); (try clear hk); (try clear hi)) | (go_at_call 12; (with_reducible refine (ratio_Least.calls k _ _ y182 t185 false _ ?side1 ?side2 A5.out).mono ?_); (case side1 => repeat (first | exact (Kd.R_reads' HO184.out).2.2 | (with_reducible refine Kd.C_alloc ?_ _) | (with_reducible refine Kd.C_drewN ?_ _) | (with_reducible refine Kd.C_drew ?_))); (case side2 => exact (Kd.R_reads' HO184.out).2.1); rintro e w35 ⟨rfl, hb⟩; have n0_ := Aside0.mk (Kd.R_below (by (with_reducible repeat (first | apply Kd.R_alloc | apply Kd.R_drewN | apply Kd.R_drew)); exact HO179.out) hb); have n1_ := Aside0.mk (Kd.R_below (by (with_reducible repeat (first | apply Kd.R_alloc | apply Kd.R_drewN | apply Kd.R_drew)); exact HO184.out) hb); have n2_ := Aside0.mk (below_step (by repeat (first | (with_reducible first | exact HB.out | apply below_alloc | apply pw_below_drewN | apply below_drew1) | exact HB.out)) hb); clear HO179; clear HO184; clear HB; have HO179 := n0_; have HO184 := n1_; have HB := n2_; clear n0_ n1_ n2_; (try clear hb); (try clear hb2); (try clear hk); (try clear hi)) | (go_at_call 14; (with_reducible refine (ratio_Floor.calls k 7 5 4 t187 t188 _ A6.out).mono ?_); rintro e w36 ⟨rfl, hb⟩; have n0_ := Aside0.mk (Kd.R_below (by (with_reducible repeat (first | apply Kd.R_alloc | apply Kd.R_drewN | apply Kd.R_drew)); exact HO179.out) hb); have n1_ := Aside0.mk (Kd.R_below (by (with_reducible repeat (first | apply Kd.R_alloc | apply Kd.R_drewN | apply Kd.R_drew)); exact HO184.out) hb); have n2_ := Aside0.mk (below_step (by repeat (first | (with_reducible first | exact HB.out | apply below_alloc | apply pw_below_drewN | apply below_drew1) | exact HB.out)) hb); clear HO179; clear HO184; clear HB; have HO179 := n0_; have HO184 := n1_; have HB := n2_; clear n0_ n1_ n2_; (try clear hb); (try clear hb2); (try clear hk); (try clear hi)) | (go_at_call 16; (with_reducible refine (ratio_Ceil.calls k 7 5 4 t189 t190 _ A7.out).mono ?_); rintro e w37 ⟨rfl, hb⟩; have n0_ := Aside0.mk (Kd.R_below (by (with_reducible repeat (first | apply Kd.R_alloc | apply Kd.R_drewN | apply Kd.R_drew)); exact HO179.out) hb); have n1_ := Aside0.mk (Kd.R_below (by (with_reducible repeat (first | apply Kd.R_alloc | apply Kd.R_drewN | apply Kd.R_drew)); exact HO184.out) hb); have n2_ := Aside0.mk (below_step (by repeat (first | (with_reducible first | exact HB.out | apply below_alloc | apply pw_below_drewN | apply below_drew1) | exact HB.out)) hb); clear HO179; clear HO184; clear HB; have HO179 := n0_; have HO184 := n1_; have HB := n2_; clear n0_ n1_ n2_; (try clear hb); (try clear hb2); (try clear hk); (try clear hi)) | (go_at_call 18; (with_reducible refine (ratio_Near.calls k 7 5 4 t191 t192 _ A8.out).mono ?_); rintro e w38 ⟨rfl, hb⟩; have n0_ := Aside0.mk (Kd.R_below (by (with_reducible repeat (first | apply Kd.R_alloc | apply Kd.R_drewN | apply Kd.R_drew)); exact HO179.out) hb); have n1_ := Aside0.mk (Kd.R_below (by (with_reducible repeat (first | apply Kd.R_alloc | apply Kd.R_drewN | apply Kd.R_drew)); exact HO184.out) hb); have n2_ := Aside0.mk (below_step (by repeat (first | (with_reducible first | exact HB.out | apply below_alloc | apply pw_below_drewN | apply below_drew1) | exact HB.out)) hb); clear HO179; clear HO184; clear HB; have HO179 := n0_; have HO184 := n1_; have HB := n2_; clear n0_ n1_ n2_; (try clear hb); (try clear hb2); (try clear hk); (try clear hi)) | (go_at_call 14; (with_reducible refine (ratio_Floor.calls k 9223372036854775808 2 1 t193 t194 _ A9.out).mono ?_); rintro e w39 ⟨rfl, hb⟩; have n0_ := Aside0.mk (Kd.R_below (by (with_reducible repeat (first | apply Kd.R_alloc | apply Kd.R_drewN | apply Kd.R_drew)); exact HO179.out) hb); have n1_ := Aside0.mk (Kd.R_below (by (with_reducible repeat (first | apply Kd.R_alloc | apply Kd.R_drewN | apply Kd.R_drew)); exact HO184.out) hb); have n2_ := Aside0.mk (below_step (by repeat (first | (with_reducible first | exact HB.out | apply below_alloc | apply pw_below_drewN | apply below_drew1) | exact HB.out)) hb); clear HO179; clear HO184; clear HB; have HO179 := n0_; have HO184 := n1_; have HB := n2_; clear n0_ n1_ n2_; (try clear hb); (try clear hb2); (try clear hk); (try clear hi)) | (go_at_call 18; (with_reducible refine (ratio_Near.calls k 1 1 0 t195 t196 _ A10.out).mono ?_); rintro e w40 ⟨rfl, hb⟩; have n0_ := Aside0.mk (Kd.R_below (by (with_reducible repeat (first | apply Kd.R_alloc | apply Kd.R_drewN | apply Kd.R_drew)); exact HO179.out) hb); have n1_ := Aside0.mk (Kd.R_below (by (with_reducible repeat (first | apply Kd.R_alloc | apply Kd.R_drewN | apply Kd.R_drew)); exact HO184.out) hb); have n2_ := Aside0.mk (below_step (by repeat (first | (with_reducible first | exact HB.out | apply below_alloc | apply pw_below_drewN | apply below_drew1) | exact HB.out)) hb); clear HO179; clear HO184; clear HB; have HO179 := n0_; have HO184 := n1_; have HB := n2_; clear n0_ n1_ n2_; (try clear hb); (try clear hb2); (try clear hk); (try clear hi)))
                              go_ret
                              exact ⟨by first | rfl | (simp [errW_none, errW_some] <;> rfl) | (simp [*, errW_none, errW_some] <;> rfl), by repeat (first | (with_reducible first | exact HB.out | apply below_alloc | apply pw_below_drewN | apply below_drew1) | exact HB.out)⟩
                            · rw [if_neg c24] at H
                              exact absurd H (by simp)
                          · rw [if_neg c23] at H
                            exact absurd H (by simp)
                        · rw [if_neg c22] at H
                          exact absurd H (by simp)
                      · rw [if_neg c21] at H
                        exact absurd H (by simp)
                    · rw [if_neg c20] at H
                      exact absurd H (by simp)
                  · rw [if_neg c19] at H
                    exact absurd H (by simp)
                · rw [if_neg c18] at H
                  exact absurd H (by simp)
            · replace c16 := Bool.eq_false_iff.mpr c16
              subst c16
              have H1 : (none) = some r := by rw [if_neg (show ¬ (false = true) by decide)] at H; exact H
              clear H
              have H := H1
              clear H1
              exact absurd H (by simp)
          · rw [if_neg c15] at H
            exact absurd H (by simp)
        · rw [if_neg c14] at H
          exact absurd H (by simp)
      · rw [if_neg c13] at H
        exact absurd H (by simp)
    · rw [if_neg c12] at H
      exact absurd H (by simp)
  · rw [if_neg c11] at H
    exact absurd H (by simp)

/-! ### linhayref02_whole: function 35 -/
set_option maxHeartbeats 1000000 in
theorem linhayref02_whole.walk (a b c d : Int) (w : World) (ha : 0 ≤ a) (hb : 0 ≤ b) (hc : 0 ≤ c) (hd : 0 ≤ d) (ha' : a < 4294967296) (hb' : b < 4294967296) (hc' : c < 4294967296) (hd' : d < 4294967296) :
    Calls Try.prog 35 #[.agg #[.int .u64 a, .int .u64 b, .int .u64 c, .int .u64 d]] w fun e w' => e = .returned (.agg #[.int .u64 (d * 4294967296 + c), .int .u64 (b * 4294967296 + a)]) ∧ w' = (w.alloc (.cells #[.int .u64 a, .int .u64 b, .int .u64 c, .int .u64 d] 55)).alloc (.cells #[.int .u64 (d * 4294967296 + c), .int .u64 (b * 4294967296 + a)] 43) := by
  go_enter Try.func35, Try.ntmps35
  go_wp2
  refine bodyPost_ret (v := .agg #[.int .u64 (d * 4294967296 + c), .int .u64 (b * 4294967296 + a)]) (by simp [results, Try.results35, go_sem]) rfl ⟨rfl, rfl⟩

end Go.Proofs.Ytnobdpenncfghaa.Print
