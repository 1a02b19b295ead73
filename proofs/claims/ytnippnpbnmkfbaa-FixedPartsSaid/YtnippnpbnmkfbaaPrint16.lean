/- Lean functions that answer what Go functions of the translation answer, and the proofs of it. Written by a program of this session (wip/tools/seatprint.py), over contracts that it proved by hand. Conditions: those that each theorem says. -/
import Derived.Test.YtnippnpbnmkfbaaPrint0
import Derived.Test.YtnippnpbnmkfbaaPrint5
import Derived.Test.YtnippnpbnmkfbaaPrint8
namespace Go.Proofs.Ytnippnpbnmkfbaa.Print
open Go.RowKit Go.Proofs.YtnippnpbnmkfbaaW.PrintWords Go.Proofs.YtnippnpbnmkfbaaW.PrintLast Go.Proofs.YtnippnpbnmkfbaaW.PrintMore
attribute [local go_sem] max2_int min2_int max_two min_two max_three min_three max_four min_four   -- for this text's walks alone
set_option linter.unusedVariables false
set_option linter.unusedSimpArgs false

/-! ### linhaylaw04_FixedParts: function 4 -/
def linhaylaw04_FixedParts.f (k : Nat) (a0 : Int) (a1 : Int) (a2 : Int) : Option (Bool) := (linhaylaw04_awake.f k).bind fun t231 => ((fixed_Of.f k (IntKind.u64.wrap (a1)) 1).bind fun bt232 => ((fixed_Of.f k (IntKind.u64.wrap (a2)) 1).bind fun bt234 => ((fixed_Mul.f k bt232.1 bt234.1).bind fun t236 => (if t231 = true then ((fixed_Whole.f a0).bind fun t237 => ((fixed_Part.f a0).bind fun t238 => (if (IntKind.u64.wrap ((IntKind.u64.wrap (t237 * 4294967296)) + t238)) = a0 then ((fixed_Part.f a0).bind fun t239 => (if t239 < 4294967296 then (if bt232.2 = 0 then (if bt234.2 = 0 then ((fixed_Whole.f t236).bind fun t240 => (if t240 = (IntKind.u64.wrap ((IntKind.u64.wrap (a1)) * (IntKind.u64.wrap (a2)))) then ((fixed_Part.f t236).bind fun t241 => (if t241 = 0 then ((fixed_Mul.f k a0 4294967296).bind fun t242 => (if t242 = a0 then ((fixed_Whole.f bt232.1).bind fun t243 => (some (t243 == (IntKind.u64.wrap (a1))))) else (none))) else (if (IntKind.u64.wrap ((IntKind.u64.wrap (a1)) * (IntKind.u64.wrap (a2)))) ≥ 4294967296 then ((fixed_Mul.f k a0 4294967296).bind fun t244 => (if t244 = a0 then ((fixed_Whole.f bt232.1).bind fun t245 => (some (t245 == (IntKind.u64.wrap (a1))))) else (none))) else (none)))) else (if (IntKind.u64.wrap ((IntKind.u64.wrap (a1)) * (IntKind.u64.wrap (a2)))) ≥ 4294967296 then ((fixed_Mul.f k a0 4294967296).bind fun t246 => (if t246 = a0 then ((fixed_Whole.f bt232.1).bind fun t247 => (some (t247 == (IntKind.u64.wrap (a1))))) else (none))) else (none)))) else (none)) else (none)) else (none))) else (none)))) else (none)))))
theorem linhaylaw04_FixedParts.mono : ∀ a0 a1 a2 k, LeO (linhaylaw04_FixedParts.f k a0 a1 a2) (linhaylaw04_FixedParts.f (k + 1) a0 a1 a2) := by
  intro a0 a1 a2 k
  unfold linhaylaw04_FixedParts.f
  repeat' first
      | (with_reducible exact fixed_Mul.mono _ _ _)
      | (with_reducible exact fixed_Of.mono _ _ _)
      | (with_reducible exact linhaylaw04_awake.mono _)
      | (with_reducible exact LeO.refl _)
      | (with_reducible exact LeO.none _)
      | (with_reducible refine LeO.ite ?_ ?_)
      | (with_reducible refine LeO.bind ?_ (fun _ => ?_))
      | exact fixed_Mul.mono _ _ _
      | exact fixed_Of.mono _ _ _
      | exact linhaylaw04_awake.mono _
      | exact LeO.none _
      | refine LeO.ite ?_ ?_
      | refine LeO.bind ?_ (fun _ => ?_)
set_option maxHeartbeats 8000000 in
set_option maxRecDepth 100000 in
theorem linhaylaw04_FixedParts.calls (k : Nat) (a0 : Int) (a1 : Int) (a2 : Int) (r : Bool) (w : World) (h : linhaylaw04_FixedParts.f k a0 a1 a2 = some r) :
    Calls Try.prog 4 #[.int .u64 a0, .int .u16 a1, .int .u16 a2] w fun e w' => e = .returned (.bool r) ∧ Below w.heap.size w w' := by
  have HB := Aside0.mk (Below.refl w.heap.size w)
  have H : ((linhaylaw04_awake.f k).bind fun t231 => ((fixed_Of.f k (IntKind.u64.wrap (a1)) 1).bind fun bt232 => ((fixed_Of.f k (IntKind.u64.wrap (a2)) 1).bind fun bt234 => ((fixed_Mul.f k bt232.1 bt234.1).bind fun t236 => (if t231 = true then ((fixed_Whole.f a0).bind fun t237 => ((fixed_Part.f a0).bind fun t238 => (if (IntKind.u64.wrap ((IntKind.u64.wrap (t237 * 4294967296)) + t238)) = a0 then ((fixed_Part.f a0).bind fun t239 => (if t239 < 4294967296 then (if bt232.2 = 0 then (if bt234.2 = 0 then ((fixed_Whole.f t236).bind fun t240 => (if t240 = (IntKind.u64.wrap ((IntKind.u64.wrap (a1)) * (IntKind.u64.wrap (a2)))) then ((fixed_Part.f t236).bind fun t241 => (if t241 = 0 then ((fixed_Mul.f k a0 4294967296).bind fun t242 => (if t242 = a0 then ((fixed_Whole.f bt232.1).bind fun t243 => (some (t243 == (IntKind.u64.wrap (a1))))) else (none))) else (if (IntKind.u64.wrap ((IntKind.u64.wrap (a1)) * (IntKind.u64.wrap (a2)))) ≥ 4294967296 then ((fixed_Mul.f k a0 4294967296).bind fun t244 => (if t244 = a0 then ((fixed_Whole.f bt232.1).bind fun t245 => (some (t245 == (IntKind.u64.wrap (a1))))) else (none))) else (none)))) else (if (IntKind.u64.wrap ((IntKind.u64.wrap (a1)) * (IntKind.u64.wrap (a2)))) ≥ 4294967296 then ((fixed_Mul.f k a0 4294967296).bind fun t246 => (if t246 = a0 then ((fixed_Whole.f bt232.1).bind fun t247 => (some (t247 == (IntKind.u64.wrap (a1))))) else (none))) else (none)))) else (none)) else (none)) else (none))) else (none)))) else (none)))))) = some r := h
  clear h
  replace H := Option.bind_eq_some_iff.mp H
  obtain ⟨t231, A40, H⟩ := H
  replace H : ((fixed_Of.f k (IntKind.u64.wrap (a1)) 1).bind fun bt232 => ((fixed_Of.f k (IntKind.u64.wrap (a2)) 1).bind fun bt234 => ((fixed_Mul.f k bt232.1 bt234.1).bind fun t236 => (if t231 = true then ((fixed_Whole.f a0).bind fun t237 => ((fixed_Part.f a0).bind fun t238 => (if (IntKind.u64.wrap ((IntKind.u64.wrap (t237 * 4294967296)) + t238)) = a0 then ((fixed_Part.f a0).bind fun t239 => (if t239 < 4294967296 then (if bt232.2 = 0 then (if bt234.2 = 0 then ((fixed_Whole.f t236).bind fun t240 => (if t240 = (IntKind.u64.wrap ((IntKind.u64.wrap (a1)) * (IntKind.u64.wrap (a2)))) then ((fixed_Part.f t236).bind fun t241 => (if t241 = 0 then ((fixed_Mul.f k a0 4294967296).bind fun t242 => (if t242 = a0 then ((fixed_Whole.f bt232.1).bind fun t243 => (some (t243 == (IntKind.u64.wrap (a1))))) else (none))) else (if (IntKind.u64.wrap ((IntKind.u64.wrap (a1)) * (IntKind.u64.wrap (a2)))) ≥ 4294967296 then ((fixed_Mul.f k a0 4294967296).bind fun t244 => (if t244 = a0 then ((fixed_Whole.f bt232.1).bind fun t245 => (some (t245 == (IntKind.u64.wrap (a1))))) else (none))) else (none)))) else (if (IntKind.u64.wrap ((IntKind.u64.wrap (a1)) * (IntKind.u64.wrap (a2)))) ≥ 4294967296 then ((fixed_Mul.f k a0 4294967296).bind fun t246 => (if t246 = a0 then ((fixed_Whole.f bt232.1).bind fun t247 => (some (t247 == (IntKind.u64.wrap (a1))))) else (none))) else (none)))) else (none)) else (none)) else (none))) else (none)))) else (none))))) = some r := H
  have A4 := Aside0.mk A40
  clear A40
  replace H := Option.bind_eq_some_iff.mp H
  obtain ⟨⟨t232, t233⟩, A50, H⟩ := H
  replace H : ((fixed_Of.f k (IntKind.u64.wrap (a2)) 1).bind fun bt234 => ((fixed_Mul.f k t232 bt234.1).bind fun t236 => (if t231 = true then ((fixed_Whole.f a0).bind fun t237 => ((fixed_Part.f a0).bind fun t238 => (if (IntKind.u64.wrap ((IntKind.u64.wrap (t237 * 4294967296)) + t238)) = a0 then ((fixed_Part.f a0).bind fun t239 => (if t239 < 4294967296 then (if t233 = 0 then (if bt234.2 = 0 then ((fixed_Whole.f t236).bind fun t240 => (if t240 = (IntKind.u64.wrap ((IntKind.u64.wrap (a1)) * (IntKind.u64.wrap (a2)))) then ((fixed_Part.f t236).bind fun t241 => (if t241 = 0 then ((fixed_Mul.f k a0 4294967296).bind fun t242 => (if t242 = a0 then ((fixed_Whole.f t232).bind fun t243 => (some (t243 == (IntKind.u64.wrap (a1))))) else (none))) else (if (IntKind.u64.wrap ((IntKind.u64.wrap (a1)) * (IntKind.u64.wrap (a2)))) ≥ 4294967296 then ((fixed_Mul.f k a0 4294967296).bind fun t244 => (if t244 = a0 then ((fixed_Whole.f t232).bind fun t245 => (some (t245 == (IntKind.u64.wrap (a1))))) else (none))) else (none)))) else (if (IntKind.u64.wrap ((IntKind.u64.wrap (a1)) * (IntKind.u64.wrap (a2)))) ≥ 4294967296 then ((fixed_Mul.f k a0 4294967296).bind fun t246 => (if t246 = a0 then ((fixed_Whole.f t232).bind fun t247 => (some (t247 == (IntKind.u64.wrap (a1))))) else (none))) else (none)))) else (none)) else (none)) else (none))) else (none)))) else (none)))) = some r := H
  have A5 := Aside0.mk A50
  clear A50
  replace H := Option.bind_eq_some_iff.mp H
  obtain ⟨⟨t234, t235⟩, A60, H⟩ := H
  replace H : ((fixed_Mul.f k t232 t234).bind fun t236 => (if t231 = true then ((fixed_Whole.f a0).bind fun t237 => ((fixed_Part.f a0).bind fun t238 => (if (IntKind.u64.wrap ((IntKind.u64.wrap (t237 * 4294967296)) + t238)) = a0 then ((fixed_Part.f a0).bind fun t239 => (if t239 < 4294967296 then (if t233 = 0 then (if t235 = 0 then ((fixed_Whole.f t236).bind fun t240 => (if t240 = (IntKind.u64.wrap ((IntKind.u64.wrap (a1)) * (IntKind.u64.wrap (a2)))) then ((fixed_Part.f t236).bind fun t241 => (if t241 = 0 then ((fixed_Mul.f k a0 4294967296).bind fun t242 => (if t242 = a0 then ((fixed_Whole.f t232).bind fun t243 => (some (t243 == (IntKind.u64.wrap (a1))))) else (none))) else (if (IntKind.u64.wrap ((IntKind.u64.wrap (a1)) * (IntKind.u64.wrap (a2)))) ≥ 4294967296 then ((fixed_Mul.f k a0 4294967296).bind fun t244 => (if t244 = a0 then ((fixed_Whole.f t232).bind fun t245 => (some (t245 == (IntKind.u64.wrap (a1))))) else (none))) else (none)))) else (if (IntKind.u64.wrap ((IntKind.u64.wrap (a1)) * (IntKind.u64.wrap (a2)))) ≥ 4294967296 then ((fixed_Mul.f k a0 4294967296).bind fun t246 => (if t246 = a0 then ((fixed_Whole.f t232).bind fun t247 => (some (t247 == (IntKind.u64.wrap (a1))))) else (none))) else (none)))) else (none)) else (none)) else (none))) else (none)))) else (none))) = some r := H
  have A6 := Aside0.mk A60
  clear A60
  replace H := Option.bind_eq_some_iff.mp H
  obtain ⟨t236, A70, H⟩ := H
  replace H : (if t231 = true then ((fixed_Whole.f a0).bind fun t237 => ((fixed_Part.f a0).bind fun t238 => (if (IntKind.u64.wrap ((IntKind.u64.wrap (t237 * 4294967296)) + t238)) = a0 then ((fixed_Part.f a0).bind fun t239 => (if t239 < 4294967296 then (if t233 = 0 then (if t235 = 0 then ((fixed_Whole.f t236).bind fun t240 => (if t240 = (IntKind.u64.wrap ((IntKind.u64.wrap (a1)) * (IntKind.u64.wrap (a2)))) then ((fixed_Part.f t236).bind fun t241 => (if t241 = 0 then ((fixed_Mul.f k a0 4294967296).bind fun t242 => (if t242 = a0 then ((fixed_Whole.f t232).bind fun t243 => (some (t243 == (IntKind.u64.wrap (a1))))) else (none))) else (if (IntKind.u64.wrap ((IntKind.u64.wrap (a1)) * (IntKind.u64.wrap (a2)))) ≥ 4294967296 then ((fixed_Mul.f k a0 4294967296).bind fun t244 => (if t244 = a0 then ((fixed_Whole.f t232).bind fun t245 => (some (t245 == (IntKind.u64.wrap (a1))))) else (none))) else (none)))) else (if (IntKind.u64.wrap ((IntKind.u64.wrap (a1)) * (IntKind.u64.wrap (a2)))) ≥ 4294967296 then ((fixed_Mul.f k a0 4294967296).bind fun t246 => (if t246 = a0 then ((fixed_Whole.f t232).bind fun t247 => (some (t247 == (IntKind.u64.wrap (a1))))) else (none))) else (none)))) else (none)) else (none)) else (none))) else (none)))) else (none)) = some r := H
  have A7 := Aside0.mk A70
  clear A70
  by_cases c8 : t231 = true
  · subst c8
    have H1 : ((fixed_Whole.f a0).bind fun t237 => ((fixed_Part.f a0).bind fun t238 => (if (IntKind.u64.wrap ((IntKind.u64.wrap (t237 * 4294967296)) + t238)) = a0 then ((fixed_Part.f a0).bind fun t239 => (if t239 < 4294967296 then (if t233 = 0 then (if t235 = 0 then ((fixed_Whole.f t236).bind fun t240 => (if t240 = (IntKind.u64.wrap ((IntKind.u64.wrap (a1)) * (IntKind.u64.wrap (a2)))) then ((fixed_Part.f t236).bind fun t241 => (if t241 = 0 then ((fixed_Mul.f k a0 4294967296).bind fun t242 => (if t242 = a0 then ((fixed_Whole.f t232).bind fun t243 => (some (t243 == (IntKind.u64.wrap (a1))))) else (none))) else (if (IntKind.u64.wrap ((IntKind.u64.wrap (a1)) * (IntKind.u64.wrap (a2)))) ≥ 4294967296 then ((fixed_Mul.f k a0 4294967296).bind fun t244 => (if t244 = a0 then ((fixed_Whole.f t232).bind fun t245 => (some (t245 == (IntKind.u64.wrap (a1))))) else (none))) else (none)))) else (if (IntKind.u64.wrap ((IntKind.u64.wrap (a1)) * (IntKind.u64.wrap (a2)))) ≥ 4294967296 then ((fixed_Mul.f k a0 4294967296).bind fun t246 => (if t246 = a0 then ((fixed_Whole.f t232).bind fun t247 => (some (t247 == (IntKind.u64.wrap (a1))))) else (none))) else (none)))) else (none)) else (none)) else (none))) else (none)))) = some r := by rw [if_pos rfl] at H; exact H
    clear H
    have H := H1
    clear H1
    replace H := Option.bind_eq_some_iff.mp H
    obtain ⟨t237, A90, H⟩ := H
    replace H : ((fixed_Part.f a0).bind fun t238 => (if (IntKind.u64.wrap ((IntKind.u64.wrap (t237 * 4294967296)) + t238)) = a0 then ((fixed_Part.f a0).bind fun t239 => (if t239 < 4294967296 then (if t233 = 0 then (if t235 = 0 then ((fixed_Whole.f t236).bind fun t240 => (if t240 = (IntKind.u64.wrap ((IntKind.u64.wrap (a1)) * (IntKind.u64.wrap (a2)))) then ((fixed_Part.f t236).bind fun t241 => (if t241 = 0 then ((fixed_Mul.f k a0 4294967296).bind fun t242 => (if t242 = a0 then ((fixed_Whole.f t232).bind fun t243 => (some (t243 == (IntKind.u64.wrap (a1))))) else (none))) else (if (IntKind.u64.wrap ((IntKind.u64.wrap (a1)) * (IntKind.u64.wrap (a2)))) ≥ 4294967296 then ((fixed_Mul.f k a0 4294967296).bind fun t244 => (if t244 = a0 then ((fixed_Whole.f t232).bind fun t245 => (some (t245 == (IntKind.u64.wrap (a1))))) else (none))) else (none)))) else (if (IntKind.u64.wrap ((IntKind.u64.wrap (a1)) * (IntKind.u64.wrap (a2)))) ≥ 4294967296 then ((fixed_Mul.f k a0 4294967296).bind fun t246 => (if t246 = a0 then ((fixed_Whole.f t232).bind fun t247 => (some (t247 == (IntKind.u64.wrap (a1))))) else (none))) else (none)))) else (none)) else (none)) else (none))) else (none))) = some r := H
    have A9 := Aside0.mk A90
    clear A90
    replace H := Option.bind_eq_some_iff.mp H
    obtain ⟨t238, A100, H⟩ := H
    replace H : (if (IntKind.u64.wrap ((IntKind.u64.wrap (t237 * 4294967296)) + t238)) = a0 then ((fixed_Part.f a0).bind fun t239 => (if t239 < 4294967296 then (if t233 = 0 then (if t235 = 0 then ((fixed_Whole.f t236).bind fun t240 => (if t240 = (IntKind.u64.wrap ((IntKind.u64.wrap (a1)) * (IntKind.u64.wrap (a2)))) then ((fixed_Part.f t236).bind fun t241 => (if t241 = 0 then ((fixed_Mul.f k a0 4294967296).bind fun t242 => (if t242 = a0 then ((fixed_Whole.f t232).bind fun t243 => (some (t243 == (IntKind.u64.wrap (a1))))) else (none))) else (if (IntKind.u64.wrap ((IntKind.u64.wrap (a1)) * (IntKind.u64.wrap (a2)))) ≥ 4294967296 then ((fixed_Mul.f k a0 4294967296).bind fun t244 => (if t244 = a0 then ((fixed_Whole.f t232).bind fun t245 => (some (t245 == (IntKind.u64.wrap (a1))))) else (none))) else (none)))) else (if (IntKind.u64.wrap ((IntKind.u64.wrap (a1)) * (IntKind.u64.wrap (a2)))) ≥ 4294967296 then ((fixed_Mul.f k a0 4294967296).bind fun t246 => (if t246 = a0 then ((fixed_Whole.f t232).bind fun t247 => (some (t247 == (IntKind.u64.wrap (a1))))) else (none))) else (none)))) else (none)) else (none)) else (none))) else (none)) = some r := H
    have A10 := Aside0.mk A100
    clear A100
    by_cases c11 : (IntKind.u64.wrap ((IntKind.u64.wrap (t237 * 4294967296)) + t238)) = a0
    · rw [if_pos c11] at H
      have c11b0 : ((IntKind.u64.wrap ((IntKind.u64.wrap (t237 * 4294967296)) + t238)) == a0) = true := beq_iff_eq.mpr c11
      have c11b1 : ((IntKind.u64.wrap ((IntKind.u64.wrap (t237 * 4294967296)) + t238)) != a0) = false := bne_eq_false_iff_eq.mpr c11
      clear c11
      replace H := Option.bind_eq_some_iff.mp H
      obtain ⟨t239, A120, H⟩ := H
      obtain rfl := Option.some.inj (A10.out.symm.trans A120)
      replace H : (if t238 < 4294967296 then (if t233 = 0 then (if t235 = 0 then ((fixed_Whole.f t236).bind fun t240 => (if t240 = (IntKind.u64.wrap ((IntKind.u64.wrap (a1)) * (IntKind.u64.wrap (a2)))) then ((fixed_Part.f t236).bind fun t241 => (if t241 = 0 then ((fixed_Mul.f k a0 4294967296).bind fun t242 => (if t242 = a0 then ((fixed_Whole.f t232).bind fun t243 => (some (t243 == (IntKind.u64.wrap (a1))))) else (none))) else (if (IntKind.u64.wrap ((IntKind.u64.wrap (a1)) * (IntKind.u64.wrap (a2)))) ≥ 4294967296 then ((fixed_Mul.f k a0 4294967296).bind fun t244 => (if t244 = a0 then ((fixed_Whole.f t232).bind fun t245 => (some (t245 == (IntKind.u64.wrap (a1))))) else (none))) else (none)))) else (if (IntKind.u64.wrap ((IntKind.u64.wrap (a1)) * (IntKind.u64.wrap (a2)))) ≥ 4294967296 then ((fixed_Mul.f k a0 4294967296).bind fun t246 => (if t246 = a0 then ((fixed_Whole.f t232).bind fun t247 => (some (t247 == (IntKind.u64.wrap (a1))))) else (none))) else (none)))) else (none)) else (none)) else (none)) = some r := H
      have A12 := Aside0.mk A120
      clear A120
      by_cases c13 : t238 < 4294967296
      · rw [if_pos c13] at H
        have c13b0 : decide (t238 < 4294967296) = true := decide_eq_true c13
        clear c13
        by_cases c14 : t233 = 0
        · rw [if_pos c14] at H
          have c14b0 : (t233 == 0) = true := beq_iff_eq.mpr c14
          have c14b1 : (t233 != 0) = false := bne_eq_false_iff_eq.mpr c14
          clear c14
          by_cases c15 : t235 = 0
          · rw [if_pos c15] at H
            have c15b0 : (t235 == 0) = true := beq_iff_eq.mpr c15
            have c15b1 : (t235 != 0) = false := bne_eq_false_iff_eq.mpr c15
            clear c15
            replace H := Option.bind_eq_some_iff.mp H
            obtain ⟨t240, A160, H⟩ := H
            replace H : (if t240 = (IntKind.u64.wrap ((IntKind.u64.wrap (a1)) * (IntKind.u64.wrap (a2)))) then ((fixed_Part.f t236).bind fun t241 => (if t241 = 0 then ((fixed_Mul.f k a0 4294967296).bind fun t242 => (if t242 = a0 then ((fixed_Whole.f t232).bind fun t243 => (some (t243 == (IntKind.u64.wrap (a1))))) else (none))) else (if (IntKind.u64.wrap ((IntKind.u64.wrap (a1)) * (IntKind.u64.wrap (a2)))) ≥ 4294967296 then ((fixed_Mul.f k a0 4294967296).bind fun t244 => (if t244 = a0 then ((fixed_Whole.f t232).bind fun t245 => (some (t245 == (IntKind.u64.wrap (a1))))) else (none))) else (none)))) else (if (IntKind.u64.wrap ((IntKind.u64.wrap (a1)) * (IntKind.u64.wrap (a2)))) ≥ 4294967296 then ((fixed_Mul.f k a0 4294967296).bind fun t246 => (if t246 = a0 then ((fixed_Whole.f t232).bind fun t247 => (some (t247 == (IntKind.u64.wrap (a1))))) else (none))) else (none))) = some r := H
            have A16 := Aside0.mk A160
            clear A160
            by_cases c17 : t240 = (IntKind.u64.wrap ((IntKind.u64.wrap (a1)) * (IntKind.u64.wrap (a2))))
            · rw [if_pos c17] at H
              have c17b0 : (t240 == (IntKind.u64.wrap ((IntKind.u64.wrap (a1)) * (IntKind.u64.wrap (a2))))) = true := beq_iff_eq.mpr c17
              have c17b1 : (t240 != (IntKind.u64.wrap ((IntKind.u64.wrap (a1)) * (IntKind.u64.wrap (a2))))) = false := bne_eq_false_iff_eq.mpr c17
              clear c17
              replace H := Option.bind_eq_some_iff.mp H
              obtain ⟨t241, A180, H⟩ := H
              replace H : (if t241 = 0 then ((fixed_Mul.f k a0 4294967296).bind fun t242 => (if t242 = a0 then ((fixed_Whole.f t232).bind fun t243 => (some (t243 == (IntKind.u64.wrap (a1))))) else (none))) else (if (IntKind.u64.wrap ((IntKind.u64.wrap (a1)) * (IntKind.u64.wrap (a2)))) ≥ 4294967296 then ((fixed_Mul.f k a0 4294967296).bind fun t244 => (if t244 = a0 then ((fixed_Whole.f t232).bind fun t245 => (some (t245 == (IntKind.u64.wrap (a1))))) else (none))) else (none))) = some r := H
              have A18 := Aside0.mk A180
              clear A180
              by_cases c19 : t241 = 0
              · rw [if_pos c19] at H
                have c19b0 : (t241 == 0) = true := beq_iff_eq.mpr c19
                have c19b1 : (t241 != 0) = false := bne_eq_false_iff_eq.mpr c19
                clear c19
                replace H := Option.bind_eq_some_iff.mp H
                obtain ⟨t242, A200, H⟩ := H
                replace H : (if t242 = a0 then ((fixed_Whole.f t232).bind fun t243 => (some (t243 == (IntKind.u64.wrap (a1))))) else (none)) = some r := H
                have A20 := Aside0.mk A200
                clear A200
                by_cases c21 : t242 = a0
                · rw [if_pos c21] at H
                  have c21b0 : (t242 == a0) = true := beq_iff_eq.mpr c21
                  have c21b1 : (t242 != a0) = false := bne_eq_false_iff_eq.mpr c21
                  clear c21
                  replace H := Option.bind_eq_some_iff.mp H
                  obtain ⟨t243, A220, H⟩ := H
                  replace H : (some (t243 == (IntKind.u64.wrap (a1)))) = some r := H
                  have A22 := Aside0.mk A220
                  clear A220
                  obtain rfl := Option.some.inj H
                  go_enter Try.func4, Try.ntmps4
                  go_wp2_with (first | ((with_reducible refine gate_callee (f := 9) rfl ?_); refine goesL_ (some 13) rfl rfl Try.func9 (by kernel_rfl) rfl #[] rfl (by (try simp only [List.map_toArray, List.map_cons, List.map_nil]); first | done | rfl | (simp only [List.length_drop, List.length_take]; rfl)) ?_; (with_reducible refine (linhaylaw04_awake.calls k  true _ A4.out).mono ?_); rintro e w23 ⟨rfl, hb⟩; refine ⟨_, rfl, ?_⟩; have n0_ := Aside0.mk (below_step (by repeat (first | (with_reducible first | exact HB.out | apply below_alloc | apply pw_below_drewN | apply below_drew1) | exact HB.out)) hb); clear HB; have HB := n0_; clear n0_; (try clear hb); (try clear hb2); (try clear hk); (try clear hi)) | ((with_reducible refine gate_callee (f := 10) rfl ?_); refine goesL_ (some 17) rfl rfl Try.func10 (by kernel_rfl) rfl #[.int .u64 (IntKind.u64.wrap (a1)), .int .u64 1] rfl (by (try simp only [List.map_toArray, List.map_cons, List.map_nil]); first | done | rfl | (simp only [List.length_drop, List.length_take]; rfl)) ?_; (with_reducible refine (fixed_Of.calls k (IntKind.u64.wrap (a1)) 1 t232 t233 _ A5.out).mono ?_); rintro e w24 ⟨rfl, hb⟩; refine ⟨_, rfl, ?_⟩; have n0_ := Aside0.mk (below_step (by repeat (first | (with_reducible first | exact HB.out | apply below_alloc | apply pw_below_drewN | apply below_drew1) | exact HB.out)) hb); clear HB; have HB := n0_; clear n0_; (try clear hb); (try clear hb2); (try clear hk); (try clear hi)) | ((with_reducible refine gate_callee (f := 10) rfl ?_); refine goesL_ (some 23) rfl rfl Try.func10 (by kernel_rfl) rfl #[.int .u64 (IntKind.u64.wrap (a2)), .int .u64 1] rfl (by (try simp only [List.map_toArray, List.map_cons, List.map_nil]); first | done | rfl | (simp only [List.length_drop, List.length_take]; rfl)) ?_; (with_reducible refine (fixed_Of.calls k (IntKind.u64.wrap (a2)) 1 t234 t235 _ A6.out).mono ?_); rintro e w25 ⟨rfl, hb⟩; refine ⟨_, rfl, ?_⟩; have n0_ := Aside0.mk (below_step (by repeat (first | (with_reducible first | exact HB.out | apply below_alloc | apply pw_below_drewN | apply below_drew1) | exact HB.out)) hb); clear HB; have HB := n0_; clear n0_; (try clear hb); (try clear hb2); (try clear hk); (try clear hi)) | ((with_reducible refine gate_callee (f := 14) rfl ?_); refine goesL_ (some 28) rfl rfl Try.func14 (by kernel_rfl) rfl #[.int .u64 t232, .int .u64 t234] rfl (by (try simp only [List.map_toArray, List.map_cons, List.map_nil]); first | done | rfl | (simp only [List.length_drop, List.length_take]; rfl)) ?_; (with_reducible refine (fixed_Mul.calls k t232 t234 t236 _ A7.out).mono ?_); rintro e w26 ⟨rfl, hb⟩; refine ⟨_, rfl, ?_⟩; have n0_ := Aside0.mk (below_step (by repeat (first | (with_reducible first | exact HB.out | apply below_alloc | apply pw_below_drewN | apply below_drew1) | exact HB.out)) hb); clear HB; have HB := n0_; clear n0_; (try clear hb); (try clear hb2); (try clear hk); (try clear hi)) | (go_at_call 16; (with_reducible refine (fixed_Whole.calls a0 t237 _ A9.out).mono ?_); rintro e w' ⟨rfl, ⟨nd, rfl⟩⟩) | (go_at_call 18; (with_reducible refine (fixed_Part.calls a0 t238 _ A10.out).mono ?_); rintro e w' ⟨rfl, ⟨nd, rfl⟩⟩) | (go_at_call 18; (with_reducible refine (fixed_Part.calls a0 t238 _ A12.out).mono ?_); rintro e w' ⟨rfl, ⟨nd, rfl⟩⟩) | (go_at_call 16; (with_reducible refine (fixed_Whole.calls t236 t240 _ A16.out).mono ?_); rintro e w' ⟨rfl, ⟨nd, rfl⟩⟩) | (go_at_call 18; (with_reducible refine (fixed_Part.calls t236 t241 _ A18.out).mono ?_); rintro e w' ⟨rfl, ⟨nd, rfl⟩⟩) | (go_at_call 14; (with_reducible refine (fixed_Mul.calls k a0 4294967296 t242 _ A20.out).mono ?_); rintro e w27 ⟨rfl, hb⟩; have n0_ := Aside0.mk (below_step (by repeat (first | (with_reducible first | exact HB.out | apply below_alloc | apply pw_below_drewN | apply below_drew1) | exact HB.out)) hb); clear HB; have HB := n0_; clear n0_; (try clear hb); (try clear hb2); (try clear hk); (try clear hi)) | (go_at_call 16; (with_reducible refine (fixed_Whole.calls t232 t243 _ A22.out).mono ?_); rintro e w' ⟨rfl, ⟨nd, rfl⟩⟩) | (go_at_call 9; (with_reducible refine (linhaylaw04_awake.calls k  true _ A4.out).mono ?_); rintro e w23 ⟨rfl, hb⟩; have n0_ := Aside0.mk (below_step (by repeat (first | (with_reducible first | exact HB.out | apply below_alloc | apply pw_below_drewN | apply below_drew1) | exact HB.out)) hb); clear HB; have HB := n0_; clear n0_; (try clear hb); (try clear hb2); (try clear hk); (try clear hi)) | (go_at_call 10; (with_reducible refine (fixed_Of.calls k (IntKind.u64.wrap (a1)) 1 t232 t233 _ A5.out).mono ?_); rintro e w24 ⟨rfl, hb⟩; have n0_ := Aside0.mk (below_step (by repeat (first | (with_reducible first | exact HB.out | apply below_alloc | apply pw_below_drewN | apply below_drew1) | exact HB.out)) hb); clear HB; have HB := n0_; clear n0_; (try clear hb); (try clear hb2); (try clear hk); (try clear hi)) | (go_at_call 10; (with_reducible refine (fixed_Of.calls k (IntKind.u64.wrap (a2)) 1 t234 t235 _ A6.out).mono ?_); rintro e w25 ⟨rfl, hb⟩; have n0_ := Aside0.mk (below_step (by repeat (first | (with_reducible first | exact HB.out | apply below_alloc | apply pw_below_drewN | apply below_drew1) | exact HB.out)) hb); clear HB; have HB := n0_; clear n0_; (try clear hb); (try clear hb2); (try clear hk); (try clear hi)) | (go_at_call 14; (with_reducible refine (fixed_Mul.calls k t232 t234 t236 _ A7.out).mono ?_); rintro e w26 ⟨rfl, hb⟩; have n0_ := Aside0.mk (below_step (by repeat (first | (with_reducible first | exact HB.out | apply below_alloc | apply pw_below_drewN | apply below_drew1) | exact HB.out)) hb); clear HB; have HB := n0_; clear n0_; (try clear hb); (try clear hb2); (try clear hk); (try clear hi)))
                  go_ret
                  exact ⟨by first | rfl | (simp [errW_none, errW_some] <;> rfl) | (simp [*, errW_none, errW_some] <;> rfl), by repeat (first | (with_reducible first | exact HB.out | apply below_alloc | apply pw_below_drewN | apply below_drew1) | exact HB.out)⟩
                · rw [if_neg c21] at H
                  exact absurd H (by simp)
              · rw [if_neg c19] at H
                have c19b0 : (t241 == 0) = false := beq_eq_false_iff_ne.mpr c19
                have c19b1 : (t241 != 0) = true := bne_iff_ne.mpr c19
                by_cases c28 : (IntKind.u64.wrap ((IntKind.u64.wrap (a1)) * (IntKind.u64.wrap (a2)))) ≥ 4294967296
                · rw [if_pos c28] at H
                  have c28b0 : decide (4294967296 ≤ (IntKind.u64.wrap ((IntKind.u64.wrap (a1)) * (IntKind.u64.wrap (a2))))) = true := decide_eq_true c28
                  clear c28
                  replace H := Option.bind_eq_some_iff.mp H
                  obtain ⟨t244, A290, H⟩ := H
                  replace H : (if t244 = a0 then ((fixed_Whole.f t232).bind fun t245 => (some (t245 == (IntKind.u64.wrap (a1))))) else (none)) = some r := H
                  have A29 := Aside0.mk A290
                  clear A290
                  by_cases c30 : t244 = a0
                  · rw [if_pos c30] at H
                    have c30b0 : (t244 == a0) = true := beq_iff_eq.mpr c30
                    have c30b1 : (t244 != a0) = false := bne_eq_false_iff_eq.mpr c30
                    clear c30
                    replace H := Option.bind_eq_some_iff.mp H
                    obtain ⟨t245, A310, H⟩ := H
                    replace H : (some (t245 == (IntKind.u64.wrap (a1)))) = some r := H
                    have A31 := Aside0.mk A310
                    clear A310
                    obtain rfl := Option.some.inj H
                    go_enter Try.func4, Try.ntmps4
                    go_wp2_with (first | ((with_reducible refine gate_callee (f := 9) rfl ?_); refine goesL_ (some 13) rfl rfl Try.func9 (by kernel_rfl) rfl #[] rfl (by (try simp only [List.map_toArray, List.map_cons, List.map_nil]); first | done | rfl | (simp only [List.length_drop, List.length_take]; rfl)) ?_; (with_reducible refine (linhaylaw04_awake.calls k  true _ A4.out).mono ?_); rintro e w32 ⟨rfl, hb⟩; refine ⟨_, rfl, ?_⟩; have n0_ := Aside0.mk (below_step (by repeat (first | (with_reducible first | exact HB.out | apply below_alloc | apply pw_below_drewN | apply below_drew1) | exact HB.out)) hb); clear HB; have HB := n0_; clear n0_; (try clear hb); (try clear hb2); (try clear hk); (try clear hi)) | ((with_reducible refine gate_callee (f := 10) rfl ?_); refine goesL_ (some 17) rfl rfl Try.func10 (by kernel_rfl) rfl #[.int .u64 (IntKind.u64.wrap (a1)), .int .u64 1] rfl (by (try simp only [List.map_toArray, List.map_cons, List.map_nil]); first | done | rfl | (simp only [List.length_drop, List.length_take]; rfl)) ?_; (with_reducible refine (fixed_Of.calls k (IntKind.u64.wrap (a1)) 1 t232 t233 _ A5.out).mono ?_); rintro e w33 ⟨rfl, hb⟩; refine ⟨_, rfl, ?_⟩; have n0_ := Aside0.mk (below_step (by repeat (first | (with_reducible first | exact HB.out | apply below_alloc | apply pw_below_drewN | apply below_drew1) | exact HB.out)) hb); clear HB; have HB := n0_; clear n0_; (try clear hb); (try clear hb2); (try clear hk); (try clear hi)) | ((with_reducible refine gate_callee (f := 10) rfl ?_); refine goesL_ (some 23) rfl rfl Try.func10 (by kernel_rfl) rfl #[.int .u64 (IntKind.u64.wrap (a2)), .int .u64 1] rfl (by (try simp only [List.map_toArray, List.map_cons, List.map_nil]); first | done | rfl | (simp only [List.length_drop, List.length_take]; rfl)) ?_; (with_reducible refine (fixed_Of.calls k (IntKind.u64.wrap (a2)) 1 t234 t235 _ A6.out).mono ?_); rintro e w34 ⟨rfl, hb⟩; refine ⟨_, rfl, ?_⟩; have n0_ := Aside0.mk (below_step (by repeat (first | (with_reducible first | exact HB.out | apply below_alloc | apply pw_below_drewN | apply below_drew1) | exact HB.out)) hb); clear HB; have HB := n0_; clear n0_; (try clear hb); (try clear hb2); (try clear hk); (try clear hi)) | ((with_reducible refine gate_callee (f := 14) rfl ?_); refine goesL_ (some 28) rfl rfl Try.func14 (by kernel_rfl) rfl #[.int .u64 t232, .int .u64 t234] rfl (by (try simp only [List.map_toArray, List.map_cons, List.map_nil]); first | done | rfl | (simp only [List.length_drop, List.length_take]; rfl)) ?_; (with_reducible refine (fixed_Mul.calls k t232 t234 t236 _ A7.out).mono ?_); rintro e w35 ⟨rfl, hb⟩; refine ⟨_, rfl, ?_⟩; have n0_ := Aside0.mk (below_step (by repeat (first | (with_reducible first | exact HB.out | apply below_alloc | apply pw_below_drewN | apply below_drew1) | exact HB.out)) hb); clear HB; have HB := n0_; clear n0_; (try clear hb); (try clear hb2); (try clear hk); (try clear hi)) | (go_at_call 16; (with_reducible refine (fixed_Whole.calls a0 t237 _ A9.out).mono ?_); rintro e w' ⟨rfl, ⟨nd, rfl⟩⟩) | (go_at_call 18; (with_reducible refine (fixed_Part.calls a0 t238 _ A10.out).mono ?_); rintro e w' ⟨rfl, ⟨nd, rfl⟩⟩) | (go_at_call 18; (with_reducible refine (fixed_Part.calls a0 t238 _ A12.out).mono ?_); rintro e w' ⟨rfl, ⟨nd, rfl⟩⟩) | (go_at_call 16; (with_reducible refine (fixed_Whole.calls t236 t240 _ A16.out).mono ?_); rintro e w' ⟨rfl, ⟨nd, rfl⟩⟩) | (go_at_call 18; (with_reducible refine (fixed_Part.calls t236 t241 _ A18.out).mono ?_); rintro e w' ⟨rfl, ⟨nd, rfl⟩⟩) | (go_at_call 14; (with_reducible refine (fixed_Mul.calls k a0 4294967296 t244 _ A29.out).mono ?_); rintro e w36 ⟨rfl, hb⟩; have n0_ := Aside0.mk (below_step (by repeat (first | (with_reducible first | exact HB.out | apply below_alloc | apply pw_below_drewN | apply below_drew1) | exact HB.out)) hb); clear HB; have HB := n0_; clear n0_; (try clear hb); (try clear hb2); (try clear hk); (try clear hi)) | (go_at_call 16; (with_reducible refine (fixed_Whole.calls t232 t245 _ A31.out).mono ?_); rintro e w' ⟨rfl, ⟨nd, rfl⟩⟩) | (go_at_call 9; (with_reducible refine (linhaylaw04_awake.calls k  true _ A4.out).mono ?_); rintro e w32 ⟨rfl, hb⟩; have n0_ := Aside0.mk (below_step (by repeat (first | (with_reducible first | exact HB.out | apply below_alloc | apply pw_below_drewN | apply below_drew1) | exact HB.out)) hb); clear HB; have HB := n0_; clear n0_; (try clear hb); (try clear hb2); (try clear hk); (try clear hi)) | (go_at_call 10; (with_reducible refine (fixed_Of.calls k (IntKind.u64.wrap (a1)) 1 t232 t233 _ A5.out).mono ?_); rintro e w33 ⟨rfl, hb⟩; have n0_ := Aside0.mk (below_step (by repeat (first | (with_reducible first | exact HB.out | apply below_alloc | apply pw_below_drewN | apply below_drew1) | exact HB.out)) hb); clear HB; have HB := n0_; clear n0_; (try clear hb); (try clear hb2); (try clear hk); (try clear hi)) | (go_at_call 10; (with_reducible refine (fixed_Of.calls k (IntKind.u64.wrap (a2)) 1 t234 t235 _ A6.out).mono ?_); rintro e w34 ⟨rfl, hb⟩; have n0_ := Aside0.mk (below_step (by repeat (first | (with_reducible first | exact HB.out | apply below_alloc | apply pw_below_drewN | apply below_drew1) | exact HB.out)) hb); clear HB; have HB := n0_; clear n0_; (try clear hb); (try clear hb2); (try clear hk); (try clear hi)) | (go_at_call 14; (with_reducible refine (fixed_Mul.calls k t232 t234 t236 _ A7.out).mono ?_); rintro e w35 ⟨rfl, hb⟩; have n0_ := Aside0.mk (below_step (by repeat (first | (with_reducible first | exact HB.out | apply below_alloc | apply pw_below_drewN | apply below_drew1) | exact HB.out)) hb); clear HB; have HB := n0_; clear n0_; (try clear hb); (try clear hb2); (try clear hk); (try clear hi)))
                    go_ret
                    exact ⟨by first | rfl | (simp [errW_none, errW_some] <;> rfl) | (simp [*, errW_none, errW_some] <;> rfl), by repeat (first | (with_reducible first | exact HB.out | apply below_alloc | apply pw_below_drewN | apply below_drew1) | exact HB.out)⟩
                  · rw [if_neg c30] at H
                    exact absurd H (by simp)
                · rw [if_neg c28] at H
                  exact absurd H (by simp)
            · rw [if_neg c17] at H
              have c17b0 : (t240 == (IntKind.u64.wrap ((IntKind.u64.wrap (a1)) * (IntKind.u64.wrap (a2))))) = false := beq_eq_false_iff_ne.mpr c17
              have c17b1 : (t240 != (IntKind.u64.wrap ((IntKind.u64.wrap (a1)) * (IntKind.u64.wrap (a2))))) = true := bne_iff_ne.mpr c17
              by_cases c37 : (IntKind.u64.wrap ((IntKind.u64.wrap (a1)) * (IntKind.u64.wrap (a2)))) ≥ 4294967296
              · rw [if_pos c37] at H
                have c37b0 : decide (4294967296 ≤ (IntKind.u64.wrap ((IntKind.u64.wrap (a1)) * (IntKind.u64.wrap (a2))))) = true := decide_eq_true c37
                clear c37
                replace H := Option.bind_eq_some_iff.mp H
                obtain ⟨t246, A380, H⟩ := H
                replace H : (if t246 = a0 then ((fixed_Whole.f t232).bind fun t247 => (some (t247 == (IntKind.u64.wrap (a1))))) else (none)) = some r := H
                have A38 := Aside0.mk A380
                clear A380
                by_cases c39 : t246 = a0
                · rw [if_pos c39] at H
                  have c39b0 : (t246 == a0) = true := beq_iff_eq.mpr c39
                  have c39b1 : (t246 != a0) = false := bne_eq_false_iff_eq.mpr c39
                  clear c39
                  replace H := Option.bind_eq_some_iff.mp H
                  obtain ⟨t247, A400, H⟩ := H
                  replace H : (some (t247 == (IntKind.u64.wrap (a1)))) = some r := H
                  have A40 := Aside0.mk A400
                  clear A400
                  obtain rfl := Option.some.inj H
                  go_enter Try.func4, Try.ntmps4
                  go_wp2_with (first | ((with_reducible refine gate_callee (f := 9) rfl ?_); refine goesL_ (some 13) rfl rfl Try.func9 (by kernel_rfl) rfl #[] rfl (by (try simp only [List.map_toArray, List.map_cons, List.map_nil]); first | done | rfl | (simp only [List.length_drop, List.length_take]; rfl)) ?_; (with_reducible refine (linhaylaw04_awake.calls k  true _ A4.out).mono ?_); rintro e w41 ⟨rfl, hb⟩; refine ⟨_, rfl, ?_⟩; have n0_ := Aside0.mk (below_step (by repeat (first | (with_reducible first | exact HB.out | apply below_alloc | apply pw_below_drewN | apply below_drew1) | exact HB.out)) hb); clear HB; have HB := n0_; clear n0_; (try clear hb); (try clear hb2); (try clear hk); (try clear hi)) | ((with_reducible refine gate_callee (f := 10) rfl ?_); refine goesL_ (some 17) rfl rfl Try.func10 (by kernel_rfl) rfl #[.int .u64 (IntKind.u64.wrap (a1)), .int .u64 1] rfl (by (try simp only [List.map_toArray, List.map_cons, List.map_nil]); first | done | rfl | (simp only [List.length_drop, List.length_take]; rfl)) ?_; (with_reducible refine (fixed_Of.calls k (IntKind.u64.wrap (a1)) 1 t232 t233 _ A5.out).mono ?_); rintro e w42 ⟨rfl, hb⟩; refine ⟨_, rfl, ?_⟩; have n0_ := Aside0.mk (below_step (by repeat (first | (with_reducible first | exact HB.out | apply below_alloc | apply pw_below_drewN | apply below_drew1) | exact HB.out)) hb); clear HB; have HB := n0_; clear n0_; (try clear hb); (try clear hb2); (try clear hk); (try clear hi)) | ((with_reducible refine gate_callee (f := 10) rfl ?_); refine goesL_ (some 23) rfl rfl Try.func10 (by kernel_rfl) rfl #[.int .u64 (IntKind.u64.wrap (a2)), .int .u64 1] rfl (by (try simp only [List.map_toArray, List.map_cons, List.map_nil]); first | done | rfl | (simp only [List.length_drop, List.length_take]; rfl)) ?_; (with_reducible refine (fixed_Of.calls k (IntKind.u64.wrap (a2)) 1 t234 t235 _ A6.out).mono ?_); rintro e w43 ⟨rfl, hb⟩; refine ⟨_, rfl, ?_⟩; have n0_ := Aside0.mk (below_step (by repeat (first | (with_reducible first | exact HB.out | apply below_alloc | apply pw_below_drewN | apply below_drew1) | exact HB.out)) hb); clear HB; have HB := n0_; clear n0_; (try clear hb); (try clear hb2); (try clear hk); (try clear hi)) | ((with_reducible refine gate_callee (f := 14) rfl ?_); refine goesL_ (some 28) rfl rfl Try.func14 (by kernel_rfl) rfl #[.int .u64 t232, .int .u64 t234] rfl (by (try simp only [List.map_toArray, List.map_cons, List.map_nil]); first | done | rfl | (simp only [List.length_drop, List.length_take]; rfl)) ?_; (with_reducible refine (fixed_Mul.calls k t232 t234 t236 _ A7.out).mono ?_); rintro e w44 ⟨rfl, hb⟩; refine ⟨_, rfl, ?_⟩; have n0_ := Aside0.mk (below_step (by repeat (first | (with_reducible first | exact HB.out | apply below_alloc | apply pw_below_drewN | apply below_drew1) | exact HB.out)) hb); clear HB; have HB := n0_; clear n0_; (try clear hb); (try clear hb2); (try clear hk); (try clear hi)) | (go_at_call 16; (with_reducible refine (fixed_Whole.calls a0 t237 _ A9.out).mono ?_); rintro e w' ⟨rfl, ⟨nd, rfl⟩⟩) | (go_at_call 18; (with_reducible refine (fixed_Part.calls a0 t238 _ A10.out).mono ?_); rintro e w' ⟨rfl, ⟨nd, rfl⟩⟩) | (go_at_call 18; (with_reducible refine (fixed_Part.calls a0 t238 _ A12.out).mono ?_); rintro e w' ⟨rfl, ⟨nd, rfl⟩⟩) | (go_at_call 16; (with_reducible refine (fixed_Whole.calls t236 t240 _ A16.out).mono ?_); rintro e w' ⟨rfl, ⟨nd, rfl⟩⟩) | (go_at_call 14; (with_reducible refine (fixed_Mul.calls k a0 4294967296 t246 _ A38.out).mono ?_); rintro e w45 ⟨rfl, hb⟩; have n0_ := Aside0.mk (below_step (by repeat (first | (with_reducible first | exact HB.out | apply below_alloc | apply pw_below_drewN | apply below_drew1) | exact HB.out)) hb); clear HB; have HB := n0_; clear n0_; (try clear hb); (try clear hb2); (try clear hk); (try clear hi)) | (go_at_call 16; (with_reducible refine (fixed_Whole.calls t232 t247 _ A40.out).mono ?_); rintro e w' ⟨rfl, ⟨nd, rfl⟩⟩) | (go_at_call 9; (with_reducible refine (linhaylaw04_awake.calls k  true _ A4.out).mono ?_); rintro e w41 ⟨rfl, hb⟩; have n0_ := Aside0.mk (below_step (by repeat (first | (with_reducible first | exact HB.out | apply below_alloc | apply pw_below_drewN | apply below_drew1) | exact HB.out)) hb); clear HB; have HB := n0_; clear n0_; (try clear hb); (try clear hb2); (try clear hk); (try clear hi)) | (go_at_call 10; (with_reducible refine (fixed_Of.calls k (IntKind.u64.wrap (a1)) 1 t232 t233 _ A5.out).mono ?_); rintro e w42 ⟨rfl, hb⟩; have n0_ := Aside0.mk (below_step (by repeat (first | (with_reducible first | exact HB.out | apply below_alloc | apply pw_below_drewN | apply below_drew1) | exact HB.out)) hb); clear HB; have HB := n0_; clear n0_; (try clear hb); (try clear hb2); (try clear hk); (try clear hi)) | (go_at_call 10; (with_reducible refine (fixed_Of.calls k (IntKind.u64.wrap (a2)) 1 t234 t235 _ A6.out).mono ?_); rintro e w43 ⟨rfl, hb⟩; have n0_ := Aside0.mk (below_step (by repeat (first | (with_reducible first | exact HB.out | apply below_alloc | apply pw_below_drewN | apply below_drew1) | exact HB.out)) hb); clear HB; have HB := n0_; clear n0_; (try clear hb); (try clear hb2); (try clear hk); (try clear hi)) | (go_at_call 14; (with_reducible refine (fixed_Mul.calls k t232 t234 t236 _ A7.out).mono ?_); rintro e w44 ⟨rfl, hb⟩; have n0_ := Aside0.mk (below_step (by repeat (first | (with_reducible first | exact HB.out | apply below_alloc | apply pw_below_drewN | apply below_drew1) | exact HB.out)) hb); clear HB; have HB := n0_; clear n0_; (try clear hb); (try clear hb2); (try clear hk); (try clear hi)))
                  go_ret
                  exact ⟨by first | rfl | (simp [errW_none, errW_some] <;> rfl) | (simp [*, errW_none, errW_some] <;> rfl), by repeat (first | (with_reducible first | exact HB.out | apply below_alloc | apply pw_below_drewN | apply below_drew1) | exact HB.out)⟩
                · rw [if_neg c39] at H
                  exact absurd H (by simp)
              · rw [if_neg c37] at H
                exact absurd H (by simp)
          · rw [if_neg c15] at H
            exact absurd H (by simp)
        · rw [if_neg c14] at H
          exact absurd H (by simp)
      · rw [if_neg c13] at H
        exact absurd H (by simp)
    · rw [if_neg c11] at H
      exact absurd H (by simp)
  · replace c8 := Bool.eq_false_iff.mpr c8
    subst c8
    have H1 : (none) = some r := by rw [if_neg (show ¬ (false = true) by decide)] at H; exact H
    clear H
    have H := H1
    clear H1
    exact absurd H (by simp)

/-- THE ONE PURE STATEMENT of linhaylaw04_FixedParts: yours. -/
def linhaylaw04_FixedParts.Pure : Prop := ∀ (a0 : Int) (a1 : Int) (a2 : Int), (Lit.int .u64 a0).wf = true → (Lit.int .u16 a1).wf = true → (Lit.int .u16 a2).wf = true → ∃ k, linhaylaw04_FixedParts.f k a0 a1 a2 = some true
theorem linhaylaw04_FixedParts.walk (P : linhaylaw04_FixedParts.Pure) (a0 : Int) (a1 : Int) (a2 : Int) (w : World) (w0 : (Lit.int .u64 a0).wf = true) (w1 : (Lit.int .u16 a1).wf = true) (w2 : (Lit.int .u16 a2).wf = true) :
    Calls Try.prog 4 #[.int .u64 a0, .int .u16 a1, .int .u16 a2] w fun e w' => e = .returned (.bool true) ∧ Below w.heap.size w w' := by
  obtain ⟨k, h⟩ := P a0 a1 a2 w0 w1 w2
  refine (linhaylaw04_FixedParts.calls k a0 a1 a2 true w h).mono ?_
  rintro e w' ⟨rfl, hd⟩
  exact ⟨rfl, hd⟩

end Go.Proofs.Ytnippnpbnmkfbaa.Print
