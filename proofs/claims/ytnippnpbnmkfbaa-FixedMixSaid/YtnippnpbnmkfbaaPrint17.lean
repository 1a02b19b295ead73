/- Lean functions that answer what Go functions of the translation answer, and the proofs of it. Written by a program of this session (wip/tools/seatprint.py), over contracts that it proved by hand. Conditions: those that each theorem says. -/
import Derived.Test.YtnippnpbnmkfbaaPrint0
import Derived.Test.YtnippnpbnmkfbaaPrint7
import Derived.Test.YtnippnpbnmkfbaaPrint8
namespace Go.Proofs.Ytnippnpbnmkfbaa.Print
open Go.RowKit Go.Proofs.YtnippnpbnmkfbaaW.PrintWords Go.Proofs.YtnippnpbnmkfbaaW.PrintLast Go.Proofs.YtnippnpbnmkfbaaW.PrintMore
attribute [local go_sem] max2_int min2_int max_two min_two max_three min_three max_four min_four   -- for this text's walks alone
set_option linter.unusedVariables false
set_option linter.unusedSimpArgs false

/-! ### linhaylaw04_FixedMix: function 5 -/
def linhaylaw04_FixedMix.f (k : Nat) (a0 : Int) (a1 : Int) (a2 : Int) (a3 : Int) : Option (Bool) := (linhaylaw04_awake.f k).bind fun t248 => ((fixed_Mix.f k a0 a1 a2).bind fun t249 => ((fixed_Mix.f k a0 a1 a3).bind fun t250 => (if a0 > a1 then (if t248 = true then (if t249 ≥ (mn a0 a1) then (if t249 ≤ (mx a0 a1) then ((fixed_Mix.f k a0 a1 0).bind fun t251 => (if t251 = a0 then ((fixed_Mix.f k a0 a1 (mx a2 4294967296)).bind fun t252 => (if t252 = a1 then ((fixed_Mix.f k a0 a0 a2).bind fun t253 => (if t253 = a0 then (some true) else (none))) else (none))) else (none))) else (none)) else (none)) else (none)) else (if (mn a2 a3) = a2 then (if t249 ≤ t250 then (if t248 = true then (if t249 ≥ (mn a0 a1) then (if t249 ≤ (mx a0 a1) then ((fixed_Mix.f k a0 a1 0).bind fun t254 => (if t254 = a0 then ((fixed_Mix.f k a0 a1 (mx a2 4294967296)).bind fun t255 => (if t255 = a1 then ((fixed_Mix.f k a0 a0 a2).bind fun t256 => (if t256 = a0 then (some true) else (none))) else (none))) else (none))) else (none)) else (none)) else (none)) else (if (mn a2 a3) = a3 then (if t248 = true then (if t249 ≥ (mn a0 a1) then (if t249 ≤ (mx a0 a1) then ((fixed_Mix.f k a0 a1 0).bind fun t257 => (if t257 = a0 then ((fixed_Mix.f k a0 a1 (mx a2 4294967296)).bind fun t258 => (if t258 = a1 then ((fixed_Mix.f k a0 a0 a2).bind fun t259 => (if t259 = a0 then (some (decide (t250 ≤ t249))) else (none))) else (none))) else (none))) else (none)) else (none)) else (none)) else (none))) else (if (mn a2 a3) = a3 then (if t248 = true then (if t249 ≥ (mn a0 a1) then (if t249 ≤ (mx a0 a1) then ((fixed_Mix.f k a0 a1 0).bind fun t263 => (if t263 = a0 then ((fixed_Mix.f k a0 a1 (mx a2 4294967296)).bind fun t264 => (if t264 = a1 then ((fixed_Mix.f k a0 a0 a2).bind fun t265 => (if t265 = a0 then (some (decide (t250 ≤ t249))) else (none))) else (none))) else (none))) else (none)) else (none)) else (none)) else (none))))))
theorem linhaylaw04_FixedMix.mono : ∀ a0 a1 a2 a3 k, LeO (linhaylaw04_FixedMix.f k a0 a1 a2 a3) (linhaylaw04_FixedMix.f (k + 1) a0 a1 a2 a3) := by
  intro a0 a1 a2 a3 k
  unfold linhaylaw04_FixedMix.f
  repeat' first
      | (with_reducible exact fixed_Mix.mono _ _ _ _)
      | (with_reducible exact linhaylaw04_awake.mono _)
      | (with_reducible exact LeO.refl _)
      | (with_reducible exact LeO.none _)
      | (with_reducible refine LeO.ite ?_ ?_)
      | (with_reducible refine LeO.bind ?_ (fun _ => ?_))
      | exact fixed_Mix.mono _ _ _ _
      | exact linhaylaw04_awake.mono _
      | exact LeO.none _
      | refine LeO.ite ?_ ?_
      | refine LeO.bind ?_ (fun _ => ?_)
set_option maxHeartbeats 8000000 in
set_option maxRecDepth 100000 in
theorem linhaylaw04_FixedMix.calls (k : Nat) (a0 : Int) (a1 : Int) (a2 : Int) (a3 : Int) (r : Bool) (w : World) (h : linhaylaw04_FixedMix.f k a0 a1 a2 a3 = some r) :
    Calls Try.prog 5 #[.int .u64 a0, .int .u64 a1, .int .u64 a2, .int .u64 a3] w fun e w' => e = .returned (.bool r) ∧ Below w.heap.size w w' := by
  have HB := Aside0.mk (Below.refl w.heap.size w)
  have H : ((linhaylaw04_awake.f k).bind fun t248 => ((fixed_Mix.f k a0 a1 a2).bind fun t249 => ((fixed_Mix.f k a0 a1 a3).bind fun t250 => (if a0 > a1 then (if t248 = true then (if t249 ≥ (mn a0 a1) then (if t249 ≤ (mx a0 a1) then ((fixed_Mix.f k a0 a1 0).bind fun t251 => (if t251 = a0 then ((fixed_Mix.f k a0 a1 (mx a2 4294967296)).bind fun t252 => (if t252 = a1 then ((fixed_Mix.f k a0 a0 a2).bind fun t253 => (if t253 = a0 then (some true) else (none))) else (none))) else (none))) else (none)) else (none)) else (none)) else (if (mn a2 a3) = a2 then (if t249 ≤ t250 then (if t248 = true then (if t249 ≥ (mn a0 a1) then (if t249 ≤ (mx a0 a1) then ((fixed_Mix.f k a0 a1 0).bind fun t254 => (if t254 = a0 then ((fixed_Mix.f k a0 a1 (mx a2 4294967296)).bind fun t255 => (if t255 = a1 then ((fixed_Mix.f k a0 a0 a2).bind fun t256 => (if t256 = a0 then (some true) else (none))) else (none))) else (none))) else (none)) else (none)) else (none)) else (if (mn a2 a3) = a3 then (if t248 = true then (if t249 ≥ (mn a0 a1) then (if t249 ≤ (mx a0 a1) then ((fixed_Mix.f k a0 a1 0).bind fun t257 => (if t257 = a0 then ((fixed_Mix.f k a0 a1 (mx a2 4294967296)).bind fun t258 => (if t258 = a1 then ((fixed_Mix.f k a0 a0 a2).bind fun t259 => (if t259 = a0 then (some (decide (t250 ≤ t249))) else (none))) else (none))) else (none))) else (none)) else (none)) else (none)) else (none))) else (if (mn a2 a3) = a3 then (if t248 = true then (if t249 ≥ (mn a0 a1) then (if t249 ≤ (mx a0 a1) then ((fixed_Mix.f k a0 a1 0).bind fun t263 => (if t263 = a0 then ((fixed_Mix.f k a0 a1 (mx a2 4294967296)).bind fun t264 => (if t264 = a1 then ((fixed_Mix.f k a0 a0 a2).bind fun t265 => (if t265 = a0 then (some (decide (t250 ≤ t249))) else (none))) else (none))) else (none))) else (none)) else (none)) else (none)) else (none))))))) = some r := h
  clear h
  replace H := Option.bind_eq_some_iff.mp H
  obtain ⟨t248, A50, H⟩ := H
  replace H : ((fixed_Mix.f k a0 a1 a2).bind fun t249 => ((fixed_Mix.f k a0 a1 a3).bind fun t250 => (if a0 > a1 then (if t248 = true then (if t249 ≥ (mn a0 a1) then (if t249 ≤ (mx a0 a1) then ((fixed_Mix.f k a0 a1 0).bind fun t251 => (if t251 = a0 then ((fixed_Mix.f k a0 a1 (mx a2 4294967296)).bind fun t252 => (if t252 = a1 then ((fixed_Mix.f k a0 a0 a2).bind fun t253 => (if t253 = a0 then (some true) else (none))) else (none))) else (none))) else (none)) else (none)) else (none)) else (if (mn a2 a3) = a2 then (if t249 ≤ t250 then (if t248 = true then (if t249 ≥ (mn a0 a1) then (if t249 ≤ (mx a0 a1) then ((fixed_Mix.f k a0 a1 0).bind fun t254 => (if t254 = a0 then ((fixed_Mix.f k a0 a1 (mx a2 4294967296)).bind fun t255 => (if t255 = a1 then ((fixed_Mix.f k a0 a0 a2).bind fun t256 => (if t256 = a0 then (some true) else (none))) else (none))) else (none))) else (none)) else (none)) else (none)) else (if (mn a2 a3) = a3 then (if t248 = true then (if t249 ≥ (mn a0 a1) then (if t249 ≤ (mx a0 a1) then ((fixed_Mix.f k a0 a1 0).bind fun t257 => (if t257 = a0 then ((fixed_Mix.f k a0 a1 (mx a2 4294967296)).bind fun t258 => (if t258 = a1 then ((fixed_Mix.f k a0 a0 a2).bind fun t259 => (if t259 = a0 then (some (decide (t250 ≤ t249))) else (none))) else (none))) else (none))) else (none)) else (none)) else (none)) else (none))) else (if (mn a2 a3) = a3 then (if t248 = true then (if t249 ≥ (mn a0 a1) then (if t249 ≤ (mx a0 a1) then ((fixed_Mix.f k a0 a1 0).bind fun t263 => (if t263 = a0 then ((fixed_Mix.f k a0 a1 (mx a2 4294967296)).bind fun t264 => (if t264 = a1 then ((fixed_Mix.f k a0 a0 a2).bind fun t265 => (if t265 = a0 then (some (decide (t250 ≤ t249))) else (none))) else (none))) else (none))) else (none)) else (none)) else (none)) else (none)))))) = some r := H
  have A5 := Aside0.mk A50
  clear A50
  replace H := Option.bind_eq_some_iff.mp H
  obtain ⟨t249, A60, H⟩ := H
  replace H : ((fixed_Mix.f k a0 a1 a3).bind fun t250 => (if a0 > a1 then (if t248 = true then (if t249 ≥ (mn a0 a1) then (if t249 ≤ (mx a0 a1) then ((fixed_Mix.f k a0 a1 0).bind fun t251 => (if t251 = a0 then ((fixed_Mix.f k a0 a1 (mx a2 4294967296)).bind fun t252 => (if t252 = a1 then ((fixed_Mix.f k a0 a0 a2).bind fun t253 => (if t253 = a0 then (some true) else (none))) else (none))) else (none))) else (none)) else (none)) else (none)) else (if (mn a2 a3) = a2 then (if t249 ≤ t250 then (if t248 = true then (if t249 ≥ (mn a0 a1) then (if t249 ≤ (mx a0 a1) then ((fixed_Mix.f k a0 a1 0).bind fun t254 => (if t254 = a0 then ((fixed_Mix.f k a0 a1 (mx a2 4294967296)).bind fun t255 => (if t255 = a1 then ((fixed_Mix.f k a0 a0 a2).bind fun t256 => (if t256 = a0 then (some true) else (none))) else (none))) else (none))) else (none)) else (none)) else (none)) else (if (mn a2 a3) = a3 then (if t248 = true then (if t249 ≥ (mn a0 a1) then (if t249 ≤ (mx a0 a1) then ((fixed_Mix.f k a0 a1 0).bind fun t257 => (if t257 = a0 then ((fixed_Mix.f k a0 a1 (mx a2 4294967296)).bind fun t258 => (if t258 = a1 then ((fixed_Mix.f k a0 a0 a2).bind fun t259 => (if t259 = a0 then (some (decide (t250 ≤ t249))) else (none))) else (none))) else (none))) else (none)) else (none)) else (none)) else (none))) else (if (mn a2 a3) = a3 then (if t248 = true then (if t249 ≥ (mn a0 a1) then (if t249 ≤ (mx a0 a1) then ((fixed_Mix.f k a0 a1 0).bind fun t263 => (if t263 = a0 then ((fixed_Mix.f k a0 a1 (mx a2 4294967296)).bind fun t264 => (if t264 = a1 then ((fixed_Mix.f k a0 a0 a2).bind fun t265 => (if t265 = a0 then (some (decide (t250 ≤ t249))) else (none))) else (none))) else (none))) else (none)) else (none)) else (none)) else (none))))) = some r := H
  have A6 := Aside0.mk A60
  clear A60
  replace H := Option.bind_eq_some_iff.mp H
  obtain ⟨t250, A70, H⟩ := H
  replace H : (if a0 > a1 then (if t248 = true then (if t249 ≥ (mn a0 a1) then (if t249 ≤ (mx a0 a1) then ((fixed_Mix.f k a0 a1 0).bind fun t251 => (if t251 = a0 then ((fixed_Mix.f k a0 a1 (mx a2 4294967296)).bind fun t252 => (if t252 = a1 then ((fixed_Mix.f k a0 a0 a2).bind fun t253 => (if t253 = a0 then (some true) else (none))) else (none))) else (none))) else (none)) else (none)) else (none)) else (if (mn a2 a3) = a2 then (if t249 ≤ t250 then (if t248 = true then (if t249 ≥ (mn a0 a1) then (if t249 ≤ (mx a0 a1) then ((fixed_Mix.f k a0 a1 0).bind fun t254 => (if t254 = a0 then ((fixed_Mix.f k a0 a1 (mx a2 4294967296)).bind fun t255 => (if t255 = a1 then ((fixed_Mix.f k a0 a0 a2).bind fun t256 => (if t256 = a0 then (some true) else (none))) else (none))) else (none))) else (none)) else (none)) else (none)) else (if (mn a2 a3) = a3 then (if t248 = true then (if t249 ≥ (mn a0 a1) then (if t249 ≤ (mx a0 a1) then ((fixed_Mix.f k a0 a1 0).bind fun t257 => (if t257 = a0 then ((fixed_Mix.f k a0 a1 (mx a2 4294967296)).bind fun t258 => (if t258 = a1 then ((fixed_Mix.f k a0 a0 a2).bind fun t259 => (if t259 = a0 then (some (decide (t250 ≤ t249))) else (none))) else (none))) else (none))) else (none)) else (none)) else (none)) else (none))) else (if (mn a2 a3) = a3 then (if t248 = true then (if t249 ≥ (mn a0 a1) then (if t249 ≤ (mx a0 a1) then ((fixed_Mix.f k a0 a1 0).bind fun t263 => (if t263 = a0 then ((fixed_Mix.f k a0 a1 (mx a2 4294967296)).bind fun t264 => (if t264 = a1 then ((fixed_Mix.f k a0 a0 a2).bind fun t265 => (if t265 = a0 then (some (decide (t250 ≤ t249))) else (none))) else (none))) else (none))) else (none)) else (none)) else (none)) else (none)))) = some r := H
  have A7 := Aside0.mk A70
  clear A70
  by_cases c8 : a0 > a1
  · rw [if_pos c8] at H
    have c8b0 : decide (a1 < a0) = true := decide_eq_true c8
    clear c8
    by_cases c9 : t248 = true
    · subst c9
      have H1 : (if t249 ≥ (mn a0 a1) then (if t249 ≤ (mx a0 a1) then ((fixed_Mix.f k a0 a1 0).bind fun t251 => (if t251 = a0 then ((fixed_Mix.f k a0 a1 (mx a2 4294967296)).bind fun t252 => (if t252 = a1 then ((fixed_Mix.f k a0 a0 a2).bind fun t253 => (if t253 = a0 then (some true) else (none))) else (none))) else (none))) else (none)) else (none)) = some r := by rw [if_pos rfl] at H; exact H
      clear H
      have H := H1
      clear H1
      obtain ⟨ji10, hji10⟩ : ∃ j_ : Int, (mn a0 a1) = j_ := ⟨_, rfl⟩
      replace H : (if t249 ≥ (ji10) then (if t249 ≤ (mx a0 a1) then ((fixed_Mix.f k a0 a1 0).bind fun t251 => (if t251 = a0 then ((fixed_Mix.f k a0 a1 (mx a2 4294967296)).bind fun t252 => (if t252 = a1 then ((fixed_Mix.f k a0 a0 a2).bind fun t253 => (if t253 = a0 then (some true) else (none))) else (none))) else (none))) else (none)) else (none)) = some r := by first | (rw [hji10] at H; exact H) | (simp only [hji10] at H ⊢; exact H)
      (try rw [hji10] at A5)
      (try rw [hji10] at A6)
      (try rw [hji10] at A7)
      have hji10_ : (if a1 < a0 then a1 else a0) = ji10 := hji10
      by_cases c11 : t249 ≥ (ji10)
      · rw [if_pos c11] at H
        have c11b0 : decide ((ji10) ≤ t249) = true := decide_eq_true c11
        clear c11
        obtain ⟨ji12, hji12⟩ : ∃ j_ : Int, (mx a0 a1) = j_ := ⟨_, rfl⟩
        replace H : (if t249 ≤ (ji12) then ((fixed_Mix.f k a0 a1 0).bind fun t251 => (if t251 = a0 then ((fixed_Mix.f k a0 a1 (mx a2 4294967296)).bind fun t252 => (if t252 = a1 then ((fixed_Mix.f k a0 a0 a2).bind fun t253 => (if t253 = a0 then (some true) else (none))) else (none))) else (none))) else (none)) = some r := by first | (rw [hji12] at H; exact H) | (simp only [hji12] at H ⊢; exact H)
        (try rw [hji12] at A5)
        (try rw [hji12] at A6)
        (try rw [hji12] at A7)
        have hji12_ : (if a0 < a1 then a1 else a0) = ji12 := hji12
        by_cases c13 : t249 ≤ (ji12)
        · rw [if_pos c13] at H
          have c13b0 : decide (t249 ≤ (ji12)) = true := decide_eq_true c13
          clear c13
          replace H := Option.bind_eq_some_iff.mp H
          obtain ⟨t251, A140, H⟩ := H
          replace H : (if t251 = a0 then ((fixed_Mix.f k a0 a1 (mx a2 4294967296)).bind fun t252 => (if t252 = a1 then ((fixed_Mix.f k a0 a0 a2).bind fun t253 => (if t253 = a0 then (some true) else (none))) else (none))) else (none)) = some r := H
          have A14 := Aside0.mk A140
          clear A140
          by_cases c15 : t251 = a0
          · rw [if_pos c15] at H
            have c15b0 : (t251 == a0) = true := beq_iff_eq.mpr c15
            have c15b1 : (t251 != a0) = false := bne_eq_false_iff_eq.mpr c15
            clear c15
            obtain ⟨ji16, hji16⟩ : ∃ j_ : Int, (mx a2 4294967296) = j_ := ⟨_, rfl⟩
            replace H : ((fixed_Mix.f k a0 a1 (ji16)).bind fun t252 => (if t252 = a1 then ((fixed_Mix.f k a0 a0 a2).bind fun t253 => (if t253 = a0 then (some true) else (none))) else (none))) = some r := by first | (rw [hji16] at H; exact H) | (simp only [hji16] at H ⊢; exact H)
            (try rw [hji16] at A5)
            (try rw [hji16] at A6)
            (try rw [hji16] at A7)
            (try rw [hji16] at A14)
            (try (have hji16l : 4294967296 ≤ ji16 := by (rw [← hji16]; unfold mx; (repeat' split) <;> omega)))
            (try (have hji16m : 0 ≤ ji16 := by omega))
            have hji16_ : (if a2 < 4294967296 then 4294967296 else a2) = ji16 := hji16
            replace H := Option.bind_eq_some_iff.mp H
            obtain ⟨t252, A170, H⟩ := H
            replace H : (if t252 = a1 then ((fixed_Mix.f k a0 a0 a2).bind fun t253 => (if t253 = a0 then (some true) else (none))) else (none)) = some r := H
            have A17 := Aside0.mk A170
            clear A170
            by_cases c18 : t252 = a1
            · rw [if_pos c18] at H
              have c18b0 : (t252 == a1) = true := beq_iff_eq.mpr c18
              have c18b1 : (t252 != a1) = false := bne_eq_false_iff_eq.mpr c18
              clear c18
              replace H := Option.bind_eq_some_iff.mp H
              obtain ⟨t253, A190, H⟩ := H
              replace H : (if t253 = a0 then (some true) else (none)) = some r := H
              have A19 := Aside0.mk A190
              clear A190
              by_cases c20 : t253 = a0
              · rw [if_pos c20] at H
                have c20b0 : (t253 == a0) = true := beq_iff_eq.mpr c20
                have c20b1 : (t253 != a0) = false := bne_eq_false_iff_eq.mpr c20
                clear c20
                obtain rfl := Option.some.inj H
                go_enter Try.func5, Try.ntmps5
                go_wp2_with (first | ((with_reducible refine gate_callee (f := 9) rfl ?_); refine goesL_ (some 13) rfl rfl Try.func9 (by kernel_rfl) rfl #[] rfl (by (try simp only [List.map_toArray, List.map_cons, List.map_nil]); first | done | rfl | (simp only [List.length_drop, List.length_take]; rfl)) ?_; (with_reducible refine (linhaylaw04_awake.calls k  true _ A5.out).mono ?_); rintro e w21 ⟨rfl, hb⟩; refine ⟨_, rfl, ?_⟩; have n0_ := Aside0.mk (below_step (by repeat (first | (with_reducible first | exact HB.out | apply below_alloc | apply pw_below_drewN | apply below_drew1) | exact HB.out)) hb); clear HB; have HB := n0_; clear n0_; (try clear hb); (try clear hb2); (try clear hk); (try clear hi)) | ((with_reducible refine gate_callee (f := 20) rfl ?_); refine goesL_ (some 17) rfl rfl Try.func20 (by kernel_rfl) rfl #[.int .u64 a0, .int .u64 a1, .int .u64 a2] rfl (by (try simp only [List.map_toArray, List.map_cons, List.map_nil]); first | done | rfl | (simp only [List.length_drop, List.length_take]; rfl)) ?_; (with_reducible refine (fixed_Mix.calls k a0 a1 a2 t249 _ A6.out).mono ?_); rintro e w22 ⟨rfl, hb⟩; refine ⟨_, rfl, ?_⟩; have n0_ := Aside0.mk (below_step (by repeat (first | (with_reducible first | exact HB.out | apply below_alloc | apply pw_below_drewN | apply below_drew1) | exact HB.out)) hb); clear HB; have HB := n0_; clear n0_; (try clear hb); (try clear hb2); (try clear hk); (try clear hi)) | ((with_reducible refine gate_callee (f := 20) rfl ?_); refine goesL_ (some 21) rfl rfl Try.func20 (by kernel_rfl) rfl #[.int .u64 a0, .int .u64 a1, .int .u64 a3] rfl (by (try simp only [List.map_toArray, List.map_cons, List.map_nil]); first | done | rfl | (simp only [List.length_drop, List.length_take]; rfl)) ?_; (with_reducible refine (fixed_Mix.calls k a0 a1 a3 t250 _ A7.out).mono ?_); rintro e w23 ⟨rfl, hb⟩; refine ⟨_, rfl, ?_⟩; have n0_ := Aside0.mk (below_step (by repeat (first | (with_reducible first | exact HB.out | apply below_alloc | apply pw_below_drewN | apply below_drew1) | exact HB.out)) hb); clear HB; have HB := n0_; clear n0_; (try clear hb); (try clear hb2); (try clear hk); (try clear hi)) | (go_at_call 20; (with_reducible refine (fixed_Mix.calls k a0 a1 0 t251 _ A14.out).mono ?_); rintro e w24 ⟨rfl, hb⟩; have n0_ := Aside0.mk (below_step (by repeat (first | (with_reducible first | exact HB.out | apply below_alloc | apply pw_below_drewN | apply below_drew1) | exact HB.out)) hb); clear HB; have HB := n0_; clear n0_; (try clear hb); (try clear hb2); (try clear hk); (try clear hi)) | (go_at_call 20; (with_reducible refine (fixed_Mix.calls k a0 a1 ji16 t252 _ A17.out).mono ?_); rintro e w25 ⟨rfl, hb⟩; have n0_ := Aside0.mk (below_step (by repeat (first | (with_reducible first | exact HB.out | apply below_alloc | apply pw_below_drewN | apply below_drew1) | exact HB.out)) hb); clear HB; have HB := n0_; clear n0_; (try clear hb); (try clear hb2); (try clear hk); (try clear hi)) | (go_at_call 20; (with_reducible refine (fixed_Mix.calls k a0 a0 a2 t253 _ A19.out).mono ?_); rintro e w26 ⟨rfl, hb⟩; have n0_ := Aside0.mk (below_step (by repeat (first | (with_reducible first | exact HB.out | apply below_alloc | apply pw_below_drewN | apply below_drew1) | exact HB.out)) hb); clear HB; have HB := n0_; clear n0_; (try clear hb); (try clear hb2); (try clear hk); (try clear hi)) | (go_at_call 9; (with_reducible refine (linhaylaw04_awake.calls k  true _ A5.out).mono ?_); rintro e w21 ⟨rfl, hb⟩; have n0_ := Aside0.mk (below_step (by repeat (first | (with_reducible first | exact HB.out | apply below_alloc | apply pw_below_drewN | apply below_drew1) | exact HB.out)) hb); clear HB; have HB := n0_; clear n0_; (try clear hb); (try clear hb2); (try clear hk); (try clear hi)) | (go_at_call 20; (with_reducible refine (fixed_Mix.calls k a0 a1 a2 t249 _ A6.out).mono ?_); rintro e w22 ⟨rfl, hb⟩; have n0_ := Aside0.mk (below_step (by repeat (first | (with_reducible first | exact HB.out | apply below_alloc | apply pw_below_drewN | apply below_drew1) | exact HB.out)) hb); clear HB; have HB := n0_; clear n0_; (try clear hb); (try clear hb2); (try clear hk); (try clear hi)) | (go_at_call 20; (with_reducible refine (fixed_Mix.calls k a0 a1 a3 t250 _ A7.out).mono ?_); rintro e w23 ⟨rfl, hb⟩; have n0_ := Aside0.mk (below_step (by repeat (first | (with_reducible first | exact HB.out | apply below_alloc | apply pw_below_drewN | apply below_drew1) | exact HB.out)) hb); clear HB; have HB := n0_; clear n0_; (try clear hb); (try clear hb2); (try clear hk); (try clear hi)))
                go_ret
                exact ⟨by first | rfl | (simp [errW_none, errW_some] <;> rfl) | (simp only [← hji10, ← hji12, ← hji16]; first | rfl | (simp [errW_none, errW_some] <;> rfl)) | (simp [*, errW_none, errW_some] <;> rfl), by repeat (first | (with_reducible first | exact HB.out | apply below_alloc | apply pw_below_drewN | apply below_drew1) | exact HB.out)⟩
              · rw [if_neg c20] at H
                exact absurd H (by simp)
            · rw [if_neg c18] at H
              exact absurd H (by simp)
          · rw [if_neg c15] at H
            exact absurd H (by simp)
        · rw [if_neg c13] at H
          exact absurd H (by simp)
      · rw [if_neg c11] at H
        exact absurd H (by simp)
    · replace c9 := Bool.eq_false_iff.mpr c9
      subst c9
      have H1 : (none) = some r := by rw [if_neg (show ¬ (false = true) by decide)] at H; exact H
      clear H
      have H := H1
      clear H1
      exact absurd H (by simp)
  · rw [if_neg c8] at H
    have c8b0 : decide (a1 < a0) = false := decide_eq_false c8
    clear c8
    obtain ⟨ji27, hji27⟩ : ∃ j_ : Int, (mn a2 a3) = j_ := ⟨_, rfl⟩
    replace H : (if (ji27) = a2 then (if t249 ≤ t250 then (if t248 = true then (if t249 ≥ (mn a0 a1) then (if t249 ≤ (mx a0 a1) then ((fixed_Mix.f k a0 a1 0).bind fun t254 => (if t254 = a0 then ((fixed_Mix.f k a0 a1 (mx a2 4294967296)).bind fun t255 => (if t255 = a1 then ((fixed_Mix.f k a0 a0 a2).bind fun t256 => (if t256 = a0 then (some true) else (none))) else (none))) else (none))) else (none)) else (none)) else (none)) else (if (ji27) = a3 then (if t248 = true then (if t249 ≥ (mn a0 a1) then (if t249 ≤ (mx a0 a1) then ((fixed_Mix.f k a0 a1 0).bind fun t257 => (if t257 = a0 then ((fixed_Mix.f k a0 a1 (mx a2 4294967296)).bind fun t258 => (if t258 = a1 then ((fixed_Mix.f k a0 a0 a2).bind fun t259 => (if t259 = a0 then (some (decide (t250 ≤ t249))) else (none))) else (none))) else (none))) else (none)) else (none)) else (none)) else (none))) else (if (ji27) = a3 then (if t248 = true then (if t249 ≥ (mn a0 a1) then (if t249 ≤ (mx a0 a1) then ((fixed_Mix.f k a0 a1 0).bind fun t263 => (if t263 = a0 then ((fixed_Mix.f k a0 a1 (mx a2 4294967296)).bind fun t264 => (if t264 = a1 then ((fixed_Mix.f k a0 a0 a2).bind fun t265 => (if t265 = a0 then (some (decide (t250 ≤ t249))) else (none))) else (none))) else (none))) else (none)) else (none)) else (none)) else (none))) = some r := by first | (rw [hji27] at H; exact H) | (simp only [hji27] at H ⊢; exact H)
    (try rw [hji27] at A5)
    (try rw [hji27] at A6)
    (try rw [hji27] at A7)
    have hji27_ : (if a3 < a2 then a3 else a2) = ji27 := hji27
    by_cases c28 : (ji27) = a2
    · rw [if_pos c28] at H
      have c28b0 : ((ji27) == a2) = true := beq_iff_eq.mpr c28
      have c28b1 : ((ji27) != a2) = false := bne_eq_false_iff_eq.mpr c28
      clear c28
      by_cases c29 : t249 ≤ t250
      · rw [if_pos c29] at H
        have c29b0 : decide (t249 ≤ t250) = true := decide_eq_true c29
        clear c29
        by_cases c30 : t248 = true
        · subst c30
          have H1 : (if t249 ≥ (mn a0 a1) then (if t249 ≤ (mx a0 a1) then ((fixed_Mix.f k a0 a1 0).bind fun t254 => (if t254 = a0 then ((fixed_Mix.f k a0 a1 (mx a2 4294967296)).bind fun t255 => (if t255 = a1 then ((fixed_Mix.f k a0 a0 a2).bind fun t256 => (if t256 = a0 then (some true) else (none))) else (none))) else (none))) else (none)) else (none)) = some r := by rw [if_pos rfl] at H; exact H
          clear H
          have H := H1
          clear H1
          obtain ⟨ji31, hji31⟩ : ∃ j_ : Int, (mn a0 a1) = j_ := ⟨_, rfl⟩
          replace H : (if t249 ≥ (ji31) then (if t249 ≤ (mx a0 a1) then ((fixed_Mix.f k a0 a1 0).bind fun t254 => (if t254 = a0 then ((fixed_Mix.f k a0 a1 (mx a2 4294967296)).bind fun t255 => (if t255 = a1 then ((fixed_Mix.f k a0 a0 a2).bind fun t256 => (if t256 = a0 then (some true) else (none))) else (none))) else (none))) else (none)) else (none)) = some r := by first | (rw [hji31] at H; exact H) | (simp only [hji31] at H ⊢; exact H)
          (try rw [hji31] at A5)
          (try rw [hji31] at A6)
          (try rw [hji31] at A7)
          have hji31_ : (if a1 < a0 then a1 else a0) = ji31 := hji31
          by_cases c32 : t249 ≥ (ji31)
          · rw [if_pos c32] at H
            have c32b0 : decide ((ji31) ≤ t249) = true := decide_eq_true c32
            clear c32
            obtain ⟨ji33, hji33⟩ : ∃ j_ : Int, (mx a0 a1) = j_ := ⟨_, rfl⟩
            replace H : (if t249 ≤ (ji33) then ((fixed_Mix.f k a0 a1 0).bind fun t254 => (if t254 = a0 then ((fixed_Mix.f k a0 a1 (mx a2 4294967296)).bind fun t255 => (if t255 = a1 then ((fixed_Mix.f k a0 a0 a2).bind fun t256 => (if t256 = a0 then (some true) else (none))) else (none))) else (none))) else (none)) = some r := by first | (rw [hji33] at H; exact H) | (simp only [hji33] at H ⊢; exact H)
            (try rw [hji33] at A5)
            (try rw [hji33] at A6)
            (try rw [hji33] at A7)
            have hji33_ : (if a0 < a1 then a1 else a0) = ji33 := hji33
            by_cases c34 : t249 ≤ (ji33)
            · rw [if_pos c34] at H
              have c34b0 : decide (t249 ≤ (ji33)) = true := decide_eq_true c34
              clear c34
              replace H := Option.bind_eq_some_iff.mp H
              obtain ⟨t254, A350, H⟩ := H
              replace H : (if t254 = a0 then ((fixed_Mix.f k a0 a1 (mx a2 4294967296)).bind fun t255 => (if t255 = a1 then ((fixed_Mix.f k a0 a0 a2).bind fun t256 => (if t256 = a0 then (some true) else (none))) else (none))) else (none)) = some r := H
              have A35 := Aside0.mk A350
              clear A350
              by_cases c36 : t254 = a0
              · rw [if_pos c36] at H
                have c36b0 : (t254 == a0) = true := beq_iff_eq.mpr c36
                have c36b1 : (t254 != a0) = false := bne_eq_false_iff_eq.mpr c36
                clear c36
                obtain ⟨ji37, hji37⟩ : ∃ j_ : Int, (mx a2 4294967296) = j_ := ⟨_, rfl⟩
                replace H : ((fixed_Mix.f k a0 a1 (ji37)).bind fun t255 => (if t255 = a1 then ((fixed_Mix.f k a0 a0 a2).bind fun t256 => (if t256 = a0 then (some true) else (none))) else (none))) = some r := by first | (rw [hji37] at H; exact H) | (simp only [hji37] at H ⊢; exact H)
                (try rw [hji37] at A5)
                (try rw [hji37] at A6)
                (try rw [hji37] at A7)
                (try rw [hji37] at A35)
                (try (have hji37l : 4294967296 ≤ ji37 := by (rw [← hji37]; unfold mx; (repeat' split) <;> omega)))
                (try (have hji37m : 0 ≤ ji37 := by omega))
                have hji37_ : (if a2 < 4294967296 then 4294967296 else a2) = ji37 := hji37
                replace H := Option.bind_eq_some_iff.mp H
                obtain ⟨t255, A380, H⟩ := H
                replace H : (if t255 = a1 then ((fixed_Mix.f k a0 a0 a2).bind fun t256 => (if t256 = a0 then (some true) else (none))) else (none)) = some r := H
                have A38 := Aside0.mk A380
                clear A380
                by_cases c39 : t255 = a1
                · rw [if_pos c39] at H
                  have c39b0 : (t255 == a1) = true := beq_iff_eq.mpr c39
                  have c39b1 : (t255 != a1) = false := bne_eq_false_iff_eq.mpr c39
                  clear c39
                  replace H := Option.bind_eq_some_iff.mp H
                  obtain ⟨t256, A400, H⟩ := H
                  replace H : (if t256 = a0 then (some true) else (none)) = some r := H
                  have A40 := Aside0.mk A400
                  clear A400
                  by_cases c41 : t256 = a0
                  · rw [if_pos c41] at H
                    have c41b0 : (t256 == a0) = true := beq_iff_eq.mpr c41
                    have c41b1 : (t256 != a0) = false := bne_eq_false_iff_eq.mpr c41
                    clear c41
                    obtain rfl := Option.some.inj H
                    go_enter Try.func5, Try.ntmps5
                    go_wp2_with (first | ((with_reducible refine gate_callee (f := 9) rfl ?_); refine goesL_ (some 13) rfl rfl Try.func9 (by kernel_rfl) rfl #[] rfl (by (try simp only [List.map_toArray, List.map_cons, List.map_nil]); first | done | rfl | (simp only [List.length_drop, List.length_take]; rfl)) ?_; (with_reducible refine (linhaylaw04_awake.calls k  true _ A5.out).mono ?_); rintro e w42 ⟨rfl, hb⟩; refine ⟨_, rfl, ?_⟩; have n0_ := Aside0.mk (below_step (by repeat (first | (with_reducible first | exact HB.out | apply below_alloc | apply pw_below_drewN | apply below_drew1) | exact HB.out)) hb); clear HB; have HB := n0_; clear n0_; (try clear hb); (try clear hb2); (try clear hk); (try clear hi)) | ((with_reducible refine gate_callee (f := 20) rfl ?_); refine goesL_ (some 17) rfl rfl Try.func20 (by kernel_rfl) rfl #[.int .u64 a0, .int .u64 a1, .int .u64 a2] rfl (by (try simp only [List.map_toArray, List.map_cons, List.map_nil]); first | done | rfl | (simp only [List.length_drop, List.length_take]; rfl)) ?_; (with_reducible refine (fixed_Mix.calls k a0 a1 a2 t249 _ A6.out).mono ?_); rintro e w43 ⟨rfl, hb⟩; refine ⟨_, rfl, ?_⟩; have n0_ := Aside0.mk (below_step (by repeat (first | (with_reducible first | exact HB.out | apply below_alloc | apply pw_below_drewN | apply below_drew1) | exact HB.out)) hb); clear HB; have HB := n0_; clear n0_; (try clear hb); (try clear hb2); (try clear hk); (try clear hi)) | ((with_reducible refine gate_callee (f := 20) rfl ?_); refine goesL_ (some 21) rfl rfl Try.func20 (by kernel_rfl) rfl #[.int .u64 a0, .int .u64 a1, .int .u64 a3] rfl (by (try simp only [List.map_toArray, List.map_cons, List.map_nil]); first | done | rfl | (simp only [List.length_drop, List.length_take]; rfl)) ?_; (with_reducible refine (fixed_Mix.calls k a0 a1 a3 t250 _ A7.out).mono ?_); rintro e w44 ⟨rfl, hb⟩; refine ⟨_, rfl, ?_⟩; have n0_ := Aside0.mk (below_step (by repeat (first | (with_reducible first | exact HB.out | apply below_alloc | apply pw_below_drewN | apply below_drew1) | exact HB.out)) hb); clear HB; have HB := n0_; clear n0_; (try clear hb); (try clear hb2); (try clear hk); (try clear hi)) | (go_at_call 20; (with_reducible refine (fixed_Mix.calls k a0 a1 0 t254 _ A35.out).mono ?_); rintro e w45 ⟨rfl, hb⟩; have n0_ := Aside0.mk (below_step (by repeat (first | (with_reducible first | exact HB.out | apply below_alloc | apply pw_below_drewN | apply below_drew1) | exact HB.out)) hb); clear HB; have HB := n0_; clear n0_; (try clear hb); (try clear hb2); (try clear hk); (try clear hi)) | (go_at_call 20; (with_reducible refine (fixed_Mix.calls k a0 a1 ji37 t255 _ A38.out).mono ?_); rintro e w46 ⟨rfl, hb⟩; have n0_ := Aside0.mk (below_step (by repeat (first | (with_reducible first | exact HB.out | apply below_alloc | apply pw_below_drewN | apply below_drew1) | exact HB.out)) hb); clear HB; have HB := n0_; clear n0_; (try clear hb); (try clear hb2); (try clear hk); (try clear hi)) | (go_at_call 20; (with_reducible refine (fixed_Mix.calls k a0 a0 a2 t256 _ A40.out).mono ?_); rintro e w47 ⟨rfl, hb⟩; have n0_ := Aside0.mk (below_step (by repeat (first | (with_reducible first | exact HB.out | apply below_alloc | apply pw_below_drewN | apply below_drew1) | exact HB.out)) hb); clear HB; have HB := n0_; clear n0_; (try clear hb); (try clear hb2); (try clear hk); (try clear hi)) | (go_at_call 9; (with_reducible refine (linhaylaw04_awake.calls k  true _ A5.out).mono ?_); rintro e w42 ⟨rfl, hb⟩; have n0_ := Aside0.mk (below_step (by repeat (first | (with_reducible first | exact HB.out | apply below_alloc | apply pw_below_drewN | apply below_drew1) | exact HB.out)) hb); clear HB; have HB := n0_; clear n0_; (try clear hb); (try clear hb2); (try clear hk); (try clear hi)) | (go_at_call 20; (with_reducible refine (fixed_Mix.calls k a0 a1 a2 t249 _ A6.out).mono ?_); rintro e w43 ⟨rfl, hb⟩; have n0_ := Aside0.mk (below_step (by repeat (first | (with_reducible first | exact HB.out | apply below_alloc | apply pw_below_drewN | apply below_drew1) | exact HB.out)) hb); clear HB; have HB := n0_; clear n0_; (try clear hb); (try clear hb2); (try clear hk); (try clear hi)) | (go_at_call 20; (with_reducible refine (fixed_Mix.calls k a0 a1 a3 t250 _ A7.out).mono ?_); rintro e w44 ⟨rfl, hb⟩; have n0_ := Aside0.mk (below_step (by repeat (first | (with_reducible first | exact HB.out | apply below_alloc | apply pw_below_drewN | apply below_drew1) | exact HB.out)) hb); clear HB; have HB := n0_; clear n0_; (try clear hb); (try clear hb2); (try clear hk); (try clear hi)))
                    go_ret
                    exact ⟨by first | rfl | (simp [errW_none, errW_some] <;> rfl) | (simp only [← hji27, ← hji31, ← hji33, ← hji37]; first | rfl | (simp [errW_none, errW_some] <;> rfl)) | (simp [*, errW_none, errW_some] <;> rfl), by repeat (first | (with_reducible first | exact HB.out | apply below_alloc | apply pw_below_drewN | apply below_drew1) | exact HB.out)⟩
                  · rw [if_neg c41] at H
                    exact absurd H (by simp)
                · rw [if_neg c39] at H
                  exact absurd H (by simp)
              · rw [if_neg c36] at H
                exact absurd H (by simp)
            · rw [if_neg c34] at H
              exact absurd H (by simp)
          · rw [if_neg c32] at H
            exact absurd H (by simp)
        · replace c30 := Bool.eq_false_iff.mpr c30
          subst c30
          have H1 : (none) = some r := by rw [if_neg (show ¬ (false = true) by decide)] at H; exact H
          clear H
          have H := H1
          clear H1
          exact absurd H (by simp)
      · rw [if_neg c29] at H
        have c29b0 : decide (t249 ≤ t250) = false := decide_eq_false c29
        clear c29
        by_cases c49 : (ji27) = a3
        · rw [if_pos c49] at H
          have c49b0 : ((ji27) == a3) = true := beq_iff_eq.mpr c49
          have c49b1 : ((ji27) != a3) = false := bne_eq_false_iff_eq.mpr c49
          clear c49
          by_cases c50 : t248 = true
          · subst c50
            have H1 : (if t249 ≥ (mn a0 a1) then (if t249 ≤ (mx a0 a1) then ((fixed_Mix.f k a0 a1 0).bind fun t257 => (if t257 = a0 then ((fixed_Mix.f k a0 a1 (mx a2 4294967296)).bind fun t258 => (if t258 = a1 then ((fixed_Mix.f k a0 a0 a2).bind fun t259 => (if t259 = a0 then (some (decide (t250 ≤ t249))) else (none))) else (none))) else (none))) else (none)) else (none)) = some r := by rw [if_pos rfl] at H; exact H
            clear H
            have H := H1
            clear H1
            obtain ⟨ji51, hji51⟩ : ∃ j_ : Int, (mn a0 a1) = j_ := ⟨_, rfl⟩
            replace H : (if t249 ≥ (ji51) then (if t249 ≤ (mx a0 a1) then ((fixed_Mix.f k a0 a1 0).bind fun t257 => (if t257 = a0 then ((fixed_Mix.f k a0 a1 (mx a2 4294967296)).bind fun t258 => (if t258 = a1 then ((fixed_Mix.f k a0 a0 a2).bind fun t259 => (if t259 = a0 then (some (decide (t250 ≤ t249))) else (none))) else (none))) else (none))) else (none)) else (none)) = some r := by first | (rw [hji51] at H; exact H) | (simp only [hji51] at H ⊢; exact H)
            (try rw [hji51] at A5)
            (try rw [hji51] at A6)
            (try rw [hji51] at A7)
            have hji51_ : (if a1 < a0 then a1 else a0) = ji51 := hji51
            by_cases c52 : t249 ≥ (ji51)
            · rw [if_pos c52] at H
              have c52b0 : decide ((ji51) ≤ t249) = true := decide_eq_true c52
              clear c52
              obtain ⟨ji53, hji53⟩ : ∃ j_ : Int, (mx a0 a1) = j_ := ⟨_, rfl⟩
              replace H : (if t249 ≤ (ji53) then ((fixed_Mix.f k a0 a1 0).bind fun t257 => (if t257 = a0 then ((fixed_Mix.f k a0 a1 (mx a2 4294967296)).bind fun t258 => (if t258 = a1 then ((fixed_Mix.f k a0 a0 a2).bind fun t259 => (if t259 = a0 then (some (decide (t250 ≤ t249))) else (none))) else (none))) else (none))) else (none)) = some r := by first | (rw [hji53] at H; exact H) | (simp only [hji53] at H ⊢; exact H)
              (try rw [hji53] at A5)
              (try rw [hji53] at A6)
              (try rw [hji53] at A7)
              have hji53_ : (if a0 < a1 then a1 else a0) = ji53 := hji53
              by_cases c54 : t249 ≤ (ji53)
              · rw [if_pos c54] at H
                have c54b0 : decide (t249 ≤ (ji53)) = true := decide_eq_true c54
                clear c54
                replace H := Option.bind_eq_some_iff.mp H
                obtain ⟨t257, A550, H⟩ := H
                replace H : (if t257 = a0 then ((fixed_Mix.f k a0 a1 (mx a2 4294967296)).bind fun t258 => (if t258 = a1 then ((fixed_Mix.f k a0 a0 a2).bind fun t259 => (if t259 = a0 then (some (decide (t250 ≤ t249))) else (none))) else (none))) else (none)) = some r := H
                have A55 := Aside0.mk A550
                clear A550
                by_cases c56 : t257 = a0
                · rw [if_pos c56] at H
                  have c56b0 : (t257 == a0) = true := beq_iff_eq.mpr c56
                  have c56b1 : (t257 != a0) = false := bne_eq_false_iff_eq.mpr c56
                  clear c56
                  obtain ⟨ji57, hji57⟩ : ∃ j_ : Int, (mx a2 4294967296) = j_ := ⟨_, rfl⟩
                  replace H : ((fixed_Mix.f k a0 a1 (ji57)).bind fun t258 => (if t258 = a1 then ((fixed_Mix.f k a0 a0 a2).bind fun t259 => (if t259 = a0 then (some (decide (t250 ≤ t249))) else (none))) else (none))) = some r := by first | (rw [hji57] at H; exact H) | (simp only [hji57] at H ⊢; exact H)
                  (try rw [hji57] at A5)
                  (try rw [hji57] at A6)
                  (try rw [hji57] at A7)
                  (try rw [hji57] at A55)
                  (try (have hji57l : 4294967296 ≤ ji57 := by (rw [← hji57]; unfold mx; (repeat' split) <;> omega)))
                  (try (have hji57m : 0 ≤ ji57 := by omega))
                  have hji57_ : (if a2 < 4294967296 then 4294967296 else a2) = ji57 := hji57
                  replace H := Option.bind_eq_some_iff.mp H
                  obtain ⟨t258, A580, H⟩ := H
                  replace H : (if t258 = a1 then ((fixed_Mix.f k a0 a0 a2).bind fun t259 => (if t259 = a0 then (some (decide (t250 ≤ t249))) else (none))) else (none)) = some r := H
                  have A58 := Aside0.mk A580
                  clear A580
                  by_cases c59 : t258 = a1
                  · rw [if_pos c59] at H
                    have c59b0 : (t258 == a1) = true := beq_iff_eq.mpr c59
                    have c59b1 : (t258 != a1) = false := bne_eq_false_iff_eq.mpr c59
                    clear c59
                    replace H := Option.bind_eq_some_iff.mp H
                    obtain ⟨t259, A600, H⟩ := H
                    replace H : (if t259 = a0 then (some (decide (t250 ≤ t249))) else (none)) = some r := H
                    have A60 := Aside0.mk A600
                    clear A600
                    by_cases c61 : t259 = a0
                    · rw [if_pos c61] at H
                      have c61b0 : (t259 == a0) = true := beq_iff_eq.mpr c61
                      have c61b1 : (t259 != a0) = false := bne_eq_false_iff_eq.mpr c61
                      clear c61
                      obtain rfl := Option.some.inj H
                      go_enter Try.func5, Try.ntmps5
                      go_wp2_with (first | ((with_reducible refine gate_callee (f := 9) rfl ?_); refine goesL_ (some 13) rfl rfl Try.func9 (by kernel_rfl) rfl #[] rfl (by (try simp only [List.map_toArray, List.map_cons, List.map_nil]); first | done | rfl | (simp only [List.length_drop, List.length_take]; rfl)) ?_; (with_reducible refine (linhaylaw04_awake.calls k  true _ A5.out).mono ?_); rintro e w62 ⟨rfl, hb⟩; refine ⟨_, rfl, ?_⟩; have n0_ := Aside0.mk (below_step (by repeat (first | (with_reducible first | exact HB.out | apply below_alloc | apply pw_below_drewN | apply below_drew1) | exact HB.out)) hb); clear HB; have HB := n0_; clear n0_; (try clear hb); (try clear hb2); (try clear hk); (try clear hi)) | ((with_reducible refine gate_callee (f := 20) rfl ?_); refine goesL_ (some 17) rfl rfl Try.func20 (by kernel_rfl) rfl #[.int .u64 a0, .int .u64 a1, .int .u64 a2] rfl (by (try simp only [List.map_toArray, List.map_cons, List.map_nil]); first | done | rfl | (simp only [List.length_drop, List.length_take]; rfl)) ?_; (with_reducible refine (fixed_Mix.calls k a0 a1 a2 t249 _ A6.out).mono ?_); rintro e w63 ⟨rfl, hb⟩; refine ⟨_, rfl, ?_⟩; have n0_ := Aside0.mk (below_step (by repeat (first | (with_reducible first | exact HB.out | apply below_alloc | apply pw_below_drewN | apply below_drew1) | exact HB.out)) hb); clear HB; have HB := n0_; clear n0_; (try clear hb); (try clear hb2); (try clear hk); (try clear hi)) | ((with_reducible refine gate_callee (f := 20) rfl ?_); refine goesL_ (some 21) rfl rfl Try.func20 (by kernel_rfl) rfl #[.int .u64 a0, .int .u64 a1, .int .u64 a3] rfl (by (try simp only [List.map_toArray, List.map_cons, List.map_nil]); first | done | rfl | (simp only [List.length_drop, List.length_take]; rfl)) ?_; (with_reducible refine (fixed_Mix.calls k a0 a1 a3 t250 _ A7.out).mono ?_); rintro e w64 ⟨rfl, hb⟩; refine ⟨_, rfl, ?_⟩; have n0_ := Aside0.mk (below_step (by repeat (first | (with_reducible first | exact HB.out | apply below_alloc | apply pw_below_drewN | apply below_drew1) | exact HB.out)) hb); clear HB; have HB := n0_; clear n0_; (try clear hb); (try clear hb2); (try clear hk); (try clear hi)) | (go_at_call 20; (with_reducible refine (fixed_Mix.calls k a0 a1 0 t257 _ A55.out).mono ?_); rintro e w65 ⟨rfl, hb⟩; have n0_ := Aside0.mk (below_step (by repeat (first | (with_reducible first | exact HB.out | apply below_alloc | apply pw_below_drewN | apply below_drew1) | exact HB.out)) hb); clear HB; have HB := n0_; clear n0_; (try clear hb); (try clear hb2); (try clear hk); (try clear hi)) | (go_at_call 20; (with_reducible refine (fixed_Mix.calls k a0 a1 ji57 t258 _ A58.out).mono ?_); rintro e w66 ⟨rfl, hb⟩; have n0_ := Aside0.mk (below_step (by repeat (first | (with_reducible first | exact HB.out | apply below_alloc | apply pw_below_drewN | apply below_drew1) | exact HB.out)) hb); clear HB; have HB := n0_; clear n0_; (try clear hb); (try clear hb2); (try clear hk); (try clear hi)) | (go_at_call 20; (with_reducible refine (fixed_Mix.calls k a0 a0 a2 t259 _ A60.out).mono ?_); rintro e w67 ⟨rfl, hb⟩; have n0_ := Aside0.mk (below_step (by repeat (first | (with_reducible first | exact HB.out | apply below_alloc | apply pw_below_drewN | apply below_drew1) | exact HB.out)) hb); clear HB; have HB := n0_; clear n0_; (try clear hb); (try clear hb2); (try clear hk); (try clear hi)) | (go_at_call 9; (with_reducible refine (linhaylaw04_awake.calls k  true _ A5.out).mono ?_); rintro e w62 ⟨rfl, hb⟩; have n0_ := Aside0.mk (below_step (by repeat (first | (with_reducible first | exact HB.out | apply below_alloc | apply pw_below_drewN | apply below_drew1) | exact HB.out)) hb); clear HB; have HB := n0_; clear n0_; (try clear hb); (try clear hb2); (try clear hk); (try clear hi)) | (go_at_call 20; (with_reducible refine (fixed_Mix.calls k a0 a1 a2 t249 _ A6.out).mono ?_); rintro e w63 ⟨rfl, hb⟩; have n0_ := Aside0.mk (below_step (by repeat (first | (with_reducible first | exact HB.out | apply below_alloc | apply pw_below_drewN | apply below_drew1) | exact HB.out)) hb); clear HB; have HB := n0_; clear n0_; (try clear hb); (try clear hb2); (try clear hk); (try clear hi)) | (go_at_call 20; (with_reducible refine (fixed_Mix.calls k a0 a1 a3 t250 _ A7.out).mono ?_); rintro e w64 ⟨rfl, hb⟩; have n0_ := Aside0.mk (below_step (by repeat (first | (with_reducible first | exact HB.out | apply below_alloc | apply pw_below_drewN | apply below_drew1) | exact HB.out)) hb); clear HB; have HB := n0_; clear n0_; (try clear hb); (try clear hb2); (try clear hk); (try clear hi)))
                      go_ret
                      exact ⟨by first | rfl | (simp [errW_none, errW_some] <;> rfl) | (simp only [← hji27, ← hji51, ← hji53, ← hji57]; first | rfl | (simp [errW_none, errW_some] <;> rfl)) | (simp [*, errW_none, errW_some] <;> rfl), by repeat (first | (with_reducible first | exact HB.out | apply below_alloc | apply pw_below_drewN | apply below_drew1) | exact HB.out)⟩
                    · rw [if_neg c61] at H
                      exact absurd H (by simp)
                  · rw [if_neg c59] at H
                    exact absurd H (by simp)
                · rw [if_neg c56] at H
                  exact absurd H (by simp)
              · rw [if_neg c54] at H
                exact absurd H (by simp)
            · rw [if_neg c52] at H
              exact absurd H (by simp)
          · replace c50 := Bool.eq_false_iff.mpr c50
            subst c50
            have H1 : (none) = some r := by rw [if_neg (show ¬ (false = true) by decide)] at H; exact H
            clear H
            have H := H1
            clear H1
            exact absurd H (by simp)
        · rw [if_neg c49] at H
          exact absurd H (by simp)
    · rw [if_neg c28] at H
      have c28b0 : ((ji27) == a2) = false := beq_eq_false_iff_ne.mpr c28
      have c28b1 : ((ji27) != a2) = true := bne_iff_ne.mpr c28
      by_cases c69 : (ji27) = a3
      · rw [if_pos c69] at H
        have c69b0 : ((ji27) == a3) = true := beq_iff_eq.mpr c69
        have c69b1 : ((ji27) != a3) = false := bne_eq_false_iff_eq.mpr c69
        clear c69
        by_cases c70 : t248 = true
        · subst c70
          have H1 : (if t249 ≥ (mn a0 a1) then (if t249 ≤ (mx a0 a1) then ((fixed_Mix.f k a0 a1 0).bind fun t263 => (if t263 = a0 then ((fixed_Mix.f k a0 a1 (mx a2 4294967296)).bind fun t264 => (if t264 = a1 then ((fixed_Mix.f k a0 a0 a2).bind fun t265 => (if t265 = a0 then (some (decide (t250 ≤ t249))) else (none))) else (none))) else (none))) else (none)) else (none)) = some r := by rw [if_pos rfl] at H; exact H
          clear H
          have H := H1
          clear H1
          obtain ⟨ji71, hji71⟩ : ∃ j_ : Int, (mn a0 a1) = j_ := ⟨_, rfl⟩
          replace H : (if t249 ≥ (ji71) then (if t249 ≤ (mx a0 a1) then ((fixed_Mix.f k a0 a1 0).bind fun t263 => (if t263 = a0 then ((fixed_Mix.f k a0 a1 (mx a2 4294967296)).bind fun t264 => (if t264 = a1 then ((fixed_Mix.f k a0 a0 a2).bind fun t265 => (if t265 = a0 then (some (decide (t250 ≤ t249))) else (none))) else (none))) else (none))) else (none)) else (none)) = some r := by first | (rw [hji71] at H; exact H) | (simp only [hji71] at H ⊢; exact H)
          (try rw [hji71] at A5)
          (try rw [hji71] at A6)
          (try rw [hji71] at A7)
          have hji71_ : (if a1 < a0 then a1 else a0) = ji71 := hji71
          by_cases c72 : t249 ≥ (ji71)
          · rw [if_pos c72] at H
            have c72b0 : decide ((ji71) ≤ t249) = true := decide_eq_true c72
            clear c72
            obtain ⟨ji73, hji73⟩ : ∃ j_ : Int, (mx a0 a1) = j_ := ⟨_, rfl⟩
            replace H : (if t249 ≤ (ji73) then ((fixed_Mix.f k a0 a1 0).bind fun t263 => (if t263 = a0 then ((fixed_Mix.f k a0 a1 (mx a2 4294967296)).bind fun t264 => (if t264 = a1 then ((fixed_Mix.f k a0 a0 a2).bind fun t265 => (if t265 = a0 then (some (decide (t250 ≤ t249))) else (none))) else (none))) else (none))) else (none)) = some r := by first | (rw [hji73] at H; exact H) | (simp only [hji73] at H ⊢; exact H)
            (try rw [hji73] at A5)
            (try rw [hji73] at A6)
            (try rw [hji73] at A7)
            have hji73_ : (if a0 < a1 then a1 else a0) = ji73 := hji73
            by_cases c74 : t249 ≤ (ji73)
            · rw [if_pos c74] at H
              have c74b0 : decide (t249 ≤ (ji73)) = true := decide_eq_true c74
              clear c74
              replace H := Option.bind_eq_some_iff.mp H
              obtain ⟨t263, A750, H⟩ := H
              replace H : (if t263 = a0 then ((fixed_Mix.f k a0 a1 (mx a2 4294967296)).bind fun t264 => (if t264 = a1 then ((fixed_Mix.f k a0 a0 a2).bind fun t265 => (if t265 = a0 then (some (decide (t250 ≤ t249))) else (none))) else (none))) else (none)) = some r := H
              have A75 := Aside0.mk A750
              clear A750
              by_cases c76 : t263 = a0
              · rw [if_pos c76] at H
                have c76b0 : (t263 == a0) = true := beq_iff_eq.mpr c76
                have c76b1 : (t263 != a0) = false := bne_eq_false_iff_eq.mpr c76
                clear c76
                obtain ⟨ji77, hji77⟩ : ∃ j_ : Int, (mx a2 4294967296) = j_ := ⟨_, rfl⟩
                replace H : ((fixed_Mix.f k a0 a1 (ji77)).bind fun t264 => (if t264 = a1 then ((fixed_Mix.f k a0 a0 a2).bind fun t265 => (if t265 = a0 then (some (decide (t250 ≤ t249))) else (none))) else (none))) = some r := by first | (rw [hji77] at H; exact H) | (simp only [hji77] at H ⊢; exact H)
                (try rw [hji77] at A5)
                (try rw [hji77] at A6)
                (try rw [hji77] at A7)
                (try rw [hji77] at A75)
                (try (have hji77l : 4294967296 ≤ ji77 := by (rw [← hji77]; unfold mx; (repeat' split) <;> omega)))
                (try (have hji77m : 0 ≤ ji77 := by omega))
                have hji77_ : (if a2 < 4294967296 then 4294967296 else a2) = ji77 := hji77
                replace H := Option.bind_eq_some_iff.mp H
                obtain ⟨t264, A780, H⟩ := H
                replace H : (if t264 = a1 then ((fixed_Mix.f k a0 a0 a2).bind fun t265 => (if t265 = a0 then (some (decide (t250 ≤ t249))) else (none))) else (none)) = some r := H
                have A78 := Aside0.mk A780
                clear A780
                by_cases c79 : t264 = a1
                · rw [if_pos c79] at H
                  have c79b0 : (t264 == a1) = true := beq_iff_eq.mpr c79
                  have c79b1 : (t264 != a1) = false := bne_eq_false_iff_eq.mpr c79
                  clear c79
                  replace H := Option.bind_eq_some_iff.mp H
                  obtain ⟨t265, A800, H⟩ := H
                  replace H : (if t265 = a0 then (some (decide (t250 ≤ t249))) else (none)) = some r := H
                  have A80 := Aside0.mk A800
                  clear A800
                  by_cases c81 : t265 = a0
                  · rw [if_pos c81] at H
                    have c81b0 : (t265 == a0) = true := beq_iff_eq.mpr c81
                    have c81b1 : (t265 != a0) = false := bne_eq_false_iff_eq.mpr c81
                    clear c81
                    obtain rfl := Option.some.inj H
                    go_enter Try.func5, Try.ntmps5
                    go_wp2_with (first | ((with_reducible refine gate_callee (f := 9) rfl ?_); refine goesL_ (some 13) rfl rfl Try.func9 (by kernel_rfl) rfl #[] rfl (by (try simp only [List.map_toArray, List.map_cons, List.map_nil]); first | done | rfl | (simp only [List.length_drop, List.length_take]; rfl)) ?_; (with_reducible refine (linhaylaw04_awake.calls k  true _ A5.out).mono ?_); rintro e w82 ⟨rfl, hb⟩; refine ⟨_, rfl, ?_⟩; have n0_ := Aside0.mk (below_step (by repeat (first | (with_reducible first | exact HB.out | apply below_alloc | apply pw_below_drewN | apply below_drew1) | exact HB.out)) hb); clear HB; have HB := n0_; clear n0_; (try clear hb); (try clear hb2); (try clear hk); (try clear hi)) | ((with_reducible refine gate_callee (f := 20) rfl ?_); refine goesL_ (some 17) rfl rfl Try.func20 (by kernel_rfl) rfl #[.int .u64 a0, .int .u64 a1, .int .u64 a2] rfl (by (try simp only [List.map_toArray, List.map_cons, List.map_nil]); first | done | rfl | (simp only [List.length_drop, List.length_take]; rfl)) ?_; (with_reducible refine (fixed_Mix.calls k a0 a1 a2 t249 _ A6.out).mono ?_); rintro e w83 ⟨rfl, hb⟩; refine ⟨_, rfl, ?_⟩; have n0_ := Aside0.mk (below_step (by repeat (first | (with_reducible first | exact HB.out | apply below_alloc | apply pw_below_drewN | apply below_drew1) | exact HB.out)) hb); clear HB; have HB := n0_; clear n0_; (try clear hb); (try clear hb2); (try clear hk); (try clear hi)) | ((with_reducible refine gate_callee (f := 20) rfl ?_); refine goesL_ (some 21) rfl rfl Try.func20 (by kernel_rfl) rfl #[.int .u64 a0, .int .u64 a1, .int .u64 a3] rfl (by (try simp only [List.map_toArray, List.map_cons, List.map_nil]); first | done | rfl | (simp only [List.length_drop, List.length_take]; rfl)) ?_; (with_reducible refine (fixed_Mix.calls k a0 a1 a3 t250 _ A7.out).mono ?_); rintro e w84 ⟨rfl, hb⟩; refine ⟨_, rfl, ?_⟩; have n0_ := Aside0.mk (below_step (by repeat (first | (with_reducible first | exact HB.out | apply below_alloc | apply pw_below_drewN | apply below_drew1) | exact HB.out)) hb); clear HB; have HB := n0_; clear n0_; (try clear hb); (try clear hb2); (try clear hk); (try clear hi)) | (go_at_call 20; (with_reducible refine (fixed_Mix.calls k a0 a1 0 t263 _ A75.out).mono ?_); rintro e w85 ⟨rfl, hb⟩; have n0_ := Aside0.mk (below_step (by repeat (first | (with_reducible first | exact HB.out | apply below_alloc | apply pw_below_drewN | apply below_drew1) | exact HB.out)) hb); clear HB; have HB := n0_; clear n0_; (try clear hb); (try clear hb2); (try clear hk); (try clear hi)) | (go_at_call 20; (with_reducible refine (fixed_Mix.calls k a0 a1 ji77 t264 _ A78.out).mono ?_); rintro e w86 ⟨rfl, hb⟩; have n0_ := Aside0.mk (below_step (by repeat (first | (with_reducible first | exact HB.out | apply below_alloc | apply pw_below_drewN | apply below_drew1) | exact HB.out)) hb); clear HB; have HB := n0_; clear n0_; (try clear hb); (try clear hb2); (try clear hk); (try clear hi)) | (go_at_call 20; (with_reducible refine (fixed_Mix.calls k a0 a0 a2 t265 _ A80.out).mono ?_); rintro e w87 ⟨rfl, hb⟩; have n0_ := Aside0.mk (below_step (by repeat (first | (with_reducible first | exact HB.out | apply below_alloc | apply pw_below_drewN | apply below_drew1) | exact HB.out)) hb); clear HB; have HB := n0_; clear n0_; (try clear hb); (try clear hb2); (try clear hk); (try clear hi)) | (go_at_call 9; (with_reducible refine (linhaylaw04_awake.calls k  true _ A5.out).mono ?_); rintro e w82 ⟨rfl, hb⟩; have n0_ := Aside0.mk (below_step (by repeat (first | (with_reducible first | exact HB.out | apply below_alloc | apply pw_below_drewN | apply below_drew1) | exact HB.out)) hb); clear HB; have HB := n0_; clear n0_; (try clear hb); (try clear hb2); (try clear hk); (try clear hi)) | (go_at_call 20; (with_reducible refine (fixed_Mix.calls k a0 a1 a2 t249 _ A6.out).mono ?_); rintro e w83 ⟨rfl, hb⟩; have n0_ := Aside0.mk (below_step (by repeat (first | (with_reducible first | exact HB.out | apply below_alloc | apply pw_below_drewN | apply below_drew1) | exact HB.out)) hb); clear HB; have HB := n0_; clear n0_; (try clear hb); (try clear hb2); (try clear hk); (try clear hi)) | (go_at_call 20; (with_reducible refine (fixed_Mix.calls k a0 a1 a3 t250 _ A7.out).mono ?_); rintro e w84 ⟨rfl, hb⟩; have n0_ := Aside0.mk (below_step (by repeat (first | (with_reducible first | exact HB.out | apply below_alloc | apply pw_below_drewN | apply below_drew1) | exact HB.out)) hb); clear HB; have HB := n0_; clear n0_; (try clear hb); (try clear hb2); (try clear hk); (try clear hi)))
                    go_ret
                    exact ⟨by first | rfl | (simp [errW_none, errW_some] <;> rfl) | (simp only [← hji27, ← hji71, ← hji73, ← hji77]; first | rfl | (simp [errW_none, errW_some] <;> rfl)) | (simp [*, errW_none, errW_some] <;> rfl), by repeat (first | (with_reducible first | exact HB.out | apply below_alloc | apply pw_below_drewN | apply below_drew1) | exact HB.out)⟩
                  · rw [if_neg c81] at H
                    exact absurd H (by simp)
                · rw [if_neg c79] at H
                  exact absurd H (by simp)
              · rw [if_neg c76] at H
                exact absurd H (by simp)
            · rw [if_neg c74] at H
              exact absurd H (by simp)
          · rw [if_neg c72] at H
            exact absurd H (by simp)
        · replace c70 := Bool.eq_false_iff.mpr c70
          subst c70
          have H1 : (none) = some r := by rw [if_neg (show ¬ (false = true) by decide)] at H; exact H
          clear H
          have H := H1
          clear H1
          exact absurd H (by simp)
      · rw [if_neg c69] at H
        exact absurd H (by simp)

/-- THE ONE PURE STATEMENT of linhaylaw04_FixedMix: yours. -/
def linhaylaw04_FixedMix.Pure : Prop := ∀ (a0 : Int) (a1 : Int) (a2 : Int) (a3 : Int), (Lit.int .u64 a0).wf = true → (Lit.int .u64 a1).wf = true → (Lit.int .u64 a2).wf = true → (Lit.int .u64 a3).wf = true → ∃ k, linhaylaw04_FixedMix.f k a0 a1 a2 a3 = some true
theorem linhaylaw04_FixedMix.walk (P : linhaylaw04_FixedMix.Pure) (a0 : Int) (a1 : Int) (a2 : Int) (a3 : Int) (w : World) (w0 : (Lit.int .u64 a0).wf = true) (w1 : (Lit.int .u64 a1).wf = true) (w2 : (Lit.int .u64 a2).wf = true) (w3 : (Lit.int .u64 a3).wf = true) :
    Calls Try.prog 5 #[.int .u64 a0, .int .u64 a1, .int .u64 a2, .int .u64 a3] w fun e w' => e = .returned (.bool true) ∧ Below w.heap.size w w' := by
  obtain ⟨k, h⟩ := P a0 a1 a2 a3 w0 w1 w2 w3
  refine (linhaylaw04_FixedMix.calls k a0 a1 a2 a3 true w h).mono ?_
  rintro e w' ⟨rfl, hd⟩
  exact ⟨rfl, hd⟩

end Go.Proofs.Ytnippnpbnmkfbaa.Print
