/- Lean functions that answer what Go functions of the translation answer, and the proofs of it. Written by a program of this session (wip/tools/seatprint.py), over contracts that it proved by hand. Conditions: those that each theorem says. -/
import Derived.Test.YtnobdpenncfghaaPrint0
import Derived.Test.YtnobdpenncfghaaPrint12
import Derived.Test.YtnobdpenncfghaaPrint14
import Derived.Test.YtnobdpenncfghaaPrint15
import Derived.Test.YtnobdpenncfghaaPrint16
namespace Go.Proofs.Ytnobdpenncfghaa.Print
open Go.RowKit Go.Proofs.YtnobdpenncfghaaW.PrintWords Go.Proofs.YtnobdpenncfghaaW.PrintLast Go.Proofs.YtnobdpenncfghaaW.PrintMore
attribute [local go_sem] max2_int min2_int max_two min_two max_three min_three max_four min_four   -- for this text's walks alone
set_option linter.unusedVariables false
set_option linter.unusedSimpArgs false

/-! ### linhaylaw03_RatioParts: function 6 -/
def linhaylaw03_RatioParts.j0 : Nat → Int → Int → Int → Bool → Int → Int → Int → Int → Int → Int → Bool → Option (Bool)
  | 0, _, _, _, _, _, _, _, _, _, _, _ => none
  | k + 1, x0, x1, x2, x7, x8, x9, x10, x11, x12, x13, x50 => if x50 = true then (if x7 = true then (if ((x2 == 0) == (x9 == 20)) = true then (if x13 = 0 then (none) else (if x9 = 0 then (if x8 = 18446744073709551615 then (some (x13 == 10)) else (none)) else (if x8 = 0 then (if x10 = 0 then (if x12 = 0 then (if x11 = x9 then (if x13 = x9 then (some true) else (none)) else (none)) else (none)) else (none)) else (none)))) else (none)) else (none)) else ((ratio_Floor.f k x8 x2 1).bind fun bt286 => ((ratio_Floor.f k x0 x1 1).bind fun bt288 => (if bt286.2 = 0 then (if bt288.2 = 0 then (if x7 = true then (if x8 ≤ x10 then (if x10 ≤ x12 then (if (IntKind.u64.wrap (x12 - x8)) ≤ 1 then (some ((bt286.1 == bt288.1) == (x8 == x12))) else (none)) else (none)) else (none)) else (none)) else (if x7 = true then (if x8 ≤ x10 then (if x10 ≤ x12 then (if (IntKind.u64.wrap (x12 - x8)) ≤ 1 then (some true) else (none)) else (none)) else (none)) else (none))) else (if x7 = true then (if x8 ≤ x10 then (if x10 ≤ x12 then (if (IntKind.u64.wrap (x12 - x8)) ≤ 1 then (some true) else (none)) else (none)) else (none)) else (none)))))
def linhaylaw03_RatioParts.f (k : Nat) (a0 : Int) (a1 : Int) (a2 : Int) : Option (Bool) := (linhaylaw03_awake.f k).bind fun t279 => ((ratio_Floor.f k a0 a1 a2).bind fun bt280 => ((ratio_Near.f k a0 a1 a2).bind fun bt282 => ((ratio_Ceil.f k a0 a1 a2).bind fun bt284 => (if bt280.2 = 0 then (if bt282.2 = 0 then (linhaylaw03_RatioParts.j0 k a0 a1 a2 t279 bt280.1 bt280.2 bt282.1 bt282.2 bt284.1 bt284.2 (bt284.2 != 0)) else (linhaylaw03_RatioParts.j0 k a0 a1 a2 t279 bt280.1 bt280.2 bt282.1 bt282.2 bt284.1 bt284.2 true)) else (linhaylaw03_RatioParts.j0 k a0 a1 a2 t279 bt280.1 bt280.2 bt282.1 bt282.2 bt284.1 bt284.2 true)))))
theorem linhaylaw03_RatioParts.mono_l : ∀ k, (∀ y0 y1 y2 y3 y4 y5 y6 y7 y8 y9 y10, LeO (linhaylaw03_RatioParts.j0 k y0 y1 y2 y3 y4 y5 y6 y7 y8 y9 y10) (linhaylaw03_RatioParts.j0 (k + 1) y0 y1 y2 y3 y4 y5 y6 y7 y8 y9 y10))
  | 0 => fun _ _ _ _ _ _ _ _ _ _ _ r h => by simp [linhaylaw03_RatioParts.j0] at h
  | k + 1 => by
    have ih0 := linhaylaw03_RatioParts.mono_l k
    · intro y0 y1 y2 y3 y4 y5 y6 y7 y8 y9 y10
      unfold linhaylaw03_RatioParts.j0
      repeat' first
      | (with_reducible exact ih0 _ _ _ _ _ _ _ _ _ _ _)
      | (with_reducible exact linhaylaw03_awake.mono _)
      | (with_reducible exact ratio_Ceil.mono _ _ _ _)
      | (with_reducible exact ratio_Floor.mono _ _ _ _)
      | (with_reducible exact ratio_Near.mono _ _ _ _)
      | (with_reducible exact LeO.refl _)
      | (with_reducible exact LeO.none _)
      | (with_reducible refine LeO.ite ?_ ?_)
      | (with_reducible refine LeO.bind ?_ (fun _ => ?_))
      | exact ih0 _ _ _ _ _ _ _ _ _ _ _
      | exact linhaylaw03_awake.mono _
      | exact ratio_Ceil.mono _ _ _ _
      | exact ratio_Floor.mono _ _ _ _
      | exact ratio_Near.mono _ _ _ _
      | exact LeO.none _
      | refine LeO.ite ?_ ?_
      | refine LeO.bind ?_ (fun _ => ?_)
theorem linhaylaw03_RatioParts.mono : ∀ a0 a1 a2 k, LeO (linhaylaw03_RatioParts.f k a0 a1 a2) (linhaylaw03_RatioParts.f (k + 1) a0 a1 a2) := by
  intro a0 a1 a2 k
  have ih0 := linhaylaw03_RatioParts.mono_l k
  unfold linhaylaw03_RatioParts.f
  repeat' first
      | (with_reducible exact ih0 _ _ _ _ _ _ _ _ _ _ _)
      | (with_reducible exact linhaylaw03_awake.mono _)
      | (with_reducible exact ratio_Ceil.mono _ _ _ _)
      | (with_reducible exact ratio_Floor.mono _ _ _ _)
      | (with_reducible exact ratio_Near.mono _ _ _ _)
      | (with_reducible exact LeO.refl _)
      | (with_reducible exact LeO.none _)
      | (with_reducible refine LeO.ite ?_ ?_)
      | (with_reducible refine LeO.bind ?_ (fun _ => ?_))
      | exact ih0 _ _ _ _ _ _ _ _ _ _ _
      | exact linhaylaw03_awake.mono _
      | exact ratio_Ceil.mono _ _ _ _
      | exact ratio_Floor.mono _ _ _ _
      | exact ratio_Near.mono _ _ _ _
      | exact LeO.none _
      | refine LeO.ite ?_ ?_
      | refine LeO.bind ?_ (fun _ => ?_)
set_option maxHeartbeats 8000000 in
set_option maxRecDepth 100000 in
theorem linhaylaw03_RatioParts.calls (k : Nat) (a0 : Int) (a1 : Int) (a2 : Int) (r : Bool) (w : World) (h : linhaylaw03_RatioParts.f k a0 a1 a2 = some r) :
    Calls Try.prog 6 #[.int .u64 a0, .int .u64 a1, .int .u64 a2] w fun e w' => e = .returned (.bool r) ∧ Below w.heap.size w w' := by
  have HB := Aside0.mk (Below.refl w.heap.size w)
  have H : ((linhaylaw03_awake.f k).bind fun t279 => ((ratio_Floor.f k a0 a1 a2).bind fun bt280 => ((ratio_Near.f k a0 a1 a2).bind fun bt282 => ((ratio_Ceil.f k a0 a1 a2).bind fun bt284 => (if bt280.2 = 0 then (if bt282.2 = 0 then (linhaylaw03_RatioParts.j0 k a0 a1 a2 t279 bt280.1 bt280.2 bt282.1 bt282.2 bt284.1 bt284.2 (bt284.2 != 0)) else (linhaylaw03_RatioParts.j0 k a0 a1 a2 t279 bt280.1 bt280.2 bt282.1 bt282.2 bt284.1 bt284.2 true)) else (linhaylaw03_RatioParts.j0 k a0 a1 a2 t279 bt280.1 bt280.2 bt282.1 bt282.2 bt284.1 bt284.2 true)))))) = some r := h
  clear h
  replace H := Option.bind_eq_some_iff.mp H
  obtain ⟨t279, A40, H⟩ := H
  replace H : ((ratio_Floor.f k a0 a1 a2).bind fun bt280 => ((ratio_Near.f k a0 a1 a2).bind fun bt282 => ((ratio_Ceil.f k a0 a1 a2).bind fun bt284 => (if bt280.2 = 0 then (if bt282.2 = 0 then (linhaylaw03_RatioParts.j0 k a0 a1 a2 t279 bt280.1 bt280.2 bt282.1 bt282.2 bt284.1 bt284.2 (bt284.2 != 0)) else (linhaylaw03_RatioParts.j0 k a0 a1 a2 t279 bt280.1 bt280.2 bt282.1 bt282.2 bt284.1 bt284.2 true)) else (linhaylaw03_RatioParts.j0 k a0 a1 a2 t279 bt280.1 bt280.2 bt282.1 bt282.2 bt284.1 bt284.2 true))))) = some r := H
  have A4 := Aside0.mk A40
  clear A40
  replace H := Option.bind_eq_some_iff.mp H
  obtain ⟨⟨t280, t281⟩, A50, H⟩ := H
  replace H : ((ratio_Near.f k a0 a1 a2).bind fun bt282 => ((ratio_Ceil.f k a0 a1 a2).bind fun bt284 => (if t281 = 0 then (if bt282.2 = 0 then (linhaylaw03_RatioParts.j0 k a0 a1 a2 t279 t280 t281 bt282.1 bt282.2 bt284.1 bt284.2 (bt284.2 != 0)) else (linhaylaw03_RatioParts.j0 k a0 a1 a2 t279 t280 t281 bt282.1 bt282.2 bt284.1 bt284.2 true)) else (linhaylaw03_RatioParts.j0 k a0 a1 a2 t279 t280 t281 bt282.1 bt282.2 bt284.1 bt284.2 true)))) = some r := H
  have A5 := Aside0.mk A50
  clear A50
  replace H := Option.bind_eq_some_iff.mp H
  obtain ⟨⟨t282, t283⟩, A60, H⟩ := H
  replace H : ((ratio_Ceil.f k a0 a1 a2).bind fun bt284 => (if t281 = 0 then (if t283 = 0 then (linhaylaw03_RatioParts.j0 k a0 a1 a2 t279 t280 t281 t282 t283 bt284.1 bt284.2 (bt284.2 != 0)) else (linhaylaw03_RatioParts.j0 k a0 a1 a2 t279 t280 t281 t282 t283 bt284.1 bt284.2 true)) else (linhaylaw03_RatioParts.j0 k a0 a1 a2 t279 t280 t281 t282 t283 bt284.1 bt284.2 true))) = some r := H
  have A6 := Aside0.mk A60
  clear A60
  replace H := Option.bind_eq_some_iff.mp H
  obtain ⟨⟨t284, t285⟩, A70, H⟩ := H
  replace H : (if t281 = 0 then (if t283 = 0 then (linhaylaw03_RatioParts.j0 k a0 a1 a2 t279 t280 t281 t282 t283 t284 t285 (t285 != 0)) else (linhaylaw03_RatioParts.j0 k a0 a1 a2 t279 t280 t281 t282 t283 t284 t285 true)) else (linhaylaw03_RatioParts.j0 k a0 a1 a2 t279 t280 t281 t282 t283 t284 t285 true)) = some r := H
  have A7 := Aside0.mk A70
  clear A70
  have HC8 := Aside0.mk H
  clear H
  go_enter Try.func6, Try.ntmps6
  go_upto_region 5 with (first | ((with_reducible refine gate_callee (f := 9) rfl ?_); refine goesL_ (some 19) rfl rfl Try.func9 (by kernel_rfl) rfl #[] rfl (by (try simp only [List.map_toArray, List.map_cons, List.map_nil]); first | done | rfl | (simp only [List.length_drop, List.length_take]; rfl)) ?_; (with_reducible refine (linhaylaw03_awake.calls k  t279 _ A4.out).mono ?_); rintro e w9 ⟨rfl, hb⟩; refine ⟨_, rfl, ?_⟩; have n0_ := Aside0.mk (below_step (by repeat (first | (with_reducible first | exact HB.out | apply below_alloc | apply pw_below_drewN | apply below_drew1) | exact HB.out)) hb); clear HB; have HB := n0_; clear n0_; (try clear hb); (try clear hb2); (try clear hk); (try clear hi)) | ((with_reducible refine gate_callee (f := 14) rfl ?_); refine goesL_ (some 24) rfl rfl Try.func14 (by kernel_rfl) rfl #[.int .u64 a0, .int .u64 a1, .int .u64 a2] rfl (by (try simp only [List.map_toArray, List.map_cons, List.map_nil]); first | done | rfl | (simp only [List.length_drop, List.length_take]; rfl)) ?_; (with_reducible refine (ratio_Floor.calls k a0 a1 a2 t280 t281 _ A5.out).mono ?_); rintro e w10 ⟨rfl, hb⟩; refine ⟨_, rfl, ?_⟩; have n0_ := Aside0.mk (below_step (by repeat (first | (with_reducible first | exact HB.out | apply below_alloc | apply pw_below_drewN | apply below_drew1) | exact HB.out)) hb); clear HB; have HB := n0_; clear n0_; (try clear hb); (try clear hb2); (try clear hk); (try clear hi)) | ((with_reducible refine gate_callee (f := 18) rfl ?_); refine goesL_ (some 31) rfl rfl Try.func18 (by kernel_rfl) rfl #[.int .u64 a0, .int .u64 a1, .int .u64 a2] rfl (by (try simp only [List.map_toArray, List.map_cons, List.map_nil]); first | done | rfl | (simp only [List.length_drop, List.length_take]; rfl)) ?_; (with_reducible refine (ratio_Near.calls k a0 a1 a2 t282 t283 _ A6.out).mono ?_); rintro e w11 ⟨rfl, hb⟩; refine ⟨_, rfl, ?_⟩; have n0_ := Aside0.mk (below_step (by repeat (first | (with_reducible first | exact HB.out | apply below_alloc | apply pw_below_drewN | apply below_drew1) | exact HB.out)) hb); clear HB; have HB := n0_; clear n0_; (try clear hb); (try clear hb2); (try clear hk); (try clear hi)) | ((with_reducible refine gate_callee (f := 16) rfl ?_); refine goesL_ (some 38) rfl rfl Try.func16 (by kernel_rfl) rfl #[.int .u64 a0, .int .u64 a1, .int .u64 a2] rfl (by (try simp only [List.map_toArray, List.map_cons, List.map_nil]); first | done | rfl | (simp only [List.length_drop, List.length_take]; rfl)) ?_; (with_reducible refine (ratio_Ceil.calls k a0 a1 a2 t284 t285 _ A7.out).mono ?_); rintro e w12 ⟨rfl, hb⟩; refine ⟨_, rfl, ?_⟩; have n0_ := Aside0.mk (below_step (by repeat (first | (with_reducible first | exact HB.out | apply below_alloc | apply pw_below_drewN | apply below_drew1) | exact HB.out)) hb); clear HB; have HB := n0_; clear n0_; (try clear hb); (try clear hb2); (try clear hk); (try clear hi)) | (go_at_call 9; (with_reducible refine (linhaylaw03_awake.calls k  t279 _ A4.out).mono ?_); rintro e w9 ⟨rfl, hb⟩; have n0_ := Aside0.mk (below_step (by repeat (first | (with_reducible first | exact HB.out | apply below_alloc | apply pw_below_drewN | apply below_drew1) | exact HB.out)) hb); clear HB; have HB := n0_; clear n0_; (try clear hb); (try clear hb2); (try clear hk); (try clear hi)) | (go_at_call 14; (with_reducible refine (ratio_Floor.calls k a0 a1 a2 t280 t281 _ A5.out).mono ?_); rintro e w10 ⟨rfl, hb⟩; have n0_ := Aside0.mk (below_step (by repeat (first | (with_reducible first | exact HB.out | apply below_alloc | apply pw_below_drewN | apply below_drew1) | exact HB.out)) hb); clear HB; have HB := n0_; clear n0_; (try clear hb); (try clear hb2); (try clear hk); (try clear hi)) | (go_at_call 18; (with_reducible refine (ratio_Near.calls k a0 a1 a2 t282 t283 _ A6.out).mono ?_); rintro e w11 ⟨rfl, hb⟩; have n0_ := Aside0.mk (below_step (by repeat (first | (with_reducible first | exact HB.out | apply below_alloc | apply pw_below_drewN | apply below_drew1) | exact HB.out)) hb); clear HB; have HB := n0_; clear n0_; (try clear hb); (try clear hb2); (try clear hk); (try clear hi)) | (go_at_call 16; (with_reducible refine (ratio_Ceil.calls k a0 a1 a2 t284 t285 _ A7.out).mono ?_); rintro e w12 ⟨rfl, hb⟩; have n0_ := Aside0.mk (below_step (by repeat (first | (with_reducible first | exact HB.out | apply below_alloc | apply pw_below_drewN | apply below_drew1) | exact HB.out)) hb); clear HB; have HB := n0_; clear n0_; (try clear hb); (try clear hb2); (try clear hk); (try clear hi)))
  (try simp only [Act.put, List.setIfInBounds_toArray, List.set_cons_zero, List.set_cons_succ])
  go_cut [50] (fun v50 wc => ∃ (kq : Nat) (x50_7 : Bool), v50 = .bool x50_7 ∧ Aside0 (linhaylaw03_RatioParts.j0 kq a0 a1 a2 t279 t280 t281 t282 t283 t284 t285 x50_7 = some r) ∧ Aside0 (kq ≤ k) ∧ Aside0 (Below w.heap.size w wc))
  case first =>
    have H := HC8.out
    clear HC8
    by_cases c13 : t281 = 0
    · rw [if_pos c13] at H
      have c13b0 : (t281 == 0) = true := beq_iff_eq.mpr c13
      have c13b1 : (t281 != 0) = false := bne_eq_false_iff_eq.mpr c13
      clear c13
      (first | rw [c13b0] | (simp only [i64_w, i32_w]; rw [c13b0]) | skip)
      by_cases c14 : t283 = 0
      · rw [if_pos c14] at H
        have c14b0 : (t283 == 0) = true := beq_iff_eq.mpr c14
        have c14b1 : (t283 != 0) = false := bne_eq_false_iff_eq.mpr c14
        clear c14
        have H' := Aside0.mk H
        clear H
        go_wp2
        go_meet
        case rel => exact ⟨_, ((t285 != 0)), (by first | rfl | (simp; done) | (simp [*]; done)), H', ⟨by first | omega | exact Nat.le_refl _⟩, ⟨by repeat (first | (with_reducible first | exact HB.out | apply below_alloc | apply pw_below_drewN | apply below_drew1) | exact HB.out)⟩⟩
      · rw [if_neg c14] at H
        have c14b0 : (t283 == 0) = false := beq_eq_false_iff_ne.mpr c14
        have c14b1 : (t283 != 0) = true := bne_iff_ne.mpr c14
        have H' := Aside0.mk H
        clear H
        go_wp2
        go_meet
        case rel => exact ⟨_, (true), (by first | rfl | (simp; done) | (simp [*]; done)), H', ⟨by first | omega | exact Nat.le_refl _⟩, ⟨by repeat (first | (with_reducible first | exact HB.out | apply below_alloc | apply pw_below_drewN | apply below_drew1) | exact HB.out)⟩⟩
    · rw [if_neg c13] at H
      have c13b0 : (t281 == 0) = false := beq_eq_false_iff_ne.mpr c13
      have c13b1 : (t281 != 0) = true := bne_iff_ne.mpr c13
      (first | rw [c13b0] | (simp only [i64_w, i32_w]; rw [c13b0]) | skip)
      have H' := Aside0.mk H
      clear H
      go_wp2
      go_meet
      case rel => exact ⟨_, (true), (by first | rfl | (simp; done) | (simp [*]; done)), H', ⟨by first | omega | exact Nat.le_refl _⟩, ⟨by repeat (first | (with_reducible first | exact HB.out | apply below_alloc | apply pw_below_drewN | apply below_drew1) | exact HB.out)⟩⟩
  case rest =>
    clear HC8
    try clear c1
    try clear p2
    try clear c6
    try clear c9
    try clear c13
    try clear c13b0
    try clear c13b1
    try clear c14
    try clear c14b0
    try clear c14b1
    obtain ⟨kq, x50_7, rfl, HA, HJ7, HB⟩ := hcut
    cases kq with
    | zero => exact absurd HA.out (by simp [linhaylaw03_RatioParts.j0])
    | succ kj7 =>
      have H := HA.out
      clear HA
      simp only [linhaylaw03_RatioParts.j0] at H
      by_cases c15 : x50_7 = true
      · subst c15
        have H1 : (if t279 = true then (if ((a2 == 0) == (t281 == 20)) = true then (if t285 = 0 then (none) else (if t281 = 0 then (if t280 = 18446744073709551615 then (some (t285 == 10)) else (none)) else (if t280 = 0 then (if t282 = 0 then (if t284 = 0 then (if t283 = t281 then (if t285 = t281 then (some true) else (none)) else (none)) else (none)) else (none)) else (none)))) else (none)) else (none)) = some r := by rw [if_pos rfl] at H; exact H
        clear H
        have H := H1
        clear H1
        by_cases c16 : t279 = true
        · subst c16
          have H1 : (if ((a2 == 0) == (t281 == 20)) = true then (if t285 = 0 then (none) else (if t281 = 0 then (if t280 = 18446744073709551615 then (some (t285 == 10)) else (none)) else (if t280 = 0 then (if t282 = 0 then (if t284 = 0 then (if t283 = t281 then (if t285 = t281 then (some true) else (none)) else (none)) else (none)) else (none)) else (none)))) else (none)) = some r := by rw [if_pos rfl] at H; exact H
          clear H
          have H := H1
          clear H1
          by_cases c17 : ((a2 == 0) == (t281 == 20)) = true
          · rw [if_pos c17] at H
            have c17b0 : ((a2 == 0) == (t281 == 20)) = true := c17
            (try (have c17b1 : decide ((a2 == 0) = (t281 == 20)) = true := by simpa using c17))
            (try (have c17b2 : ((a2 == 0) == (t281 == 20)) = true := by simpa using c17))
            clear c17
            by_cases c18 : t285 = 0
            · rw [if_pos c18] at H
              exact absurd H (by simp)
            · rw [if_neg c18] at H
              have c18b0 : (t285 == 0) = false := beq_eq_false_iff_ne.mpr c18
              have c18b1 : (t285 != 0) = true := bne_iff_ne.mpr c18
              by_cases c19 : t281 = 0
              · rw [if_pos c19] at H
                have c19b0 : (t281 == 0) = true := beq_iff_eq.mpr c19
                have c19b1 : (t281 != 0) = false := bne_eq_false_iff_eq.mpr c19
                clear c19
                by_cases c20 : t280 = 18446744073709551615
                · rw [if_pos c20] at H
                  have c20b0 : (t280 == 18446744073709551615) = true := beq_iff_eq.mpr c20
                  have c20b1 : (t280 != 18446744073709551615) = false := bne_eq_false_iff_eq.mpr c20
                  clear c20
                  obtain rfl := Option.some.inj H
                  go_wp2
                  go_ret
                  exact ⟨by first | rfl | (simp [errW_none, errW_some] <;> rfl) | (simp [*, errW_none, errW_some] <;> rfl), by repeat (first | (with_reducible first | exact HB.out | apply below_alloc | apply pw_below_drewN | apply below_drew1) | exact HB.out)⟩
                · rw [if_neg c20] at H
                  exact absurd H (by simp)
              · rw [if_neg c19] at H
                have c19b0 : (t281 == 0) = false := beq_eq_false_iff_ne.mpr c19
                have c19b1 : (t281 != 0) = true := bne_iff_ne.mpr c19
                by_cases c21 : t280 = 0
                · rw [if_pos c21] at H
                  have c21b0 : (t280 == 0) = true := beq_iff_eq.mpr c21
                  have c21b1 : (t280 != 0) = false := bne_eq_false_iff_eq.mpr c21
                  clear c21
                  by_cases c22 : t282 = 0
                  · rw [if_pos c22] at H
                    have c22b0 : (t282 == 0) = true := beq_iff_eq.mpr c22
                    have c22b1 : (t282 != 0) = false := bne_eq_false_iff_eq.mpr c22
                    clear c22
                    by_cases c23 : t284 = 0
                    · rw [if_pos c23] at H
                      have c23b0 : (t284 == 0) = true := beq_iff_eq.mpr c23
                      have c23b1 : (t284 != 0) = false := bne_eq_false_iff_eq.mpr c23
                      clear c23
                      by_cases c24 : t283 = t281
                      · rw [if_pos c24] at H
                        have c24b0 : (t283 == t281) = true := beq_iff_eq.mpr c24
                        have c24b1 : (t283 != t281) = false := bne_eq_false_iff_eq.mpr c24
                        clear c24
                        by_cases c25 : t285 = t281
                        · rw [if_pos c25] at H
                          have c25b0 : (t285 == t281) = true := beq_iff_eq.mpr c25
                          have c25b1 : (t285 != t281) = false := bne_eq_false_iff_eq.mpr c25
                          clear c25
                          obtain rfl := Option.some.inj H
                          go_wp2
                          go_ret
                          exact ⟨by first | rfl | (simp [errW_none, errW_some] <;> rfl) | (simp [*, errW_none, errW_some] <;> rfl), by repeat (first | (with_reducible first | exact HB.out | apply below_alloc | apply pw_below_drewN | apply below_drew1) | exact HB.out)⟩
                        · rw [if_neg c25] at H
                          exact absurd H (by simp)
                      · rw [if_neg c24] at H
                        exact absurd H (by simp)
                    · rw [if_neg c23] at H
                      exact absurd H (by simp)
                  · rw [if_neg c22] at H
                    exact absurd H (by simp)
                · rw [if_neg c21] at H
                  exact absurd H (by simp)
          · rw [if_neg c17] at H
            exact absurd H (by simp)
        · replace c16 := Bool.eq_false_iff.mpr c16
          subst c16
          have H1 : (none) = some r := by rw [if_neg (show ¬ (false = true) by decide)] at H; exact H
          clear H
          have H := H1
          clear H1
          exact absurd H (by simp)
      · replace c15 := Bool.eq_false_iff.mpr c15
        subst c15
        have H1 : ((ratio_Floor.f kj7 t280 a2 1).bind fun bt286 => ((ratio_Floor.f kj7 a0 a1 1).bind fun bt288 => (if bt286.2 = 0 then (if bt288.2 = 0 then (if t279 = true then (if t280 ≤ t282 then (if t282 ≤ t284 then (if (IntKind.u64.wrap (t284 - t280)) ≤ 1 then (some ((bt286.1 == bt288.1) == (t280 == t284))) else (none)) else (none)) else (none)) else (none)) else (if t279 = true then (if t280 ≤ t282 then (if t282 ≤ t284 then (if (IntKind.u64.wrap (t284 - t280)) ≤ 1 then (some true) else (none)) else (none)) else (none)) else (none))) else (if t279 = true then (if t280 ≤ t282 then (if t282 ≤ t284 then (if (IntKind.u64.wrap (t284 - t280)) ≤ 1 then (some true) else (none)) else (none)) else (none)) else (none))))) = some r := by rw [if_neg (show ¬ (false = true) by decide)] at H; exact H
        clear H
        have H := H1
        clear H1
        replace H := Option.bind_eq_some_iff.mp H
        obtain ⟨⟨t286, t287⟩, A260, H⟩ := H
        replace H : ((ratio_Floor.f kj7 a0 a1 1).bind fun bt288 => (if t287 = 0 then (if bt288.2 = 0 then (if t279 = true then (if t280 ≤ t282 then (if t282 ≤ t284 then (if (IntKind.u64.wrap (t284 - t280)) ≤ 1 then (some ((t286 == bt288.1) == (t280 == t284))) else (none)) else (none)) else (none)) else (none)) else (if t279 = true then (if t280 ≤ t282 then (if t282 ≤ t284 then (if (IntKind.u64.wrap (t284 - t280)) ≤ 1 then (some true) else (none)) else (none)) else (none)) else (none))) else (if t279 = true then (if t280 ≤ t282 then (if t282 ≤ t284 then (if (IntKind.u64.wrap (t284 - t280)) ≤ 1 then (some true) else (none)) else (none)) else (none)) else (none)))) = some r := H
        have A26 := Aside0.mk A260
        clear A260
        replace H := Option.bind_eq_some_iff.mp H
        obtain ⟨⟨t288, t289⟩, A270, H⟩ := H
        replace H : (if t287 = 0 then (if t289 = 0 then (if t279 = true then (if t280 ≤ t282 then (if t282 ≤ t284 then (if (IntKind.u64.wrap (t284 - t280)) ≤ 1 then (some ((t286 == t288) == (t280 == t284))) else (none)) else (none)) else (none)) else (none)) else (if t279 = true then (if t280 ≤ t282 then (if t282 ≤ t284 then (if (IntKind.u64.wrap (t284 - t280)) ≤ 1 then (some true) else (none)) else (none)) else (none)) else (none))) else (if t279 = true then (if t280 ≤ t282 then (if t282 ≤ t284 then (if (IntKind.u64.wrap (t284 - t280)) ≤ 1 then (some true) else (none)) else (none)) else (none)) else (none))) = some r := H
        have A27 := Aside0.mk A270
        clear A270
        by_cases c28 : t287 = 0
        · rw [if_pos c28] at H
          have c28b0 : (t287 == 0) = true := beq_iff_eq.mpr c28
          have c28b1 : (t287 != 0) = false := bne_eq_false_iff_eq.mpr c28
          clear c28
          by_cases c29 : t289 = 0
          · rw [if_pos c29] at H
            have c29b0 : (t289 == 0) = true := beq_iff_eq.mpr c29
            have c29b1 : (t289 != 0) = false := bne_eq_false_iff_eq.mpr c29
            clear c29
            by_cases c30 : t279 = true
            · subst c30
              have H1 : (if t280 ≤ t282 then (if t282 ≤ t284 then (if (IntKind.u64.wrap (t284 - t280)) ≤ 1 then (some ((t286 == t288) == (t280 == t284))) else (none)) else (none)) else (none)) = some r := by rw [if_pos rfl] at H; exact H
              clear H
              have H := H1
              clear H1
              by_cases c31 : t280 ≤ t282
              · rw [if_pos c31] at H
                have c31b0 : decide (t280 ≤ t282) = true := decide_eq_true c31
                clear c31
                by_cases c32 : t282 ≤ t284
                · rw [if_pos c32] at H
                  have c32b0 : decide (t282 ≤ t284) = true := decide_eq_true c32
                  clear c32
                  by_cases c33 : (IntKind.u64.wrap (t284 - t280)) ≤ 1
                  · rw [if_pos c33] at H
                    have c33b0 : decide ((IntKind.u64.wrap (t284 - t280)) ≤ 1) = true := decide_eq_true c33
                    clear c33
                    obtain rfl := Option.some.inj H
                    go_wp2_with (first | ((with_reducible refine gate_callee (f := 14) rfl ?_); refine goesL_ (some 104) rfl rfl Try.func14 (by kernel_rfl) rfl #[.int .u64 t280, .int .u64 a2, .int .u64 1] rfl (by (try simp only [List.map_toArray, List.map_cons, List.map_nil]); first | done | rfl | (simp only [List.length_drop, List.length_take]; rfl)) ?_; (with_reducible refine (ratio_Floor.calls kj7 t280 a2 1 t286 t287 _ A26.out).mono ?_); rintro e w34 ⟨rfl, hb⟩; refine ⟨_, rfl, ?_⟩; have n0_ := Aside0.mk (below_step (by repeat (first | (with_reducible first | exact HB.out | apply below_alloc | apply pw_below_drewN | apply below_drew1) | exact HB.out)) hb); clear HB; have HB := n0_; clear n0_; (try clear hb); (try clear hb2); (try clear hk); (try clear hi)) | ((with_reducible refine gate_callee (f := 14) rfl ?_); refine goesL_ (some 110) rfl rfl Try.func14 (by kernel_rfl) rfl #[.int .u64 a0, .int .u64 a1, .int .u64 1] rfl (by (try simp only [List.map_toArray, List.map_cons, List.map_nil]); first | done | rfl | (simp only [List.length_drop, List.length_take]; rfl)) ?_; (with_reducible refine (ratio_Floor.calls kj7 a0 a1 1 t288 t289 _ A27.out).mono ?_); rintro e w35 ⟨rfl, hb⟩; refine ⟨_, rfl, ?_⟩; have n0_ := Aside0.mk (below_step (by repeat (first | (with_reducible first | exact HB.out | apply below_alloc | apply pw_below_drewN | apply below_drew1) | exact HB.out)) hb); clear HB; have HB := n0_; clear n0_; (try clear hb); (try clear hb2); (try clear hk); (try clear hi)) | (go_at_call 14; (with_reducible refine (ratio_Floor.calls kj7 t280 a2 1 t286 t287 _ A26.out).mono ?_); rintro e w34 ⟨rfl, hb⟩; have n0_ := Aside0.mk (below_step (by repeat (first | (with_reducible first | exact HB.out | apply below_alloc | apply pw_below_drewN | apply below_drew1) | exact HB.out)) hb); clear HB; have HB := n0_; clear n0_; (try clear hb); (try clear hb2); (try clear hk); (try clear hi)) | (go_at_call 14; (with_reducible refine (ratio_Floor.calls kj7 a0 a1 1 t288 t289 _ A27.out).mono ?_); rintro e w35 ⟨rfl, hb⟩; have n0_ := Aside0.mk (below_step (by repeat (first | (with_reducible first | exact HB.out | apply below_alloc | apply pw_below_drewN | apply below_drew1) | exact HB.out)) hb); clear HB; have HB := n0_; clear n0_; (try clear hb); (try clear hb2); (try clear hk); (try clear hi)))
                    go_ret
                    exact ⟨by first | rfl | (simp [errW_none, errW_some] <;> rfl) | (simp [*, errW_none, errW_some] <;> rfl), by repeat (first | (with_reducible first | exact HB.out | apply below_alloc | apply pw_below_drewN | apply below_drew1) | exact HB.out)⟩
                  · rw [if_neg c33] at H
                    exact absurd H (by simp)
                · rw [if_neg c32] at H
                  exact absurd H (by simp)
              · rw [if_neg c31] at H
                exact absurd H (by simp)
            · replace c30 := Bool.eq_false_iff.mpr c30
              subst c30
              have H1 : (none) = some r := by rw [if_neg (show ¬ (false = true) by decide)] at H; exact H
              clear H
              have H := H1
              clear H1
              exact absurd H (by simp)
          · rw [if_neg c29] at H
            have c29b0 : (t289 == 0) = false := beq_eq_false_iff_ne.mpr c29
            have c29b1 : (t289 != 0) = true := bne_iff_ne.mpr c29
            by_cases c36 : t279 = true
            · subst c36
              have H1 : (if t280 ≤ t282 then (if t282 ≤ t284 then (if (IntKind.u64.wrap (t284 - t280)) ≤ 1 then (some true) else (none)) else (none)) else (none)) = some r := by rw [if_pos rfl] at H; exact H
              clear H
              have H := H1
              clear H1
              by_cases c37 : t280 ≤ t282
              · rw [if_pos c37] at H
                have c37b0 : decide (t280 ≤ t282) = true := decide_eq_true c37
                clear c37
                by_cases c38 : t282 ≤ t284
                · rw [if_pos c38] at H
                  have c38b0 : decide (t282 ≤ t284) = true := decide_eq_true c38
                  clear c38
                  by_cases c39 : (IntKind.u64.wrap (t284 - t280)) ≤ 1
                  · rw [if_pos c39] at H
                    have c39b0 : decide ((IntKind.u64.wrap (t284 - t280)) ≤ 1) = true := decide_eq_true c39
                    clear c39
                    obtain rfl := Option.some.inj H
                    go_wp2_with (first | ((with_reducible refine gate_callee (f := 14) rfl ?_); refine goesL_ (some 104) rfl rfl Try.func14 (by kernel_rfl) rfl #[.int .u64 t280, .int .u64 a2, .int .u64 1] rfl (by (try simp only [List.map_toArray, List.map_cons, List.map_nil]); first | done | rfl | (simp only [List.length_drop, List.length_take]; rfl)) ?_; (with_reducible refine (ratio_Floor.calls kj7 t280 a2 1 t286 t287 _ A26.out).mono ?_); rintro e w40 ⟨rfl, hb⟩; refine ⟨_, rfl, ?_⟩; have n0_ := Aside0.mk (below_step (by repeat (first | (with_reducible first | exact HB.out | apply below_alloc | apply pw_below_drewN | apply below_drew1) | exact HB.out)) hb); clear HB; have HB := n0_; clear n0_; (try clear hb); (try clear hb2); (try clear hk); (try clear hi)) | ((with_reducible refine gate_callee (f := 14) rfl ?_); refine goesL_ (some 110) rfl rfl Try.func14 (by kernel_rfl) rfl #[.int .u64 a0, .int .u64 a1, .int .u64 1] rfl (by (try simp only [List.map_toArray, List.map_cons, List.map_nil]); first | done | rfl | (simp only [List.length_drop, List.length_take]; rfl)) ?_; (with_reducible refine (ratio_Floor.calls kj7 a0 a1 1 t288 t289 _ A27.out).mono ?_); rintro e w41 ⟨rfl, hb⟩; refine ⟨_, rfl, ?_⟩; have n0_ := Aside0.mk (below_step (by repeat (first | (with_reducible first | exact HB.out | apply below_alloc | apply pw_below_drewN | apply below_drew1) | exact HB.out)) hb); clear HB; have HB := n0_; clear n0_; (try clear hb); (try clear hb2); (try clear hk); (try clear hi)) | (go_at_call 14; (with_reducible refine (ratio_Floor.calls kj7 t280 a2 1 t286 t287 _ A26.out).mono ?_); rintro e w40 ⟨rfl, hb⟩; have n0_ := Aside0.mk (below_step (by repeat (first | (with_reducible first | exact HB.out | apply below_alloc | apply pw_below_drewN | apply below_drew1) | exact HB.out)) hb); clear HB; have HB := n0_; clear n0_; (try clear hb); (try clear hb2); (try clear hk); (try clear hi)) | (go_at_call 14; (with_reducible refine (ratio_Floor.calls kj7 a0 a1 1 t288 t289 _ A27.out).mono ?_); rintro e w41 ⟨rfl, hb⟩; have n0_ := Aside0.mk (below_step (by repeat (first | (with_reducible first | exact HB.out | apply below_alloc | apply pw_below_drewN | apply below_drew1) | exact HB.out)) hb); clear HB; have HB := n0_; clear n0_; (try clear hb); (try clear hb2); (try clear hk); (try clear hi)))
                    go_ret
                    exact ⟨by first | rfl | (simp [errW_none, errW_some] <;> rfl) | (simp [*, errW_none, errW_some] <;> rfl), by repeat (first | (with_reducible first | exact HB.out | apply below_alloc | apply pw_below_drewN | apply below_drew1) | exact HB.out)⟩
                  · rw [if_neg c39] at H
                    exact absurd H (by simp)
                · rw [if_neg c38] at H
                  exact absurd H (by simp)
              · rw [if_neg c37] at H
                exact absurd H (by simp)
            · replace c36 := Bool.eq_false_iff.mpr c36
              subst c36
              have H1 : (none) = some r := by rw [if_neg (show ¬ (false = true) by decide)] at H; exact H
              clear H
              have H := H1
              clear H1
              exact absurd H (by simp)
        · rw [if_neg c28] at H
          have c28b0 : (t287 == 0) = false := beq_eq_false_iff_ne.mpr c28
          have c28b1 : (t287 != 0) = true := bne_iff_ne.mpr c28
          by_cases c42 : t279 = true
          · subst c42
            have H1 : (if t280 ≤ t282 then (if t282 ≤ t284 then (if (IntKind.u64.wrap (t284 - t280)) ≤ 1 then (some true) else (none)) else (none)) else (none)) = some r := by rw [if_pos rfl] at H; exact H
            clear H
            have H := H1
            clear H1
            by_cases c43 : t280 ≤ t282
            · rw [if_pos c43] at H
              have c43b0 : decide (t280 ≤ t282) = true := decide_eq_true c43
              clear c43
              by_cases c44 : t282 ≤ t284
              · rw [if_pos c44] at H
                have c44b0 : decide (t282 ≤ t284) = true := decide_eq_true c44
                clear c44
                by_cases c45 : (IntKind.u64.wrap (t284 - t280)) ≤ 1
                · rw [if_pos c45] at H
                  have c45b0 : decide ((IntKind.u64.wrap (t284 - t280)) ≤ 1) = true := decide_eq_true c45
                  clear c45
                  obtain rfl := Option.some.inj H
                  go_wp2_with (first | ((with_reducible refine gate_callee (f := 14) rfl ?_); refine goesL_ (some 104) rfl rfl Try.func14 (by kernel_rfl) rfl #[.int .u64 t280, .int .u64 a2, .int .u64 1] rfl (by (try simp only [List.map_toArray, List.map_cons, List.map_nil]); first | done | rfl | (simp only [List.length_drop, List.length_take]; rfl)) ?_; (with_reducible refine (ratio_Floor.calls kj7 t280 a2 1 t286 t287 _ A26.out).mono ?_); rintro e w46 ⟨rfl, hb⟩; refine ⟨_, rfl, ?_⟩; have n0_ := Aside0.mk (below_step (by repeat (first | (with_reducible first | exact HB.out | apply below_alloc | apply pw_below_drewN | apply below_drew1) | exact HB.out)) hb); clear HB; have HB := n0_; clear n0_; (try clear hb); (try clear hb2); (try clear hk); (try clear hi)) | ((with_reducible refine gate_callee (f := 14) rfl ?_); refine goesL_ (some 110) rfl rfl Try.func14 (by kernel_rfl) rfl #[.int .u64 a0, .int .u64 a1, .int .u64 1] rfl (by (try simp only [List.map_toArray, List.map_cons, List.map_nil]); first | done | rfl | (simp only [List.length_drop, List.length_take]; rfl)) ?_; (with_reducible refine (ratio_Floor.calls kj7 a0 a1 1 t288 t289 _ A27.out).mono ?_); rintro e w47 ⟨rfl, hb⟩; refine ⟨_, rfl, ?_⟩; have n0_ := Aside0.mk (below_step (by repeat (first | (with_reducible first | exact HB.out | apply below_alloc | apply pw_below_drewN | apply below_drew1) | exact HB.out)) hb); clear HB; have HB := n0_; clear n0_; (try clear hb); (try clear hb2); (try clear hk); (try clear hi)) | (go_at_call 14; (with_reducible refine (ratio_Floor.calls kj7 t280 a2 1 t286 t287 _ A26.out).mono ?_); rintro e w46 ⟨rfl, hb⟩; have n0_ := Aside0.mk (below_step (by repeat (first | (with_reducible first | exact HB.out | apply below_alloc | apply pw_below_drewN | apply below_drew1) | exact HB.out)) hb); clear HB; have HB := n0_; clear n0_; (try clear hb); (try clear hb2); (try clear hk); (try clear hi)) | (go_at_call 14; (with_reducible refine (ratio_Floor.calls kj7 a0 a1 1 t288 t289 _ A27.out).mono ?_); rintro e w47 ⟨rfl, hb⟩; have n0_ := Aside0.mk (below_step (by repeat (first | (with_reducible first | exact HB.out | apply below_alloc | apply pw_below_drewN | apply below_drew1) | exact HB.out)) hb); clear HB; have HB := n0_; clear n0_; (try clear hb); (try clear hb2); (try clear hk); (try clear hi)))
                  go_ret
                  exact ⟨by first | rfl | (simp [errW_none, errW_some] <;> rfl) | (simp [*, errW_none, errW_some] <;> rfl), by repeat (first | (with_reducible first | exact HB.out | apply below_alloc | apply pw_below_drewN | apply below_drew1) | exact HB.out)⟩
                · rw [if_neg c45] at H
                  exact absurd H (by simp)
              · rw [if_neg c44] at H
                exact absurd H (by simp)
            · rw [if_neg c43] at H
              exact absurd H (by simp)
          · replace c42 := Bool.eq_false_iff.mpr c42
            subst c42
            have H1 : (none) = some r := by rw [if_neg (show ¬ (false = true) by decide)] at H; exact H
            clear H
            have H := H1
            clear H1
            exact absurd H (by simp)

/-- THE ONE PURE STATEMENT of linhaylaw03_RatioParts: yours. -/
def linhaylaw03_RatioParts.Pure : Prop := ∀ (a0 : Int) (a1 : Int) (a2 : Int), (Lit.int .u64 a0).wf = true → (Lit.int .u64 a1).wf = true → (Lit.int .u64 a2).wf = true → ∃ k, linhaylaw03_RatioParts.f k a0 a1 a2 = some true
theorem linhaylaw03_RatioParts.walk (P : linhaylaw03_RatioParts.Pure) (a0 : Int) (a1 : Int) (a2 : Int) (w : World) (w0 : (Lit.int .u64 a0).wf = true) (w1 : (Lit.int .u64 a1).wf = true) (w2 : (Lit.int .u64 a2).wf = true) :
    Calls Try.prog 6 #[.int .u64 a0, .int .u64 a1, .int .u64 a2] w fun e w' => e = .returned (.bool true) ∧ Below w.heap.size w w' := by
  obtain ⟨k, h⟩ := P a0 a1 a2 w0 w1 w2
  refine (linhaylaw03_RatioParts.calls k a0 a1 a2 true w h).mono ?_
  rintro e w' ⟨rfl, hd⟩
  exact ⟨rfl, hd⟩

end Go.Proofs.Ytnobdpenncfghaa.Print
