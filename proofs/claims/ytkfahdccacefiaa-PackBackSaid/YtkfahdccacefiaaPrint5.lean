/- Lean functions that answer what Go functions of the translation answer, and the proofs of it. Written by a program of this session (wip/tools/seatprint.py), over contracts that it proved by hand. Conditions: those that each theorem says. -/
import Derived.Test.YtkfahdccacefiaaPrint0
import Derived.Test.YtkfahdccacefiaaPrint1
import Derived.Test.YtkfahdccacefiaaPrint2
import Derived.Test.YtkfahdccacefiaaPrint3
import Derived.Test.YtkfahdccacefiaaPrint4
namespace Go.Proofs.Ytkfahdccacefiaa.Print
open Go.RowKit Go.Proofs.YtkfahdccacefiaaW.PrintWords Go.Proofs.YtkfahdccacefiaaW.PrintLast Go.Proofs.YtkfahdccacefiaaW.PrintMore
attribute [local go_sem] max2_int min2_int max_two min_two max_three min_three max_four min_four   -- for this text's walks alone
set_option linter.unusedVariables false
set_option linter.unusedSimpArgs false

/-! ### linhaylaw07_PackTells: function 3 -/
mutual
def linhaylaw07_PackTells.j0 : Nat → ByteArray → List Int → List ByteArray → Int → Bool → Bool → Option (Bool)
  | 0, _, _, _, _, _, _ => none
  | k + 1, x0, x1, x2, x3, x9, x42 => if x42 = true then (some x9) else ((pack_Take.f k x0).bind fun bt203 => ((linhayref07_Take.f k x0).bind fun bt206 => ((pack_TakeText.f k x0).bind fun bt209 => ((linhayref07_TakeText.f k x0).bind fun bt212 => ((pack_TakeTexts.f k x0).bind fun bt215 => ((linhayref07_TakeTexts.f k x0).bind fun bt220 => (if bt203.1 = bt206.1 then (if bt203.2.1.toList = bt206.2.1.toList then (if bt203.2.2 = bt206.2.2 then (if bt209.1.toList = bt212.1.toList then (if bt209.2.1.toList = bt212.2.1.toList then (if bt209.2.2 = bt212.2.2 then ((linhayref07_Same.f k bt215.1 bt220.1).bind fun t225 => (if t225 = true then (if bt215.2.1.toList = bt220.2.1.toList then (linhaylaw07_PackTells.j1 k x0 x1 x2 x3 x9 (bt215.2.2 == bt220.2.2)) else (linhaylaw07_PackTells.j1 k x0 x1 x2 x3 x9 false)) else (linhaylaw07_PackTells.j1 k x0 x1 x2 x3 x9 false))) else (linhaylaw07_PackTells.j1 k x0 x1 x2 x3 x9 false)) else (linhaylaw07_PackTells.j1 k x0 x1 x2 x3 x9 false)) else (linhaylaw07_PackTells.j1 k x0 x1 x2 x3 x9 false)) else (linhaylaw07_PackTells.j1 k x0 x1 x2 x3 x9 false)) else (linhaylaw07_PackTells.j1 k x0 x1 x2 x3 x9 false)) else (linhaylaw07_PackTells.j1 k x0 x1 x2 x3 x9 false))))))))
def linhaylaw07_PackTells.j1 : Nat → ByteArray → List Int → List ByteArray → Int → Bool → Bool → Option (Bool)
  | 0, _, _, _, _, _, _ => none
  | k + 1, x0, x1, x2, x3, x9, x28 => if x9 = true then (if x28 = true then ((pack_Put.f x0 x1).bind fun t226 => ((linhayref07_Put.f k x0 x1).bind fun t227 => (if t226.toList = t227.toList then ((pack_Text.f x0 x0).bind fun t228 => ((linhayref07_Text.f k x0 x0).bind fun t229 => (if t228.toList = t229.toList then ((pack_Texts.f k x0 x2).bind fun t230 => ((linhayref07_Texts.f k x0 x2).bind fun t231 => (if t230.toList = t231.toList then ((pack_Size.f x3).bind fun t232 => ((linhayref07_Size.f k x3).bind fun t233 => (some (t232 == t233)))) else (none)))) else (none)))) else (none)))) else (none)) else (none)
end
def linhaylaw07_PackTells.f (k : Nat) (a0 : ByteArray) (l1 : List Int) (l2 : List ByteArray) (a3 : Int) : Option (Bool) := (linhaylaw07_awake.f k).bind fun t201 => (if (a0.size : Int) > 1000 then (linhaylaw07_PackTells.j0 k a0 l1 l2 a3 t201 true) else (if (l1.length : Int) > 1000 then (linhaylaw07_PackTells.j0 k a0 l1 l2 a3 t201 true) else ((linhayref07_Few.f k l2 100).bind fun t202 => (linhaylaw07_PackTells.j0 k a0 l1 l2 a3 t201 (!t202)))))
theorem linhaylaw07_PackTells.mono_l : ∀ k, (∀ y0 y1 y2 y3 y4 y5, LeO (linhaylaw07_PackTells.j0 k y0 y1 y2 y3 y4 y5) (linhaylaw07_PackTells.j0 (k + 1) y0 y1 y2 y3 y4 y5)) ∧ (∀ y0 y1 y2 y3 y4 y5, LeO (linhaylaw07_PackTells.j1 k y0 y1 y2 y3 y4 y5) (linhaylaw07_PackTells.j1 (k + 1) y0 y1 y2 y3 y4 y5))
  | 0 => ⟨fun _ _ _ _ _ _ r h => by simp [linhaylaw07_PackTells.j0] at h, fun _ _ _ _ _ _ r h => by simp [linhaylaw07_PackTells.j1] at h⟩
  | k + 1 => by
    obtain ⟨ih0, ih1⟩ := linhaylaw07_PackTells.mono_l k
    refine ⟨?_, ?_⟩
    · intro y0 y1 y2 y3 y4 y5
      unfold linhaylaw07_PackTells.j0
      repeat' first
      | (with_reducible exact ih0 _ _ _ _ _ _)
      | (with_reducible exact ih1 _ _ _ _ _ _)
      | (with_reducible exact linhaylaw07_awake.mono _)
      | (with_reducible exact linhayref07_Few.mono _ _ _)
      | (with_reducible exact linhayref07_Put.mono _ _ _)
      | (with_reducible exact linhayref07_Same.mono _ _ _)
      | (with_reducible exact linhayref07_Size.mono _ _)
      | (with_reducible exact linhayref07_Take.mono _ _)
      | (with_reducible exact linhayref07_TakeText.mono _ _)
      | (with_reducible exact linhayref07_TakeTexts.mono _ _)
      | (with_reducible exact linhayref07_Text.mono _ _ _)
      | (with_reducible exact linhayref07_Texts.mono _ _ _)
      | (with_reducible exact pack_Take.mono _ _)
      | (with_reducible exact pack_TakeText.mono _ _)
      | (with_reducible exact pack_TakeTexts.mono _ _)
      | (with_reducible exact pack_Texts.mono _ _ _)
      | (with_reducible exact LeO.refl _)
      | (with_reducible exact LeO.none _)
      | (with_reducible refine LeO.ite ?_ ?_)
      | (with_reducible refine LeO.bind ?_ (fun _ => ?_))
      | exact ih0 _ _ _ _ _ _
      | exact ih1 _ _ _ _ _ _
      | exact linhaylaw07_awake.mono _
      | exact linhayref07_Few.mono _ _ _
      | exact linhayref07_Put.mono _ _ _
      | exact linhayref07_Same.mono _ _ _
      | exact linhayref07_Size.mono _ _
      | exact linhayref07_Take.mono _ _
      | exact linhayref07_TakeText.mono _ _
      | exact linhayref07_TakeTexts.mono _ _
      | exact linhayref07_Text.mono _ _ _
      | exact linhayref07_Texts.mono _ _ _
      | exact pack_Take.mono _ _
      | exact pack_TakeText.mono _ _
      | exact pack_TakeTexts.mono _ _
      | exact pack_Texts.mono _ _ _
      | exact LeO.none _
      | refine LeO.ite ?_ ?_
      | refine LeO.bind ?_ (fun _ => ?_)
    · intro y0 y1 y2 y3 y4 y5
      unfold linhaylaw07_PackTells.j1
      repeat' first
      | (with_reducible exact ih0 _ _ _ _ _ _)
      | (with_reducible exact ih1 _ _ _ _ _ _)
      | (with_reducible exact linhaylaw07_awake.mono _)
      | (with_reducible exact linhayref07_Few.mono _ _ _)
      | (with_reducible exact linhayref07_Put.mono _ _ _)
      | (with_reducible exact linhayref07_Same.mono _ _ _)
      | (with_reducible exact linhayref07_Size.mono _ _)
      | (with_reducible exact linhayref07_Take.mono _ _)
      | (with_reducible exact linhayref07_TakeText.mono _ _)
      | (with_reducible exact linhayref07_TakeTexts.mono _ _)
      | (with_reducible exact linhayref07_Text.mono _ _ _)
      | (with_reducible exact linhayref07_Texts.mono _ _ _)
      | (with_reducible exact pack_Take.mono _ _)
      | (with_reducible exact pack_TakeText.mono _ _)
      | (with_reducible exact pack_TakeTexts.mono _ _)
      | (with_reducible exact pack_Texts.mono _ _ _)
      | (with_reducible exact LeO.refl _)
      | (with_reducible exact LeO.none _)
      | (with_reducible refine LeO.ite ?_ ?_)
      | (with_reducible refine LeO.bind ?_ (fun _ => ?_))
      | exact ih0 _ _ _ _ _ _
      | exact ih1 _ _ _ _ _ _
      | exact linhaylaw07_awake.mono _
      | exact linhayref07_Few.mono _ _ _
      | exact linhayref07_Put.mono _ _ _
      | exact linhayref07_Same.mono _ _ _
      | exact linhayref07_Size.mono _ _
      | exact linhayref07_Take.mono _ _
      | exact linhayref07_TakeText.mono _ _
      | exact linhayref07_TakeTexts.mono _ _
      | exact linhayref07_Text.mono _ _ _
      | exact linhayref07_Texts.mono _ _ _
      | exact pack_Take.mono _ _
      | exact pack_TakeText.mono _ _
      | exact pack_TakeTexts.mono _ _
      | exact pack_Texts.mono _ _ _
      | exact LeO.none _
      | refine LeO.ite ?_ ?_
      | refine LeO.bind ?_ (fun _ => ?_)
theorem linhaylaw07_PackTells.mono : ∀ a0 a1 a2 a3 k, LeO (linhaylaw07_PackTells.f k a0 a1 a2 a3) (linhaylaw07_PackTells.f (k + 1) a0 a1 a2 a3) := by
  intro a0 a1 a2 a3 k
  obtain ⟨ih0, ih1⟩ := linhaylaw07_PackTells.mono_l k
  unfold linhaylaw07_PackTells.f
  repeat' first
      | (with_reducible exact ih0 _ _ _ _ _ _)
      | (with_reducible exact ih1 _ _ _ _ _ _)
      | (with_reducible exact linhaylaw07_awake.mono _)
      | (with_reducible exact linhayref07_Few.mono _ _ _)
      | (with_reducible exact linhayref07_Put.mono _ _ _)
      | (with_reducible exact linhayref07_Same.mono _ _ _)
      | (with_reducible exact linhayref07_Size.mono _ _)
      | (with_reducible exact linhayref07_Take.mono _ _)
      | (with_reducible exact linhayref07_TakeText.mono _ _)
      | (with_reducible exact linhayref07_TakeTexts.mono _ _)
      | (with_reducible exact linhayref07_Text.mono _ _ _)
      | (with_reducible exact linhayref07_Texts.mono _ _ _)
      | (with_reducible exact pack_Take.mono _ _)
      | (with_reducible exact pack_TakeText.mono _ _)
      | (with_reducible exact pack_TakeTexts.mono _ _)
      | (with_reducible exact pack_Texts.mono _ _ _)
      | (with_reducible exact LeO.refl _)
      | (with_reducible exact LeO.none _)
      | (with_reducible refine LeO.ite ?_ ?_)
      | (with_reducible refine LeO.bind ?_ (fun _ => ?_))
      | exact ih0 _ _ _ _ _ _
      | exact ih1 _ _ _ _ _ _
      | exact linhaylaw07_awake.mono _
      | exact linhayref07_Few.mono _ _ _
      | exact linhayref07_Put.mono _ _ _
      | exact linhayref07_Same.mono _ _ _
      | exact linhayref07_Size.mono _ _
      | exact linhayref07_Take.mono _ _
      | exact linhayref07_TakeText.mono _ _
      | exact linhayref07_TakeTexts.mono _ _
      | exact linhayref07_Text.mono _ _ _
      | exact linhayref07_Texts.mono _ _ _
      | exact pack_Take.mono _ _
      | exact pack_TakeText.mono _ _
      | exact pack_TakeTexts.mono _ _
      | exact pack_Texts.mono _ _ _
      | exact LeO.none _
      | refine LeO.ite ?_ ?_
      | refine LeO.bind ?_ (fun _ => ?_)
set_option maxHeartbeats 8000000 in
set_option maxRecDepth 100000 in
theorem linhaylaw07_PackTells.calls (k : Nat) (a0 : ByteArray) (A1 : Option Addr) (c1 : Nat) (l1 : List Int) (A2 : Option Addr) (c2 : Nat) (l2 : List ByteArray) (a3 : Int) (r : Bool) (w : World) (hr1 : Kd.C (Kd.int .u64) w A1 l1.length l1) (hc1 : l1.length ≤ c1) (hr2 : Kd.C Kd.string w A2 l2.length l2) (hc2 : l2.length ≤ c2) (h : linhaylaw07_PackTells.f k a0 l1 l2 a3 = some r) :
    Calls Try.prog 3 #[.string a0, .slice A1 l1.length c1, .slice A2 l2.length c2, .int .u64 a3] w fun e w' => e = .returned (.bool r) ∧ Below w.heap.size w w' := by
  have HR1 := Aside0.mk hr1
  have HC1 := Aside0.mk hc1
  clear hr1 hc1
  have HR2 := Aside0.mk hr2
  have HC2 := Aside0.mk hc2
  clear hr2 hc2
  have HB := Aside0.mk (Below.refl w.heap.size w)
  have H : ((linhaylaw07_awake.f k).bind fun t201 => (if (a0.size : Int) > 1000 then (linhaylaw07_PackTells.j0 k a0 l1 l2 a3 t201 true) else (if (l1.length : Int) > 1000 then (linhaylaw07_PackTells.j0 k a0 l1 l2 a3 t201 true) else ((linhayref07_Few.f k l2 100).bind fun t202 => (linhaylaw07_PackTells.j0 k a0 l1 l2 a3 t201 (!t202)))))) = some r := h
  clear h
  replace H := Option.bind_eq_some_iff.mp H
  obtain ⟨t201, A50, H⟩ := H
  replace H : (if (a0.size : Int) > 1000 then (linhaylaw07_PackTells.j0 k a0 l1 l2 a3 t201 true) else (if (l1.length : Int) > 1000 then (linhaylaw07_PackTells.j0 k a0 l1 l2 a3 t201 true) else ((linhayref07_Few.f k l2 100).bind fun t202 => (linhaylaw07_PackTells.j0 k a0 l1 l2 a3 t201 (!t202))))) = some r := H
  have A5 := Aside0.mk A50
  clear A50
  have HC6 := Aside0.mk H
  clear H
  go_enter Try.func3, Try.ntmps3
  go_upto_region 2 with (first | ((with_reducible refine gate_callee (f := 9) rfl ?_); refine goesL_ (some 29) rfl rfl Try.func9 (by kernel_rfl) rfl #[] rfl (by (try simp only [List.map_toArray, List.map_cons, List.map_nil]); first | done | rfl | (simp only [List.length_drop, List.length_take]; rfl)) ?_; (with_reducible refine (linhaylaw07_awake.calls k  t201 _ A5.out).mono ?_); rintro e w7 ⟨rfl, hb⟩; refine ⟨_, rfl, ?_⟩; have n0_ := Aside0.mk (below_step (by repeat (first | (with_reducible first | exact HB.out | apply below_alloc | apply pw_below_drewN | apply below_drew1) | exact HB.out)) hb); clear HB; have HB := n0_; clear n0_; (try clear hb); (try clear hb2); (try clear hk); (try clear hi)) | (go_at_call 9; (with_reducible refine (linhaylaw07_awake.calls k  t201 _ A5.out).mono ?_); rintro e w7 ⟨rfl, hb⟩; have n0_ := Aside0.mk (below_step (by repeat (first | (with_reducible first | exact HB.out | apply below_alloc | apply pw_below_drewN | apply below_drew1) | exact HB.out)) hb); clear HB; have HB := n0_; clear n0_; (try clear hb); (try clear hb2); (try clear hk); (try clear hi)))
  (try simp only [Act.put, List.setIfInBounds_toArray, List.set_cons_zero, List.set_cons_succ])
  go_cut [42] (fun v42 wc => ∃ (kq : Nat) (x42_5 : Bool), v42 = .bool x42_5 ∧ Aside0 (linhaylaw07_PackTells.j0 kq a0 l1 l2 a3 t201 x42_5 = some r) ∧ Aside0 (kq ≤ k) ∧ Aside0 (Below w.heap.size w wc))
  case first =>
    have H := HC6.out
    clear HC6
    by_cases c8 : (a0.size : Int) > 1000
    · rw [if_pos c8] at H
      have c8b0 : decide (1000 < (a0.size : Int)) = true := decide_eq_true c8
      have c8b1 : decide (1000 < a0.size) = true := decide_eq_true (by omega)
      clear c8
      (first | rw [c8b0] | (simp only [i64_w, i32_w]; rw [c8b0]) | skip)
      have H' := Aside0.mk H
      clear H
      go_wp2
      go_meet
      case rel => exact ⟨_, (true), (by first | rfl | (simp; done) | (simp [*]; done)), H', ⟨by first | omega | exact Nat.le_refl _⟩, ⟨by repeat (first | (with_reducible first | exact HB.out | apply below_alloc | apply pw_below_drewN | apply below_drew1) | exact HB.out)⟩⟩
    · rw [if_neg c8] at H
      have c8b0 : decide (1000 < (a0.size : Int)) = false := decide_eq_false c8
      have c8b1 : decide (1000 < a0.size) = false := decide_eq_false (by omega)
      clear c8
      (first | rw [c8b0] | (simp only [i64_w, i32_w]; rw [c8b0]) | skip)
      by_cases c9 : (l1.length : Int) > 1000
      · rw [if_pos c9] at H
        have c9b0 : decide (1000 < (l1.length : Int)) = true := decide_eq_true c9
        have c9b1 : decide (1000 < l1.length) = true := decide_eq_true (by omega)
        clear c9
        have H' := Aside0.mk H
        clear H
        go_wp2
        go_meet
        case rel => exact ⟨_, (true), (by first | rfl | (simp; done) | (simp [*]; done)), H', ⟨by first | omega | exact Nat.le_refl _⟩, ⟨by repeat (first | (with_reducible first | exact HB.out | apply below_alloc | apply pw_below_drewN | apply below_drew1) | exact HB.out)⟩⟩
      · rw [if_neg c9] at H
        have c9b0 : decide (1000 < (l1.length : Int)) = false := decide_eq_false c9
        have c9b1 : decide (1000 < l1.length) = false := decide_eq_false (by omega)
        clear c9
        replace H := Option.bind_eq_some_iff.mp H
        obtain ⟨t202, A100, H⟩ := H
        replace H : (linhaylaw07_PackTells.j0 k a0 l1 l2 a3 t201 (!t202)) = some r := H
        have A10 := Aside0.mk A100
        clear A100
        have H' := Aside0.mk H
        clear H
        go_wp2_with (first | (go_at_call 10; (with_reducible refine (linhayref07_Few.calls k _ _ l2 100 t202 _ ?side1 ?side2 A10.out).mono ?_); (case side1 => repeat (first | exact (Kd.C_below HR2.out HB.out) | (with_reducible refine Kd.C_alloc ?_ _) | (with_reducible refine Kd.C_drewN ?_ _) | (with_reducible refine Kd.C_drew ?_))); (case side2 => exact HC2.out); rintro e w' ⟨rfl, ⟨nd, rfl⟩⟩))
        go_meet
        case rel => exact ⟨_, (!t202), (by first | rfl | (simp; done) | (simp [*]; done)), H', ⟨by first | omega | exact Nat.le_refl _⟩, ⟨by repeat (first | (with_reducible first | exact HB.out | apply below_alloc | apply pw_below_drewN | apply below_drew1) | exact HB.out)⟩⟩
  case rest =>
    clear HC6
    try clear c1
    try clear c2
    try clear p2
    try clear c3
    try clear c8
    try clear c8b0
    try clear c8b1
    try clear c9
    try clear c9b0
    try clear c9b1
    obtain ⟨kq, x42_5, rfl, HA, HJ5, HB⟩ := hcut
    cases kq with
    | zero => exact absurd HA.out (by simp [linhaylaw07_PackTells.j0])
    | succ kj5 =>
      have H := HA.out
      clear HA
      simp only [linhaylaw07_PackTells.j0] at H
      by_cases c11 : x42_5 = true
      · subst c11
        have H1 : (some t201) = some r := by rw [if_pos rfl] at H; exact H
        clear H
        have H := H1
        clear H1
        obtain rfl := Option.some.inj H
        go_wp2
        go_ret
        exact ⟨by first | rfl | (simp [errW_none, errW_some] <;> rfl) | (simp [*, errW_none, errW_some] <;> rfl), by repeat (first | (with_reducible first | exact HB.out | apply below_alloc | apply pw_below_drewN | apply below_drew1) | exact HB.out)⟩
      · replace c11 := Bool.eq_false_iff.mpr c11
        subst c11
        have H1 : ((pack_Take.f kj5 a0).bind fun bt203 => ((linhayref07_Take.f kj5 a0).bind fun bt206 => ((pack_TakeText.f kj5 a0).bind fun bt209 => ((linhayref07_TakeText.f kj5 a0).bind fun bt212 => ((pack_TakeTexts.f kj5 a0).bind fun bt215 => ((linhayref07_TakeTexts.f kj5 a0).bind fun bt220 => (if bt203.1 = bt206.1 then (if bt203.2.1.toList = bt206.2.1.toList then (if bt203.2.2 = bt206.2.2 then (if bt209.1.toList = bt212.1.toList then (if bt209.2.1.toList = bt212.2.1.toList then (if bt209.2.2 = bt212.2.2 then ((linhayref07_Same.f kj5 bt215.1 bt220.1).bind fun t225 => (if t225 = true then (if bt215.2.1.toList = bt220.2.1.toList then (linhaylaw07_PackTells.j1 kj5 a0 l1 l2 a3 t201 (bt215.2.2 == bt220.2.2)) else (linhaylaw07_PackTells.j1 kj5 a0 l1 l2 a3 t201 false)) else (linhaylaw07_PackTells.j1 kj5 a0 l1 l2 a3 t201 false))) else (linhaylaw07_PackTells.j1 kj5 a0 l1 l2 a3 t201 false)) else (linhaylaw07_PackTells.j1 kj5 a0 l1 l2 a3 t201 false)) else (linhaylaw07_PackTells.j1 kj5 a0 l1 l2 a3 t201 false)) else (linhaylaw07_PackTells.j1 kj5 a0 l1 l2 a3 t201 false)) else (linhaylaw07_PackTells.j1 kj5 a0 l1 l2 a3 t201 false)) else (linhaylaw07_PackTells.j1 kj5 a0 l1 l2 a3 t201 false)))))))) = some r := by rw [if_neg (show ¬ (false = true) by decide)] at H; exact H
        clear H
        have H := H1
        clear H1
        replace H := Option.bind_eq_some_iff.mp H
        obtain ⟨⟨t203, t204, t205⟩, A120, H⟩ := H
        replace H : ((linhayref07_Take.f kj5 a0).bind fun bt206 => ((pack_TakeText.f kj5 a0).bind fun bt209 => ((linhayref07_TakeText.f kj5 a0).bind fun bt212 => ((pack_TakeTexts.f kj5 a0).bind fun bt215 => ((linhayref07_TakeTexts.f kj5 a0).bind fun bt220 => (if t203 = bt206.1 then (if t204.toList = bt206.2.1.toList then (if t205 = bt206.2.2 then (if bt209.1.toList = bt212.1.toList then (if bt209.2.1.toList = bt212.2.1.toList then (if bt209.2.2 = bt212.2.2 then ((linhayref07_Same.f kj5 bt215.1 bt220.1).bind fun t225 => (if t225 = true then (if bt215.2.1.toList = bt220.2.1.toList then (linhaylaw07_PackTells.j1 kj5 a0 l1 l2 a3 t201 (bt215.2.2 == bt220.2.2)) else (linhaylaw07_PackTells.j1 kj5 a0 l1 l2 a3 t201 false)) else (linhaylaw07_PackTells.j1 kj5 a0 l1 l2 a3 t201 false))) else (linhaylaw07_PackTells.j1 kj5 a0 l1 l2 a3 t201 false)) else (linhaylaw07_PackTells.j1 kj5 a0 l1 l2 a3 t201 false)) else (linhaylaw07_PackTells.j1 kj5 a0 l1 l2 a3 t201 false)) else (linhaylaw07_PackTells.j1 kj5 a0 l1 l2 a3 t201 false)) else (linhaylaw07_PackTells.j1 kj5 a0 l1 l2 a3 t201 false)) else (linhaylaw07_PackTells.j1 kj5 a0 l1 l2 a3 t201 false))))))) = some r := H
        have A12 := Aside0.mk A120
        clear A120
        replace H := Option.bind_eq_some_iff.mp H
        obtain ⟨⟨t206, t207, t208⟩, A130, H⟩ := H
        replace H : ((pack_TakeText.f kj5 a0).bind fun bt209 => ((linhayref07_TakeText.f kj5 a0).bind fun bt212 => ((pack_TakeTexts.f kj5 a0).bind fun bt215 => ((linhayref07_TakeTexts.f kj5 a0).bind fun bt220 => (if t203 = t206 then (if t204.toList = t207.toList then (if t205 = t208 then (if bt209.1.toList = bt212.1.toList then (if bt209.2.1.toList = bt212.2.1.toList then (if bt209.2.2 = bt212.2.2 then ((linhayref07_Same.f kj5 bt215.1 bt220.1).bind fun t225 => (if t225 = true then (if bt215.2.1.toList = bt220.2.1.toList then (linhaylaw07_PackTells.j1 kj5 a0 l1 l2 a3 t201 (bt215.2.2 == bt220.2.2)) else (linhaylaw07_PackTells.j1 kj5 a0 l1 l2 a3 t201 false)) else (linhaylaw07_PackTells.j1 kj5 a0 l1 l2 a3 t201 false))) else (linhaylaw07_PackTells.j1 kj5 a0 l1 l2 a3 t201 false)) else (linhaylaw07_PackTells.j1 kj5 a0 l1 l2 a3 t201 false)) else (linhaylaw07_PackTells.j1 kj5 a0 l1 l2 a3 t201 false)) else (linhaylaw07_PackTells.j1 kj5 a0 l1 l2 a3 t201 false)) else (linhaylaw07_PackTells.j1 kj5 a0 l1 l2 a3 t201 false)) else (linhaylaw07_PackTells.j1 kj5 a0 l1 l2 a3 t201 false)))))) = some r := H
        have A13 := Aside0.mk A130
        clear A130
        replace H := Option.bind_eq_some_iff.mp H
        obtain ⟨⟨t209, t210, t211⟩, A140, H⟩ := H
        replace H : ((linhayref07_TakeText.f kj5 a0).bind fun bt212 => ((pack_TakeTexts.f kj5 a0).bind fun bt215 => ((linhayref07_TakeTexts.f kj5 a0).bind fun bt220 => (if t203 = t206 then (if t204.toList = t207.toList then (if t205 = t208 then (if t209.toList = bt212.1.toList then (if t210.toList = bt212.2.1.toList then (if t211 = bt212.2.2 then ((linhayref07_Same.f kj5 bt215.1 bt220.1).bind fun t225 => (if t225 = true then (if bt215.2.1.toList = bt220.2.1.toList then (linhaylaw07_PackTells.j1 kj5 a0 l1 l2 a3 t201 (bt215.2.2 == bt220.2.2)) else (linhaylaw07_PackTells.j1 kj5 a0 l1 l2 a3 t201 false)) else (linhaylaw07_PackTells.j1 kj5 a0 l1 l2 a3 t201 false))) else (linhaylaw07_PackTells.j1 kj5 a0 l1 l2 a3 t201 false)) else (linhaylaw07_PackTells.j1 kj5 a0 l1 l2 a3 t201 false)) else (linhaylaw07_PackTells.j1 kj5 a0 l1 l2 a3 t201 false)) else (linhaylaw07_PackTells.j1 kj5 a0 l1 l2 a3 t201 false)) else (linhaylaw07_PackTells.j1 kj5 a0 l1 l2 a3 t201 false)) else (linhaylaw07_PackTells.j1 kj5 a0 l1 l2 a3 t201 false))))) = some r := H
        have A14 := Aside0.mk A140
        clear A140
        replace H := Option.bind_eq_some_iff.mp H
        obtain ⟨⟨t212, t213, t214⟩, A150, H⟩ := H
        replace H : ((pack_TakeTexts.f kj5 a0).bind fun bt215 => ((linhayref07_TakeTexts.f kj5 a0).bind fun bt220 => (if t203 = t206 then (if t204.toList = t207.toList then (if t205 = t208 then (if t209.toList = t212.toList then (if t210.toList = t213.toList then (if t211 = t214 then ((linhayref07_Same.f kj5 bt215.1 bt220.1).bind fun t225 => (if t225 = true then (if bt215.2.1.toList = bt220.2.1.toList then (linhaylaw07_PackTells.j1 kj5 a0 l1 l2 a3 t201 (bt215.2.2 == bt220.2.2)) else (linhaylaw07_PackTells.j1 kj5 a0 l1 l2 a3 t201 false)) else (linhaylaw07_PackTells.j1 kj5 a0 l1 l2 a3 t201 false))) else (linhaylaw07_PackTells.j1 kj5 a0 l1 l2 a3 t201 false)) else (linhaylaw07_PackTells.j1 kj5 a0 l1 l2 a3 t201 false)) else (linhaylaw07_PackTells.j1 kj5 a0 l1 l2 a3 t201 false)) else (linhaylaw07_PackTells.j1 kj5 a0 l1 l2 a3 t201 false)) else (linhaylaw07_PackTells.j1 kj5 a0 l1 l2 a3 t201 false)) else (linhaylaw07_PackTells.j1 kj5 a0 l1 l2 a3 t201 false)))) = some r := H
        have A15 := Aside0.mk A150
        clear A150
        replace H := Option.bind_eq_some_iff.mp H
        obtain ⟨⟨t215, t216, t217⟩, A160, H⟩ := H
        replace H : ((linhayref07_TakeTexts.f kj5 a0).bind fun bt220 => (if t203 = t206 then (if t204.toList = t207.toList then (if t205 = t208 then (if t209.toList = t212.toList then (if t210.toList = t213.toList then (if t211 = t214 then ((linhayref07_Same.f kj5 t215 bt220.1).bind fun t225 => (if t225 = true then (if t216.toList = bt220.2.1.toList then (linhaylaw07_PackTells.j1 kj5 a0 l1 l2 a3 t201 (t217 == bt220.2.2)) else (linhaylaw07_PackTells.j1 kj5 a0 l1 l2 a3 t201 false)) else (linhaylaw07_PackTells.j1 kj5 a0 l1 l2 a3 t201 false))) else (linhaylaw07_PackTells.j1 kj5 a0 l1 l2 a3 t201 false)) else (linhaylaw07_PackTells.j1 kj5 a0 l1 l2 a3 t201 false)) else (linhaylaw07_PackTells.j1 kj5 a0 l1 l2 a3 t201 false)) else (linhaylaw07_PackTells.j1 kj5 a0 l1 l2 a3 t201 false)) else (linhaylaw07_PackTells.j1 kj5 a0 l1 l2 a3 t201 false)) else (linhaylaw07_PackTells.j1 kj5 a0 l1 l2 a3 t201 false))) = some r := H
        have A16 := Aside0.mk A160
        clear A160
        replace H := Option.bind_eq_some_iff.mp H
        obtain ⟨⟨t220, t221, t222⟩, A170, H⟩ := H
        replace H : (if t203 = t206 then (if t204.toList = t207.toList then (if t205 = t208 then (if t209.toList = t212.toList then (if t210.toList = t213.toList then (if t211 = t214 then ((linhayref07_Same.f kj5 t215 t220).bind fun t225 => (if t225 = true then (if t216.toList = t221.toList then (linhaylaw07_PackTells.j1 kj5 a0 l1 l2 a3 t201 (t217 == t222)) else (linhaylaw07_PackTells.j1 kj5 a0 l1 l2 a3 t201 false)) else (linhaylaw07_PackTells.j1 kj5 a0 l1 l2 a3 t201 false))) else (linhaylaw07_PackTells.j1 kj5 a0 l1 l2 a3 t201 false)) else (linhaylaw07_PackTells.j1 kj5 a0 l1 l2 a3 t201 false)) else (linhaylaw07_PackTells.j1 kj5 a0 l1 l2 a3 t201 false)) else (linhaylaw07_PackTells.j1 kj5 a0 l1 l2 a3 t201 false)) else (linhaylaw07_PackTells.j1 kj5 a0 l1 l2 a3 t201 false)) else (linhaylaw07_PackTells.j1 kj5 a0 l1 l2 a3 t201 false)) = some r := H
        have A17 := Aside0.mk A170
        clear A170
        have HC18 := Aside0.mk H
        clear H
        go_upto_region 10 with (first | ((with_reducible refine gate_callee (f := 11) rfl ?_); refine goesL_ (some 46) rfl rfl Try.func11 (by kernel_rfl) rfl #[.string a0] rfl (by (try simp only [List.map_toArray, List.map_cons, List.map_nil]); first | done | rfl | (simp only [List.length_drop, List.length_take]; rfl)) ?_; (with_reducible refine (pack_Take.calls kj5 a0 t203 t204 t205 _ A12.out).mono ?_); rintro e w19 ⟨rfl, hb⟩; refine ⟨_, rfl, ?_⟩; have n0_ := Aside0.mk (below_step (by repeat (first | (with_reducible first | exact HB.out | apply below_alloc | apply pw_below_drewN | apply below_drew1) | exact HB.out)) hb); clear HB; have HB := n0_; clear n0_; (try clear hb); (try clear hb2); (try clear hk); (try clear hi)) | ((with_reducible refine gate_callee (f := 12) rfl ?_); refine goesL_ (some 52) rfl rfl Try.func12 (by kernel_rfl) rfl #[.string a0] rfl (by (try simp only [List.map_toArray, List.map_cons, List.map_nil]); first | done | rfl | (simp only [List.length_drop, List.length_take]; rfl)) ?_; (with_reducible refine (linhayref07_Take.calls kj5 a0 t206 t207 t208 _ A13.out).mono ?_); rintro e w20 ⟨rfl, hb⟩; refine ⟨_, rfl, ?_⟩; have n0_ := Aside0.mk (below_step (by repeat (first | (with_reducible first | exact HB.out | apply below_alloc | apply pw_below_drewN | apply below_drew1) | exact HB.out)) hb); clear HB; have HB := n0_; clear n0_; (try clear hb); (try clear hb2); (try clear hk); (try clear hi)) | ((with_reducible refine gate_callee (f := 13) rfl ?_); refine goesL_ (some 58) rfl rfl Try.func13 (by kernel_rfl) rfl #[.string a0] rfl (by (try simp only [List.map_toArray, List.map_cons, List.map_nil]); first | done | rfl | (simp only [List.length_drop, List.length_take]; rfl)) ?_; (with_reducible refine (pack_TakeText.calls kj5 a0 t209 t210 t211 _ A14.out).mono ?_); rintro e w21 ⟨rfl, hb⟩; refine ⟨_, rfl, ?_⟩; have n0_ := Aside0.mk (below_step (by repeat (first | (with_reducible first | exact HB.out | apply below_alloc | apply pw_below_drewN | apply below_drew1) | exact HB.out)) hb); clear HB; have HB := n0_; clear n0_; (try clear hb); (try clear hb2); (try clear hk); (try clear hi)) | ((with_reducible refine gate_callee (f := 14) rfl ?_); refine goesL_ (some 64) rfl rfl Try.func14 (by kernel_rfl) rfl #[.string a0] rfl (by (try simp only [List.map_toArray, List.map_cons, List.map_nil]); first | done | rfl | (simp only [List.length_drop, List.length_take]; rfl)) ?_; (with_reducible refine (linhayref07_TakeText.calls kj5 a0 t212 t213 t214 _ A15.out).mono ?_); rintro e w22 ⟨rfl, hb⟩; refine ⟨_, rfl, ?_⟩; have n0_ := Aside0.mk (below_step (by repeat (first | (with_reducible first | exact HB.out | apply below_alloc | apply pw_below_drewN | apply below_drew1) | exact HB.out)) hb); clear HB; have HB := n0_; clear n0_; (try clear hb); (try clear hb2); (try clear hk); (try clear hi)) | ((with_reducible refine gate_callee (f := 15) rfl ?_); refine goesL_ (some 70) rfl rfl Try.func15 (by kernel_rfl) rfl #[.string a0] rfl (by (try simp only [List.map_toArray, List.map_cons, List.map_nil]); first | done | rfl | (simp only [List.length_drop, List.length_take]; rfl)) ?_; (with_reducible refine (pack_TakeTexts.calls kj5 a0 t215 t216 t217 _ A16.out).mono ?_); rintro e w23 ⟨v218, rfl, ho0, hb⟩; refine ⟨_, rfl, ?_⟩; have n0_ := Aside0.mk (Kd.R_lower ho0 (below_size (by repeat (first | (with_reducible first | exact HB.out | apply below_alloc | apply pw_below_drewN | apply below_drew1) | exact HB.out)))); have n1_ := Aside0.mk (below_step (by repeat (first | (with_reducible first | exact HB.out | apply below_alloc | apply pw_below_drewN | apply below_drew1) | exact HB.out)) hb); clear HB; have HO219 := n0_; have HB := n1_; clear n0_ n1_; (try clear hb); (try clear hb2); (try clear hk); (try clear hi); (try clear ho0)) | ((with_reducible refine gate_callee (f := 16) rfl ?_); refine goesL_ (some 76) rfl rfl Try.func16 (by kernel_rfl) rfl #[.string a0] rfl (by (try simp only [List.map_toArray, List.map_cons, List.map_nil]); first | done | rfl | (simp only [List.length_drop, List.length_take]; rfl)) ?_; (with_reducible refine (linhayref07_TakeTexts.calls kj5 a0 t220 t221 t222 _ A17.out).mono ?_); rintro e w24 ⟨v223, rfl, ho0, hb⟩; refine ⟨_, rfl, ?_⟩; have n0_ := Aside0.mk (Kd.R_elder' (by (with_reducible repeat (first | apply Kd.R_alloc | apply Kd.R_drewN | apply Kd.R_drew)); exact HO219.out) (Kd.R_base ho0) hb); have n1_ := Aside0.mk (Kd.R_lower (Kd.R_new' ho0 (Kd.R_lt (by (with_reducible repeat (first | apply Kd.R_alloc | apply Kd.R_drewN | apply Kd.R_drew)); exact HO219.out))) (below_size (by repeat (first | (with_reducible first | exact HB.out | apply below_alloc | apply pw_below_drewN | apply below_drew1) | exact HB.out)))); have n2_ := Aside0.mk (below_step (by repeat (first | (with_reducible first | exact HB.out | apply below_alloc | apply pw_below_drewN | apply below_drew1) | exact HB.out)) hb); clear HO219; clear HB; have HO219 := n0_; have HO224 := n1_; have HB := n2_; clear n0_ n1_ n2_; (try clear hb); (try clear hb2); (try clear hk); (try clear hi); (try clear ho0)) | (go_at_call 11; (with_reducible refine (pack_Take.calls kj5 a0 t203 t204 t205 _ A12.out).mono ?_); rintro e w19 ⟨rfl, hb⟩; have n0_ := Aside0.mk (below_step (by repeat (first | (with_reducible first | exact HB.out | apply below_alloc | apply pw_below_drewN | apply below_drew1) | exact HB.out)) hb); clear HB; have HB := n0_; clear n0_; (try clear hb); (try clear hb2); (try clear hk); (try clear hi)) | (go_at_call 12; (with_reducible refine (linhayref07_Take.calls kj5 a0 t206 t207 t208 _ A13.out).mono ?_); rintro e w20 ⟨rfl, hb⟩; have n0_ := Aside0.mk (below_step (by repeat (first | (with_reducible first | exact HB.out | apply below_alloc | apply pw_below_drewN | apply below_drew1) | exact HB.out)) hb); clear HB; have HB := n0_; clear n0_; (try clear hb); (try clear hb2); (try clear hk); (try clear hi)) | (go_at_call 13; (with_reducible refine (pack_TakeText.calls kj5 a0 t209 t210 t211 _ A14.out).mono ?_); rintro e w21 ⟨rfl, hb⟩; have n0_ := Aside0.mk (below_step (by repeat (first | (with_reducible first | exact HB.out | apply below_alloc | apply pw_below_drewN | apply below_drew1) | exact HB.out)) hb); clear HB; have HB := n0_; clear n0_; (try clear hb); (try clear hb2); (try clear hk); (try clear hi)) | (go_at_call 14; (with_reducible refine (linhayref07_TakeText.calls kj5 a0 t212 t213 t214 _ A15.out).mono ?_); rintro e w22 ⟨rfl, hb⟩; have n0_ := Aside0.mk (below_step (by repeat (first | (with_reducible first | exact HB.out | apply below_alloc | apply pw_below_drewN | apply below_drew1) | exact HB.out)) hb); clear HB; have HB := n0_; clear n0_; (try clear hb); (try clear hb2); (try clear hk); (try clear hi)) | (go_at_call 15; (with_reducible refine (pack_TakeTexts.calls kj5 a0 t215 t216 t217 _ A16.out).mono ?_); rintro e w23 ⟨v218, rfl, ho0, hb⟩; have n0_ := Aside0.mk (Kd.R_lower ho0 (below_size (by repeat (first | (with_reducible first | exact HB.out | apply below_alloc | apply pw_below_drewN | apply below_drew1) | exact HB.out)))); have n1_ := Aside0.mk (below_step (by repeat (first | (with_reducible first | exact HB.out | apply below_alloc | apply pw_below_drewN | apply below_drew1) | exact HB.out)) hb); clear HB; have HO219 := n0_; have HB := n1_; clear n0_ n1_; (try clear hb); (try clear hb2); (try clear hk); (try clear hi); (try clear ho0)) | (go_at_call 16; (with_reducible refine (linhayref07_TakeTexts.calls kj5 a0 t220 t221 t222 _ A17.out).mono ?_); rintro e w24 ⟨v223, rfl, ho0, hb⟩; have n0_ := Aside0.mk (Kd.R_elder' (by (with_reducible repeat (first | apply Kd.R_alloc | apply Kd.R_drewN | apply Kd.R_drew)); exact HO219.out) (Kd.R_base ho0) hb); have n1_ := Aside0.mk (Kd.R_lower (Kd.R_new' ho0 (Kd.R_lt (by (with_reducible repeat (first | apply Kd.R_alloc | apply Kd.R_drewN | apply Kd.R_drew)); exact HO219.out))) (below_size (by repeat (first | (with_reducible first | exact HB.out | apply below_alloc | apply pw_below_drewN | apply below_drew1) | exact HB.out)))); have n2_ := Aside0.mk (below_step (by repeat (first | (with_reducible first | exact HB.out | apply below_alloc | apply pw_below_drewN | apply below_drew1) | exact HB.out)) hb); clear HO219; clear HB; have HO219 := n0_; have HO224 := n1_; have HB := n2_; clear n0_ n1_ n2_; (try clear hb); (try clear hb2); (try clear hk); (try clear hi); (try clear ho0)))
        (try simp only [Act.put, List.setIfInBounds_toArray, List.set_cons_zero, List.set_cons_succ])
        go_cut [28] (fun v28 wc => ∃ (kq : Nat) (x28_17 : Bool), v28 = .bool x28_17 ∧ Aside0 (linhaylaw07_PackTells.j1 kq a0 l1 l2 a3 t201 x28_17 = some r) ∧ Aside0 (kq ≤ kj5) ∧ Aside0 (Below w.heap.size w wc))
        case first =>
          have H := HC18.out
          clear HC18
          by_cases c25 : t203 = t206
          · rw [if_pos c25] at H
            have c25b0 : (t203 == t206) = true := beq_iff_eq.mpr c25
            have c25b1 : (t203 != t206) = false := bne_eq_false_iff_eq.mpr c25
            clear c25
            (first | rw [c25b0] | (simp only [i64_w, i32_w]; rw [c25b0]) | skip)
            by_cases c26 : t204.toList = t207.toList
            · rw [if_pos c26] at H
              have c26b0 : (t204.toList == t207.toList) = true := beq_iff_eq.mpr c26
              have c26b1 : (t204.toList != t207.toList) = false := bne_eq_false_iff_eq.mpr c26
              clear c26
              by_cases c27 : t205 = t208
              · rw [if_pos c27] at H
                have c27b0 : (t205 == t208) = true := beq_iff_eq.mpr c27
                have c27b1 : (t205 != t208) = false := bne_eq_false_iff_eq.mpr c27
                clear c27
                by_cases c28 : t209.toList = t212.toList
                · rw [if_pos c28] at H
                  have c28b0 : (t209.toList == t212.toList) = true := beq_iff_eq.mpr c28
                  have c28b1 : (t209.toList != t212.toList) = false := bne_eq_false_iff_eq.mpr c28
                  clear c28
                  by_cases c29 : t210.toList = t213.toList
                  · rw [if_pos c29] at H
                    have c29b0 : (t210.toList == t213.toList) = true := beq_iff_eq.mpr c29
                    have c29b1 : (t210.toList != t213.toList) = false := bne_eq_false_iff_eq.mpr c29
                    clear c29
                    by_cases c30 : t211 = t214
                    · rw [if_pos c30] at H
                      have c30b0 : (t211 == t214) = true := beq_iff_eq.mpr c30
                      have c30b1 : (t211 != t214) = false := bne_eq_false_iff_eq.mpr c30
                      clear c30
                      replace H := Option.bind_eq_some_iff.mp H
                      obtain ⟨t225, A310, H⟩ := H
                      replace H : (if t225 = true then (if t216.toList = t221.toList then (linhaylaw07_PackTells.j1 kj5 a0 l1 l2 a3 t201 (t217 == t222)) else (linhaylaw07_PackTells.j1 kj5 a0 l1 l2 a3 t201 false)) else (linhaylaw07_PackTells.j1 kj5 a0 l1 l2 a3 t201 false)) = some r := H
                      have A31 := Aside0.mk A310
                      clear A310
                      by_cases c32 : t225 = true
                      · subst c32
                        have H1 : (if t216.toList = t221.toList then (linhaylaw07_PackTells.j1 kj5 a0 l1 l2 a3 t201 (t217 == t222)) else (linhaylaw07_PackTells.j1 kj5 a0 l1 l2 a3 t201 false)) = some r := by rw [if_pos rfl] at H; exact H
                        clear H
                        have H := H1
                        clear H1
                        by_cases c33 : t216.toList = t221.toList
                        · rw [if_pos c33] at H
                          have c33b0 : (t216.toList == t221.toList) = true := beq_iff_eq.mpr c33
                          have c33b1 : (t216.toList != t221.toList) = false := bne_eq_false_iff_eq.mpr c33
                          clear c33
                          have H' := Aside0.mk H
                          clear H
                          obtain ⟨Ao34, co34, eo34⟩ := Kd.R_slice HO219.out
                          subst eo34
                          obtain ⟨Ao35, co35, eo35⟩ := Kd.R_slice HO224.out
                          subst eo35
                          go_wp2_with (first | (go_at_call 17; (with_reducible refine (linhayref07_Same.calls kj5 _ _ t215 _ _ t220 true _ ?side1 ?side2 ?side3 ?side4 A31.out).mono ?_); (case side1 => repeat (first | exact (Kd.R_reads' HO219.out).2.2 | (with_reducible refine Kd.C_alloc ?_ _) | (with_reducible refine Kd.C_drewN ?_ _) | (with_reducible refine Kd.C_drew ?_))); (case side2 => exact (Kd.R_reads' HO219.out).2.1); (case side3 => repeat (first | exact (Kd.R_reads' HO224.out).2.2 | (with_reducible refine Kd.C_alloc ?_ _) | (with_reducible refine Kd.C_drewN ?_ _) | (with_reducible refine Kd.C_drew ?_))); (case side4 => exact (Kd.R_reads' HO224.out).2.1); rintro e w' ⟨rfl, ⟨nd, rfl⟩⟩))
                          go_meet
                          case rel => exact ⟨_, ((t217 == t222)), (by first | rfl | (simp; done) | (simp [*]; done)), H', ⟨by have := HJ5.out; first | omega | exact Nat.le_refl _⟩, ⟨by repeat (first | (with_reducible first | exact HB.out | apply below_alloc | apply pw_below_drewN | apply below_drew1) | exact HB.out)⟩⟩
                        · rw [if_neg c33] at H
                          have c33b0 : (t216.toList == t221.toList) = false := beq_eq_false_iff_ne.mpr c33
                          have c33b1 : (t216.toList != t221.toList) = true := bne_iff_ne.mpr c33
                          have H' := Aside0.mk H
                          clear H
                          obtain ⟨Ao36, co36, eo36⟩ := Kd.R_slice HO219.out
                          subst eo36
                          obtain ⟨Ao37, co37, eo37⟩ := Kd.R_slice HO224.out
                          subst eo37
                          go_wp2_with (first | (go_at_call 17; (with_reducible refine (linhayref07_Same.calls kj5 _ _ t215 _ _ t220 true _ ?side1 ?side2 ?side3 ?side4 A31.out).mono ?_); (case side1 => repeat (first | exact (Kd.R_reads' HO219.out).2.2 | (with_reducible refine Kd.C_alloc ?_ _) | (with_reducible refine Kd.C_drewN ?_ _) | (with_reducible refine Kd.C_drew ?_))); (case side2 => exact (Kd.R_reads' HO219.out).2.1); (case side3 => repeat (first | exact (Kd.R_reads' HO224.out).2.2 | (with_reducible refine Kd.C_alloc ?_ _) | (with_reducible refine Kd.C_drewN ?_ _) | (with_reducible refine Kd.C_drew ?_))); (case side4 => exact (Kd.R_reads' HO224.out).2.1); rintro e w' ⟨rfl, ⟨nd, rfl⟩⟩))
                          go_meet
                          case rel => exact ⟨_, (false), (by first | rfl | (simp; done) | (simp [*]; done)), H', ⟨by have := HJ5.out; first | omega | exact Nat.le_refl _⟩, ⟨by repeat (first | (with_reducible first | exact HB.out | apply below_alloc | apply pw_below_drewN | apply below_drew1) | exact HB.out)⟩⟩
                      · replace c32 := Bool.eq_false_iff.mpr c32
                        subst c32
                        have H1 : (linhaylaw07_PackTells.j1 kj5 a0 l1 l2 a3 t201 false) = some r := by rw [if_neg (show ¬ (false = true) by decide)] at H; exact H
                        clear H
                        have H := H1
                        clear H1
                        have H' := Aside0.mk H
                        clear H
                        obtain ⟨Ao38, co38, eo38⟩ := Kd.R_slice HO219.out
                        subst eo38
                        obtain ⟨Ao39, co39, eo39⟩ := Kd.R_slice HO224.out
                        subst eo39
                        go_wp2_with (first | (go_at_call 17; (with_reducible refine (linhayref07_Same.calls kj5 _ _ t215 _ _ t220 false _ ?side1 ?side2 ?side3 ?side4 A31.out).mono ?_); (case side1 => repeat (first | exact (Kd.R_reads' HO219.out).2.2 | (with_reducible refine Kd.C_alloc ?_ _) | (with_reducible refine Kd.C_drewN ?_ _) | (with_reducible refine Kd.C_drew ?_))); (case side2 => exact (Kd.R_reads' HO219.out).2.1); (case side3 => repeat (first | exact (Kd.R_reads' HO224.out).2.2 | (with_reducible refine Kd.C_alloc ?_ _) | (with_reducible refine Kd.C_drewN ?_ _) | (with_reducible refine Kd.C_drew ?_))); (case side4 => exact (Kd.R_reads' HO224.out).2.1); rintro e w' ⟨rfl, ⟨nd, rfl⟩⟩))
                        go_meet
                        case rel => exact ⟨_, (false), (by first | rfl | (simp; done) | (simp [*]; done)), H', ⟨by have := HJ5.out; first | omega | exact Nat.le_refl _⟩, ⟨by repeat (first | (with_reducible first | exact HB.out | apply below_alloc | apply pw_below_drewN | apply below_drew1) | exact HB.out)⟩⟩
                    · rw [if_neg c30] at H
                      have c30b0 : (t211 == t214) = false := beq_eq_false_iff_ne.mpr c30
                      have c30b1 : (t211 != t214) = true := bne_iff_ne.mpr c30
                      have H' := Aside0.mk H
                      clear H
                      go_wp2
                      go_meet
                      case rel => exact ⟨_, (false), (by first | rfl | (simp; done) | (simp [*]; done)), H', ⟨by have := HJ5.out; first | omega | exact Nat.le_refl _⟩, ⟨by repeat (first | (with_reducible first | exact HB.out | apply below_alloc | apply pw_below_drewN | apply below_drew1) | exact HB.out)⟩⟩
                  · rw [if_neg c29] at H
                    have c29b0 : (t210.toList == t213.toList) = false := beq_eq_false_iff_ne.mpr c29
                    have c29b1 : (t210.toList != t213.toList) = true := bne_iff_ne.mpr c29
                    have H' := Aside0.mk H
                    clear H
                    go_wp2
                    go_meet
                    case rel => exact ⟨_, (false), (by first | rfl | (simp; done) | (simp [*]; done)), H', ⟨by have := HJ5.out; first | omega | exact Nat.le_refl _⟩, ⟨by repeat (first | (with_reducible first | exact HB.out | apply below_alloc | apply pw_below_drewN | apply below_drew1) | exact HB.out)⟩⟩
                · rw [if_neg c28] at H
                  have c28b0 : (t209.toList == t212.toList) = false := beq_eq_false_iff_ne.mpr c28
                  have c28b1 : (t209.toList != t212.toList) = true := bne_iff_ne.mpr c28
                  have H' := Aside0.mk H
                  clear H
                  go_wp2
                  go_meet
                  case rel => exact ⟨_, (false), (by first | rfl | (simp; done) | (simp [*]; done)), H', ⟨by have := HJ5.out; first | omega | exact Nat.le_refl _⟩, ⟨by repeat (first | (with_reducible first | exact HB.out | apply below_alloc | apply pw_below_drewN | apply below_drew1) | exact HB.out)⟩⟩
              · rw [if_neg c27] at H
                have c27b0 : (t205 == t208) = false := beq_eq_false_iff_ne.mpr c27
                have c27b1 : (t205 != t208) = true := bne_iff_ne.mpr c27
                have H' := Aside0.mk H
                clear H
                go_wp2
                go_meet
                case rel => exact ⟨_, (false), (by first | rfl | (simp; done) | (simp [*]; done)), H', ⟨by have := HJ5.out; first | omega | exact Nat.le_refl _⟩, ⟨by repeat (first | (with_reducible first | exact HB.out | apply below_alloc | apply pw_below_drewN | apply below_drew1) | exact HB.out)⟩⟩
            · rw [if_neg c26] at H
              have c26b0 : (t204.toList == t207.toList) = false := beq_eq_false_iff_ne.mpr c26
              have c26b1 : (t204.toList != t207.toList) = true := bne_iff_ne.mpr c26
              have H' := Aside0.mk H
              clear H
              go_wp2
              go_meet
              case rel => exact ⟨_, (false), (by first | rfl | (simp; done) | (simp [*]; done)), H', ⟨by have := HJ5.out; first | omega | exact Nat.le_refl _⟩, ⟨by repeat (first | (with_reducible first | exact HB.out | apply below_alloc | apply pw_below_drewN | apply below_drew1) | exact HB.out)⟩⟩
          · rw [if_neg c25] at H
            have c25b0 : (t203 == t206) = false := beq_eq_false_iff_ne.mpr c25
            have c25b1 : (t203 != t206) = true := bne_iff_ne.mpr c25
            (first | rw [c25b0] | (simp only [i64_w, i32_w]; rw [c25b0]) | skip)
            have H' := Aside0.mk H
            clear H
            go_wp2
            go_meet
            case rel => exact ⟨_, (false), (by first | rfl | (simp; done) | (simp [*]; done)), H', ⟨by have := HJ5.out; first | omega | exact Nat.le_refl _⟩, ⟨by repeat (first | (with_reducible first | exact HB.out | apply below_alloc | apply pw_below_drewN | apply below_drew1) | exact HB.out)⟩⟩
        case rest =>
          clear HC18
          try clear c1
          try clear c2
          try clear p2
          try clear c3
          try clear c8
          try clear c8b0
          try clear c8b1
          try clear c9
          try clear c9b0
          try clear c9b1
          try clear c11
          try clear c12
          try clear c13
          try clear c14
          try clear c15
          try clear c16
          try clear c25
          try clear c25b0
          try clear c25b1
          try clear c26
          try clear c26b0
          try clear c26b1
          try clear c27
          try clear c27b0
          try clear c27b1
          try clear c28
          try clear c28b0
          try clear c28b1
          try clear c29
          try clear c29b0
          try clear c29b1
          try clear c30
          try clear c30b0
          try clear c30b1
          try clear c32
          try clear c33
          try clear c33b0
          try clear c33b1
          try clear p2
          obtain ⟨kq, x28_17, rfl, HA, HJ17, HB⟩ := hcut
          cases kq with
          | zero => exact absurd HA.out (by simp [linhaylaw07_PackTells.j1])
          | succ kj17 =>
            have H := HA.out
            clear HA
            simp only [linhaylaw07_PackTells.j1] at H
            by_cases c40 : t201 = true
            · subst c40
              have H1 : (if x28_17 = true then ((pack_Put.f a0 l1).bind fun t226 => ((linhayref07_Put.f kj17 a0 l1).bind fun t227 => (if t226.toList = t227.toList then ((pack_Text.f a0 a0).bind fun t228 => ((linhayref07_Text.f kj17 a0 a0).bind fun t229 => (if t228.toList = t229.toList then ((pack_Texts.f kj17 a0 l2).bind fun t230 => ((linhayref07_Texts.f kj17 a0 l2).bind fun t231 => (if t230.toList = t231.toList then ((pack_Size.f a3).bind fun t232 => ((linhayref07_Size.f kj17 a3).bind fun t233 => (some (t232 == t233)))) else (none)))) else (none)))) else (none)))) else (none)) = some r := by rw [if_pos rfl] at H; exact H
              clear H
              have H := H1
              clear H1
              by_cases c41 : x28_17 = true
              · subst c41
                have H1 : ((pack_Put.f a0 l1).bind fun t226 => ((linhayref07_Put.f kj17 a0 l1).bind fun t227 => (if t226.toList = t227.toList then ((pack_Text.f a0 a0).bind fun t228 => ((linhayref07_Text.f kj17 a0 a0).bind fun t229 => (if t228.toList = t229.toList then ((pack_Texts.f kj17 a0 l2).bind fun t230 => ((linhayref07_Texts.f kj17 a0 l2).bind fun t231 => (if t230.toList = t231.toList then ((pack_Size.f a3).bind fun t232 => ((linhayref07_Size.f kj17 a3).bind fun t233 => (some (t232 == t233)))) else (none)))) else (none)))) else (none)))) = some r := by rw [if_pos rfl] at H; exact H
                clear H
                have H := H1
                clear H1
                replace H := Option.bind_eq_some_iff.mp H
                obtain ⟨t226, A420, H⟩ := H
                replace H : ((linhayref07_Put.f kj17 a0 l1).bind fun t227 => (if t226.toList = t227.toList then ((pack_Text.f a0 a0).bind fun t228 => ((linhayref07_Text.f kj17 a0 a0).bind fun t229 => (if t228.toList = t229.toList then ((pack_Texts.f kj17 a0 l2).bind fun t230 => ((linhayref07_Texts.f kj17 a0 l2).bind fun t231 => (if t230.toList = t231.toList then ((pack_Size.f a3).bind fun t232 => ((linhayref07_Size.f kj17 a3).bind fun t233 => (some (t232 == t233)))) else (none)))) else (none)))) else (none))) = some r := H
                have A42 := Aside0.mk A420
                clear A420
                replace H := Option.bind_eq_some_iff.mp H
                obtain ⟨t227, A430, H⟩ := H
                replace H : (if t226.toList = t227.toList then ((pack_Text.f a0 a0).bind fun t228 => ((linhayref07_Text.f kj17 a0 a0).bind fun t229 => (if t228.toList = t229.toList then ((pack_Texts.f kj17 a0 l2).bind fun t230 => ((linhayref07_Texts.f kj17 a0 l2).bind fun t231 => (if t230.toList = t231.toList then ((pack_Size.f a3).bind fun t232 => ((linhayref07_Size.f kj17 a3).bind fun t233 => (some (t232 == t233)))) else (none)))) else (none)))) else (none)) = some r := H
                have A43 := Aside0.mk A430
                clear A430
                by_cases c44 : t226.toList = t227.toList
                · rw [if_pos c44] at H
                  have c44b0 : (t226.toList == t227.toList) = true := beq_iff_eq.mpr c44
                  have c44b1 : (t226.toList != t227.toList) = false := bne_eq_false_iff_eq.mpr c44
                  clear c44
                  replace H := Option.bind_eq_some_iff.mp H
                  obtain ⟨t228, A450, H⟩ := H
                  replace H : ((linhayref07_Text.f kj17 a0 a0).bind fun t229 => (if t228.toList = t229.toList then ((pack_Texts.f kj17 a0 l2).bind fun t230 => ((linhayref07_Texts.f kj17 a0 l2).bind fun t231 => (if t230.toList = t231.toList then ((pack_Size.f a3).bind fun t232 => ((linhayref07_Size.f kj17 a3).bind fun t233 => (some (t232 == t233)))) else (none)))) else (none))) = some r := H
                  have A45 := Aside0.mk A450
                  clear A450
                  replace H := Option.bind_eq_some_iff.mp H
                  obtain ⟨t229, A460, H⟩ := H
                  replace H : (if t228.toList = t229.toList then ((pack_Texts.f kj17 a0 l2).bind fun t230 => ((linhayref07_Texts.f kj17 a0 l2).bind fun t231 => (if t230.toList = t231.toList then ((pack_Size.f a3).bind fun t232 => ((linhayref07_Size.f kj17 a3).bind fun t233 => (some (t232 == t233)))) else (none)))) else (none)) = some r := H
                  have A46 := Aside0.mk A460
                  clear A460
                  by_cases c47 : t228.toList = t229.toList
                  · rw [if_pos c47] at H
                    have c47b0 : (t228.toList == t229.toList) = true := beq_iff_eq.mpr c47
                    have c47b1 : (t228.toList != t229.toList) = false := bne_eq_false_iff_eq.mpr c47
                    clear c47
                    replace H := Option.bind_eq_some_iff.mp H
                    obtain ⟨t230, A480, H⟩ := H
                    replace H : ((linhayref07_Texts.f kj17 a0 l2).bind fun t231 => (if t230.toList = t231.toList then ((pack_Size.f a3).bind fun t232 => ((linhayref07_Size.f kj17 a3).bind fun t233 => (some (t232 == t233)))) else (none))) = some r := H
                    have A48 := Aside0.mk A480
                    clear A480
                    replace H := Option.bind_eq_some_iff.mp H
                    obtain ⟨t231, A490, H⟩ := H
                    replace H : (if t230.toList = t231.toList then ((pack_Size.f a3).bind fun t232 => ((linhayref07_Size.f kj17 a3).bind fun t233 => (some (t232 == t233)))) else (none)) = some r := H
                    have A49 := Aside0.mk A490
                    clear A490
                    by_cases c50 : t230.toList = t231.toList
                    · rw [if_pos c50] at H
                      have c50b0 : (t230.toList == t231.toList) = true := beq_iff_eq.mpr c50
                      have c50b1 : (t230.toList != t231.toList) = false := bne_eq_false_iff_eq.mpr c50
                      clear c50
                      replace H := Option.bind_eq_some_iff.mp H
                      obtain ⟨t232, A510, H⟩ := H
                      replace H : ((linhayref07_Size.f kj17 a3).bind fun t233 => (some (t232 == t233))) = some r := H
                      have A51 := Aside0.mk A510
                      clear A510
                      replace H := Option.bind_eq_some_iff.mp H
                      obtain ⟨t233, A520, H⟩ := H
                      replace H : (some (t232 == t233)) = some r := H
                      have A52 := Aside0.mk A520
                      clear A520
                      obtain rfl := Option.some.inj H
                      go_wp2_with (first | (go_at_call 18; (with_reducible refine (pack_Put.calls a0 _ _ l1 t226 _ ?side1 ?side2 A42.out).mono ?_); (case side1 => repeat (first | exact (Kd.C_below HR1.out HB.out) | (with_reducible refine Kd.C_alloc ?_ _) | (with_reducible refine Kd.C_drewN ?_ _) | (with_reducible refine Kd.C_drew ?_))); (case side2 => exact HC1.out); rintro e w53 ⟨rfl, hb⟩; have n0_ := Aside0.mk (below_step (by repeat (first | (with_reducible first | exact HB.out | apply below_alloc | apply pw_below_drewN | apply below_drew1) | exact HB.out)) hb); clear HB; have HB := n0_; clear n0_; (try clear hb); (try clear hb2); (try clear hk); (try clear hi)) | (go_at_call 19; (with_reducible refine (linhayref07_Put.calls kj17 a0 _ _ l1 t227 _ ?side1 ?side2 A43.out).mono ?_); (case side1 => repeat (first | exact (Kd.C_below HR1.out HB.out) | (with_reducible refine Kd.C_alloc ?_ _) | (with_reducible refine Kd.C_drewN ?_ _) | (with_reducible refine Kd.C_drew ?_))); (case side2 => exact HC1.out); rintro e w54 ⟨rfl, hb⟩; have n0_ := Aside0.mk (below_step (by repeat (first | (with_reducible first | exact HB.out | apply below_alloc | apply pw_below_drewN | apply below_drew1) | exact HB.out)) hb); clear HB; have HB := n0_; clear n0_; (try clear hb); (try clear hb2); (try clear hk); (try clear hi)) | (go_at_call 20; (with_reducible refine (pack_Text.calls a0 a0 t228 _ A45.out).mono ?_); rintro e w55 ⟨rfl, hb⟩; have n0_ := Aside0.mk (below_step (by repeat (first | (with_reducible first | exact HB.out | apply below_alloc | apply pw_below_drewN | apply below_drew1) | exact HB.out)) hb); clear HB; have HB := n0_; clear n0_; (try clear hb); (try clear hb2); (try clear hk); (try clear hi)) | (go_at_call 21; (with_reducible refine (linhayref07_Text.calls kj17 a0 a0 t229 _ A46.out).mono ?_); rintro e w56 ⟨rfl, hb⟩; have n0_ := Aside0.mk (below_step (by repeat (first | (with_reducible first | exact HB.out | apply below_alloc | apply pw_below_drewN | apply below_drew1) | exact HB.out)) hb); clear HB; have HB := n0_; clear n0_; (try clear hb); (try clear hb2); (try clear hk); (try clear hi)) | (go_at_call 22; (with_reducible refine (pack_Texts.calls kj17 a0 _ _ l2 t230 _ ?side1 ?side2 A48.out).mono ?_); (case side1 => repeat (first | exact (Kd.C_below HR2.out HB.out) | (with_reducible refine Kd.C_alloc ?_ _) | (with_reducible refine Kd.C_drewN ?_ _) | (with_reducible refine Kd.C_drew ?_))); (case side2 => exact HC2.out); rintro e w57 ⟨rfl, hb⟩; have n0_ := Aside0.mk (below_step (by repeat (first | (with_reducible first | exact HB.out | apply below_alloc | apply pw_below_drewN | apply below_drew1) | exact HB.out)) hb); clear HB; have HB := n0_; clear n0_; (try clear hb); (try clear hb2); (try clear hk); (try clear hi)) | (go_at_call 23; (with_reducible refine (linhayref07_Texts.calls kj17 a0 _ _ l2 t231 _ ?side1 ?side2 A49.out).mono ?_); (case side1 => repeat (first | exact (Kd.C_below HR2.out HB.out) | (with_reducible refine Kd.C_alloc ?_ _) | (with_reducible refine Kd.C_drewN ?_ _) | (with_reducible refine Kd.C_drew ?_))); (case side2 => exact HC2.out); rintro e w58 ⟨rfl, hb⟩; have n0_ := Aside0.mk (below_step (by repeat (first | (with_reducible first | exact HB.out | apply below_alloc | apply pw_below_drewN | apply below_drew1) | exact HB.out)) hb); clear HB; have HB := n0_; clear n0_; (try clear hb); (try clear hb2); (try clear hk); (try clear hi)) | (go_at_call 24; (with_reducible refine (pack_Size.calls a3 t232 _ A51.out).mono ?_); rintro e w' ⟨rfl, ⟨nd, rfl⟩⟩) | (go_at_call 25; (with_reducible refine (linhayref07_Size.calls kj17 a3 t233 _ A52.out).mono ?_); rintro e w59 ⟨rfl, hb⟩; have n0_ := Aside0.mk (below_step (by repeat (first | (with_reducible first | exact HB.out | apply below_alloc | apply pw_below_drewN | apply below_drew1) | exact HB.out)) hb); clear HB; have HB := n0_; clear n0_; (try clear hb); (try clear hb2); (try clear hk); (try clear hi)))
                      go_ret
                      exact ⟨by first | rfl | (simp [errW_none, errW_some] <;> rfl) | (simp [*, errW_none, errW_some] <;> rfl), by repeat (first | (with_reducible first | exact HB.out | apply below_alloc | apply pw_below_drewN | apply below_drew1) | exact HB.out)⟩
                    · rw [if_neg c50] at H
                      exact absurd H (by simp)
                  · rw [if_neg c47] at H
                    exact absurd H (by simp)
                · rw [if_neg c44] at H
                  exact absurd H (by simp)
              · replace c41 := Bool.eq_false_iff.mpr c41
                subst c41
                have H1 : (none) = some r := by rw [if_neg (show ¬ (false = true) by decide)] at H; exact H
                clear H
                have H := H1
                clear H1
                exact absurd H (by simp)
            · replace c40 := Bool.eq_false_iff.mpr c40
              subst c40
              have H1 : (none) = some r := by rw [if_neg (show ¬ (false = true) by decide)] at H; exact H
              clear H
              have H := H1
              clear H1
              exact absurd H (by simp)

/-! ### linhaylaw07_PackBack: function 4 -/
mutual
def linhaylaw07_PackBack.j0 : Nat → List Int → List ByteArray → ByteArray → Bool → Bool → Option (Bool)
  | 0, _, _, _, _, _ => none
  | k + 1, x0, x1, x2, x7, x29 => if x29 = true then (some x7) else ((pack_Put.f (⟨#[]⟩ : ByteArray) x0).bind fun t236 => ((pack_Texts.f k t236 x1).bind fun t237 => (if t237.size + x2.size ≤ 9223372036854775807 then (linhaylaw07_PackBack.l0 k x0 x1 x2 x7 (t237 ++ x2) 0) else (none))))
def linhaylaw07_PackBack.l0 : Nat → List Int → List ByteArray → ByteArray → Bool → ByteArray → Int → Option (Bool)
  | 0, _, _, _, _, _, _ => none
  | k + 1, x0, x1, x2, x7, x8, x9 => if x9 < (x0.length : Int) then ((pack_Take.f k x8).bind fun bt244 => (if bt244.2.2 = 0 then (if 0 ≤ x9 then (if bt244.1 = (rd x0 x9) then ((pack_Size.f bt244.1).bind fun t248 => (if (wrap64 ((x8.size : Int) - (bt244.2.1.size : Int))) = t248 then (linhaylaw07_PackBack.l0 k x0 x1 x2 x7 bt244.2.1 (wrap64 (x9 + 1))) else (none))) else (none)) else (none)) else (none))) else ((pack_TakeTexts.f k x8).bind fun bt238 => (if x7 = true then (if bt238.2.2 = 0 then ((linhayref07_Same.f k bt238.1 x1).bind fun t243 => (if t243 = true then (some (bt238.2.1.toList == x2.toList)) else (none))) else (none)) else (none)))
end
def linhaylaw07_PackBack.f (k : Nat) (l0 : List Int) (l1 : List ByteArray) (a2 : ByteArray) : Option (Bool) := (linhaylaw07_awake.f k).bind fun t234 => (if (l0.length : Int) > 100 then (linhaylaw07_PackBack.j0 k l0 l1 a2 t234 true) else ((linhayref07_Few.f k l1 100).bind fun t235 => (if t235 = true then (linhaylaw07_PackBack.j0 k l0 l1 a2 t234 (decide ((a2.size : Int) > 1000))) else (linhaylaw07_PackBack.j0 k l0 l1 a2 t234 true))))
theorem linhaylaw07_PackBack.mono_l : ∀ k, (∀ y0 y1 y2 y3 y4, LeO (linhaylaw07_PackBack.j0 k y0 y1 y2 y3 y4) (linhaylaw07_PackBack.j0 (k + 1) y0 y1 y2 y3 y4)) ∧ (∀ y0 y1 y2 y3 y4 y5, LeO (linhaylaw07_PackBack.l0 k y0 y1 y2 y3 y4 y5) (linhaylaw07_PackBack.l0 (k + 1) y0 y1 y2 y3 y4 y5))
  | 0 => ⟨fun _ _ _ _ _ r h => by simp [linhaylaw07_PackBack.j0] at h, fun _ _ _ _ _ _ r h => by simp [linhaylaw07_PackBack.l0] at h⟩
  | k + 1 => by
    obtain ⟨ih0, ih1⟩ := linhaylaw07_PackBack.mono_l k
    refine ⟨?_, ?_⟩
    · intro y0 y1 y2 y3 y4
      unfold linhaylaw07_PackBack.j0
      repeat' first
      | (with_reducible exact ih0 _ _ _ _ _)
      | (with_reducible exact ih1 _ _ _ _ _ _)
      | (with_reducible exact linhaylaw07_awake.mono _)
      | (with_reducible exact linhayref07_Few.mono _ _ _)
      | (with_reducible exact linhayref07_Same.mono _ _ _)
      | (with_reducible exact pack_Take.mono _ _)
      | (with_reducible exact pack_TakeTexts.mono _ _)
      | (with_reducible exact pack_Texts.mono _ _ _)
      | (with_reducible exact LeO.refl _)
      | (with_reducible exact LeO.none _)
      | (with_reducible refine LeO.ite ?_ ?_)
      | (with_reducible refine LeO.bind ?_ (fun _ => ?_))
      | exact ih0 _ _ _ _ _
      | exact ih1 _ _ _ _ _ _
      | exact linhaylaw07_awake.mono _
      | exact linhayref07_Few.mono _ _ _
      | exact linhayref07_Same.mono _ _ _
      | exact pack_Take.mono _ _
      | exact pack_TakeTexts.mono _ _
      | exact pack_Texts.mono _ _ _
      | exact LeO.none _
      | refine LeO.ite ?_ ?_
      | refine LeO.bind ?_ (fun _ => ?_)
    · intro y0 y1 y2 y3 y4 y5
      unfold linhaylaw07_PackBack.l0
      repeat' first
      | (with_reducible exact ih0 _ _ _ _ _)
      | (with_reducible exact ih1 _ _ _ _ _ _)
      | (with_reducible exact linhaylaw07_awake.mono _)
      | (with_reducible exact linhayref07_Few.mono _ _ _)
      | (with_reducible exact linhayref07_Same.mono _ _ _)
      | (with_reducible exact pack_Take.mono _ _)
      | (with_reducible exact pack_TakeTexts.mono _ _)
      | (with_reducible exact pack_Texts.mono _ _ _)
      | (with_reducible exact LeO.refl _)
      | (with_reducible exact LeO.none _)
      | (with_reducible refine LeO.ite ?_ ?_)
      | (with_reducible refine LeO.bind ?_ (fun _ => ?_))
      | exact ih0 _ _ _ _ _
      | exact ih1 _ _ _ _ _ _
      | exact linhaylaw07_awake.mono _
      | exact linhayref07_Few.mono _ _ _
      | exact linhayref07_Same.mono _ _ _
      | exact pack_Take.mono _ _
      | exact pack_TakeTexts.mono _ _
      | exact pack_Texts.mono _ _ _
      | exact LeO.none _
      | refine LeO.ite ?_ ?_
      | refine LeO.bind ?_ (fun _ => ?_)
theorem linhaylaw07_PackBack.mono : ∀ a0 a1 a2 k, LeO (linhaylaw07_PackBack.f k a0 a1 a2) (linhaylaw07_PackBack.f (k + 1) a0 a1 a2) := by
  intro a0 a1 a2 k
  obtain ⟨ih0, ih1⟩ := linhaylaw07_PackBack.mono_l k
  unfold linhaylaw07_PackBack.f
  repeat' first
      | (with_reducible exact ih0 _ _ _ _ _)
      | (with_reducible exact ih1 _ _ _ _ _ _)
      | (with_reducible exact linhaylaw07_awake.mono _)
      | (with_reducible exact linhayref07_Few.mono _ _ _)
      | (with_reducible exact linhayref07_Same.mono _ _ _)
      | (with_reducible exact pack_Take.mono _ _)
      | (with_reducible exact pack_TakeTexts.mono _ _)
      | (with_reducible exact pack_Texts.mono _ _ _)
      | (with_reducible exact LeO.refl _)
      | (with_reducible exact LeO.none _)
      | (with_reducible refine LeO.ite ?_ ?_)
      | (with_reducible refine LeO.bind ?_ (fun _ => ?_))
      | exact ih0 _ _ _ _ _
      | exact ih1 _ _ _ _ _ _
      | exact linhaylaw07_awake.mono _
      | exact linhayref07_Few.mono _ _ _
      | exact linhayref07_Same.mono _ _ _
      | exact pack_Take.mono _ _
      | exact pack_TakeTexts.mono _ _
      | exact pack_Texts.mono _ _ _
      | exact LeO.none _
      | refine LeO.ite ?_ ?_
      | refine LeO.bind ?_ (fun _ => ?_)
set_option maxHeartbeats 8000000 in
set_option maxRecDepth 100000 in
theorem linhaylaw07_PackBack.calls (k : Nat) (A0 : Option Addr) (c0 : Nat) (l0 : List Int) (A1 : Option Addr) (c1 : Nat) (l1 : List ByteArray) (a2 : ByteArray) (r : Bool) (w : World) (hr0 : Kd.C (Kd.int .u64) w A0 l0.length l0) (hc0 : l0.length ≤ c0) (hr1 : Kd.C Kd.string w A1 l1.length l1) (hc1 : l1.length ≤ c1) (h : linhaylaw07_PackBack.f k l0 l1 a2 = some r) :
    Calls Try.prog 4 #[.slice A0 l0.length c0, .slice A1 l1.length c1, .string a2] w fun e w' => e = .returned (.bool r) ∧ Below w.heap.size w w' := by
  have HR0 := Aside0.mk hr0
  have HC0 := Aside0.mk hc0
  clear hr0 hc0
  have HR1 := Aside0.mk hr1
  have HC1 := Aside0.mk hc1
  clear hr1 hc1
  have HB := Aside0.mk (Below.refl w.heap.size w)
  have H : ((linhaylaw07_awake.f k).bind fun t234 => (if (l0.length : Int) > 100 then (linhaylaw07_PackBack.j0 k l0 l1 a2 t234 true) else ((linhayref07_Few.f k l1 100).bind fun t235 => (if t235 = true then (linhaylaw07_PackBack.j0 k l0 l1 a2 t234 (decide ((a2.size : Int) > 1000))) else (linhaylaw07_PackBack.j0 k l0 l1 a2 t234 true))))) = some r := h
  clear h
  replace H := Option.bind_eq_some_iff.mp H
  obtain ⟨t234, A40, H⟩ := H
  replace H : (if (l0.length : Int) > 100 then (linhaylaw07_PackBack.j0 k l0 l1 a2 t234 true) else ((linhayref07_Few.f k l1 100).bind fun t235 => (if t235 = true then (linhaylaw07_PackBack.j0 k l0 l1 a2 t234 (decide ((a2.size : Int) > 1000))) else (linhaylaw07_PackBack.j0 k l0 l1 a2 t234 true)))) = some r := H
  have A4 := Aside0.mk A40
  clear A40
  have HC5 := Aside0.mk H
  clear H
  go_enter Try.func4, Try.ntmps4
  go_upto_region 2 with (first | ((with_reducible refine gate_callee (f := 9) rfl ?_); refine goesL_ (some 16) rfl rfl Try.func9 (by kernel_rfl) rfl #[] rfl (by (try simp only [List.map_toArray, List.map_cons, List.map_nil]); first | done | rfl | (simp only [List.length_drop, List.length_take]; rfl)) ?_; (with_reducible refine (linhaylaw07_awake.calls k  t234 _ A4.out).mono ?_); rintro e w6 ⟨rfl, hb⟩; refine ⟨_, rfl, ?_⟩; have n0_ := Aside0.mk (below_step (by repeat (first | (with_reducible first | exact HB.out | apply below_alloc | apply pw_below_drewN | apply below_drew1) | exact HB.out)) hb); clear HB; have HB := n0_; clear n0_; (try clear hb); (try clear hb2); (try clear hk); (try clear hi)) | (go_at_call 9; (with_reducible refine (linhaylaw07_awake.calls k  t234 _ A4.out).mono ?_); rintro e w6 ⟨rfl, hb⟩; have n0_ := Aside0.mk (below_step (by repeat (first | (with_reducible first | exact HB.out | apply below_alloc | apply pw_below_drewN | apply below_drew1) | exact HB.out)) hb); clear HB; have HB := n0_; clear n0_; (try clear hb); (try clear hb2); (try clear hk); (try clear hi)))
  (try simp only [Act.put, List.setIfInBounds_toArray, List.set_cons_zero, List.set_cons_succ])
  go_cut [29] (fun v29 wc => ∃ (kq : Nat) (x29_4 : Bool), v29 = .bool x29_4 ∧ Aside0 (linhaylaw07_PackBack.j0 kq l0 l1 a2 t234 x29_4 = some r) ∧ Aside0 (kq ≤ k) ∧ Aside0 (Below w.heap.size w wc))
  case first =>
    have H := HC5.out
    clear HC5
    by_cases c7 : (l0.length : Int) > 100
    · rw [if_pos c7] at H
      have c7b0 : decide (100 < (l0.length : Int)) = true := decide_eq_true c7
      have c7b1 : decide (100 < l0.length) = true := decide_eq_true (by omega)
      clear c7
      (first | rw [c7b0] | (simp only [i64_w, i32_w]; rw [c7b0]) | skip)
      have H' := Aside0.mk H
      clear H
      go_wp2
      go_meet
      case rel => exact ⟨_, (true), (by first | rfl | (simp; done) | (simp [*]; done)), H', ⟨by first | omega | exact Nat.le_refl _⟩, ⟨by repeat (first | (with_reducible first | exact HB.out | apply below_alloc | apply pw_below_drewN | apply below_drew1) | exact HB.out)⟩⟩
    · rw [if_neg c7] at H
      have c7b0 : decide (100 < (l0.length : Int)) = false := decide_eq_false c7
      have c7b1 : decide (100 < l0.length) = false := decide_eq_false (by omega)
      clear c7
      (first | rw [c7b0] | (simp only [i64_w, i32_w]; rw [c7b0]) | skip)
      replace H := Option.bind_eq_some_iff.mp H
      obtain ⟨t235, A80, H⟩ := H
      replace H : (if t235 = true then (linhaylaw07_PackBack.j0 k l0 l1 a2 t234 (decide ((a2.size : Int) > 1000))) else (linhaylaw07_PackBack.j0 k l0 l1 a2 t234 true)) = some r := H
      have A8 := Aside0.mk A80
      clear A80
      by_cases c9 : t235 = true
      · subst c9
        have H1 : (linhaylaw07_PackBack.j0 k l0 l1 a2 t234 (decide ((a2.size : Int) > 1000))) = some r := by rw [if_pos rfl] at H; exact H
        clear H
        have H := H1
        clear H1
        have H' := Aside0.mk H
        clear H
        go_wp2_with (first | (go_at_call 10; (with_reducible refine (linhayref07_Few.calls k _ _ l1 100 true _ ?side1 ?side2 A8.out).mono ?_); (case side1 => repeat (first | exact (Kd.C_below HR1.out HB.out) | (with_reducible refine Kd.C_alloc ?_ _) | (with_reducible refine Kd.C_drewN ?_ _) | (with_reducible refine Kd.C_drew ?_))); (case side2 => exact HC1.out); rintro e w' ⟨rfl, ⟨nd, rfl⟩⟩))
        go_meet
        case rel => exact ⟨_, (decide ((a2.size : Int) > 1000)), (by first | rfl | (simp; done) | (simp [*]; done)), H', ⟨by first | omega | exact Nat.le_refl _⟩, ⟨by repeat (first | (with_reducible first | exact HB.out | apply below_alloc | apply pw_below_drewN | apply below_drew1) | exact HB.out)⟩⟩
      · replace c9 := Bool.eq_false_iff.mpr c9
        subst c9
        have H1 : (linhaylaw07_PackBack.j0 k l0 l1 a2 t234 true) = some r := by rw [if_neg (show ¬ (false = true) by decide)] at H; exact H
        clear H
        have H := H1
        clear H1
        have H' := Aside0.mk H
        clear H
        go_wp2_with (first | (go_at_call 10; (with_reducible refine (linhayref07_Few.calls k _ _ l1 100 false _ ?side1 ?side2 A8.out).mono ?_); (case side1 => repeat (first | exact (Kd.C_below HR1.out HB.out) | (with_reducible refine Kd.C_alloc ?_ _) | (with_reducible refine Kd.C_drewN ?_ _) | (with_reducible refine Kd.C_drew ?_))); (case side2 => exact HC1.out); rintro e w' ⟨rfl, ⟨nd, rfl⟩⟩))
        go_meet
        case rel => exact ⟨_, (true), (by first | rfl | (simp; done) | (simp [*]; done)), H', ⟨by first | omega | exact Nat.le_refl _⟩, ⟨by repeat (first | (with_reducible first | exact HB.out | apply below_alloc | apply pw_below_drewN | apply below_drew1) | exact HB.out)⟩⟩
  case rest =>
    clear HC5
    try clear c1
    try clear p2
    try clear c4
    try clear c7
    try clear c7b0
    try clear c7b1
    try clear c9
    obtain ⟨kq, x29_4, rfl, HA, HJ4, HB⟩ := hcut
    cases kq with
    | zero => exact absurd HA.out (by simp [linhaylaw07_PackBack.j0])
    | succ kj4 =>
      have H := HA.out
      clear HA
      simp only [linhaylaw07_PackBack.j0] at H
      by_cases c10 : x29_4 = true
      · subst c10
        have H1 : (some t234) = some r := by rw [if_pos rfl] at H; exact H
        clear H
        have H := H1
        clear H1
        obtain rfl := Option.some.inj H
        go_wp2
        go_ret
        exact ⟨by first | rfl | (simp [errW_none, errW_some] <;> rfl) | (simp [*, errW_none, errW_some] <;> rfl), by repeat (first | (with_reducible first | exact HB.out | apply below_alloc | apply pw_below_drewN | apply below_drew1) | exact HB.out)⟩
      · replace c10 := Bool.eq_false_iff.mpr c10
        subst c10
        have H1 : ((pack_Put.f (⟨#[]⟩ : ByteArray) l0).bind fun t236 => ((pack_Texts.f kj4 t236 l1).bind fun t237 => (if t237.size + a2.size ≤ 9223372036854775807 then (linhaylaw07_PackBack.l0 kj4 l0 l1 a2 t234 (t237 ++ a2) 0) else (none)))) = some r := by rw [if_neg (show ¬ (false = true) by decide)] at H; exact H
        clear H
        have H := H1
        clear H1
        replace H := Option.bind_eq_some_iff.mp H
        obtain ⟨t236, A110, H⟩ := H
        replace H : ((pack_Texts.f kj4 t236 l1).bind fun t237 => (if t237.size + a2.size ≤ 9223372036854775807 then (linhaylaw07_PackBack.l0 kj4 l0 l1 a2 t234 (t237 ++ a2) 0) else (none))) = some r := H
        have A11 := Aside0.mk A110
        clear A110
        replace H := Option.bind_eq_some_iff.mp H
        obtain ⟨t237, A120, H⟩ := H
        replace H : (if t237.size + a2.size ≤ 9223372036854775807 then (linhaylaw07_PackBack.l0 kj4 l0 l1 a2 t234 (t237 ++ a2) 0) else (none)) = some r := H
        have A12 := Aside0.mk A120
        clear A120
        by_cases c13 : t237.size + a2.size ≤ 9223372036854775807
        · rw [if_pos c13] at H
          have c13b0 := eq_true c13
          have c13b1 : decide (t237.size + a2.size ≤ 9223372036854775807) = true := decide_eq_true c13
          try have c13b2 : (9223372036854775807 < t237.size + a2.size) = False := eq_false (Nat.not_lt.2 c13)
          have H' := Aside0.mk H
          clear H
          go_wp2_with (first | ((with_reducible refine gate_callee (f := 18) rfl ?_); refine goesL_ (some 32) rfl rfl Try.func18 (by kernel_rfl) rfl #[.string (⟨#[]⟩ : ByteArray), .slice A0 l0.length c0] rfl (by (try simp only [List.map_toArray, List.map_cons, List.map_nil]); first | done | rfl | (simp only [List.length_drop, List.length_take]; rfl)) ?_; (with_reducible refine (pack_Put.calls (⟨#[]⟩ : ByteArray) _ _ l0 t236 _ ?side1 ?side2 A11.out).mono ?_); (case side1 => repeat (first | exact (Kd.C_below HR0.out HB.out) | (with_reducible refine Kd.C_alloc ?_ _) | (with_reducible refine Kd.C_drewN ?_ _) | (with_reducible refine Kd.C_drew ?_))); (case side2 => exact HC0.out); rintro e w14 ⟨rfl, hb⟩; refine ⟨_, rfl, ?_⟩; have n0_ := Aside0.mk (below_step (by repeat (first | (with_reducible first | exact HB.out | apply below_alloc | apply pw_below_drewN | apply below_drew1) | exact HB.out)) hb); clear HB; have HB := n0_; clear n0_; (try clear hb); (try clear hb2); (try clear hk); (try clear hi)) | ((with_reducible refine gate_callee (f := 22) rfl ?_); refine goesL_ (some 34) rfl rfl Try.func22 (by kernel_rfl) rfl #[.string t236, .slice A1 l1.length c1] rfl (by (try simp only [List.map_toArray, List.map_cons, List.map_nil]); first | done | rfl | (simp only [List.length_drop, List.length_take]; rfl)) ?_; (with_reducible refine (pack_Texts.calls kj4 t236 _ _ l1 t237 _ ?side1 ?side2 A12.out).mono ?_); (case side1 => repeat (first | exact (Kd.C_below HR1.out HB.out) | (with_reducible refine Kd.C_alloc ?_ _) | (with_reducible refine Kd.C_drewN ?_ _) | (with_reducible refine Kd.C_drew ?_))); (case side2 => exact HC1.out); rintro e w15 ⟨rfl, hb⟩; refine ⟨_, rfl, ?_⟩; have n0_ := Aside0.mk (below_step (by repeat (first | (with_reducible first | exact HB.out | apply below_alloc | apply pw_below_drewN | apply below_drew1) | exact HB.out)) hb); clear HB; have HB := n0_; clear n0_; (try clear hb); (try clear hb2); (try clear hk); (try clear hi)) | (go_at_call 18; (with_reducible refine (pack_Put.calls (⟨#[]⟩ : ByteArray) _ _ l0 t236 _ ?side1 ?side2 A11.out).mono ?_); (case side1 => repeat (first | exact (Kd.C_below HR0.out HB.out) | (with_reducible refine Kd.C_alloc ?_ _) | (with_reducible refine Kd.C_drewN ?_ _) | (with_reducible refine Kd.C_drew ?_))); (case side2 => exact HC0.out); rintro e w14 ⟨rfl, hb⟩; have n0_ := Aside0.mk (below_step (by repeat (first | (with_reducible first | exact HB.out | apply below_alloc | apply pw_below_drewN | apply below_drew1) | exact HB.out)) hb); clear HB; have HB := n0_; clear n0_; (try clear hb); (try clear hb2); (try clear hk); (try clear hi)) | (go_at_call 22; (with_reducible refine (pack_Texts.calls kj4 t236 _ _ l1 t237 _ ?side1 ?side2 A12.out).mono ?_); (case side1 => repeat (first | exact (Kd.C_below HR1.out HB.out) | (with_reducible refine Kd.C_alloc ?_ _) | (with_reducible refine Kd.C_drewN ?_ _) | (with_reducible refine Kd.C_drew ?_))); (case side2 => exact HC1.out); rintro e w15 ⟨rfl, hb⟩; have n0_ := Aside0.mk (below_step (by repeat (first | (with_reducible first | exact HB.out | apply below_alloc | apply pw_below_drewN | apply below_drew1) | exact HB.out)) hb); clear HB; have HB := n0_; clear n0_; (try clear hb); (try clear hb2); (try clear hk); (try clear hi)))
          go_loopg [8, 9] kj4 (fun kq v8 v9 w' => ∃ (x8_2 : ByteArray) (x9_2 : Int), v8 = .string x8_2 ∧ v9 = .int .i64 x9_2 ∧ Aside0 (linhaylaw07_PackBack.l0 kq l0 l1 a2 t234 x8_2 x9_2 = some r) ∧ Aside0 (kq ≤ kj4) ∧ Aside0 (Below w.heap.size w w'))
          case atStart => exact ⟨(t237 ++ a2), (0), (by first | rfl | (simp; done) | (simp [*]; done)), (by first | rfl | (simp; done) | (simp [*]; done)), H', ⟨Nat.le_refl _⟩, ⟨by repeat (first | (with_reducible first | exact HB.out | apply below_alloc | apply pw_below_drewN | apply below_drew1) | exact HB.out)⟩⟩
          case round =>
            clear H'
            try clear c1
            try clear c2
            try clear p2
            try clear c4
            try clear c7
            try clear c7b0
            try clear c7b1
            try clear c9
            try clear c10
            try clear c13
            try clear c13b0
            try clear c13b1
            try clear c13b2
            try clear p2
            obtain ⟨x8_2, x9_2, rfl, rfl, HA, HK2, HB⟩ := hrel
            cases gk with
            | zero => exact absurd HA.out (by simp [linhaylaw07_PackBack.l0])
            | succ k2 =>
              have H := HA.out
              clear HA
              simp only [linhaylaw07_PackBack.l0] at H
              by_cases c16 : x9_2 < (l0.length : Int)
              · rw [if_pos c16] at H
                have c16b0 : decide (x9_2 < (l0.length : Int)) = true := decide_eq_true c16
                clear c16
                replace H := Option.bind_eq_some_iff.mp H
                obtain ⟨⟨t244, t245, t246⟩, A170, H⟩ := H
                replace H : (if t246 = 0 then (if 0 ≤ x9_2 then (if t244 = (rd l0 x9_2) then ((pack_Size.f t244).bind fun t248 => (if (wrap64 ((x8_2.size : Int) - (t245.size : Int))) = t248 then (linhaylaw07_PackBack.l0 k2 l0 l1 a2 t234 t245 (wrap64 (x9_2 + 1))) else (none))) else (none)) else (none)) else (none)) = some r := H
                have A17 := Aside0.mk A170
                clear A170
                by_cases c18 : t246 = 0
                · rw [if_pos c18] at H
                  have c18b0 : (t246 == 0) = true := beq_iff_eq.mpr c18
                  have c18b1 : (t246 != 0) = false := bne_eq_false_iff_eq.mpr c18
                  clear c18
                  by_cases c19 : 0 ≤ x9_2
                  · rw [if_pos c19] at H
                    have c19b0 : decide (0 ≤ x9_2) = true := decide_eq_true c19
                    clear c19
                    by_cases c20 : t244 = (rd l0 x9_2)
                    · rw [if_pos c20] at H
                      have c20b0 : (t244 == (rd l0 x9_2)) = true := beq_iff_eq.mpr c20
                      have c20b1 : (t244 != (rd l0 x9_2)) = false := bne_eq_false_iff_eq.mpr c20
                      clear c20
                      replace H := Option.bind_eq_some_iff.mp H
                      obtain ⟨t248, A210, H⟩ := H
                      replace H : (if (wrap64 ((x8_2.size : Int) - (t245.size : Int))) = t248 then (linhaylaw07_PackBack.l0 k2 l0 l1 a2 t234 t245 (wrap64 (x9_2 + 1))) else (none)) = some r := H
                      have A21 := Aside0.mk A210
                      clear A210
                      by_cases c22 : (wrap64 ((x8_2.size : Int) - (t245.size : Int))) = t248
                      · rw [if_pos c22] at H
                        have c22b0 : ((wrap64 ((x8_2.size : Int) - (t245.size : Int))) == t248) = true := beq_iff_eq.mpr c22
                        have c22b1 : ((wrap64 ((x8_2.size : Int) - (t245.size : Int))) != t248) = false := bne_eq_false_iff_eq.mpr c22
                        clear c22
                        have H' := Aside0.mk H
                        clear H
                        go_wp2_with (first | ((with_reducible refine gate_callee (f := 11) rfl ?_); refine goesL_ (some 45) rfl rfl Try.func11 (by kernel_rfl) rfl #[.string x8_2] rfl (by (try simp only [List.map_toArray, List.map_cons, List.map_nil]); first | done | rfl | (simp only [List.length_drop, List.length_take]; rfl)) ?_; (with_reducible refine (pack_Take.calls k2 x8_2 t244 t245 t246 _ A17.out).mono ?_); rintro e w23 ⟨rfl, hb⟩; refine ⟨_, rfl, ?_⟩; have n0_ := Aside0.mk (below_step (by repeat (first | (with_reducible first | exact HB.out | apply below_alloc | apply pw_below_drewN | apply below_drew1) | exact HB.out)) hb); clear HB; have HB := n0_; clear n0_; (try clear hb); (try clear hb2); (try clear hk); (try clear hi); have p247 : 0 ≤ (x9_2 : Int) := of_decide_eq_true (by first | (with_reducible assumption) | assumption); have q247 : x9_2 < (l0.length : Int) := of_decide_eq_true (by first | (with_reducible assumption) | assumption); obtain ⟨ad247, e247, hx247_0⟩ := Kd.at_int HR0.out x9_2 p247 q247; cases e247; replace hx247_0 := (HB.out.cell (World.block_lt_of_cell? w _ hx247_0)).trans hx247_0; replace p247 := eq_true p247; replace q247 := eq_true q247) | (go_at_call 24; (with_reducible refine (pack_Size.calls t244 t248 _ A21.out).mono ?_); rintro e w' ⟨rfl, ⟨nd, rfl⟩⟩) | (go_at_call 11; (with_reducible refine (pack_Take.calls k2 x8_2 t244 t245 t246 _ A17.out).mono ?_); rintro e w23 ⟨rfl, hb⟩; have n0_ := Aside0.mk (below_step (by repeat (first | (with_reducible first | exact HB.out | apply below_alloc | apply pw_below_drewN | apply below_drew1) | exact HB.out)) hb); clear HB; have HB := n0_; clear n0_; (try clear hb); (try clear hb2); (try clear hk); (try clear hi); have p247 : 0 ≤ (x9_2 : Int) := of_decide_eq_true (by first | (with_reducible assumption) | assumption); have q247 : x9_2 < (l0.length : Int) := of_decide_eq_true (by first | (with_reducible assumption) | assumption); obtain ⟨ad247, e247, hx247_0⟩ := Kd.at_int HR0.out x9_2 p247 q247; cases e247; replace hx247_0 := (HB.out.cell (World.block_lt_of_cell? w _ hx247_0)).trans hx247_0; replace p247 := eq_true p247; replace q247 := eq_true q247))
                        go_roundg k2
                        case measure => have := HJ4.out; have := HK2.out; omega
                        case rel => exact ⟨(t245), (wrap64 (x9_2 + 1)), (by first | rfl | (simp; done) | (simp [*]; done)), (by first | rfl | (simp; done) | (simp [*]; done)), H', ⟨by have := HJ4.out; have := HK2.out; omega⟩, ⟨by repeat (first | (with_reducible first | exact HB.out | apply below_alloc | apply pw_below_drewN | apply below_drew1) | exact HB.out)⟩⟩
                      · rw [if_neg c22] at H
                        exact absurd H (by simp)
                    · rw [if_neg c20] at H
                      exact absurd H (by simp)
                  · rw [if_neg c19] at H
                    exact absurd H (by simp)
                · rw [if_neg c18] at H
                  exact absurd H (by simp)
              · rw [if_neg c16] at H
                have c16b0 : decide (x9_2 < (l0.length : Int)) = false := decide_eq_false c16
                clear c16
                replace H := Option.bind_eq_some_iff.mp H
                obtain ⟨⟨t238, t239, t240⟩, A240, H⟩ := H
                replace H : (if t234 = true then (if t240 = 0 then ((linhayref07_Same.f k2 t238 l1).bind fun t243 => (if t243 = true then (some (t239.toList == a2.toList)) else (none))) else (none)) else (none)) = some r := H
                have A24 := Aside0.mk A240
                clear A240
                by_cases c25 : t234 = true
                · subst c25
                  have H1 : (if t240 = 0 then ((linhayref07_Same.f k2 t238 l1).bind fun t243 => (if t243 = true then (some (t239.toList == a2.toList)) else (none))) else (none)) = some r := by rw [if_pos rfl] at H; exact H
                  clear H
                  have H := H1
                  clear H1
                  by_cases c26 : t240 = 0
                  · rw [if_pos c26] at H
                    have c26b0 : (t240 == 0) = true := beq_iff_eq.mpr c26
                    have c26b1 : (t240 != 0) = false := bne_eq_false_iff_eq.mpr c26
                    clear c26
                    replace H := Option.bind_eq_some_iff.mp H
                    obtain ⟨t243, A270, H⟩ := H
                    replace H : (if t243 = true then (some (t239.toList == a2.toList)) else (none)) = some r := H
                    have A27 := Aside0.mk A270
                    clear A270
                    by_cases c28 : t243 = true
                    · subst c28
                      have H1 : (some (t239.toList == a2.toList)) = some r := by rw [if_pos rfl] at H; exact H
                      clear H
                      have H := H1
                      clear H1
                      obtain rfl := Option.some.inj H
                      go_wp2_with (first | ((with_reducible refine gate_callee (f := 15) rfl ?_); refine goesL_ (some 72) rfl rfl Try.func15 (by kernel_rfl) rfl #[.string x8_2] rfl (by (try simp only [List.map_toArray, List.map_cons, List.map_nil]); first | done | rfl | (simp only [List.length_drop, List.length_take]; rfl)) ?_; (with_reducible refine (pack_TakeTexts.calls k2 x8_2 t238 t239 t240 _ A24.out).mono ?_); rintro e w29 ⟨v241, rfl, ho0, hb⟩; refine ⟨_, rfl, ?_⟩; have n0_ := Aside0.mk (Kd.R_lower ho0 (below_size (by repeat (first | (with_reducible first | exact HB.out | apply below_alloc | apply pw_below_drewN | apply below_drew1) | exact HB.out)))); have n1_ := Aside0.mk (below_step (by repeat (first | (with_reducible first | exact HB.out | apply below_alloc | apply pw_below_drewN | apply below_drew1) | exact HB.out)) hb); clear HB; have HO242 := n0_; have HB := n1_; clear n0_ n1_; (try clear hb); (try clear hb2); (try clear hk); (try clear hi); (try clear ho0); obtain ⟨Ao30, co30, eo30⟩ := Kd.R_slice HO242.out; subst eo30) | (go_at_call 17; (with_reducible refine (linhayref07_Same.calls k2 _ _ t238 _ _ l1 true _ ?side1 ?side2 ?side3 ?side4 A27.out).mono ?_); (case side1 => repeat (first | exact (Kd.R_reads' HO242.out).2.2 | (with_reducible refine Kd.C_alloc ?_ _) | (with_reducible refine Kd.C_drewN ?_ _) | (with_reducible refine Kd.C_drew ?_))); (case side2 => exact (Kd.R_reads' HO242.out).2.1); (case side3 => repeat (first | exact (Kd.C_below HR1.out HB.out) | (with_reducible refine Kd.C_alloc ?_ _) | (with_reducible refine Kd.C_drewN ?_ _) | (with_reducible refine Kd.C_drew ?_))); (case side4 => exact HC1.out); rintro e w' ⟨rfl, ⟨nd, rfl⟩⟩) | (go_at_call 15; (with_reducible refine (pack_TakeTexts.calls k2 x8_2 t238 t239 t240 _ A24.out).mono ?_); rintro e w29 ⟨v241, rfl, ho0, hb⟩; have n0_ := Aside0.mk (Kd.R_lower ho0 (below_size (by repeat (first | (with_reducible first | exact HB.out | apply below_alloc | apply pw_below_drewN | apply below_drew1) | exact HB.out)))); have n1_ := Aside0.mk (below_step (by repeat (first | (with_reducible first | exact HB.out | apply below_alloc | apply pw_below_drewN | apply below_drew1) | exact HB.out)) hb); clear HB; have HO242 := n0_; have HB := n1_; clear n0_ n1_; (try clear hb); (try clear hb2); (try clear hk); (try clear hi); (try clear ho0); obtain ⟨Ao30, co30, eo30⟩ := Kd.R_slice HO242.out; subst eo30))
                      go_ret
                      exact ⟨by first | rfl | (simp [errW_none, errW_some] <;> rfl) | (simp [*, errW_none, errW_some] <;> rfl), by repeat (first | (with_reducible first | exact HB.out | apply below_alloc | apply pw_below_drewN | apply below_drew1) | exact HB.out)⟩
                    · replace c28 := Bool.eq_false_iff.mpr c28
                      subst c28
                      have H1 : (none) = some r := by rw [if_neg (show ¬ (false = true) by decide)] at H; exact H
                      clear H
                      have H := H1
                      clear H1
                      exact absurd H (by simp)
                  · rw [if_neg c26] at H
                    exact absurd H (by simp)
                · replace c25 := Bool.eq_false_iff.mpr c25
                  subst c25
                  have H1 : (none) = some r := by rw [if_neg (show ¬ (false = true) by decide)] at H; exact H
                  clear H
                  have H := H1
                  clear H1
                  exact absurd H (by simp)
        · rw [if_neg c13] at H
          exact absurd H (by simp)

end Go.Proofs.Ytkfahdccacefiaa.Print
