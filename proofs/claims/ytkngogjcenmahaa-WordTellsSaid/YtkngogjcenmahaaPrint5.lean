/- Lean functions that answer what Go functions of the translation answer, and the proofs of it. Written by a program of this session (wip/tools/seatprint.py), over contracts that it proved by hand. Conditions: those that each theorem says. -/
import Derived.Test.YtkngogjcenmahaaPrint0
import Derived.Test.YtkngogjcenmahaaPrint1
import Derived.Test.YtkngogjcenmahaaPrint2
import Derived.Test.YtkngogjcenmahaaPrint3
import Derived.Test.YtkngogjcenmahaaPrint4
namespace Go.Proofs.Ytkngogjcenmahaa.Print
open Go.RowKit Go.Proofs.YtkngogjcenmahaaW.PrintWords Go.Proofs.YtkngogjcenmahaaW.PrintLast Go.Proofs.YtkngogjcenmahaaW.PrintMore
attribute [local go_sem] max2_int min2_int max_two min_two max_three min_three max_four min_four   -- for this text's walks alone
set_option linter.unusedVariables false
set_option linter.unusedSimpArgs false

/-! ### linhaylaw01_WordTells: function 3 -/
def linhaylaw01_WordTells.j0 : Nat → Int → Int → Int → Bool → Bool → Option (Bool)
  | 0, _, _, _, _, _ => none
  | k + 1, x0, x2, x3, x9, x18 => if x9 = true then (if x18 = true then ((word_Shl.f x0 x2).bind fun t134 => ((linhayref01_Shl.f k x0 x2).bind fun t135 => (if t134 = t135 then ((word_Shr.f x0 x2).bind fun t136 => ((linhayref01_Shr.f k x0 x2).bind fun t137 => (if t136 = t137 then ((word_Of.f x3).bind fun t138 => ((linhayref01_Of.f x3).bind fun t139 => (if t138 = t139 then ((word_Int.f x0).bind fun t140 => ((linhayref01_Int.f x0).bind fun t141 => (some (t140 == t141)))) else (some false)))) else (some false)))) else (some false)))) else (some false)) else (some false)
def linhaylaw01_WordTells.f (k : Nat) (a0 : Int) (a1 : Int) (a2 : Int) (a3 : Int) : Option (Bool) := (linhaylaw01_awake.f).bind fun t119 => ((word_Plus.f a0 a1).bind fun bt120 => ((linhayref01_Plus.f a0 a1).bind fun bt122 => ((word_Times.f a0 a1).bind fun bt124 => ((linhayref01_Times.f a0 a1).bind fun bt126 => ((word_Add.f a0 a1).bind fun t128 => ((linhayref01_Add.f a0 a1).bind fun t129 => (if t128 = t129 then ((word_Sub.f a0 a1).bind fun t130 => ((linhayref01_Sub.f a0 a1).bind fun t131 => (if t130 = t131 then ((word_Mul.f a0 a1).bind fun t132 => ((linhayref01_Mul.f a0 a1).bind fun t133 => (if t132 = t133 then (if bt120.1 = bt122.1 then (if bt120.2 = bt122.2 then (if bt124.1 = bt126.1 then (linhaylaw01_WordTells.j0 k a0 a2 a3 t119 (bt124.2 == bt126.2)) else (linhaylaw01_WordTells.j0 k a0 a2 a3 t119 false)) else (linhaylaw01_WordTells.j0 k a0 a2 a3 t119 false)) else (linhaylaw01_WordTells.j0 k a0 a2 a3 t119 false)) else (linhaylaw01_WordTells.j0 k a0 a2 a3 t119 false)))) else (linhaylaw01_WordTells.j0 k a0 a2 a3 t119 false)))) else (linhaylaw01_WordTells.j0 k a0 a2 a3 t119 false))))))))
theorem linhaylaw01_WordTells.mono_l : ∀ k, (∀ y0 y1 y2 y3 y4, LeO (linhaylaw01_WordTells.j0 k y0 y1 y2 y3 y4) (linhaylaw01_WordTells.j0 (k + 1) y0 y1 y2 y3 y4))
  | 0 => fun _ _ _ _ _ r h => by simp [linhaylaw01_WordTells.j0] at h
  | k + 1 => by
    have ih0 := linhaylaw01_WordTells.mono_l k
    · intro y0 y1 y2 y3 y4
      unfold linhaylaw01_WordTells.j0
      repeat' first
      | (with_reducible exact ih0 _ _ _ _ _)
      | (with_reducible exact linhayref01_Shl.mono _ _ _)
      | (with_reducible exact linhayref01_Shr.mono _ _ _)
      | (with_reducible exact LeO.refl _)
      | (with_reducible exact LeO.none _)
      | (with_reducible refine LeO.ite ?_ ?_)
      | (with_reducible refine LeO.bind ?_ (fun _ => ?_))
      | exact ih0 _ _ _ _ _
      | exact linhayref01_Shl.mono _ _ _
      | exact linhayref01_Shr.mono _ _ _
      | exact LeO.none _
      | refine LeO.ite ?_ ?_
      | refine LeO.bind ?_ (fun _ => ?_)
theorem linhaylaw01_WordTells.mono : ∀ a0 a1 a2 a3 k, LeO (linhaylaw01_WordTells.f k a0 a1 a2 a3) (linhaylaw01_WordTells.f (k + 1) a0 a1 a2 a3) := by
  intro a0 a1 a2 a3 k
  have ih0 := linhaylaw01_WordTells.mono_l k
  unfold linhaylaw01_WordTells.f
  repeat' first
      | (with_reducible exact ih0 _ _ _ _ _)
      | (with_reducible exact linhayref01_Shl.mono _ _ _)
      | (with_reducible exact linhayref01_Shr.mono _ _ _)
      | (with_reducible exact LeO.refl _)
      | (with_reducible exact LeO.none _)
      | (with_reducible refine LeO.ite ?_ ?_)
      | (with_reducible refine LeO.bind ?_ (fun _ => ?_))
      | exact ih0 _ _ _ _ _
      | exact linhayref01_Shl.mono _ _ _
      | exact linhayref01_Shr.mono _ _ _
      | exact LeO.none _
      | refine LeO.ite ?_ ?_
      | refine LeO.bind ?_ (fun _ => ?_)
set_option maxHeartbeats 8000000 in
set_option maxRecDepth 100000 in
theorem linhaylaw01_WordTells.calls (k : Nat) (a0 : Int) (a1 : Int) (a2 : Int) (a3 : Int) (r : Bool) (w : World) (h : linhaylaw01_WordTells.f k a0 a1 a2 a3 = some r) :
    Calls Try.prog 3 #[.int .u64 a0, .int .u64 a1, .int .u64 a2, .int .i64 a3] w fun e w' => e = .returned (.bool r) ∧ Below w.heap.size w w' := by
  have HB := Aside0.mk (Below.refl w.heap.size w)
  have H : ((linhaylaw01_awake.f).bind fun t119 => ((word_Plus.f a0 a1).bind fun bt120 => ((linhayref01_Plus.f a0 a1).bind fun bt122 => ((word_Times.f a0 a1).bind fun bt124 => ((linhayref01_Times.f a0 a1).bind fun bt126 => ((word_Add.f a0 a1).bind fun t128 => ((linhayref01_Add.f a0 a1).bind fun t129 => (if t128 = t129 then ((word_Sub.f a0 a1).bind fun t130 => ((linhayref01_Sub.f a0 a1).bind fun t131 => (if t130 = t131 then ((word_Mul.f a0 a1).bind fun t132 => ((linhayref01_Mul.f a0 a1).bind fun t133 => (if t132 = t133 then (if bt120.1 = bt122.1 then (if bt120.2 = bt122.2 then (if bt124.1 = bt126.1 then (linhaylaw01_WordTells.j0 k a0 a2 a3 t119 (bt124.2 == bt126.2)) else (linhaylaw01_WordTells.j0 k a0 a2 a3 t119 false)) else (linhaylaw01_WordTells.j0 k a0 a2 a3 t119 false)) else (linhaylaw01_WordTells.j0 k a0 a2 a3 t119 false)) else (linhaylaw01_WordTells.j0 k a0 a2 a3 t119 false)))) else (linhaylaw01_WordTells.j0 k a0 a2 a3 t119 false)))) else (linhaylaw01_WordTells.j0 k a0 a2 a3 t119 false))))))))) = some r := h
  clear h
  replace H := Option.bind_eq_some_iff.mp H
  obtain ⟨t119, A50, H⟩ := H
  replace H : ((word_Plus.f a0 a1).bind fun bt120 => ((linhayref01_Plus.f a0 a1).bind fun bt122 => ((word_Times.f a0 a1).bind fun bt124 => ((linhayref01_Times.f a0 a1).bind fun bt126 => ((word_Add.f a0 a1).bind fun t128 => ((linhayref01_Add.f a0 a1).bind fun t129 => (if t128 = t129 then ((word_Sub.f a0 a1).bind fun t130 => ((linhayref01_Sub.f a0 a1).bind fun t131 => (if t130 = t131 then ((word_Mul.f a0 a1).bind fun t132 => ((linhayref01_Mul.f a0 a1).bind fun t133 => (if t132 = t133 then (if bt120.1 = bt122.1 then (if bt120.2 = bt122.2 then (if bt124.1 = bt126.1 then (linhaylaw01_WordTells.j0 k a0 a2 a3 t119 (bt124.2 == bt126.2)) else (linhaylaw01_WordTells.j0 k a0 a2 a3 t119 false)) else (linhaylaw01_WordTells.j0 k a0 a2 a3 t119 false)) else (linhaylaw01_WordTells.j0 k a0 a2 a3 t119 false)) else (linhaylaw01_WordTells.j0 k a0 a2 a3 t119 false)))) else (linhaylaw01_WordTells.j0 k a0 a2 a3 t119 false)))) else (linhaylaw01_WordTells.j0 k a0 a2 a3 t119 false)))))))) = some r := H
  have A5 := Aside0.mk A50
  clear A50
  replace H := Option.bind_eq_some_iff.mp H
  obtain ⟨⟨t120, t121⟩, A60, H⟩ := H
  replace H : ((linhayref01_Plus.f a0 a1).bind fun bt122 => ((word_Times.f a0 a1).bind fun bt124 => ((linhayref01_Times.f a0 a1).bind fun bt126 => ((word_Add.f a0 a1).bind fun t128 => ((linhayref01_Add.f a0 a1).bind fun t129 => (if t128 = t129 then ((word_Sub.f a0 a1).bind fun t130 => ((linhayref01_Sub.f a0 a1).bind fun t131 => (if t130 = t131 then ((word_Mul.f a0 a1).bind fun t132 => ((linhayref01_Mul.f a0 a1).bind fun t133 => (if t132 = t133 then (if t120 = bt122.1 then (if t121 = bt122.2 then (if bt124.1 = bt126.1 then (linhaylaw01_WordTells.j0 k a0 a2 a3 t119 (bt124.2 == bt126.2)) else (linhaylaw01_WordTells.j0 k a0 a2 a3 t119 false)) else (linhaylaw01_WordTells.j0 k a0 a2 a3 t119 false)) else (linhaylaw01_WordTells.j0 k a0 a2 a3 t119 false)) else (linhaylaw01_WordTells.j0 k a0 a2 a3 t119 false)))) else (linhaylaw01_WordTells.j0 k a0 a2 a3 t119 false)))) else (linhaylaw01_WordTells.j0 k a0 a2 a3 t119 false))))))) = some r := H
  have A6 := Aside0.mk A60
  clear A60
  replace H := Option.bind_eq_some_iff.mp H
  obtain ⟨⟨t122, t123⟩, A70, H⟩ := H
  replace H : ((word_Times.f a0 a1).bind fun bt124 => ((linhayref01_Times.f a0 a1).bind fun bt126 => ((word_Add.f a0 a1).bind fun t128 => ((linhayref01_Add.f a0 a1).bind fun t129 => (if t128 = t129 then ((word_Sub.f a0 a1).bind fun t130 => ((linhayref01_Sub.f a0 a1).bind fun t131 => (if t130 = t131 then ((word_Mul.f a0 a1).bind fun t132 => ((linhayref01_Mul.f a0 a1).bind fun t133 => (if t132 = t133 then (if t120 = t122 then (if t121 = t123 then (if bt124.1 = bt126.1 then (linhaylaw01_WordTells.j0 k a0 a2 a3 t119 (bt124.2 == bt126.2)) else (linhaylaw01_WordTells.j0 k a0 a2 a3 t119 false)) else (linhaylaw01_WordTells.j0 k a0 a2 a3 t119 false)) else (linhaylaw01_WordTells.j0 k a0 a2 a3 t119 false)) else (linhaylaw01_WordTells.j0 k a0 a2 a3 t119 false)))) else (linhaylaw01_WordTells.j0 k a0 a2 a3 t119 false)))) else (linhaylaw01_WordTells.j0 k a0 a2 a3 t119 false)))))) = some r := H
  have A7 := Aside0.mk A70
  clear A70
  replace H := Option.bind_eq_some_iff.mp H
  obtain ⟨⟨t124, t125⟩, A80, H⟩ := H
  replace H : ((linhayref01_Times.f a0 a1).bind fun bt126 => ((word_Add.f a0 a1).bind fun t128 => ((linhayref01_Add.f a0 a1).bind fun t129 => (if t128 = t129 then ((word_Sub.f a0 a1).bind fun t130 => ((linhayref01_Sub.f a0 a1).bind fun t131 => (if t130 = t131 then ((word_Mul.f a0 a1).bind fun t132 => ((linhayref01_Mul.f a0 a1).bind fun t133 => (if t132 = t133 then (if t120 = t122 then (if t121 = t123 then (if t124 = bt126.1 then (linhaylaw01_WordTells.j0 k a0 a2 a3 t119 (t125 == bt126.2)) else (linhaylaw01_WordTells.j0 k a0 a2 a3 t119 false)) else (linhaylaw01_WordTells.j0 k a0 a2 a3 t119 false)) else (linhaylaw01_WordTells.j0 k a0 a2 a3 t119 false)) else (linhaylaw01_WordTells.j0 k a0 a2 a3 t119 false)))) else (linhaylaw01_WordTells.j0 k a0 a2 a3 t119 false)))) else (linhaylaw01_WordTells.j0 k a0 a2 a3 t119 false))))) = some r := H
  have A8 := Aside0.mk A80
  clear A80
  replace H := Option.bind_eq_some_iff.mp H
  obtain ⟨⟨t126, t127⟩, A90, H⟩ := H
  replace H : ((word_Add.f a0 a1).bind fun t128 => ((linhayref01_Add.f a0 a1).bind fun t129 => (if t128 = t129 then ((word_Sub.f a0 a1).bind fun t130 => ((linhayref01_Sub.f a0 a1).bind fun t131 => (if t130 = t131 then ((word_Mul.f a0 a1).bind fun t132 => ((linhayref01_Mul.f a0 a1).bind fun t133 => (if t132 = t133 then (if t120 = t122 then (if t121 = t123 then (if t124 = t126 then (linhaylaw01_WordTells.j0 k a0 a2 a3 t119 (t125 == t127)) else (linhaylaw01_WordTells.j0 k a0 a2 a3 t119 false)) else (linhaylaw01_WordTells.j0 k a0 a2 a3 t119 false)) else (linhaylaw01_WordTells.j0 k a0 a2 a3 t119 false)) else (linhaylaw01_WordTells.j0 k a0 a2 a3 t119 false)))) else (linhaylaw01_WordTells.j0 k a0 a2 a3 t119 false)))) else (linhaylaw01_WordTells.j0 k a0 a2 a3 t119 false)))) = some r := H
  have A9 := Aside0.mk A90
  clear A90
  have HC10 := Aside0.mk H
  clear H
  go_enter Try.func3, Try.ntmps3
  go_upto_region 6 with (first | ((with_reducible refine gate_callee (f := 8) rfl ?_); refine goesL_ (some 19) rfl rfl Try.func8 (by kernel_rfl) rfl #[] rfl (by (try simp only [List.map_toArray, List.map_cons, List.map_nil]); first | done | rfl | (simp only [List.length_drop, List.length_take]; rfl)) ?_; (with_reducible refine (linhaylaw01_awake.calls  t119 _ A5.out).mono ?_); rintro e w11 ⟨rfl, hb⟩; refine ⟨_, rfl, ?_⟩; have n0_ := Aside0.mk (below_step (by repeat (first | (with_reducible first | exact HB.out | apply below_alloc | apply pw_below_drewN | apply below_drew1) | exact HB.out)) hb); clear HB; have HB := n0_; clear n0_; (try clear hb); (try clear hb2); (try clear hk); (try clear hi)) | ((with_reducible refine gate_callee (f := 9) rfl ?_); refine goesL_ (some 23) rfl rfl Try.func9 (by kernel_rfl) rfl #[.int .u64 a0, .int .u64 a1] rfl (by (try simp only [List.map_toArray, List.map_cons, List.map_nil]); first | done | rfl | (simp only [List.length_drop, List.length_take]; rfl)) ?_; (with_reducible refine (word_Plus.calls a0 a1 t120 t121 _ A6.out).mono ?_); rintro e w' ⟨rfl, ⟨nd, rfl⟩⟩; refine ⟨_, rfl, ?_⟩) | ((with_reducible refine gate_callee (f := 10) rfl ?_); refine goesL_ (some 29) rfl rfl Try.func10 (by kernel_rfl) rfl #[.int .u64 a0, .int .u64 a1] rfl (by (try simp only [List.map_toArray, List.map_cons, List.map_nil]); first | done | rfl | (simp only [List.length_drop, List.length_take]; rfl)) ?_; (with_reducible refine (linhayref01_Plus.calls a0 a1 t122 t123 _ A7.out).mono ?_); rintro e w' ⟨rfl, ⟨nd, rfl⟩⟩; refine ⟨_, rfl, ?_⟩) | ((with_reducible refine gate_callee (f := 11) rfl ?_); refine goesL_ (some 35) rfl rfl Try.func11 (by kernel_rfl) rfl #[.int .u64 a0, .int .u64 a1] rfl (by (try simp only [List.map_toArray, List.map_cons, List.map_nil]); first | done | rfl | (simp only [List.length_drop, List.length_take]; rfl)) ?_; (with_reducible refine (word_Times.calls a0 a1 t124 t125 _ A8.out).mono ?_); rintro e w' ⟨rfl, ⟨nd, rfl⟩⟩; refine ⟨_, rfl, ?_⟩) | ((with_reducible refine gate_callee (f := 12) rfl ?_); refine goesL_ (some 41) rfl rfl Try.func12 (by kernel_rfl) rfl #[.int .u64 a0, .int .u64 a1] rfl (by (try simp only [List.map_toArray, List.map_cons, List.map_nil]); first | done | rfl | (simp only [List.length_drop, List.length_take]; rfl)) ?_; (with_reducible refine (linhayref01_Times.calls a0 a1 t126 t127 _ A9.out).mono ?_); rintro e w' ⟨rfl, ⟨nd, rfl⟩⟩; refine ⟨_, rfl, ?_⟩))
  (try simp only [Act.put, List.setIfInBounds_toArray, List.set_cons_zero, List.set_cons_succ])
  go_cut [18] (fun v18 wc => ∃ (kq : Nat) (x18_9 : Bool), v18 = .bool x18_9 ∧ Aside0 (linhaylaw01_WordTells.j0 kq a0 a2 a3 t119 x18_9 = some r) ∧ Aside0 (kq ≤ k) ∧ Aside0 (Below w.heap.size w wc))
  case first =>
    have H := HC10.out
    clear HC10
    replace H := Option.bind_eq_some_iff.mp H
    obtain ⟨t128, A120, H⟩ := H
    replace H : ((linhayref01_Add.f a0 a1).bind fun t129 => (if t128 = t129 then ((word_Sub.f a0 a1).bind fun t130 => ((linhayref01_Sub.f a0 a1).bind fun t131 => (if t130 = t131 then ((word_Mul.f a0 a1).bind fun t132 => ((linhayref01_Mul.f a0 a1).bind fun t133 => (if t132 = t133 then (if t120 = t122 then (if t121 = t123 then (if t124 = t126 then (linhaylaw01_WordTells.j0 k a0 a2 a3 t119 (t125 == t127)) else (linhaylaw01_WordTells.j0 k a0 a2 a3 t119 false)) else (linhaylaw01_WordTells.j0 k a0 a2 a3 t119 false)) else (linhaylaw01_WordTells.j0 k a0 a2 a3 t119 false)) else (linhaylaw01_WordTells.j0 k a0 a2 a3 t119 false)))) else (linhaylaw01_WordTells.j0 k a0 a2 a3 t119 false)))) else (linhaylaw01_WordTells.j0 k a0 a2 a3 t119 false))) = some r := H
    have A12 := Aside0.mk A120
    clear A120
    replace H := Option.bind_eq_some_iff.mp H
    obtain ⟨t129, A130, H⟩ := H
    replace H : (if t128 = t129 then ((word_Sub.f a0 a1).bind fun t130 => ((linhayref01_Sub.f a0 a1).bind fun t131 => (if t130 = t131 then ((word_Mul.f a0 a1).bind fun t132 => ((linhayref01_Mul.f a0 a1).bind fun t133 => (if t132 = t133 then (if t120 = t122 then (if t121 = t123 then (if t124 = t126 then (linhaylaw01_WordTells.j0 k a0 a2 a3 t119 (t125 == t127)) else (linhaylaw01_WordTells.j0 k a0 a2 a3 t119 false)) else (linhaylaw01_WordTells.j0 k a0 a2 a3 t119 false)) else (linhaylaw01_WordTells.j0 k a0 a2 a3 t119 false)) else (linhaylaw01_WordTells.j0 k a0 a2 a3 t119 false)))) else (linhaylaw01_WordTells.j0 k a0 a2 a3 t119 false)))) else (linhaylaw01_WordTells.j0 k a0 a2 a3 t119 false)) = some r := H
    have A13 := Aside0.mk A130
    clear A130
    by_cases c14 : t128 = t129
    · rw [if_pos c14] at H
      have c14b0 : (t128 == t129) = true := beq_iff_eq.mpr c14
      have c14b1 : (t128 != t129) = false := bne_eq_false_iff_eq.mpr c14
      clear c14
      (first | rw [c14b0] | (simp only [i64_w, i32_w]; rw [c14b0]) | skip)
      replace H := Option.bind_eq_some_iff.mp H
      obtain ⟨t130, A150, H⟩ := H
      replace H : ((linhayref01_Sub.f a0 a1).bind fun t131 => (if t130 = t131 then ((word_Mul.f a0 a1).bind fun t132 => ((linhayref01_Mul.f a0 a1).bind fun t133 => (if t132 = t133 then (if t120 = t122 then (if t121 = t123 then (if t124 = t126 then (linhaylaw01_WordTells.j0 k a0 a2 a3 t119 (t125 == t127)) else (linhaylaw01_WordTells.j0 k a0 a2 a3 t119 false)) else (linhaylaw01_WordTells.j0 k a0 a2 a3 t119 false)) else (linhaylaw01_WordTells.j0 k a0 a2 a3 t119 false)) else (linhaylaw01_WordTells.j0 k a0 a2 a3 t119 false)))) else (linhaylaw01_WordTells.j0 k a0 a2 a3 t119 false))) = some r := H
      have A15 := Aside0.mk A150
      clear A150
      replace H := Option.bind_eq_some_iff.mp H
      obtain ⟨t131, A160, H⟩ := H
      replace H : (if t130 = t131 then ((word_Mul.f a0 a1).bind fun t132 => ((linhayref01_Mul.f a0 a1).bind fun t133 => (if t132 = t133 then (if t120 = t122 then (if t121 = t123 then (if t124 = t126 then (linhaylaw01_WordTells.j0 k a0 a2 a3 t119 (t125 == t127)) else (linhaylaw01_WordTells.j0 k a0 a2 a3 t119 false)) else (linhaylaw01_WordTells.j0 k a0 a2 a3 t119 false)) else (linhaylaw01_WordTells.j0 k a0 a2 a3 t119 false)) else (linhaylaw01_WordTells.j0 k a0 a2 a3 t119 false)))) else (linhaylaw01_WordTells.j0 k a0 a2 a3 t119 false)) = some r := H
      have A16 := Aside0.mk A160
      clear A160
      by_cases c17 : t130 = t131
      · rw [if_pos c17] at H
        have c17b0 : (t130 == t131) = true := beq_iff_eq.mpr c17
        have c17b1 : (t130 != t131) = false := bne_eq_false_iff_eq.mpr c17
        clear c17
        replace H := Option.bind_eq_some_iff.mp H
        obtain ⟨t132, A180, H⟩ := H
        replace H : ((linhayref01_Mul.f a0 a1).bind fun t133 => (if t132 = t133 then (if t120 = t122 then (if t121 = t123 then (if t124 = t126 then (linhaylaw01_WordTells.j0 k a0 a2 a3 t119 (t125 == t127)) else (linhaylaw01_WordTells.j0 k a0 a2 a3 t119 false)) else (linhaylaw01_WordTells.j0 k a0 a2 a3 t119 false)) else (linhaylaw01_WordTells.j0 k a0 a2 a3 t119 false)) else (linhaylaw01_WordTells.j0 k a0 a2 a3 t119 false))) = some r := H
        have A18 := Aside0.mk A180
        clear A180
        replace H := Option.bind_eq_some_iff.mp H
        obtain ⟨t133, A190, H⟩ := H
        replace H : (if t132 = t133 then (if t120 = t122 then (if t121 = t123 then (if t124 = t126 then (linhaylaw01_WordTells.j0 k a0 a2 a3 t119 (t125 == t127)) else (linhaylaw01_WordTells.j0 k a0 a2 a3 t119 false)) else (linhaylaw01_WordTells.j0 k a0 a2 a3 t119 false)) else (linhaylaw01_WordTells.j0 k a0 a2 a3 t119 false)) else (linhaylaw01_WordTells.j0 k a0 a2 a3 t119 false)) = some r := H
        have A19 := Aside0.mk A190
        clear A190
        by_cases c20 : t132 = t133
        · rw [if_pos c20] at H
          have c20b0 : (t132 == t133) = true := beq_iff_eq.mpr c20
          have c20b1 : (t132 != t133) = false := bne_eq_false_iff_eq.mpr c20
          clear c20
          by_cases c21 : t120 = t122
          · rw [if_pos c21] at H
            have c21b0 : (t120 == t122) = true := beq_iff_eq.mpr c21
            have c21b1 : (t120 != t122) = false := bne_eq_false_iff_eq.mpr c21
            clear c21
            by_cases c22 : t121 = t123
            · rw [if_pos c22] at H
              have c22b0 : (t121 == t123) = true := beq_iff_eq.mpr c22
              have c22b1 : (t121 != t123) = false := bne_eq_false_iff_eq.mpr c22
              clear c22
              by_cases c23 : t124 = t126
              · rw [if_pos c23] at H
                have c23b0 : (t124 == t126) = true := beq_iff_eq.mpr c23
                have c23b1 : (t124 != t126) = false := bne_eq_false_iff_eq.mpr c23
                clear c23
                have H' := Aside0.mk H
                clear H
                go_wp2_with (first | ((with_reducible refine gate_callee (f := 13) rfl ?_); refine goesL_ (some 46) rfl rfl Try.func13 (by kernel_rfl) rfl #[.int .u64 a0, .int .u64 a1] rfl (by (try simp only [List.map_toArray, List.map_cons, List.map_nil]); first | done | rfl | (simp only [List.length_drop, List.length_take]; rfl)) ?_; (with_reducible refine (word_Add.calls a0 a1 t128 _ A12.out).mono ?_); rintro e w' ⟨rfl, ⟨nd, rfl⟩⟩; refine ⟨_, rfl, ?_⟩) | ((with_reducible refine gate_callee (f := 14) rfl ?_); refine goesL_ (some 49) rfl rfl Try.func14 (by kernel_rfl) rfl #[.int .u64 a0, .int .u64 a1] rfl (by (try simp only [List.map_toArray, List.map_cons, List.map_nil]); first | done | rfl | (simp only [List.length_drop, List.length_take]; rfl)) ?_; (with_reducible refine (linhayref01_Add.calls a0 a1 t129 _ A13.out).mono ?_); rintro e w' ⟨rfl, ⟨nd, rfl⟩⟩; refine ⟨_, rfl, ?_⟩) | (go_at_call 15; (with_reducible refine (word_Sub.calls a0 a1 t130 _ A15.out).mono ?_); rintro e w24 ⟨rfl, hb⟩; have n0_ := Aside0.mk (below_step (by repeat (first | (with_reducible first | exact HB.out | apply below_alloc | apply pw_below_drewN | apply below_drew1) | exact HB.out)) hb); clear HB; have HB := n0_; clear n0_; (try clear hb); (try clear hb2); (try clear hk); (try clear hi)) | (go_at_call 16; (with_reducible refine (linhayref01_Sub.calls a0 a1 t131 _ A16.out).mono ?_); rintro e w' ⟨rfl, ⟨nd, rfl⟩⟩) | (go_at_call 17; (with_reducible refine (word_Mul.calls a0 a1 t132 _ A18.out).mono ?_); rintro e w' ⟨rfl, ⟨nd, rfl⟩⟩) | (go_at_call 18; (with_reducible refine (linhayref01_Mul.calls a0 a1 t133 _ A19.out).mono ?_); rintro e w' ⟨rfl, ⟨nd, rfl⟩⟩) | (go_at_call 13; (with_reducible refine (word_Add.calls a0 a1 t128 _ A12.out).mono ?_); rintro e w' ⟨rfl, ⟨nd, rfl⟩⟩) | (go_at_call 14; (with_reducible refine (linhayref01_Add.calls a0 a1 t129 _ A13.out).mono ?_); rintro e w' ⟨rfl, ⟨nd, rfl⟩⟩))
                go_meet
                case rel => exact ⟨_, ((t125 == t127)), (by first | rfl | (simp; done) | (simp [*]; done)), H', ⟨by first | omega | exact Nat.le_refl _⟩, ⟨by repeat (first | (with_reducible first | exact HB.out | apply below_alloc | apply pw_below_drewN | apply below_drew1) | exact HB.out)⟩⟩
              · rw [if_neg c23] at H
                have c23b0 : (t124 == t126) = false := beq_eq_false_iff_ne.mpr c23
                have c23b1 : (t124 != t126) = true := bne_iff_ne.mpr c23
                have H' := Aside0.mk H
                clear H
                go_wp2_with (first | ((with_reducible refine gate_callee (f := 13) rfl ?_); refine goesL_ (some 46) rfl rfl Try.func13 (by kernel_rfl) rfl #[.int .u64 a0, .int .u64 a1] rfl (by (try simp only [List.map_toArray, List.map_cons, List.map_nil]); first | done | rfl | (simp only [List.length_drop, List.length_take]; rfl)) ?_; (with_reducible refine (word_Add.calls a0 a1 t128 _ A12.out).mono ?_); rintro e w' ⟨rfl, ⟨nd, rfl⟩⟩; refine ⟨_, rfl, ?_⟩) | ((with_reducible refine gate_callee (f := 14) rfl ?_); refine goesL_ (some 49) rfl rfl Try.func14 (by kernel_rfl) rfl #[.int .u64 a0, .int .u64 a1] rfl (by (try simp only [List.map_toArray, List.map_cons, List.map_nil]); first | done | rfl | (simp only [List.length_drop, List.length_take]; rfl)) ?_; (with_reducible refine (linhayref01_Add.calls a0 a1 t129 _ A13.out).mono ?_); rintro e w' ⟨rfl, ⟨nd, rfl⟩⟩; refine ⟨_, rfl, ?_⟩) | (go_at_call 15; (with_reducible refine (word_Sub.calls a0 a1 t130 _ A15.out).mono ?_); rintro e w25 ⟨rfl, hb⟩; have n0_ := Aside0.mk (below_step (by repeat (first | (with_reducible first | exact HB.out | apply below_alloc | apply pw_below_drewN | apply below_drew1) | exact HB.out)) hb); clear HB; have HB := n0_; clear n0_; (try clear hb); (try clear hb2); (try clear hk); (try clear hi)) | (go_at_call 16; (with_reducible refine (linhayref01_Sub.calls a0 a1 t131 _ A16.out).mono ?_); rintro e w' ⟨rfl, ⟨nd, rfl⟩⟩) | (go_at_call 17; (with_reducible refine (word_Mul.calls a0 a1 t132 _ A18.out).mono ?_); rintro e w' ⟨rfl, ⟨nd, rfl⟩⟩) | (go_at_call 18; (with_reducible refine (linhayref01_Mul.calls a0 a1 t133 _ A19.out).mono ?_); rintro e w' ⟨rfl, ⟨nd, rfl⟩⟩) | (go_at_call 13; (with_reducible refine (word_Add.calls a0 a1 t128 _ A12.out).mono ?_); rintro e w' ⟨rfl, ⟨nd, rfl⟩⟩) | (go_at_call 14; (with_reducible refine (linhayref01_Add.calls a0 a1 t129 _ A13.out).mono ?_); rintro e w' ⟨rfl, ⟨nd, rfl⟩⟩))
                go_meet
                case rel => exact ⟨_, (false), (by first | rfl | (simp; done) | (simp [*]; done)), H', ⟨by first | omega | exact Nat.le_refl _⟩, ⟨by repeat (first | (with_reducible first | exact HB.out | apply below_alloc | apply pw_below_drewN | apply below_drew1) | exact HB.out)⟩⟩
            · rw [if_neg c22] at H
              have c22b0 : (t121 == t123) = false := beq_eq_false_iff_ne.mpr c22
              have c22b1 : (t121 != t123) = true := bne_iff_ne.mpr c22
              have H' := Aside0.mk H
              clear H
              go_wp2_with (first | ((with_reducible refine gate_callee (f := 13) rfl ?_); refine goesL_ (some 46) rfl rfl Try.func13 (by kernel_rfl) rfl #[.int .u64 a0, .int .u64 a1] rfl (by (try simp only [List.map_toArray, List.map_cons, List.map_nil]); first | done | rfl | (simp only [List.length_drop, List.length_take]; rfl)) ?_; (with_reducible refine (word_Add.calls a0 a1 t128 _ A12.out).mono ?_); rintro e w' ⟨rfl, ⟨nd, rfl⟩⟩; refine ⟨_, rfl, ?_⟩) | ((with_reducible refine gate_callee (f := 14) rfl ?_); refine goesL_ (some 49) rfl rfl Try.func14 (by kernel_rfl) rfl #[.int .u64 a0, .int .u64 a1] rfl (by (try simp only [List.map_toArray, List.map_cons, List.map_nil]); first | done | rfl | (simp only [List.length_drop, List.length_take]; rfl)) ?_; (with_reducible refine (linhayref01_Add.calls a0 a1 t129 _ A13.out).mono ?_); rintro e w' ⟨rfl, ⟨nd, rfl⟩⟩; refine ⟨_, rfl, ?_⟩) | (go_at_call 15; (with_reducible refine (word_Sub.calls a0 a1 t130 _ A15.out).mono ?_); rintro e w26 ⟨rfl, hb⟩; have n0_ := Aside0.mk (below_step (by repeat (first | (with_reducible first | exact HB.out | apply below_alloc | apply pw_below_drewN | apply below_drew1) | exact HB.out)) hb); clear HB; have HB := n0_; clear n0_; (try clear hb); (try clear hb2); (try clear hk); (try clear hi)) | (go_at_call 16; (with_reducible refine (linhayref01_Sub.calls a0 a1 t131 _ A16.out).mono ?_); rintro e w' ⟨rfl, ⟨nd, rfl⟩⟩) | (go_at_call 17; (with_reducible refine (word_Mul.calls a0 a1 t132 _ A18.out).mono ?_); rintro e w' ⟨rfl, ⟨nd, rfl⟩⟩) | (go_at_call 18; (with_reducible refine (linhayref01_Mul.calls a0 a1 t133 _ A19.out).mono ?_); rintro e w' ⟨rfl, ⟨nd, rfl⟩⟩) | (go_at_call 13; (with_reducible refine (word_Add.calls a0 a1 t128 _ A12.out).mono ?_); rintro e w' ⟨rfl, ⟨nd, rfl⟩⟩) | (go_at_call 14; (with_reducible refine (linhayref01_Add.calls a0 a1 t129 _ A13.out).mono ?_); rintro e w' ⟨rfl, ⟨nd, rfl⟩⟩))
              go_meet
              case rel => exact ⟨_, (false), (by first | rfl | (simp; done) | (simp [*]; done)), H', ⟨by first | omega | exact Nat.le_refl _⟩, ⟨by repeat (first | (with_reducible first | exact HB.out | apply below_alloc | apply pw_below_drewN | apply below_drew1) | exact HB.out)⟩⟩
          · rw [if_neg c21] at H
            have c21b0 : (t120 == t122) = false := beq_eq_false_iff_ne.mpr c21
            have c21b1 : (t120 != t122) = true := bne_iff_ne.mpr c21
            have H' := Aside0.mk H
            clear H
            go_wp2_with (first | ((with_reducible refine gate_callee (f := 13) rfl ?_); refine goesL_ (some 46) rfl rfl Try.func13 (by kernel_rfl) rfl #[.int .u64 a0, .int .u64 a1] rfl (by (try simp only [List.map_toArray, List.map_cons, List.map_nil]); first | done | rfl | (simp only [List.length_drop, List.length_take]; rfl)) ?_; (with_reducible refine (word_Add.calls a0 a1 t128 _ A12.out).mono ?_); rintro e w' ⟨rfl, ⟨nd, rfl⟩⟩; refine ⟨_, rfl, ?_⟩) | ((with_reducible refine gate_callee (f := 14) rfl ?_); refine goesL_ (some 49) rfl rfl Try.func14 (by kernel_rfl) rfl #[.int .u64 a0, .int .u64 a1] rfl (by (try simp only [List.map_toArray, List.map_cons, List.map_nil]); first | done | rfl | (simp only [List.length_drop, List.length_take]; rfl)) ?_; (with_reducible refine (linhayref01_Add.calls a0 a1 t129 _ A13.out).mono ?_); rintro e w' ⟨rfl, ⟨nd, rfl⟩⟩; refine ⟨_, rfl, ?_⟩) | (go_at_call 15; (with_reducible refine (word_Sub.calls a0 a1 t130 _ A15.out).mono ?_); rintro e w27 ⟨rfl, hb⟩; have n0_ := Aside0.mk (below_step (by repeat (first | (with_reducible first | exact HB.out | apply below_alloc | apply pw_below_drewN | apply below_drew1) | exact HB.out)) hb); clear HB; have HB := n0_; clear n0_; (try clear hb); (try clear hb2); (try clear hk); (try clear hi)) | (go_at_call 16; (with_reducible refine (linhayref01_Sub.calls a0 a1 t131 _ A16.out).mono ?_); rintro e w' ⟨rfl, ⟨nd, rfl⟩⟩) | (go_at_call 17; (with_reducible refine (word_Mul.calls a0 a1 t132 _ A18.out).mono ?_); rintro e w' ⟨rfl, ⟨nd, rfl⟩⟩) | (go_at_call 18; (with_reducible refine (linhayref01_Mul.calls a0 a1 t133 _ A19.out).mono ?_); rintro e w' ⟨rfl, ⟨nd, rfl⟩⟩) | (go_at_call 13; (with_reducible refine (word_Add.calls a0 a1 t128 _ A12.out).mono ?_); rintro e w' ⟨rfl, ⟨nd, rfl⟩⟩) | (go_at_call 14; (with_reducible refine (linhayref01_Add.calls a0 a1 t129 _ A13.out).mono ?_); rintro e w' ⟨rfl, ⟨nd, rfl⟩⟩))
            go_meet
            case rel => exact ⟨_, (false), (by first | rfl | (simp; done) | (simp [*]; done)), H', ⟨by first | omega | exact Nat.le_refl _⟩, ⟨by repeat (first | (with_reducible first | exact HB.out | apply below_alloc | apply pw_below_drewN | apply below_drew1) | exact HB.out)⟩⟩
        · rw [if_neg c20] at H
          have c20b0 : (t132 == t133) = false := beq_eq_false_iff_ne.mpr c20
          have c20b1 : (t132 != t133) = true := bne_iff_ne.mpr c20
          have H' := Aside0.mk H
          clear H
          go_wp2_with (first | ((with_reducible refine gate_callee (f := 13) rfl ?_); refine goesL_ (some 46) rfl rfl Try.func13 (by kernel_rfl) rfl #[.int .u64 a0, .int .u64 a1] rfl (by (try simp only [List.map_toArray, List.map_cons, List.map_nil]); first | done | rfl | (simp only [List.length_drop, List.length_take]; rfl)) ?_; (with_reducible refine (word_Add.calls a0 a1 t128 _ A12.out).mono ?_); rintro e w' ⟨rfl, ⟨nd, rfl⟩⟩; refine ⟨_, rfl, ?_⟩) | ((with_reducible refine gate_callee (f := 14) rfl ?_); refine goesL_ (some 49) rfl rfl Try.func14 (by kernel_rfl) rfl #[.int .u64 a0, .int .u64 a1] rfl (by (try simp only [List.map_toArray, List.map_cons, List.map_nil]); first | done | rfl | (simp only [List.length_drop, List.length_take]; rfl)) ?_; (with_reducible refine (linhayref01_Add.calls a0 a1 t129 _ A13.out).mono ?_); rintro e w' ⟨rfl, ⟨nd, rfl⟩⟩; refine ⟨_, rfl, ?_⟩) | (go_at_call 15; (with_reducible refine (word_Sub.calls a0 a1 t130 _ A15.out).mono ?_); rintro e w28 ⟨rfl, hb⟩; have n0_ := Aside0.mk (below_step (by repeat (first | (with_reducible first | exact HB.out | apply below_alloc | apply pw_below_drewN | apply below_drew1) | exact HB.out)) hb); clear HB; have HB := n0_; clear n0_; (try clear hb); (try clear hb2); (try clear hk); (try clear hi)) | (go_at_call 16; (with_reducible refine (linhayref01_Sub.calls a0 a1 t131 _ A16.out).mono ?_); rintro e w' ⟨rfl, ⟨nd, rfl⟩⟩) | (go_at_call 17; (with_reducible refine (word_Mul.calls a0 a1 t132 _ A18.out).mono ?_); rintro e w' ⟨rfl, ⟨nd, rfl⟩⟩) | (go_at_call 18; (with_reducible refine (linhayref01_Mul.calls a0 a1 t133 _ A19.out).mono ?_); rintro e w' ⟨rfl, ⟨nd, rfl⟩⟩) | (go_at_call 13; (with_reducible refine (word_Add.calls a0 a1 t128 _ A12.out).mono ?_); rintro e w' ⟨rfl, ⟨nd, rfl⟩⟩) | (go_at_call 14; (with_reducible refine (linhayref01_Add.calls a0 a1 t129 _ A13.out).mono ?_); rintro e w' ⟨rfl, ⟨nd, rfl⟩⟩))
          go_meet
          case rel => exact ⟨_, (false), (by first | rfl | (simp; done) | (simp [*]; done)), H', ⟨by first | omega | exact Nat.le_refl _⟩, ⟨by repeat (first | (with_reducible first | exact HB.out | apply below_alloc | apply pw_below_drewN | apply below_drew1) | exact HB.out)⟩⟩
      · rw [if_neg c17] at H
        have c17b0 : (t130 == t131) = false := beq_eq_false_iff_ne.mpr c17
        have c17b1 : (t130 != t131) = true := bne_iff_ne.mpr c17
        have H' := Aside0.mk H
        clear H
        go_wp2_with (first | ((with_reducible refine gate_callee (f := 13) rfl ?_); refine goesL_ (some 46) rfl rfl Try.func13 (by kernel_rfl) rfl #[.int .u64 a0, .int .u64 a1] rfl (by (try simp only [List.map_toArray, List.map_cons, List.map_nil]); first | done | rfl | (simp only [List.length_drop, List.length_take]; rfl)) ?_; (with_reducible refine (word_Add.calls a0 a1 t128 _ A12.out).mono ?_); rintro e w' ⟨rfl, ⟨nd, rfl⟩⟩; refine ⟨_, rfl, ?_⟩) | ((with_reducible refine gate_callee (f := 14) rfl ?_); refine goesL_ (some 49) rfl rfl Try.func14 (by kernel_rfl) rfl #[.int .u64 a0, .int .u64 a1] rfl (by (try simp only [List.map_toArray, List.map_cons, List.map_nil]); first | done | rfl | (simp only [List.length_drop, List.length_take]; rfl)) ?_; (with_reducible refine (linhayref01_Add.calls a0 a1 t129 _ A13.out).mono ?_); rintro e w' ⟨rfl, ⟨nd, rfl⟩⟩; refine ⟨_, rfl, ?_⟩) | (go_at_call 15; (with_reducible refine (word_Sub.calls a0 a1 t130 _ A15.out).mono ?_); rintro e w29 ⟨rfl, hb⟩; have n0_ := Aside0.mk (below_step (by repeat (first | (with_reducible first | exact HB.out | apply below_alloc | apply pw_below_drewN | apply below_drew1) | exact HB.out)) hb); clear HB; have HB := n0_; clear n0_; (try clear hb); (try clear hb2); (try clear hk); (try clear hi)) | (go_at_call 16; (with_reducible refine (linhayref01_Sub.calls a0 a1 t131 _ A16.out).mono ?_); rintro e w' ⟨rfl, ⟨nd, rfl⟩⟩) | (go_at_call 13; (with_reducible refine (word_Add.calls a0 a1 t128 _ A12.out).mono ?_); rintro e w' ⟨rfl, ⟨nd, rfl⟩⟩) | (go_at_call 14; (with_reducible refine (linhayref01_Add.calls a0 a1 t129 _ A13.out).mono ?_); rintro e w' ⟨rfl, ⟨nd, rfl⟩⟩))
        go_meet
        case rel => exact ⟨_, (false), (by first | rfl | (simp; done) | (simp [*]; done)), H', ⟨by first | omega | exact Nat.le_refl _⟩, ⟨by repeat (first | (with_reducible first | exact HB.out | apply below_alloc | apply pw_below_drewN | apply below_drew1) | exact HB.out)⟩⟩
    · rw [if_neg c14] at H
      have c14b0 : (t128 == t129) = false := beq_eq_false_iff_ne.mpr c14
      have c14b1 : (t128 != t129) = true := bne_iff_ne.mpr c14
      (first | rw [c14b0] | (simp only [i64_w, i32_w]; rw [c14b0]) | skip)
      have H' := Aside0.mk H
      clear H
      go_wp2_with (first | ((with_reducible refine gate_callee (f := 13) rfl ?_); refine goesL_ (some 46) rfl rfl Try.func13 (by kernel_rfl) rfl #[.int .u64 a0, .int .u64 a1] rfl (by (try simp only [List.map_toArray, List.map_cons, List.map_nil]); first | done | rfl | (simp only [List.length_drop, List.length_take]; rfl)) ?_; (with_reducible refine (word_Add.calls a0 a1 t128 _ A12.out).mono ?_); rintro e w' ⟨rfl, ⟨nd, rfl⟩⟩; refine ⟨_, rfl, ?_⟩) | ((with_reducible refine gate_callee (f := 14) rfl ?_); refine goesL_ (some 49) rfl rfl Try.func14 (by kernel_rfl) rfl #[.int .u64 a0, .int .u64 a1] rfl (by (try simp only [List.map_toArray, List.map_cons, List.map_nil]); first | done | rfl | (simp only [List.length_drop, List.length_take]; rfl)) ?_; (with_reducible refine (linhayref01_Add.calls a0 a1 t129 _ A13.out).mono ?_); rintro e w' ⟨rfl, ⟨nd, rfl⟩⟩; refine ⟨_, rfl, ?_⟩) | (go_at_call 13; (with_reducible refine (word_Add.calls a0 a1 t128 _ A12.out).mono ?_); rintro e w' ⟨rfl, ⟨nd, rfl⟩⟩) | (go_at_call 14; (with_reducible refine (linhayref01_Add.calls a0 a1 t129 _ A13.out).mono ?_); rintro e w' ⟨rfl, ⟨nd, rfl⟩⟩))
      go_meet
      case rel => exact ⟨_, (false), (by first | rfl | (simp; done) | (simp [*]; done)), H', ⟨by first | omega | exact Nat.le_refl _⟩, ⟨by repeat (first | (with_reducible first | exact HB.out | apply below_alloc | apply pw_below_drewN | apply below_drew1) | exact HB.out)⟩⟩
  case rest =>
    clear HC10
    try clear c1
    try clear c2
    try clear p2
    try clear c3
    try clear c8
    try clear c9
    try clear c10
    try clear c11
    try clear c12
    try clear c13
    try clear c14
    try clear c14b0
    try clear c14b1
    try clear c17
    try clear c17b0
    try clear c17b1
    try clear c20
    try clear c20b0
    try clear c20b1
    try clear c21
    try clear c21b0
    try clear c21b1
    try clear c22
    try clear c22b0
    try clear c22b1
    try clear c23
    try clear c23b0
    try clear c23b1
    obtain ⟨kq, x18_9, rfl, HA, HJ9, HB⟩ := hcut
    cases kq with
    | zero => exact absurd HA.out (by simp [linhaylaw01_WordTells.j0])
    | succ kj9 =>
      have H := HA.out
      clear HA
      simp only [linhaylaw01_WordTells.j0] at H
      by_cases c30 : t119 = true
      · subst c30
        have H1 : (if x18_9 = true then ((word_Shl.f a0 a2).bind fun t134 => ((linhayref01_Shl.f kj9 a0 a2).bind fun t135 => (if t134 = t135 then ((word_Shr.f a0 a2).bind fun t136 => ((linhayref01_Shr.f kj9 a0 a2).bind fun t137 => (if t136 = t137 then ((word_Of.f a3).bind fun t138 => ((linhayref01_Of.f a3).bind fun t139 => (if t138 = t139 then ((word_Int.f a0).bind fun t140 => ((linhayref01_Int.f a0).bind fun t141 => (some (t140 == t141)))) else (some false)))) else (some false)))) else (some false)))) else (some false)) = some r := by rw [if_pos rfl] at H; exact H
        clear H
        have H := H1
        clear H1
        by_cases c31 : x18_9 = true
        · subst c31
          have H1 : ((word_Shl.f a0 a2).bind fun t134 => ((linhayref01_Shl.f kj9 a0 a2).bind fun t135 => (if t134 = t135 then ((word_Shr.f a0 a2).bind fun t136 => ((linhayref01_Shr.f kj9 a0 a2).bind fun t137 => (if t136 = t137 then ((word_Of.f a3).bind fun t138 => ((linhayref01_Of.f a3).bind fun t139 => (if t138 = t139 then ((word_Int.f a0).bind fun t140 => ((linhayref01_Int.f a0).bind fun t141 => (some (t140 == t141)))) else (some false)))) else (some false)))) else (some false)))) = some r := by rw [if_pos rfl] at H; exact H
          clear H
          have H := H1
          clear H1
          replace H := Option.bind_eq_some_iff.mp H
          obtain ⟨t134, A320, H⟩ := H
          replace H : ((linhayref01_Shl.f kj9 a0 a2).bind fun t135 => (if t134 = t135 then ((word_Shr.f a0 a2).bind fun t136 => ((linhayref01_Shr.f kj9 a0 a2).bind fun t137 => (if t136 = t137 then ((word_Of.f a3).bind fun t138 => ((linhayref01_Of.f a3).bind fun t139 => (if t138 = t139 then ((word_Int.f a0).bind fun t140 => ((linhayref01_Int.f a0).bind fun t141 => (some (t140 == t141)))) else (some false)))) else (some false)))) else (some false))) = some r := H
          have A32 := Aside0.mk A320
          clear A320
          replace H := Option.bind_eq_some_iff.mp H
          obtain ⟨t135, A330, H⟩ := H
          replace H : (if t134 = t135 then ((word_Shr.f a0 a2).bind fun t136 => ((linhayref01_Shr.f kj9 a0 a2).bind fun t137 => (if t136 = t137 then ((word_Of.f a3).bind fun t138 => ((linhayref01_Of.f a3).bind fun t139 => (if t138 = t139 then ((word_Int.f a0).bind fun t140 => ((linhayref01_Int.f a0).bind fun t141 => (some (t140 == t141)))) else (some false)))) else (some false)))) else (some false)) = some r := H
          have A33 := Aside0.mk A330
          clear A330
          by_cases c34 : t134 = t135
          · rw [if_pos c34] at H
            have c34b0 : (t134 == t135) = true := beq_iff_eq.mpr c34
            have c34b1 : (t134 != t135) = false := bne_eq_false_iff_eq.mpr c34
            clear c34
            replace H := Option.bind_eq_some_iff.mp H
            obtain ⟨t136, A350, H⟩ := H
            replace H : ((linhayref01_Shr.f kj9 a0 a2).bind fun t137 => (if t136 = t137 then ((word_Of.f a3).bind fun t138 => ((linhayref01_Of.f a3).bind fun t139 => (if t138 = t139 then ((word_Int.f a0).bind fun t140 => ((linhayref01_Int.f a0).bind fun t141 => (some (t140 == t141)))) else (some false)))) else (some false))) = some r := H
            have A35 := Aside0.mk A350
            clear A350
            replace H := Option.bind_eq_some_iff.mp H
            obtain ⟨t137, A360, H⟩ := H
            replace H : (if t136 = t137 then ((word_Of.f a3).bind fun t138 => ((linhayref01_Of.f a3).bind fun t139 => (if t138 = t139 then ((word_Int.f a0).bind fun t140 => ((linhayref01_Int.f a0).bind fun t141 => (some (t140 == t141)))) else (some false)))) else (some false)) = some r := H
            have A36 := Aside0.mk A360
            clear A360
            by_cases c37 : t136 = t137
            · rw [if_pos c37] at H
              have c37b0 : (t136 == t137) = true := beq_iff_eq.mpr c37
              have c37b1 : (t136 != t137) = false := bne_eq_false_iff_eq.mpr c37
              clear c37
              replace H := Option.bind_eq_some_iff.mp H
              obtain ⟨t138, A380, H⟩ := H
              replace H : ((linhayref01_Of.f a3).bind fun t139 => (if t138 = t139 then ((word_Int.f a0).bind fun t140 => ((linhayref01_Int.f a0).bind fun t141 => (some (t140 == t141)))) else (some false))) = some r := H
              have A38 := Aside0.mk A380
              clear A380
              replace H := Option.bind_eq_some_iff.mp H
              obtain ⟨t139, A390, H⟩ := H
              replace H : (if t138 = t139 then ((word_Int.f a0).bind fun t140 => ((linhayref01_Int.f a0).bind fun t141 => (some (t140 == t141)))) else (some false)) = some r := H
              have A39 := Aside0.mk A390
              clear A390
              by_cases c40 : t138 = t139
              · rw [if_pos c40] at H
                have c40b0 : (t138 == t139) = true := beq_iff_eq.mpr c40
                have c40b1 : (t138 != t139) = false := bne_eq_false_iff_eq.mpr c40
                clear c40
                replace H := Option.bind_eq_some_iff.mp H
                obtain ⟨t140, A410, H⟩ := H
                replace H : ((linhayref01_Int.f a0).bind fun t141 => (some (t140 == t141))) = some r := H
                have A41 := Aside0.mk A410
                clear A410
                replace H := Option.bind_eq_some_iff.mp H
                obtain ⟨t141, A420, H⟩ := H
                replace H : (some (t140 == t141)) = some r := H
                have A42 := Aside0.mk A420
                clear A420
                obtain rfl := Option.some.inj H
                go_wp2_with (first | (go_at_call 19; (with_reducible refine (word_Shl.calls a0 a2 t134 _ A32.out).mono ?_); rintro e w' ⟨rfl, ⟨nd, rfl⟩⟩) | (go_at_call 20; (with_reducible refine (linhayref01_Shl.calls kj9 a0 a2 t135 _ A33.out).mono ?_); rintro e w' ⟨rfl, ⟨nd, rfl⟩⟩) | (go_at_call 21; (with_reducible refine (word_Shr.calls a0 a2 t136 _ A35.out).mono ?_); rintro e w' ⟨rfl, ⟨nd, rfl⟩⟩) | (go_at_call 22; (with_reducible refine (linhayref01_Shr.calls kj9 a0 a2 t137 _ A36.out).mono ?_); rintro e w' ⟨rfl, ⟨nd, rfl⟩⟩) | (go_at_call 23; (with_reducible refine (word_Of.calls a3 t138 _ A38.out).mono ?_); rintro e w' ⟨rfl, ⟨nd, rfl⟩⟩) | (go_at_call 24; (with_reducible refine (linhayref01_Of.calls a3 t139 _ A39.out).mono ?_); rintro e w' ⟨rfl, ⟨nd, rfl⟩⟩) | (go_at_call 25; (with_reducible refine (word_Int.calls a0 t140 _ A41.out).mono ?_); rintro e w' ⟨rfl, ⟨nd, rfl⟩⟩) | (go_at_call 26; (with_reducible refine (linhayref01_Int.calls a0 t141 _ A42.out).mono ?_); rintro e w' ⟨rfl, ⟨nd, rfl⟩⟩))
                go_ret
                exact ⟨by first | rfl | (simp [errW_none, errW_some] <;> rfl) | (simp [*, errW_none, errW_some] <;> rfl), by repeat (first | (with_reducible first | exact HB.out | apply below_alloc | apply pw_below_drewN | apply below_drew1) | exact HB.out)⟩
              · rw [if_neg c40] at H
                have c40b0 : (t138 == t139) = false := beq_eq_false_iff_ne.mpr c40
                have c40b1 : (t138 != t139) = true := bne_iff_ne.mpr c40
                obtain rfl := Option.some.inj H
                go_wp2_with (first | (go_at_call 19; (with_reducible refine (word_Shl.calls a0 a2 t134 _ A32.out).mono ?_); rintro e w' ⟨rfl, ⟨nd, rfl⟩⟩) | (go_at_call 20; (with_reducible refine (linhayref01_Shl.calls kj9 a0 a2 t135 _ A33.out).mono ?_); rintro e w' ⟨rfl, ⟨nd, rfl⟩⟩) | (go_at_call 21; (with_reducible refine (word_Shr.calls a0 a2 t136 _ A35.out).mono ?_); rintro e w' ⟨rfl, ⟨nd, rfl⟩⟩) | (go_at_call 22; (with_reducible refine (linhayref01_Shr.calls kj9 a0 a2 t137 _ A36.out).mono ?_); rintro e w' ⟨rfl, ⟨nd, rfl⟩⟩) | (go_at_call 23; (with_reducible refine (word_Of.calls a3 t138 _ A38.out).mono ?_); rintro e w' ⟨rfl, ⟨nd, rfl⟩⟩) | (go_at_call 24; (with_reducible refine (linhayref01_Of.calls a3 t139 _ A39.out).mono ?_); rintro e w' ⟨rfl, ⟨nd, rfl⟩⟩))
                go_ret
                exact ⟨by first | rfl | (simp [errW_none, errW_some] <;> rfl) | (simp [*, errW_none, errW_some] <;> rfl), by repeat (first | (with_reducible first | exact HB.out | apply below_alloc | apply pw_below_drewN | apply below_drew1) | exact HB.out)⟩
            · rw [if_neg c37] at H
              have c37b0 : (t136 == t137) = false := beq_eq_false_iff_ne.mpr c37
              have c37b1 : (t136 != t137) = true := bne_iff_ne.mpr c37
              obtain rfl := Option.some.inj H
              go_wp2_with (first | (go_at_call 19; (with_reducible refine (word_Shl.calls a0 a2 t134 _ A32.out).mono ?_); rintro e w' ⟨rfl, ⟨nd, rfl⟩⟩) | (go_at_call 20; (with_reducible refine (linhayref01_Shl.calls kj9 a0 a2 t135 _ A33.out).mono ?_); rintro e w' ⟨rfl, ⟨nd, rfl⟩⟩) | (go_at_call 21; (with_reducible refine (word_Shr.calls a0 a2 t136 _ A35.out).mono ?_); rintro e w' ⟨rfl, ⟨nd, rfl⟩⟩) | (go_at_call 22; (with_reducible refine (linhayref01_Shr.calls kj9 a0 a2 t137 _ A36.out).mono ?_); rintro e w' ⟨rfl, ⟨nd, rfl⟩⟩))
              go_ret
              exact ⟨by first | rfl | (simp [errW_none, errW_some] <;> rfl) | (simp [*, errW_none, errW_some] <;> rfl), by repeat (first | (with_reducible first | exact HB.out | apply below_alloc | apply pw_below_drewN | apply below_drew1) | exact HB.out)⟩
          · rw [if_neg c34] at H
            have c34b0 : (t134 == t135) = false := beq_eq_false_iff_ne.mpr c34
            have c34b1 : (t134 != t135) = true := bne_iff_ne.mpr c34
            obtain rfl := Option.some.inj H
            go_wp2_with (first | (go_at_call 19; (with_reducible refine (word_Shl.calls a0 a2 t134 _ A32.out).mono ?_); rintro e w' ⟨rfl, ⟨nd, rfl⟩⟩) | (go_at_call 20; (with_reducible refine (linhayref01_Shl.calls kj9 a0 a2 t135 _ A33.out).mono ?_); rintro e w' ⟨rfl, ⟨nd, rfl⟩⟩))
            go_ret
            exact ⟨by first | rfl | (simp [errW_none, errW_some] <;> rfl) | (simp [*, errW_none, errW_some] <;> rfl), by repeat (first | (with_reducible first | exact HB.out | apply below_alloc | apply pw_below_drewN | apply below_drew1) | exact HB.out)⟩
        · replace c31 := Bool.eq_false_iff.mpr c31
          subst c31
          have H1 : (some false) = some r := by rw [if_neg (show ¬ (false = true) by decide)] at H; exact H
          clear H
          have H := H1
          clear H1
          obtain rfl := Option.some.inj H
          go_wp2
          go_ret
          exact ⟨by first | rfl | (simp [errW_none, errW_some] <;> rfl) | (simp [*, errW_none, errW_some] <;> rfl), by repeat (first | (with_reducible first | exact HB.out | apply below_alloc | apply pw_below_drewN | apply below_drew1) | exact HB.out)⟩
      · replace c30 := Bool.eq_false_iff.mpr c30
        subst c30
        have H1 : (some false) = some r := by rw [if_neg (show ¬ (false = true) by decide)] at H; exact H
        clear H
        have H := H1
        clear H1
        obtain rfl := Option.some.inj H
        go_wp2
        go_ret
        exact ⟨by first | rfl | (simp [errW_none, errW_some] <;> rfl) | (simp [*, errW_none, errW_some] <;> rfl), by repeat (first | (with_reducible first | exact HB.out | apply below_alloc | apply pw_below_drewN | apply below_drew1) | exact HB.out)⟩

/-- THE ONE PURE STATEMENT of linhaylaw01_WordTells: yours. -/
def linhaylaw01_WordTells.Pure : Prop := ∀ (a0 : Int) (a1 : Int) (a2 : Int) (a3 : Int), (Lit.int .u64 a0).wf = true → (Lit.int .u64 a1).wf = true → (Lit.int .u64 a2).wf = true → (Lit.int .i64 a3).wf = true → ∃ k, linhaylaw01_WordTells.f k a0 a1 a2 a3 = some true
theorem linhaylaw01_WordTells.walk (P : linhaylaw01_WordTells.Pure) (a0 : Int) (a1 : Int) (a2 : Int) (a3 : Int) (w : World) (w0 : (Lit.int .u64 a0).wf = true) (w1 : (Lit.int .u64 a1).wf = true) (w2 : (Lit.int .u64 a2).wf = true) (w3 : (Lit.int .i64 a3).wf = true) :
    Calls Try.prog 3 #[.int .u64 a0, .int .u64 a1, .int .u64 a2, .int .i64 a3] w fun e w' => e = .returned (.bool true) ∧ Below w.heap.size w w' := by
  obtain ⟨k, h⟩ := P a0 a1 a2 a3 w0 w1 w2 w3
  refine (linhaylaw01_WordTells.calls k a0 a1 a2 a3 true w h).mono ?_
  rintro e w' ⟨rfl, hd⟩
  exact ⟨rfl, hd⟩

end Go.Proofs.Ytkngogjcenmahaa.Print
