/- Lean functions that answer what Go functions of the translation answer, and the proofs of it. Written by a program of this session (wip/tools/seatprint.py), over contracts that it proved by hand. Conditions: those that each theorem says. -/
import Derived.Test.YtnippnpbnmkfbaaPrint0
import Derived.Test.YtnippnpbnmkfbaaPrint11
namespace Go.Proofs.Ytnippnpbnmkfbaa.Print
open Go.RowKit Go.Proofs.YtnippnpbnmkfbaaW.PrintWords Go.Proofs.YtnippnpbnmkfbaaW.PrintLast Go.Proofs.YtnippnpbnmkfbaaW.PrintMore
attribute [local go_sem] max2_int min2_int max_two min_two max_three min_three max_four min_four   -- for this text's walks alone
set_option linter.unusedVariables false
set_option linter.unusedSimpArgs false

/-! ### linhayref03_Floor: function 25 -/
def linhayref03_Floor.f (k : Nat) (a0 : Int) (a1 : Int) (a2 : Int) : Option (Int × Int) := (linhayref03_part.f k a0 a1 a2 0).bind fun bt187 => (some (bt187.1, bt187.2))
theorem linhayref03_Floor.mono : ∀ a0 a1 a2 k, LeO (linhayref03_Floor.f k a0 a1 a2) (linhayref03_Floor.f (k + 1) a0 a1 a2) := by
  intro a0 a1 a2 k
  unfold linhayref03_Floor.f
  repeat' first
      | (with_reducible exact linhayref03_part.mono _ _ _ _ _)
      | (with_reducible exact LeO.refl _)
      | (with_reducible exact LeO.none _)
      | (with_reducible refine LeO.ite ?_ ?_)
      | (with_reducible refine LeO.bind ?_ (fun _ => ?_))
      | exact linhayref03_part.mono _ _ _ _ _
      | exact LeO.none _
      | refine LeO.ite ?_ ?_
      | refine LeO.bind ?_ (fun _ => ?_)
set_option maxHeartbeats 8000000 in
set_option maxRecDepth 100000 in
theorem linhayref03_Floor.calls (k : Nat) (a0 : Int) (a1 : Int) (a2 : Int) (r1 : Int) (r2 : Int) (w : World) (h : linhayref03_Floor.f k a0 a1 a2 = some (r1, r2)) :
    Calls Try.prog 25 #[.int .u64 a0, .int .u64 a1, .int .u64 a2] w fun e w' => e = .returned (.tuple #[.int .u64 r1, .int .i64 r2]) ∧ Below w.heap.size w w' := by
  have HB := Aside0.mk (Below.refl w.heap.size w)
  have H : ((linhayref03_part.f k a0 a1 a2 0).bind fun bt187 => (some (bt187.1, bt187.2))) = some (r1, r2) := h
  clear h
  replace H := Option.bind_eq_some_iff.mp H
  obtain ⟨⟨t187, t188⟩, A40, H⟩ := H
  replace H : (some (t187, t188)) = some (r1, r2) := H
  have A4 := Aside0.mk A40
  clear A40
  simp only [Option.some.injEq, Prod.mk.injEq] at H
  obtain ⟨rfl, rfl⟩ := H
  go_enter Try.func25, Try.ntmps25
  go_wp2_with (first | ((with_reducible refine gate_callee (f := 37) rfl ?_); refine goesL_ (some 11) rfl rfl Try.func37 (by kernel_rfl) rfl #[.int .u64 a0, .int .u64 a1, .int .u64 a2, .int .u64 0] rfl (by (try simp only [List.map_toArray, List.map_cons, List.map_nil]); first | done | rfl | (simp only [List.length_drop, List.length_take]; rfl)) ?_; (with_reducible refine (linhayref03_part.calls k a0 a1 a2 0 t187 t188 _ A4.out).mono ?_); rintro e w5 ⟨rfl, hb⟩; refine ⟨_, rfl, ?_⟩; have n0_ := Aside0.mk (below_step (by repeat (first | (with_reducible first | exact HB.out | apply below_alloc | apply pw_below_drewN | apply below_drew1) | exact HB.out)) hb); clear HB; have HB := n0_; clear n0_; (try clear hb); (try clear hb2); (try clear hk); (try clear hi)) | (go_at_call 37; (with_reducible refine (linhayref03_part.calls k a0 a1 a2 0 t187 t188 _ A4.out).mono ?_); rintro e w5 ⟨rfl, hb⟩; have n0_ := Aside0.mk (below_step (by repeat (first | (with_reducible first | exact HB.out | apply below_alloc | apply pw_below_drewN | apply below_drew1) | exact HB.out)) hb); clear HB; have HB := n0_; clear n0_; (try clear hb); (try clear hb2); (try clear hk); (try clear hi)))
  go_ret2
  exact ⟨by first | rfl | (simp [errW_none, errW_some] <;> rfl) | (simp [*, errW_none, errW_some] <;> rfl), by repeat (first | (with_reducible first | exact HB.out | apply below_alloc | apply pw_below_drewN | apply below_drew1) | exact HB.out)⟩

/-! ### linhayref04_Of: function 11 -/
def linhayref04_Of.f (k : Nat) (a0 : Int) (a1 : Int) : Option (Int × Int) := (linhayref03_Floor.f k a0 4294967296 a1).bind fun bt189 => (some (bt189.1, bt189.2))
theorem linhayref04_Of.mono : ∀ a0 a1 k, LeO (linhayref04_Of.f k a0 a1) (linhayref04_Of.f (k + 1) a0 a1) := by
  intro a0 a1 k
  unfold linhayref04_Of.f
  repeat' first
      | (with_reducible exact linhayref03_Floor.mono _ _ _ _)
      | (with_reducible exact LeO.refl _)
      | (with_reducible exact LeO.none _)
      | (with_reducible refine LeO.ite ?_ ?_)
      | (with_reducible refine LeO.bind ?_ (fun _ => ?_))
      | exact linhayref03_Floor.mono _ _ _ _
      | exact LeO.none _
      | refine LeO.ite ?_ ?_
      | refine LeO.bind ?_ (fun _ => ?_)
set_option maxHeartbeats 8000000 in
set_option maxRecDepth 100000 in
theorem linhayref04_Of.calls (k : Nat) (a0 : Int) (a1 : Int) (r1 : Int) (r2 : Int) (w : World) (h : linhayref04_Of.f k a0 a1 = some (r1, r2)) :
    Calls Try.prog 11 #[.int .u64 a0, .int .u64 a1] w fun e w' => e = .returned (.tuple #[.int .u64 r1, .int .i64 r2]) ∧ Below w.heap.size w w' := by
  have HB := Aside0.mk (Below.refl w.heap.size w)
  have H : ((linhayref03_Floor.f k a0 4294967296 a1).bind fun bt189 => (some (bt189.1, bt189.2))) = some (r1, r2) := h
  clear h
  replace H := Option.bind_eq_some_iff.mp H
  obtain ⟨⟨t189, t190⟩, A30, H⟩ := H
  replace H : (some (t189, t190)) = some (r1, r2) := H
  have A3 := Aside0.mk A30
  clear A30
  simp only [Option.some.injEq, Prod.mk.injEq] at H
  obtain ⟨rfl, rfl⟩ := H
  go_enter Try.func11, Try.ntmps11
  go_wp2_with (first | ((with_reducible refine gate_callee (f := 25) rfl ?_); refine goesL_ (some 8) rfl rfl Try.func25 (by kernel_rfl) rfl #[.int .u64 a0, .int .u64 4294967296, .int .u64 a1] rfl (by (try simp only [List.map_toArray, List.map_cons, List.map_nil]); first | done | rfl | (simp only [List.length_drop, List.length_take]; rfl)) ?_; (with_reducible refine (linhayref03_Floor.calls k a0 4294967296 a1 t189 t190 _ A3.out).mono ?_); rintro e w4 ⟨rfl, hb⟩; refine ⟨_, rfl, ?_⟩; have n0_ := Aside0.mk (below_step (by repeat (first | (with_reducible first | exact HB.out | apply below_alloc | apply pw_below_drewN | apply below_drew1) | exact HB.out)) hb); clear HB; have HB := n0_; clear n0_; (try clear hb); (try clear hb2); (try clear hk); (try clear hi)) | (go_at_call 25; (with_reducible refine (linhayref03_Floor.calls k a0 4294967296 a1 t189 t190 _ A3.out).mono ?_); rintro e w4 ⟨rfl, hb⟩; have n0_ := Aside0.mk (below_step (by repeat (first | (with_reducible first | exact HB.out | apply below_alloc | apply pw_below_drewN | apply below_drew1) | exact HB.out)) hb); clear HB; have HB := n0_; clear n0_; (try clear hb); (try clear hb2); (try clear hk); (try clear hi)))
  go_ret2
  exact ⟨by first | rfl | (simp [errW_none, errW_some] <;> rfl) | (simp [*, errW_none, errW_some] <;> rfl), by repeat (first | (with_reducible first | exact HB.out | apply below_alloc | apply pw_below_drewN | apply below_drew1) | exact HB.out)⟩

/-! ### linhayref04_Div: function 13 -/
def linhayref04_Div.f (k : Nat) (a0 : Int) (a1 : Int) : Option (Int × Int) := (linhayref03_Floor.f k a0 4294967296 a1).bind fun bt191 => (some (bt191.1, bt191.2))
theorem linhayref04_Div.mono : ∀ a0 a1 k, LeO (linhayref04_Div.f k a0 a1) (linhayref04_Div.f (k + 1) a0 a1) := by
  intro a0 a1 k
  unfold linhayref04_Div.f
  repeat' first
      | (with_reducible exact linhayref03_Floor.mono _ _ _ _)
      | (with_reducible exact LeO.refl _)
      | (with_reducible exact LeO.none _)
      | (with_reducible refine LeO.ite ?_ ?_)
      | (with_reducible refine LeO.bind ?_ (fun _ => ?_))
      | exact linhayref03_Floor.mono _ _ _ _
      | exact LeO.none _
      | refine LeO.ite ?_ ?_
      | refine LeO.bind ?_ (fun _ => ?_)
set_option maxHeartbeats 8000000 in
set_option maxRecDepth 100000 in
theorem linhayref04_Div.calls (k : Nat) (a0 : Int) (a1 : Int) (r1 : Int) (r2 : Int) (w : World) (h : linhayref04_Div.f k a0 a1 = some (r1, r2)) :
    Calls Try.prog 13 #[.int .u64 a0, .int .u64 a1] w fun e w' => e = .returned (.tuple #[.int .u64 r1, .int .i64 r2]) ∧ Below w.heap.size w w' := by
  have HB := Aside0.mk (Below.refl w.heap.size w)
  have H : ((linhayref03_Floor.f k a0 4294967296 a1).bind fun bt191 => (some (bt191.1, bt191.2))) = some (r1, r2) := h
  clear h
  replace H := Option.bind_eq_some_iff.mp H
  obtain ⟨⟨t191, t192⟩, A30, H⟩ := H
  replace H : (some (t191, t192)) = some (r1, r2) := H
  have A3 := Aside0.mk A30
  clear A30
  simp only [Option.some.injEq, Prod.mk.injEq] at H
  obtain ⟨rfl, rfl⟩ := H
  go_enter Try.func13, Try.ntmps13
  go_wp2_with (first | ((with_reducible refine gate_callee (f := 25) rfl ?_); refine goesL_ (some 8) rfl rfl Try.func25 (by kernel_rfl) rfl #[.int .u64 a0, .int .u64 4294967296, .int .u64 a1] rfl (by (try simp only [List.map_toArray, List.map_cons, List.map_nil]); first | done | rfl | (simp only [List.length_drop, List.length_take]; rfl)) ?_; (with_reducible refine (linhayref03_Floor.calls k a0 4294967296 a1 t191 t192 _ A3.out).mono ?_); rintro e w4 ⟨rfl, hb⟩; refine ⟨_, rfl, ?_⟩; have n0_ := Aside0.mk (below_step (by repeat (first | (with_reducible first | exact HB.out | apply below_alloc | apply pw_below_drewN | apply below_drew1) | exact HB.out)) hb); clear HB; have HB := n0_; clear n0_; (try clear hb); (try clear hb2); (try clear hk); (try clear hi)) | (go_at_call 25; (with_reducible refine (linhayref03_Floor.calls k a0 4294967296 a1 t191 t192 _ A3.out).mono ?_); rintro e w4 ⟨rfl, hb⟩; have n0_ := Aside0.mk (below_step (by repeat (first | (with_reducible first | exact HB.out | apply below_alloc | apply pw_below_drewN | apply below_drew1) | exact HB.out)) hb); clear HB; have HB := n0_; clear n0_; (try clear hb); (try clear hb2); (try clear hk); (try clear hi)))
  go_ret2
  exact ⟨by first | rfl | (simp [errW_none, errW_some] <;> rfl) | (simp [*, errW_none, errW_some] <;> rfl), by repeat (first | (with_reducible first | exact HB.out | apply below_alloc | apply pw_below_drewN | apply below_drew1) | exact HB.out)⟩

/-! ### linhayref04_Mul: function 15 -/
def linhayref04_Mul.f (k : Nat) (a0 : Int) (a1 : Int) : Option (Int) := (linhayref03_Floor.f k a0 a1 4294967296).bind fun bt193 => (if bt193.2 = 0 then (some bt193.1) else (some 18446744073709551615))
theorem linhayref04_Mul.mono : ∀ a0 a1 k, LeO (linhayref04_Mul.f k a0 a1) (linhayref04_Mul.f (k + 1) a0 a1) := by
  intro a0 a1 k
  unfold linhayref04_Mul.f
  repeat' first
      | (with_reducible exact linhayref03_Floor.mono _ _ _ _)
      | (with_reducible exact LeO.refl _)
      | (with_reducible exact LeO.none _)
      | (with_reducible refine LeO.ite ?_ ?_)
      | (with_reducible refine LeO.bind ?_ (fun _ => ?_))
      | exact linhayref03_Floor.mono _ _ _ _
      | exact LeO.none _
      | refine LeO.ite ?_ ?_
      | refine LeO.bind ?_ (fun _ => ?_)
set_option maxHeartbeats 8000000 in
set_option maxRecDepth 100000 in
theorem linhayref04_Mul.calls (k : Nat) (a0 : Int) (a1 : Int) (r : Int) (w : World) (h : linhayref04_Mul.f k a0 a1 = some r) :
    Calls Try.prog 15 #[.int .u64 a0, .int .u64 a1] w fun e w' => e = .returned (.int .u64 r) ∧ Below w.heap.size w w' := by
  have HB := Aside0.mk (Below.refl w.heap.size w)
  have H : ((linhayref03_Floor.f k a0 a1 4294967296).bind fun bt193 => (if bt193.2 = 0 then (some bt193.1) else (some 18446744073709551615))) = some r := h
  clear h
  replace H := Option.bind_eq_some_iff.mp H
  obtain ⟨⟨t193, t194⟩, A30, H⟩ := H
  replace H : (if t194 = 0 then (some t193) else (some 18446744073709551615)) = some r := H
  have A3 := Aside0.mk A30
  clear A30
  by_cases c4 : t194 = 0
  · rw [if_pos c4] at H
    have c4b0 : (t194 == 0) = true := beq_iff_eq.mpr c4
    have c4b1 : (t194 != 0) = false := bne_eq_false_iff_eq.mpr c4
    clear c4
    obtain rfl := Option.some.inj H
    go_enter Try.func15, Try.ntmps15
    go_wp2_with (first | ((with_reducible refine gate_callee (f := 25) rfl ?_); refine goesL_ (some 10) rfl rfl Try.func25 (by kernel_rfl) rfl #[.int .u64 a0, .int .u64 a1, .int .u64 4294967296] rfl (by (try simp only [List.map_toArray, List.map_cons, List.map_nil]); first | done | rfl | (simp only [List.length_drop, List.length_take]; rfl)) ?_; (with_reducible refine (linhayref03_Floor.calls k a0 a1 4294967296 t193 t194 _ A3.out).mono ?_); rintro e w5 ⟨rfl, hb⟩; refine ⟨_, rfl, ?_⟩; have n0_ := Aside0.mk (below_step (by repeat (first | (with_reducible first | exact HB.out | apply below_alloc | apply pw_below_drewN | apply below_drew1) | exact HB.out)) hb); clear HB; have HB := n0_; clear n0_; (try clear hb); (try clear hb2); (try clear hk); (try clear hi)) | (go_at_call 25; (with_reducible refine (linhayref03_Floor.calls k a0 a1 4294967296 t193 t194 _ A3.out).mono ?_); rintro e w5 ⟨rfl, hb⟩; have n0_ := Aside0.mk (below_step (by repeat (first | (with_reducible first | exact HB.out | apply below_alloc | apply pw_below_drewN | apply below_drew1) | exact HB.out)) hb); clear HB; have HB := n0_; clear n0_; (try clear hb); (try clear hb2); (try clear hk); (try clear hi)))
    go_ret
    exact ⟨by first | rfl | (simp [errW_none, errW_some] <;> rfl) | (simp [*, errW_none, errW_some] <;> rfl), by repeat (first | (with_reducible first | exact HB.out | apply below_alloc | apply pw_below_drewN | apply below_drew1) | exact HB.out)⟩
  · rw [if_neg c4] at H
    have c4b0 : (t194 == 0) = false := beq_eq_false_iff_ne.mpr c4
    have c4b1 : (t194 != 0) = true := bne_iff_ne.mpr c4
    obtain rfl := Option.some.inj H
    go_enter Try.func15, Try.ntmps15
    go_wp2_with (first | ((with_reducible refine gate_callee (f := 25) rfl ?_); refine goesL_ (some 10) rfl rfl Try.func25 (by kernel_rfl) rfl #[.int .u64 a0, .int .u64 a1, .int .u64 4294967296] rfl (by (try simp only [List.map_toArray, List.map_cons, List.map_nil]); first | done | rfl | (simp only [List.length_drop, List.length_take]; rfl)) ?_; (with_reducible refine (linhayref03_Floor.calls k a0 a1 4294967296 t193 t194 _ A3.out).mono ?_); rintro e w6 ⟨rfl, hb⟩; refine ⟨_, rfl, ?_⟩; have n0_ := Aside0.mk (below_step (by repeat (first | (with_reducible first | exact HB.out | apply below_alloc | apply pw_below_drewN | apply below_drew1) | exact HB.out)) hb); clear HB; have HB := n0_; clear n0_; (try clear hb); (try clear hb2); (try clear hk); (try clear hi)) | (go_at_call 25; (with_reducible refine (linhayref03_Floor.calls k a0 a1 4294967296 t193 t194 _ A3.out).mono ?_); rintro e w6 ⟨rfl, hb⟩; have n0_ := Aside0.mk (below_step (by repeat (first | (with_reducible first | exact HB.out | apply below_alloc | apply pw_below_drewN | apply below_drew1) | exact HB.out)) hb); clear HB; have HB := n0_; clear n0_; (try clear hb); (try clear hb2); (try clear hk); (try clear hi)))
    go_ret
    exact ⟨by first | rfl | (simp [errW_none, errW_some] <;> rfl) | (simp [*, errW_none, errW_some] <;> rfl), by repeat (first | (with_reducible first | exact HB.out | apply below_alloc | apply pw_below_drewN | apply below_drew1) | exact HB.out)⟩

/-! ### linhayref04_Whole: function 17 -/
def linhayref04_Whole.f (a0 : Int) : Option (Int) := some (IntKind.u64.wrap (Int.tdiv a0 4294967296))
set_option maxHeartbeats 8000000 in
set_option maxRecDepth 100000 in
theorem linhayref04_Whole.calls (a0 : Int) (r : Int) (w : World) (h : linhayref04_Whole.f a0 = some r) :
    Calls Try.prog 17 #[.int .u64 a0] w fun e w' => e = .returned (.int .u64 r) ∧ Drawn0 w w' := by
  have H : (some (IntKind.u64.wrap (Int.tdiv a0 4294967296))) = some r := h
  clear h
  obtain rfl := Option.some.inj H
  go_enter Try.func17, Try.ntmps17
  go_wp2
  go_ret
  exact ⟨by first | rfl | (simp; done) | (simp [*]; done), by repeat (first | exact Drawn0.refl _ | apply Drawn0.step)⟩

/-! ### linhayref04_Part: function 19 -/
def linhayref04_Part.f (a0 : Int) : Option (Int) := some (Int.tmod a0 4294967296)
set_option maxHeartbeats 8000000 in
set_option maxRecDepth 100000 in
theorem linhayref04_Part.calls (a0 : Int) (r : Int) (w : World) (h : linhayref04_Part.f a0 = some r) :
    Calls Try.prog 19 #[.int .u64 a0] w fun e w' => e = .returned (.int .u64 r) ∧ Drawn0 w w' := by
  have H : (some (Int.tmod a0 4294967296)) = some r := h
  clear h
  obtain rfl := Option.some.inj H
  go_enter Try.func19, Try.ntmps19
  go_wp2
  go_ret
  exact ⟨by first | rfl | (simp; done) | (simp [*]; done), by repeat (first | exact Drawn0.refl _ | apply Drawn0.step)⟩

end Go.Proofs.Ytnippnpbnmkfbaa.Print
