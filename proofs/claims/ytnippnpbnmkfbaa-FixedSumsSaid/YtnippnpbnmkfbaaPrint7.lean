/- Lean functions that answer what Go functions of the translation answer, and the proofs of it. Written by a program of this session (wip/tools/seatprint.py), over contracts that it proved by hand. Conditions: those that each theorem says. -/
import Derived.Test.YtnippnpbnmkfbaaPrint0
import Derived.Test.YtnippnpbnmkfbaaPrint1
import Derived.Test.YtnippnpbnmkfbaaPrint5
import Derived.Test.YtnippnpbnmkfbaaPrint6
namespace Go.Proofs.Ytnippnpbnmkfbaa.Print
open Go.RowKit Go.Proofs.YtnippnpbnmkfbaaW.PrintWords Go.Proofs.YtnippnpbnmkfbaaW.PrintLast Go.Proofs.YtnippnpbnmkfbaaW.PrintMore
attribute [local go_sem] max2_int min2_int max_two min_two max_three min_three max_four min_four   -- for this text's walks alone
set_option linter.unusedVariables false
set_option linter.unusedSimpArgs false

/-! ### fixed_Mix: function 20 -/
def fixed_Mix.f (k : Nat) (a0 : Int) (a1 : Int) (a2 : Int) : Option (Int) := (wide_Mul.f a0 (IntKind.u64.wrap (4294967296 - (mn a2 4294967296)))).bind fun bt141 => ((wide_Mul.f a1 (mn a2 4294967296)).bind fun bt143 => ((fixed_Mix_1.f bt141.1 bt141.2 bt143.1 bt143.2).bind fun bt145 => ((wide_Shr.f k bt145.1 bt145.2 32).bind fun bt147 => (some bt147.2))))
theorem fixed_Mix.mono : ∀ a0 a1 a2 k, LeO (fixed_Mix.f k a0 a1 a2) (fixed_Mix.f (k + 1) a0 a1 a2) := by
  intro a0 a1 a2 k
  unfold fixed_Mix.f
  repeat' first
      | (with_reducible exact wide_Shr.mono _ _ _ _)
      | (with_reducible exact LeO.refl _)
      | (with_reducible exact LeO.none _)
      | (with_reducible refine LeO.ite ?_ ?_)
      | (with_reducible refine LeO.bind ?_ (fun _ => ?_))
      | exact wide_Shr.mono _ _ _ _
      | exact LeO.none _
      | refine LeO.ite ?_ ?_
      | refine LeO.bind ?_ (fun _ => ?_)
set_option maxHeartbeats 8000000 in
set_option maxRecDepth 100000 in
theorem fixed_Mix.calls (k : Nat) (a0 : Int) (a1 : Int) (a2 : Int) (r : Int) (w : World) (h : fixed_Mix.f k a0 a1 a2 = some r) :
    Calls Try.prog 20 #[.int .u64 a0, .int .u64 a1, .int .u64 a2] w fun e w' => e = .returned (.int .u64 r) ∧ Below w.heap.size w w' := by
  have HB := Aside0.mk (Below.refl w.heap.size w)
  have H : ((wide_Mul.f a0 (IntKind.u64.wrap (4294967296 - (mn a2 4294967296)))).bind fun bt141 => ((wide_Mul.f a1 (mn a2 4294967296)).bind fun bt143 => ((fixed_Mix_1.f bt141.1 bt141.2 bt143.1 bt143.2).bind fun bt145 => ((wide_Shr.f k bt145.1 bt145.2 32).bind fun bt147 => (some bt147.2))))) = some r := h
  clear h
  obtain ⟨ji4, hji4⟩ : ∃ j_ : Int, (mn a2 4294967296) = j_ := ⟨_, rfl⟩
  replace H : ((wide_Mul.f a0 (IntKind.u64.wrap (4294967296 - (ji4)))).bind fun bt141 => ((wide_Mul.f a1 (ji4)).bind fun bt143 => ((fixed_Mix_1.f bt141.1 bt141.2 bt143.1 bt143.2).bind fun bt145 => ((wide_Shr.f k bt145.1 bt145.2 32).bind fun bt147 => (some bt147.2))))) = some r := by first | (rw [hji4] at H; exact H) | (simp only [hji4] at H ⊢; exact H)
  (try (have hji4h : ji4 ≤ 4294967296 := by (rw [← hji4]; unfold mn; (repeat' split) <;> omega)))
  (try (have hji4g : ji4 ≤ 64 := by omega))
  have hji4_ : (if 4294967296 < a2 then 4294967296 else a2) = ji4 := hji4
  replace H := Option.bind_eq_some_iff.mp H
  obtain ⟨⟨t141, t142⟩, A50, H⟩ := H
  replace H : ((wide_Mul.f a1 (ji4)).bind fun bt143 => ((fixed_Mix_1.f t141 t142 bt143.1 bt143.2).bind fun bt145 => ((wide_Shr.f k bt145.1 bt145.2 32).bind fun bt147 => (some bt147.2)))) = some r := H
  have A5 := Aside0.mk A50
  clear A50
  replace H := Option.bind_eq_some_iff.mp H
  obtain ⟨⟨t143, t144⟩, A60, H⟩ := H
  replace H : ((fixed_Mix_1.f t141 t142 t143 t144).bind fun bt145 => ((wide_Shr.f k bt145.1 bt145.2 32).bind fun bt147 => (some bt147.2))) = some r := H
  have A6 := Aside0.mk A60
  clear A60
  replace H := Option.bind_eq_some_iff.mp H
  obtain ⟨⟨t145, t146⟩, A70, H⟩ := H
  replace H : ((wide_Shr.f k t145 t146 32).bind fun bt147 => (some bt147.2)) = some r := H
  have A7 := Aside0.mk A70
  clear A70
  replace H := Option.bind_eq_some_iff.mp H
  obtain ⟨⟨t147, t148⟩, A80, H⟩ := H
  replace H : (some t148) = some r := H
  have A8 := Aside0.mk A80
  clear A80
  obtain rfl := Option.some.inj H
  have hfld_43_1 : ∀ (c0 c1 : Value) (w : World), (Instr.field 43 (.agg #[c0, c1]) 1).run Try.prog w = .ok c1 w := fun _ _ _ => by kernel_rfl
  go_enter Try.func20, Try.ntmps20
  go_wp2_with (first | ((with_reducible refine gate_callee (f := 29) rfl ?_); refine goesL_ (some 14) rfl rfl Try.func29 (by kernel_rfl) rfl #[.int .u64 a0, .int .u64 (IntKind.u64.wrap (4294967296 - (ji4)))] rfl (by (try simp only [List.map_toArray, List.map_cons, List.map_nil]); first | done | (simp only [hji4]; rfl) | rfl | (simp only [List.length_drop, List.length_take]; rfl)) ?_; (with_reducible refine (wide_Mul.calls a0 (IntKind.u64.wrap (4294967296 - (ji4))) t141 t142 _ A5.out).mono ?_); rintro e w9 ⟨rfl, hb⟩; refine ⟨_, rfl, ?_⟩; have n0_ := Aside0.mk (below_step (by repeat (first | (with_reducible first | exact HB.out | apply below_alloc | apply pw_below_drewN | apply below_drew1) | exact HB.out)) hb); clear HB; have HB := n0_; clear n0_; (try clear hb); (try clear hb2); (try clear hk); (try clear hi)) | ((with_reducible refine gate_callee (f := 29) rfl ?_); refine goesL_ (some 17) rfl rfl Try.func29 (by kernel_rfl) rfl #[.int .u64 a1, .int .u64 ji4] rfl (by (try simp only [List.map_toArray, List.map_cons, List.map_nil]); first | done | (simp only [hji4]; rfl) | rfl | (simp only [List.length_drop, List.length_take]; rfl)) ?_; (with_reducible refine (wide_Mul.calls a1 ji4 t143 t144 _ A6.out).mono ?_); rintro e w10 ⟨rfl, hb⟩; refine ⟨_, rfl, ?_⟩; have n0_ := Aside0.mk (below_step (by repeat (first | (with_reducible first | exact HB.out | apply below_alloc | apply pw_below_drewN | apply below_drew1) | exact HB.out)) hb); clear HB; have HB := n0_; clear n0_; (try clear hb); (try clear hb2); (try clear hk); (try clear hi)) | ((with_reducible refine gate_callee (f := 26) rfl ?_); refine goesL_ (some 18) rfl rfl Try.func26 (by kernel_rfl) rfl #[.agg #[.int .u64 t141, .int .u64 t142], .agg #[.int .u64 t143, .int .u64 t144]] rfl (by (try simp only [List.map_toArray, List.map_cons, List.map_nil]); first | done | rfl | (simp only [List.length_drop, List.length_take]; rfl)) ?_; (with_reducible refine (fixed_Mix_1.calls t141 t142 t143 t144 t145 t146 _ A7.out).mono ?_); rintro e w11 ⟨rfl, hb⟩; refine ⟨_, rfl, ?_⟩; have n0_ := Aside0.mk (below_step (by repeat (first | (with_reducible first | exact HB.out | apply below_alloc | apply pw_below_drewN | apply below_drew1) | exact HB.out)) hb); clear HB; have HB := n0_; clear n0_; (try clear hb); (try clear hb2); (try clear hk); (try clear hi)) | ((with_reducible refine gate_callee (f := 28) rfl ?_); refine goesL_ (some 19) rfl rfl Try.func28 (by kernel_rfl) rfl #[.agg #[.int .u64 t145, .int .u64 t146], .int .u64 32] rfl (by (try simp only [List.map_toArray, List.map_cons, List.map_nil]); first | done | rfl | (simp only [List.length_drop, List.length_take]; rfl)) ?_; (with_reducible refine (wide_Shr.calls k t145 t146 32 t147 t148 _ A8.out).mono ?_); rintro e w12 ⟨rfl, hb⟩; refine ⟨_, rfl, ?_⟩; have n0_ := Aside0.mk (below_step (by repeat (first | (with_reducible first | exact HB.out | apply below_alloc | apply pw_below_drewN | apply below_drew1) | exact HB.out)) hb); clear HB; have HB := n0_; clear n0_; (try clear hb); (try clear hb2); (try clear hk); (try clear hi)) | (go_at_call 29; (with_reducible refine (wide_Mul.calls a0 (IntKind.u64.wrap (4294967296 - (ji4))) t141 t142 _ A5.out).mono ?_); rintro e w9 ⟨rfl, hb⟩; have n0_ := Aside0.mk (below_step (by repeat (first | (with_reducible first | exact HB.out | apply below_alloc | apply pw_below_drewN | apply below_drew1) | exact HB.out)) hb); clear HB; have HB := n0_; clear n0_; (try clear hb); (try clear hb2); (try clear hk); (try clear hi)) | (go_at_call 29; (with_reducible refine (wide_Mul.calls a1 ji4 t143 t144 _ A6.out).mono ?_); rintro e w10 ⟨rfl, hb⟩; have n0_ := Aside0.mk (below_step (by repeat (first | (with_reducible first | exact HB.out | apply below_alloc | apply pw_below_drewN | apply below_drew1) | exact HB.out)) hb); clear HB; have HB := n0_; clear n0_; (try clear hb); (try clear hb2); (try clear hk); (try clear hi)) | (go_at_call 26; (with_reducible refine (fixed_Mix_1.calls t141 t142 t143 t144 t145 t146 _ A7.out).mono ?_); rintro e w11 ⟨rfl, hb⟩; have n0_ := Aside0.mk (below_step (by repeat (first | (with_reducible first | exact HB.out | apply below_alloc | apply pw_below_drewN | apply below_drew1) | exact HB.out)) hb); clear HB; have HB := n0_; clear n0_; (try clear hb); (try clear hb2); (try clear hk); (try clear hi)) | (go_at_call 28; (with_reducible refine (wide_Shr.calls k t145 t146 32 t147 t148 _ A8.out).mono ?_); rintro e w12 ⟨rfl, hb⟩; have n0_ := Aside0.mk (below_step (by repeat (first | (with_reducible first | exact HB.out | apply below_alloc | apply pw_below_drewN | apply below_drew1) | exact HB.out)) hb); clear HB; have HB := n0_; clear n0_; (try clear hb); (try clear hb2); (try clear hk); (try clear hi)))
  go_ret
  exact ⟨by first | rfl | (simp [errW_none, errW_some] <;> rfl) | (simp only [← hji4]; first | rfl | (simp [errW_none, errW_some] <;> rfl)) | (simp [*, errW_none, errW_some] <;> rfl), by repeat (first | (with_reducible first | exact HB.out | apply below_alloc | apply pw_below_drewN | apply below_drew1) | exact HB.out)⟩

/-! ### word_Plus: function 42 -/
theorem add64_zero (x y : Int) (hx : 0 ≤ x) (hy : 0 ≤ y) (w : World) : (callFunc 38 #[.int .u64 x, .int .u64 y, .int .u64 0]).run Try.prog w =
    .ok (.value (.tuple #[.int .u64 ((x + y) % 18446744073709551616), .int .u64 ((x + y) / 18446744073709551616)])) w := by
  rw [run_callFunc_extern Try.func38 (by kernel_rfl) (by kernel_rfl) (by kernel_rfl) (e := add64Entry) (by kernel_rfl), run_add64 x y 0 hx hy (Int.le_refl 0) (by decide)]
  simp only [Result.andThen, Int.add_zero]
def word_Plus.f (a0 a1 : Int) : Option (Int × Int) := if 0 ≤ a0 then (if 0 ≤ a1 then (if a0 + a1 < 18446744073709551616 then some (a0 + a1, 0) else some (0, 10)) else none) else none
set_option maxHeartbeats 1000000 in
theorem word_Plus.calls (a0 : Int) (a1 : Int) (r1 : Int) (r2 : Int) (w : World) (h : word_Plus.f a0 a1 = some (r1, r2)) :
    Calls Try.prog 42 #[.int .u64 a0, .int .u64 a1] w fun e w' => e = .returned (.tuple #[.int .u64 r1, .int .i64 r2]) ∧ Drawn0 w w' := by
  unfold word_Plus.f at h
  by_cases h0 : 0 ≤ a0
  · by_cases h1 : 0 ≤ a1
    · rw [if_pos h0, if_pos h1] at h
      by_cases hc : a0 + a1 < 18446744073709551616
      · rw [if_pos hc] at h
        simp only [Option.some.injEq, Prod.mk.injEq] at h
        obtain ⟨rfl, rfl⟩ := h
        have e1 : (a0 + a1) % 18446744073709551616 = a0 + a1 := by omega
        have e2 : (a0 + a1) / 18446744073709551616 = 0 := by omega
        have hz := add64_zero a0 a1 h0 h1
        rw [e1, e2] at hz
        clear e1 e2 hc
        go_enter Try.func42, Try.ntmps42
        go_wp2_with (first | simp only [hz])
        go_ret2
        exact ⟨rfl, Drawn0.refl _⟩
      · rw [if_neg hc] at h
        simp only [Option.some.injEq, Prod.mk.injEq] at h
        obtain ⟨rfl, rfl⟩ := h
        have hz := add64_zero a0 a1 h0 h1
        have e2 : 0 < (a0 + a1) / 18446744073709551616 := by omega
        obtain ⟨c, hc'⟩ : ∃ c, c = (a0 + a1) / 18446744073709551616 := ⟨_, rfl⟩
        rw [← hc'] at hz e2
        obtain ⟨s, hs'⟩ : ∃ s, s = (a0 + a1) % 18446744073709551616 := ⟨_, rfl⟩
        rw [← hs'] at hz
        clear hc hc' hs'
        go_enter Try.func42, Try.ntmps42
        go_wp2_with (first | simp only [hz])
        go_ret2
        exact ⟨rfl, Drawn0.refl _⟩
    · rw [if_pos h0, if_neg h1] at h; cases h
  · rw [if_neg h0] at h; cases h

/-! ### word_held_uint64: function 43 -/
def word_held_uint64.f (a0 : Int) (a1 : Int) (a2 : Bool) : Option (Int) := if a2 = true then (some a1) else (some a0)
set_option maxHeartbeats 8000000 in
set_option maxRecDepth 100000 in
theorem word_held_uint64.calls (a0 : Int) (a1 : Int) (a2 : Bool) (r : Int) (w : World) (h : word_held_uint64.f a0 a1 a2 = some r) :
    Calls Try.prog 43 #[.int .u64 a0, .int .u64 a1, .bool a2] w fun e w' => e = .returned (.int .u64 r) ∧ Drawn0 w w' := by
  have H : (if a2 = true then (some a1) else (some a0)) = some r := h
  clear h
  by_cases c4 : a2 = true
  · subst c4
    have H1 : (some a1) = some r := by rw [if_pos rfl] at H; exact H
    clear H
    have H := H1
    clear H1
    obtain rfl := Option.some.inj H
    go_enter Try.func43, Try.ntmps43
    go_wp2
    go_ret
    exact ⟨by first | rfl | (simp; done) | (simp [*]; done), by repeat (first | exact Drawn0.refl _ | apply Drawn0.step)⟩
  · replace c4 := Bool.eq_false_iff.mpr c4
    subst c4
    have H1 : (some a0) = some r := by rw [if_neg (show ¬ (false = true) by decide)] at H; exact H
    clear H
    have H := H1
    clear H1
    obtain rfl := Option.some.inj H
    go_enter Try.func43, Try.ntmps43
    go_wp2
    go_ret
    exact ⟨by first | rfl | (simp; done) | (simp [*]; done), by repeat (first | exact Drawn0.refl _ | apply Drawn0.step)⟩

/-! ### word_Add: function 33 -/
def word_Add.f (a0 : Int) (a1 : Int) : Option (Int) := (word_Plus.f a0 a1).bind fun bt149 => ((word_held_uint64.f bt149.1 18446744073709551615 (bt149.2 != 0)).bind fun t151 => (some t151))
set_option maxHeartbeats 8000000 in
set_option maxRecDepth 100000 in
theorem word_Add.calls (a0 : Int) (a1 : Int) (r : Int) (w : World) (h : word_Add.f a0 a1 = some r) :
    Calls Try.prog 33 #[.int .u64 a0, .int .u64 a1] w fun e w' => e = .returned (.int .u64 r) ∧ Drawn0 w w' := by
  have H : ((word_Plus.f a0 a1).bind fun bt149 => ((word_held_uint64.f bt149.1 18446744073709551615 (bt149.2 != 0)).bind fun t151 => (some t151))) = some r := h
  clear h
  replace H := Option.bind_eq_some_iff.mp H
  obtain ⟨⟨t149, t150⟩, A30, H⟩ := H
  replace H : ((word_held_uint64.f t149 18446744073709551615 (t150 != 0)).bind fun t151 => (some t151)) = some r := H
  have A3 := Aside0.mk A30
  clear A30
  replace H := Option.bind_eq_some_iff.mp H
  obtain ⟨t151, A40, H⟩ := H
  replace H : (some t151) = some r := H
  have A4 := Aside0.mk A40
  clear A40
  obtain rfl := Option.some.inj H
  go_enter Try.func33, Try.ntmps33
  go_wp2_with (first | ((with_reducible refine gate_callee (f := 42) rfl ?_); refine goesL_ (some 10) rfl rfl Try.func42 (by kernel_rfl) rfl #[.int .u64 a0, .int .u64 a1] rfl (by (try simp only [List.map_toArray, List.map_cons, List.map_nil]); first | done | rfl | (simp only [List.length_drop, List.length_take]; rfl)) ?_; (with_reducible refine (word_Plus.calls a0 a1 t149 t150 _ A3.out).mono ?_); rintro e w' ⟨rfl, ⟨nd, rfl⟩⟩; refine ⟨_, rfl, ?_⟩) | ((with_reducible refine gate_callee (f := 43) rfl ?_); refine goesL_ (some 16) rfl rfl Try.func43 (by kernel_rfl) rfl #[.int .u64 t149, .int .u64 18446744073709551615, .bool (t150 != 0)] rfl (by (try simp only [List.map_toArray, List.map_cons, List.map_nil]); first | done | rfl | (simp only [List.length_drop, List.length_take]; rfl)) ?_; (with_reducible refine (word_held_uint64.calls t149 18446744073709551615 (t150 != 0) t151 _ A4.out).mono ?_); rintro e w' ⟨rfl, ⟨nd, rfl⟩⟩; refine ⟨_, rfl, ?_⟩) | (go_at_call 42; (with_reducible refine (word_Plus.calls a0 a1 t149 t150 _ A3.out).mono ?_); rintro e w' ⟨rfl, ⟨nd, rfl⟩⟩) | (go_at_call 43; (with_reducible refine (word_held_uint64.calls t149 18446744073709551615 (t150 != 0) t151 _ A4.out).mono ?_); rintro e w' ⟨rfl, ⟨nd, rfl⟩⟩))
  go_ret
  exact ⟨by first | rfl | (simp; done) | (simp [*]; done), by repeat (first | exact Drawn0.refl _ | apply Drawn0.step)⟩

/-! ### fixed_Sum: function 22 -/
def fixed_Sum.l0 : Nat → Int → List Int → Int → Int → Option (Int)
  | 0, _, _, _, _ => none
  | k + 1, x3, x6, x7, x8 => if x8 < x7 then (if 0 ≤ x8 then (if x8 < (x6.length : Int) then ((word_Add.f x3 (rd x6 x8)).bind fun t153 => (fixed_Sum.l0 k t153 x6 x7 (wrap64 (x8 + 1)))) else (none)) else (none)) else (some x3)
def fixed_Sum.f (k : Nat) (l0 : List Int) : Option (Int) := fixed_Sum.l0 k 0 l0 (l0.length : Int) 0
theorem fixed_Sum.mono_l : ∀ k, (∀ y0 y1 y2 y3, LeO (fixed_Sum.l0 k y0 y1 y2 y3) (fixed_Sum.l0 (k + 1) y0 y1 y2 y3))
  | 0 => fun _ _ _ _ r h => by simp [fixed_Sum.l0] at h
  | k + 1 => by
    have ih0 := fixed_Sum.mono_l k
    · intro y0 y1 y2 y3
      unfold fixed_Sum.l0
      repeat' first
      | (with_reducible exact ih0 _ _ _ _)
      | (with_reducible exact LeO.refl _)
      | (with_reducible exact LeO.none _)
      | (with_reducible refine LeO.ite ?_ ?_)
      | (with_reducible refine LeO.bind ?_ (fun _ => ?_))
      | exact ih0 _ _ _ _
      | exact LeO.none _
      | refine LeO.ite ?_ ?_
      | refine LeO.bind ?_ (fun _ => ?_)
theorem fixed_Sum.mono : ∀ a0 k, LeO (fixed_Sum.f k a0) (fixed_Sum.f (k + 1) a0) := by
  intro a0 k
  have ih0 := fixed_Sum.mono_l k
  unfold fixed_Sum.f
  repeat' first
      | (with_reducible exact ih0 _ _ _ _)
      | (with_reducible exact LeO.refl _)
      | (with_reducible exact LeO.none _)
      | (with_reducible refine LeO.ite ?_ ?_)
      | (with_reducible refine LeO.bind ?_ (fun _ => ?_))
      | exact ih0 _ _ _ _
      | exact LeO.none _
      | refine LeO.ite ?_ ?_
      | refine LeO.bind ?_ (fun _ => ?_)
set_option maxHeartbeats 8000000 in
set_option maxRecDepth 100000 in
theorem fixed_Sum.calls (k : Nat) (A0 : Option Addr) (c0 : Nat) (l0 : List Int) (r : Int) (w : World) (hr0 : Kd.C (Kd.int .u64) w A0 l0.length l0) (hc0 : l0.length ≤ c0) (h : fixed_Sum.f k l0 = some r) :
    Calls Try.prog 22 #[.slice A0 l0.length c0] w fun e w' => e = .returned (.int .u64 r) ∧ Drawn0 w w' := by
  have HR0 := Aside0.mk hr0
  have HC0 := Aside0.mk hc0
  clear hr0 hc0
  have H : (fixed_Sum.l0 k 0 l0 (l0.length : Int) 0) = some r := h
  clear h
  have H' := Aside0.mk H
  clear H
  go_enter Try.func22, Try.ntmps22
  go_wp2
  go_loopg [3, 8] k (fun kq v3 v8 w' => ∃ (x3_1 : Int) (x8_1 : Int), v3 = .int .u64 x3_1 ∧ v8 = .int .i64 x8_1 ∧ Aside0 (fixed_Sum.l0 kq x3_1 l0 (l0.length : Int) x8_1 = some r) ∧ Aside0 (kq ≤ k) ∧ Drawn0 w w')
  case atStart => exact ⟨(0), (0), (by first | rfl | (simp; done) | (simp [*]; done)), (by first | rfl | (simp; done) | (simp [*]; done)), H', ⟨Nat.le_refl _⟩, by repeat (first | exact Drawn0.refl _ | apply Drawn0.step)⟩
  case round =>
    clear H'
    obtain ⟨x3_1, x8_1, rfl, rfl, HA, HK1, ⟨m1, rfl⟩⟩ := hrel
    cases gk with
    | zero => exact absurd HA.out (by simp [fixed_Sum.l0])
    | succ k1 =>
      have H := HA.out
      clear HA
      simp only [fixed_Sum.l0] at H
      by_cases c2 : x8_1 < (l0.length : Int)
      · rw [if_pos c2] at H
        have c2b0 : decide (x8_1 < (l0.length : Int)) = true := decide_eq_true c2
        clear c2
        by_cases c3 : 0 ≤ x8_1
        · rw [if_pos c3] at H
          have c3b0 : decide (0 ≤ x8_1) = true := decide_eq_true c3
          clear c3
          by_cases c4 : x8_1 < (l0.length : Int)
          · rw [if_pos c4] at H
            have c4b0 : decide (x8_1 < (l0.length : Int)) = true := decide_eq_true c4
            clear c4
            replace H := Option.bind_eq_some_iff.mp H
            obtain ⟨t153, A50, H⟩ := H
            replace H : (fixed_Sum.l0 k1 t153 l0 (l0.length : Int) (wrap64 (x8_1 + 1))) = some r := H
            have A5 := Aside0.mk A50
            clear A50
            have H' := Aside0.mk H
            clear H
            have p152 : 0 ≤ (x8_1 : Int) := of_decide_eq_true (by first | (with_reducible assumption) | assumption)
            have q152 : x8_1 < (l0.length : Int) := of_decide_eq_true (by first | (with_reducible assumption) | assumption)
            obtain ⟨ad152, e152, hx152_0⟩ := Kd.at_int HR0.out x8_1 p152 q152
            cases e152
            replace p152 := eq_true p152
            replace q152 := eq_true q152
            go_wp2_with (first | ((with_reducible refine gate_callee (f := 33) rfl ?_); refine goesL_ (some 14) rfl rfl Try.func33 (by kernel_rfl) rfl #[.int .u64 x3_1, .int .u64 (rd l0 x8_1)] rfl (by (try simp only [List.map_toArray, List.map_cons, List.map_nil]); first | done | rfl | (simp only [List.length_drop, List.length_take]; rfl)) ?_; (with_reducible refine (word_Add.calls x3_1 (rd l0 x8_1) t153 _ A5.out).mono ?_); rintro e w' ⟨rfl, ⟨nd, rfl⟩⟩; refine ⟨_, rfl, ?_⟩) | (go_at_call 33; (with_reducible refine (word_Add.calls x3_1 (rd l0 x8_1) t153 _ A5.out).mono ?_); rintro e w' ⟨rfl, ⟨nd, rfl⟩⟩))
            go_roundg k1
            case measure => have := HK1.out; omega
            case rel => exact ⟨(t153), (wrap64 (x8_1 + 1)), (by first | rfl | (simp; done) | (simp [*]; done)), (by first | rfl | (simp; done) | (simp [*]; done)), H', ⟨by have := HK1.out; omega⟩, by repeat (first | exact Drawn0.refl _ | apply Drawn0.step)⟩
          · rw [if_neg c4] at H
            exact absurd H (by simp)
        · rw [if_neg c3] at H
          exact absurd H (by simp)
      · rw [if_neg c2] at H
        have c2b0 : decide (x8_1 < (l0.length : Int)) = false := decide_eq_false c2
        clear c2
        obtain rfl := Option.some.inj H
        go_wp2
        go_ret
        exact ⟨by first | rfl | (simp; done) | (simp [*]; done), by repeat (first | exact Drawn0.refl _ | apply Drawn0.step)⟩

end Go.Proofs.Ytnippnpbnmkfbaa.Print
