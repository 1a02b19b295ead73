/- Lean functions that answer what Go functions of the translation answer, and the proofs of it. Written by a program of this session (wip/tools/seatprint.py), over contracts that it proved by hand. Conditions: those that each theorem says. -/
import Derived.Test.YthpkiacaemhkkaaDoorPrint0
import Derived.Test.YthpkiacaemhkkaaDoorPrint1
import Derived.Test.YthpkiacaemhkkaaDoorPrint3
import Derived.Test.YthpkiacaemhkkaaDoorPrint4
namespace Go.Proofs.YthpkiacaemhkkaaDoor.Print
open Go.RowKit Go.Proofs.YthpkiacaemhkkaaDoorW.PrintWords Go.Proofs.YthpkiacaemhkkaaDoorW.PrintLast Go.Proofs.YthpkiacaemhkkaaDoorW.PrintMore
attribute [local go_sem] max2_int min2_int max_two min_two max_three min_three max_four min_four   -- for this text's walks alone
set_option linter.unusedVariables false
set_option linter.unusedSimpArgs false

/-! ### linhaylaw05_ExpoTells: function 3 -/
def linhaylaw05_ExpoTells.f (k : Nat) (a0 : Int) (a1 : Int) (a2 : Int) (a3 : Int) : Option (Bool) := (linhaylaw05_awake.f k).bind fun t172 => ((linhayref05_Ratio.f k a1 a2).bind fun t173 => (if t172 = true then ((expo_Of.f k a0).bind fun t174 => ((linhayref05_Of.f k a0).bind fun t175 => (if t174 = t175 then ((expo_Ratio.f k a1 a2).bind fun t176 => ((linhayref05_Ratio.f k a1 a2).bind fun t177 => (if t176 = t177 then ((expo_Below.f k a3 a1 a2).bind fun t178 => (some (t178 == (decide ((IntKind.u64.wrap (a3)) < t173))))) else (none)))) else (none)))) else (none)))
theorem linhaylaw05_ExpoTells.mono : ∀ a0 a1 a2 a3 k, LeO (linhaylaw05_ExpoTells.f k a0 a1 a2 a3) (linhaylaw05_ExpoTells.f (k + 1) a0 a1 a2 a3) := by
  intro a0 a1 a2 a3 k
  unfold linhaylaw05_ExpoTells.f
  repeat' first
      | (with_reducible exact expo_Below.mono _ _ _ _)
      | (with_reducible exact expo_Of.mono _ _)
      | (with_reducible exact expo_Ratio.mono _ _ _)
      | (with_reducible exact linhaylaw05_awake.mono _)
      | (with_reducible exact linhayref05_Of.mono _ _)
      | (with_reducible exact linhayref05_Ratio.mono _ _ _)
      | (with_reducible exact LeO.refl _)
      | (with_reducible exact LeO.none _)
      | (with_reducible refine LeO.ite ?_ ?_)
      | (with_reducible refine LeO.bind ?_ (fun _ => ?_))
      | exact expo_Below.mono _ _ _ _
      | exact expo_Of.mono _ _
      | exact expo_Ratio.mono _ _ _
      | exact linhaylaw05_awake.mono _
      | exact linhayref05_Of.mono _ _
      | exact linhayref05_Ratio.mono _ _ _
      | exact LeO.none _
      | refine LeO.ite ?_ ?_
      | refine LeO.bind ?_ (fun _ => ?_)
set_option maxHeartbeats 8000000 in
set_option maxRecDepth 100000 in
theorem linhaylaw05_ExpoTells.calls (k : Nat) (a0 : Int) (a1 : Int) (a2 : Int) (a3 : Int) (r : Bool) (w : World) (hT : Tab w) (h : linhaylaw05_ExpoTells.f k a0 a1 a2 a3 = some r) :
    Calls Tryd.prog 3 #[.int .u64 a0, .int .u64 a1, .int .u64 a2, .int .u32 a3] w fun e w' => e = .returned (.bool r) ∧ Below w.heap.size w w' := by
  have HT := Aside0.mk hT
  clear hT
  have HB := Aside0.mk (Below.refl w.heap.size w)
  have H : ((linhaylaw05_awake.f k).bind fun t172 => ((linhayref05_Ratio.f k a1 a2).bind fun t173 => (if t172 = true then ((expo_Of.f k a0).bind fun t174 => ((linhayref05_Of.f k a0).bind fun t175 => (if t174 = t175 then ((expo_Ratio.f k a1 a2).bind fun t176 => ((linhayref05_Ratio.f k a1 a2).bind fun t177 => (if t176 = t177 then ((expo_Below.f k a3 a1 a2).bind fun t178 => (some (t178 == (decide ((IntKind.u64.wrap (a3)) < t173))))) else (none)))) else (none)))) else (none)))) = some r := h
  clear h
  replace H := Option.bind_eq_some_iff.mp H
  obtain ⟨t172, A50, H⟩ := H
  replace H : ((linhayref05_Ratio.f k a1 a2).bind fun t173 => (if t172 = true then ((expo_Of.f k a0).bind fun t174 => ((linhayref05_Of.f k a0).bind fun t175 => (if t174 = t175 then ((expo_Ratio.f k a1 a2).bind fun t176 => ((linhayref05_Ratio.f k a1 a2).bind fun t177 => (if t176 = t177 then ((expo_Below.f k a3 a1 a2).bind fun t178 => (some (t178 == (decide ((IntKind.u64.wrap (a3)) < t173))))) else (none)))) else (none)))) else (none))) = some r := H
  have A5 := Aside0.mk A50
  clear A50
  replace H := Option.bind_eq_some_iff.mp H
  obtain ⟨t173, A60, H⟩ := H
  replace H : (if t172 = true then ((expo_Of.f k a0).bind fun t174 => ((linhayref05_Of.f k a0).bind fun t175 => (if t174 = t175 then ((expo_Ratio.f k a1 a2).bind fun t176 => ((linhayref05_Ratio.f k a1 a2).bind fun t177 => (if t176 = t177 then ((expo_Below.f k a3 a1 a2).bind fun t178 => (some (t178 == (decide ((IntKind.u64.wrap (a3)) < t173))))) else (none)))) else (none)))) else (none)) = some r := H
  have A6 := Aside0.mk A60
  clear A60
  by_cases c7 : t172 = true
  · subst c7
    have H1 : ((expo_Of.f k a0).bind fun t174 => ((linhayref05_Of.f k a0).bind fun t175 => (if t174 = t175 then ((expo_Ratio.f k a1 a2).bind fun t176 => ((linhayref05_Ratio.f k a1 a2).bind fun t177 => (if t176 = t177 then ((expo_Below.f k a3 a1 a2).bind fun t178 => (some (t178 == (decide ((IntKind.u64.wrap (a3)) < t173))))) else (none)))) else (none)))) = some r := by rw [if_pos rfl] at H; exact H
    clear H
    have H := H1
    clear H1
    replace H := Option.bind_eq_some_iff.mp H
    obtain ⟨t174, A80, H⟩ := H
    replace H : ((linhayref05_Of.f k a0).bind fun t175 => (if t174 = t175 then ((expo_Ratio.f k a1 a2).bind fun t176 => ((linhayref05_Ratio.f k a1 a2).bind fun t177 => (if t176 = t177 then ((expo_Below.f k a3 a1 a2).bind fun t178 => (some (t178 == (decide ((IntKind.u64.wrap (a3)) < t173))))) else (none)))) else (none))) = some r := H
    have A8 := Aside0.mk A80
    clear A80
    replace H := Option.bind_eq_some_iff.mp H
    obtain ⟨t175, A90, H⟩ := H
    replace H : (if t174 = t175 then ((expo_Ratio.f k a1 a2).bind fun t176 => ((linhayref05_Ratio.f k a1 a2).bind fun t177 => (if t176 = t177 then ((expo_Below.f k a3 a1 a2).bind fun t178 => (some (t178 == (decide ((IntKind.u64.wrap (a3)) < t173))))) else (none)))) else (none)) = some r := H
    have A9 := Aside0.mk A90
    clear A90
    by_cases c10 : t174 = t175
    · rw [if_pos c10] at H
      have c10b0 : (t174 == t175) = true := beq_iff_eq.mpr c10
      have c10b1 : (t174 != t175) = false := bne_eq_false_iff_eq.mpr c10
      clear c10
      replace H := Option.bind_eq_some_iff.mp H
      obtain ⟨t176, A110, H⟩ := H
      replace H : ((linhayref05_Ratio.f k a1 a2).bind fun t177 => (if t176 = t177 then ((expo_Below.f k a3 a1 a2).bind fun t178 => (some (t178 == (decide ((IntKind.u64.wrap (a3)) < t173))))) else (none))) = some r := H
      have A11 := Aside0.mk A110
      clear A110
      replace H := Option.bind_eq_some_iff.mp H
      obtain ⟨t177, A120, H⟩ := H
      obtain rfl := Option.some.inj (A6.out.symm.trans A120)
      replace H : (if t176 = t173 then ((expo_Below.f k a3 a1 a2).bind fun t178 => (some (t178 == (decide ((IntKind.u64.wrap (a3)) < t173))))) else (none)) = some r := H
      have A12 := Aside0.mk A120
      clear A120
      by_cases c13 : t176 = t173
      · rw [if_pos c13] at H
        have c13b0 : (t176 == t173) = true := beq_iff_eq.mpr c13
        have c13b1 : (t176 != t173) = false := bne_eq_false_iff_eq.mpr c13
        clear c13
        replace H := Option.bind_eq_some_iff.mp H
        obtain ⟨t178, A140, H⟩ := H
        replace H : (some (t178 == (decide ((IntKind.u64.wrap (a3)) < t173)))) = some r := H
        have A14 := Aside0.mk A140
        clear A140
        obtain rfl := Option.some.inj H
        go_enter Tryd.func3, Tryd.ntmps3
        go_wp2_with (first | ((with_reducible refine gate_callee (f := 8) rfl ?_); refine goesL_ (some 11) rfl rfl Tryd.func8 (by kernel_rfl) rfl #[] rfl (by (try simp only [List.map_toArray, List.map_cons, List.map_nil]); first | done | rfl | (simp only [List.length_drop, List.length_take]; rfl)) ?_; (with_reducible refine (linhaylaw05_awake.calls k  true _ (HT.out.below (by repeat (first | (with_reducible first | exact HB.out | apply below_alloc | apply pw_below_drewN | apply below_drew1) | exact HB.out))) A5.out).mono ?_); rintro e w15 ⟨rfl, hb⟩; refine ⟨_, rfl, ?_⟩; have n0_ := Aside0.mk (below_step (by repeat (first | (with_reducible first | exact HB.out | apply below_alloc | apply pw_below_drewN | apply below_drew1) | exact HB.out)) hb); clear HB; have HB := n0_; clear n0_; (try clear hb); (try clear hb2); (try clear hk); (try clear hi)) | ((with_reducible refine gate_callee (f := 9) rfl ?_); refine goesL_ (some 16) rfl rfl Tryd.func9 (by kernel_rfl) rfl #[.int .u64 a1, .int .u64 a2] rfl (by (try simp only [List.map_toArray, List.map_cons, List.map_nil]); first | done | rfl | (simp only [List.length_drop, List.length_take]; rfl)) ?_; (with_reducible refine (linhayref05_Ratio.calls k a1 a2 t173 _ A6.out).mono ?_); rintro e w16 ⟨rfl, hb⟩; refine ⟨_, rfl, ?_⟩; have n0_ := Aside0.mk (below_step (by repeat (first | (with_reducible first | exact HB.out | apply below_alloc | apply pw_below_drewN | apply below_drew1) | exact HB.out)) hb); clear HB; have HB := n0_; clear n0_; (try clear hb); (try clear hb2); (try clear hk); (try clear hi)) | (go_at_call 10; (with_reducible refine (expo_Of.calls k a0 t174 _ (HT.out.below (by repeat (first | (with_reducible first | exact HB.out | apply below_alloc | apply pw_below_drewN | apply below_drew1) | exact HB.out))) A8.out).mono ?_); rintro e w17 ⟨rfl, hb⟩; have n0_ := Aside0.mk (below_step (by repeat (first | (with_reducible first | exact HB.out | apply below_alloc | apply pw_below_drewN | apply below_drew1) | exact HB.out)) hb); clear HB; have HB := n0_; clear n0_; (try clear hb); (try clear hb2); (try clear hk); (try clear hi)) | (go_at_call 11; (with_reducible refine (linhayref05_Of.calls k a0 t175 _ A9.out).mono ?_); rintro e w18 ⟨rfl, hb⟩; have n0_ := Aside0.mk (below_step (by repeat (first | (with_reducible first | exact HB.out | apply below_alloc | apply pw_below_drewN | apply below_drew1) | exact HB.out)) hb); clear HB; have HB := n0_; clear n0_; (try clear hb); (try clear hb2); (try clear hk); (try clear hi)) | (go_at_call 12; (with_reducible refine (expo_Ratio.calls k a1 a2 t176 _ (HT.out.below (by repeat (first | (with_reducible first | exact HB.out | apply below_alloc | apply pw_below_drewN | apply below_drew1) | exact HB.out))) A11.out).mono ?_); rintro e w19 ⟨rfl, hb⟩; have n0_ := Aside0.mk (below_step (by repeat (first | (with_reducible first | exact HB.out | apply below_alloc | apply pw_below_drewN | apply below_drew1) | exact HB.out)) hb); clear HB; have HB := n0_; clear n0_; (try clear hb); (try clear hb2); (try clear hk); (try clear hi)) | (go_at_call 9; (with_reducible refine (linhayref05_Ratio.calls k a1 a2 t173 _ A12.out).mono ?_); rintro e w20 ⟨rfl, hb⟩; have n0_ := Aside0.mk (below_step (by repeat (first | (with_reducible first | exact HB.out | apply below_alloc | apply pw_below_drewN | apply below_drew1) | exact HB.out)) hb); clear HB; have HB := n0_; clear n0_; (try clear hb); (try clear hb2); (try clear hk); (try clear hi)) | (go_at_call 13; (with_reducible refine (expo_Below.calls k a3 a1 a2 t178 _ (HT.out.below (by repeat (first | (with_reducible first | exact HB.out | apply below_alloc | apply pw_below_drewN | apply below_drew1) | exact HB.out))) A14.out).mono ?_); rintro e w21 ⟨rfl, hb⟩; have n0_ := Aside0.mk (below_step (by repeat (first | (with_reducible first | exact HB.out | apply below_alloc | apply pw_below_drewN | apply below_drew1) | exact HB.out)) hb); clear HB; have HB := n0_; clear n0_; (try clear hb); (try clear hb2); (try clear hk); (try clear hi)) | (go_at_call 8; (with_reducible refine (linhaylaw05_awake.calls k  true _ (HT.out.below (by repeat (first | (with_reducible first | exact HB.out | apply below_alloc | apply pw_below_drewN | apply below_drew1) | exact HB.out))) A5.out).mono ?_); rintro e w15 ⟨rfl, hb⟩; have n0_ := Aside0.mk (below_step (by repeat (first | (with_reducible first | exact HB.out | apply below_alloc | apply pw_below_drewN | apply below_drew1) | exact HB.out)) hb); clear HB; have HB := n0_; clear n0_; (try clear hb); (try clear hb2); (try clear hk); (try clear hi)) | (go_at_call 9; (with_reducible refine (linhayref05_Ratio.calls k a1 a2 t173 _ A6.out).mono ?_); rintro e w16 ⟨rfl, hb⟩; have n0_ := Aside0.mk (below_step (by repeat (first | (with_reducible first | exact HB.out | apply below_alloc | apply pw_below_drewN | apply below_drew1) | exact HB.out)) hb); clear HB; have HB := n0_; clear n0_; (try clear hb); (try clear hb2); (try clear hk); (try clear hi)))
        go_ret
        exact ⟨by first | rfl | (simp [errW_none, errW_some] <;> rfl) | (simp [*, errW_none, errW_some] <;> rfl), by repeat (first | (with_reducible first | exact HB.out | apply below_alloc | apply pw_below_drewN | apply below_drew1) | exact HB.out)⟩
      · rw [if_neg c13] at H
        exact absurd H (by simp)
    · rw [if_neg c10] at H
      exact absurd H (by simp)
  · replace c7 := Bool.eq_false_iff.mpr c7
    subst c7
    have H1 : (none) = some r := by rw [if_neg (show ¬ (false = true) by decide)] at H; exact H
    clear H
    have H := H1
    clear H1
    exact absurd H (by simp)

/-- THE ONE PURE STATEMENT of linhaylaw05_ExpoTells: yours. -/
def linhaylaw05_ExpoTells.Pure : Prop := ∀ (a0 : Int) (a1 : Int) (a2 : Int) (a3 : Int), (Lit.int .u64 a0).wf = true → (Lit.int .u64 a1).wf = true → (Lit.int .u64 a2).wf = true → (Lit.int .u32 a3).wf = true → ∃ k, linhaylaw05_ExpoTells.f k a0 a1 a2 a3 = some true
/-! ### linhayref05_times: function 24 -/
def linhayref05_times.f (k : Nat) (a0 : Int) (a1 : Int) (a2 : Bool) : Option (Int) := (linhayref02_Mul.f a0 a1).bind fun bt179 => ((linhayref02_Div.f k bt179.1 bt179.2 4611686018427387904).bind fun bt181 => (if a2 = true then (if bt181.2.2.1 > 0 then (some (IntKind.u64.wrap (bt181.2.1 + 1))) else (some bt181.2.1)) else (some bt181.2.1)))
theorem linhayref05_times.mono : ∀ a0 a1 a2 k, LeO (linhayref05_times.f k a0 a1 a2) (linhayref05_times.f (k + 1) a0 a1 a2) := by
  intro a0 a1 a2 k
  unfold linhayref05_times.f
  repeat' first
      | (with_reducible exact linhayref02_Div.mono _ _ _ _)
      | (with_reducible exact LeO.refl _)
      | (with_reducible exact LeO.none _)
      | (with_reducible refine LeO.ite ?_ ?_)
      | (with_reducible refine LeO.bind ?_ (fun _ => ?_))
      | exact linhayref02_Div.mono _ _ _ _
      | exact LeO.none _
      | refine LeO.ite ?_ ?_
      | refine LeO.bind ?_ (fun _ => ?_)
set_option maxHeartbeats 8000000 in
set_option maxRecDepth 100000 in
theorem linhayref05_times.calls (k : Nat) (a0 : Int) (a1 : Int) (a2 : Bool) (r : Int) (w : World) (h : linhayref05_times.f k a0 a1 a2 = some r) :
    Calls Tryd.prog 24 #[.int .u64 a0, .int .u64 a1, .bool a2] w fun e w' => e = .returned (.int .u64 r) ∧ Below w.heap.size w w' := by
  have hu39 := Tryd.underlying39
  have HB := Aside0.mk (Below.refl w.heap.size w)
  have H : ((linhayref02_Mul.f a0 a1).bind fun bt179 => ((linhayref02_Div.f k bt179.1 bt179.2 4611686018427387904).bind fun bt181 => (if a2 = true then (if bt181.2.2.1 > 0 then (some (IntKind.u64.wrap (bt181.2.1 + 1))) else (some bt181.2.1)) else (some bt181.2.1)))) = some r := h
  clear h
  replace H := Option.bind_eq_some_iff.mp H
  obtain ⟨⟨t179, t180⟩, A40, H⟩ := H
  replace H : ((linhayref02_Div.f k t179 t180 4611686018427387904).bind fun bt181 => (if a2 = true then (if bt181.2.2.1 > 0 then (some (IntKind.u64.wrap (bt181.2.1 + 1))) else (some bt181.2.1)) else (some bt181.2.1))) = some r := H
  have A4 := Aside0.mk A40
  clear A40
  replace H := Option.bind_eq_some_iff.mp H
  obtain ⟨⟨t181, t182, t183, t184⟩, A50, H⟩ := H
  replace H : (if a2 = true then (if t183 > 0 then (some (IntKind.u64.wrap (t182 + 1))) else (some t182)) else (some t182)) = some r := H
  have A5 := Aside0.mk A50
  clear A50
  by_cases c6 : a2 = true
  · subst c6
    have H1 : (if t183 > 0 then (some (IntKind.u64.wrap (t182 + 1))) else (some t182)) = some r := by rw [if_pos rfl] at H; exact H
    clear H
    have H := H1
    clear H1
    by_cases c7 : t183 > 0
    · rw [if_pos c7] at H
      have c7b0 : decide (0 < t183) = true := decide_eq_true c7
      clear c7
      obtain rfl := Option.some.inj H
      go_enter Tryd.func24, Tryd.ntmps24
      go_wp2_with (first | ((with_reducible refine gate_callee (f := 21) rfl ?_); refine goesL_ (some 13) rfl rfl Tryd.func21 (by kernel_rfl) rfl #[.int .u64 a0, .int .u64 a1] rfl (by (try simp only [List.map_toArray, List.map_cons, List.map_nil]); first | done | rfl | (simp only [List.length_drop, List.length_take]; rfl)) ?_; (with_reducible refine (linhayref02_Mul.calls a0 a1 t179 t180 _ A4.out).mono ?_); rintro e w8 ⟨rfl, hb⟩; refine ⟨_, rfl, ?_⟩; have n0_ := Aside0.mk (below_step (by repeat (first | (with_reducible first | exact HB.out | apply below_alloc | apply pw_below_drewN | apply below_drew1) | exact HB.out)) hb); clear HB; have HB := n0_; clear n0_; (try clear hb); (try clear hb2); (try clear hk); (try clear hi)) | ((with_reducible refine gate_callee (f := 29) rfl ?_); refine goesL_ (some 14) rfl rfl Tryd.func29 (by kernel_rfl) rfl #[.agg #[.int .u64 t179, .int .u64 t180], .int .u64 4611686018427387904] rfl (by (try simp only [List.map_toArray, List.map_cons, List.map_nil]); first | done | rfl | (simp only [List.length_drop, List.length_take]; rfl)) ?_; (with_reducible refine (linhayref02_Div.calls k t179 t180 4611686018427387904 t181 t182 t183 t184 _ A5.out).mono ?_); rintro e w9 ⟨rfl, hb⟩; refine ⟨_, rfl, ?_⟩; have n0_ := Aside0.mk (below_step (by repeat (first | (with_reducible first | exact HB.out | apply below_alloc | apply pw_below_drewN | apply below_drew1) | exact HB.out)) hb); clear HB; have HB := n0_; clear n0_; (try clear hb); (try clear hb2); (try clear hk); (try clear hi)) | ((with_reducible refine gate_dst (N := 7) rfl ?_); refine box_event ?hg (N := 7) ?hd (cs := #[.int .u64 0, .int .u64 0]) (t := 39) ?hr ?_; (case hd => rfl); (case hg => rfl); (case hr => first | (go_simp; done) | (go_simp; rfl)); intro gb185 hg w10 hbox hb; have n0_ := Aside0.mk (below_step (by repeat (first | (with_reducible first | exact HB.out | apply below_alloc | apply pw_below_drewN | apply below_drew1) | exact HB.out)) hb); have n1_ := Aside0.mk (hbox); have n2_ := Aside0.mk ((by rw [hg]; exact (below_size (by repeat (first | (with_reducible first | exact HB.out | apply below_alloc | apply pw_below_drewN | apply below_drew1) | exact HB.out))) : w.heap.size ≤ gb185)); have n3_ := Aside0.mk ((by rw [hg]; exact (below_size (by repeat (first | (with_reducible first | exact HB.out | apply below_alloc | apply pw_below_drewN | apply below_drew1) | exact HB.out))) : w.heap.size ≤ gb185)); clear HB; have HB := n0_; have BK185 := n1_; have GW185 := n2_; have GE185 := n3_; clear n0_ n1_ n2_ n3_; clear hb hbox hg; have hcz11_0 : w10.cell? ⟨gb185, 0, none⟩ = some (.int .u64 0) := (blk_cell BK185.out 0).trans rfl; have hcz11_1 : w10.cell? ⟨gb185, 1, none⟩ = some (.int .u64 0) := (blk_cell BK185.out 1).trans rfl; have hfz11_0 := blk_frozen BK185.out 0; have hfz11_1 := blk_frozen BK185.out 1) | (go_at_call 21; (with_reducible refine (linhayref02_Mul.calls a0 a1 t179 t180 _ A4.out).mono ?_); rintro e w8 ⟨rfl, hb⟩; have n0_ := Aside0.mk (below_step (by repeat (first | (with_reducible first | exact HB.out | apply below_alloc | apply pw_below_drewN | apply below_drew1) | exact HB.out)) hb); clear HB; have HB := n0_; clear n0_; (try clear hb); (try clear hb2); (try clear hk); (try clear hi)) | (go_at_call 29; (with_reducible refine (linhayref02_Div.calls k t179 t180 4611686018427387904 t181 t182 t183 t184 _ A5.out).mono ?_); rintro e w9 ⟨rfl, hb⟩; have n0_ := Aside0.mk (below_step (by repeat (first | (with_reducible first | exact HB.out | apply below_alloc | apply pw_below_drewN | apply below_drew1) | exact HB.out)) hb); clear HB; have HB := n0_; clear n0_; (try clear hb); (try clear hb2); (try clear hk); (try clear hi)))
      go_ret
      exact ⟨by first | rfl | (simp [errW_none, errW_some] <;> rfl) | (simp [*, errW_none, errW_some] <;> rfl), by repeat (first | (with_reducible first | exact HB.out | apply below_alloc | apply pw_below_drewN | apply below_drew1 | refine below_set ?_ GE185.out) | exact HB.out)⟩
    · rw [if_neg c7] at H
      have c7b0 : decide (0 < t183) = false := decide_eq_false c7
      clear c7
      obtain rfl := Option.some.inj H
      go_enter Tryd.func24, Tryd.ntmps24
      go_wp2_with (first | ((with_reducible refine gate_callee (f := 21) rfl ?_); refine goesL_ (some 13) rfl rfl Tryd.func21 (by kernel_rfl) rfl #[.int .u64 a0, .int .u64 a1] rfl (by (try simp only [List.map_toArray, List.map_cons, List.map_nil]); first | done | rfl | (simp only [List.length_drop, List.length_take]; rfl)) ?_; (with_reducible refine (linhayref02_Mul.calls a0 a1 t179 t180 _ A4.out).mono ?_); rintro e w12 ⟨rfl, hb⟩; refine ⟨_, rfl, ?_⟩; have n0_ := Aside0.mk (below_step (by repeat (first | (with_reducible first | exact HB.out | apply below_alloc | apply pw_below_drewN | apply below_drew1) | exact HB.out)) hb); clear HB; have HB := n0_; clear n0_; (try clear hb); (try clear hb2); (try clear hk); (try clear hi)) | ((with_reducible refine gate_callee (f := 29) rfl ?_); refine goesL_ (some 14) rfl rfl Tryd.func29 (by kernel_rfl) rfl #[.agg #[.int .u64 t179, .int .u64 t180], .int .u64 4611686018427387904] rfl (by (try simp only [List.map_toArray, List.map_cons, List.map_nil]); first | done | rfl | (simp only [List.length_drop, List.length_take]; rfl)) ?_; (with_reducible refine (linhayref02_Div.calls k t179 t180 4611686018427387904 t181 t182 t183 t184 _ A5.out).mono ?_); rintro e w13 ⟨rfl, hb⟩; refine ⟨_, rfl, ?_⟩; have n0_ := Aside0.mk (below_step (by repeat (first | (with_reducible first | exact HB.out | apply below_alloc | apply pw_below_drewN | apply below_drew1) | exact HB.out)) hb); clear HB; have HB := n0_; clear n0_; (try clear hb); (try clear hb2); (try clear hk); (try clear hi)) | ((with_reducible refine gate_dst (N := 7) rfl ?_); refine box_event ?hg (N := 7) ?hd (cs := #[.int .u64 0, .int .u64 0]) (t := 39) ?hr ?_; (case hd => rfl); (case hg => rfl); (case hr => first | (go_simp; done) | (go_simp; rfl)); intro gb185 hg w14 hbox hb; have n0_ := Aside0.mk (below_step (by repeat (first | (with_reducible first | exact HB.out | apply below_alloc | apply pw_below_drewN | apply below_drew1) | exact HB.out)) hb); have n1_ := Aside0.mk (hbox); have n2_ := Aside0.mk ((by rw [hg]; exact (below_size (by repeat (first | (with_reducible first | exact HB.out | apply below_alloc | apply pw_below_drewN | apply below_drew1) | exact HB.out))) : w.heap.size ≤ gb185)); have n3_ := Aside0.mk ((by rw [hg]; exact (below_size (by repeat (first | (with_reducible first | exact HB.out | apply below_alloc | apply pw_below_drewN | apply below_drew1) | exact HB.out))) : w.heap.size ≤ gb185)); clear HB; have HB := n0_; have BK185 := n1_; have GW185 := n2_; have GE185 := n3_; clear n0_ n1_ n2_ n3_; clear hb hbox hg; have hcz15_0 : w14.cell? ⟨gb185, 0, none⟩ = some (.int .u64 0) := (blk_cell BK185.out 0).trans rfl; have hcz15_1 : w14.cell? ⟨gb185, 1, none⟩ = some (.int .u64 0) := (blk_cell BK185.out 1).trans rfl; have hfz15_0 := blk_frozen BK185.out 0; have hfz15_1 := blk_frozen BK185.out 1) | (go_at_call 21; (with_reducible refine (linhayref02_Mul.calls a0 a1 t179 t180 _ A4.out).mono ?_); rintro e w12 ⟨rfl, hb⟩; have n0_ := Aside0.mk (below_step (by repeat (first | (with_reducible first | exact HB.out | apply below_alloc | apply pw_below_drewN | apply below_drew1) | exact HB.out)) hb); clear HB; have HB := n0_; clear n0_; (try clear hb); (try clear hb2); (try clear hk); (try clear hi)) | (go_at_call 29; (with_reducible refine (linhayref02_Div.calls k t179 t180 4611686018427387904 t181 t182 t183 t184 _ A5.out).mono ?_); rintro e w13 ⟨rfl, hb⟩; have n0_ := Aside0.mk (below_step (by repeat (first | (with_reducible first | exact HB.out | apply below_alloc | apply pw_below_drewN | apply below_drew1) | exact HB.out)) hb); clear HB; have HB := n0_; clear n0_; (try clear hb); (try clear hb2); (try clear hk); (try clear hi)))
      go_ret
      exact ⟨by first | rfl | (simp [errW_none, errW_some] <;> rfl) | (simp [*, errW_none, errW_some] <;> rfl), by repeat (first | (with_reducible first | exact HB.out | apply below_alloc | apply pw_below_drewN | apply below_drew1 | refine below_set ?_ GE185.out) | exact HB.out)⟩
  · replace c6 := Bool.eq_false_iff.mpr c6
    subst c6
    have H1 : (some t182) = some r := by rw [if_neg (show ¬ (false = true) by decide)] at H; exact H
    clear H
    have H := H1
    clear H1
    obtain rfl := Option.some.inj H
    go_enter Tryd.func24, Tryd.ntmps24
    go_wp2_with (first | ((with_reducible refine gate_callee (f := 21) rfl ?_); refine goesL_ (some 13) rfl rfl Tryd.func21 (by kernel_rfl) rfl #[.int .u64 a0, .int .u64 a1] rfl (by (try simp only [List.map_toArray, List.map_cons, List.map_nil]); first | done | rfl | (simp only [List.length_drop, List.length_take]; rfl)) ?_; (with_reducible refine (linhayref02_Mul.calls a0 a1 t179 t180 _ A4.out).mono ?_); rintro e w16 ⟨rfl, hb⟩; refine ⟨_, rfl, ?_⟩; have n0_ := Aside0.mk (below_step (by repeat (first | (with_reducible first | exact HB.out | apply below_alloc | apply pw_below_drewN | apply below_drew1) | exact HB.out)) hb); clear HB; have HB := n0_; clear n0_; (try clear hb); (try clear hb2); (try clear hk); (try clear hi)) | ((with_reducible refine gate_callee (f := 29) rfl ?_); refine goesL_ (some 14) rfl rfl Tryd.func29 (by kernel_rfl) rfl #[.agg #[.int .u64 t179, .int .u64 t180], .int .u64 4611686018427387904] rfl (by (try simp only [List.map_toArray, List.map_cons, List.map_nil]); first | done | rfl | (simp only [List.length_drop, List.length_take]; rfl)) ?_; (with_reducible refine (linhayref02_Div.calls k t179 t180 4611686018427387904 t181 t182 t183 t184 _ A5.out).mono ?_); rintro e w17 ⟨rfl, hb⟩; refine ⟨_, rfl, ?_⟩; have n0_ := Aside0.mk (below_step (by repeat (first | (with_reducible first | exact HB.out | apply below_alloc | apply pw_below_drewN | apply below_drew1) | exact HB.out)) hb); clear HB; have HB := n0_; clear n0_; (try clear hb); (try clear hb2); (try clear hk); (try clear hi)) | ((with_reducible refine gate_dst (N := 7) rfl ?_); refine box_event ?hg (N := 7) ?hd (cs := #[.int .u64 0, .int .u64 0]) (t := 39) ?hr ?_; (case hd => rfl); (case hg => rfl); (case hr => first | (go_simp; done) | (go_simp; rfl)); intro gb185 hg w18 hbox hb; have n0_ := Aside0.mk (below_step (by repeat (first | (with_reducible first | exact HB.out | apply below_alloc | apply pw_below_drewN | apply below_drew1) | exact HB.out)) hb); have n1_ := Aside0.mk (hbox); have n2_ := Aside0.mk ((by rw [hg]; exact (below_size (by repeat (first | (with_reducible first | exact HB.out | apply below_alloc | apply pw_below_drewN | apply below_drew1) | exact HB.out))) : w.heap.size ≤ gb185)); have n3_ := Aside0.mk ((by rw [hg]; exact (below_size (by repeat (first | (with_reducible first | exact HB.out | apply below_alloc | apply pw_below_drewN | apply below_drew1) | exact HB.out))) : w.heap.size ≤ gb185)); clear HB; have HB := n0_; have BK185 := n1_; have GW185 := n2_; have GE185 := n3_; clear n0_ n1_ n2_ n3_; clear hb hbox hg; have hcz19_0 : w18.cell? ⟨gb185, 0, none⟩ = some (.int .u64 0) := (blk_cell BK185.out 0).trans rfl; have hcz19_1 : w18.cell? ⟨gb185, 1, none⟩ = some (.int .u64 0) := (blk_cell BK185.out 1).trans rfl; have hfz19_0 := blk_frozen BK185.out 0; have hfz19_1 := blk_frozen BK185.out 1) | (go_at_call 21; (with_reducible refine (linhayref02_Mul.calls a0 a1 t179 t180 _ A4.out).mono ?_); rintro e w16 ⟨rfl, hb⟩; have n0_ := Aside0.mk (below_step (by repeat (first | (with_reducible first | exact HB.out | apply below_alloc | apply pw_below_drewN | apply below_drew1) | exact HB.out)) hb); clear HB; have HB := n0_; clear n0_; (try clear hb); (try clear hb2); (try clear hk); (try clear hi)) | (go_at_call 29; (with_reducible refine (linhayref02_Div.calls k t179 t180 4611686018427387904 t181 t182 t183 t184 _ A5.out).mono ?_); rintro e w17 ⟨rfl, hb⟩; have n0_ := Aside0.mk (below_step (by repeat (first | (with_reducible first | exact HB.out | apply below_alloc | apply pw_below_drewN | apply below_drew1) | exact HB.out)) hb); clear HB; have HB := n0_; clear n0_; (try clear hb); (try clear hb2); (try clear hk); (try clear hi)))
    go_ret
    exact ⟨by first | rfl | (simp [errW_none, errW_some] <;> rfl) | (simp [*, errW_none, errW_some] <;> rfl), by repeat (first | (with_reducible first | exact HB.out | apply below_alloc | apply pw_below_drewN | apply below_drew1 | refine below_set ?_ GE185.out) | exact HB.out)⟩

/-! ### linhayref05_Bounds: function 14 -/
mutual
def linhayref05_Bounds.l0 : Nat → Int → Int → Int → Int → Int → Int → Option (Int × Int)
  | 0, _, _, _, _, _, _ => none
  | k + 1, x4, x5, x6, x7, x8, x9 => if x9 ≤ 24 then ((linhayref05_times.f k x7 x4 true).bind fun t186 => (if x9 = 0 then (none) else ((linhayref05_times.f k x8 x4 false).bind fun t187 => (if (Int.tmod x9 2) = 1 then (linhayref05_Bounds.l0 k x4 (IntKind.u64.wrap (x5 - (mn x5 (IntKind.u64.wrap ((IntKind.u64.wrap (Int.tdiv t186 x9)) + 1))))) (IntKind.u64.wrap (x6 - (IntKind.u64.wrap (Int.tdiv t187 x9)))) (IntKind.u64.wrap ((IntKind.u64.wrap (Int.tdiv t186 x9)) + 1)) (IntKind.u64.wrap (Int.tdiv t187 x9)) (IntKind.u64.wrap (x9 + 1))) else (linhayref05_Bounds.l0 k x4 (IntKind.u64.wrap (x5 + (IntKind.u64.wrap (Int.tdiv t187 x9)))) (IntKind.u64.wrap (x6 + (IntKind.u64.wrap ((IntKind.u64.wrap (Int.tdiv t186 x9)) + 1)))) (IntKind.u64.wrap ((IntKind.u64.wrap (Int.tdiv t186 x9)) + 1)) (IntKind.u64.wrap (Int.tdiv t187 x9)) (IntKind.u64.wrap (x9 + 1))))))) else (linhayref05_Bounds.l1 k (IntKind.u64.wrap (x5 - (mn x5 x7))) (mn (IntKind.u64.wrap (x6 + x7)) 4611686018427387904) 0)
def linhayref05_Bounds.l1 : Nat → Int → Int → Int → Option (Int × Int)
  | 0, _, _, _ => none
  | k + 1, x5, x6, x10 => if x10 < 5 then ((linhayref05_times.f k x5 x5 false).bind fun t188 => ((linhayref05_times.f k x6 x6 true).bind fun t189 => (linhayref05_Bounds.l1 k t188 t189 (wrap64 (x10 + 1))))) else (some (x5, x6))
end
def linhayref05_Bounds.f (k : Nat) (a0 : Int) : Option (Int × Int) := linhayref05_Bounds.l0 k (IntKind.u64.wrap (a0 * 33554432)) 4611686018427387904 4611686018427387904 4611686018427387904 4611686018427387904 1
theorem linhayref05_Bounds.mono_l : ∀ k, (∀ y0 y1 y2 y3 y4 y5, LeO (linhayref05_Bounds.l0 k y0 y1 y2 y3 y4 y5) (linhayref05_Bounds.l0 (k + 1) y0 y1 y2 y3 y4 y5)) ∧ (∀ y0 y1 y2, LeO (linhayref05_Bounds.l1 k y0 y1 y2) (linhayref05_Bounds.l1 (k + 1) y0 y1 y2))
  | 0 => ⟨fun _ _ _ _ _ _ r h => by simp [linhayref05_Bounds.l0] at h, fun _ _ _ r h => by simp [linhayref05_Bounds.l1] at h⟩
  | k + 1 => by
    obtain ⟨ih0, ih1⟩ := linhayref05_Bounds.mono_l k
    refine ⟨?_, ?_⟩
    · intro y0 y1 y2 y3 y4 y5
      unfold linhayref05_Bounds.l0
      repeat' first
      | (with_reducible exact ih0 _ _ _ _ _ _)
      | (with_reducible exact ih1 _ _ _)
      | (with_reducible exact linhayref05_times.mono _ _ _ _)
      | (with_reducible exact LeO.refl _)
      | (with_reducible exact LeO.none _)
      | (with_reducible refine LeO.ite ?_ ?_)
      | (with_reducible refine LeO.bind ?_ (fun _ => ?_))
      | exact ih0 _ _ _ _ _ _
      | exact ih1 _ _ _
      | exact linhayref05_times.mono _ _ _ _
      | exact LeO.none _
      | refine LeO.ite ?_ ?_
      | refine LeO.bind ?_ (fun _ => ?_)
    · intro y0 y1 y2
      unfold linhayref05_Bounds.l1
      repeat' first
      | (with_reducible exact ih0 _ _ _ _ _ _)
      | (with_reducible exact ih1 _ _ _)
      | (with_reducible exact linhayref05_times.mono _ _ _ _)
      | (with_reducible exact LeO.refl _)
      | (with_reducible exact LeO.none _)
      | (with_reducible refine LeO.ite ?_ ?_)
      | (with_reducible refine LeO.bind ?_ (fun _ => ?_))
      | exact ih0 _ _ _ _ _ _
      | exact ih1 _ _ _
      | exact linhayref05_times.mono _ _ _ _
      | exact LeO.none _
      | refine LeO.ite ?_ ?_
      | refine LeO.bind ?_ (fun _ => ?_)
theorem linhayref05_Bounds.mono : ∀ a0 k, LeO (linhayref05_Bounds.f k a0) (linhayref05_Bounds.f (k + 1) a0) := by
  intro a0 k
  obtain ⟨ih0, ih1⟩ := linhayref05_Bounds.mono_l k
  unfold linhayref05_Bounds.f
  repeat' first
      | (with_reducible exact ih0 _ _ _ _ _ _)
      | (with_reducible exact ih1 _ _ _)
      | (with_reducible exact linhayref05_times.mono _ _ _ _)
      | (with_reducible exact LeO.refl _)
      | (with_reducible exact LeO.none _)
      | (with_reducible refine LeO.ite ?_ ?_)
      | (with_reducible refine LeO.bind ?_ (fun _ => ?_))
      | exact ih0 _ _ _ _ _ _
      | exact ih1 _ _ _
      | exact linhayref05_times.mono _ _ _ _
      | exact LeO.none _
      | refine LeO.ite ?_ ?_
      | refine LeO.bind ?_ (fun _ => ?_)
set_option maxHeartbeats 8000000 in
set_option maxRecDepth 100000 in
theorem linhayref05_Bounds.calls (k : Nat) (a0 : Int) (r1 : Int) (r2 : Int) (w : World) (h : linhayref05_Bounds.f k a0 = some (r1, r2)) :
    Calls Tryd.prog 14 #[.int .u64 a0] w fun e w' => e = .returned (.tuple #[.int .u64 r1, .int .u64 r2]) ∧ Below w.heap.size w w' := by
  have HB := Aside0.mk (Below.refl w.heap.size w)
  have H : (linhayref05_Bounds.l0 k (IntKind.u64.wrap (a0 * 33554432)) 4611686018427387904 4611686018427387904 4611686018427387904 4611686018427387904 1) = some (r1, r2) := h
  clear h
  have H' := Aside0.mk H
  clear H
  go_enter Tryd.func14, Tryd.ntmps14
  go_wp2
  go_loopg [5, 6, 7, 8, 9] k (fun kq v5 v6 v7 v8 v9 w' => ∃ (x5_1 : Int) (x6_1 : Int) (x7_1 : Int) (x8_1 : Int) (x9_1 : Int), v5 = .int .u64 x5_1 ∧ v6 = .int .u64 x6_1 ∧ v7 = .int .u64 x7_1 ∧ v8 = .int .u64 x8_1 ∧ v9 = .int .u64 x9_1 ∧ Aside0 (linhayref05_Bounds.l0 kq (IntKind.u64.wrap (a0 * 33554432)) x5_1 x6_1 x7_1 x8_1 x9_1 = some (r1, r2)) ∧ Aside0 (kq ≤ k) ∧ Aside0 (Below w.heap.size w w'))
  case atStart => exact ⟨(4611686018427387904), (4611686018427387904), (4611686018427387904), (4611686018427387904), (1), (by first | rfl | (simp; done) | (simp [*]; done)), (by first | rfl | (simp; done) | (simp [*]; done)), (by first | rfl | (simp; done) | (simp [*]; done)), (by first | rfl | (simp; done) | (simp [*]; done)), (by first | rfl | (simp; done) | (simp [*]; done)), H', ⟨Nat.le_refl _⟩, ⟨by repeat (first | (with_reducible first | exact HB.out | apply below_alloc | apply pw_below_drewN | apply below_drew1) | exact HB.out)⟩⟩
  case round =>
    clear H'
    try clear c1
    obtain ⟨x5_1, x6_1, x7_1, x8_1, x9_1, rfl, rfl, rfl, rfl, rfl, HA, HK1, HB⟩ := hrel
    cases gk with
    | zero => exact absurd HA.out (by simp [linhayref05_Bounds.l0])
    | succ k1 =>
      have H := HA.out
      clear HA
      simp only [linhayref05_Bounds.l0] at H
      by_cases c2 : x9_1 ≤ 24
      · rw [if_pos c2] at H
        have c2b0 : decide (x9_1 ≤ 24) = true := decide_eq_true c2
        clear c2
        replace H := Option.bind_eq_some_iff.mp H
        obtain ⟨t186, A30, H⟩ := H
        replace H : (if x9_1 = 0 then (none) else ((linhayref05_times.f k1 x8_1 (IntKind.u64.wrap (a0 * 33554432)) false).bind fun t187 => (if (Int.tmod x9_1 2) = 1 then (linhayref05_Bounds.l0 k1 (IntKind.u64.wrap (a0 * 33554432)) (IntKind.u64.wrap (x5_1 - (mn x5_1 (IntKind.u64.wrap ((IntKind.u64.wrap (Int.tdiv t186 x9_1)) + 1))))) (IntKind.u64.wrap (x6_1 - (IntKind.u64.wrap (Int.tdiv t187 x9_1)))) (IntKind.u64.wrap ((IntKind.u64.wrap (Int.tdiv t186 x9_1)) + 1)) (IntKind.u64.wrap (Int.tdiv t187 x9_1)) (IntKind.u64.wrap (x9_1 + 1))) else (linhayref05_Bounds.l0 k1 (IntKind.u64.wrap (a0 * 33554432)) (IntKind.u64.wrap (x5_1 + (IntKind.u64.wrap (Int.tdiv t187 x9_1)))) (IntKind.u64.wrap (x6_1 + (IntKind.u64.wrap ((IntKind.u64.wrap (Int.tdiv t186 x9_1)) + 1)))) (IntKind.u64.wrap ((IntKind.u64.wrap (Int.tdiv t186 x9_1)) + 1)) (IntKind.u64.wrap (Int.tdiv t187 x9_1)) (IntKind.u64.wrap (x9_1 + 1)))))) = some (r1, r2) := H
        have A3 := Aside0.mk A30
        clear A30
        by_cases c4 : x9_1 = 0
        · rw [if_pos c4] at H
          exact absurd H (by simp)
        · rw [if_neg c4] at H
          have c4b0 : (x9_1 == 0) = false := beq_eq_false_iff_ne.mpr c4
          have c4b1 : (x9_1 != 0) = true := bne_iff_ne.mpr c4
          replace H := Option.bind_eq_some_iff.mp H
          obtain ⟨t187, A50, H⟩ := H
          replace H : (if (Int.tmod x9_1 2) = 1 then (linhayref05_Bounds.l0 k1 (IntKind.u64.wrap (a0 * 33554432)) (IntKind.u64.wrap (x5_1 - (mn x5_1 (IntKind.u64.wrap ((IntKind.u64.wrap (Int.tdiv t186 x9_1)) + 1))))) (IntKind.u64.wrap (x6_1 - (IntKind.u64.wrap (Int.tdiv t187 x9_1)))) (IntKind.u64.wrap ((IntKind.u64.wrap (Int.tdiv t186 x9_1)) + 1)) (IntKind.u64.wrap (Int.tdiv t187 x9_1)) (IntKind.u64.wrap (x9_1 + 1))) else (linhayref05_Bounds.l0 k1 (IntKind.u64.wrap (a0 * 33554432)) (IntKind.u64.wrap (x5_1 + (IntKind.u64.wrap (Int.tdiv t187 x9_1)))) (IntKind.u64.wrap (x6_1 + (IntKind.u64.wrap ((IntKind.u64.wrap (Int.tdiv t186 x9_1)) + 1)))) (IntKind.u64.wrap ((IntKind.u64.wrap (Int.tdiv t186 x9_1)) + 1)) (IntKind.u64.wrap (Int.tdiv t187 x9_1)) (IntKind.u64.wrap (x9_1 + 1)))) = some (r1, r2) := H
          have A5 := Aside0.mk A50
          clear A50
          by_cases c6 : (Int.tmod x9_1 2) = 1
          · rw [if_pos c6] at H
            have c6b0 : ((Int.tmod x9_1 2) == 1) = true := beq_iff_eq.mpr c6
            have c6b1 : ((Int.tmod x9_1 2) != 1) = false := bne_eq_false_iff_eq.mpr c6
            clear c6
            obtain ⟨ji7, hji7⟩ : ∃ j_ : Int, (mn x5_1 (IntKind.u64.wrap ((IntKind.u64.wrap (Int.tdiv t186 x9_1)) + 1))) = j_ := ⟨_, rfl⟩
            replace H : (linhayref05_Bounds.l0 k1 (IntKind.u64.wrap (a0 * 33554432)) (IntKind.u64.wrap (x5_1 - (ji7))) (IntKind.u64.wrap (x6_1 - (IntKind.u64.wrap (Int.tdiv t187 x9_1)))) (IntKind.u64.wrap ((IntKind.u64.wrap (Int.tdiv t186 x9_1)) + 1)) (IntKind.u64.wrap (Int.tdiv t187 x9_1)) (IntKind.u64.wrap (x9_1 + 1))) = some (r1, r2) := by first | (rw [hji7] at H; exact H) | (simp only [hji7] at H ⊢; exact H)
            (try rw [hji7] at A3)
            (try rw [hji7] at A5)
            have hji7_ : (if (IntKind.u64.wrap ((IntKind.u64.wrap (Int.tdiv t186 x9_1)) + 1)) < x5_1 then (IntKind.u64.wrap ((IntKind.u64.wrap (Int.tdiv t186 x9_1)) + 1)) else x5_1) = ji7 := hji7
            have H' := Aside0.mk H
            clear H
            go_wp2_with (first | ((with_reducible refine gate_callee (f := 24) rfl ?_); refine goesL_ (some 22) rfl rfl Tryd.func24 (by kernel_rfl) rfl #[.int .u64 x7_1, .int .u64 (IntKind.u64.wrap (a0 * 33554432)), .bool true] rfl (by (try simp only [List.map_toArray, List.map_cons, List.map_nil]); first | done | rfl | (simp only [List.length_drop, List.length_take]; rfl)) ?_; (with_reducible refine (linhayref05_times.calls k1 x7_1 (IntKind.u64.wrap (a0 * 33554432)) true t186 _ A3.out).mono ?_); rintro e w8 ⟨rfl, hb⟩; refine ⟨_, rfl, ?_⟩; have n0_ := Aside0.mk (below_step (by repeat (first | (with_reducible first | exact HB.out | apply below_alloc | apply pw_below_drewN | apply below_drew1) | exact HB.out)) hb); clear HB; have HB := n0_; clear n0_; (try clear hb); (try clear hb2); (try clear hk); (try clear hi)) | ((with_reducible refine gate_callee (f := 24) rfl ?_); refine goesL_ (some 28) rfl rfl Tryd.func24 (by kernel_rfl) rfl #[.int .u64 x8_1, .int .u64 (IntKind.u64.wrap (a0 * 33554432)), .bool false] rfl (by (try simp only [List.map_toArray, List.map_cons, List.map_nil]); first | done | rfl | (simp only [List.length_drop, List.length_take]; rfl)) ?_; (with_reducible refine (linhayref05_times.calls k1 x8_1 (IntKind.u64.wrap (a0 * 33554432)) false t187 _ A5.out).mono ?_); rintro e w9 ⟨rfl, hb⟩; refine ⟨_, rfl, ?_⟩; have n0_ := Aside0.mk (below_step (by repeat (first | (with_reducible first | exact HB.out | apply below_alloc | apply pw_below_drewN | apply below_drew1) | exact HB.out)) hb); clear HB; have HB := n0_; clear n0_; (try clear hb); (try clear hb2); (try clear hk); (try clear hi)) | (go_at_call 24; (with_reducible refine (linhayref05_times.calls k1 x7_1 (IntKind.u64.wrap (a0 * 33554432)) true t186 _ A3.out).mono ?_); rintro e w8 ⟨rfl, hb⟩; have n0_ := Aside0.mk (below_step (by repeat (first | (with_reducible first | exact HB.out | apply below_alloc | apply pw_below_drewN | apply below_drew1) | exact HB.out)) hb); clear HB; have HB := n0_; clear n0_; (try clear hb); (try clear hb2); (try clear hk); (try clear hi)) | (go_at_call 24; (with_reducible refine (linhayref05_times.calls k1 x8_1 (IntKind.u64.wrap (a0 * 33554432)) false t187 _ A5.out).mono ?_); rintro e w9 ⟨rfl, hb⟩; have n0_ := Aside0.mk (below_step (by repeat (first | (with_reducible first | exact HB.out | apply below_alloc | apply pw_below_drewN | apply below_drew1) | exact HB.out)) hb); clear HB; have HB := n0_; clear n0_; (try clear hb); (try clear hb2); (try clear hk); (try clear hi)))
            go_roundg k1
            case measure => have := HK1.out; omega
            case rel => exact ⟨(IntKind.u64.wrap (x5_1 - (ji7))), (IntKind.u64.wrap (x6_1 - (IntKind.u64.wrap (Int.tdiv t187 x9_1)))), (IntKind.u64.wrap ((IntKind.u64.wrap (Int.tdiv t186 x9_1)) + 1)), (IntKind.u64.wrap (Int.tdiv t187 x9_1)), (IntKind.u64.wrap (x9_1 + 1)), (by first | rfl | (simp; done) | (simp only [← hji7] <;> (first | rfl | simp)) | (simp [*]; done)), (by first | rfl | (simp; done) | (simp [*]; done)), (by first | rfl | (simp; done) | (simp [*]; done)), (by first | rfl | (simp; done) | (simp [*]; done)), (by first | rfl | (simp; done) | (simp [*]; done)), H', ⟨by have := HK1.out; omega⟩, ⟨by repeat (first | (with_reducible first | exact HB.out | apply below_alloc | apply pw_below_drewN | apply below_drew1) | exact HB.out)⟩⟩
          · rw [if_neg c6] at H
            have c6b0 : ((Int.tmod x9_1 2) == 1) = false := beq_eq_false_iff_ne.mpr c6
            have c6b1 : ((Int.tmod x9_1 2) != 1) = true := bne_iff_ne.mpr c6
            have H' := Aside0.mk H
            clear H
            go_wp2_with (first | ((with_reducible refine gate_callee (f := 24) rfl ?_); refine goesL_ (some 22) rfl rfl Tryd.func24 (by kernel_rfl) rfl #[.int .u64 x7_1, .int .u64 (IntKind.u64.wrap (a0 * 33554432)), .bool true] rfl (by (try simp only [List.map_toArray, List.map_cons, List.map_nil]); first | done | rfl | (simp only [List.length_drop, List.length_take]; rfl)) ?_; (with_reducible refine (linhayref05_times.calls k1 x7_1 (IntKind.u64.wrap (a0 * 33554432)) true t186 _ A3.out).mono ?_); rintro e w10 ⟨rfl, hb⟩; refine ⟨_, rfl, ?_⟩; have n0_ := Aside0.mk (below_step (by repeat (first | (with_reducible first | exact HB.out | apply below_alloc | apply pw_below_drewN | apply below_drew1) | exact HB.out)) hb); clear HB; have HB := n0_; clear n0_; (try clear hb); (try clear hb2); (try clear hk); (try clear hi)) | ((with_reducible refine gate_callee (f := 24) rfl ?_); refine goesL_ (some 28) rfl rfl Tryd.func24 (by kernel_rfl) rfl #[.int .u64 x8_1, .int .u64 (IntKind.u64.wrap (a0 * 33554432)), .bool false] rfl (by (try simp only [List.map_toArray, List.map_cons, List.map_nil]); first | done | rfl | (simp only [List.length_drop, List.length_take]; rfl)) ?_; (with_reducible refine (linhayref05_times.calls k1 x8_1 (IntKind.u64.wrap (a0 * 33554432)) false t187 _ A5.out).mono ?_); rintro e w11 ⟨rfl, hb⟩; refine ⟨_, rfl, ?_⟩; have n0_ := Aside0.mk (below_step (by repeat (first | (with_reducible first | exact HB.out | apply below_alloc | apply pw_below_drewN | apply below_drew1) | exact HB.out)) hb); clear HB; have HB := n0_; clear n0_; (try clear hb); (try clear hb2); (try clear hk); (try clear hi)) | (go_at_call 24; (with_reducible refine (linhayref05_times.calls k1 x7_1 (IntKind.u64.wrap (a0 * 33554432)) true t186 _ A3.out).mono ?_); rintro e w10 ⟨rfl, hb⟩; have n0_ := Aside0.mk (below_step (by repeat (first | (with_reducible first | exact HB.out | apply below_alloc | apply pw_below_drewN | apply below_drew1) | exact HB.out)) hb); clear HB; have HB := n0_; clear n0_; (try clear hb); (try clear hb2); (try clear hk); (try clear hi)) | (go_at_call 24; (with_reducible refine (linhayref05_times.calls k1 x8_1 (IntKind.u64.wrap (a0 * 33554432)) false t187 _ A5.out).mono ?_); rintro e w11 ⟨rfl, hb⟩; have n0_ := Aside0.mk (below_step (by repeat (first | (with_reducible first | exact HB.out | apply below_alloc | apply pw_below_drewN | apply below_drew1) | exact HB.out)) hb); clear HB; have HB := n0_; clear n0_; (try clear hb); (try clear hb2); (try clear hk); (try clear hi)))
            go_roundg k1
            case measure => have := HK1.out; omega
            case rel => exact ⟨(IntKind.u64.wrap (x5_1 + (IntKind.u64.wrap (Int.tdiv t187 x9_1)))), (IntKind.u64.wrap (x6_1 + (IntKind.u64.wrap ((IntKind.u64.wrap (Int.tdiv t186 x9_1)) + 1)))), (IntKind.u64.wrap ((IntKind.u64.wrap (Int.tdiv t186 x9_1)) + 1)), (IntKind.u64.wrap (Int.tdiv t187 x9_1)), (IntKind.u64.wrap (x9_1 + 1)), (by first | rfl | (simp; done) | (simp [*]; done)), (by first | rfl | (simp; done) | (simp [*]; done)), (by first | rfl | (simp; done) | (simp [*]; done)), (by first | rfl | (simp; done) | (simp [*]; done)), (by first | rfl | (simp; done) | (simp [*]; done)), H', ⟨by have := HK1.out; omega⟩, ⟨by repeat (first | (with_reducible first | exact HB.out | apply below_alloc | apply pw_below_drewN | apply below_drew1) | exact HB.out)⟩⟩
      · rw [if_neg c2] at H
        have c2b0 : decide (x9_1 ≤ 24) = false := decide_eq_false c2
        clear c2
        obtain ⟨ji12, hji12⟩ : ∃ j_ : Int, (mn x5_1 x7_1) = j_ := ⟨_, rfl⟩
        replace H : (linhayref05_Bounds.l1 k1 (IntKind.u64.wrap (x5_1 - (ji12))) (mn (IntKind.u64.wrap (x6_1 + x7_1)) 4611686018427387904) 0) = some (r1, r2) := by first | (rw [hji12] at H; exact H) | (simp only [hji12] at H ⊢; exact H)
        have hji12_ : (if x7_1 < x5_1 then x7_1 else x5_1) = ji12 := hji12
        obtain ⟨ji13, hji13⟩ : ∃ j_ : Int, (mn (IntKind.u64.wrap (x6_1 + x7_1)) 4611686018427387904) = j_ := ⟨_, rfl⟩
        replace H : (linhayref05_Bounds.l1 k1 (IntKind.u64.wrap (x5_1 - (ji12))) ji13 0) = some (r1, r2) := by first | (rw [hji13] at H; exact H) | (simp only [hji13] at H ⊢; exact H)
        have hji13_ : (if 4611686018427387904 < (IntKind.u64.wrap (x6_1 + x7_1)) then 4611686018427387904 else (IntKind.u64.wrap (x6_1 + x7_1))) = ji13 := hji13
        have H' := Aside0.mk H
        clear H
        go_wp2
        go_loopg [5, 6, 10] k1 (fun kq v5 v6 v10 w' => ∃ (x5_2 : Int) (x6_2 : Int) (x10_2 : Int), v5 = .int .u64 x5_2 ∧ v6 = .int .u64 x6_2 ∧ v10 = .int .i64 x10_2 ∧ Aside0 (linhayref05_Bounds.l1 kq x5_2 x6_2 x10_2 = some (r1, r2)) ∧ Aside0 (kq ≤ k1) ∧ Aside0 (Below w.heap.size w w'))
        case atStart => exact ⟨(IntKind.u64.wrap (x5_1 - (ji12))), (ji13), (0), (by first | rfl | (simp; done) | (simp only [← hji12] <;> (first | rfl | simp)) | (simp [*]; done)), (by first | rfl | (simp; done) | (simp only [← hji13] <;> (first | rfl | simp)) | (simp [*]; done)), (by first | rfl | (simp; done) | (simp [*]; done)), H', ⟨Nat.le_refl _⟩, ⟨by repeat (first | (with_reducible first | exact HB.out | apply below_alloc | apply pw_below_drewN | apply below_drew1) | exact HB.out)⟩⟩
        case round =>
          clear H'
          try clear c1
          try clear c2
          try clear c2b0
          try clear p2
          try clear c4
          try clear c4b0
          try clear c4b1
          try clear c6
          try clear c6b0
          try clear c6b1
          obtain ⟨x5_2, x6_2, x10_2, rfl, rfl, rfl, HA, HK2, HB⟩ := hrel
          cases gk with
          | zero => exact absurd HA.out (by simp [linhayref05_Bounds.l1])
          | succ k2 =>
            have H := HA.out
            clear HA
            simp only [linhayref05_Bounds.l1] at H
            by_cases c14 : x10_2 < 5
            · rw [if_pos c14] at H
              have c14b0 : decide (x10_2 < 5) = true := decide_eq_true c14
              clear c14
              replace H := Option.bind_eq_some_iff.mp H
              obtain ⟨t188, A150, H⟩ := H
              replace H : ((linhayref05_times.f k2 x6_2 x6_2 true).bind fun t189 => (linhayref05_Bounds.l1 k2 t188 t189 (wrap64 (x10_2 + 1)))) = some (r1, r2) := H
              have A15 := Aside0.mk A150
              clear A150
              replace H := Option.bind_eq_some_iff.mp H
              obtain ⟨t189, A160, H⟩ := H
              replace H : (linhayref05_Bounds.l1 k2 t188 t189 (wrap64 (x10_2 + 1))) = some (r1, r2) := H
              have A16 := Aside0.mk A160
              clear A160
              have H' := Aside0.mk H
              clear H
              go_wp2_with (first | ((with_reducible refine gate_callee (f := 24) rfl ?_); refine goesL_ (some 63) rfl rfl Tryd.func24 (by kernel_rfl) rfl #[.int .u64 x5_2, .int .u64 x5_2, .bool false] rfl (by (try simp only [List.map_toArray, List.map_cons, List.map_nil]); first | done | rfl | (simp only [List.length_drop, List.length_take]; rfl)) ?_; (with_reducible refine (linhayref05_times.calls k2 x5_2 x5_2 false t188 _ A15.out).mono ?_); rintro e w17 ⟨rfl, hb⟩; refine ⟨_, rfl, ?_⟩; have n0_ := Aside0.mk (below_step (by repeat (first | (with_reducible first | exact HB.out | apply below_alloc | apply pw_below_drewN | apply below_drew1) | exact HB.out)) hb); clear HB; have HB := n0_; clear n0_; (try clear hb); (try clear hb2); (try clear hk); (try clear hi)) | ((with_reducible refine gate_callee (f := 24) rfl ?_); refine goesL_ (some 66) rfl rfl Tryd.func24 (by kernel_rfl) rfl #[.int .u64 x6_2, .int .u64 x6_2, .bool true] rfl (by (try simp only [List.map_toArray, List.map_cons, List.map_nil]); first | done | rfl | (simp only [List.length_drop, List.length_take]; rfl)) ?_; (with_reducible refine (linhayref05_times.calls k2 x6_2 x6_2 true t189 _ A16.out).mono ?_); rintro e w18 ⟨rfl, hb⟩; refine ⟨_, rfl, ?_⟩; have n0_ := Aside0.mk (below_step (by repeat (first | (with_reducible first | exact HB.out | apply below_alloc | apply pw_below_drewN | apply below_drew1) | exact HB.out)) hb); clear HB; have HB := n0_; clear n0_; (try clear hb); (try clear hb2); (try clear hk); (try clear hi)) | (go_at_call 24; (with_reducible refine (linhayref05_times.calls k2 x5_2 x5_2 false t188 _ A15.out).mono ?_); rintro e w17 ⟨rfl, hb⟩; have n0_ := Aside0.mk (below_step (by repeat (first | (with_reducible first | exact HB.out | apply below_alloc | apply pw_below_drewN | apply below_drew1) | exact HB.out)) hb); clear HB; have HB := n0_; clear n0_; (try clear hb); (try clear hb2); (try clear hk); (try clear hi)) | (go_at_call 24; (with_reducible refine (linhayref05_times.calls k2 x6_2 x6_2 true t189 _ A16.out).mono ?_); rintro e w18 ⟨rfl, hb⟩; have n0_ := Aside0.mk (below_step (by repeat (first | (with_reducible first | exact HB.out | apply below_alloc | apply pw_below_drewN | apply below_drew1) | exact HB.out)) hb); clear HB; have HB := n0_; clear n0_; (try clear hb); (try clear hb2); (try clear hk); (try clear hi)))
              go_roundg k2
              case measure => have := HK1.out; have := HK2.out; omega
              case rel => exact ⟨(t188), (t189), (wrap64 (x10_2 + 1)), (by first | rfl | (simp; done) | (simp [*]; done)), (by first | rfl | (simp; done) | (simp [*]; done)), (by first | rfl | (simp; done) | (simp [*]; done)), H', ⟨by have := HK1.out; have := HK2.out; omega⟩, ⟨by repeat (first | (with_reducible first | exact HB.out | apply below_alloc | apply pw_below_drewN | apply below_drew1) | exact HB.out)⟩⟩
            · rw [if_neg c14] at H
              have c14b0 : decide (x10_2 < 5) = false := decide_eq_false c14
              clear c14
              simp only [Option.some.injEq, Prod.mk.injEq] at H
              obtain ⟨rfl, rfl⟩ := H
              go_wp2
              go_ret2
              exact ⟨by first | rfl | (simp [errW_none, errW_some] <;> rfl) | (simp only [← hji12, ← hji13]; first | rfl | (simp [errW_none, errW_some] <;> rfl)) | (simp [*, errW_none, errW_some] <;> rfl), by repeat (first | (with_reducible first | exact HB.out | apply below_alloc | apply pw_below_drewN | apply below_drew1) | exact HB.out)⟩

/-! ### linhaylaw05_ExpoNear: function 4 -/
def linhaylaw05_ExpoNear.f (k : Nat) (a0 : Int) : Option (Bool) := (linhaylaw05_awake.f k).bind fun t190 => ((linhayref05_Bounds.f k (Int.tmod a0 137438953472)).bind fun bt191 => ((expo_Of.f k (Int.tmod a0 137438953472)).bind fun t193 => (if t190 = true then (if bt191.1 ≤ bt191.2 then (if t193 ≤ (IntKind.u64.wrap ((bt191.2 / 1073741824) + 1)) then (if (IntKind.u64.wrap (t193 + 256)) ≥ (IntKind.u64.wrap ((bt191.1 / 1073741824) + 1)) then (some (decide ((IntKind.u64.wrap (bt191.2 - bt191.1)) < 274877906944))) else (none)) else (none)) else (none)) else (none))))
theorem linhaylaw05_ExpoNear.mono : ∀ a0 k, LeO (linhaylaw05_ExpoNear.f k a0) (linhaylaw05_ExpoNear.f (k + 1) a0) := by
  intro a0 k
  unfold linhaylaw05_ExpoNear.f
  repeat' first
      | (with_reducible exact expo_Of.mono _ _)
      | (with_reducible exact linhaylaw05_awake.mono _)
      | (with_reducible exact linhayref05_Bounds.mono _ _)
      | (with_reducible exact LeO.refl _)
      | (with_reducible exact LeO.none _)
      | (with_reducible refine LeO.ite ?_ ?_)
      | (with_reducible refine LeO.bind ?_ (fun _ => ?_))
      | exact expo_Of.mono _ _
      | exact linhaylaw05_awake.mono _
      | exact linhayref05_Bounds.mono _ _
      | exact LeO.none _
      | refine LeO.ite ?_ ?_
      | refine LeO.bind ?_ (fun _ => ?_)
set_option maxHeartbeats 8000000 in
set_option maxRecDepth 100000 in
theorem linhaylaw05_ExpoNear.calls (k : Nat) (a0 : Int) (r : Bool) (w : World) (hT : Tab w) (h : linhaylaw05_ExpoNear.f k a0 = some r) :
    Calls Tryd.prog 4 #[.int .u64 a0] w fun e w' => e = .returned (.bool r) ∧ Below w.heap.size w w' := by
  have HT := Aside0.mk hT
  clear hT
  have HB := Aside0.mk (Below.refl w.heap.size w)
  have H : ((linhaylaw05_awake.f k).bind fun t190 => ((linhayref05_Bounds.f k (Int.tmod a0 137438953472)).bind fun bt191 => ((expo_Of.f k (Int.tmod a0 137438953472)).bind fun t193 => (if t190 = true then (if bt191.1 ≤ bt191.2 then (if t193 ≤ (IntKind.u64.wrap ((bt191.2 / 1073741824) + 1)) then (if (IntKind.u64.wrap (t193 + 256)) ≥ (IntKind.u64.wrap ((bt191.1 / 1073741824) + 1)) then (some (decide ((IntKind.u64.wrap (bt191.2 - bt191.1)) < 274877906944))) else (none)) else (none)) else (none)) else (none))))) = some r := h
  clear h
  replace H := Option.bind_eq_some_iff.mp H
  obtain ⟨t190, A20, H⟩ := H
  replace H : ((linhayref05_Bounds.f k (Int.tmod a0 137438953472)).bind fun bt191 => ((expo_Of.f k (Int.tmod a0 137438953472)).bind fun t193 => (if t190 = true then (if bt191.1 ≤ bt191.2 then (if t193 ≤ (IntKind.u64.wrap ((bt191.2 / 1073741824) + 1)) then (if (IntKind.u64.wrap (t193 + 256)) ≥ (IntKind.u64.wrap ((bt191.1 / 1073741824) + 1)) then (some (decide ((IntKind.u64.wrap (bt191.2 - bt191.1)) < 274877906944))) else (none)) else (none)) else (none)) else (none)))) = some r := H
  have A2 := Aside0.mk A20
  clear A20
  replace H := Option.bind_eq_some_iff.mp H
  obtain ⟨⟨t191, t192⟩, A30, H⟩ := H
  replace H : ((expo_Of.f k (Int.tmod a0 137438953472)).bind fun t193 => (if t190 = true then (if t191 ≤ t192 then (if t193 ≤ (IntKind.u64.wrap ((t192 / 1073741824) + 1)) then (if (IntKind.u64.wrap (t193 + 256)) ≥ (IntKind.u64.wrap ((t191 / 1073741824) + 1)) then (some (decide ((IntKind.u64.wrap (t192 - t191)) < 274877906944))) else (none)) else (none)) else (none)) else (none))) = some r := H
  have A3 := Aside0.mk A30
  clear A30
  replace H := Option.bind_eq_some_iff.mp H
  obtain ⟨t193, A40, H⟩ := H
  replace H : (if t190 = true then (if t191 ≤ t192 then (if t193 ≤ (IntKind.u64.wrap ((t192 / 1073741824) + 1)) then (if (IntKind.u64.wrap (t193 + 256)) ≥ (IntKind.u64.wrap ((t191 / 1073741824) + 1)) then (some (decide ((IntKind.u64.wrap (t192 - t191)) < 274877906944))) else (none)) else (none)) else (none)) else (none)) = some r := H
  have A4 := Aside0.mk A40
  clear A40
  by_cases c5 : t190 = true
  · subst c5
    have H1 : (if t191 ≤ t192 then (if t193 ≤ (IntKind.u64.wrap ((t192 / 1073741824) + 1)) then (if (IntKind.u64.wrap (t193 + 256)) ≥ (IntKind.u64.wrap ((t191 / 1073741824) + 1)) then (some (decide ((IntKind.u64.wrap (t192 - t191)) < 274877906944))) else (none)) else (none)) else (none)) = some r := by rw [if_pos rfl] at H; exact H
    clear H
    have H := H1
    clear H1
    by_cases c6 : t191 ≤ t192
    · rw [if_pos c6] at H
      have c6b0 : decide (t191 ≤ t192) = true := decide_eq_true c6
      clear c6
      by_cases c7 : t193 ≤ (IntKind.u64.wrap ((t192 / 1073741824) + 1))
      · rw [if_pos c7] at H
        have c7b0 : decide (t193 ≤ (IntKind.u64.wrap ((t192 / 1073741824) + 1))) = true := decide_eq_true c7
        clear c7
        by_cases c8 : (IntKind.u64.wrap (t193 + 256)) ≥ (IntKind.u64.wrap ((t191 / 1073741824) + 1))
        · rw [if_pos c8] at H
          have c8b0 : decide ((IntKind.u64.wrap ((t191 / 1073741824) + 1)) ≤ (IntKind.u64.wrap (t193 + 256))) = true := decide_eq_true c8
          clear c8
          obtain rfl := Option.some.inj H
          go_enter Tryd.func4, Tryd.ntmps4
          go_wp2_with (first | ((with_reducible refine gate_callee (f := 8) rfl ?_); refine goesL_ (some 8) rfl rfl Tryd.func8 (by kernel_rfl) rfl #[] rfl (by (try simp only [List.map_toArray, List.map_cons, List.map_nil]); first | done | rfl | (simp only [List.length_drop, List.length_take]; rfl)) ?_; (with_reducible refine (linhaylaw05_awake.calls k  true _ (HT.out.below (by repeat (first | (with_reducible first | exact HB.out | apply below_alloc | apply pw_below_drewN | apply below_drew1) | exact HB.out))) A2.out).mono ?_); rintro e w9 ⟨rfl, hb⟩; refine ⟨_, rfl, ?_⟩; have n0_ := Aside0.mk (below_step (by repeat (first | (with_reducible first | exact HB.out | apply below_alloc | apply pw_below_drewN | apply below_drew1) | exact HB.out)) hb); clear HB; have HB := n0_; clear n0_; (try clear hb); (try clear hb2); (try clear hk); (try clear hi)) | ((with_reducible refine gate_callee (f := 14) rfl ?_); refine goesL_ (some 13) rfl rfl Tryd.func14 (by kernel_rfl) rfl #[.int .u64 (Int.tmod a0 137438953472)] rfl (by (try simp only [List.map_toArray, List.map_cons, List.map_nil]); first | done | rfl | (simp only [List.length_drop, List.length_take]; rfl)) ?_; (with_reducible refine (linhayref05_Bounds.calls k (Int.tmod a0 137438953472) t191 t192 _ A3.out).mono ?_); rintro e w10 ⟨rfl, hb⟩; refine ⟨_, rfl, ?_⟩; have n0_ := Aside0.mk (below_step (by repeat (first | (with_reducible first | exact HB.out | apply below_alloc | apply pw_below_drewN | apply below_drew1) | exact HB.out)) hb); clear HB; have HB := n0_; clear n0_; (try clear hb); (try clear hb2); (try clear hk); (try clear hi)) | ((with_reducible refine gate_callee (f := 10) rfl ?_); refine goesL_ (some 17) rfl rfl Tryd.func10 (by kernel_rfl) rfl #[.int .u64 (Int.tmod a0 137438953472)] rfl (by (try simp only [List.map_toArray, List.map_cons, List.map_nil]); first | done | rfl | (simp only [List.length_drop, List.length_take]; rfl)) ?_; (with_reducible refine (expo_Of.calls k (Int.tmod a0 137438953472) t193 _ (HT.out.below (by repeat (first | (with_reducible first | exact HB.out | apply below_alloc | apply pw_below_drewN | apply below_drew1) | exact HB.out))) A4.out).mono ?_); rintro e w11 ⟨rfl, hb⟩; refine ⟨_, rfl, ?_⟩; have n0_ := Aside0.mk (below_step (by repeat (first | (with_reducible first | exact HB.out | apply below_alloc | apply pw_below_drewN | apply below_drew1) | exact HB.out)) hb); clear HB; have HB := n0_; clear n0_; (try clear hb); (try clear hb2); (try clear hk); (try clear hi)) | (go_at_call 8; (with_reducible refine (linhaylaw05_awake.calls k  true _ (HT.out.below (by repeat (first | (with_reducible first | exact HB.out | apply below_alloc | apply pw_below_drewN | apply below_drew1) | exact HB.out))) A2.out).mono ?_); rintro e w9 ⟨rfl, hb⟩; have n0_ := Aside0.mk (below_step (by repeat (first | (with_reducible first | exact HB.out | apply below_alloc | apply pw_below_drewN | apply below_drew1) | exact HB.out)) hb); clear HB; have HB := n0_; clear n0_; (try clear hb); (try clear hb2); (try clear hk); (try clear hi)) | (go_at_call 14; (with_reducible refine (linhayref05_Bounds.calls k (Int.tmod a0 137438953472) t191 t192 _ A3.out).mono ?_); rintro e w10 ⟨rfl, hb⟩; have n0_ := Aside0.mk (below_step (by repeat (first | (with_reducible first | exact HB.out | apply below_alloc | apply pw_below_drewN | apply below_drew1) | exact HB.out)) hb); clear HB; have HB := n0_; clear n0_; (try clear hb); (try clear hb2); (try clear hk); (try clear hi)) | (go_at_call 10; (with_reducible refine (expo_Of.calls k (Int.tmod a0 137438953472) t193 _ (HT.out.below (by repeat (first | (with_reducible first | exact HB.out | apply below_alloc | apply pw_below_drewN | apply below_drew1) | exact HB.out))) A4.out).mono ?_); rintro e w11 ⟨rfl, hb⟩; have n0_ := Aside0.mk (below_step (by repeat (first | (with_reducible first | exact HB.out | apply below_alloc | apply pw_below_drewN | apply below_drew1) | exact HB.out)) hb); clear HB; have HB := n0_; clear n0_; (try clear hb); (try clear hb2); (try clear hk); (try clear hi)))
          go_ret
          exact ⟨by first | rfl | (simp [errW_none, errW_some] <;> rfl) | (simp [*, errW_none, errW_some] <;> rfl), by repeat (first | (with_reducible first | exact HB.out | apply below_alloc | apply pw_below_drewN | apply below_drew1) | exact HB.out)⟩
        · rw [if_neg c8] at H
          exact absurd H (by simp)
      · rw [if_neg c7] at H
        exact absurd H (by simp)
    · rw [if_neg c6] at H
      exact absurd H (by simp)
  · replace c5 := Bool.eq_false_iff.mpr c5
    subst c5
    have H1 : (none) = some r := by rw [if_neg (show ¬ (false = true) by decide)] at H; exact H
    clear H
    have H := H1
    clear H1
    exact absurd H (by simp)

/-- THE ONE PURE STATEMENT of linhaylaw05_ExpoNear: yours. -/
def linhaylaw05_ExpoNear.Pure : Prop := ∀ (a0 : Int), (Lit.int .u64 a0).wf = true → ∃ k, linhaylaw05_ExpoNear.f k a0 = some true
/-! ### linhaylaw05_ExpoFalls: function 5 -/
def linhaylaw05_ExpoFalls.f (k : Nat) (a0 : Int) (a1 : Int) : Option (Bool) := (linhaylaw05_awake.f k).bind fun t194 => (if t194 = true then ((expo_Of.f k (Int.tmod (mn a0 a1) 137438953472)).bind fun t195 => (if t195 ≤ 4294967296 then ((expo_Of.f k (IntKind.u64.wrap ((Int.tmod (mn a0 a1) 137438953472) + (Int.tmod (IntKind.u64.wrap ((mx a0 a1) - (mn a0 a1))) 137438953472)))).bind fun t196 => ((expo_Of.f k (Int.tmod (mn a0 a1) 137438953472)).bind fun t197 => (some (decide (t196 ≤ (IntKind.u64.wrap (t197 + 1))))))) else (none))) else (none))
theorem linhaylaw05_ExpoFalls.mono : ∀ a0 a1 k, LeO (linhaylaw05_ExpoFalls.f k a0 a1) (linhaylaw05_ExpoFalls.f (k + 1) a0 a1) := by
  intro a0 a1 k
  unfold linhaylaw05_ExpoFalls.f
  repeat' first
      | (with_reducible exact expo_Of.mono _ _)
      | (with_reducible exact linhaylaw05_awake.mono _)
      | (with_reducible exact LeO.refl _)
      | (with_reducible exact LeO.none _)
      | (with_reducible refine LeO.ite ?_ ?_)
      | (with_reducible refine LeO.bind ?_ (fun _ => ?_))
      | exact expo_Of.mono _ _
      | exact linhaylaw05_awake.mono _
      | exact LeO.none _
      | refine LeO.ite ?_ ?_
      | refine LeO.bind ?_ (fun _ => ?_)
set_option maxHeartbeats 8000000 in
set_option maxRecDepth 100000 in
theorem linhaylaw05_ExpoFalls.calls (k : Nat) (a0 : Int) (a1 : Int) (r : Bool) (w : World) (hT : Tab w) (h : linhaylaw05_ExpoFalls.f k a0 a1 = some r) :
    Calls Tryd.prog 5 #[.int .u64 a0, .int .u64 a1] w fun e w' => e = .returned (.bool r) ∧ Below w.heap.size w w' := by
  have HT := Aside0.mk hT
  clear hT
  have HB := Aside0.mk (Below.refl w.heap.size w)
  have H : ((linhaylaw05_awake.f k).bind fun t194 => (if t194 = true then ((expo_Of.f k (Int.tmod (mn a0 a1) 137438953472)).bind fun t195 => (if t195 ≤ 4294967296 then ((expo_Of.f k (IntKind.u64.wrap ((Int.tmod (mn a0 a1) 137438953472) + (Int.tmod (IntKind.u64.wrap ((mx a0 a1) - (mn a0 a1))) 137438953472)))).bind fun t196 => ((expo_Of.f k (Int.tmod (mn a0 a1) 137438953472)).bind fun t197 => (some (decide (t196 ≤ (IntKind.u64.wrap (t197 + 1))))))) else (none))) else (none))) = some r := h
  clear h
  replace H := Option.bind_eq_some_iff.mp H
  obtain ⟨t194, A30, H⟩ := H
  replace H : (if t194 = true then ((expo_Of.f k (Int.tmod (mn a0 a1) 137438953472)).bind fun t195 => (if t195 ≤ 4294967296 then ((expo_Of.f k (IntKind.u64.wrap ((Int.tmod (mn a0 a1) 137438953472) + (Int.tmod (IntKind.u64.wrap ((mx a0 a1) - (mn a0 a1))) 137438953472)))).bind fun t196 => ((expo_Of.f k (Int.tmod (mn a0 a1) 137438953472)).bind fun t197 => (some (decide (t196 ≤ (IntKind.u64.wrap (t197 + 1))))))) else (none))) else (none)) = some r := H
  have A3 := Aside0.mk A30
  clear A30
  obtain ⟨ji4, hji4⟩ : ∃ j_ : Int, (mn a0 a1) = j_ := ⟨_, rfl⟩
  replace H : (if t194 = true then ((expo_Of.f k (Int.tmod (ji4) 137438953472)).bind fun t195 => (if t195 ≤ 4294967296 then ((expo_Of.f k (IntKind.u64.wrap ((Int.tmod (ji4) 137438953472) + (Int.tmod (IntKind.u64.wrap ((mx a0 a1) - (ji4))) 137438953472)))).bind fun t196 => ((expo_Of.f k (Int.tmod (ji4) 137438953472)).bind fun t197 => (some (decide (t196 ≤ (IntKind.u64.wrap (t197 + 1))))))) else (none))) else (none)) = some r := by first | (rw [hji4] at H; exact H) | (simp only [hji4] at H ⊢; exact H)
  (try rw [hji4] at A3)
  have hji4_ : (if a1 < a0 then a1 else a0) = ji4 := hji4
  obtain ⟨ji5, hji5⟩ : ∃ j_ : Int, (mx a0 a1) = j_ := ⟨_, rfl⟩
  replace H : (if t194 = true then ((expo_Of.f k (Int.tmod (ji4) 137438953472)).bind fun t195 => (if t195 ≤ 4294967296 then ((expo_Of.f k (IntKind.u64.wrap ((Int.tmod (ji4) 137438953472) + (Int.tmod (IntKind.u64.wrap ((ji5) - (ji4))) 137438953472)))).bind fun t196 => ((expo_Of.f k (Int.tmod (ji4) 137438953472)).bind fun t197 => (some (decide (t196 ≤ (IntKind.u64.wrap (t197 + 1))))))) else (none))) else (none)) = some r := by first | (rw [hji5] at H; exact H) | (simp only [hji5] at H ⊢; exact H)
  (try rw [hji5] at A3)
  have hji5_ : (if a0 < a1 then a1 else a0) = ji5 := hji5
  by_cases c7 : t194 = true
  · subst c7
    have H1 : ((expo_Of.f k (Int.tmod (ji4) 137438953472)).bind fun t195 => (if t195 ≤ 4294967296 then ((expo_Of.f k (IntKind.u64.wrap ((Int.tmod (ji4) 137438953472) + (Int.tmod (IntKind.u64.wrap ((ji5) - (ji4))) 137438953472)))).bind fun t196 => ((expo_Of.f k (Int.tmod (ji4) 137438953472)).bind fun t197 => (some (decide (t196 ≤ (IntKind.u64.wrap (t197 + 1))))))) else (none))) = some r := by rw [if_pos rfl] at H; exact H
    clear H
    have H := H1
    clear H1
    replace H := Option.bind_eq_some_iff.mp H
    obtain ⟨t195, A80, H⟩ := H
    replace H : (if t195 ≤ 4294967296 then ((expo_Of.f k (IntKind.u64.wrap ((Int.tmod (ji4) 137438953472) + (Int.tmod (IntKind.u64.wrap ((ji5) - (ji4))) 137438953472)))).bind fun t196 => ((expo_Of.f k (Int.tmod (ji4) 137438953472)).bind fun t197 => (some (decide (t196 ≤ (IntKind.u64.wrap (t197 + 1))))))) else (none)) = some r := H
    have A8 := Aside0.mk A80
    clear A80
    by_cases c9 : t195 ≤ 4294967296
    · rw [if_pos c9] at H
      have c9b0 : decide (t195 ≤ 4294967296) = true := decide_eq_true c9
      clear c9
      replace H := Option.bind_eq_some_iff.mp H
      obtain ⟨t196, A100, H⟩ := H
      replace H : ((expo_Of.f k (Int.tmod (ji4) 137438953472)).bind fun t197 => (some (decide (t196 ≤ (IntKind.u64.wrap (t197 + 1)))))) = some r := H
      have A10 := Aside0.mk A100
      clear A100
      replace H := Option.bind_eq_some_iff.mp H
      obtain ⟨t197, A110, H⟩ := H
      obtain rfl := Option.some.inj (A8.out.symm.trans A110)
      replace H : (some (decide (t196 ≤ (IntKind.u64.wrap (t195 + 1))))) = some r := H
      have A11 := Aside0.mk A110
      clear A110
      obtain rfl := Option.some.inj H
      go_enter Tryd.func5, Tryd.ntmps5
      go_wp2_with (first | ((with_reducible refine gate_callee (f := 8) rfl ?_); refine goesL_ (some 8) rfl rfl Tryd.func8 (by kernel_rfl) rfl #[] rfl (by (try simp only [List.map_toArray, List.map_cons, List.map_nil]); first | done | rfl | (simp only [List.length_drop, List.length_take]; rfl)) ?_; (with_reducible refine (linhaylaw05_awake.calls k  true _ (HT.out.below (by repeat (first | (with_reducible first | exact HB.out | apply below_alloc | apply pw_below_drewN | apply below_drew1) | exact HB.out))) A3.out).mono ?_); rintro e w12 ⟨rfl, hb⟩; refine ⟨_, rfl, ?_⟩; have n0_ := Aside0.mk (below_step (by repeat (first | (with_reducible first | exact HB.out | apply below_alloc | apply pw_below_drewN | apply below_drew1) | exact HB.out)) hb); clear HB; have HB := n0_; clear n0_; (try clear hb); (try clear hb2); (try clear hk); (try clear hi)) | (go_at_call 10; (with_reducible refine (expo_Of.calls k (Int.tmod (ji4) 137438953472) t195 _ (HT.out.below (by repeat (first | (with_reducible first | exact HB.out | apply below_alloc | apply pw_below_drewN | apply below_drew1) | exact HB.out))) A8.out).mono ?_); rintro e w13 ⟨rfl, hb⟩; have n0_ := Aside0.mk (below_step (by repeat (first | (with_reducible first | exact HB.out | apply below_alloc | apply pw_below_drewN | apply below_drew1) | exact HB.out)) hb); clear HB; have HB := n0_; clear n0_; (try clear hb); (try clear hb2); (try clear hk); (try clear hi)) | (go_at_call 10; (with_reducible refine (expo_Of.calls k (IntKind.u64.wrap ((Int.tmod (ji4) 137438953472) + (Int.tmod (IntKind.u64.wrap ((ji5) - (ji4))) 137438953472))) t196 _ (HT.out.below (by repeat (first | (with_reducible first | exact HB.out | apply below_alloc | apply pw_below_drewN | apply below_drew1) | exact HB.out))) A10.out).mono ?_); rintro e w14 ⟨rfl, hb⟩; have n0_ := Aside0.mk (below_step (by repeat (first | (with_reducible first | exact HB.out | apply below_alloc | apply pw_below_drewN | apply below_drew1) | exact HB.out)) hb); clear HB; have HB := n0_; clear n0_; (try clear hb); (try clear hb2); (try clear hk); (try clear hi)) | (go_at_call 10; (with_reducible refine (expo_Of.calls k (Int.tmod (ji4) 137438953472) t195 _ (HT.out.below (by repeat (first | (with_reducible first | exact HB.out | apply below_alloc | apply pw_below_drewN | apply below_drew1) | exact HB.out))) A11.out).mono ?_); rintro e w15 ⟨rfl, hb⟩; have n0_ := Aside0.mk (below_step (by repeat (first | (with_reducible first | exact HB.out | apply below_alloc | apply pw_below_drewN | apply below_drew1) | exact HB.out)) hb); clear HB; have HB := n0_; clear n0_; (try clear hb); (try clear hb2); (try clear hk); (try clear hi)) | (go_at_call 8; (with_reducible refine (linhaylaw05_awake.calls k  true _ (HT.out.below (by repeat (first | (with_reducible first | exact HB.out | apply below_alloc | apply pw_below_drewN | apply below_drew1) | exact HB.out))) A3.out).mono ?_); rintro e w12 ⟨rfl, hb⟩; have n0_ := Aside0.mk (below_step (by repeat (first | (with_reducible first | exact HB.out | apply below_alloc | apply pw_below_drewN | apply below_drew1) | exact HB.out)) hb); clear HB; have HB := n0_; clear n0_; (try clear hb); (try clear hb2); (try clear hk); (try clear hi)))
      go_ret
      exact ⟨by first | rfl | (simp [errW_none, errW_some] <;> rfl) | (simp only [← hji4, ← hji5]; first | rfl | (simp [errW_none, errW_some] <;> rfl)) | (simp [*, errW_none, errW_some] <;> rfl), by repeat (first | (with_reducible first | exact HB.out | apply below_alloc | apply pw_below_drewN | apply below_drew1) | exact HB.out)⟩
    · rw [if_neg c9] at H
      exact absurd H (by simp)
  · replace c7 := Bool.eq_false_iff.mpr c7
    subst c7
    have H1 : (none) = some r := by rw [if_neg (show ¬ (false = true) by decide)] at H; exact H
    clear H
    have H := H1
    clear H1
    exact absurd H (by simp)

/-- THE ONE PURE STATEMENT of linhaylaw05_ExpoFalls: yours. -/
def linhaylaw05_ExpoFalls.Pure : Prop := ∀ (a0 : Int) (a1 : Int), (Lit.int .u64 a0).wf = true → (Lit.int .u64 a1).wf = true → ∃ k, linhaylaw05_ExpoFalls.f k a0 a1 = some true
end Go.Proofs.YthpkiacaemhkkaaDoor.Print
