/- Lean functions that answer what Go functions of the translation answer, and the proofs of it. Written by a program of this session (wip/tools/seatprint.py), over contracts that it proved by hand. Conditions: those that each theorem says. -/
import Derived.Test.YtiokopkglmaffaaPrint0
import Derived.Test.YtiokopkglmaffaaPrint2
import Derived.Test.YtiokopkglmaffaaPrint3
namespace Go.Proofs.Ytiokopkglmaffaa.Print
open Go.RowKit Go.Proofs.YtiokopkglmaffaaW.PrintWords Go.Proofs.YtiokopkglmaffaaW.PrintLast Go.Proofs.YtiokopkglmaffaaW.PrintMore
attribute [local go_sem] max2_int min2_int max_two min_two max_three min_three max_four min_four   -- for this text's walks alone
set_option linter.unusedVariables false
set_option linter.unusedSimpArgs false

/-! ### ratio_part_with_ratio_Floor_1: function 83 -/
section
open Go Go.ChangeShapes
theorem goesV_83 {P : Program} {ops : Array Oper} {Q : Exit → Act → World → Prop} {oi : Oper} {N : Option Tmp} {a : Act} {w : World} {K : Act → World → Prop} {f : FuncId} {fn : Func} {oas : Array Operand} {ts : Array TypeId} {o : Operand} (hf : P.funcs[f]? = some fn) (hname : (fn.name == "runtime.NumGoroutine") = false) (hb : fn.body.isSome = true) (args : Array Value)
    (hw : Region.wanted oi (yielded ops a.tmps) = true) (hN : oi.dst = N) (hop : oi.op = .call { callee := .value o, args := oas, argTypes := ts }) (hargs : oas.map a.eval = args) (hcal : a.eval o = .func (.func f) #[] #[])
    (h : Calls P f args w fun e w' => ∃ v, e = .returned v ∧ K (a.put N v) w') : if Region.wanted oi (yielded ops a.tmps) = true then Oper.wp P oi a w K Q else K (a.put N undef) w := by
  refine call_ f args hw hN ?_ h
  have he := enters_ hf hname hb args w
  unfold execOp
  simp [hop, resolve, Deferred.ofValue, invoke, hargs, hcal, he]
end
def ratio_part_with_ratio_Floor_1.f (k : Nat) (a0 : Int) (a1 : Int) (a2 : Int) : Option (Int × Int) := (wide_Mul.f a0 a1).bind fun bt117 => ((wide_Div.f k bt117.1 bt117.2 a2).bind fun bt119 => (if bt119.2.2.2 = 0 then ((ratio_Floor_1.f bt119.2.2.1).bind fun t124 => (if t124 = true then ((wide_Of.f 1).bind fun bt125 => ((wide_Add.f bt119.1 bt119.2.1 bt125.1 bt125.2).bind fun bt127 => (if bt127.1 > 0 then (some (0, 10)) else (some (bt127.2.1, 0))))) else (if bt119.1 > 0 then (some (0, 10)) else (some (bt119.2.1, 0))))) else (some (0, bt119.2.2.2))))
theorem ratio_part_with_ratio_Floor_1.mono : ∀ a0 a1 a2 k, LeO (ratio_part_with_ratio_Floor_1.f k a0 a1 a2) (ratio_part_with_ratio_Floor_1.f (k + 1) a0 a1 a2) := by
  intro a0 a1 a2 k
  unfold ratio_part_with_ratio_Floor_1.f
  repeat' first
      | (with_reducible exact wide_Div.mono _ _ _ _)
      | (with_reducible exact LeO.refl _)
      | (with_reducible exact LeO.none _)
      | (with_reducible refine LeO.ite ?_ ?_)
      | (with_reducible refine LeO.bind ?_ (fun _ => ?_))
      | exact wide_Div.mono _ _ _ _
      | exact LeO.none _
      | refine LeO.ite ?_ ?_
      | refine LeO.bind ?_ (fun _ => ?_)
set_option maxHeartbeats 8000000 in
set_option maxRecDepth 100000 in
theorem ratio_part_with_ratio_Floor_1.calls (k : Nat) (a0 : Int) (a1 : Int) (a2 : Int) (r1 : Int) (r2 : Int) (w : World) (h : ratio_part_with_ratio_Floor_1.f k a0 a1 a2 = some (r1, r2)) :
    Calls Try.prog 52 #[.int .u64 a0, .int .u64 a1, .int .u64 a2, .func (.func 53) #[] #[]] w fun e w' => e = .returned (.tuple #[.int .u64 r1, .int .i64 r2]) ∧ Below w.heap.size w w' := by
  have hu60 := Try.underlying60
  have HB := Aside0.mk (Below.refl w.heap.size w)
  have H : ((wide_Mul.f a0 a1).bind fun bt117 => ((wide_Div.f k bt117.1 bt117.2 a2).bind fun bt119 => (if bt119.2.2.2 = 0 then ((ratio_Floor_1.f bt119.2.2.1).bind fun t124 => (if t124 = true then ((wide_Of.f 1).bind fun bt125 => ((wide_Add.f bt119.1 bt119.2.1 bt125.1 bt125.2).bind fun bt127 => (if bt127.1 > 0 then (some (0, 10)) else (some (bt127.2.1, 0))))) else (if bt119.1 > 0 then (some (0, 10)) else (some (bt119.2.1, 0))))) else (some (0, bt119.2.2.2))))) = some (r1, r2) := h
  clear h
  replace H := Option.bind_eq_some_iff.mp H
  obtain ⟨⟨t117, t118⟩, A40, H⟩ := H
  replace H : ((wide_Div.f k t117 t118 a2).bind fun bt119 => (if bt119.2.2.2 = 0 then ((ratio_Floor_1.f bt119.2.2.1).bind fun t124 => (if t124 = true then ((wide_Of.f 1).bind fun bt125 => ((wide_Add.f bt119.1 bt119.2.1 bt125.1 bt125.2).bind fun bt127 => (if bt127.1 > 0 then (some (0, 10)) else (some (bt127.2.1, 0))))) else (if bt119.1 > 0 then (some (0, 10)) else (some (bt119.2.1, 0))))) else (some (0, bt119.2.2.2)))) = some (r1, r2) := H
  have A4 := Aside0.mk A40
  clear A40
  replace H := Option.bind_eq_some_iff.mp H
  obtain ⟨⟨t119, t120, t121, t122⟩, A50, H⟩ := H
  replace H : (if t122 = 0 then ((ratio_Floor_1.f t121).bind fun t124 => (if t124 = true then ((wide_Of.f 1).bind fun bt125 => ((wide_Add.f t119 t120 bt125.1 bt125.2).bind fun bt127 => (if bt127.1 > 0 then (some (0, 10)) else (some (bt127.2.1, 0))))) else (if t119 > 0 then (some (0, 10)) else (some (t120, 0))))) else (some (0, t122))) = some (r1, r2) := H
  have A5 := Aside0.mk A50
  clear A50
  by_cases c6 : t122 = 0
  · rw [if_pos c6] at H
    have c6b0 : (t122 == 0) = true := beq_iff_eq.mpr c6
    have c6b1 : (t122 != 0) = false := bne_eq_false_iff_eq.mpr c6
    clear c6
    replace H := Option.bind_eq_some_iff.mp H
    obtain ⟨t124, A70, H⟩ := H
    replace H : (if t124 = true then ((wide_Of.f 1).bind fun bt125 => ((wide_Add.f t119 t120 bt125.1 bt125.2).bind fun bt127 => (if bt127.1 > 0 then (some (0, 10)) else (some (bt127.2.1, 0))))) else (if t119 > 0 then (some (0, 10)) else (some (t120, 0)))) = some (r1, r2) := H
    have A7 := Aside0.mk A70
    clear A70
    by_cases c8 : t124 = true
    · subst c8
      have H1 : ((wide_Of.f 1).bind fun bt125 => ((wide_Add.f t119 t120 bt125.1 bt125.2).bind fun bt127 => (if bt127.1 > 0 then (some (0, 10)) else (some (bt127.2.1, 0))))) = some (r1, r2) := by rw [if_pos rfl] at H; exact H
      clear H
      have H := H1
      clear H1
      replace H := Option.bind_eq_some_iff.mp H
      obtain ⟨⟨t125, t126⟩, A90, H⟩ := H
      replace H : ((wide_Add.f t119 t120 t125 t126).bind fun bt127 => (if bt127.1 > 0 then (some (0, 10)) else (some (bt127.2.1, 0)))) = some (r1, r2) := H
      have A9 := Aside0.mk A90
      clear A90
      replace H := Option.bind_eq_some_iff.mp H
      obtain ⟨⟨t127, t128, t129⟩, A100, H⟩ := H
      replace H : (if t127 > 0 then (some (0, 10)) else (some (t128, 0))) = some (r1, r2) := H
      have A10 := Aside0.mk A100
      clear A100
      by_cases c11 : t127 > 0
      · rw [if_pos c11] at H
        have c11b0 : decide (0 < t127) = true := decide_eq_true c11
        clear c11
        simp only [Option.some.injEq, Prod.mk.injEq] at H
        obtain ⟨rfl, rfl⟩ := H
        go_enter Try.func52, Try.ntmps52
        try go_wp2_with (first | ((with_reducible refine gate_callee (f := 50) rfl ?_); refine goesL_ (some 16) rfl rfl Try.func50 (by kernel_rfl) rfl #[.int .u64 a0, .int .u64 a1] rfl (by (try simp only [List.map_toArray, List.map_cons, List.map_nil]); first | done | rfl | (simp only [List.length_drop, List.length_take]; rfl)) ?_; (with_reducible refine (wide_Mul.calls a0 a1 t117 t118 _ A4.out).mono ?_); rintro e w12 ⟨rfl, hb⟩; refine ⟨_, rfl, ?_⟩; have n0_ := Aside0.mk (below_step (by repeat (first | (with_reducible first | exact HB.out | apply below_alloc | apply pw_below_drewN | apply below_drew1) | exact HB.out)) hb); clear HB; have HB := n0_; clear n0_; (try clear hb); (try clear hb2); (try clear hk); (try clear hi)) | ((with_reducible refine gate_callee (f := 58) rfl ?_); refine goesL_ (some 18) rfl rfl Try.func58 (by kernel_rfl) rfl #[.agg #[.int .u64 t117, .int .u64 t118], .int .u64 a2] rfl (by (try simp only [List.map_toArray, List.map_cons, List.map_nil]); first | done | rfl | (simp only [List.length_drop, List.length_take]; rfl)) ?_; (with_reducible refine (wide_Div.calls k t117 t118 a2 t119 t120 t121 t122 _ A5.out).mono ?_); rintro e w13 ⟨rfl, hb⟩; refine ⟨_, rfl, ?_⟩; have n0_ := Aside0.mk (below_step (by repeat (first | (with_reducible first | exact HB.out | apply below_alloc | apply pw_below_drewN | apply below_drew1) | exact HB.out)) hb); clear HB; have HB := n0_; clear n0_; (try clear hb); (try clear hb2); (try clear hk); (try clear hi)) | ((with_reducible refine gate_dst (N := 10) rfl ?_); refine box_event ?hg (N := 10) ?hd (cs := #[.int .u64 0, .int .u64 0]) (t := 60) ?hr ?_; (case hd => rfl); (case hg => rfl); (case hr => first | (go_simp; done) | (go_simp; rfl)); intro gb123 hg w14 hbox hb; have n0_ := Aside0.mk (below_step (by repeat (first | (with_reducible first | exact HB.out | apply below_alloc | apply pw_below_drewN | apply below_drew1) | exact HB.out)) hb); have n1_ := Aside0.mk (hbox); have n2_ := Aside0.mk ((by rw [hg]; exact (below_size (by repeat (first | (with_reducible first | exact HB.out | apply below_alloc | apply pw_below_drewN | apply below_drew1) | exact HB.out))) : w.heap.size ≤ gb123)); have n3_ := Aside0.mk ((by rw [hg]; exact (below_size (by repeat (first | (with_reducible first | exact HB.out | apply below_alloc | apply pw_below_drewN | apply below_drew1) | exact HB.out))) : w.heap.size ≤ gb123)); clear HB; have HB := n0_; have BK123 := n1_; have GW123 := n2_; have GE123 := n3_; clear n0_ n1_ n2_ n3_; clear hb hbox hg; have hcz15_0 : w14.cell? ⟨gb123, 0, none⟩ = some (.int .u64 0) := (blk_cell BK123.out 0).trans rfl; have hcz15_1 : w14.cell? ⟨gb123, 1, none⟩ = some (.int .u64 0) := (blk_cell BK123.out 1).trans rfl; have hfz15_0 := blk_frozen BK123.out 0; have hfz15_1 := blk_frozen BK123.out 1) | ((with_reducible refine gate_callee (f := 53) rfl ?_); refine goesL_ (some 27) rfl rfl Try.func53 (by kernel_rfl) rfl #[.int .u64 t121] rfl (by (try simp only [List.map_toArray, List.map_cons, List.map_nil]); first | done | rfl | (simp only [List.length_drop, List.length_take]; rfl)) ?_; (with_reducible refine (ratio_Floor_1.calls t121 true _ A7.out).mono ?_); rintro e w' ⟨rfl, ⟨nd, rfl⟩⟩; refine ⟨_, rfl, ?_⟩) | (go_at_call 50; (with_reducible refine (wide_Mul.calls a0 a1 t117 t118 _ A4.out).mono ?_); rintro e w12 ⟨rfl, hb⟩; have n0_ := Aside0.mk (below_step (by repeat (first | (with_reducible first | exact HB.out | apply below_alloc | apply pw_below_drewN | apply below_drew1) | exact HB.out)) hb); clear HB; have HB := n0_; clear n0_; (try clear hb); (try clear hb2); (try clear hk); (try clear hi)) | (go_at_call 58; (with_reducible refine (wide_Div.calls k t117 t118 a2 t119 t120 t121 t122 _ A5.out).mono ?_); rintro e w13 ⟨rfl, hb⟩; have n0_ := Aside0.mk (below_step (by repeat (first | (with_reducible first | exact HB.out | apply below_alloc | apply pw_below_drewN | apply below_drew1) | exact HB.out)) hb); clear HB; have HB := n0_; clear n0_; (try clear hb); (try clear hb2); (try clear hk); (try clear hi)) | (go_at_call 53; (with_reducible refine (ratio_Floor_1.calls t121 true _ A7.out).mono ?_); rintro e w' ⟨rfl, ⟨nd, rfl⟩⟩))
        have n0_ : Aside0 (((w14.setCell ⟨gb123, 0, none⟩ (.int .u64 t119)).setCell ⟨gb123, 1, none⟩ (.int .u64 t120)).heap[gb123]? = some (.cells #[.int .u64 t119, .int .u64 t120] 60 (0, 0))) := ⟨by (with_reducible repeat (first | refine blk_drewN ?_ _ | refine blk_drew ?_ | refine blk_alloc ?_ _)); refine blk_put (cs := #[.int .u64 t119, .int .u64 0]) ?_ 1 _ rfl; (with_reducible repeat (first | refine blk_drewN ?_ _ | refine blk_drew ?_ | refine blk_alloc ?_ _)); refine blk_put (cs := #[.int .u64 0, .int .u64 0]) ?_ 0 _ rfl; (with_reducible repeat (first | refine blk_drewN ?_ _ | refine blk_drew ?_ | refine blk_alloc ?_ _)); exact BK123.out⟩
        have n1_ : Aside0 (Below w.heap.size w ((w14.setCell ⟨gb123, 0, none⟩ (.int .u64 t119)).setCell ⟨gb123, 1, none⟩ (.int .u64 t120))) := ⟨by repeat (first | (with_reducible first | exact HB.out | apply below_alloc | apply pw_below_drewN | apply below_drew1 | refine below_set ?_ GE123.out) | exact HB.out)⟩
        (try clear BK123)
        (try clear HB)
        generalize ((w14.setCell ⟨gb123, 0, none⟩ (.int .u64 t119)).setCell ⟨gb123, 1, none⟩ (.int .u64 t120)) = w16 at n0_ n1_ ⊢
        have BK123 := n0_
        have HB := n1_
        clear n0_ n1_
        (try (rw [drewN_self w16]; generalize hq_ : World.drewN w16 _ = w16; have n0_ : Aside0 (w16.heap[gb123]? = some (.cells #[.int .u64 t119, .int .u64 t120] 60 (0, 0))) := ⟨by rw [← hq_]; exact (by (with_reducible repeat (first | refine blk_drewN ?_ _ | refine blk_drew ?_ | refine blk_alloc ?_ _)); exact BK123.out)⟩; have n1_ : Aside0 (Below w.heap.size w w16) := ⟨by rw [← hq_]; exact (by repeat (first | (with_reducible first | exact HB.out | apply below_alloc | apply pw_below_drewN | apply below_drew1 | refine below_set ?_ GE123.out) | exact HB.out))⟩; clear BK123 HB hq_; have BK123 := n0_; have HB := n1_; clear n0_ n1_))
        have n0_ := Aside0.mk (blk_drew BK123.out)
        have n1_ := Aside0.mk (below_drew1 HB.out)
        clear BK123
        clear HB
        have BK123 := n0_
        have HB := n1_
        clear n0_ n1_
        refine start_ (n := 7) (S := fun w' => w'.cell? ⟨gb123, 0, none⟩ = some (.int .u64 t119) ∧ w'.cell? ⟨gb123, 1, none⟩ = some (.int .u64 t120)) (ds := [6]) #[false, false, false, false, false, false, false] (by kernel_rfl) rfl rfl ⟨(blk_cell BK123.out 0).trans rfl, (blk_cell BK123.out 1).trans rfl⟩ (fun hHeld => ?_)
        generalize w16.drew = w17 at BK123 HB hHeld ⊢
        refine take_ (i := 0) (N := some 29) (v := ?_) (a' := ?_) #[true, false, false, false, false, false, false] rfl rfl (by kernel_rfl) (fun _ _ _ h => h) (Or.inl ⟨by rfl, ?_⟩) hHeld ?_ ?_
        rotate_left
        · rintro w' ⟨s0, s1⟩
          go_simp
          with_reducible rfl
        rotate_left
        · simp only [Act.put, List.setIfInBounds_toArray, List.set_cons_zero, List.set_cons_succ, i64_w, i32_w]
          rfl
        refine one_ (i := 1) (N := some 30) #[true, true, false, false, false, false, false] rfl rfl (by kernel_rfl) (by decide) (fun K hK => ?_)
        first | (refine goes_ Try.func60 (by kernel_rfl) rfl #[.int .u64 1] (by rfl) rfl rfl (by (try simp only [List.map_toArray, List.map_cons, List.map_nil]); first | done | rfl | (simp only [List.length_drop, List.length_take]; rfl)) ?_) | (refine goesV_83 Try.func60 (by kernel_rfl) rfl #[.int .u64 1] (by rfl) rfl rfl (by (try simp only [List.map_toArray, List.map_cons, List.map_nil]); first | done | rfl | (simp only [List.length_drop, List.length_take]; rfl)) (by first | rfl | (go_simp; done) | (go_simp; rfl)) ?_)
        with_reducible refine (wide_Of.calls 1 t125 t126 _ A9.out).mono ?_
        rintro e w18 ⟨rfl, hb⟩
        refine ⟨_, rfl, ?_⟩
        have n0_ := Aside0.mk (blk_below (g := gb123) (o := .cells #[.int .u64 t119, .int .u64 t120] 60 (0, 0)) (by (with_reducible repeat (first | refine blk_drewN ?_ _ | refine blk_drew ?_ | refine blk_alloc ?_ _)); exact BK123.out) hb)
        have n1_ := Aside0.mk (below_step (by repeat (first | (with_reducible first | exact HB.out | apply below_alloc | apply pw_below_drewN | apply below_drew1 | refine below_set ?_ GE123.out) | exact HB.out)) hb)
        clear BK123
        clear HB
        have BK123 := n0_
        have HB := n1_
        clear n0_ n1_
        (try clear hb)
        (try clear hb2)
        (try clear hk)
        (try clear hi)
        refine hK.out _ _ ⟨(blk_cell BK123.out 0).trans rfl, (blk_cell BK123.out 1).trans rfl⟩ (fun hHeld => ?_)
        clear hK K
        refine norm_ (a' := ?_) ?_ ?_
        rotate_left
        · show Act.put _ (some 30) _ = _
          simp only [Act.put, List.setIfInBounds_toArray, List.set_cons_zero, List.set_cons_succ, i64_w, i32_w]
          rfl
        refine one_ (i := 2) (N := some 31) #[true, true, true, false, false, false, false] rfl rfl (by kernel_rfl) (by decide) (fun K hK => ?_)
        first | (refine goes_ Try.func59 (by kernel_rfl) rfl #[.agg #[.int .u64 t119, .int .u64 t120], .agg #[.int .u64 t125, .int .u64 t126]] (by rfl) rfl rfl (by (try simp only [List.map_toArray, List.map_cons, List.map_nil]); first | done | rfl | (simp only [List.length_drop, List.length_take]; rfl)) ?_) | (refine goesV_83 Try.func59 (by kernel_rfl) rfl #[.agg #[.int .u64 t119, .int .u64 t120], .agg #[.int .u64 t125, .int .u64 t126]] (by rfl) rfl rfl (by (try simp only [List.map_toArray, List.map_cons, List.map_nil]); first | done | rfl | (simp only [List.length_drop, List.length_take]; rfl)) (by first | rfl | (go_simp; done) | (go_simp; rfl)) ?_)
        with_reducible refine (wide_Add.calls t119 t120 t125 t126 t127 t128 t129 _ A10.out).mono ?_
        rintro e w19 ⟨rfl, hb⟩
        refine ⟨_, rfl, ?_⟩
        have n0_ := Aside0.mk (blk_below (g := gb123) (o := .cells #[.int .u64 t119, .int .u64 t120] 60 (0, 0)) (by (with_reducible repeat (first | refine blk_drewN ?_ _ | refine blk_drew ?_ | refine blk_alloc ?_ _)); exact BK123.out) hb)
        have n1_ := Aside0.mk (below_step (by repeat (first | (with_reducible first | exact HB.out | apply below_alloc | apply pw_below_drewN | apply below_drew1 | refine below_set ?_ GE123.out) | exact HB.out)) hb)
        clear BK123
        clear HB
        have BK123 := n0_
        have HB := n1_
        clear n0_ n1_
        (try clear hb)
        (try clear hb2)
        (try clear hk)
        (try clear hi)
        refine hK.out _ _ ⟨(blk_cell BK123.out 0).trans rfl, (blk_cell BK123.out 1).trans rfl⟩ (fun hHeld => ?_)
        clear hK K
        refine norm_ (a' := ?_) ?_ ?_
        rotate_left
        · show Act.put _ (some 31) _ = _
          simp only [Act.put, List.setIfInBounds_toArray, List.set_cons_zero, List.set_cons_succ, i64_w, i32_w]
          rfl
        refine pure_ (i := 3) (N := some 28) (v := ?_) (a' := ?_) #[true, true, true, true, false, false, false] rfl rfl (by kernel_rfl) (fun _ _ _ h => h) (Or.inl ⟨by rfl, ?_⟩) ?_ ?_
        rotate_left
        · intro w'
          go_simp
          with_reducible rfl
        rotate_left
        · simp only [Act.put, List.setIfInBounds_toArray, List.set_cons_zero, List.set_cons_succ, i64_w, i32_w]
          rfl
        refine pure_ (i := 4) (N := some 32) (v := ?_) (a' := ?_) #[true, true, true, true, true, false, false] rfl rfl (by kernel_rfl) (fun _ _ _ h => h) (Or.inl ⟨by rfl, ?_⟩) ?_ ?_
        rotate_left
        · intro w'
          go_simp
          with_reducible rfl
        rotate_left
        · simp only [Act.put, List.setIfInBounds_toArray, List.set_cons_zero, List.set_cons_succ, i64_w, i32_w]
          rfl
        refine pure_ (i := 5) (N := some 33) (v := ?_) (a' := ?_) #[true, true, true, true, true, true, false] rfl rfl (by kernel_rfl) (fun _ _ _ h => h) (Or.inl ⟨by rfl, ?_⟩) ?_ ?_
        rotate_left
        · intro w'
          go_simp
          with_reducible rfl
        rotate_left
        · simp only [Act.put, List.setIfInBounds_toArray, List.set_cons_zero, List.set_cons_succ, i64_w, i32_w]
          rfl
        refine last_ (i := 6) (N := none) #[true, true, true, true, true, true, true] rfl rfl (by kernel_rfl) (by decide) (fun K hK => ?_)
        have hs20 : w19.cell? ⟨gb123, 0, none⟩ = some (.int .u64 t119) := (blk_cell BK123.out 0).trans rfl
        have hfs20 := blk_frozen BK123.out 0
        have hs21 : w19.cell? ⟨gb123, 1, none⟩ = some (.int .u64 t120) := (blk_cell BK123.out 1).trans rfl
        have hfs21 := blk_frozen BK123.out 1
        refine skip_ (w1 := ?_) (by rfl) rfl ?_ ?_
        rotate_left
        · go_simp
          rfl
        refine hK.out _ _ ?_
        clear hK K
        refine done_ (by kernel_rfl) ?_
        have hcz22_0 : w19.cell? ⟨gb123, 0, none⟩ = some (.int .u64 t119) := (blk_cell BK123.out 0).trans rfl
        have hcz22_1 : w19.cell? ⟨gb123, 1, none⟩ = some (.int .u64 t120) := (blk_cell BK123.out 1).trans rfl
        have hfz22_0 := blk_frozen BK123.out 0
        have hfz22_1 := blk_frozen BK123.out 1
        try go_wp2
        go_ret2
        exact ⟨by first | rfl | (simp [errW_none, errW_some] <;> rfl) | (simp [*, errW_none, errW_some] <;> rfl), by repeat (first | (with_reducible first | exact HB.out | apply below_alloc | apply pw_below_drewN | apply below_drew1 | refine below_set ?_ GE123.out) | exact HB.out)⟩
      · rw [if_neg c11] at H
        have c11b0 : decide (0 < t127) = false := decide_eq_false c11
        clear c11
        simp only [Option.some.injEq, Prod.mk.injEq] at H
        obtain ⟨rfl, rfl⟩ := H
        go_enter Try.func52, Try.ntmps52
        try go_wp2_with (first | ((with_reducible refine gate_callee (f := 50) rfl ?_); refine goesL_ (some 16) rfl rfl Try.func50 (by kernel_rfl) rfl #[.int .u64 a0, .int .u64 a1] rfl (by (try simp only [List.map_toArray, List.map_cons, List.map_nil]); first | done | rfl | (simp only [List.length_drop, List.length_take]; rfl)) ?_; (with_reducible refine (wide_Mul.calls a0 a1 t117 t118 _ A4.out).mono ?_); rintro e w23 ⟨rfl, hb⟩; refine ⟨_, rfl, ?_⟩; have n0_ := Aside0.mk (below_step (by repeat (first | (with_reducible first | exact HB.out | apply below_alloc | apply pw_below_drewN | apply below_drew1) | exact HB.out)) hb); clear HB; have HB := n0_; clear n0_; (try clear hb); (try clear hb2); (try clear hk); (try clear hi)) | ((with_reducible refine gate_callee (f := 58) rfl ?_); refine goesL_ (some 18) rfl rfl Try.func58 (by kernel_rfl) rfl #[.agg #[.int .u64 t117, .int .u64 t118], .int .u64 a2] rfl (by (try simp only [List.map_toArray, List.map_cons, List.map_nil]); first | done | rfl | (simp only [List.length_drop, List.length_take]; rfl)) ?_; (with_reducible refine (wide_Div.calls k t117 t118 a2 t119 t120 t121 t122 _ A5.out).mono ?_); rintro e w24 ⟨rfl, hb⟩; refine ⟨_, rfl, ?_⟩; have n0_ := Aside0.mk (below_step (by repeat (first | (with_reducible first | exact HB.out | apply below_alloc | apply pw_below_drewN | apply below_drew1) | exact HB.out)) hb); clear HB; have HB := n0_; clear n0_; (try clear hb); (try clear hb2); (try clear hk); (try clear hi)) | ((with_reducible refine gate_dst (N := 10) rfl ?_); refine box_event ?hg (N := 10) ?hd (cs := #[.int .u64 0, .int .u64 0]) (t := 60) ?hr ?_; (case hd => rfl); (case hg => rfl); (case hr => first | (go_simp; done) | (go_simp; rfl)); intro gb123 hg w25 hbox hb; have n0_ := Aside0.mk (below_step (by repeat (first | (with_reducible first | exact HB.out | apply below_alloc | apply pw_below_drewN | apply below_drew1) | exact HB.out)) hb); have n1_ := Aside0.mk (hbox); have n2_ := Aside0.mk ((by rw [hg]; exact (below_size (by repeat (first | (with_reducible first | exact HB.out | apply below_alloc | apply pw_below_drewN | apply below_drew1) | exact HB.out))) : w.heap.size ≤ gb123)); have n3_ := Aside0.mk ((by rw [hg]; exact (below_size (by repeat (first | (with_reducible first | exact HB.out | apply below_alloc | apply pw_below_drewN | apply below_drew1) | exact HB.out))) : w.heap.size ≤ gb123)); clear HB; have HB := n0_; have BK123 := n1_; have GW123 := n2_; have GE123 := n3_; clear n0_ n1_ n2_ n3_; clear hb hbox hg; have hcz26_0 : w25.cell? ⟨gb123, 0, none⟩ = some (.int .u64 0) := (blk_cell BK123.out 0).trans rfl; have hcz26_1 : w25.cell? ⟨gb123, 1, none⟩ = some (.int .u64 0) := (blk_cell BK123.out 1).trans rfl; have hfz26_0 := blk_frozen BK123.out 0; have hfz26_1 := blk_frozen BK123.out 1) | ((with_reducible refine gate_callee (f := 53) rfl ?_); refine goesL_ (some 27) rfl rfl Try.func53 (by kernel_rfl) rfl #[.int .u64 t121] rfl (by (try simp only [List.map_toArray, List.map_cons, List.map_nil]); first | done | rfl | (simp only [List.length_drop, List.length_take]; rfl)) ?_; (with_reducible refine (ratio_Floor_1.calls t121 true _ A7.out).mono ?_); rintro e w' ⟨rfl, ⟨nd, rfl⟩⟩; refine ⟨_, rfl, ?_⟩) | (go_at_call 50; (with_reducible refine (wide_Mul.calls a0 a1 t117 t118 _ A4.out).mono ?_); rintro e w23 ⟨rfl, hb⟩; have n0_ := Aside0.mk (below_step (by repeat (first | (with_reducible first | exact HB.out | apply below_alloc | apply pw_below_drewN | apply below_drew1) | exact HB.out)) hb); clear HB; have HB := n0_; clear n0_; (try clear hb); (try clear hb2); (try clear hk); (try clear hi)) | (go_at_call 58; (with_reducible refine (wide_Div.calls k t117 t118 a2 t119 t120 t121 t122 _ A5.out).mono ?_); rintro e w24 ⟨rfl, hb⟩; have n0_ := Aside0.mk (below_step (by repeat (first | (with_reducible first | exact HB.out | apply below_alloc | apply pw_below_drewN | apply below_drew1) | exact HB.out)) hb); clear HB; have HB := n0_; clear n0_; (try clear hb); (try clear hb2); (try clear hk); (try clear hi)) | (go_at_call 53; (with_reducible refine (ratio_Floor_1.calls t121 true _ A7.out).mono ?_); rintro e w' ⟨rfl, ⟨nd, rfl⟩⟩))
        have n0_ : Aside0 (((w25.setCell ⟨gb123, 0, none⟩ (.int .u64 t119)).setCell ⟨gb123, 1, none⟩ (.int .u64 t120)).heap[gb123]? = some (.cells #[.int .u64 t119, .int .u64 t120] 60 (0, 0))) := ⟨by (with_reducible repeat (first | refine blk_drewN ?_ _ | refine blk_drew ?_ | refine blk_alloc ?_ _)); refine blk_put (cs := #[.int .u64 t119, .int .u64 0]) ?_ 1 _ rfl; (with_reducible repeat (first | refine blk_drewN ?_ _ | refine blk_drew ?_ | refine blk_alloc ?_ _)); refine blk_put (cs := #[.int .u64 0, .int .u64 0]) ?_ 0 _ rfl; (with_reducible repeat (first | refine blk_drewN ?_ _ | refine blk_drew ?_ | refine blk_alloc ?_ _)); exact BK123.out⟩
        have n1_ : Aside0 (Below w.heap.size w ((w25.setCell ⟨gb123, 0, none⟩ (.int .u64 t119)).setCell ⟨gb123, 1, none⟩ (.int .u64 t120))) := ⟨by repeat (first | (with_reducible first | exact HB.out | apply below_alloc | apply pw_below_drewN | apply below_drew1 | refine below_set ?_ GE123.out) | exact HB.out)⟩
        (try clear BK123)
        (try clear HB)
        generalize ((w25.setCell ⟨gb123, 0, none⟩ (.int .u64 t119)).setCell ⟨gb123, 1, none⟩ (.int .u64 t120)) = w27 at n0_ n1_ ⊢
        have BK123 := n0_
        have HB := n1_
        clear n0_ n1_
        (try (rw [drewN_self w27]; generalize hq_ : World.drewN w27 _ = w27; have n0_ : Aside0 (w27.heap[gb123]? = some (.cells #[.int .u64 t119, .int .u64 t120] 60 (0, 0))) := ⟨by rw [← hq_]; exact (by (with_reducible repeat (first | refine blk_drewN ?_ _ | refine blk_drew ?_ | refine blk_alloc ?_ _)); exact BK123.out)⟩; have n1_ : Aside0 (Below w.heap.size w w27) := ⟨by rw [← hq_]; exact (by repeat (first | (with_reducible first | exact HB.out | apply below_alloc | apply pw_below_drewN | apply below_drew1 | refine below_set ?_ GE123.out) | exact HB.out))⟩; clear BK123 HB hq_; have BK123 := n0_; have HB := n1_; clear n0_ n1_))
        have n0_ := Aside0.mk (blk_drew BK123.out)
        have n1_ := Aside0.mk (below_drew1 HB.out)
        clear BK123
        clear HB
        have BK123 := n0_
        have HB := n1_
        clear n0_ n1_
        refine start_ (n := 7) (S := fun w' => w'.cell? ⟨gb123, 0, none⟩ = some (.int .u64 t119) ∧ w'.cell? ⟨gb123, 1, none⟩ = some (.int .u64 t120)) (ds := [6]) #[false, false, false, false, false, false, false] (by kernel_rfl) rfl rfl ⟨(blk_cell BK123.out 0).trans rfl, (blk_cell BK123.out 1).trans rfl⟩ (fun hHeld => ?_)
        generalize w27.drew = w28 at BK123 HB hHeld ⊢
        refine take_ (i := 0) (N := some 29) (v := ?_) (a' := ?_) #[true, false, false, false, false, false, false] rfl rfl (by kernel_rfl) (fun _ _ _ h => h) (Or.inl ⟨by rfl, ?_⟩) hHeld ?_ ?_
        rotate_left
        · rintro w' ⟨s0, s1⟩
          go_simp
          with_reducible rfl
        rotate_left
        · simp only [Act.put, List.setIfInBounds_toArray, List.set_cons_zero, List.set_cons_succ, i64_w, i32_w]
          rfl
        refine one_ (i := 1) (N := some 30) #[true, true, false, false, false, false, false] rfl rfl (by kernel_rfl) (by decide) (fun K hK => ?_)
        first | (refine goes_ Try.func60 (by kernel_rfl) rfl #[.int .u64 1] (by rfl) rfl rfl (by (try simp only [List.map_toArray, List.map_cons, List.map_nil]); first | done | rfl | (simp only [List.length_drop, List.length_take]; rfl)) ?_) | (refine goesV_83 Try.func60 (by kernel_rfl) rfl #[.int .u64 1] (by rfl) rfl rfl (by (try simp only [List.map_toArray, List.map_cons, List.map_nil]); first | done | rfl | (simp only [List.length_drop, List.length_take]; rfl)) (by first | rfl | (go_simp; done) | (go_simp; rfl)) ?_)
        with_reducible refine (wide_Of.calls 1 t125 t126 _ A9.out).mono ?_
        rintro e w29 ⟨rfl, hb⟩
        refine ⟨_, rfl, ?_⟩
        have n0_ := Aside0.mk (blk_below (g := gb123) (o := .cells #[.int .u64 t119, .int .u64 t120] 60 (0, 0)) (by (with_reducible repeat (first | refine blk_drewN ?_ _ | refine blk_drew ?_ | refine blk_alloc ?_ _)); exact BK123.out) hb)
        have n1_ := Aside0.mk (below_step (by repeat (first | (with_reducible first | exact HB.out | apply below_alloc | apply pw_below_drewN | apply below_drew1 | refine below_set ?_ GE123.out) | exact HB.out)) hb)
        clear BK123
        clear HB
        have BK123 := n0_
        have HB := n1_
        clear n0_ n1_
        (try clear hb)
        (try clear hb2)
        (try clear hk)
        (try clear hi)
        refine hK.out _ _ ⟨(blk_cell BK123.out 0).trans rfl, (blk_cell BK123.out 1).trans rfl⟩ (fun hHeld => ?_)
        clear hK K
        refine norm_ (a' := ?_) ?_ ?_
        rotate_left
        · show Act.put _ (some 30) _ = _
          simp only [Act.put, List.setIfInBounds_toArray, List.set_cons_zero, List.set_cons_succ, i64_w, i32_w]
          rfl
        refine one_ (i := 2) (N := some 31) #[true, true, true, false, false, false, false] rfl rfl (by kernel_rfl) (by decide) (fun K hK => ?_)
        first | (refine goes_ Try.func59 (by kernel_rfl) rfl #[.agg #[.int .u64 t119, .int .u64 t120], .agg #[.int .u64 t125, .int .u64 t126]] (by rfl) rfl rfl (by (try simp only [List.map_toArray, List.map_cons, List.map_nil]); first | done | rfl | (simp only [List.length_drop, List.length_take]; rfl)) ?_) | (refine goesV_83 Try.func59 (by kernel_rfl) rfl #[.agg #[.int .u64 t119, .int .u64 t120], .agg #[.int .u64 t125, .int .u64 t126]] (by rfl) rfl rfl (by (try simp only [List.map_toArray, List.map_cons, List.map_nil]); first | done | rfl | (simp only [List.length_drop, List.length_take]; rfl)) (by first | rfl | (go_simp; done) | (go_simp; rfl)) ?_)
        with_reducible refine (wide_Add.calls t119 t120 t125 t126 t127 t128 t129 _ A10.out).mono ?_
        rintro e w30 ⟨rfl, hb⟩
        refine ⟨_, rfl, ?_⟩
        have n0_ := Aside0.mk (blk_below (g := gb123) (o := .cells #[.int .u64 t119, .int .u64 t120] 60 (0, 0)) (by (with_reducible repeat (first | refine blk_drewN ?_ _ | refine blk_drew ?_ | refine blk_alloc ?_ _)); exact BK123.out) hb)
        have n1_ := Aside0.mk (below_step (by repeat (first | (with_reducible first | exact HB.out | apply below_alloc | apply pw_below_drewN | apply below_drew1 | refine below_set ?_ GE123.out) | exact HB.out)) hb)
        clear BK123
        clear HB
        have BK123 := n0_
        have HB := n1_
        clear n0_ n1_
        (try clear hb)
        (try clear hb2)
        (try clear hk)
        (try clear hi)
        refine hK.out _ _ ⟨(blk_cell BK123.out 0).trans rfl, (blk_cell BK123.out 1).trans rfl⟩ (fun hHeld => ?_)
        clear hK K
        refine norm_ (a' := ?_) ?_ ?_
        rotate_left
        · show Act.put _ (some 31) _ = _
          simp only [Act.put, List.setIfInBounds_toArray, List.set_cons_zero, List.set_cons_succ, i64_w, i32_w]
          rfl
        refine pure_ (i := 3) (N := some 28) (v := ?_) (a' := ?_) #[true, true, true, true, false, false, false] rfl rfl (by kernel_rfl) (fun _ _ _ h => h) (Or.inl ⟨by rfl, ?_⟩) ?_ ?_
        rotate_left
        · intro w'
          go_simp
          with_reducible rfl
        rotate_left
        · simp only [Act.put, List.setIfInBounds_toArray, List.set_cons_zero, List.set_cons_succ, i64_w, i32_w]
          rfl
        refine pure_ (i := 4) (N := some 32) (v := ?_) (a' := ?_) #[true, true, true, true, true, false, false] rfl rfl (by kernel_rfl) (fun _ _ _ h => h) (Or.inl ⟨by rfl, ?_⟩) ?_ ?_
        rotate_left
        · intro w'
          go_simp
          with_reducible rfl
        rotate_left
        · simp only [Act.put, List.setIfInBounds_toArray, List.set_cons_zero, List.set_cons_succ, i64_w, i32_w]
          rfl
        refine pure_ (i := 5) (N := some 33) (v := ?_) (a' := ?_) #[true, true, true, true, true, true, false] rfl rfl (by kernel_rfl) (fun _ _ _ h => h) (Or.inl ⟨by rfl, ?_⟩) ?_ ?_
        rotate_left
        · intro w'
          go_simp
          with_reducible rfl
        rotate_left
        · simp only [Act.put, List.setIfInBounds_toArray, List.set_cons_zero, List.set_cons_succ, i64_w, i32_w]
          rfl
        refine last_ (i := 6) (N := none) #[true, true, true, true, true, true, true] rfl rfl (by kernel_rfl) (by decide) (fun K hK => ?_)
        have hs31 : w30.cell? ⟨gb123, 0, none⟩ = some (.int .u64 t119) := (blk_cell BK123.out 0).trans rfl
        have hfs31 := blk_frozen BK123.out 0
        have hs32 : w30.cell? ⟨gb123, 1, none⟩ = some (.int .u64 t120) := (blk_cell BK123.out 1).trans rfl
        have hfs32 := blk_frozen BK123.out 1
        refine skip_ (w1 := ?_) (by rfl) rfl ?_ ?_
        rotate_left
        · go_simp
          rfl
        refine hK.out _ _ ?_
        clear hK K
        refine done_ (by kernel_rfl) ?_
        have hcz33_0 : w30.cell? ⟨gb123, 0, none⟩ = some (.int .u64 t119) := (blk_cell BK123.out 0).trans rfl
        have hcz33_1 : w30.cell? ⟨gb123, 1, none⟩ = some (.int .u64 t120) := (blk_cell BK123.out 1).trans rfl
        have hfz33_0 := blk_frozen BK123.out 0
        have hfz33_1 := blk_frozen BK123.out 1
        try go_wp2
        go_ret2
        exact ⟨by first | rfl | (simp [errW_none, errW_some] <;> rfl) | (simp [*, errW_none, errW_some] <;> rfl), by repeat (first | (with_reducible first | exact HB.out | apply below_alloc | apply pw_below_drewN | apply below_drew1 | refine below_set ?_ GE123.out) | exact HB.out)⟩
    · replace c8 := Bool.eq_false_iff.mpr c8
      subst c8
      have H1 : (if t119 > 0 then (some (0, 10)) else (some (t120, 0))) = some (r1, r2) := by rw [if_neg (show ¬ (false = true) by decide)] at H; exact H
      clear H
      have H := H1
      clear H1
      by_cases c34 : t119 > 0
      · rw [if_pos c34] at H
        have c34b0 : decide (0 < t119) = true := decide_eq_true c34
        clear c34
        simp only [Option.some.injEq, Prod.mk.injEq] at H
        obtain ⟨rfl, rfl⟩ := H
        go_enter Try.func52, Try.ntmps52
        go_wp2_with (first | ((with_reducible refine gate_callee (f := 50) rfl ?_); refine goesL_ (some 16) rfl rfl Try.func50 (by kernel_rfl) rfl #[.int .u64 a0, .int .u64 a1] rfl (by (try simp only [List.map_toArray, List.map_cons, List.map_nil]); first | done | rfl | (simp only [List.length_drop, List.length_take]; rfl)) ?_; (with_reducible refine (wide_Mul.calls a0 a1 t117 t118 _ A4.out).mono ?_); rintro e w35 ⟨rfl, hb⟩; refine ⟨_, rfl, ?_⟩; have n0_ := Aside0.mk (below_step (by repeat (first | (with_reducible first | exact HB.out | apply below_alloc | apply pw_below_drewN | apply below_drew1) | exact HB.out)) hb); clear HB; have HB := n0_; clear n0_; (try clear hb); (try clear hb2); (try clear hk); (try clear hi)) | ((with_reducible refine gate_callee (f := 58) rfl ?_); refine goesL_ (some 18) rfl rfl Try.func58 (by kernel_rfl) rfl #[.agg #[.int .u64 t117, .int .u64 t118], .int .u64 a2] rfl (by (try simp only [List.map_toArray, List.map_cons, List.map_nil]); first | done | rfl | (simp only [List.length_drop, List.length_take]; rfl)) ?_; (with_reducible refine (wide_Div.calls k t117 t118 a2 t119 t120 t121 t122 _ A5.out).mono ?_); rintro e w36 ⟨rfl, hb⟩; refine ⟨_, rfl, ?_⟩; have n0_ := Aside0.mk (below_step (by repeat (first | (with_reducible first | exact HB.out | apply below_alloc | apply pw_below_drewN | apply below_drew1) | exact HB.out)) hb); clear HB; have HB := n0_; clear n0_; (try clear hb); (try clear hb2); (try clear hk); (try clear hi)) | ((with_reducible refine gate_dst (N := 10) rfl ?_); refine box_event ?hg (N := 10) ?hd (cs := #[.int .u64 0, .int .u64 0]) (t := 60) ?hr ?_; (case hd => rfl); (case hg => rfl); (case hr => first | (go_simp; done) | (go_simp; rfl)); intro gb123 hg w37 hbox hb; have n0_ := Aside0.mk (below_step (by repeat (first | (with_reducible first | exact HB.out | apply below_alloc | apply pw_below_drewN | apply below_drew1) | exact HB.out)) hb); have n1_ := Aside0.mk (hbox); have n2_ := Aside0.mk ((by rw [hg]; exact (below_size (by repeat (first | (with_reducible first | exact HB.out | apply below_alloc | apply pw_below_drewN | apply below_drew1) | exact HB.out))) : w.heap.size ≤ gb123)); have n3_ := Aside0.mk ((by rw [hg]; exact (below_size (by repeat (first | (with_reducible first | exact HB.out | apply below_alloc | apply pw_below_drewN | apply below_drew1) | exact HB.out))) : w.heap.size ≤ gb123)); clear HB; have HB := n0_; have BK123 := n1_; have GW123 := n2_; have GE123 := n3_; clear n0_ n1_ n2_ n3_; clear hb hbox hg; have hcz38_0 : w37.cell? ⟨gb123, 0, none⟩ = some (.int .u64 0) := (blk_cell BK123.out 0).trans rfl; have hcz38_1 : w37.cell? ⟨gb123, 1, none⟩ = some (.int .u64 0) := (blk_cell BK123.out 1).trans rfl; have hfz38_0 := blk_frozen BK123.out 0; have hfz38_1 := blk_frozen BK123.out 1) | ((with_reducible refine gate_callee (f := 53) rfl ?_); refine goesL_ (some 27) rfl rfl Try.func53 (by kernel_rfl) rfl #[.int .u64 t121] rfl (by (try simp only [List.map_toArray, List.map_cons, List.map_nil]); first | done | rfl | (simp only [List.length_drop, List.length_take]; rfl)) ?_; (with_reducible refine (ratio_Floor_1.calls t121 false _ A7.out).mono ?_); rintro e w' ⟨rfl, ⟨nd, rfl⟩⟩; refine ⟨_, rfl, ?_⟩) | (go_at_call 50; (with_reducible refine (wide_Mul.calls a0 a1 t117 t118 _ A4.out).mono ?_); rintro e w35 ⟨rfl, hb⟩; have n0_ := Aside0.mk (below_step (by repeat (first | (with_reducible first | exact HB.out | apply below_alloc | apply pw_below_drewN | apply below_drew1) | exact HB.out)) hb); clear HB; have HB := n0_; clear n0_; (try clear hb); (try clear hb2); (try clear hk); (try clear hi)) | (go_at_call 58; (with_reducible refine (wide_Div.calls k t117 t118 a2 t119 t120 t121 t122 _ A5.out).mono ?_); rintro e w36 ⟨rfl, hb⟩; have n0_ := Aside0.mk (below_step (by repeat (first | (with_reducible first | exact HB.out | apply below_alloc | apply pw_below_drewN | apply below_drew1) | exact HB.out)) hb); clear HB; have HB := n0_; clear n0_; (try clear hb); (try clear hb2); (try clear hk); (try clear hi)) | (go_at_call 53; (with_reducible refine (ratio_Floor_1.calls t121 false _ A7.out).mono ?_); rintro e w' ⟨rfl, ⟨nd, rfl⟩⟩))
        go_ret2
        exact ⟨by first | rfl | (simp [errW_none, errW_some] <;> rfl) | (simp [*, errW_none, errW_some] <;> rfl), by repeat (first | (with_reducible first | exact HB.out | apply below_alloc | apply pw_below_drewN | apply below_drew1 | refine below_set ?_ GE123.out) | exact HB.out)⟩
      · rw [if_neg c34] at H
        have c34b0 : decide (0 < t119) = false := decide_eq_false c34
        clear c34
        simp only [Option.some.injEq, Prod.mk.injEq] at H
        obtain ⟨rfl, rfl⟩ := H
        go_enter Try.func52, Try.ntmps52
        go_wp2_with (first | ((with_reducible refine gate_callee (f := 50) rfl ?_); refine goesL_ (some 16) rfl rfl Try.func50 (by kernel_rfl) rfl #[.int .u64 a0, .int .u64 a1] rfl (by (try simp only [List.map_toArray, List.map_cons, List.map_nil]); first | done | rfl | (simp only [List.length_drop, List.length_take]; rfl)) ?_; (with_reducible refine (wide_Mul.calls a0 a1 t117 t118 _ A4.out).mono ?_); rintro e w39 ⟨rfl, hb⟩; refine ⟨_, rfl, ?_⟩; have n0_ := Aside0.mk (below_step (by repeat (first | (with_reducible first | exact HB.out | apply below_alloc | apply pw_below_drewN | apply below_drew1) | exact HB.out)) hb); clear HB; have HB := n0_; clear n0_; (try clear hb); (try clear hb2); (try clear hk); (try clear hi)) | ((with_reducible refine gate_callee (f := 58) rfl ?_); refine goesL_ (some 18) rfl rfl Try.func58 (by kernel_rfl) rfl #[.agg #[.int .u64 t117, .int .u64 t118], .int .u64 a2] rfl (by (try simp only [List.map_toArray, List.map_cons, List.map_nil]); first | done | rfl | (simp only [List.length_drop, List.length_take]; rfl)) ?_; (with_reducible refine (wide_Div.calls k t117 t118 a2 t119 t120 t121 t122 _ A5.out).mono ?_); rintro e w40 ⟨rfl, hb⟩; refine ⟨_, rfl, ?_⟩; have n0_ := Aside0.mk (below_step (by repeat (first | (with_reducible first | exact HB.out | apply below_alloc | apply pw_below_drewN | apply below_drew1) | exact HB.out)) hb); clear HB; have HB := n0_; clear n0_; (try clear hb); (try clear hb2); (try clear hk); (try clear hi)) | ((with_reducible refine gate_dst (N := 10) rfl ?_); refine box_event ?hg (N := 10) ?hd (cs := #[.int .u64 0, .int .u64 0]) (t := 60) ?hr ?_; (case hd => rfl); (case hg => rfl); (case hr => first | (go_simp; done) | (go_simp; rfl)); intro gb123 hg w41 hbox hb; have n0_ := Aside0.mk (below_step (by repeat (first | (with_reducible first | exact HB.out | apply below_alloc | apply pw_below_drewN | apply below_drew1) | exact HB.out)) hb); have n1_ := Aside0.mk (hbox); have n2_ := Aside0.mk ((by rw [hg]; exact (below_size (by repeat (first | (with_reducible first | exact HB.out | apply below_alloc | apply pw_below_drewN | apply below_drew1) | exact HB.out))) : w.heap.size ≤ gb123)); have n3_ := Aside0.mk ((by rw [hg]; exact (below_size (by repeat (first | (with_reducible first | exact HB.out | apply below_alloc | apply pw_below_drewN | apply below_drew1) | exact HB.out))) : w.heap.size ≤ gb123)); clear HB; have HB := n0_; have BK123 := n1_; have GW123 := n2_; have GE123 := n3_; clear n0_ n1_ n2_ n3_; clear hb hbox hg; have hcz42_0 : w41.cell? ⟨gb123, 0, none⟩ = some (.int .u64 0) := (blk_cell BK123.out 0).trans rfl; have hcz42_1 : w41.cell? ⟨gb123, 1, none⟩ = some (.int .u64 0) := (blk_cell BK123.out 1).trans rfl; have hfz42_0 := blk_frozen BK123.out 0; have hfz42_1 := blk_frozen BK123.out 1) | ((with_reducible refine gate_callee (f := 53) rfl ?_); refine goesL_ (some 27) rfl rfl Try.func53 (by kernel_rfl) rfl #[.int .u64 t121] rfl (by (try simp only [List.map_toArray, List.map_cons, List.map_nil]); first | done | rfl | (simp only [List.length_drop, List.length_take]; rfl)) ?_; (with_reducible refine (ratio_Floor_1.calls t121 false _ A7.out).mono ?_); rintro e w' ⟨rfl, ⟨nd, rfl⟩⟩; refine ⟨_, rfl, ?_⟩) | (go_at_call 50; (with_reducible refine (wide_Mul.calls a0 a1 t117 t118 _ A4.out).mono ?_); rintro e w39 ⟨rfl, hb⟩; have n0_ := Aside0.mk (below_step (by repeat (first | (with_reducible first | exact HB.out | apply below_alloc | apply pw_below_drewN | apply below_drew1) | exact HB.out)) hb); clear HB; have HB := n0_; clear n0_; (try clear hb); (try clear hb2); (try clear hk); (try clear hi)) | (go_at_call 58; (with_reducible refine (wide_Div.calls k t117 t118 a2 t119 t120 t121 t122 _ A5.out).mono ?_); rintro e w40 ⟨rfl, hb⟩; have n0_ := Aside0.mk (below_step (by repeat (first | (with_reducible first | exact HB.out | apply below_alloc | apply pw_below_drewN | apply below_drew1) | exact HB.out)) hb); clear HB; have HB := n0_; clear n0_; (try clear hb); (try clear hb2); (try clear hk); (try clear hi)) | (go_at_call 53; (with_reducible refine (ratio_Floor_1.calls t121 false _ A7.out).mono ?_); rintro e w' ⟨rfl, ⟨nd, rfl⟩⟩))
        go_ret2
        exact ⟨by first | rfl | (simp [errW_none, errW_some] <;> rfl) | (simp [*, errW_none, errW_some] <;> rfl), by repeat (first | (with_reducible first | exact HB.out | apply below_alloc | apply pw_below_drewN | apply below_drew1 | refine below_set ?_ GE123.out) | exact HB.out)⟩
  · rw [if_neg c6] at H
    have c6b0 : (t122 == 0) = false := beq_eq_false_iff_ne.mpr c6
    have c6b1 : (t122 != 0) = true := bne_iff_ne.mpr c6
    simp only [Option.some.injEq, Prod.mk.injEq] at H
    obtain ⟨rfl, rfl⟩ := H
    go_enter Try.func52, Try.ntmps52
    go_wp2_with (first | ((with_reducible refine gate_callee (f := 50) rfl ?_); refine goesL_ (some 16) rfl rfl Try.func50 (by kernel_rfl) rfl #[.int .u64 a0, .int .u64 a1] rfl (by (try simp only [List.map_toArray, List.map_cons, List.map_nil]); first | done | rfl | (simp only [List.length_drop, List.length_take]; rfl)) ?_; (with_reducible refine (wide_Mul.calls a0 a1 t117 t118 _ A4.out).mono ?_); rintro e w43 ⟨rfl, hb⟩; refine ⟨_, rfl, ?_⟩; have n0_ := Aside0.mk (below_step (by repeat (first | (with_reducible first | exact HB.out | apply below_alloc | apply pw_below_drewN | apply below_drew1) | exact HB.out)) hb); clear HB; have HB := n0_; clear n0_; (try clear hb); (try clear hb2); (try clear hk); (try clear hi)) | ((with_reducible refine gate_callee (f := 58) rfl ?_); refine goesL_ (some 18) rfl rfl Try.func58 (by kernel_rfl) rfl #[.agg #[.int .u64 t117, .int .u64 t118], .int .u64 a2] rfl (by (try simp only [List.map_toArray, List.map_cons, List.map_nil]); first | done | rfl | (simp only [List.length_drop, List.length_take]; rfl)) ?_; (with_reducible refine (wide_Div.calls k t117 t118 a2 t119 t120 t121 t122 _ A5.out).mono ?_); rintro e w44 ⟨rfl, hb⟩; refine ⟨_, rfl, ?_⟩; have n0_ := Aside0.mk (below_step (by repeat (first | (with_reducible first | exact HB.out | apply below_alloc | apply pw_below_drewN | apply below_drew1) | exact HB.out)) hb); clear HB; have HB := n0_; clear n0_; (try clear hb); (try clear hb2); (try clear hk); (try clear hi)) | ((with_reducible refine gate_dst (N := 10) rfl ?_); refine box_event ?hg (N := 10) ?hd (cs := #[.int .u64 0, .int .u64 0]) (t := 60) ?hr ?_; (case hd => rfl); (case hg => rfl); (case hr => first | (go_simp; done) | (go_simp; rfl)); intro gb123 hg w45 hbox hb; have n0_ := Aside0.mk (below_step (by repeat (first | (with_reducible first | exact HB.out | apply below_alloc | apply pw_below_drewN | apply below_drew1) | exact HB.out)) hb); have n1_ := Aside0.mk (hbox); have n2_ := Aside0.mk ((by rw [hg]; exact (below_size (by repeat (first | (with_reducible first | exact HB.out | apply below_alloc | apply pw_below_drewN | apply below_drew1) | exact HB.out))) : w.heap.size ≤ gb123)); have n3_ := Aside0.mk ((by rw [hg]; exact (below_size (by repeat (first | (with_reducible first | exact HB.out | apply below_alloc | apply pw_below_drewN | apply below_drew1) | exact HB.out))) : w.heap.size ≤ gb123)); clear HB; have HB := n0_; have BK123 := n1_; have GW123 := n2_; have GE123 := n3_; clear n0_ n1_ n2_ n3_; clear hb hbox hg; have hcz46_0 : w45.cell? ⟨gb123, 0, none⟩ = some (.int .u64 0) := (blk_cell BK123.out 0).trans rfl; have hcz46_1 : w45.cell? ⟨gb123, 1, none⟩ = some (.int .u64 0) := (blk_cell BK123.out 1).trans rfl; have hfz46_0 := blk_frozen BK123.out 0; have hfz46_1 := blk_frozen BK123.out 1) | (go_at_call 50; (with_reducible refine (wide_Mul.calls a0 a1 t117 t118 _ A4.out).mono ?_); rintro e w43 ⟨rfl, hb⟩; have n0_ := Aside0.mk (below_step (by repeat (first | (with_reducible first | exact HB.out | apply below_alloc | apply pw_below_drewN | apply below_drew1) | exact HB.out)) hb); clear HB; have HB := n0_; clear n0_; (try clear hb); (try clear hb2); (try clear hk); (try clear hi)) | (go_at_call 58; (with_reducible refine (wide_Div.calls k t117 t118 a2 t119 t120 t121 t122 _ A5.out).mono ?_); rintro e w44 ⟨rfl, hb⟩; have n0_ := Aside0.mk (below_step (by repeat (first | (with_reducible first | exact HB.out | apply below_alloc | apply pw_below_drewN | apply below_drew1) | exact HB.out)) hb); clear HB; have HB := n0_; clear n0_; (try clear hb); (try clear hb2); (try clear hk); (try clear hi)))
    go_ret2
    exact ⟨by first | rfl | (simp [errW_none, errW_some] <;> rfl) | (simp [*, errW_none, errW_some] <;> rfl), by repeat (first | (with_reducible first | exact HB.out | apply below_alloc | apply pw_below_drewN | apply below_drew1 | refine below_set ?_ GE123.out) | exact HB.out)⟩

/-! ### ratio_Floor: function 45 -/
def ratio_Floor.f (k : Nat) (a0 : Int) (a1 : Int) (a2 : Int) : Option (Int × Int) := (ratio_part_with_ratio_Floor_1.f k a0 a1 a2).bind fun bt130 => (some (bt130.1, bt130.2))
theorem ratio_Floor.mono : ∀ a0 a1 a2 k, LeO (ratio_Floor.f k a0 a1 a2) (ratio_Floor.f (k + 1) a0 a1 a2) := by
  intro a0 a1 a2 k
  unfold ratio_Floor.f
  repeat' first
      | (with_reducible exact ratio_part_with_ratio_Floor_1.mono _ _ _ _)
      | (with_reducible exact LeO.refl _)
      | (with_reducible exact LeO.none _)
      | (with_reducible refine LeO.ite ?_ ?_)
      | (with_reducible refine LeO.bind ?_ (fun _ => ?_))
      | exact ratio_part_with_ratio_Floor_1.mono _ _ _ _
      | exact LeO.none _
      | refine LeO.ite ?_ ?_
      | refine LeO.bind ?_ (fun _ => ?_)
set_option maxHeartbeats 8000000 in
set_option maxRecDepth 100000 in
theorem ratio_Floor.calls (k : Nat) (a0 : Int) (a1 : Int) (a2 : Int) (r1 : Int) (r2 : Int) (w : World) (h : ratio_Floor.f k a0 a1 a2 = some (r1, r2)) :
    Calls Try.prog 45 #[.int .u64 a0, .int .u64 a1, .int .u64 a2] w fun e w' => e = .returned (.tuple #[.int .u64 r1, .int .i64 r2]) ∧ Below w.heap.size w w' := by
  have HB := Aside0.mk (Below.refl w.heap.size w)
  have H : ((ratio_part_with_ratio_Floor_1.f k a0 a1 a2).bind fun bt130 => (some (bt130.1, bt130.2))) = some (r1, r2) := h
  clear h
  replace H := Option.bind_eq_some_iff.mp H
  obtain ⟨⟨t130, t131⟩, A40, H⟩ := H
  replace H : (some (t130, t131)) = some (r1, r2) := H
  have A4 := Aside0.mk A40
  clear A40
  simp only [Option.some.injEq, Prod.mk.injEq] at H
  obtain ⟨rfl, rfl⟩ := H
  go_enter Try.func45, Try.ntmps45
  go_wp2_with (first | ((with_reducible refine gate_callee (f := 52) rfl ?_); refine goesL_ (some 11) rfl rfl Try.func52 (by kernel_rfl) rfl #[.int .u64 a0, .int .u64 a1, .int .u64 a2, .func (.func 53) #[] #[]] rfl (by (try simp only [List.map_toArray, List.map_cons, List.map_nil]); first | done | rfl | (simp only [List.length_drop, List.length_take]; rfl)) ?_; (with_reducible refine (ratio_part_with_ratio_Floor_1.calls k a0 a1 a2 t130 t131 _ A4.out).mono ?_); rintro e w5 ⟨rfl, hb⟩; refine ⟨_, rfl, ?_⟩; have n0_ := Aside0.mk (below_step (by repeat (first | (with_reducible first | exact HB.out | apply below_alloc | apply pw_below_drewN | apply below_drew1) | exact HB.out)) hb); clear HB; have HB := n0_; clear n0_; (try clear hb); (try clear hb2); (try clear hk); (try clear hi)) | (go_at_call 52; (with_reducible refine (ratio_part_with_ratio_Floor_1.calls k a0 a1 a2 t130 t131 _ A4.out).mono ?_); rintro e w5 ⟨rfl, hb⟩; have n0_ := Aside0.mk (below_step (by repeat (first | (with_reducible first | exact HB.out | apply below_alloc | apply pw_below_drewN | apply below_drew1) | exact HB.out)) hb); clear HB; have HB := n0_; clear n0_; (try clear hb); (try clear hb2); (try clear hk); (try clear hi)))
  go_ret2
  exact ⟨by first | rfl | (simp [errW_none, errW_some] <;> rfl) | (simp [*, errW_none, errW_some] <;> rfl), by repeat (first | (with_reducible first | exact HB.out | apply below_alloc | apply pw_below_drewN | apply below_drew1) | exact HB.out)⟩

/-! ### fixed_Of: function 33 -/
def fixed_Of.f (k : Nat) (a0 : Int) (a1 : Int) : Option (Int × Int) := (ratio_Floor.f k a0 4294967296 a1).bind fun bt132 => (some (bt132.1, bt132.2))
theorem fixed_Of.mono : ∀ a0 a1 k, LeO (fixed_Of.f k a0 a1) (fixed_Of.f (k + 1) a0 a1) := by
  intro a0 a1 k
  unfold fixed_Of.f
  repeat' first
      | (with_reducible exact ratio_Floor.mono _ _ _ _)
      | (with_reducible exact LeO.refl _)
      | (with_reducible exact LeO.none _)
      | (with_reducible refine LeO.ite ?_ ?_)
      | (with_reducible refine LeO.bind ?_ (fun _ => ?_))
      | exact ratio_Floor.mono _ _ _ _
      | exact LeO.none _
      | refine LeO.ite ?_ ?_
      | refine LeO.bind ?_ (fun _ => ?_)
set_option maxHeartbeats 8000000 in
set_option maxRecDepth 100000 in
theorem fixed_Of.calls (k : Nat) (a0 : Int) (a1 : Int) (r1 : Int) (r2 : Int) (w : World) (h : fixed_Of.f k a0 a1 = some (r1, r2)) :
    Calls Try.prog 33 #[.int .u64 a0, .int .u64 a1] w fun e w' => e = .returned (.tuple #[.int .u64 r1, .int .i64 r2]) ∧ Below w.heap.size w w' := by
  have HB := Aside0.mk (Below.refl w.heap.size w)
  have H : ((ratio_Floor.f k a0 4294967296 a1).bind fun bt132 => (some (bt132.1, bt132.2))) = some (r1, r2) := h
  clear h
  replace H := Option.bind_eq_some_iff.mp H
  obtain ⟨⟨t132, t133⟩, A30, H⟩ := H
  replace H : (some (t132, t133)) = some (r1, r2) := H
  have A3 := Aside0.mk A30
  clear A30
  simp only [Option.some.injEq, Prod.mk.injEq] at H
  obtain ⟨rfl, rfl⟩ := H
  go_enter Try.func33, Try.ntmps33
  go_wp2_with (first | ((with_reducible refine gate_callee (f := 45) rfl ?_); refine goesL_ (some 8) rfl rfl Try.func45 (by kernel_rfl) rfl #[.int .u64 a0, .int .u64 4294967296, .int .u64 a1] rfl (by (try simp only [List.map_toArray, List.map_cons, List.map_nil]); first | done | rfl | (simp only [List.length_drop, List.length_take]; rfl)) ?_; (with_reducible refine (ratio_Floor.calls k a0 4294967296 a1 t132 t133 _ A3.out).mono ?_); rintro e w4 ⟨rfl, hb⟩; refine ⟨_, rfl, ?_⟩; have n0_ := Aside0.mk (below_step (by repeat (first | (with_reducible first | exact HB.out | apply below_alloc | apply pw_below_drewN | apply below_drew1) | exact HB.out)) hb); clear HB; have HB := n0_; clear n0_; (try clear hb); (try clear hb2); (try clear hk); (try clear hi)) | (go_at_call 45; (with_reducible refine (ratio_Floor.calls k a0 4294967296 a1 t132 t133 _ A3.out).mono ?_); rintro e w4 ⟨rfl, hb⟩; have n0_ := Aside0.mk (below_step (by repeat (first | (with_reducible first | exact HB.out | apply below_alloc | apply pw_below_drewN | apply below_drew1) | exact HB.out)) hb); clear HB; have HB := n0_; clear n0_; (try clear hb); (try clear hb2); (try clear hk); (try clear hi)))
  go_ret2
  exact ⟨by first | rfl | (simp [errW_none, errW_some] <;> rfl) | (simp [*, errW_none, errW_some] <;> rfl), by repeat (first | (with_reducible first | exact HB.out | apply below_alloc | apply pw_below_drewN | apply below_drew1) | exact HB.out)⟩

/-! ### lhd_Density: function 21 -/
theorem rk_part1 (xs : List Int) (i : Nat) (h : i < xs.length) (w : World) : (part 22 (rkV xs) (i * 1)).run Try.prog w = .ok (.int .u64 (rkG xs i)) w := by
  have e := rkV_get xs i h
  rw [Nat.mul_one]
  unfold part
  go_simp
theorem rk_eqi (d : Nat) (w : World) (xs ys : List Int) (h : xs.length = ys.length) : ∀ is : List Nat, (∀ i ∈ is, i < xs.length) → (Op.eqItems (d + 1) 22 1 (rkV xs) (rkV ys) is).run Try.prog w = .ok (is.all fun i => rkG xs i == rkG ys i) w := by
  intro is
  induction is with
  | nil => intro _; simp [Op.eqItems]
  | cons i is ih =>
    intro hi
    have h1 := rk_part1 xs i (hi i (by simp)) w
    have h2 := rk_part1 ys i (by rw [← h]; exact hi i (by simp)) w
    have h3 := ih (fun j hj => hi j (by simp [hj]))
    have h4 : (Op.equalIn (d + 1) 22 (.int .u64 (rkG xs i)) (.int .u64 (rkG ys i))).run Try.prog w = .ok (rkG xs i == rkG ys i) w := by go_simp
    simp only [Op.eqItems, Sem.run_bind, h1, h2, Result.andThen_ok, h4]
    cases hb : (rkG xs i == rkG ys i)
    · simp [hb]
    · simp [hb, h3]
theorem rk_all (n : Nat) (xs ys : List Int) (hx : xs.length = n) (hy : ys.length = n) : ((List.range n).all fun i => rkG xs i == rkG ys i) = decide (xs = ys) := by
  rw [Bool.eq_iff_iff, List.all_eq_true, decide_eq_true_iff]
  constructor
  · intro h
    apply List.ext_getElem (by omega)
    intro i h1 h2
    have := h i (by simp; omega)
    simpa [rkG, h1, h2] using this
  · rintro rfl; simp
theorem rk_eq8 (d : Nat) (w : World) (xs ys : List Int) (hx : xs.length = 8) (hy : ys.length = 8) : (Op.equalIn (d + 2) 23 (.agg (rkV xs)) (.agg (rkV ys))).run Try.prog w = .ok (decide (xs = ys)) w := by
  have e : Try.prog.cellsOf 22 = 1 := by kernel_rfl
  obtain ⟨it, hi⟩ : ∃ it, Try.prog.info? 22 = some it := Option.isSome_iff_exists.1 (by kernel_rfl)
  rw [run_equalIn_array w (d + 1) (rkV xs) (rkV ys) Try.underlying23 hi, e, rk_eqi d w xs ys (by omega) _ (by intro i hi; simp at hi; omega), rk_all 8 xs ys hx hy]
theorem rk_ext (xs : List Int) (o : Nat) : (rkV xs).extract o (o + 8) = rkV ((xs.drop o).take 8) := by
  unfold rkV
  rw [List.extract_toArray, List.extract_eq_take_drop, ← List.map_drop, ← List.map_take, Nat.add_sub_cancel_left]
theorem rk_partA (xs : List Int) (hx : xs.length = 16) (o : Nat) (ho : o = 0 ∨ o = 8) (w : World) : (part 23 (rkV xs) o).run Try.prog w = .ok (.agg (rkV ((xs.drop o).take 8))) w := by
  unfold part
  rcases ho with rfl | rfl
  · go_simp
    exact rk_ext xs 0
  · go_simp
    exact rk_ext xs 8
theorem rk_eq16 (d : Nat) (w : World) (xs ys : List Int) (hx : xs.length = 16) (hy : ys.length = 16) : (Op.equalIn (d + 3) 25 (.agg (rkV xs)) (.agg (rkV ys))).run Try.prog w = .ok (decide (xs = ys)) w := by
  have hl : ∀ (zs : List Int) (o : Nat), zs.length = 16 → o ≤ 8 → ((zs.drop o).take 8).length = 8 := by intro zs o h1 h2; simp; omega
  have h : (decide ((xs.drop 0).take 8 = (ys.drop 0).take 8) && decide ((xs.drop 8).take 8 = (ys.drop 8).take 8)) = decide (xs = ys) := by
    rw [Bool.eq_iff_iff, Bool.and_eq_true, decide_eq_true_iff, decide_eq_true_iff, decide_eq_true_iff, List.drop_zero, List.drop_zero, List.take_of_length_le (l := xs.drop 8) (by simp; omega), List.take_of_length_le (l := ys.drop 8) (by simp; omega)]
    constructor
    · rintro ⟨a, b⟩
      rw [← List.take_append_drop 8 xs, a, b, List.take_append_drop]
    · rintro rfl; exact ⟨rfl, rfl⟩
  rw [← h]
  refine eqA_of Try.underlying25 (by kernel_rfl) ?_
  refine eqf_cons (by rfl) (rk_partA xs hx 0 (.inl rfl) w) (rk_partA ys hy 0 (.inl rfl) w) (rk_eq8 d w _ _ (hl xs 0 hx (by omega)) (hl ys 0 hy (by omega))) ?_
  exact eqf_last (by rfl) (rk_partA xs hx 8 (.inr rfl) w) (rk_partA ys hy 8 (.inr rfl) w) (rk_eq8 d w _ _ (hl xs 8 hx (by omega)) (hl ys 8 hy (by omega)))

theorem wpl_eq {ops : Array Oper} {rest : List Oper} {o : Oper} {a : Act} {w : World} {Q : Exit → Act → World → Prop} (hg : o.guard = none) (x y : Operand) (t : TypeId) (ho : o.op = .binOp .eql 25 x y t) (xs ys : List Int) (hx : a.eval x = .agg (rkV xs)) (hy : a.eval y = .agg (rkV ys)) (lx : xs.length = 16) (ly : ys.length = 16)
    (h : wpList Try.prog ops Q rest (a.put o.dst (.bool (decide (xs = ys)))) w) : wpList Try.prog ops Q (o :: rest) a w :=
  wpList_plain hg fun K hK => by
    have hE : ∀ w, (Op.equal 25 (.agg (rkV xs)) (.agg (rkV ys))).run Try.prog w = .ok (decide (xs = ys)) w := fun w => rk_eq16 _ w xs ys lx ly
    have hG : ∀ w, (eqGuard .eql 25 x y (.agg (rkV xs)) (.agg (rkV ys))).run Try.prog w = .ok () w := fun w => run_eqGuard_agg w .eql _ x y _ _ (by kernel_rfl)
    unfold Oper.wp execOp
    simp only [ho, hx, hy, Sem.run_bind, hG, Result.andThen_ok, Go.binOp, hE, Sem.run_pure]
    exact hK _ _ h
theorem rk_built0 : Try.prog.built 25 (#[] : Array (Nat × Value)).toList = some (rkV (List.replicate 16 0)) := by kernel_rfl
theorem wpl_zero {ops : Array Oper} {rest : List Oper} {o : Oper} {a : Act} {w : World} {Q : Exit → Act → World → Prop} (hg : o.guard = none) (ho : o.op = .build 25 #[])
    (h : wpList Try.prog ops Q rest (a.put o.dst (.agg (rkV (List.replicate 16 0)))) w) : wpList Try.prog ops Q (o :: rest) a w := by
  refine wpList_build hg 25 #[] ho ?_ ?_
  · rw [Array.map_empty, rk_built0]; rfl
  · rw [Array.map_empty, rk_built0]; exact h
def lhd_dens (xs : List Int) : Nat → Nat → Int → Int → Option (Int × Int)
  | 0, _, h, a => some (h, a)
  | n + 1, k, h, a => (word_Add.f h (rkG xs k)).bind fun h1 => (word_Add.f (rkG xs k) (rkG xs (8 + k))).bind fun s => (word_Shl.f s k).bind fun q => (word_Add.f a q).bind fun a1 => lhd_dens xs n (k + 1) h1 a1
def lhd_Density.f (fuel : Nat) (xs : List Int) (a : Int) : Option Int := if xs.length = 16 then ((lhd_is.f a).bind fun b => (if b = true then (if xs = List.replicate 16 0 then some 4294967296 else ((lhd_dens xs (8 - a.toNat) a.toNat 0 0).bind fun p => ((fixed_Of.f fuel p.1 p.2).bind fun r => (if r.2 = 0 then some r.1 else some 4294967296)))) else some 0)) else none
set_option maxHeartbeats 4000000 in
set_option maxRecDepth 100000 in
theorem lhd_Density.calls (fuel : Nat) (xs : List Int) (a : Int) (r : Int) (w : World) (h : lhd_Density.f fuel xs a = some r) :
    Calls Try.prog 21 #[.agg (rkV xs), .int .i64 a] w fun e w' => e = .returned (.int .u64 r) ∧ Below w.heap.size w w' := by
  unfold lhd_Density.f at h
  by_cases hx : xs.length = 16
  case neg => rw [if_neg hx] at h; cases h
  rw [if_pos hx] at h
  obtain ⟨b, A10, h⟩ := Option.bind_eq_some_iff.mp h
  have HX := Aside0.mk hx
  clear hx
  cases b with
  | false =>
    rw [if_neg (by simp)] at h
    obtain rfl := Option.some.inj h
    have A1 := Aside0.mk A10
    clear h A10
    go_enter Try.func21, Try.ntmps21
    go_wp2_with (first | ((with_reducible refine gate_dst (N := 2) rfl ?_); refine box_event ?hg (N := 2) ?hd (cs := rkV xs) (t := 25) ?hr ?_; (case hd => rfl); (case hg => rfl); (case hr => first | (go_simp; done) | (go_simp; rfl)); intro g gE w1 hb1 hB1; have GE := Aside0.mk gE; clear gE; have HB1 := Aside0.mk hb1; have HL1 := Aside0.mk hB1; clear hb1 hB1) | (go_at_call 27; (with_reducible refine (lhd_is.calls _ false _ A1.out).mono ?_); rintro e w2 ⟨rfl, ⟨nd, rfl⟩⟩; have HB2 := Aside0.mk (blk_drewN HB1.out nd); have HL2 := Aside0.mk (pw_below_drewN HL1.out nd); clear HB1 HL1))
    go_ret
    exact ⟨by first | rfl | (simp; done) | (simp [*]; done), HL2.out⟩
  | true =>
    rw [if_pos rfl] at h
    have c0 : 0 ≤ a ∧ a < 8 := by
      unfold lhd_is.f at A10
      by_cases z : a ≥ 0
      · rw [if_pos z] at A10; exact ⟨z, of_decide_eq_true (Option.some.inj A10)⟩
      · rw [if_neg z] at A10; cases A10
    have A1 := Aside0.mk A10
    clear A10
    by_cases hz : xs = List.replicate 16 0
    · rw [if_pos hz] at h
      obtain rfl := Option.some.inj h
      clear h
      have HZ := Aside0.mk hz
      clear hz
      go_enter Try.func21, Try.ntmps21
      go_wp2_with (first | ((with_reducible refine gate_dst (N := 2) rfl ?_); refine box_event ?hg (N := 2) ?hd (cs := rkV xs) (t := 25) ?hr ?_; (case hd => rfl); (case hg => rfl); (case hr => first | (go_simp; done) | (go_simp; rfl)); intro g gE w1 hb1 hB1; have GE := Aside0.mk gE; clear gE; have HB1 := Aside0.mk hb1; have HL1 := Aside0.mk hB1; clear hb1 hB1) | (go_at_call 27; (with_reducible refine (lhd_is.calls _ true _ A1.out).mono ?_); rintro e w2 ⟨rfl, ⟨nd, rfl⟩⟩; have HB2 := Aside0.mk (blk_drewN HB1.out nd); have HL2 := Aside0.mk (pw_below_drewN HL1.out nd); clear HB1 HL1) | ((with_reducible refine gate_dst (N := 14) rfl ?_); refine wpList_load_mid rfl 25 _ rfl g 0 rfl (rkV xs).toList _ (rk_range HB2.out) Try.underlying25 rfl (by rw [rk_len HX.out]; exact rk_info) ?_; rw [Array.toArray_toList]) | ((with_reducible refine gate_dst (N := 15) rfl ?_); refine wpl_zero rfl rfl ?_) | ((with_reducible refine gate_dst (N := 16) rfl ?_); refine wpl_eq rfl _ _ _ rfl xs (List.replicate 16 0) rfl rfl HX.out (by simp) ?_; rw [decide_eq_true HZ.out]))
      go_ret
      exact ⟨by first | rfl | (simp; done) | (simp [*]; done), HL2.out⟩
    · rw [if_neg hz] at h
      obtain ⟨⟨h0, a0⟩, D10, h⟩ := Option.bind_eq_some_iff.mp h
      obtain ⟨⟨r1, r2⟩, F10, h⟩ := Option.bind_eq_some_iff.mp h
      have HZ := Aside0.mk hz
      have D1 := Aside0.mk D10
      have F1 := Aside0.mk (show fixed_Of.f fuel h0 a0 = some (r1, r2) from F10)
      have FR := Aside0.mk (show (if r2 = 0 then some r1 else some 4294967296) = some r from h)
      clear hz D10 F10 h
      obtain ⟨n, rfl⟩ : ∃ n : Nat, a = n := ⟨a.toNat, by omega⟩
      have CN := Aside0.mk (show n < 8 by omega)
      have W8 : IntKind.i64.wrap (8 - (n : Int)) = 8 - (n : Int) := IntWalk.i64_in _ (by omega)
      clear c0
      go_enter Try.func21, Try.ntmps21
      go_wp2_with (first | ((with_reducible refine gate_dst (N := 2) rfl ?_); refine box_event ?hg (N := 2) ?hd (cs := rkV xs) (t := 25) ?hr ?_; (case hd => rfl); (case hg => rfl); (case hr => first | (go_simp; done) | (go_simp; rfl)); intro g gE w1 hb1 hB1; have GE := Aside0.mk gE; clear gE; have HB1 := Aside0.mk hb1; have HL1 := Aside0.mk hB1; clear hb1 hB1) | (go_at_call 27; (with_reducible refine (lhd_is.calls _ true _ A1.out).mono ?_); rintro e w2 ⟨rfl, ⟨nd, rfl⟩⟩; have HB2 := Aside0.mk (blk_drewN HB1.out nd); have HL2 := Aside0.mk (pw_below_drewN HL1.out nd); clear HB1 HL1) | ((with_reducible refine gate_dst (N := 14) rfl ?_); refine wpList_load_mid rfl 25 _ rfl g 0 rfl (rkV xs).toList _ (rk_range HB2.out) Try.underlying25 rfl (by rw [rk_len HX.out]; exact rk_info) ?_; rw [Array.toArray_toList]) | ((with_reducible refine gate_dst (N := 15) rfl ?_); refine wpl_zero rfl rfl ?_) | ((with_reducible refine gate_dst (N := 16) rfl ?_); refine wpl_eq rfl _ _ _ rfl xs (List.replicate 16 0) rfl rfl HX.out (by simp) ?_; rw [decide_eq_false HZ.out]))
      clear W8
      go_loopg [5, 6, 19] (8 - n) (fun kq v5 v6 v19 W => ∃ hh aa : Int, ∃ x : Nat, v5 = .int .u64 hh ∧ v6 = .int .u64 aa ∧ v19 = .int .i64 x ∧ Aside0 (x + kq = 8 - n) ∧ Aside0 (lhd_dens xs kq (n + x) hh aa = some (h0, a0)) ∧ Aside0 (W.heap[g]? = some (.cells (rkV xs) 25 (0, 0))) ∧ Aside0 (Below w.heap.size w W))
      case atStart => exact ⟨0, 0, 0, rfl, rfl, rfl, ⟨by omega⟩, ⟨by have := D1.out; simpa using this⟩, HB2, HL2⟩
      case round =>
        clear HB2 HL2
        obtain ⟨hh, aa, x, rfl, rfl, rfl, HI, HD, HB3, HL3⟩ := hrel
        by_cases c : (x : Int) < 8 - n
        · obtain ⟨k1, rfl⟩ : ∃ q, gk = q + 1 := ⟨gk - 1, by have := HI.out; omega⟩
          obtain ⟨k, hk⟩ : ∃ k : Nat, k = n + x := ⟨_, rfl⟩
          have HD' : lhd_dens xs (k1 + 1) k hh aa = some (h0, a0) := by rw [hk]; exact HD.out
          unfold lhd_dens at HD'
          obtain ⟨h1, B10, HD'⟩ := Option.bind_eq_some_iff.mp HD'
          obtain ⟨s1, B20, HD'⟩ := Option.bind_eq_some_iff.mp HD'
          obtain ⟨q1, B30, HD'⟩ := Option.bind_eq_some_iff.mp HD'
          obtain ⟨a1, B40, HD'⟩ := Option.bind_eq_some_iff.mp HD'
          have B1 := Aside0.mk B10; have B2 := Aside0.mk B20; have B3 := Aside0.mk B30; have B4 := Aside0.mk B40; clear B10 B20 B30 B40
          have HD2 := Aside0.mk HD'
          have k8 : k < 8 := by omega
          have WX := Aside0.mk (show wrap64 ((x : Int) + 1) = ((x + 1 : Nat) : Int) by have := CN.out; unfold wrap64; omega)
          have WK : wrap64 ((n : Int) + x) = (k : Int) := by have := CN.out; unfold wrap64; omega
          have WU : IntKind.u64.wrap (k : Int) = k := IntWalk.u64_in _ (by omega)
          have hc1 := (blk_cell HB3.out k).trans (rkV_get xs k (by rw [HX.out]; omega))
          have hc2 := (blk_cell HB3.out (8 + k)).trans (rkV_get xs (8 + k) (by rw [HX.out]; omega))
          have c1 : decide ((x : Int) < 8 - n) = true := decide_eq_true c
          have d0 : decide (0 ≤ (k : Int)) = true := decide_eq_true (by omega)
          have d1 : decide ((k : Int) < 8) = true := decide_eq_true (by omega)
          have p0 : (0 ≤ (k : Int)) = True := eq_true (by omega)
          have p1 : ((k : Int) < 8) = True := eq_true (by omega)
          have p2 : (k < 8) = True := eq_true (by omega)
          have HK := Aside0.mk hk
          clear hk k8 c HD HD'
          go_wp2_with ((go_at_call 28; (with_reducible refine (word_Add.calls hh (rkG xs k) h1 _ B1.out).mono ?_); rintro e w4 ⟨rfl, ⟨nd, rfl⟩⟩))
          go_region_held3 (fun W => W.cell? ⟨g, k, none⟩ = some (.int .u64 (rkG xs k)) ∧ W.cell? ⟨g, 8 + k, none⟩ = some (.int .u64 (rkG xs (8 + k)))) (go_keep) (first | (go_at_call 28; (with_reducible refine (word_Add.calls (rkG xs k) (rkG xs (8 + k)) s1 _ B2.out).mono ?_); rintro e w4 ⟨rfl, ⟨nd, rfl⟩⟩) | (go_at_call 32; (with_reducible refine (word_Shl.calls s1 k q1 _ B3.out).mono ?_); rintro e w4 ⟨rfl, ⟨nd, rfl⟩⟩) | (go_at_call 28; (with_reducible refine (word_Add.calls aa q1 a1 _ B4.out).mono ?_); rintro e w4 ⟨rfl, ⟨nd, rfl⟩⟩))
          go_wp2
          go_roundg k1
          case measure => omega
          case rel =>
            refine ⟨h1, a1, x + 1, rfl, rfl, ?_, ⟨by have := HI.out; omega⟩, ⟨?_⟩, ⟨?_⟩, ⟨?_⟩⟩
            · first | rfl | (simp; exact WX.out) | simpa using WX.out
            · have := HD2.out; rw [HK.out, Nat.add_assoc] at this; exact this
            · first | exact blk_drewN HB3.out _ | simpa using HB3.out
            · exact pw_below_drewN HL3.out _
        · have c1 : decide ((x : Int) < 8 - n) = false := decide_eq_false c
          have e0 : gk = 0 := by have := HI.out; omega
          subst e0
          have HD' := HD.out
          unfold lhd_dens at HD'
          obtain ⟨rfl, rfl⟩ := Prod.mk.inj (Option.some.inj HD')
          clear HD' HD c
          by_cases z : r2 = 0
          · have Z := Aside0.mk z
            subst z
            obtain rfl := Option.some.inj (show some r1 = some r from by have := FR.out; rwa [if_pos rfl] at this)
            go_wp2_with ((go_at_call 33; (with_reducible refine (fixed_Of.calls fuel hh aa _ _ _ F1.out).mono ?_); rintro e w4 ⟨rfl, hbl⟩; have HL4 := Aside0.mk (below_step HL3.out hbl); clear hbl))
            go_ret
            exact ⟨by first | rfl | (simp; done) | (simp [*]; done), HL4.out⟩
          · have Z : decide (r2 = 0) = false := decide_eq_false z
            have p1 : (r2 = 0) = False := eq_false z
            obtain rfl := Option.some.inj (show some 4294967296 = some r from by have := FR.out; rwa [if_neg z] at this)
            go_wp2_with ((go_at_call 33; (with_reducible refine (fixed_Of.calls fuel hh aa _ _ _ F1.out).mono ?_); rintro e w4 ⟨rfl, hbl⟩; have HL4 := Aside0.mk (below_step HL3.out hbl); clear hbl))
            go_ret
            exact ⟨by first | rfl | (simp; done) | (simp [*]; done), HL4.out⟩

/-! ### cmp_Or_int: function 55 -/
def cmp_Or_int.l0 : Nat → Int → List Int → Int → Int → Option (Int)
  | 0, _, _, _, _ => none
  | k + 1, x3, x6, x7, x8 => if x8 < x7 then (if 0 ≤ x8 then (if x8 < (x6.length : Int) then (if (rd x6 x8) = x3 then (cmp_Or_int.l0 k x3 x6 x7 (wrap64 (x8 + 1))) else (some (rd x6 x8))) else (none)) else (none)) else (some x3)
def cmp_Or_int.f (k : Nat) (l0 : List Int) : Option (Int) := cmp_Or_int.l0 k 0 l0 (l0.length : Int) 0
theorem cmp_Or_int.mono_l : ∀ k, (∀ y0 y1 y2 y3, LeO (cmp_Or_int.l0 k y0 y1 y2 y3) (cmp_Or_int.l0 (k + 1) y0 y1 y2 y3))
  | 0 => fun _ _ _ _ r h => by simp [cmp_Or_int.l0] at h
  | k + 1 => by
    have ih0 := cmp_Or_int.mono_l k
    · intro y0 y1 y2 y3
      unfold cmp_Or_int.l0
      repeat' first
      | (with_reducible exact ih0 _ _ _ _)
      | (with_reducible exact LeO.refl _)
      | (with_reducible exact LeO.none _)
      | (with_reducible refine LeO.ite ?_ ?_)
      | (with_reducible refine LeO.bind ?_ (fun _ => ?_))
      | exact ih0 _ _ _ _
      | exact LeO.none _
      | refine LeO.ite ?_ ?_
      | refine LeO.bind ?_ (fun _ => ?_)
theorem cmp_Or_int.mono : ∀ a0 k, LeO (cmp_Or_int.f k a0) (cmp_Or_int.f (k + 1) a0) := by
  intro a0 k
  have ih0 := cmp_Or_int.mono_l k
  unfold cmp_Or_int.f
  repeat' first
      | (with_reducible exact ih0 _ _ _ _)
      | (with_reducible exact LeO.refl _)
      | (with_reducible exact LeO.none _)
      | (with_reducible refine LeO.ite ?_ ?_)
      | (with_reducible refine LeO.bind ?_ (fun _ => ?_))
      | exact ih0 _ _ _ _
      | exact LeO.none _
      | refine LeO.ite ?_ ?_
      | refine LeO.bind ?_ (fun _ => ?_)
set_option maxHeartbeats 8000000 in
set_option maxRecDepth 100000 in
theorem cmp_Or_int.calls (k : Nat) (A0 : Option Addr) (c0 : Nat) (l0 : List Int) (r : Int) (w : World) (hr0 : Kd.C (Kd.int .i64) w A0 l0.length l0) (hc0 : l0.length ≤ c0) (h : cmp_Or_int.f k l0 = some r) :
    Calls Try.prog 55 #[.slice A0 l0.length c0] w fun e w' => e = .returned (.int .i64 r) ∧ Drawn0 w w' := by
  have HR0 := Aside0.mk hr0
  have HC0 := Aside0.mk hc0
  clear hr0 hc0
  have H : (cmp_Or_int.l0 k 0 l0 (l0.length : Int) 0) = some r := h
  clear h
  have H' := Aside0.mk H
  clear H
  go_enter Try.func55, Try.ntmps55
  go_wp2
  go_loopg [8] k (fun kq v8 w' => ∃ (x8_1 : Int), v8 = .int .i64 x8_1 ∧ Aside0 (cmp_Or_int.l0 kq 0 l0 (l0.length : Int) x8_1 = some r) ∧ Aside0 (kq ≤ k) ∧ Drawn0 w w')
  case atStart => exact ⟨(0), (by first | rfl | (simp; done) | (simp [*]; done)), H', ⟨Nat.le_refl _⟩, by repeat (first | exact Drawn0.refl _ | apply Drawn0.step)⟩
  case round =>
    clear H'
    obtain ⟨x8_1, rfl, HA, HK1, ⟨m1, rfl⟩⟩ := hrel
    cases gk with
    | zero => exact absurd HA.out (by simp [cmp_Or_int.l0])
    | succ k1 =>
      have H := HA.out
      clear HA
      simp only [cmp_Or_int.l0] at H
      by_cases c2 : x8_1 < (l0.length : Int)
      · rw [if_pos c2] at H
        have c2b0 : decide (x8_1 < (l0.length : Int)) = true := decide_eq_true c2
        clear c2
        by_cases c3 : 0 ≤ x8_1
        · rw [if_pos c3] at H
          have c3b0 : decide (0 ≤ x8_1) = true := decide_eq_true c3
          clear c3
          by_cases c4 : x8_1 < (l0.length : Int)
          · rw [if_pos c4] at H
            have c4b0 : decide (x8_1 < (l0.length : Int)) = true := decide_eq_true c4
            clear c4
            by_cases c5 : (rd l0 x8_1) = 0
            · rw [if_pos c5] at H
              have c5b0 : ((rd l0 x8_1) == 0) = true := beq_iff_eq.mpr c5
              have c5b1 : ((rd l0 x8_1) != 0) = false := bne_eq_false_iff_eq.mpr c5
              clear c5
              have H' := Aside0.mk H
              clear H
              have p134 : 0 ≤ (x8_1 : Int) := of_decide_eq_true (by first | (with_reducible assumption) | assumption)
              have q134 : x8_1 < (l0.length : Int) := of_decide_eq_true (by first | (with_reducible assumption) | assumption)
              obtain ⟨ad134, e134, hx134_0⟩ := Kd.at_int HR0.out x8_1 p134 q134
              cases e134
              replace p134 := eq_true p134
              replace q134 := eq_true q134
              go_wp2
              go_roundg k1
              case measure => have := HK1.out; omega
              case rel => exact ⟨(wrap64 (x8_1 + 1)), (by first | rfl | (simp; done) | (simp [*]; done)), H', ⟨by have := HK1.out; omega⟩, by repeat (first | exact Drawn0.refl _ | apply Drawn0.step)⟩
            · rw [if_neg c5] at H
              have c5b0 : ((rd l0 x8_1) == 0) = false := beq_eq_false_iff_ne.mpr c5
              have c5b1 : ((rd l0 x8_1) != 0) = true := bne_iff_ne.mpr c5
              obtain rfl := Option.some.inj H
              have p134 : 0 ≤ (x8_1 : Int) := of_decide_eq_true (by first | (with_reducible assumption) | assumption)
              have q134 : x8_1 < (l0.length : Int) := of_decide_eq_true (by first | (with_reducible assumption) | assumption)
              obtain ⟨ad134, e134, hx134_0⟩ := Kd.at_int HR0.out x8_1 p134 q134
              cases e134
              replace p134 := eq_true p134
              replace q134 := eq_true q134
              go_wp2
              go_ret
              exact ⟨by first | rfl | (simp; done) | (simp [*]; done), by repeat (first | exact Drawn0.refl _ | apply Drawn0.step)⟩
          · rw [if_neg c4] at H
            exact absurd H (by simp)
        · rw [if_neg c3] at H
          exact absurd H (by simp)
      · rw [if_neg c2] at H
        have c2b0 : decide (x8_1 < (l0.length : Int)) = false := decide_eq_false c2
        clear c2
        obtain rfl := Option.some.inj H
        go_wp2
        go_ret
        exact ⟨by first | rfl | (simp; done) | (simp [*]; done), by repeat (first | exact Drawn0.refl _ | apply Drawn0.step)⟩

/-! ### cmp_isNaN_uint64: function 63 -/
def cmp_isNaN_uint64.f (a0 : Int) : Option (Bool) := some (a0 != a0)
set_option maxHeartbeats 8000000 in
set_option maxRecDepth 100000 in
theorem cmp_isNaN_uint64.calls (a0 : Int) (r : Bool) (w : World) (h : cmp_isNaN_uint64.f a0 = some r) :
    Calls Try.prog 63 #[.int .u64 a0] w fun e w' => e = .returned (.bool r) ∧ Drawn0 w w' := by
  have H : (some (a0 != a0)) = some r := h
  clear h
  obtain rfl := Option.some.inj H
  go_enter Try.func63, Try.ntmps63
  go_wp2
  go_ret
  exact ⟨by first | rfl | (simp; done) | (simp [*]; done), by repeat (first | exact Drawn0.refl _ | apply Drawn0.step)⟩

/-! ### cmp_Compare_uint64: function 56 -/
def cmp_Compare_uint64.f (a0 : Int) (a1 : Int) : Option (Int) := (cmp_isNaN_uint64.f a0).bind fun t135 => ((cmp_isNaN_uint64.f a1).bind fun t136 => (if t135 = true then (if t136 = true then (some 0) else (some (-1))) else (if t136 = true then (some 1) else (if a0 < a1 then (some (-1)) else (if a0 > a1 then (some 1) else (some 0))))))
set_option maxHeartbeats 8000000 in
set_option maxRecDepth 100000 in
theorem cmp_Compare_uint64.calls (a0 : Int) (a1 : Int) (r : Int) (w : World) (h : cmp_Compare_uint64.f a0 a1 = some r) :
    Calls Try.prog 56 #[.int .u64 a0, .int .u64 a1] w fun e w' => e = .returned (.int .i64 r) ∧ Drawn0 w w' := by
  have H : ((cmp_isNaN_uint64.f a0).bind fun t135 => ((cmp_isNaN_uint64.f a1).bind fun t136 => (if t135 = true then (if t136 = true then (some 0) else (some (-1))) else (if t136 = true then (some 1) else (if a0 < a1 then (some (-1)) else (if a0 > a1 then (some 1) else (some 0))))))) = some r := h
  clear h
  replace H := Option.bind_eq_some_iff.mp H
  obtain ⟨t135, A30, H⟩ := H
  replace H : ((cmp_isNaN_uint64.f a1).bind fun t136 => (if t135 = true then (if t136 = true then (some 0) else (some (-1))) else (if t136 = true then (some 1) else (if a0 < a1 then (some (-1)) else (if a0 > a1 then (some 1) else (some 0)))))) = some r := H
  have A3 := Aside0.mk A30
  clear A30
  replace H := Option.bind_eq_some_iff.mp H
  obtain ⟨t136, A40, H⟩ := H
  replace H : (if t135 = true then (if t136 = true then (some 0) else (some (-1))) else (if t136 = true then (some 1) else (if a0 < a1 then (some (-1)) else (if a0 > a1 then (some 1) else (some 0))))) = some r := H
  have A4 := Aside0.mk A40
  clear A40
  by_cases c5 : t135 = true
  · subst c5
    have H1 : (if t136 = true then (some 0) else (some (-1))) = some r := by rw [if_pos rfl] at H; exact H
    clear H
    have H := H1
    clear H1
    by_cases c6 : t136 = true
    · subst c6
      have H1 : (some 0) = some r := by rw [if_pos rfl] at H; exact H
      clear H
      have H := H1
      clear H1
      obtain rfl := Option.some.inj H
      go_enter Try.func56, Try.ntmps56
      go_wp2_with (first | ((with_reducible refine gate_callee (f := 63) rfl ?_); refine goesL_ (some 8) rfl rfl Try.func63 (by kernel_rfl) rfl #[.int .u64 a0] rfl (by (try simp only [List.map_toArray, List.map_cons, List.map_nil]); first | done | rfl | (simp only [List.length_drop, List.length_take]; rfl)) ?_; (with_reducible refine (cmp_isNaN_uint64.calls a0 true _ A3.out).mono ?_); rintro e w' ⟨rfl, ⟨nd, rfl⟩⟩; refine ⟨_, rfl, ?_⟩) | ((with_reducible refine gate_callee (f := 63) rfl ?_); refine goesL_ (some 10) rfl rfl Try.func63 (by kernel_rfl) rfl #[.int .u64 a1] rfl (by (try simp only [List.map_toArray, List.map_cons, List.map_nil]); first | done | rfl | (simp only [List.length_drop, List.length_take]; rfl)) ?_; (with_reducible refine (cmp_isNaN_uint64.calls a1 true _ A4.out).mono ?_); rintro e w' ⟨rfl, ⟨nd, rfl⟩⟩; refine ⟨_, rfl, ?_⟩) | (go_at_call 63; (with_reducible refine (cmp_isNaN_uint64.calls a0 true _ A3.out).mono ?_); rintro e w' ⟨rfl, ⟨nd, rfl⟩⟩) | (go_at_call 63; (with_reducible refine (cmp_isNaN_uint64.calls a1 true _ A4.out).mono ?_); rintro e w' ⟨rfl, ⟨nd, rfl⟩⟩))
      go_ret
      exact ⟨by first | rfl | (simp; done) | (simp [*]; done), by repeat (first | exact Drawn0.refl _ | apply Drawn0.step)⟩
    · replace c6 := Bool.eq_false_iff.mpr c6
      subst c6
      have H1 : (some (-1)) = some r := by rw [if_neg (show ¬ (false = true) by decide)] at H; exact H
      clear H
      have H := H1
      clear H1
      obtain rfl := Option.some.inj H
      go_enter Try.func56, Try.ntmps56
      go_wp2_with (first | ((with_reducible refine gate_callee (f := 63) rfl ?_); refine goesL_ (some 8) rfl rfl Try.func63 (by kernel_rfl) rfl #[.int .u64 a0] rfl (by (try simp only [List.map_toArray, List.map_cons, List.map_nil]); first | done | rfl | (simp only [List.length_drop, List.length_take]; rfl)) ?_; (with_reducible refine (cmp_isNaN_uint64.calls a0 true _ A3.out).mono ?_); rintro e w' ⟨rfl, ⟨nd, rfl⟩⟩; refine ⟨_, rfl, ?_⟩) | ((with_reducible refine gate_callee (f := 63) rfl ?_); refine goesL_ (some 10) rfl rfl Try.func63 (by kernel_rfl) rfl #[.int .u64 a1] rfl (by (try simp only [List.map_toArray, List.map_cons, List.map_nil]); first | done | rfl | (simp only [List.length_drop, List.length_take]; rfl)) ?_; (with_reducible refine (cmp_isNaN_uint64.calls a1 false _ A4.out).mono ?_); rintro e w' ⟨rfl, ⟨nd, rfl⟩⟩; refine ⟨_, rfl, ?_⟩) | (go_at_call 63; (with_reducible refine (cmp_isNaN_uint64.calls a0 true _ A3.out).mono ?_); rintro e w' ⟨rfl, ⟨nd, rfl⟩⟩) | (go_at_call 63; (with_reducible refine (cmp_isNaN_uint64.calls a1 false _ A4.out).mono ?_); rintro e w' ⟨rfl, ⟨nd, rfl⟩⟩))
      go_ret
      exact ⟨by first | rfl | (simp; done) | (simp [*]; done), by repeat (first | exact Drawn0.refl _ | apply Drawn0.step)⟩
  · replace c5 := Bool.eq_false_iff.mpr c5
    subst c5
    have H1 : (if t136 = true then (some 1) else (if a0 < a1 then (some (-1)) else (if a0 > a1 then (some 1) else (some 0)))) = some r := by rw [if_neg (show ¬ (false = true) by decide)] at H; exact H
    clear H
    have H := H1
    clear H1
    by_cases c7 : t136 = true
    · subst c7
      have H1 : (some 1) = some r := by rw [if_pos rfl] at H; exact H
      clear H
      have H := H1
      clear H1
      obtain rfl := Option.some.inj H
      go_enter Try.func56, Try.ntmps56
      go_wp2_with (first | ((with_reducible refine gate_callee (f := 63) rfl ?_); refine goesL_ (some 8) rfl rfl Try.func63 (by kernel_rfl) rfl #[.int .u64 a0] rfl (by (try simp only [List.map_toArray, List.map_cons, List.map_nil]); first | done | rfl | (simp only [List.length_drop, List.length_take]; rfl)) ?_; (with_reducible refine (cmp_isNaN_uint64.calls a0 false _ A3.out).mono ?_); rintro e w' ⟨rfl, ⟨nd, rfl⟩⟩; refine ⟨_, rfl, ?_⟩) | ((with_reducible refine gate_callee (f := 63) rfl ?_); refine goesL_ (some 10) rfl rfl Try.func63 (by kernel_rfl) rfl #[.int .u64 a1] rfl (by (try simp only [List.map_toArray, List.map_cons, List.map_nil]); first | done | rfl | (simp only [List.length_drop, List.length_take]; rfl)) ?_; (with_reducible refine (cmp_isNaN_uint64.calls a1 true _ A4.out).mono ?_); rintro e w' ⟨rfl, ⟨nd, rfl⟩⟩; refine ⟨_, rfl, ?_⟩) | (go_at_call 63; (with_reducible refine (cmp_isNaN_uint64.calls a0 false _ A3.out).mono ?_); rintro e w' ⟨rfl, ⟨nd, rfl⟩⟩) | (go_at_call 63; (with_reducible refine (cmp_isNaN_uint64.calls a1 true _ A4.out).mono ?_); rintro e w' ⟨rfl, ⟨nd, rfl⟩⟩))
      go_ret
      exact ⟨by first | rfl | (simp; done) | (simp [*]; done), by repeat (first | exact Drawn0.refl _ | apply Drawn0.step)⟩
    · replace c7 := Bool.eq_false_iff.mpr c7
      subst c7
      have H1 : (if a0 < a1 then (some (-1)) else (if a0 > a1 then (some 1) else (some 0))) = some r := by rw [if_neg (show ¬ (false = true) by decide)] at H; exact H
      clear H
      have H := H1
      clear H1
      by_cases c8 : a0 < a1
      · rw [if_pos c8] at H
        have c8b0 : decide (a0 < a1) = true := decide_eq_true c8
        clear c8
        obtain rfl := Option.some.inj H
        go_enter Try.func56, Try.ntmps56
        go_wp2_with (first | ((with_reducible refine gate_callee (f := 63) rfl ?_); refine goesL_ (some 8) rfl rfl Try.func63 (by kernel_rfl) rfl #[.int .u64 a0] rfl (by (try simp only [List.map_toArray, List.map_cons, List.map_nil]); first | done | rfl | (simp only [List.length_drop, List.length_take]; rfl)) ?_; (with_reducible refine (cmp_isNaN_uint64.calls a0 false _ A3.out).mono ?_); rintro e w' ⟨rfl, ⟨nd, rfl⟩⟩; refine ⟨_, rfl, ?_⟩) | ((with_reducible refine gate_callee (f := 63) rfl ?_); refine goesL_ (some 10) rfl rfl Try.func63 (by kernel_rfl) rfl #[.int .u64 a1] rfl (by (try simp only [List.map_toArray, List.map_cons, List.map_nil]); first | done | rfl | (simp only [List.length_drop, List.length_take]; rfl)) ?_; (with_reducible refine (cmp_isNaN_uint64.calls a1 false _ A4.out).mono ?_); rintro e w' ⟨rfl, ⟨nd, rfl⟩⟩; refine ⟨_, rfl, ?_⟩) | (go_at_call 63; (with_reducible refine (cmp_isNaN_uint64.calls a0 false _ A3.out).mono ?_); rintro e w' ⟨rfl, ⟨nd, rfl⟩⟩) | (go_at_call 63; (with_reducible refine (cmp_isNaN_uint64.calls a1 false _ A4.out).mono ?_); rintro e w' ⟨rfl, ⟨nd, rfl⟩⟩))
        go_ret
        exact ⟨by first | rfl | (simp; done) | (simp [*]; done), by repeat (first | exact Drawn0.refl _ | apply Drawn0.step)⟩
      · rw [if_neg c8] at H
        have c8b0 : decide (a0 < a1) = false := decide_eq_false c8
        clear c8
        by_cases c9 : a0 > a1
        · rw [if_pos c9] at H
          have c9b0 : decide (a1 < a0) = true := decide_eq_true c9
          clear c9
          obtain rfl := Option.some.inj H
          go_enter Try.func56, Try.ntmps56
          go_wp2_with (first | ((with_reducible refine gate_callee (f := 63) rfl ?_); refine goesL_ (some 8) rfl rfl Try.func63 (by kernel_rfl) rfl #[.int .u64 a0] rfl (by (try simp only [List.map_toArray, List.map_cons, List.map_nil]); first | done | rfl | (simp only [List.length_drop, List.length_take]; rfl)) ?_; (with_reducible refine (cmp_isNaN_uint64.calls a0 false _ A3.out).mono ?_); rintro e w' ⟨rfl, ⟨nd, rfl⟩⟩; refine ⟨_, rfl, ?_⟩) | ((with_reducible refine gate_callee (f := 63) rfl ?_); refine goesL_ (some 10) rfl rfl Try.func63 (by kernel_rfl) rfl #[.int .u64 a1] rfl (by (try simp only [List.map_toArray, List.map_cons, List.map_nil]); first | done | rfl | (simp only [List.length_drop, List.length_take]; rfl)) ?_; (with_reducible refine (cmp_isNaN_uint64.calls a1 false _ A4.out).mono ?_); rintro e w' ⟨rfl, ⟨nd, rfl⟩⟩; refine ⟨_, rfl, ?_⟩) | (go_at_call 63; (with_reducible refine (cmp_isNaN_uint64.calls a0 false _ A3.out).mono ?_); rintro e w' ⟨rfl, ⟨nd, rfl⟩⟩) | (go_at_call 63; (with_reducible refine (cmp_isNaN_uint64.calls a1 false _ A4.out).mono ?_); rintro e w' ⟨rfl, ⟨nd, rfl⟩⟩))
          go_ret
          exact ⟨by first | rfl | (simp; done) | (simp [*]; done), by repeat (first | exact Drawn0.refl _ | apply Drawn0.step)⟩
        · rw [if_neg c9] at H
          have c9b0 : decide (a1 < a0) = false := decide_eq_false c9
          clear c9
          obtain rfl := Option.some.inj H
          go_enter Try.func56, Try.ntmps56
          go_wp2_with (first | ((with_reducible refine gate_callee (f := 63) rfl ?_); refine goesL_ (some 8) rfl rfl Try.func63 (by kernel_rfl) rfl #[.int .u64 a0] rfl (by (try simp only [List.map_toArray, List.map_cons, List.map_nil]); first | done | rfl | (simp only [List.length_drop, List.length_take]; rfl)) ?_; (with_reducible refine (cmp_isNaN_uint64.calls a0 false _ A3.out).mono ?_); rintro e w' ⟨rfl, ⟨nd, rfl⟩⟩; refine ⟨_, rfl, ?_⟩) | ((with_reducible refine gate_callee (f := 63) rfl ?_); refine goesL_ (some 10) rfl rfl Try.func63 (by kernel_rfl) rfl #[.int .u64 a1] rfl (by (try simp only [List.map_toArray, List.map_cons, List.map_nil]); first | done | rfl | (simp only [List.length_drop, List.length_take]; rfl)) ?_; (with_reducible refine (cmp_isNaN_uint64.calls a1 false _ A4.out).mono ?_); rintro e w' ⟨rfl, ⟨nd, rfl⟩⟩; refine ⟨_, rfl, ?_⟩) | (go_at_call 63; (with_reducible refine (cmp_isNaN_uint64.calls a0 false _ A3.out).mono ?_); rintro e w' ⟨rfl, ⟨nd, rfl⟩⟩) | (go_at_call 63; (with_reducible refine (cmp_isNaN_uint64.calls a1 false _ A4.out).mono ?_); rintro e w' ⟨rfl, ⟨nd, rfl⟩⟩))
          go_ret
          exact ⟨by first | rfl | (simp; done) | (simp [*]; done), by repeat (first | exact Drawn0.refl _ | apply Drawn0.step)⟩

end Go.Proofs.Ytiokopkglmaffaa.Print
