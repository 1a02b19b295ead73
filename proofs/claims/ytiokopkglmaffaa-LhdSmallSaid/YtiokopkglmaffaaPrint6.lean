/- Lean functions that answer what Go functions of the translation answer, and the proofs of it. Written by a program of this session (wip/tools/seatprint.py), over contracts that it proved by hand. Conditions: those that each theorem says. -/
import Derived.Test.YtiokopkglmaffaaPrint0
import Derived.Test.YtiokopkglmaffaaPrint2
import Derived.Test.YtiokopkglmaffaaPrint4
import Derived.Test.YtiokopkglmaffaaPrint5
namespace Go.Proofs.Ytiokopkglmaffaa.Print
open Go.RowKit Go.Proofs.YtiokopkglmaffaaW.PrintWords Go.Proofs.YtiokopkglmaffaaW.PrintLast Go.Proofs.YtiokopkglmaffaaW.PrintMore
attribute [local go_sem] max2_int min2_int max_two min_two max_three min_three max_four min_four   -- for this text's walks alone
set_option linter.unusedVariables false
set_option linter.unusedSimpArgs false

/-! ### api_Ratio_with_ratio_Least_1_ratio_Least_2: function 84 -/
section
open Go Go.ChangeShapes
theorem goesV_84 {P : Program} {ops : Array Oper} {Q : Exit → Act → World → Prop} {oi : Oper} {N : Option Tmp} {a : Act} {w : World} {K : Act → World → Prop} {f : FuncId} {fn : Func} {oas : Array Operand} {ts : Array TypeId} {o : Operand} (hf : P.funcs[f]? = some fn) (hname : (fn.name == "runtime.NumGoroutine") = false) (hb : fn.body.isSome = true) (args : Array Value)
    (hw : Region.wanted oi (yielded ops a.tmps) = true) (hN : oi.dst = N) (hop : oi.op = .call { callee := .value o, args := oas, argTypes := ts }) (hargs : oas.map a.eval = args) (hcal : a.eval o = .func (.func f) #[] #[])
    (h : Calls P f args w fun e w' => ∃ v, e = .returned v ∧ K (a.put N v) w') : if Region.wanted oi (yielded ops a.tmps) = true then Oper.wp P oi a w K Q else K (a.put N undef) w := by
  refine call_ f args hw hN ?_ h
  have he := enters_ hf hname hb args w
  unfold execOp
  simp [hop, resolve, Deferred.ofValue, invoke, hargs, hcal, he]
end
def api_Ratio_with_ratio_Least_1_ratio_Least_2.l0 : Nat → List (S45) → Int → List (S45) → Int → Int → Option (Int × Bool)
  | 0, _, _, _, _, _ => none
  | k + 1, x0, x8, x11, x12, x13 => if x13 < x12 then (if 0 ≤ x13 then (if x13 < (x11.length : Int) then ((ratio_Least_2.f ((rd_T45 x11 x13).f0) ((rd_T45 x11 x13).f1)).bind fun t159 => (if t159 = true then (if x8 < 0 then (api_Ratio_with_ratio_Least_1_ratio_Least_2.l0 k x0 x13 x11 x12 (wrap64 (x13 + 1))) else (if 0 ≤ x8 then (if x8 < (x0.length : Int) then ((ratio_Least_1.f k ((rd_T45 x11 x13).f0) ((rd_T45 x11 x13).f1) ((rd_T45 x0 x8).f0) ((rd_T45 x0 x8).f1)).bind fun t161 => (if t161 = true then (api_Ratio_with_ratio_Least_1_ratio_Least_2.l0 k x0 x13 x11 x12 (wrap64 (x13 + 1))) else (api_Ratio_with_ratio_Least_1_ratio_Least_2.l0 k x0 x8 x11 x12 (wrap64 (x13 + 1))))) else (none)) else (none))) else (api_Ratio_with_ratio_Least_1_ratio_Least_2.l0 k x0 x8 x11 x12 (wrap64 (x13 + 1))))) else (none)) else (none)) else (some (mx x8 0, decide (x8 ≥ 0)))
def api_Ratio_with_ratio_Least_1_ratio_Least_2.f (k : Nat) (l0 : List (S45)) : Option (Int × Bool) := api_Ratio_with_ratio_Least_1_ratio_Least_2.l0 k l0 (-1) l0 (l0.length : Int) 0
theorem api_Ratio_with_ratio_Least_1_ratio_Least_2.mono_l : ∀ k, (∀ y0 y1 y2 y3 y4, LeO (api_Ratio_with_ratio_Least_1_ratio_Least_2.l0 k y0 y1 y2 y3 y4) (api_Ratio_with_ratio_Least_1_ratio_Least_2.l0 (k + 1) y0 y1 y2 y3 y4))
  | 0 => fun _ _ _ _ _ r h => by simp [api_Ratio_with_ratio_Least_1_ratio_Least_2.l0] at h
  | k + 1 => by
    have ih0 := api_Ratio_with_ratio_Least_1_ratio_Least_2.mono_l k
    · intro y0 y1 y2 y3 y4
      unfold api_Ratio_with_ratio_Least_1_ratio_Least_2.l0
      repeat' first
      | (with_reducible exact ih0 _ _ _ _ _)
      | (with_reducible exact ratio_Least_1.mono _ _ _ _ _)
      | (with_reducible exact LeO.refl _)
      | (with_reducible exact LeO.none _)
      | (with_reducible refine LeO.ite ?_ ?_)
      | (with_reducible refine LeO.bind ?_ (fun _ => ?_))
      | exact ih0 _ _ _ _ _
      | exact ratio_Least_1.mono _ _ _ _ _
      | exact LeO.none _
      | refine LeO.ite ?_ ?_
      | refine LeO.bind ?_ (fun _ => ?_)
theorem api_Ratio_with_ratio_Least_1_ratio_Least_2.mono : ∀ a0 k, LeO (api_Ratio_with_ratio_Least_1_ratio_Least_2.f k a0) (api_Ratio_with_ratio_Least_1_ratio_Least_2.f (k + 1) a0) := by
  intro a0 k
  have ih0 := api_Ratio_with_ratio_Least_1_ratio_Least_2.mono_l k
  unfold api_Ratio_with_ratio_Least_1_ratio_Least_2.f
  repeat' first
      | (with_reducible exact ih0 _ _ _ _ _)
      | (with_reducible exact ratio_Least_1.mono _ _ _ _ _)
      | (with_reducible exact LeO.refl _)
      | (with_reducible exact LeO.none _)
      | (with_reducible refine LeO.ite ?_ ?_)
      | (with_reducible refine LeO.bind ?_ (fun _ => ?_))
      | exact ih0 _ _ _ _ _
      | exact ratio_Least_1.mono _ _ _ _ _
      | exact LeO.none _
      | refine LeO.ite ?_ ?_
      | refine LeO.bind ?_ (fun _ => ?_)
def api_Ratio_with_ratio_Least_1_ratio_Least_2.T6 : Bool × List (List Nat × List Nat) := (true, [([], []), ([0], [0]), ([1], [1]), ([2], [2]), ([2], [2]), ([2], [2]), ([2], [2]), ([5, 6, 2], [2, 5, 6]), ([7, 2], [2, 7]), ([3, 4, 8, 2, 2], [2, 3, 4, 8]), ([2, 9], [2, 9])])
def api_Ratio_with_ratio_Least_1_ratio_Least_2.B6 : List Nat := [0, 1, 3, 7, 7, 7, 7, 103, 231, 511, 1023]
theorem api_Ratio_with_ratio_Least_1_ratio_Least_2.tab6 : rtab .any (opsOf Try.f41 6) = api_Ratio_with_ratio_Least_1_ratio_Least_2.T6 := by kernel_rfl
theorem api_Ratio_with_ratio_Least_1_ratio_Least_2.bits6 : waitsOk api_Ratio_with_ratio_Least_1_ratio_Least_2.T6.2 api_Ratio_with_ratio_Least_1_ratio_Least_2.B6 = true := by kernel_rfl
set_option maxHeartbeats 8000000 in
set_option maxRecDepth 100000 in
theorem api_Ratio_with_ratio_Least_1_ratio_Least_2.calls (k : Nat) (A0 : Option Addr) (c0 : Nat) (l0 : List (S45)) (r1 : Int) (r2 : Bool) (w : World) (hr0 : Kd.C k45 w A0 l0.length l0) (hc0 : l0.length ≤ c0) (h : api_Ratio_with_ratio_Least_1_ratio_Least_2.f k l0 = some (r1, r2)) :
    Calls Try.prog 41 #[.slice A0 l0.length c0, .func (.func 39) #[] #[], .func (.func 42) #[] #[]] w fun e w' => e = .returned (.tuple #[.int .i64 r1, .bool r2]) ∧ Below w.heap.size w w' := by
  have hu45 := Try.underlying45
  have HR0 := Aside0.mk hr0
  have HC0 := Aside0.mk hc0
  clear hr0 hc0
  have HB := Aside0.mk (Below.refl w.heap.size w)
  have H : (api_Ratio_with_ratio_Least_1_ratio_Least_2.l0 k l0 (-1) l0 (l0.length : Int) 0) = some (r1, r2) := h
  clear h
  have H' := Aside0.mk H
  clear H
  go_enter Try.func41, Try.ntmps41
  go_wp2
  (repeat (go_step3; (try go_wp2)))
  go_loopg [8, 13] k (fun kq v8 v13 w' => ∃ (x8_1 : Int) (x13_1 : Int), v8 = .int .i64 x8_1 ∧ v13 = .int .i64 x13_1 ∧ Aside0 (api_Ratio_with_ratio_Least_1_ratio_Least_2.l0 kq l0 x8_1 l0 (l0.length : Int) x13_1 = some (r1, r2)) ∧ Aside0 (kq ≤ k) ∧ Aside0 (Below w.heap.size w w'))
  case atStart => exact ⟨((-1)), (0), (by first | rfl | (simp; done) | (simp [*]; done)), (by first | rfl | (simp; done) | (simp [*]; done)), H', ⟨Nat.le_refl _⟩, ⟨by repeat (first | (with_reducible first | exact HB.out | apply below_alloc | apply pw_below_drewN | apply below_drew1) | exact HB.out)⟩⟩
  case round =>
    clear H'
    obtain ⟨x8_1, x13_1, rfl, rfl, HA, HK1, HB⟩ := hrel
    cases gk with
    | zero => exact absurd HA.out (by simp [api_Ratio_with_ratio_Least_1_ratio_Least_2.l0])
    | succ k1 =>
      have H := HA.out
      clear HA
      simp only [api_Ratio_with_ratio_Least_1_ratio_Least_2.l0] at H
      by_cases c2 : x13_1 < (l0.length : Int)
      · rw [if_pos c2] at H
        have c2b0 : decide (x13_1 < (l0.length : Int)) = true := decide_eq_true c2
        clear c2
        by_cases c3 : 0 ≤ x13_1
        · rw [if_pos c3] at H
          have c3b0 : decide (0 ≤ x13_1) = true := decide_eq_true c3
          clear c3
          by_cases c4 : x13_1 < (l0.length : Int)
          · rw [if_pos c4] at H
            have c4b0 : decide (x13_1 < (l0.length : Int)) = true := decide_eq_true c4
            clear c4
            replace H := Option.bind_eq_some_iff.mp H
            obtain ⟨t159, A50, H⟩ := H
            replace H : (if t159 = true then (if x8_1 < 0 then (api_Ratio_with_ratio_Least_1_ratio_Least_2.l0 k1 l0 x13_1 l0 (l0.length : Int) (wrap64 (x13_1 + 1))) else (if 0 ≤ x8_1 then (if x8_1 < (l0.length : Int) then ((ratio_Least_1.f k1 ((rd_T45 l0 x13_1).f0) ((rd_T45 l0 x13_1).f1) ((rd_T45 l0 x8_1).f0) ((rd_T45 l0 x8_1).f1)).bind fun t161 => (if t161 = true then (api_Ratio_with_ratio_Least_1_ratio_Least_2.l0 k1 l0 x13_1 l0 (l0.length : Int) (wrap64 (x13_1 + 1))) else (api_Ratio_with_ratio_Least_1_ratio_Least_2.l0 k1 l0 x8_1 l0 (l0.length : Int) (wrap64 (x13_1 + 1))))) else (none)) else (none))) else (api_Ratio_with_ratio_Least_1_ratio_Least_2.l0 k1 l0 x8_1 l0 (l0.length : Int) (wrap64 (x13_1 + 1)))) = some (r1, r2) := H
            have A5 := Aside0.mk A50
            clear A50
            by_cases c6 : t159 = true
            · subst c6
              have H1 : (if x8_1 < 0 then (api_Ratio_with_ratio_Least_1_ratio_Least_2.l0 k1 l0 x13_1 l0 (l0.length : Int) (wrap64 (x13_1 + 1))) else (if 0 ≤ x8_1 then (if x8_1 < (l0.length : Int) then ((ratio_Least_1.f k1 ((rd_T45 l0 x13_1).f0) ((rd_T45 l0 x13_1).f1) ((rd_T45 l0 x8_1).f0) ((rd_T45 l0 x8_1).f1)).bind fun t161 => (if t161 = true then (api_Ratio_with_ratio_Least_1_ratio_Least_2.l0 k1 l0 x13_1 l0 (l0.length : Int) (wrap64 (x13_1 + 1))) else (api_Ratio_with_ratio_Least_1_ratio_Least_2.l0 k1 l0 x8_1 l0 (l0.length : Int) (wrap64 (x13_1 + 1))))) else (none)) else (none))) = some (r1, r2) := by rw [if_pos rfl] at H; exact H
              clear H
              have H := H1
              clear H1
              by_cases c7 : x8_1 < 0
              · rw [if_pos c7] at H
                have c7b0 : decide (x8_1 < 0) = true := decide_eq_true c7
                clear c7
                have H' := Aside0.mk H
                clear H
                have p157 : 0 ≤ (x13_1 : Int) := of_decide_eq_true (by first | (with_reducible assumption) | assumption)
                have q157 : x13_1 < (l0.length : Int) := of_decide_eq_true (by first | (with_reducible assumption) | assumption)
                obtain ⟨ad157, e157, hx157_0, hx157_1⟩ := at_T45 HR0.out x13_1 p157 q157
                cases e157
                replace hx157_0 := (HB.out.cell (World.block_lt_of_cell? w _ hx157_0)).trans hx157_0
                replace hx157_1 := (HB.out.cell (World.block_lt_of_cell? w _ hx157_1)).trans hx157_1
                replace p157 := eq_true p157
                replace q157 := eq_true q157
                try go_wp2_with (first | ((with_reducible refine gate_dst (N := 10) rfl ?_); refine box_event ?hg (N := 10) ?hd (cs := #[.int .u64 0, .int .u64 0]) (t := 45) ?hr ?_; (case hd => rfl); (case hg => rfl); (case hr => first | (go_simp; done) | (go_simp; rfl)); intro gb158 hg w8 hbox hb; have n0_ := Aside0.mk (below_step (by repeat (first | (with_reducible first | exact HB.out | apply below_alloc | apply pw_below_drewN | apply below_drew1) | exact HB.out)) hb); have n1_ := Aside0.mk (hbox); have n2_ := Aside0.mk ((by rw [hg]; exact (below_size (by repeat (first | (with_reducible first | exact HB.out | apply below_alloc | apply pw_below_drewN | apply below_drew1) | exact HB.out))) : w.heap.size ≤ gb158)); have n3_ := Aside0.mk ((by rw [hg]; exact (below_size (by repeat (first | (with_reducible first | exact HB.out | apply below_alloc | apply pw_below_drewN | apply below_drew1) | exact HB.out))) : w.heap.size ≤ gb158)); clear HB; have HB := n0_; have BK158 := n1_; have GW158 := n2_; have GE158 := n3_; clear n0_ n1_ n2_ n3_; clear hb hbox hg; have hcz9_0 : w8.cell? ⟨gb158, 0, none⟩ = some (.int .u64 0) := (blk_cell BK158.out 0).trans rfl; have hcz9_1 : w8.cell? ⟨gb158, 1, none⟩ = some (.int .u64 0) := (blk_cell BK158.out 1).trans rfl; have hfz9_0 := blk_frozen BK158.out 0; have hfz9_1 := blk_frozen BK158.out 1) | ((with_reducible refine gate_callee (f := 42) rfl ?_); refine goesL_ (some 20) rfl rfl Try.func42 (by kernel_rfl) rfl #[.agg #[.int .u64 ((rd_T45 l0 x13_1).f0), .int .u64 ((rd_T45 l0 x13_1).f1)]] rfl (by (try simp only [List.map_toArray, List.map_cons, List.map_nil]); first | done | rfl | (simp only [List.length_drop, List.length_take]; rfl)) ?_; (with_reducible refine (ratio_Least_2.calls ((rd_T45 l0 x13_1).f0) ((rd_T45 l0 x13_1).f1) true _ A5.out).mono ?_); rintro e w10 ⟨rfl, hb⟩; refine ⟨_, rfl, ?_⟩; have n0_ := Aside0.mk (blk_below (g := gb158) (o := .cells #[.int .u64 ((rd_T45 l0 x13_1).f0), .int .u64 ((rd_T45 l0 x13_1).f1)] 45 (0, 0)) (by (with_reducible repeat (first | refine blk_drewN ?_ _ | refine blk_drew ?_ | refine blk_alloc ?_ _)); refine blk_put (cs := #[.int .u64 ((rd_T45 l0 x13_1).f0), .int .u64 0]) ?_ 1 _ rfl; (with_reducible repeat (first | refine blk_drewN ?_ _ | refine blk_drew ?_ | refine blk_alloc ?_ _)); refine blk_put (cs := #[.int .u64 0, .int .u64 0]) ?_ 0 _ rfl; (with_reducible repeat (first | refine blk_drewN ?_ _ | refine blk_drew ?_ | refine blk_alloc ?_ _)); exact BK158.out) hb); have n1_ := Aside0.mk (below_step (by repeat (first | (with_reducible first | exact HB.out | apply below_alloc | apply pw_below_drewN | apply below_drew1 | refine below_set ?_ GE158.out) | exact HB.out)) hb); clear BK158; clear HB; have BK158 := n0_; have HB := n1_; clear n0_ n1_; (try clear hb); (try clear hb2); (try clear hk); (try clear hi)) | (go_at_call 42; (with_reducible refine (ratio_Least_2.calls ((rd_T45 l0 x13_1).f0) ((rd_T45 l0 x13_1).f1) true _ A5.out).mono ?_); rintro e w10 ⟨rfl, hb⟩; have n0_ := Aside0.mk (blk_below (g := gb158) (o := .cells #[.int .u64 ((rd_T45 l0 x13_1).f0), .int .u64 ((rd_T45 l0 x13_1).f1)] 45 (0, 0)) (by (with_reducible repeat (first | refine blk_drewN ?_ _ | refine blk_drew ?_ | refine blk_alloc ?_ _)); refine blk_put (cs := #[.int .u64 ((rd_T45 l0 x13_1).f0), .int .u64 0]) ?_ 1 _ rfl; (with_reducible repeat (first | refine blk_drewN ?_ _ | refine blk_drew ?_ | refine blk_alloc ?_ _)); refine blk_put (cs := #[.int .u64 0, .int .u64 0]) ?_ 0 _ rfl; (with_reducible repeat (first | refine blk_drewN ?_ _ | refine blk_drew ?_ | refine blk_alloc ?_ _)); exact BK158.out) hb); have n1_ := Aside0.mk (below_step (by repeat (first | (with_reducible first | exact HB.out | apply below_alloc | apply pw_below_drewN | apply below_drew1 | refine below_set ?_ GE158.out) | exact HB.out)) hb); clear BK158; clear HB; have BK158 := n0_; have HB := n1_; clear n0_ n1_; (try clear hb); (try clear hb2); (try clear hk); (try clear hi)))
                have n0_ := Aside0.mk (blk_drew BK158.out)
                have n1_ := Aside0.mk (below_drew1 HB.out)
                clear BK158
                clear HB
                have BK158 := n0_
                have HB := n1_
                clear n0_ n1_
                refine start_ (n := 11) (S := fun w' => True) (ds := []) #[false, false, false, false, false, false, false, false, false, false, false] (by kernel_rfl) rfl rfl trivial (fun hHeld => ?_); refine with_tabW api_Ratio_with_ratio_Least_1_ratio_Least_2.tab6 api_Ratio_with_ratio_Least_1_ratio_Least_2.bits6 (fun HT_ HW_ => ?_)
                generalize w10.drew = w11 at BK158 HB hHeld ⊢
                refine pure_ (i := 0) (N := some 22) (v := ?_) (a' := ?_) #[true, false, false, false, false, false, false, false, false, false, false] rfl rfl (any_of HT_.out (by kernel_rfl)) (fun _ _ _ h => h) (Or.inl ⟨by rfl, ?_⟩) ?_ ?_
                rotate_left
                · intro w'
                  go_simp
                  with_reducible rfl
                rotate_left
                · simp only [Act.put, List.setIfInBounds_toArray, List.set_cons_zero, List.set_cons_succ, i64_w, i32_w]
                  rfl
                refine pure_ (i := 1) (N := some 23) (v := ?_) (a' := ?_) #[true, true, false, false, false, false, false, false, false, false, false] rfl rfl (any_of HT_.out (by kernel_rfl)) (fun _ _ _ h => h) (Or.inl ⟨by rfl, ?_⟩) ?_ ?_
                rotate_left
                · intro w'
                  go_simp
                  with_reducible rfl
                rotate_left
                · simp only [Act.put, List.setIfInBounds_toArray, List.set_cons_zero, List.set_cons_succ, i64_w, i32_w]
                  rfl
                refine pure_ (i := 2) (N := some 24) (v := ?_) (a' := ?_) #[true, true, true, false, false, false, false, false, false, false, false] rfl rfl (any_of HT_.out (by kernel_rfl)) (fun _ _ _ h => h) (Or.inl ⟨by rfl, ?_⟩) ?_ ?_
                rotate_left
                · intro w'
                  go_simp
                  with_reducible rfl
                rotate_left
                · simp only [Act.put, List.setIfInBounds_toArray, List.set_cons_zero, List.set_cons_succ, i64_w, i32_w]
                  rfl
                refine pure_ (i := 3) (N := some 25) (v := undef) (a' := ?_) #[true, true, true, true, false, false, false, false, false, false, false] rfl rfl (any_of HT_.out (by kernel_rfl)) (fun _ _ _ h => h) (Or.inr ⟨by rfl, rfl⟩) ?_ ?_
                rotate_left
                · simp only [Act.put, List.setIfInBounds_toArray, List.set_cons_zero, List.set_cons_succ, i64_w, i32_w]
                  rfl
                refine pure_ (i := 4) (N := some 26) (v := undef) (a' := ?_) #[true, true, true, true, true, false, false, false, false, false, false] rfl rfl (any_of HT_.out (by kernel_rfl)) (fun _ _ _ h => h) (Or.inr ⟨by rfl, rfl⟩) ?_ ?_
                rotate_left
                · simp only [Act.put, List.setIfInBounds_toArray, List.set_cons_zero, List.set_cons_succ, i64_w, i32_w]
                  rfl
                refine pure_ (i := 5) (N := some 27) (v := undef) (a' := ?_) #[true, true, true, true, true, true, false, false, false, false, false] rfl rfl (any_of HT_.out (by kernel_rfl)) (fun _ _ _ h => h) (Or.inr ⟨by rfl, rfl⟩) ?_ ?_
                rotate_left
                · simp only [Act.put, List.setIfInBounds_toArray, List.set_cons_zero, List.set_cons_succ, i64_w, i32_w]
                  rfl
                refine pure_ (i := 6) (N := some 28) (v := undef) (a' := ?_) #[true, true, true, true, true, true, true, false, false, false, false] rfl rfl (any_of HT_.out (by kernel_rfl)) (fun _ _ _ h => h) (Or.inr ⟨by rfl, rfl⟩) ?_ ?_
                rotate_left
                · simp only [Act.put, List.setIfInBounds_toArray, List.set_cons_zero, List.set_cons_succ, i64_w, i32_w]
                  rfl
                refine pure_ (i := 7) (N := some 29) (v := undef) (a' := ?_) #[true, true, true, true, true, true, true, true, false, false, false] rfl rfl (any_of HT_.out (by kernel_rfl)) (fun _ _ _ h => h) (Or.inr ⟨by rfl, rfl⟩) ?_ ?_
                rotate_left
                · simp only [Act.put, List.setIfInBounds_toArray, List.set_cons_zero, List.set_cons_succ, i64_w, i32_w]
                  rfl
                refine pure_ (i := 8) (N := some 30) (v := undef) (a' := ?_) #[true, true, true, true, true, true, true, true, true, false, false] rfl rfl (any_of HT_.out (by kernel_rfl)) (fun _ _ _ h => h) (Or.inr ⟨by rfl, rfl⟩) ?_ ?_
                rotate_left
                · simp only [Act.put, List.setIfInBounds_toArray, List.set_cons_zero, List.set_cons_succ, i64_w, i32_w]
                  rfl
                refine pure_ (i := 9) (N := some 31) (v := undef) (a' := ?_) #[true, true, true, true, true, true, true, true, true, true, false] rfl rfl (any_of HT_.out (by kernel_rfl)) (fun _ _ _ h => h) (Or.inr ⟨by rfl, rfl⟩) ?_ ?_
                rotate_left
                · simp only [Act.put, List.setIfInBounds_toArray, List.set_cons_zero, List.set_cons_succ, i64_w, i32_w]
                  rfl
                refine pure_ (i := 10) (N := some 32) (v := ?_) (a' := ?_) #[true, true, true, true, true, true, true, true, true, true, true] rfl rfl (any_of HT_.out (by kernel_rfl)) (fun _ _ _ h => h) (Or.inl ⟨by rfl, ?_⟩) ?_ ?_
                rotate_left
                · intro w'
                  go_simp
                  with_reducible rfl
                rotate_left
                · simp only [Act.put, List.setIfInBounds_toArray, List.set_cons_zero, List.set_cons_succ, i64_w, i32_w]
                  rfl
                refine done_ (done_of HT_.out (by kernel_rfl)) ?_
                try go_wp2
                go_roundg k1
                case measure => have := HK1.out; omega
                case rel => exact ⟨(x13_1), (wrap64 (x13_1 + 1)), (by first | rfl | (simp; done) | (simp [*]; done)), (by first | rfl | (simp; done) | (simp [*]; done)), H', ⟨by have := HK1.out; omega⟩, ⟨by repeat (first | (with_reducible first | exact HB.out | apply below_alloc | apply pw_below_drewN | apply below_drew1 | refine below_set ?_ GE158.out) | exact HB.out)⟩⟩
              · rw [if_neg c7] at H
                have c7b0 : decide (x8_1 < 0) = false := decide_eq_false c7
                clear c7
                by_cases c12 : 0 ≤ x8_1
                · rw [if_pos c12] at H
                  have c12b0 : decide (0 ≤ x8_1) = true := decide_eq_true c12
                  clear c12
                  by_cases c13 : x8_1 < (l0.length : Int)
                  · rw [if_pos c13] at H
                    have c13b0 : decide (x8_1 < (l0.length : Int)) = true := decide_eq_true c13
                    clear c13
                    replace H := Option.bind_eq_some_iff.mp H
                    obtain ⟨t161, A140, H⟩ := H
                    replace H : (if t161 = true then (api_Ratio_with_ratio_Least_1_ratio_Least_2.l0 k1 l0 x13_1 l0 (l0.length : Int) (wrap64 (x13_1 + 1))) else (api_Ratio_with_ratio_Least_1_ratio_Least_2.l0 k1 l0 x8_1 l0 (l0.length : Int) (wrap64 (x13_1 + 1)))) = some (r1, r2) := H
                    have A14 := Aside0.mk A140
                    clear A140
                    by_cases c15 : t161 = true
                    · subst c15
                      have H1 : (api_Ratio_with_ratio_Least_1_ratio_Least_2.l0 k1 l0 x13_1 l0 (l0.length : Int) (wrap64 (x13_1 + 1))) = some (r1, r2) := by rw [if_pos rfl] at H; exact H
                      clear H
                      have H := H1
                      clear H1
                      have H' := Aside0.mk H
                      clear H
                      have p157 : 0 ≤ (x13_1 : Int) := of_decide_eq_true (by first | (with_reducible assumption) | assumption)
                      have q157 : x13_1 < (l0.length : Int) := of_decide_eq_true (by first | (with_reducible assumption) | assumption)
                      obtain ⟨ad157, e157, hx157_0, hx157_1⟩ := at_T45 HR0.out x13_1 p157 q157
                      cases e157
                      replace hx157_0 := (HB.out.cell (World.block_lt_of_cell? w _ hx157_0)).trans hx157_0
                      replace hx157_1 := (HB.out.cell (World.block_lt_of_cell? w _ hx157_1)).trans hx157_1
                      replace p157 := eq_true p157
                      replace q157 := eq_true q157
                      try go_wp2_with (first | ((with_reducible refine gate_dst (N := 10) rfl ?_); refine box_event ?hg (N := 10) ?hd (cs := #[.int .u64 0, .int .u64 0]) (t := 45) ?hr ?_; (case hd => rfl); (case hg => rfl); (case hr => first | (go_simp; done) | (go_simp; rfl)); intro gb158 hg w16 hbox hb; have n0_ := Aside0.mk (below_step (by repeat (first | (with_reducible first | exact HB.out | apply below_alloc | apply pw_below_drewN | apply below_drew1) | exact HB.out)) hb); have n1_ := Aside0.mk (hbox); have n2_ := Aside0.mk ((by rw [hg]; exact (below_size (by repeat (first | (with_reducible first | exact HB.out | apply below_alloc | apply pw_below_drewN | apply below_drew1) | exact HB.out))) : w.heap.size ≤ gb158)); have n3_ := Aside0.mk ((by rw [hg]; exact (below_size (by repeat (first | (with_reducible first | exact HB.out | apply below_alloc | apply pw_below_drewN | apply below_drew1) | exact HB.out))) : w.heap.size ≤ gb158)); clear HB; have HB := n0_; have BK158 := n1_; have GW158 := n2_; have GE158 := n3_; clear n0_ n1_ n2_ n3_; clear hb hbox hg; have hcz17_0 : w16.cell? ⟨gb158, 0, none⟩ = some (.int .u64 0) := (blk_cell BK158.out 0).trans rfl; have hcz17_1 : w16.cell? ⟨gb158, 1, none⟩ = some (.int .u64 0) := (blk_cell BK158.out 1).trans rfl; have hfz17_0 := blk_frozen BK158.out 0; have hfz17_1 := blk_frozen BK158.out 1) | ((with_reducible refine gate_callee (f := 42) rfl ?_); refine goesL_ (some 20) rfl rfl Try.func42 (by kernel_rfl) rfl #[.agg #[.int .u64 ((rd_T45 l0 x13_1).f0), .int .u64 ((rd_T45 l0 x13_1).f1)]] rfl (by (try simp only [List.map_toArray, List.map_cons, List.map_nil]); first | done | rfl | (simp only [List.length_drop, List.length_take]; rfl)) ?_; (with_reducible refine (ratio_Least_2.calls ((rd_T45 l0 x13_1).f0) ((rd_T45 l0 x13_1).f1) true _ A5.out).mono ?_); rintro e w18 ⟨rfl, hb⟩; refine ⟨_, rfl, ?_⟩; have n0_ := Aside0.mk (blk_below (g := gb158) (o := .cells #[.int .u64 ((rd_T45 l0 x13_1).f0), .int .u64 ((rd_T45 l0 x13_1).f1)] 45 (0, 0)) (by (with_reducible repeat (first | refine blk_drewN ?_ _ | refine blk_drew ?_ | refine blk_alloc ?_ _)); refine blk_put (cs := #[.int .u64 ((rd_T45 l0 x13_1).f0), .int .u64 0]) ?_ 1 _ rfl; (with_reducible repeat (first | refine blk_drewN ?_ _ | refine blk_drew ?_ | refine blk_alloc ?_ _)); refine blk_put (cs := #[.int .u64 0, .int .u64 0]) ?_ 0 _ rfl; (with_reducible repeat (first | refine blk_drewN ?_ _ | refine blk_drew ?_ | refine blk_alloc ?_ _)); exact BK158.out) hb); have n1_ := Aside0.mk (below_step (by repeat (first | (with_reducible first | exact HB.out | apply below_alloc | apply pw_below_drewN | apply below_drew1 | refine below_set ?_ GE158.out) | exact HB.out)) hb); clear BK158; clear HB; have BK158 := n0_; have HB := n1_; clear n0_ n1_; (try clear hb); (try clear hb2); (try clear hk); (try clear hi)) | (go_at_call 42; (with_reducible refine (ratio_Least_2.calls ((rd_T45 l0 x13_1).f0) ((rd_T45 l0 x13_1).f1) true _ A5.out).mono ?_); rintro e w18 ⟨rfl, hb⟩; have n0_ := Aside0.mk (blk_below (g := gb158) (o := .cells #[.int .u64 ((rd_T45 l0 x13_1).f0), .int .u64 ((rd_T45 l0 x13_1).f1)] 45 (0, 0)) (by (with_reducible repeat (first | refine blk_drewN ?_ _ | refine blk_drew ?_ | refine blk_alloc ?_ _)); refine blk_put (cs := #[.int .u64 ((rd_T45 l0 x13_1).f0), .int .u64 0]) ?_ 1 _ rfl; (with_reducible repeat (first | refine blk_drewN ?_ _ | refine blk_drew ?_ | refine blk_alloc ?_ _)); refine blk_put (cs := #[.int .u64 0, .int .u64 0]) ?_ 0 _ rfl; (with_reducible repeat (first | refine blk_drewN ?_ _ | refine blk_drew ?_ | refine blk_alloc ?_ _)); exact BK158.out) hb); have n1_ := Aside0.mk (below_step (by repeat (first | (with_reducible first | exact HB.out | apply below_alloc | apply pw_below_drewN | apply below_drew1 | refine below_set ?_ GE158.out) | exact HB.out)) hb); clear BK158; clear HB; have BK158 := n0_; have HB := n1_; clear n0_ n1_; (try clear hb); (try clear hb2); (try clear hk); (try clear hi)))
                      have n0_ := Aside0.mk (blk_drew BK158.out)
                      have n1_ := Aside0.mk (below_drew1 HB.out)
                      clear BK158
                      clear HB
                      have BK158 := n0_
                      have HB := n1_
                      clear n0_ n1_
                      have p160 : 0 ≤ (x8_1 : Int) := of_decide_eq_true (by first | (with_reducible assumption) | assumption)
                      have q160 : x8_1 < (l0.length : Int) := of_decide_eq_true (by first | (with_reducible assumption) | assumption)
                      obtain ⟨ad160, e160, hx160_0, hx160_1⟩ := at_T45 HR0.out x8_1 p160 q160
                      have hw160_1 := hx160_1
                      have hw160_0 := hx160_0
                      obtain rfl : ad157 = ad160 := (by injection e160)
                      replace hx160_0 := (HB.out.cell (World.block_lt_of_cell? w _ hx160_0)).trans hx160_0
                      replace hx160_1 := (HB.out.cell (World.block_lt_of_cell? w _ hx160_1)).trans hx160_1
                      replace p160 := eq_true p160
                      replace q160 := eq_true q160
                      refine start_ (n := 11) (S := fun w' => w'.cell? ⟨gb158, 0, none⟩ = some (.int .u64 ((rd_T45 l0 x13_1).f0)) ∧ w'.cell? ⟨gb158, 1, none⟩ = some (.int .u64 ((rd_T45 l0 x13_1).f1)) ∧ w'.cell? (ad157.add ((x8_1).toNat * 2)) = some (.int .u64 ((rd_T45 l0 x8_1).f0)) ∧ w'.cell? ⟨(ad157.add ((x8_1).toNat * 2)).block, (ad157.add ((x8_1).toNat * 2)).off + 1, none⟩ = some (.int .u64 ((rd_T45 l0 x8_1).f1))) (ds := []) #[false, false, false, false, false, false, false, false, false, false, false] (by kernel_rfl) rfl rfl ⟨(blk_cell BK158.out 0).trans rfl, (blk_cell BK158.out 1).trans rfl, ((HB.out.cell (World.block_lt_of_cell? w _ hw160_0)).trans hw160_0), ((HB.out.cell (World.block_lt_of_cell? w _ hw160_1)).trans hw160_1)⟩ (fun hHeld => ?_); refine with_tabW api_Ratio_with_ratio_Least_1_ratio_Least_2.tab6 api_Ratio_with_ratio_Least_1_ratio_Least_2.bits6 (fun HT_ HW_ => ?_)
                      generalize w18.drew = w19 at BK158 HB hx160_0 hx160_1 hHeld ⊢
                      refine pure_ (i := 0) (N := some 22) (v := ?_) (a' := ?_) #[true, false, false, false, false, false, false, false, false, false, false] rfl rfl (any_of HT_.out (by kernel_rfl)) (fun _ _ _ h => h) (Or.inl ⟨by rfl, ?_⟩) ?_ ?_
                      rotate_left
                      · intro w'
                        go_simp
                        with_reducible rfl
                      rotate_left
                      · simp only [Act.put, List.setIfInBounds_toArray, List.set_cons_zero, List.set_cons_succ, i64_w, i32_w]
                        rfl
                      refine pure_ (i := 1) (N := some 23) (v := ?_) (a' := ?_) #[true, true, false, false, false, false, false, false, false, false, false] rfl rfl (any_of HT_.out (by kernel_rfl)) (fun _ _ _ h => h) (Or.inl ⟨by rfl, ?_⟩) ?_ ?_
                      rotate_left
                      · intro w'
                        go_simp
                        with_reducible rfl
                      rotate_left
                      · simp only [Act.put, List.setIfInBounds_toArray, List.set_cons_zero, List.set_cons_succ, i64_w, i32_w]
                        rfl
                      refine pure_ (i := 2) (N := some 24) (v := ?_) (a' := ?_) #[true, true, true, false, false, false, false, false, false, false, false] rfl rfl (any_of HT_.out (by kernel_rfl)) (fun _ _ _ h => h) (Or.inl ⟨by rfl, ?_⟩) ?_ ?_
                      rotate_left
                      · intro w'
                        go_simp
                        with_reducible rfl
                      rotate_left
                      · simp only [Act.put, List.setIfInBounds_toArray, List.set_cons_zero, List.set_cons_succ, i64_w, i32_w]
                        rfl
                      refine pure_ (i := 3) (N := some 25) (v := ?_) (a' := ?_) #[true, true, true, true, false, false, false, false, false, false, false] rfl rfl (any_of HT_.out (by kernel_rfl)) (fun _ _ _ h => h) (Or.inl ⟨by rfl, ?_⟩) ?_ ?_
                      rotate_left
                      · intro w'
                        go_simp
                        with_reducible rfl
                      rotate_left
                      · simp only [Act.put, List.setIfInBounds_toArray, List.set_cons_zero, List.set_cons_succ, i64_w, i32_w]
                        rfl
                      refine pure_ (i := 5) (N := some 27) (v := ?_) (a' := ?_) #[true, true, true, true, false, true, false, false, false, false, false] rfl rfl (any_of HT_.out (by kernel_rfl)) (fun _ _ _ h => h) (Or.inl ⟨by rfl, ?_⟩) ?_ ?_
                      rotate_left
                      · intro w'
                        go_simp
                        with_reducible rfl
                      rotate_left
                      · simp only [Act.put, List.setIfInBounds_toArray, List.set_cons_zero, List.set_cons_succ, i64_w, i32_w]
                        rfl
                      refine pure_ (i := 6) (N := some 28) (v := ?_) (a' := ?_) #[true, true, true, true, false, true, true, false, false, false, false] rfl rfl (any_of HT_.out (by kernel_rfl)) (fun _ _ _ h => h) (Or.inl ⟨by rfl, ?_⟩) ?_ ?_
                      rotate_left
                      · intro w'
                        go_simp
                        with_reducible rfl
                      rotate_left
                      · simp only [Act.put, List.setIfInBounds_toArray, List.set_cons_zero, List.set_cons_succ, i64_w, i32_w]
                        rfl
                      refine pure_ (i := 7) (N := some 29) (v := ?_) (a' := ?_) #[true, true, true, true, false, true, true, true, false, false, false] rfl rfl (any_of HT_.out (by kernel_rfl)) (fun _ _ _ h => h) (Or.inl ⟨by rfl, ?_⟩) ?_ ?_
                      rotate_left
                      · intro w'
                        go_simp
                        with_reducible rfl
                      rotate_left
                      · simp only [Act.put, List.setIfInBounds_toArray, List.set_cons_zero, List.set_cons_succ, i64_w, i32_w]
                        rfl
                      refine take_ (i := 4) (N := some 26) (v := ?_) (a' := ?_) #[true, true, true, true, true, true, true, true, false, false, false] rfl rfl (take_ofW HT_.out HW_.out (by kernel_rfl)) (fun _ _ _ h => h) (Or.inl ⟨by rfl, ?_⟩) hHeld ?_ ?_
                      rotate_left
                      · rintro w' ⟨s0, s1, s2, s3⟩
                        go_simp
                        with_reducible rfl
                      rotate_left
                      · simp only [Act.put, List.setIfInBounds_toArray, List.set_cons_zero, List.set_cons_succ, i64_w, i32_w]
                        rfl
                      refine take_ (i := 8) (N := some 30) (v := ?_) (a' := ?_) #[true, true, true, true, true, true, true, true, true, false, false] rfl rfl (take_ofW HT_.out HW_.out (by kernel_rfl)) (fun _ _ _ h => h) (Or.inl ⟨by rfl, ?_⟩) hHeld ?_ ?_
                      rotate_left
                      · rintro w' ⟨s0, s1, s2, s3⟩
                        go_simp
                        with_reducible rfl
                      rotate_left
                      · simp only [Act.put, List.setIfInBounds_toArray, List.set_cons_zero, List.set_cons_succ, i64_w, i32_w]
                        rfl
                      refine one_ (i := 9) (N := some 31) #[true, true, true, true, true, true, true, true, true, true, false] rfl rfl (one_of HT_.out (by kernel_rfl)) (by decide) (fun K hK => ?_)
                      first | (refine goes_ Try.func39 (by kernel_rfl) rfl #[.agg #[.int .u64 ((rd_T45 l0 x13_1).f0), .int .u64 ((rd_T45 l0 x13_1).f1)], .agg #[.int .u64 ((rd_T45 l0 x8_1).f0), .int .u64 ((rd_T45 l0 x8_1).f1)]] (by rfl) rfl rfl (by (try simp only [List.map_toArray, List.map_cons, List.map_nil]); first | done | rfl | (simp only [List.length_drop, List.length_take]; rfl)) ?_) | (refine goesV_84 Try.func39 (by kernel_rfl) rfl #[.agg #[.int .u64 ((rd_T45 l0 x13_1).f0), .int .u64 ((rd_T45 l0 x13_1).f1)], .agg #[.int .u64 ((rd_T45 l0 x8_1).f0), .int .u64 ((rd_T45 l0 x8_1).f1)]] (by rfl) rfl rfl (by (try simp only [List.map_toArray, List.map_cons, List.map_nil]); first | done | rfl | (simp only [List.length_drop, List.length_take]; rfl)) (by first | rfl | (go_simp; done) | (go_simp; rfl)) ?_)
                      with_reducible refine (ratio_Least_1.calls k1 ((rd_T45 l0 x13_1).f0) ((rd_T45 l0 x13_1).f1) ((rd_T45 l0 x8_1).f0) ((rd_T45 l0 x8_1).f1) true _ A14.out).mono ?_
                      rintro e w20 ⟨rfl, hb⟩
                      refine ⟨_, rfl, ?_⟩
                      have n0_ := Aside0.mk (blk_below (g := gb158) (o := .cells #[.int .u64 ((rd_T45 l0 x13_1).f0), .int .u64 ((rd_T45 l0 x13_1).f1)] 45 (0, 0)) (by (with_reducible repeat (first | refine blk_drewN ?_ _ | refine blk_drew ?_ | refine blk_alloc ?_ _)); exact BK158.out) hb)
                      have n1_ := Aside0.mk (below_step (by repeat (first | (with_reducible first | exact HB.out | apply below_alloc | apply pw_below_drewN | apply below_drew1 | refine below_set ?_ GE158.out) | exact HB.out)) hb)
                      clear BK158
                      clear HB
                      have BK158 := n0_
                      have HB := n1_
                      clear n0_ n1_
                      (try clear hb)
                      (try clear hb2)
                      (try clear hk)
                      (try clear hi)
                      refine hK.out _ _ ⟨(blk_cell BK158.out 0).trans rfl, (blk_cell BK158.out 1).trans rfl, ((HB.out.cell (World.block_lt_of_cell? w _ hw160_0)).trans hw160_0), ((HB.out.cell (World.block_lt_of_cell? w _ hw160_1)).trans hw160_1)⟩ (fun hHeld => ?_)
                      clear hK K
                      refine norm_ (a' := ?_) ?_ ?_
                      rotate_left
                      · show Act.put _ (some 31) _ = _
                        simp only [Act.put, List.setIfInBounds_toArray, List.set_cons_zero, List.set_cons_succ, i64_w, i32_w]
                        rfl
                      refine pure_ (i := 10) (N := some 32) (v := ?_) (a' := ?_) #[true, true, true, true, true, true, true, true, true, true, true] rfl rfl (any_of HT_.out (by kernel_rfl)) (fun _ _ _ h => h) (Or.inl ⟨by rfl, ?_⟩) ?_ ?_
                      rotate_left
                      · intro w'
                        go_simp
                        with_reducible rfl
                      rotate_left
                      · simp only [Act.put, List.setIfInBounds_toArray, List.set_cons_zero, List.set_cons_succ, i64_w, i32_w]
                        rfl
                      refine done_ (done_of HT_.out (by kernel_rfl)) ?_
                      try go_wp2
                      go_roundg k1
                      case measure => have := HK1.out; omega
                      case rel => exact ⟨(x13_1), (wrap64 (x13_1 + 1)), (by first | rfl | (simp; done) | (simp [*]; done)), (by first | rfl | (simp; done) | (simp [*]; done)), H', ⟨by have := HK1.out; omega⟩, ⟨by repeat (first | (with_reducible first | exact HB.out | apply below_alloc | apply pw_below_drewN | apply below_drew1 | refine below_set ?_ GE158.out) | exact HB.out)⟩⟩
                    · replace c15 := Bool.eq_false_iff.mpr c15
                      subst c15
                      have H1 : (api_Ratio_with_ratio_Least_1_ratio_Least_2.l0 k1 l0 x8_1 l0 (l0.length : Int) (wrap64 (x13_1 + 1))) = some (r1, r2) := by rw [if_neg (show ¬ (false = true) by decide)] at H; exact H
                      clear H
                      have H := H1
                      clear H1
                      have H' := Aside0.mk H
                      clear H
                      have p157 : 0 ≤ (x13_1 : Int) := of_decide_eq_true (by first | (with_reducible assumption) | assumption)
                      have q157 : x13_1 < (l0.length : Int) := of_decide_eq_true (by first | (with_reducible assumption) | assumption)
                      obtain ⟨ad157, e157, hx157_0, hx157_1⟩ := at_T45 HR0.out x13_1 p157 q157
                      cases e157
                      replace hx157_0 := (HB.out.cell (World.block_lt_of_cell? w _ hx157_0)).trans hx157_0
                      replace hx157_1 := (HB.out.cell (World.block_lt_of_cell? w _ hx157_1)).trans hx157_1
                      replace p157 := eq_true p157
                      replace q157 := eq_true q157
                      try go_wp2_with (first | ((with_reducible refine gate_dst (N := 10) rfl ?_); refine box_event ?hg (N := 10) ?hd (cs := #[.int .u64 0, .int .u64 0]) (t := 45) ?hr ?_; (case hd => rfl); (case hg => rfl); (case hr => first | (go_simp; done) | (go_simp; rfl)); intro gb158 hg w21 hbox hb; have n0_ := Aside0.mk (below_step (by repeat (first | (with_reducible first | exact HB.out | apply below_alloc | apply pw_below_drewN | apply below_drew1) | exact HB.out)) hb); have n1_ := Aside0.mk (hbox); have n2_ := Aside0.mk ((by rw [hg]; exact (below_size (by repeat (first | (with_reducible first | exact HB.out | apply below_alloc | apply pw_below_drewN | apply below_drew1) | exact HB.out))) : w.heap.size ≤ gb158)); have n3_ := Aside0.mk ((by rw [hg]; exact (below_size (by repeat (first | (with_reducible first | exact HB.out | apply below_alloc | apply pw_below_drewN | apply below_drew1) | exact HB.out))) : w.heap.size ≤ gb158)); clear HB; have HB := n0_; have BK158 := n1_; have GW158 := n2_; have GE158 := n3_; clear n0_ n1_ n2_ n3_; clear hb hbox hg; have hcz22_0 : w21.cell? ⟨gb158, 0, none⟩ = some (.int .u64 0) := (blk_cell BK158.out 0).trans rfl; have hcz22_1 : w21.cell? ⟨gb158, 1, none⟩ = some (.int .u64 0) := (blk_cell BK158.out 1).trans rfl; have hfz22_0 := blk_frozen BK158.out 0; have hfz22_1 := blk_frozen BK158.out 1) | ((with_reducible refine gate_callee (f := 42) rfl ?_); refine goesL_ (some 20) rfl rfl Try.func42 (by kernel_rfl) rfl #[.agg #[.int .u64 ((rd_T45 l0 x13_1).f0), .int .u64 ((rd_T45 l0 x13_1).f1)]] rfl (by (try simp only [List.map_toArray, List.map_cons, List.map_nil]); first | done | rfl | (simp only [List.length_drop, List.length_take]; rfl)) ?_; (with_reducible refine (ratio_Least_2.calls ((rd_T45 l0 x13_1).f0) ((rd_T45 l0 x13_1).f1) true _ A5.out).mono ?_); rintro e w23 ⟨rfl, hb⟩; refine ⟨_, rfl, ?_⟩; have n0_ := Aside0.mk (blk_below (g := gb158) (o := .cells #[.int .u64 ((rd_T45 l0 x13_1).f0), .int .u64 ((rd_T45 l0 x13_1).f1)] 45 (0, 0)) (by (with_reducible repeat (first | refine blk_drewN ?_ _ | refine blk_drew ?_ | refine blk_alloc ?_ _)); refine blk_put (cs := #[.int .u64 ((rd_T45 l0 x13_1).f0), .int .u64 0]) ?_ 1 _ rfl; (with_reducible repeat (first | refine blk_drewN ?_ _ | refine blk_drew ?_ | refine blk_alloc ?_ _)); refine blk_put (cs := #[.int .u64 0, .int .u64 0]) ?_ 0 _ rfl; (with_reducible repeat (first | refine blk_drewN ?_ _ | refine blk_drew ?_ | refine blk_alloc ?_ _)); exact BK158.out) hb); have n1_ := Aside0.mk (below_step (by repeat (first | (with_reducible first | exact HB.out | apply below_alloc | apply pw_below_drewN | apply below_drew1 | refine below_set ?_ GE158.out) | exact HB.out)) hb); clear BK158; clear HB; have BK158 := n0_; have HB := n1_; clear n0_ n1_; (try clear hb); (try clear hb2); (try clear hk); (try clear hi)) | (go_at_call 42; (with_reducible refine (ratio_Least_2.calls ((rd_T45 l0 x13_1).f0) ((rd_T45 l0 x13_1).f1) true _ A5.out).mono ?_); rintro e w23 ⟨rfl, hb⟩; have n0_ := Aside0.mk (blk_below (g := gb158) (o := .cells #[.int .u64 ((rd_T45 l0 x13_1).f0), .int .u64 ((rd_T45 l0 x13_1).f1)] 45 (0, 0)) (by (with_reducible repeat (first | refine blk_drewN ?_ _ | refine blk_drew ?_ | refine blk_alloc ?_ _)); refine blk_put (cs := #[.int .u64 ((rd_T45 l0 x13_1).f0), .int .u64 0]) ?_ 1 _ rfl; (with_reducible repeat (first | refine blk_drewN ?_ _ | refine blk_drew ?_ | refine blk_alloc ?_ _)); refine blk_put (cs := #[.int .u64 0, .int .u64 0]) ?_ 0 _ rfl; (with_reducible repeat (first | refine blk_drewN ?_ _ | refine blk_drew ?_ | refine blk_alloc ?_ _)); exact BK158.out) hb); have n1_ := Aside0.mk (below_step (by repeat (first | (with_reducible first | exact HB.out | apply below_alloc | apply pw_below_drewN | apply below_drew1 | refine below_set ?_ GE158.out) | exact HB.out)) hb); clear BK158; clear HB; have BK158 := n0_; have HB := n1_; clear n0_ n1_; (try clear hb); (try clear hb2); (try clear hk); (try clear hi)))
                      have n0_ := Aside0.mk (blk_drew BK158.out)
                      have n1_ := Aside0.mk (below_drew1 HB.out)
                      clear BK158
                      clear HB
                      have BK158 := n0_
                      have HB := n1_
                      clear n0_ n1_
                      have p160 : 0 ≤ (x8_1 : Int) := of_decide_eq_true (by first | (with_reducible assumption) | assumption)
                      have q160 : x8_1 < (l0.length : Int) := of_decide_eq_true (by first | (with_reducible assumption) | assumption)
                      obtain ⟨ad160, e160, hx160_0, hx160_1⟩ := at_T45 HR0.out x8_1 p160 q160
                      have hw160_1 := hx160_1
                      have hw160_0 := hx160_0
                      obtain rfl : ad157 = ad160 := (by injection e160)
                      replace hx160_0 := (HB.out.cell (World.block_lt_of_cell? w _ hx160_0)).trans hx160_0
                      replace hx160_1 := (HB.out.cell (World.block_lt_of_cell? w _ hx160_1)).trans hx160_1
                      replace p160 := eq_true p160
                      replace q160 := eq_true q160
                      refine start_ (n := 11) (S := fun w' => w'.cell? ⟨gb158, 0, none⟩ = some (.int .u64 ((rd_T45 l0 x13_1).f0)) ∧ w'.cell? ⟨gb158, 1, none⟩ = some (.int .u64 ((rd_T45 l0 x13_1).f1)) ∧ w'.cell? (ad157.add ((x8_1).toNat * 2)) = some (.int .u64 ((rd_T45 l0 x8_1).f0)) ∧ w'.cell? ⟨(ad157.add ((x8_1).toNat * 2)).block, (ad157.add ((x8_1).toNat * 2)).off + 1, none⟩ = some (.int .u64 ((rd_T45 l0 x8_1).f1))) (ds := []) #[false, false, false, false, false, false, false, false, false, false, false] (by kernel_rfl) rfl rfl ⟨(blk_cell BK158.out 0).trans rfl, (blk_cell BK158.out 1).trans rfl, ((HB.out.cell (World.block_lt_of_cell? w _ hw160_0)).trans hw160_0), ((HB.out.cell (World.block_lt_of_cell? w _ hw160_1)).trans hw160_1)⟩ (fun hHeld => ?_); refine with_tabW api_Ratio_with_ratio_Least_1_ratio_Least_2.tab6 api_Ratio_with_ratio_Least_1_ratio_Least_2.bits6 (fun HT_ HW_ => ?_)
                      generalize w23.drew = w24 at BK158 HB hx160_0 hx160_1 hHeld ⊢
                      refine pure_ (i := 0) (N := some 22) (v := ?_) (a' := ?_) #[true, false, false, false, false, false, false, false, false, false, false] rfl rfl (any_of HT_.out (by kernel_rfl)) (fun _ _ _ h => h) (Or.inl ⟨by rfl, ?_⟩) ?_ ?_
                      rotate_left
                      · intro w'
                        go_simp
                        with_reducible rfl
                      rotate_left
                      · simp only [Act.put, List.setIfInBounds_toArray, List.set_cons_zero, List.set_cons_succ, i64_w, i32_w]
                        rfl
                      refine pure_ (i := 1) (N := some 23) (v := ?_) (a' := ?_) #[true, true, false, false, false, false, false, false, false, false, false] rfl rfl (any_of HT_.out (by kernel_rfl)) (fun _ _ _ h => h) (Or.inl ⟨by rfl, ?_⟩) ?_ ?_
                      rotate_left
                      · intro w'
                        go_simp
                        with_reducible rfl
                      rotate_left
                      · simp only [Act.put, List.setIfInBounds_toArray, List.set_cons_zero, List.set_cons_succ, i64_w, i32_w]
                        rfl
                      refine pure_ (i := 2) (N := some 24) (v := ?_) (a' := ?_) #[true, true, true, false, false, false, false, false, false, false, false] rfl rfl (any_of HT_.out (by kernel_rfl)) (fun _ _ _ h => h) (Or.inl ⟨by rfl, ?_⟩) ?_ ?_
                      rotate_left
                      · intro w'
                        go_simp
                        with_reducible rfl
                      rotate_left
                      · simp only [Act.put, List.setIfInBounds_toArray, List.set_cons_zero, List.set_cons_succ, i64_w, i32_w]
                        rfl
                      refine pure_ (i := 3) (N := some 25) (v := ?_) (a' := ?_) #[true, true, true, true, false, false, false, false, false, false, false] rfl rfl (any_of HT_.out (by kernel_rfl)) (fun _ _ _ h => h) (Or.inl ⟨by rfl, ?_⟩) ?_ ?_
                      rotate_left
                      · intro w'
                        go_simp
                        with_reducible rfl
                      rotate_left
                      · simp only [Act.put, List.setIfInBounds_toArray, List.set_cons_zero, List.set_cons_succ, i64_w, i32_w]
                        rfl
                      refine pure_ (i := 5) (N := some 27) (v := ?_) (a' := ?_) #[true, true, true, true, false, true, false, false, false, false, false] rfl rfl (any_of HT_.out (by kernel_rfl)) (fun _ _ _ h => h) (Or.inl ⟨by rfl, ?_⟩) ?_ ?_
                      rotate_left
                      · intro w'
                        go_simp
                        with_reducible rfl
                      rotate_left
                      · simp only [Act.put, List.setIfInBounds_toArray, List.set_cons_zero, List.set_cons_succ, i64_w, i32_w]
                        rfl
                      refine pure_ (i := 6) (N := some 28) (v := ?_) (a' := ?_) #[true, true, true, true, false, true, true, false, false, false, false] rfl rfl (any_of HT_.out (by kernel_rfl)) (fun _ _ _ h => h) (Or.inl ⟨by rfl, ?_⟩) ?_ ?_
                      rotate_left
                      · intro w'
                        go_simp
                        with_reducible rfl
                      rotate_left
                      · simp only [Act.put, List.setIfInBounds_toArray, List.set_cons_zero, List.set_cons_succ, i64_w, i32_w]
                        rfl
                      refine pure_ (i := 7) (N := some 29) (v := ?_) (a' := ?_) #[true, true, true, true, false, true, true, true, false, false, false] rfl rfl (any_of HT_.out (by kernel_rfl)) (fun _ _ _ h => h) (Or.inl ⟨by rfl, ?_⟩) ?_ ?_
                      rotate_left
                      · intro w'
                        go_simp
                        with_reducible rfl
                      rotate_left
                      · simp only [Act.put, List.setIfInBounds_toArray, List.set_cons_zero, List.set_cons_succ, i64_w, i32_w]
                        rfl
                      refine take_ (i := 4) (N := some 26) (v := ?_) (a' := ?_) #[true, true, true, true, true, true, true, true, false, false, false] rfl rfl (take_ofW HT_.out HW_.out (by kernel_rfl)) (fun _ _ _ h => h) (Or.inl ⟨by rfl, ?_⟩) hHeld ?_ ?_
                      rotate_left
                      · rintro w' ⟨s0, s1, s2, s3⟩
                        go_simp
                        with_reducible rfl
                      rotate_left
                      · simp only [Act.put, List.setIfInBounds_toArray, List.set_cons_zero, List.set_cons_succ, i64_w, i32_w]
                        rfl
                      refine take_ (i := 8) (N := some 30) (v := ?_) (a' := ?_) #[true, true, true, true, true, true, true, true, true, false, false] rfl rfl (take_ofW HT_.out HW_.out (by kernel_rfl)) (fun _ _ _ h => h) (Or.inl ⟨by rfl, ?_⟩) hHeld ?_ ?_
                      rotate_left
                      · rintro w' ⟨s0, s1, s2, s3⟩
                        go_simp
                        with_reducible rfl
                      rotate_left
                      · simp only [Act.put, List.setIfInBounds_toArray, List.set_cons_zero, List.set_cons_succ, i64_w, i32_w]
                        rfl
                      refine one_ (i := 9) (N := some 31) #[true, true, true, true, true, true, true, true, true, true, false] rfl rfl (one_of HT_.out (by kernel_rfl)) (by decide) (fun K hK => ?_)
                      first | (refine goes_ Try.func39 (by kernel_rfl) rfl #[.agg #[.int .u64 ((rd_T45 l0 x13_1).f0), .int .u64 ((rd_T45 l0 x13_1).f1)], .agg #[.int .u64 ((rd_T45 l0 x8_1).f0), .int .u64 ((rd_T45 l0 x8_1).f1)]] (by rfl) rfl rfl (by (try simp only [List.map_toArray, List.map_cons, List.map_nil]); first | done | rfl | (simp only [List.length_drop, List.length_take]; rfl)) ?_) | (refine goesV_84 Try.func39 (by kernel_rfl) rfl #[.agg #[.int .u64 ((rd_T45 l0 x13_1).f0), .int .u64 ((rd_T45 l0 x13_1).f1)], .agg #[.int .u64 ((rd_T45 l0 x8_1).f0), .int .u64 ((rd_T45 l0 x8_1).f1)]] (by rfl) rfl rfl (by (try simp only [List.map_toArray, List.map_cons, List.map_nil]); first | done | rfl | (simp only [List.length_drop, List.length_take]; rfl)) (by first | rfl | (go_simp; done) | (go_simp; rfl)) ?_)
                      with_reducible refine (ratio_Least_1.calls k1 ((rd_T45 l0 x13_1).f0) ((rd_T45 l0 x13_1).f1) ((rd_T45 l0 x8_1).f0) ((rd_T45 l0 x8_1).f1) false _ A14.out).mono ?_
                      rintro e w25 ⟨rfl, hb⟩
                      refine ⟨_, rfl, ?_⟩
                      have n0_ := Aside0.mk (blk_below (g := gb158) (o := .cells #[.int .u64 ((rd_T45 l0 x13_1).f0), .int .u64 ((rd_T45 l0 x13_1).f1)] 45 (0, 0)) (by (with_reducible repeat (first | refine blk_drewN ?_ _ | refine blk_drew ?_ | refine blk_alloc ?_ _)); exact BK158.out) hb)
                      have n1_ := Aside0.mk (below_step (by repeat (first | (with_reducible first | exact HB.out | apply below_alloc | apply pw_below_drewN | apply below_drew1 | refine below_set ?_ GE158.out) | exact HB.out)) hb)
                      clear BK158
                      clear HB
                      have BK158 := n0_
                      have HB := n1_
                      clear n0_ n1_
                      (try clear hb)
                      (try clear hb2)
                      (try clear hk)
                      (try clear hi)
                      refine hK.out _ _ ⟨(blk_cell BK158.out 0).trans rfl, (blk_cell BK158.out 1).trans rfl, ((HB.out.cell (World.block_lt_of_cell? w _ hw160_0)).trans hw160_0), ((HB.out.cell (World.block_lt_of_cell? w _ hw160_1)).trans hw160_1)⟩ (fun hHeld => ?_)
                      clear hK K
                      refine norm_ (a' := ?_) ?_ ?_
                      rotate_left
                      · show Act.put _ (some 31) _ = _
                        simp only [Act.put, List.setIfInBounds_toArray, List.set_cons_zero, List.set_cons_succ, i64_w, i32_w]
                        rfl
                      refine pure_ (i := 10) (N := some 32) (v := ?_) (a' := ?_) #[true, true, true, true, true, true, true, true, true, true, true] rfl rfl (any_of HT_.out (by kernel_rfl)) (fun _ _ _ h => h) (Or.inl ⟨by rfl, ?_⟩) ?_ ?_
                      rotate_left
                      · intro w'
                        go_simp
                        with_reducible rfl
                      rotate_left
                      · simp only [Act.put, List.setIfInBounds_toArray, List.set_cons_zero, List.set_cons_succ, i64_w, i32_w]
                        rfl
                      refine done_ (done_of HT_.out (by kernel_rfl)) ?_
                      try go_wp2
                      go_roundg k1
                      case measure => have := HK1.out; omega
                      case rel => exact ⟨(x8_1), (wrap64 (x13_1 + 1)), (by first | rfl | (simp; done) | (simp [*]; done)), (by first | rfl | (simp; done) | (simp [*]; done)), H', ⟨by have := HK1.out; omega⟩, ⟨by repeat (first | (with_reducible first | exact HB.out | apply below_alloc | apply pw_below_drewN | apply below_drew1 | refine below_set ?_ GE158.out) | exact HB.out)⟩⟩
                  · rw [if_neg c13] at H
                    exact absurd H (by simp)
                · rw [if_neg c12] at H
                  exact absurd H (by simp)
            · replace c6 := Bool.eq_false_iff.mpr c6
              subst c6
              have H1 : (api_Ratio_with_ratio_Least_1_ratio_Least_2.l0 k1 l0 x8_1 l0 (l0.length : Int) (wrap64 (x13_1 + 1))) = some (r1, r2) := by rw [if_neg (show ¬ (false = true) by decide)] at H; exact H
              clear H
              have H := H1
              clear H1
              have H' := Aside0.mk H
              clear H
              have p157 : 0 ≤ (x13_1 : Int) := of_decide_eq_true (by first | (with_reducible assumption) | assumption)
              have q157 : x13_1 < (l0.length : Int) := of_decide_eq_true (by first | (with_reducible assumption) | assumption)
              obtain ⟨ad157, e157, hx157_0, hx157_1⟩ := at_T45 HR0.out x13_1 p157 q157
              cases e157
              replace hx157_0 := (HB.out.cell (World.block_lt_of_cell? w _ hx157_0)).trans hx157_0
              replace hx157_1 := (HB.out.cell (World.block_lt_of_cell? w _ hx157_1)).trans hx157_1
              replace p157 := eq_true p157
              replace q157 := eq_true q157
              go_wp2_with (first | ((with_reducible refine gate_dst (N := 10) rfl ?_); refine box_event ?hg (N := 10) ?hd (cs := #[.int .u64 0, .int .u64 0]) (t := 45) ?hr ?_; (case hd => rfl); (case hg => rfl); (case hr => first | (go_simp; done) | (go_simp; rfl)); intro gb158 hg w26 hbox hb; have n0_ := Aside0.mk (below_step (by repeat (first | (with_reducible first | exact HB.out | apply below_alloc | apply pw_below_drewN | apply below_drew1) | exact HB.out)) hb); have n1_ := Aside0.mk (hbox); have n2_ := Aside0.mk ((by rw [hg]; exact (below_size (by repeat (first | (with_reducible first | exact HB.out | apply below_alloc | apply pw_below_drewN | apply below_drew1) | exact HB.out))) : w.heap.size ≤ gb158)); have n3_ := Aside0.mk ((by rw [hg]; exact (below_size (by repeat (first | (with_reducible first | exact HB.out | apply below_alloc | apply pw_below_drewN | apply below_drew1) | exact HB.out))) : w.heap.size ≤ gb158)); clear HB; have HB := n0_; have BK158 := n1_; have GW158 := n2_; have GE158 := n3_; clear n0_ n1_ n2_ n3_; clear hb hbox hg; have hcz27_0 : w26.cell? ⟨gb158, 0, none⟩ = some (.int .u64 0) := (blk_cell BK158.out 0).trans rfl; have hcz27_1 : w26.cell? ⟨gb158, 1, none⟩ = some (.int .u64 0) := (blk_cell BK158.out 1).trans rfl; have hfz27_0 := blk_frozen BK158.out 0; have hfz27_1 := blk_frozen BK158.out 1) | ((with_reducible refine gate_callee (f := 42) rfl ?_); refine goesL_ (some 20) rfl rfl Try.func42 (by kernel_rfl) rfl #[.agg #[.int .u64 ((rd_T45 l0 x13_1).f0), .int .u64 ((rd_T45 l0 x13_1).f1)]] rfl (by (try simp only [List.map_toArray, List.map_cons, List.map_nil]); first | done | rfl | (simp only [List.length_drop, List.length_take]; rfl)) ?_; (with_reducible refine (ratio_Least_2.calls ((rd_T45 l0 x13_1).f0) ((rd_T45 l0 x13_1).f1) false _ A5.out).mono ?_); rintro e w28 ⟨rfl, hb⟩; refine ⟨_, rfl, ?_⟩; have n0_ := Aside0.mk (blk_below (g := gb158) (o := .cells #[.int .u64 ((rd_T45 l0 x13_1).f0), .int .u64 ((rd_T45 l0 x13_1).f1)] 45 (0, 0)) (by (with_reducible repeat (first | refine blk_drewN ?_ _ | refine blk_drew ?_ | refine blk_alloc ?_ _)); refine blk_put (cs := #[.int .u64 ((rd_T45 l0 x13_1).f0), .int .u64 0]) ?_ 1 _ rfl; (with_reducible repeat (first | refine blk_drewN ?_ _ | refine blk_drew ?_ | refine blk_alloc ?_ _)); refine blk_put (cs := #[.int .u64 0, .int .u64 0]) ?_ 0 _ rfl; (with_reducible repeat (first | refine blk_drewN ?_ _ | refine blk_drew ?_ | refine blk_alloc ?_ _)); exact BK158.out) hb); have n1_ := Aside0.mk (below_step (by repeat (first | (with_reducible first | exact HB.out | apply below_alloc | apply pw_below_drewN | apply below_drew1 | refine below_set ?_ GE158.out) | exact HB.out)) hb); clear BK158; clear HB; have BK158 := n0_; have HB := n1_; clear n0_ n1_; (try clear hb); (try clear hb2); (try clear hk); (try clear hi)) | (go_at_call 42; (with_reducible refine (ratio_Least_2.calls ((rd_T45 l0 x13_1).f0) ((rd_T45 l0 x13_1).f1) false _ A5.out).mono ?_); rintro e w28 ⟨rfl, hb⟩; have n0_ := Aside0.mk (blk_below (g := gb158) (o := .cells #[.int .u64 ((rd_T45 l0 x13_1).f0), .int .u64 ((rd_T45 l0 x13_1).f1)] 45 (0, 0)) (by (with_reducible repeat (first | refine blk_drewN ?_ _ | refine blk_drew ?_ | refine blk_alloc ?_ _)); refine blk_put (cs := #[.int .u64 ((rd_T45 l0 x13_1).f0), .int .u64 0]) ?_ 1 _ rfl; (with_reducible repeat (first | refine blk_drewN ?_ _ | refine blk_drew ?_ | refine blk_alloc ?_ _)); refine blk_put (cs := #[.int .u64 0, .int .u64 0]) ?_ 0 _ rfl; (with_reducible repeat (first | refine blk_drewN ?_ _ | refine blk_drew ?_ | refine blk_alloc ?_ _)); exact BK158.out) hb); have n1_ := Aside0.mk (below_step (by repeat (first | (with_reducible first | exact HB.out | apply below_alloc | apply pw_below_drewN | apply below_drew1 | refine below_set ?_ GE158.out) | exact HB.out)) hb); clear BK158; clear HB; have BK158 := n0_; have HB := n1_; clear n0_ n1_; (try clear hb); (try clear hb2); (try clear hk); (try clear hi)))
              (repeat (go_step3; (try go_wp2_with (first | ((with_reducible refine gate_dst (N := 10) rfl ?_); refine box_event ?hg (N := 10) ?hd (cs := #[.int .u64 0, .int .u64 0]) (t := 45) ?hr ?_; (case hd => rfl); (case hg => rfl); (case hr => first | (go_simp; done) | (go_simp; rfl)); intro gb158 hg w26 hbox hb; have n0_ := Aside0.mk (below_step (by repeat (first | (with_reducible first | exact HB.out | apply below_alloc | apply pw_below_drewN | apply below_drew1) | exact HB.out)) hb); have n1_ := Aside0.mk (hbox); have n2_ := Aside0.mk ((by rw [hg]; exact (below_size (by repeat (first | (with_reducible first | exact HB.out | apply below_alloc | apply pw_below_drewN | apply below_drew1) | exact HB.out))) : w.heap.size ≤ gb158)); have n3_ := Aside0.mk ((by rw [hg]; exact (below_size (by repeat (first | (with_reducible first | exact HB.out | apply below_alloc | apply pw_below_drewN | apply below_drew1) | exact HB.out))) : w.heap.size ≤ gb158)); clear HB; have HB := n0_; have BK158 := n1_; have GW158 := n2_; have GE158 := n3_; clear n0_ n1_ n2_ n3_; clear hb hbox hg; have hcz27_0 : w26.cell? ⟨gb158, 0, none⟩ = some (.int .u64 0) := (blk_cell BK158.out 0).trans rfl; have hcz27_1 : w26.cell? ⟨gb158, 1, none⟩ = some (.int .u64 0) := (blk_cell BK158.out 1).trans rfl; have hfz27_0 := blk_frozen BK158.out 0; have hfz27_1 := blk_frozen BK158.out 1) | ((with_reducible refine gate_callee (f := 42) rfl ?_); refine goesL_ (some 20) rfl rfl Try.func42 (by kernel_rfl) rfl #[.agg #[.int .u64 ((rd_T45 l0 x13_1).f0), .int .u64 ((rd_T45 l0 x13_1).f1)]] rfl (by (try simp only [List.map_toArray, List.map_cons, List.map_nil]); first | done | rfl | (simp only [List.length_drop, List.length_take]; rfl)) ?_; (with_reducible refine (ratio_Least_2.calls ((rd_T45 l0 x13_1).f0) ((rd_T45 l0 x13_1).f1) false _ A5.out).mono ?_); rintro e w28 ⟨rfl, hb⟩; refine ⟨_, rfl, ?_⟩; have n0_ := Aside0.mk (blk_below (g := gb158) (o := .cells #[.int .u64 ((rd_T45 l0 x13_1).f0), .int .u64 ((rd_T45 l0 x13_1).f1)] 45 (0, 0)) (by (with_reducible repeat (first | refine blk_drewN ?_ _ | refine blk_drew ?_ | refine blk_alloc ?_ _)); refine blk_put (cs := #[.int .u64 ((rd_T45 l0 x13_1).f0), .int .u64 0]) ?_ 1 _ rfl; (with_reducible repeat (first | refine blk_drewN ?_ _ | refine blk_drew ?_ | refine blk_alloc ?_ _)); refine blk_put (cs := #[.int .u64 0, .int .u64 0]) ?_ 0 _ rfl; (with_reducible repeat (first | refine blk_drewN ?_ _ | refine blk_drew ?_ | refine blk_alloc ?_ _)); exact BK158.out) hb); have n1_ := Aside0.mk (below_step (by repeat (first | (with_reducible first | exact HB.out | apply below_alloc | apply pw_below_drewN | apply below_drew1 | refine below_set ?_ GE158.out) | exact HB.out)) hb); clear BK158; clear HB; have BK158 := n0_; have HB := n1_; clear n0_ n1_; (try clear hb); (try clear hb2); (try clear hk); (try clear hi)) | (go_at_call 42; (with_reducible refine (ratio_Least_2.calls ((rd_T45 l0 x13_1).f0) ((rd_T45 l0 x13_1).f1) false _ A5.out).mono ?_); rintro e w28 ⟨rfl, hb⟩; have n0_ := Aside0.mk (blk_below (g := gb158) (o := .cells #[.int .u64 ((rd_T45 l0 x13_1).f0), .int .u64 ((rd_T45 l0 x13_1).f1)] 45 (0, 0)) (by (with_reducible repeat (first | refine blk_drewN ?_ _ | refine blk_drew ?_ | refine blk_alloc ?_ _)); refine blk_put (cs := #[.int .u64 ((rd_T45 l0 x13_1).f0), .int .u64 0]) ?_ 1 _ rfl; (with_reducible repeat (first | refine blk_drewN ?_ _ | refine blk_drew ?_ | refine blk_alloc ?_ _)); refine blk_put (cs := #[.int .u64 0, .int .u64 0]) ?_ 0 _ rfl; (with_reducible repeat (first | refine blk_drewN ?_ _ | refine blk_drew ?_ | refine blk_alloc ?_ _)); exact BK158.out) hb); have n1_ := Aside0.mk (below_step (by repeat (first | (with_reducible first | exact HB.out | apply below_alloc | apply pw_below_drewN | apply below_drew1 | refine below_set ?_ GE158.out) | exact HB.out)) hb); clear BK158; clear HB; have BK158 := n0_; have HB := n1_; clear n0_ n1_; (try clear hb); (try clear hb2); (try clear hk); (try clear hi))))))
              go_roundg k1
              case measure => have := HK1.out; omega
              case rel => exact ⟨(x8_1), (wrap64 (x13_1 + 1)), (by first | rfl | (simp; done) | (simp [*]; done)), (by first | rfl | (simp; done) | (simp [*]; done)), H', ⟨by have := HK1.out; omega⟩, ⟨by repeat (first | (with_reducible first | exact HB.out | apply below_alloc | apply pw_below_drewN | apply below_drew1 | refine below_set ?_ GE158.out) | exact HB.out)⟩⟩
          · rw [if_neg c4] at H
            exact absurd H (by simp)
        · rw [if_neg c3] at H
          exact absurd H (by simp)
      · rw [if_neg c2] at H
        have c2b0 : decide (x13_1 < (l0.length : Int)) = false := decide_eq_false c2
        clear c2
        obtain ⟨ji29, hji29⟩ : ∃ j_ : Int, (mx x8_1 0) = j_ := ⟨_, rfl⟩
        replace H : (some (ji29, decide (x8_1 ≥ 0))) = some (r1, r2) := by first | (rw [hji29] at H; exact H) | (simp only [hji29] at H ⊢; exact H)
        have hji29_ : (if x8_1 < 0 then 0 else x8_1) = ji29 := hji29
        simp only [Option.some.injEq, Prod.mk.injEq] at H
        obtain ⟨rfl, rfl⟩ := H
        go_wp2
        (repeat (go_step3; (try go_wp2)))
        (try rw [Exit.noGoto_ret])
        go_ret2
        exact ⟨by first | rfl | (simp [errW_none, errW_some] <;> rfl) | (simp only [← hji29]; first | rfl | (simp [errW_none, errW_some] <;> rfl)) | (simp [*, errW_none, errW_some] <;> rfl), by repeat (first | (with_reducible first | exact HB.out | apply below_alloc | apply pw_below_drewN | apply below_drew1) | exact HB.out)⟩

/-! ### ratio_Least: function 25 -/
def ratio_Least.f (k : Nat) (l0 : List (S45)) : Option (Int × Bool) := (api_Ratio_with_ratio_Least_1_ratio_Least_2.f k l0).bind fun bt162 => (some (bt162.1, bt162.2))
theorem ratio_Least.mono : ∀ a0 k, LeO (ratio_Least.f k a0) (ratio_Least.f (k + 1) a0) := by
  intro a0 k
  unfold ratio_Least.f
  repeat' first
      | (with_reducible exact api_Ratio_with_ratio_Least_1_ratio_Least_2.mono _ _)
      | (with_reducible exact LeO.refl _)
      | (with_reducible exact LeO.none _)
      | (with_reducible refine LeO.ite ?_ ?_)
      | (with_reducible refine LeO.bind ?_ (fun _ => ?_))
      | exact api_Ratio_with_ratio_Least_1_ratio_Least_2.mono _ _
      | exact LeO.none _
      | refine LeO.ite ?_ ?_
      | refine LeO.bind ?_ (fun _ => ?_)
set_option maxHeartbeats 8000000 in
set_option maxRecDepth 100000 in
theorem ratio_Least.calls (k : Nat) (A0 : Option Addr) (c0 : Nat) (l0 : List (S45)) (r1 : Int) (r2 : Bool) (w : World) (hr0 : Kd.C k45 w A0 l0.length l0) (hc0 : l0.length ≤ c0) (h : ratio_Least.f k l0 = some (r1, r2)) :
    Calls Try.prog 25 #[.slice A0 l0.length c0] w fun e w' => e = .returned (.tuple #[.int .i64 r1, .bool r2]) ∧ Below w.heap.size w w' := by
  have HR0 := Aside0.mk hr0
  have HC0 := Aside0.mk hc0
  clear hr0 hc0
  have HB := Aside0.mk (Below.refl w.heap.size w)
  have H : ((api_Ratio_with_ratio_Least_1_ratio_Least_2.f k l0).bind fun bt162 => (some (bt162.1, bt162.2))) = some (r1, r2) := h
  clear h
  replace H := Option.bind_eq_some_iff.mp H
  obtain ⟨⟨t162, t163⟩, A20, H⟩ := H
  replace H : (some (t162, t163)) = some (r1, r2) := H
  have A2 := Aside0.mk A20
  clear A20
  simp only [Option.some.injEq, Prod.mk.injEq] at H
  obtain ⟨rfl, rfl⟩ := H
  go_enter Try.func25, Try.ntmps25
  go_wp2_with (first | ((with_reducible refine gate_callee (f := 41) rfl ?_); refine goesL_ (some 7) rfl rfl Try.func41 (by kernel_rfl) rfl #[.slice A0 l0.length c0, .func (.func 39) #[] #[], .func (.func 42) #[] #[]] rfl (by (try simp only [List.map_toArray, List.map_cons, List.map_nil]); first | done | rfl | (simp only [List.length_drop, List.length_take]; rfl)) ?_; (with_reducible refine (api_Ratio_with_ratio_Least_1_ratio_Least_2.calls k _ _ l0 t162 t163 _ ?side1 ?side2 A2.out).mono ?_); (case side1 => repeat (first | exact HR0.out | (with_reducible refine Kd.C_alloc ?_ _) | (with_reducible refine Kd.C_drewN ?_ _) | (with_reducible refine Kd.C_drew ?_))); (case side2 => exact HC0.out); rintro e w3 ⟨rfl, hb⟩; refine ⟨_, rfl, ?_⟩; have n0_ := Aside0.mk (below_step (by repeat (first | (with_reducible first | exact HB.out | apply below_alloc | apply pw_below_drewN | apply below_drew1) | exact HB.out)) hb); clear HB; have HB := n0_; clear n0_; (try clear hb); (try clear hb2); (try clear hk); (try clear hi)) | (go_at_call 41; (with_reducible refine (api_Ratio_with_ratio_Least_1_ratio_Least_2.calls k _ _ l0 t162 t163 _ ?side1 ?side2 A2.out).mono ?_); (case side1 => repeat (first | exact HR0.out | (with_reducible refine Kd.C_alloc ?_ _) | (with_reducible refine Kd.C_drewN ?_ _) | (with_reducible refine Kd.C_drew ?_))); (case side2 => exact HC0.out); rintro e w3 ⟨rfl, hb⟩; have n0_ := Aside0.mk (below_step (by repeat (first | (with_reducible first | exact HB.out | apply below_alloc | apply pw_below_drewN | apply below_drew1) | exact HB.out)) hb); clear HB; have HB := n0_; clear n0_; (try clear hb); (try clear hb2); (try clear hk); (try clear hi)))
  go_ret2
  exact ⟨by first | rfl | (simp [errW_none, errW_some] <;> rfl) | (simp [*, errW_none, errW_some] <;> rfl), by repeat (first | (with_reducible first | exact HB.out | apply below_alloc | apply pw_below_drewN | apply below_drew1) | exact HB.out)⟩

/-! ### lhd_Victim: function 11 -/
theorem r2_info : (Try.prog.info? 45).map (·.size) = some 2 := by kernel_rfl
theorem r2_loadv {w : World} {g : Nat} {t : TypeId} {a b : Int} (h : w.heap[g]? = some (.cells (rkV [a, b]) t (0, 0))) :
    (loadVar 45 ⟨g, 0, none⟩).run Try.prog w = .ok (.agg (rkV [a, b])) w := by
  have := run_loadVar_mid (P := Try.prog) w g 0 45 (rkV [a, b]).toList _ (rk_range h) Try.underlying45 rfl r2_info
  simpa using this
def lhd_worth.f (fuel : Nat) (xs ages sizes : List Int) (i : Int) : Option S45 := if i < 0 ∨ i ≥ ages.length ∨ i ≥ sizes.length then some z45 else (lhd_Density.f fuel xs (rd ages i)).bind fun d => some ⟨d, rd sizes i⟩
theorem lhd_Density.len {fuel : Nat} {xs : List Int} {a r : Int} (h : lhd_Density.f fuel xs a = some r) : xs.length = 16 := by
  unfold lhd_Density.f at h
  by_cases hx : xs.length = 16
  · exact hx
  · rw [if_neg hx] at h; cases h
set_option maxHeartbeats 4000000 in
set_option maxRecDepth 100000 in
theorem lhd_worth.calls (fuel : Nat) (xs ages sizes : List Int) (i : Int) (r : S45) (w : World) (aa az : Addr) (g : Nat) (A1 A2 : Option Addr) (c1 c2 : Nat) (h1 : w.cell? aa = some (.slice A1 ages.length c1)) (h2 : w.cell? az = some (.slice A2 sizes.length c2)) (h3 : w.heap[g]? = some (.cells (rkV xs) 25 (0, 0)))
    (hA : (Kd.int .i64).C w A1 ages.length ages) (hS : (Kd.int .u64).C w A2 sizes.length sizes) (h : lhd_worth.f fuel xs ages sizes i = some r) :
    Calls Try.prog 24 #[.int .i64 i, .pointer (some aa), .pointer (some az), .pointer (some ⟨g, 0, none⟩)] w fun e w' => e = .returned (.agg #[.int .u64 r.f0, .int .u64 r.f1]) ∧ Below w.heap.size w w' := by
  unfold lhd_worth.f at h
  have la := World.block_lt_of_cell? w aa h1
  have ls := World.block_lt_of_cell? w az h2
  have lg := blk_lt h3
  by_cases c : i < 0 ∨ i ≥ ages.length ∨ i ≥ sizes.length
  · rw [if_pos c] at h
    obtain rfl := Option.some.inj h
    have E1 := Aside0.mk h1; have E2 := Aside0.mk h2; have LA := Aside0.mk la; have LS := Aside0.mk ls
    clear h h3 lg hA hS la ls h1 h2
    by_cases z0 : i < 0
    · have d0 : decide (i < 0) = true := decide_eq_true z0
      clear c
      go_enter Try.func24, Try.ntmps24
      go_wp2_with (first | ((with_reducible refine gate_dst (N := 5) rfl ?_); refine box_event ?hg (N := 5) ?hd (cs := #[.int .u64 0, .int .u64 0]) (t := 45) ?hr ?_; (case hd => rfl); (case hg => rfl); (case hr => first | (go_simp; done) | (go_simp; rfl)); intro g5 gE w1 hb1 hB1; have GE := Aside0.mk gE; clear gE; have HB1 := Aside0.mk hb1; have HL1 := Aside0.mk hB1; have e1 := (hB1.cell LA.out).trans E1.out; have e2 := (hB1.cell LS.out).trans E2.out; clear hb1 hB1) | (refine wpList_store_mid rfl 45 _ _ rfl g5 0 (rkV [0, 0]) rfl rfl (rk_there HB1.out _ rfl) r2_info (rk_one _) ?_))
      have HB5 := rk_stored (xs := [0, 0]) HB1.out rfl
      refine bodyPost_ret (v := .agg (rkV [0, 0])) (results_cell Try.results24 rfl (r2_loadv HB5)) rfl ⟨rfl, rk_below _ (by have := GE.out; omega) 0 HL1.out⟩
    · obtain ⟨m, rfl⟩ : ∃ m : Nat, i = m := ⟨i.toNat, by omega⟩
      have d0 : decide ((m : Int) < 0) = false := decide_eq_false (by omega)
      by_cases z1 : ages.length ≤ m
      · have d1 : decide (ages.length ≤ m) = true := decide_eq_true z1
        clear c
        go_enter Try.func24, Try.ntmps24
        go_wp2_with (first | ((with_reducible refine gate_dst (N := 5) rfl ?_); refine box_event ?hg (N := 5) ?hd (cs := #[.int .u64 0, .int .u64 0]) (t := 45) ?hr ?_; (case hd => rfl); (case hg => rfl); (case hr => first | (go_simp; done) | (go_simp; rfl)); intro g5 gE w1 hb1 hB1; have GE := Aside0.mk gE; clear gE; have HB1 := Aside0.mk hb1; have HL1 := Aside0.mk hB1; have e1 := (hB1.cell LA.out).trans E1.out; have e2 := (hB1.cell LS.out).trans E2.out; clear hb1 hB1) | (refine wpList_store_mid rfl 45 _ _ rfl g5 0 (rkV [0, 0]) rfl rfl (rk_there HB1.out _ rfl) r2_info (rk_one _) ?_))
        have HB5 := rk_stored (xs := [0, 0]) HB1.out rfl
        refine bodyPost_ret (v := .agg (rkV [0, 0])) (results_cell Try.results24 rfl (r2_loadv HB5)) rfl ⟨rfl, rk_below _ (by have := GE.out; omega) 0 HL1.out⟩
      · have d1 : decide (ages.length ≤ m) = false := decide_eq_false z1
        have d2 : decide (sizes.length ≤ m) = true := decide_eq_true (by omega)
        clear c
        go_enter Try.func24, Try.ntmps24
        go_wp2_with (first | ((with_reducible refine gate_dst (N := 5) rfl ?_); refine box_event ?hg (N := 5) ?hd (cs := #[.int .u64 0, .int .u64 0]) (t := 45) ?hr ?_; (case hd => rfl); (case hg => rfl); (case hr => first | (go_simp; done) | (go_simp; rfl)); intro g5 gE w1 hb1 hB1; have GE := Aside0.mk gE; clear gE; have HB1 := Aside0.mk hb1; have HL1 := Aside0.mk hB1; have e1 := (hB1.cell LA.out).trans E1.out; have e2 := (hB1.cell LS.out).trans E2.out; clear hb1 hB1) | (refine wpList_store_mid rfl 45 _ _ rfl g5 0 (rkV [0, 0]) rfl rfl (rk_there HB1.out _ rfl) r2_info (rk_one _) ?_))
        have HB5 := rk_stored (xs := [0, 0]) HB1.out rfl
        refine bodyPost_ret (v := .agg (rkV [0, 0])) (results_cell Try.results24 rfl (r2_loadv HB5)) rfl ⟨rfl, rk_below _ (by have := GE.out; omega) 0 HL1.out⟩
  · rw [if_neg c] at h
    obtain ⟨d, D10, h⟩ := Option.bind_eq_some_iff.mp h
    obtain rfl := Option.some.inj h
    have HX := Aside0.mk (lhd_Density.len D10)
    have D1 := Aside0.mk D10
    obtain ⟨ad1, rfl, q1⟩ := Kd.at_int hA i (by omega) (by omega)
    obtain ⟨ad2, rfl, q2⟩ := Kd.at_int hS i (by omega) (by omega)
    have l1 := World.block_lt_of_cell? w _ q1
    have l2 := World.block_lt_of_cell? w _ q2
    obtain ⟨m, rfl⟩ : ∃ m : Nat, i = m := ⟨i.toNat, by omega⟩
    have d0 : decide ((m : Int) < 0) = false := decide_eq_false (by omega)
    have d1 : decide (ages.length ≤ m) = false := decide_eq_false (by omega)
    have d2 : decide (sizes.length ≤ m) = false := decide_eq_false (by omega)
    have p0 : ((0 : Int) ≤ m) = True := eq_true (by omega)
    have p1 : ((m : Int) < ages.length) = True := eq_true (by omega)
    have p2 : ((m : Int) < sizes.length) = True := eq_true (by omega)
    have p3 : (m < ages.length) = True := eq_true (by omega)
    have p4 : (m < sizes.length) = True := eq_true (by omega)
    have E1 := Aside0.mk h1; have E2 := Aside0.mk h2; have E3 := Aside0.mk h3; have LA := Aside0.mk la; have LS := Aside0.mk ls; have LG := Aside0.mk lg; have L1 := Aside0.mk l1; have L2 := Aside0.mk l2; have Q1 := Aside0.mk q1; have Q2 := Aside0.mk q2
    clear c h D10 la ls lg l1 l2 h1 h2 h3 q1 q2 hA hS
    go_enter Try.func24, Try.ntmps24
    go_wp2_with (first | ((with_reducible refine gate_dst (N := 5) rfl ?_); refine box_event ?hg (N := 5) ?hd (cs := #[.int .u64 0, .int .u64 0]) (t := 45) ?hr ?_; (case hd => rfl); (case hg => rfl); (case hr => first | (go_simp; done) | (go_simp; rfl)); intro g5 gE w1 hb1 hB1; have GE := Aside0.mk gE; clear gE; have HB1 := Aside0.mk hb1; have HL1 := Aside0.mk hB1; have e1 := (hB1.cell LA.out).trans E1.out; have e2 := (hB1.cell LS.out).trans E2.out; clear hb1 hB1))
    refine wp_region_held_drew (S := fun W => W.cell? aa = some (.slice (some ad1) ages.length c1) ∧ W.cell? az = some (.slice (some ad2) sizes.length c2) ∧ W.heap[g]? = some (.cells (rkV xs) 25 (0, 0)) ∧ W.cell? (ad1.add m) = some (.int .i64 (rd ages m)) ∧ W.cell? (ad2.add m) = some (.int .u64 (rd sizes m)) ∧ (∃ C, W.heap[g5]? = some (.cells C 45 (0, 0)) ∧ C.size = 2) ∧ Below w.heap.size w W) (by kernel_rfl) ⟨e1, e2, (HL1.out.block g LG.out).trans E3.out, (HL1.out.cell L1.out).trans Q1.out, (HL1.out.cell L2.out).trans Q2.out, ⟨_, HB1.out, rfl⟩, pw_below_drewN HL1.out 1⟩ (fun hH => ?_)
    clear e1 e2
    refine wpAnyH_take (i := 0) (oi := _) (v := _) rfl (by kernel_rfl) (by kernel_rfl) (by kernel_rfl) (fun _ _ _ h => h) (yieldsIf_load_mid (by rfl) _ _ rfl g 0 rfl (rkV xs).toList _ (fun W hW => rk_range hW.2.2.1) Try.underlying25 rfl (by rw [rk_len HX.out]; exact rk_info)) hH ?_
    (try simp only [Act.put, List.setIfInBounds_toArray, List.set_cons_zero, List.set_cons_succ, Array.toArray_toList])
    refine wpAnyH_take (i := 1) (oi := _) (v := ?_) rfl (by kernel_rfl) (by kernel_rfl) (by kernel_rfl) (fun _ _ _ h => h) (Or.inl ⟨by rfl, ?_⟩) hH ?_
    case refine_2 => intro w hSw; obtain ⟨e1, e2, e3, e4, e5, e6, e7⟩ := hSw; go_simp; with_reducible rfl
    (try simp only [Act.put, List.setIfInBounds_toArray, List.set_cons_zero, List.set_cons_succ, Array.toArray_toList])
    refine wpAnyH_take (i := 2) (oi := _) (v := ?_) rfl (by kernel_rfl) (by kernel_rfl) (by kernel_rfl) (fun _ _ _ h => h) (Or.inl ⟨by rfl, ?_⟩) hH ?_
    case refine_2 => intro w hSw; obtain ⟨e1, e2, e3, e4, e5, e6, e7⟩ := hSw; go_simp; with_reducible rfl
    (try simp only [Act.put, List.setIfInBounds_toArray, List.set_cons_zero, List.set_cons_succ, Array.toArray_toList])
    refine wpAnyH_take (i := 3) (oi := _) (v := ?_) rfl (by kernel_rfl) (by kernel_rfl) (by kernel_rfl) (fun _ _ _ h => h) (Or.inl ⟨by rfl, ?_⟩) hH ?_
    case refine_2 => intro w hSw; obtain ⟨e1, e2, e3, e4, e5, e6, e7⟩ := hSw; go_simp; with_reducible rfl
    (try simp only [Act.put, List.setIfInBounds_toArray, List.set_cons_zero, List.set_cons_succ, Array.toArray_toList])
    refine wpAnyH_take (i := 4) (oi := _) (v := ?_) rfl (by kernel_rfl) (by kernel_rfl) (by kernel_rfl) (fun _ _ _ h => h) (Or.inl ⟨by rfl, ?_⟩) hH ?_
    case refine_2 => intro w hSw; obtain ⟨e1, e2, e3, e4, e5, e6, e7⟩ := hSw; go_simp; with_reducible rfl
    (try simp only [Act.put, List.setIfInBounds_toArray, List.set_cons_zero, List.set_cons_succ, Array.toArray_toList])
    refine wpAnyH_take (i := 6) (oi := _) (v := ?_) rfl (by kernel_rfl) (by kernel_rfl) (by kernel_rfl) (fun _ _ _ h => h) (Or.inl ⟨by rfl, ?_⟩) hH ?_
    case refine_2 => intro w hSw; obtain ⟨e1, e2, e3, e4, e5, e6, e7⟩ := hSw; go_simp; with_reducible rfl
    (try simp only [Act.put, List.setIfInBounds_toArray, List.set_cons_zero, List.set_cons_succ, Array.toArray_toList])
    refine wpAnyH_take (i := 7) (oi := _) (v := ?_) rfl (by kernel_rfl) (by kernel_rfl) (by kernel_rfl) (fun _ _ _ h => h) (Or.inl ⟨by rfl, ?_⟩) hH ?_
    case refine_2 => intro w hSw; obtain ⟨e1, e2, e3, e4, e5, e6, e7⟩ := hSw; go_simp; with_reducible rfl
    (try simp only [Act.put, List.setIfInBounds_toArray, List.set_cons_zero, List.set_cons_succ, Array.toArray_toList])
    refine wpAnyH_take (i := 8) (oi := _) (v := ?_) rfl (by kernel_rfl) (by kernel_rfl) (by kernel_rfl) (fun _ _ _ h => h) (Or.inl ⟨by rfl, ?_⟩) hH ?_
    case refine_2 => intro w hSw; obtain ⟨e1, e2, e3, e4, e5, e6, e7⟩ := hSw; go_simp; with_reducible rfl
    (try simp only [Act.put, List.setIfInBounds_toArray, List.set_cons_zero, List.set_cons_succ, Array.toArray_toList])
    refine wpAnyH_take (i := 9) (oi := _) (v := ?_) rfl (by kernel_rfl) (by kernel_rfl) (by kernel_rfl) (fun _ _ _ h => h) (Or.inl ⟨by rfl, ?_⟩) hH ?_
    case refine_2 => intro w hSw; obtain ⟨e1, e2, e3, e4, e5, e6, e7⟩ := hSw; go_simp; with_reducible rfl
    (try simp only [Act.put, List.setIfInBounds_toArray, List.set_cons_zero, List.set_cons_succ, Array.toArray_toList])
    refine wpAnyH_ready (rs := [5]) (by kernel_rfl) (by simp) ?_
    refine AllReadyH.cons (o := _) rfl (fun K hK => ?_) AllReadyH.nil
    rw [if_pos (by rfl)]
    go_simp
    refine (lhd_Density.calls fuel xs (rd ages m) d _ D1.out).mono ?_
    rintro e w4 ⟨rfl, hbl⟩
    go_simp
    obtain ⟨e1, e2, e3, e4, e5, e6, e7⟩ := hH
    refine hK.out _ _ ⟨(hbl.cell (World.block_lt_of_cell? _ _ e1)).trans e1, (hbl.cell (World.block_lt_of_cell? _ _ e2)).trans e2, (hbl.block g (blk_lt e3)).trans e3, (hbl.cell (World.block_lt_of_cell? _ _ e4)).trans e4, (hbl.cell (World.block_lt_of_cell? _ _ e5)).trans e5, e6.elim fun C hC => ⟨C, (hbl.block g5 (blk_lt hC.1)).trans hC.1, hC.2⟩, below_step e7 hbl⟩ (fun hH => ?_)
    clear hK K hbl e1 e2 e3 e4 e5 e6 e7
    (try simp only [Act.put, List.setIfInBounds_toArray, List.set_cons_zero, List.set_cons_succ, Array.toArray_toList])
    refine wpAnyH_take (i := 10) (oi := { dst := some 31, op := .build 45 #[(0, .tmp 26), (1, .tmp 30)], type := 45, pos := "lhd.go:73", after := #[{ on := 5, ground := .data }, { on := 9, ground := .data }], guard := none }) (v := ?_) rfl (by kernel_rfl) (by kernel_rfl) (by kernel_rfl) (fun _ _ _ h => h) (Or.inl ⟨by rfl, ?_⟩) hH ?_
    case refine_2 => intro w hSw; obtain ⟨e1, e2, e3, e4, e5, e6, e7⟩ := hSw; go_simp; with_reducible rfl
    (try simp only [Act.put, List.setIfInBounds_toArray, List.set_cons_zero, List.set_cons_succ, Array.toArray_toList])
    refine wpAnyH_ready (rs := [11]) (by kernel_rfl) (by simp) ?_
    refine AllReadyH.cons (o := _) rfl (fun K hK => ?_) AllReadyH.nil
    rw [if_pos (by rfl)]
    obtain ⟨e1, e2, e3, e4, e5, e6, e7⟩ := hH
    obtain ⟨C, hC, hCs⟩ := e6
    refine wp_store_mid _ _ _ rfl g5 0 (rkV [d, rd sizes m]) rfl rfl (rk_there hC _ (by rw [hCs]; rfl)) r2_info (rk_one _) ?_
    have HB5 := rk_stored (xs := [d, rd sizes m]) hC hCs
    have hb := rk_below (g := g5) (rkV [d, rd sizes m]).toList (show w.heap.size ≤ g5 by have := GE.out; omega) 0 e7
    refine hK.out _ _ ⟨(hb.cell LA.out).trans E1.out, (hb.cell LS.out).trans E2.out, (hb.block g LG.out).trans E3.out, (hb.cell L1.out).trans Q1.out, (hb.cell L2.out).trans Q2.out, ⟨_, HB5, rfl⟩, hb⟩ (fun hH => ?_)
    clear hK K
    (try simp only [Act.put, List.setIfInBounds_toArray, List.set_cons_zero, List.set_cons_succ, Array.toArray_toList])
    refine wpAnyH_done (by kernel_rfl) ?_ _
    have HB6 := Aside0.mk HB5
    have HL6 := Aside0.mk hb
    clear hH HB5 hC hCs hb e1 e2 e3 e4 e5 e7
    go_wp2
    refine bodyPost_ret (v := .agg (rkV [d, rd sizes m])) (results_cell (b := ⟨g5, 0, none⟩) Try.results24 (by rfl) (r2_loadv HB6.out)) rfl ⟨rfl, HL6.out⟩

def lhd_lw (fuel : Nat) (xs ages sizes : List Int) : List S45 → List Int → Option (List S45)
  | acc, [] => some acc
  | acc, i :: t => (lhd_worth.f fuel xs ages sizes i).bind fun r => lhd_lw fuel xs ages sizes (acc ++ [r]) t
def lhd_Victim.f (fuel : Nat) (xs ages sizes smp : List Int) : Option (Int × Bool) := if smp.length ≤ 1000000 then ((lhd_lw fuel xs ages sizes [] smp).bind fun L => (ratio_Least.f fuel L).bind fun p => (if p.2 = true then (if 0 ≤ p.1 ∧ p.1 < smp.length then some (rd smp p.1, true) else none) else some (0, false))) else none
theorem lhd_info45 : (Try.prog.info? 45).map (fun i => (i.zero, i.size, i.bytes)) = some (some (.agg #[.int .u64 0, .int .u64 0]), 2, 16) := by kernel_rfl
set_option maxHeartbeats 4000000 in
set_option maxRecDepth 100000 in
theorem lhd_Victim.calls (fuel : Nat) (xs ages sizes smp : List Int) (r1 : Int) (r2 : Bool) (w : World) (A1 A2 A3 : Option Addr) (c1 c2 c3 : Nat)
    (hA : (Kd.int .i64).C w A1 ages.length ages) (hS : (Kd.int .u64).C w A2 sizes.length sizes) (hM : (Kd.int .i64).C w A3 smp.length smp) (h : lhd_Victim.f fuel xs ages sizes smp = some (r1, r2)) :
    Calls Try.prog 11 #[.agg (rkV xs), .slice A1 ages.length c1, .slice A2 sizes.length c2, .slice A3 smp.length c3] w fun e w' => e = .returned (.tuple #[.int .i64 r1, .bool r2]) ∧ Below w.heap.size w w' := by
  unfold lhd_Victim.f at h
  by_cases hl : smp.length ≤ 1000000
  case neg => rw [if_neg hl] at h; cases h
  rw [if_pos hl] at h
  obtain ⟨L, V10, h⟩ := Option.bind_eq_some_iff.mp h
  obtain ⟨⟨p1, p2⟩, P10, h⟩ := Option.bind_eq_some_iff.mp h
  have HL := Aside0.mk hl; have V1 := Aside0.mk V10; have P1 := Aside0.mk P10
  have HF := Aside0.mk (show (if p2 = true then (if 0 ≤ p1 ∧ p1 < smp.length then some (rd smp p1, true) else none) else some (0, false)) = some (r1, r2) from h)
  have HA := Aside0.mk hA; have HS := Aside0.mk hS; have HM := Aside0.mk hM
  clear hl V10 P10 h hA hS hM
  go_enter Try.func11, Try.ntmps11
  go_wp2_with (first | ((with_reducible refine gate_dst (N := 4) rfl ?_); refine box_event ?hg (N := 4) ?hd (cs := rkV xs) (t := 25) ?hr ?_; (case hd => rfl); (case hg => rfl); (case hr => first | (go_simp; done) | (go_simp; rfl)); intro g4 gE w4 hb1 hB1; have BA := Aside0.mk hb1; have GA := Aside0.mk gE; have LA := Aside0.mk hB1; clear gE hb1 hB1) | ((with_reducible refine gate_dst (N := 5) rfl ?_); refine box_event ?hg (N := 5) ?hd (cs := #[.slice A1 ages.length c1]) (t := 26) ?hr ?_; (case hd => rfl); (case hg => rfl); (case hr => first | (go_simp; done) | (go_simp; rfl)); intro g5 gE w5 hb1 hB1; have BB := Aside0.mk hb1; have GB := Aside0.mk (show g4 < g5 by have := blk_lt BA.out; omega); have BA5 := Aside0.mk ((hB1.block g4 (blk_lt BA.out)).trans BA.out); have LB := Aside0.mk (below_step LA.out hB1); clear gE hb1 hB1) | ((with_reducible refine gate_dst (N := 6) rfl ?_); refine box_event ?hg (N := 6) ?hd (cs := #[.slice A2 sizes.length c2]) (t := 27) ?hr ?_; (case hd => rfl); (case hg => rfl); (case hr => first | (go_simp; done) | (go_simp; rfl)); intro g6 gE w6 hb1 hB1; have BC := Aside0.mk hb1; have GC := Aside0.mk (show g5 < g6 by have := blk_lt BB.out; omega); have BA6 := Aside0.mk ((hB1.block g4 (blk_lt BA5.out)).trans BA5.out); have BB6 := Aside0.mk ((hB1.block g5 (blk_lt BB.out)).trans BB.out); have LC := Aside0.mk (below_step LB.out hB1); clear gE hb1 hB1))
  go_loopg [11, 19] smp.length (fun kq v11 v19 W => ∃ (acc : List S45) (x : Nat), v19 = .int .i64 x ∧ Aside0 (x + kq = smp.length) ∧ Aside0 (acc.length = x) ∧ Aside0 (lhd_lw fuel xs ages sizes acc (smp.drop x) = some L) ∧ Aside0 (k45.R 45 W w.heap.size (fun _ => True) v11 acc) ∧ Aside0 (W.heap[g4]? = some (.cells (rkV xs) 25 (0, 0))) ∧ Aside0 (W.heap[g5]? = some (.cells #[.slice A1 ages.length c1] 26 (0, 0))) ∧ Aside0 (W.heap[g6]? = some (.cells #[.slice A2 sizes.length c2] 27 (0, 0))) ∧ Aside0 (Below w.heap.size w W))
  case atStart => exact ⟨[], 0, rfl, ⟨by omega⟩, ⟨rfl⟩, V1, ⟨Kd.R_nil _ _ _ _ _⟩, BA6, BB6, BC, LC⟩
  case round =>
    clear BA6 BB6 BC LC
    obtain ⟨acc, x, rfl, HI, HN, HV, HR, BA6, BB6, BC, LC⟩ := hrel
    by_cases c : x < smp.length
    · obtain ⟨k1, rfl⟩ : ∃ q, gk = q + 1 := ⟨gk - 1, by have := HI.out; omega⟩
      have HV' := HV.out
      rw [List.drop_eq_getElem_cons c] at HV'
      unfold lhd_lw at HV'
      obtain ⟨r, W10, HV'⟩ := Option.bind_eq_some_iff.mp HV'
      have W1 := Aside0.mk (show lhd_worth.f fuel xs ages sizes (rd smp x) = some r by rw [← W10]; congr 1; simp [rd, c])
      have HV2 := Aside0.mk HV'
      obtain ⟨ad3, e3, q3⟩ := Kd.at_int (Kd.C_below HM.out LC.out) (x : Int) (by omega) (by omega)
      subst e3
      have q3' : wr.cell? (ad3.add x) = some (.int .i64 (rd smp x)) := q3
      clear q3
      have cx : decide (x < smp.length) = true := decide_eq_true c
      have p0 : ((0 : Int) ≤ x) = True := eq_true (by omega)
      have p1 : (x < smp.length) = True := eq_true c
      have p2 : ((x : Int) < smp.length) = True := eq_true (by omega)
      have WX := Aside0.mk (show wrap64 ((x : Int) + 1) = ((x + 1 : Nat) : Int) by have := HL.out; unfold wrap64; omega)
      have CX := Aside0.mk c
      clear HV HV' W10
      go_wp2_with (first | (go_at_call 24; (with_reducible refine (lhd_worth.calls fuel xs ages sizes (rd smp x) r _ ⟨g5, 0, none⟩ ⟨g6, 0, none⟩ g4 A1 A2 c1 c2 ((blk_cell BB6.out 0).trans rfl) ((blk_cell BC.out 0).trans rfl) BA6.out (Kd.C_below HA.out LC.out) (Kd.C_below HS.out LC.out) W1.out).mono ?_); rintro e w8 ⟨rfl, hbl⟩; have HR8 := Aside0.mk (Kd.R_below HR.out hbl); have BA8 := Aside0.mk ((hbl.block g4 (blk_lt BA6.out)).trans BA6.out); have BB8 := Aside0.mk ((hbl.block g5 (blk_lt BB6.out)).trans BB6.out); have BC8 := Aside0.mk ((hbl.block g6 (blk_lt BC.out)).trans BC.out); have LC8 := Aside0.mk (below_step LC.out hbl); clear hbl) | ((with_reducible refine gate_builtin (b := .append) (xs := #[.tmp 23, .tmp 27]) rfl ?_); at_builtin; refine Kd.R_append k45 (w0 := w) w.heap.size rfl (.tmp 23) (.tmp 27) 50 45 (.agg #[.int .u64 0, .int .u64 0]) 16 rfl Try.underlying50 lhd_info45 rfl (by decide) (by omega) _ acc r [.int .u64 r.f0, .int .u64 r.f1] (fun _ => True) (fun _ => False) rfl rfl (k45_mkM _ _ _ r) (fun _ hk => hk.elim) (fun _ _ => trivial) HR8.out LC8.out (below_size LC8.out) (by have := HL.out; have := HN.out; have := CX.out; omega) ?_; intro v1 w9 ho hb hg hat))
      go_roundg k1
      case measure => omega
      case rel =>
        refine ⟨acc ++ [r], x + 1, ?_, ⟨by have := HI.out; omega⟩, ⟨by have := HN.out; simp; omega⟩, HV2, ⟨ho⟩, ⟨(hg.block g4 (blk_lt BA8.out) (Kd.R_ne HR8.out BA8.out (by decide))).trans BA8.out⟩, ⟨(hg.block g5 (blk_lt BB8.out) (Kd.R_ne HR8.out BB8.out (by decide))).trans BB8.out⟩, ⟨(hg.block g6 (blk_lt BC8.out) (Kd.R_ne HR8.out BC8.out (by decide))).trans BC8.out⟩, ⟨hb⟩⟩
        first | rfl | (simp; exact WX.out) | simpa using WX.out
    · have e0 : gk = 0 := by have := HI.out; omega
      have ex : x = smp.length := by have := HI.out; omega
      subst e0
      have HV' := HV.out
      rw [List.drop_of_length_le (by omega)] at HV'
      unfold lhd_lw at HV'
      obtain rfl := Option.some.inj HV'
      obtain ⟨A, cc, rfl, hc, hC⟩ := Kd.R_reads HR.out
      have HC := Aside0.mk hC
      have HCC := Aside0.mk hc
      have cx : decide (x < smp.length) = false := decide_eq_false c
      clear hC hc HV HV'
      cases p2 with
      | false =>
        obtain ⟨rfl, rfl⟩ := Prod.mk.inj (Option.some.inj (show some ((0 : Int), false) = some (r1, r2) from by have := HF.out; rwa [if_neg (by simp)] at this))
        go_wp2_with ((go_at_call 25; (with_reducible refine (ratio_Least.calls fuel A cc acc _ _ _ HC.out HCC.out P1.out).mono ?_); rintro e w8 ⟨rfl, hbl⟩; have LD := Aside0.mk (below_step LC.out hbl); clear hbl))
        go_ret2
        exact ⟨by first | rfl | (simp; done) | (simp [*]; done), LD.out⟩
      | true =>
        have hf := HF.out
        rw [if_pos rfl] at hf
        by_cases z : 0 ≤ p1 ∧ p1 < smp.length
        case neg => rw [if_neg z] at hf; cases hf
        rw [if_pos z] at hf
        obtain ⟨rfl, rfl⟩ := Prod.mk.inj (Option.some.inj hf)
        obtain ⟨m, rfl⟩ : ∃ m : Nat, p1 = m := ⟨p1.toNat, by omega⟩
        obtain ⟨ad3, e3, q3⟩ := Kd.at_int HM.out (m : Int) z.1 z.2
        subst e3
        have Q3 := Aside0.mk (show w.cell? (ad3.add m) = some (.int .i64 (rd smp m)) from q3)
        have LQ := Aside0.mk (World.block_lt_of_cell? w _ Q3.out)
        have z1 : ((0 : Int) ≤ m) = True := eq_true z.1
        have z2 : (m < smp.length) = True := eq_true (by omega)
        have z3 : ((m : Int) < smp.length) = True := eq_true z.2
        clear z q3 hf
        go_wp2_with ((go_at_call 25; (with_reducible refine (ratio_Least.calls fuel A cc acc _ _ _ HC.out HCC.out P1.out).mono ?_); rintro e w8 ⟨rfl, hbl⟩; have LD := Aside0.mk (below_step LC.out hbl); have q4 := (LD.out.cell LQ.out).trans Q3.out; clear hbl))
        go_ret2
        exact ⟨by first | rfl | (simp; done) | (simp [*]; done), LD.out⟩

/-! ### lhd_Age: function 13 -/
def lhd_Age.f (a0 : Int) : Option (Int) := (bits_Len64.f a0).bind fun t164 => (some (mn t164 7))
set_option maxHeartbeats 8000000 in
set_option maxRecDepth 100000 in
theorem lhd_Age.calls (a0 : Int) (r : Int) (w : World) (h : lhd_Age.f a0 = some r) :
    Calls Try.prog 13 #[.int .u64 a0] w fun e w' => e = .returned (.int .i64 r) ∧ Below w.heap.size w w' := by
  have HB := Aside0.mk (Below.refl w.heap.size w)
  have H : ((bits_Len64.f a0).bind fun t164 => (some (mn t164 7))) = some r := h
  clear h
  replace H := Option.bind_eq_some_iff.mp H
  obtain ⟨t164, A20, H⟩ := H
  replace H : (some (mn t164 7)) = some r := H
  have A2 := Aside0.mk A20
  clear A20
  obtain ⟨ji3, hji3⟩ : ∃ j_ : Int, (mn t164 7) = j_ := ⟨_, rfl⟩
  replace H : (some ji3) = some r := by first | (rw [hji3] at H; exact H) | (simp only [hji3] at H ⊢; exact H)
  (try rw [hji3] at A2)
  (try (have hji3h : ji3 ≤ 7 := by (rw [← hji3]; unfold mn; (repeat' split) <;> omega)))
  (try (have hji3g : ji3 ≤ 64 := by omega))
  have hji3_ : (if 7 < t164 then 7 else t164) = ji3 := hji3
  obtain rfl := Option.some.inj H
  go_enter Try.func13, Try.ntmps13
  go_wp2_with (first | ((with_reducible refine gate_callee (f := 26) rfl ?_); refine goesL_ (some 4) rfl rfl Try.func26 (by kernel_rfl) rfl #[.int .u64 a0] rfl (by (try simp only [List.map_toArray, List.map_cons, List.map_nil]); first | done | rfl | (simp only [List.length_drop, List.length_take]; rfl)) ?_; (with_reducible refine (bits_Len64.calls a0 t164 _ A2.out).mono ?_); rintro e w' ⟨rfl, ⟨nd, rfl⟩⟩; refine ⟨_, rfl, ?_⟩) | (go_at_call 26; (with_reducible refine (bits_Len64.calls a0 t164 _ A2.out).mono ?_); rintro e w' ⟨rfl, ⟨nd, rfl⟩⟩))
  go_ret
  exact ⟨by first | rfl | (simp [errW_none, errW_some] <;> rfl) | (simp only [← hji3]; first | rfl | (simp [errW_none, errW_some] <;> rfl)) | (simp [*, errW_none, errW_some] <;> rfl), by repeat (first | (with_reducible first | exact HB.out | apply below_alloc | apply pw_below_drewN | apply below_drew1) | exact HB.out)⟩

/-! ### lhd_Out: function 17 -/
def lhd_Out.f (xs : List Int) (a : Int) : Option (List Int) := if xs.length = 16 then ((lhd_is.f a).bind fun b => (if b = true then ((word_Add.f (rkG xs (8 + a.toNat)) 1).bind fun q => (some (xs.set (8 + a.toNat) q))) else (some xs))) else (none)
set_option maxHeartbeats 4000000 in
set_option maxRecDepth 100000 in
theorem lhd_Out.calls (xs : List Int) (a : Int) (r : List Int) (w : World) (h : lhd_Out.f xs a = some r) :
    Calls Try.prog 17 #[.agg (rkV xs), .int .i64 a] w fun e w' => e = .returned (.agg (rkV r)) ∧ Below w.heap.size w w' := by
  unfold lhd_Out.f at h
  by_cases hx : xs.length = 16
  case neg => rw [if_neg hx] at h; cases h
  rw [if_pos hx] at h
  obtain ⟨b, A10, h⟩ := Option.bind_eq_some_iff.mp h
  have HX := Aside0.mk hx
  clear hx
  cases b with
  | true =>
    rw [if_pos rfl] at h
    obtain ⟨q, B10, h⟩ := Option.bind_eq_some_iff.mp h
    obtain rfl := Option.some.inj h
    clear h
    have A1 := Aside0.mk A10
    have B1 := Aside0.mk B10
    have c0 : 0 ≤ a ∧ a < 8 := by
      unfold lhd_is.f at A10
      by_cases z : a ≥ 0
      · rw [if_pos z] at A10; exact ⟨z, of_decide_eq_true (Option.some.inj A10)⟩
      · rw [if_neg z] at A10; cases A10
    clear A10 B10
    have C0 := Aside0.mk c0
    have d0 : decide (0 ≤ a) = true := decide_eq_true c0.1
    have d1 : decide (a < 8) = true := decide_eq_true c0.2
    have p0 := eq_true c0.1
    have p1 := eq_true c0.2
    clear c0
    go_enter Try.func17, Try.ntmps17
    go_wp2_with (first | ((with_reducible refine gate_dst (N := 2) rfl ?_); refine box_event ?hg (N := 2) ?hd (cs := rkV xs) (t := 25) ?hr ?_; (case hd => rfl); (case hg => rfl); (case hr => first | (go_simp; done) | (go_simp; rfl)); intro g gE w1 hb1 hB1; have GE := Aside0.mk gE; clear gE; have HB1 := Aside0.mk hb1; have HL1 := Aside0.mk hB1; clear hb1 hB1) | ((with_reducible refine gate_dst (N := 4) rfl ?_); refine box_event ?hg (N := 4) ?hd (cs := rkV (List.replicate 16 0)) (t := 25) ?hr ?_; (case hd => rfl); (case hg => rfl); (case hr => first | (go_simp; done) | (go_simp; rfl)); intro g2 gE2 w2 hb2 hB2; have NE := Aside0.mk (show g2 ≠ g by have := blk_lt HB1.out; omega); have HL2' := Aside0.mk (show w.heap.size ≤ g2 by have := HL1.out.size; omega); clear gE2; have HB3 := Aside0.mk ((hB2.block g (blk_lt HB1.out)).trans HB1.out); have HB2 := Aside0.mk hb2; have HL2 := Aside0.mk (below_step HL1.out hB2); (have hc : w2.cell? ⟨g, (8 + a.toNat), none⟩ = some (.int .u64 (rkG xs (8 + a.toNat))) := (blk_cell HB3.out (8 + a.toNat)).trans (rkV_get xs (8 + a.toNat) (by have := HX.out; have := C0.out; omega))); (have hf := blk_frozen HB3.out (8 + a.toNat)); clear hb2 hB2) | (go_at_call 27; (with_reducible refine (lhd_is.calls a true _ A1.out).mono ?_); rintro e w' ⟨rfl, ⟨nd, rfl⟩⟩) | (go_at_call 28; (with_reducible refine (word_Add.calls (rkG xs (8 + a.toNat)) 1 q _ B1.out).mono ?_); rintro e w' ⟨rfl, ⟨nd2, rfl⟩⟩) | ((with_reducible refine gate_dst (N := 15) rfl ?_); refine wpl_abs (fun W => W.heap[g]? = some (.cells (rkV (xs.set (8 + a.toNat) q)) 25 (0, 0)) ∧ W.heap[g2]? = some (.cells (rkV (List.replicate 16 0)) 25 (0, 0)) ∧ Below w.heap.size w W) ⟨blk_put (blk_drewN HB3.out _) (8 + a.toNat) _ (rkV_set xs (8 + a.toNat) q), blk_far (blk_drewN HB2.out _) NE.out _, by have := GE.out; exact (pw_below_drewN HL2.out _).setCell (by simp; omega) _⟩ ?_; clear hc hf HB3 HB2 HL2; rintro W3 ⟨hb3, hb2, hl⟩; refine wpList_load_mid rfl 25 _ rfl g 0 rfl (rkV (xs.set (8 + a.toNat) q)).toList _ (rk_range hb3) Try.underlying25 rfl (by rw [rk_len (by simpa using HX.out)]; exact rk_info) ?_; have HB3 := Aside0.mk hb3; have HB2 := Aside0.mk hb2; have HL3 := Aside0.mk hl; clear hb3 hb2 hl) | (refine wpList_store_mid rfl 25 _ _ rfl g2 0 _ rfl rfl (rk_there HB2.out _ (by simp [rkV, HX.out])) (by (try simp only [Array.toArray_toList]); rw [rkV_size, List.length_set, HX.out]; exact rk_info) (by (try simp only [Array.toArray_toList]); exact rk_one _) ?_))
    have L5 : (xs.set (8 + a.toNat) q).length = 16 := by simpa using HX.out
    have HB5 := rk_stored (xs := xs.set (8 + a.toNat) q) HB2.out (by simp [rkV, HX.out])
    refine bodyPost_ret (v := .agg (rkV (xs.set (8 + a.toNat) q))) (results_cell Try.results17 rfl (rk_loadv HB5 L5)) rfl ⟨rfl, ?_⟩
    exact rk_below _ (by have h1 := GE.out; have h2 := HL2'.out; omega) 0 HL3.out
  | false =>
    rw [if_neg (by simp)] at h
    obtain rfl := Option.some.inj h
    clear h
    have A1 := Aside0.mk A10
    clear A10
    go_enter Try.func17, Try.ntmps17
    go_wp2_with (first | ((with_reducible refine gate_dst (N := 2) rfl ?_); refine box_event ?hg (N := 2) ?hd (cs := rkV xs) (t := 25) ?hr ?_; (case hd => rfl); (case hg => rfl); (case hr => first | (go_simp; done) | (go_simp; rfl)); intro g gE w1 hb1 hB1; have GE := Aside0.mk gE; clear gE; have HB1 := Aside0.mk hb1; have HL1 := Aside0.mk hB1; clear hb1 hB1) | ((with_reducible refine gate_dst (N := 4) rfl ?_); refine box_event ?hg (N := 4) ?hd (cs := rkV (List.replicate 16 0)) (t := 25) ?hr ?_; (case hd => rfl); (case hg => rfl); (case hr => first | (go_simp; done) | (go_simp; rfl)); intro g2 gE2 w2 hb2 hB2; have NE := Aside0.mk (show g2 ≠ g by have := blk_lt HB1.out; omega); have HL2' := Aside0.mk (show w.heap.size ≤ g2 by have := HL1.out.size; omega); clear gE2; have HB3 := Aside0.mk ((hB2.block g (blk_lt HB1.out)).trans HB1.out); have HB2 := Aside0.mk hb2; have HL2 := Aside0.mk (below_step HL1.out hB2); clear hb2 hB2) | (go_at_call 27; (with_reducible refine (lhd_is.calls a false _ A1.out).mono ?_); rintro e w' ⟨rfl, ⟨nd, rfl⟩⟩) | ((with_reducible refine gate_dst (N := 15) rfl ?_); refine wpl_abs (fun W => W.heap[g]? = some (.cells (rkV xs) 25 (0, 0)) ∧ W.heap[g2]? = some (.cells (rkV (List.replicate 16 0)) 25 (0, 0)) ∧ Below w.heap.size w W) ⟨blk_drewN HB3.out _, blk_drewN HB2.out _, pw_below_drewN HL2.out _⟩ ?_; clear HB3 HB2 HL2; rintro W3 ⟨hb3, hb2, hl⟩; refine wpList_load_mid rfl 25 _ rfl g 0 rfl (rkV xs).toList _ (rk_range hb3) Try.underlying25 rfl (by rw [rk_len HX.out]; exact rk_info) ?_; have HB3 := Aside0.mk hb3; have HB2 := Aside0.mk hb2; have HL3 := Aside0.mk hl; clear hb3 hb2 hl) | (refine wpList_store_mid rfl 25 _ _ rfl g2 0 _ rfl rfl (rk_there HB2.out _ (by simp [rkV, HX.out])) (by (try simp only [Array.toArray_toList]); rw [rkV_size, HX.out]; exact rk_info) (by (try simp only [Array.toArray_toList]); exact rk_one _) ?_))
    have HB5 := rk_stored (xs := xs) HB2.out (by simp [rkV, HX.out])
    refine bodyPost_ret (v := .agg (rkV xs)) (results_cell Try.results17 rfl (rk_loadv HB5 HX.out)) rfl ⟨rfl, ?_⟩
    exact rk_below _ HL2'.out 0 HL3.out

end Go.Proofs.Ytiokopkglmaffaa.Print
