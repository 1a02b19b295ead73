/- Lean functions that answer what Go functions of the translation answer, and the proofs of it. Written by a program of this session (wip/tools/seatprint.py), over contracts that it proved by hand. Conditions: those that each theorem says. -/
import Derived.Test.YtiokopkglmaffaaPrint0
namespace Go.Proofs.Ytiokopkglmaffaa.Print
open Go.RowKit Go.Proofs.YtiokopkglmaffaaW.PrintWords Go.Proofs.YtiokopkglmaffaaW.PrintLast Go.Proofs.YtiokopkglmaffaaW.PrintMore
attribute [local go_sem] max2_int min2_int max_two min_two max_three min_three max_four min_four   -- for this text's walks alone
set_option linter.unusedVariables false
set_option linter.unusedSimpArgs false

/-! ### lhd_is: function 27 -/
def lhd_is.f (a0 : Int) : Option (Bool) := if a0 ≥ 0 then (some (decide (a0 < 8))) else (some false)
set_option maxHeartbeats 8000000 in
set_option maxRecDepth 100000 in
theorem lhd_is.calls (a0 : Int) (r : Bool) (w : World) (h : lhd_is.f a0 = some r) :
    Calls Try.prog 27 #[.int .i64 a0] w fun e w' => e = .returned (.bool r) ∧ Drawn0 w w' := by
  have H : (if a0 ≥ 0 then (some (decide (a0 < 8))) else (some false)) = some r := h
  clear h
  by_cases c2 : a0 ≥ 0
  · rw [if_pos c2] at H
    have c2b0 : decide (0 ≤ a0) = true := decide_eq_true c2
    clear c2
    obtain rfl := Option.some.inj H
    go_enter Try.func27, Try.ntmps27
    go_wp2
    go_ret
    exact ⟨by first | rfl | (simp; done) | (simp [*]; done), by repeat (first | exact Drawn0.refl _ | apply Drawn0.step)⟩
  · rw [if_neg c2] at H
    have c2b0 : decide (0 ≤ a0) = false := decide_eq_false c2
    clear c2
    obtain rfl := Option.some.inj H
    go_enter Try.func27, Try.ntmps27
    go_wp2
    go_ret
    exact ⟨by first | rfl | (simp; done) | (simp [*]; done), by repeat (first | exact Drawn0.refl _ | apply Drawn0.step)⟩

/-! ### word_Plus: function 43 -/
theorem add64_zero (x y : Int) (hx : 0 ≤ x) (hy : 0 ≤ y) (w : World) : (callFunc 51 #[.int .u64 x, .int .u64 y, .int .u64 0]).run Try.prog w =
    .ok (.value (.tuple #[.int .u64 ((x + y) % 18446744073709551616), .int .u64 ((x + y) / 18446744073709551616)])) w := by
  rw [run_callFunc_extern Try.func51 (by kernel_rfl) (by kernel_rfl) (by kernel_rfl) (e := add64Entry) (by kernel_rfl), run_add64 x y 0 hx hy (Int.le_refl 0) (by decide)]
  simp only [Result.andThen, Int.add_zero]
def word_Plus.f (a0 a1 : Int) : Option (Int × Int) := if 0 ≤ a0 then (if 0 ≤ a1 then (if a0 + a1 < 18446744073709551616 then some (a0 + a1, 0) else some (0, 10)) else none) else none
set_option maxHeartbeats 1000000 in
theorem word_Plus.calls (a0 : Int) (a1 : Int) (r1 : Int) (r2 : Int) (w : World) (h : word_Plus.f a0 a1 = some (r1, r2)) :
    Calls Try.prog 43 #[.int .u64 a0, .int .u64 a1] w fun e w' => e = .returned (.tuple #[.int .u64 r1, .int .i64 r2]) ∧ Drawn0 w w' := by
  unfold word_Plus.f at h
  by_cases h0 : 0 ≤ a0
  · by_cases h1 : 0 ≤ a1
    · rw [if_pos h0, if_pos h1] at h
      by_cases hc : a0 + a1 < 18446744073709551616
      · rw [if_pos hc] at h
        simp only [Option.some.injEq, Prod.mk.injEq] at h
        obtain ⟨rfl, rfl⟩ := h
        have e1 : (a0 + a1) % 18446744073709551616 = a0 + a1 := by omega
        have e2 : (a0 + a1) / 18446744073709551616 = 0 := by omega
        have hz := add64_zero a0 a1 h0 h1
        rw [e1, e2] at hz
        clear e1 e2 hc
        go_enter Try.func43, Try.ntmps43
        go_wp2_with (first | simp only [hz])
        go_ret2
        exact ⟨rfl, Drawn0.refl _⟩
      · rw [if_neg hc] at h
        simp only [Option.some.injEq, Prod.mk.injEq] at h
        obtain ⟨rfl, rfl⟩ := h
        have hz := add64_zero a0 a1 h0 h1
        have e2 : 0 < (a0 + a1) / 18446744073709551616 := by omega
        obtain ⟨c, hc'⟩ : ∃ c, c = (a0 + a1) / 18446744073709551616 := ⟨_, rfl⟩
        rw [← hc'] at hz e2
        obtain ⟨s, hs'⟩ : ∃ s, s = (a0 + a1) % 18446744073709551616 := ⟨_, rfl⟩
        rw [← hs'] at hz
        clear hc hc' hs'
        go_enter Try.func43, Try.ntmps43
        go_wp2_with (first | simp only [hz])
        go_ret2
        exact ⟨rfl, Drawn0.refl _⟩
    · rw [if_pos h0, if_neg h1] at h; cases h
  · rw [if_neg h0] at h; cases h

/-! ### word_held_uint64: function 44 -/
def word_held_uint64.f (a0 : Int) (a1 : Int) (a2 : Bool) : Option (Int) := if a2 = true then (some a1) else (some a0)
set_option maxHeartbeats 8000000 in
set_option maxRecDepth 100000 in
theorem word_held_uint64.calls (a0 : Int) (a1 : Int) (a2 : Bool) (r : Int) (w : World) (h : word_held_uint64.f a0 a1 a2 = some r) :
    Calls Try.prog 44 #[.int .u64 a0, .int .u64 a1, .bool a2] w fun e w' => e = .returned (.int .u64 r) ∧ Drawn0 w w' := by
  have H : (if a2 = true then (some a1) else (some a0)) = some r := h
  clear h
  by_cases c4 : a2 = true
  · subst c4
    have H1 : (some a1) = some r := by rw [if_pos rfl] at H; exact H
    clear H
    have H := H1
    clear H1
    obtain rfl := Option.some.inj H
    go_enter Try.func44, Try.ntmps44
    go_wp2
    go_ret
    exact ⟨by first | rfl | (simp; done) | (simp [*]; done), by repeat (first | exact Drawn0.refl _ | apply Drawn0.step)⟩
  · replace c4 := Bool.eq_false_iff.mpr c4
    subst c4
    have H1 : (some a0) = some r := by rw [if_neg (show ¬ (false = true) by decide)] at H; exact H
    clear H
    have H := H1
    clear H1
    obtain rfl := Option.some.inj H
    go_enter Try.func44, Try.ntmps44
    go_wp2
    go_ret
    exact ⟨by first | rfl | (simp; done) | (simp [*]; done), by repeat (first | exact Drawn0.refl _ | apply Drawn0.step)⟩

/-! ### word_Add: function 28 -/
def word_Add.f (a0 : Int) (a1 : Int) : Option (Int) := (word_Plus.f a0 a1).bind fun bt101 => ((word_held_uint64.f bt101.1 18446744073709551615 (bt101.2 != 0)).bind fun t103 => (some t103))
set_option maxHeartbeats 8000000 in
set_option maxRecDepth 100000 in
theorem word_Add.calls (a0 : Int) (a1 : Int) (r : Int) (w : World) (h : word_Add.f a0 a1 = some r) :
    Calls Try.prog 28 #[.int .u64 a0, .int .u64 a1] w fun e w' => e = .returned (.int .u64 r) ∧ Drawn0 w w' := by
  have H : ((word_Plus.f a0 a1).bind fun bt101 => ((word_held_uint64.f bt101.1 18446744073709551615 (bt101.2 != 0)).bind fun t103 => (some t103))) = some r := h
  clear h
  replace H := Option.bind_eq_some_iff.mp H
  obtain ⟨⟨t101, t102⟩, A30, H⟩ := H
  replace H : ((word_held_uint64.f t101 18446744073709551615 (t102 != 0)).bind fun t103 => (some t103)) = some r := H
  have A3 := Aside0.mk A30
  clear A30
  replace H := Option.bind_eq_some_iff.mp H
  obtain ⟨t103, A40, H⟩ := H
  replace H : (some t103) = some r := H
  have A4 := Aside0.mk A40
  clear A40
  obtain rfl := Option.some.inj H
  go_enter Try.func28, Try.ntmps28
  go_wp2_with (first | ((with_reducible refine gate_callee (f := 43) rfl ?_); refine goesL_ (some 10) rfl rfl Try.func43 (by kernel_rfl) rfl #[.int .u64 a0, .int .u64 a1] rfl (by (try simp only [List.map_toArray, List.map_cons, List.map_nil]); first | done | rfl | (simp only [List.length_drop, List.length_take]; rfl)) ?_; (with_reducible refine (word_Plus.calls a0 a1 t101 t102 _ A3.out).mono ?_); rintro e w' ⟨rfl, ⟨nd, rfl⟩⟩; refine ⟨_, rfl, ?_⟩) | ((with_reducible refine gate_callee (f := 44) rfl ?_); refine goesL_ (some 16) rfl rfl Try.func44 (by kernel_rfl) rfl #[.int .u64 t101, .int .u64 18446744073709551615, .bool (t102 != 0)] rfl (by (try simp only [List.map_toArray, List.map_cons, List.map_nil]); first | done | rfl | (simp only [List.length_drop, List.length_take]; rfl)) ?_; (with_reducible refine (word_held_uint64.calls t101 18446744073709551615 (t102 != 0) t103 _ A4.out).mono ?_); rintro e w' ⟨rfl, ⟨nd, rfl⟩⟩; refine ⟨_, rfl, ?_⟩) | (go_at_call 43; (with_reducible refine (word_Plus.calls a0 a1 t101 t102 _ A3.out).mono ?_); rintro e w' ⟨rfl, ⟨nd, rfl⟩⟩) | (go_at_call 44; (with_reducible refine (word_held_uint64.calls t101 18446744073709551615 (t102 != 0) t103 _ A4.out).mono ?_); rintro e w' ⟨rfl, ⟨nd, rfl⟩⟩))
  go_ret
  exact ⟨by first | rfl | (simp; done) | (simp [*]; done), by repeat (first | exact Drawn0.refl _ | apply Drawn0.step)⟩

/-! ### lhd_Hit: function 15 -/
def rkV (xs : List Int) : Array Value := (xs.map (Value.int .u64)).toArray
def rkG (xs : List Int) (i : Nat) : Int := xs.getD i 0
theorem rkV_size (xs : List Int) : (rkV xs).size = xs.length := by simp [rkV]
theorem rkV_get (xs : List Int) (i : Nat) (h : i < xs.length) : (rkV xs)[i]? = some (.int .u64 (rkG xs i)) := by
  unfold rkV rkG
  rw [List.getElem?_toArray, List.getElem?_map, List.getElem?_eq_getElem h, List.getD_eq_getElem?_getD, List.getElem?_eq_getElem h]; rfl
theorem rkV_set (xs : List Int) (i : Nat) (q : Int) : (rkV xs).setIfInBounds i (.int .u64 q) = rkV (xs.set i q) := by
  unfold rkV
  apply Array.toList_inj.1
  simp [List.map_set]
theorem rk_range {w : World} {g : Nat} {t : TypeId} {xs : List Int} (h : w.heap[g]? = some (.cells (rkV xs) t (0, 0))) : w.rangeAt g 0 (rkV xs).toList := fun j v hj => by
  rw [Nat.zero_add, blk_cell h j, ← hj]; simp
theorem rk_there {w : World} {g : Nat} {t : TypeId} {C : Array Value} (h : w.heap[g]? = some (.cells C t (0, 0))) (n : Nat) (hn : n = C.size) : w.there g 0 n := fun j hj => by
  rw [Nat.zero_add, blk_cell h j, blk_frozen h j, Array.getElem?_eq_getElem (by omega)]; exact ⟨rfl, rfl⟩
theorem blk_setCells {g : Nat} {t : TypeId} (ys : List Value) : ∀ (o : Nat) {w : World} {C : Array Value}, w.heap[g]? = some (.cells C t (0, 0)) → o + ys.length ≤ C.size → ∃ C', (w.setCells g o ys).heap[g]? = some (.cells C' t (0, 0)) ∧ C'.size = C.size ∧ (∀ j, j < o → C'[j]? = C[j]?) ∧ (∀ j, j < ys.length → C'[o + j]? = ys[j]?) ∧ (∀ j, o + ys.length ≤ j → C'[j]? = C[j]?) := by
  induction ys with
  | nil => intro o w C h hl; exact ⟨C, h, rfl, fun _ _ => rfl, fun j hj => by simp at hj, fun _ _ => rfl⟩
  | cons y ys ih =>
    intro o w C h hl
    simp only [List.length_cons] at hl
    have h1 : (w.setCell ⟨g, o, none⟩ y).heap[g]? = some (.cells (C.setIfInBounds o y) t (0, 0)) := blk_put h o y rfl
    obtain ⟨C', a1, a2, a3, a4, a5⟩ := ih (o + 1) h1 (by simp; omega)
    refine ⟨C', a1, by simpa using a2, fun j hj => ?_, fun j hj => ?_, fun j hj => ?_⟩
    · rw [a3 j (by omega), Array.getElem?_setIfInBounds_ne (by omega)]
    · cases j with
      | zero => rw [Nat.add_zero, a3 o (by omega), Array.getElem?_setIfInBounds_self_of_lt (by omega)]; rfl
      | succ j =>
        simp only [List.length_cons] at hj
        have := a4 j (by omega)
        rw [show o + (j + 1) = o + 1 + j by omega, this]; rfl
    · simp only [List.length_cons] at hj
      rw [a5 j (by omega), Array.getElem?_setIfInBounds_ne (by omega)]
/-- A whole row stored. -/
theorem rk_stored {w : World} {g : Nat} {t : TypeId} {C : Array Value} {xs : List Int} (h : w.heap[g]? = some (.cells C t (0, 0))) (hc : C.size = xs.length) : (w.setCells g 0 (rkV xs).toList).heap[g]? = some (.cells (rkV xs) t (0, 0)) := by
  obtain ⟨C', a1, a2, a3, a4, a5⟩ := blk_setCells (rkV xs).toList 0 h (by simp [rkV]; omega)
  have e : C' = rkV xs := by
    apply Array.ext_getElem?
    intro j
    by_cases hj : j < (rkV xs).size
    · have := a4 j (by simpa using hj)
      rw [Nat.zero_add] at this
      rw [this]; simp
    · rw [Array.getElem?_eq_none (by rw [a2, hc]; rw [rkV_size] at hj; omega), Array.getElem?_eq_none (by omega)]
  rw [e] at a1
  exact a1
theorem rk_far {g g' : Nat} {o : Obj} (hg : g' ≠ g) (ys : List Value) : ∀ (k : Nat) {w : World}, w.heap[g']? = some o → (w.setCells g k ys).heap[g']? = some o := by
  induction ys with
  | nil => intro k w h; exact h
  | cons y ys ih =>
    intro k w h
    exact ih (k + 1) (w := w.setCell ⟨g, k, none⟩ y) ((Below.heap_setCell w ⟨g, k, none⟩ y g' hg).trans h)
theorem rk_len {xs : List Int} (h : xs.length = 16) : (rkV xs).toList.length = 16 := by simp [rkV, h]
theorem rk_one (xs : List Int) : (rkV xs).all (·.oneCell') = true := by unfold rkV; simp [Value.oneCell']
theorem rk_info : (Try.prog.info? 25).map (·.size) = some 16 := by kernel_rfl
theorem rk_loads {w : World} {g : Nat} {t : TypeId} {xs : List Int} (h : w.heap[g]? = some (.cells (rkV xs) t (0, 0))) (hx : xs.length = 16) :
    (Instr.loadAt 25 (.pointer (some ⟨g, 0, none⟩))).run Try.prog w = .ok (.agg (rkV xs)) w := by
  have := run_loadAt_mid (P := Try.prog) w g 0 25 (rkV xs).toList _ (rk_range h) Try.underlying25 rfl (by rw [rk_len hx]; exact rk_info)
  simpa using this
theorem results_cell {P : Program} {fn : Func} {tmps : Array Value} {w : World} {a : Tmp} {t : TypeId} {b : Addr} {v : Value} (hr : fn.results = #[.cell a t]) (ht : tmps.getD a undef = .pointer (some b)) (hl : (loadVar t b).run P w = .ok v w) : (results fn tmps).run P w = .ok v w := by
  unfold results
  rw [hr]
  simp only [List.mapM_toArray, Array.mapM_eq_mapM_toList, List.mapM_cons, List.mapM_nil]
  simp [ht, asAddr, hl, Result.andThen]
theorem rk_loadv {w : World} {g : Nat} {t : TypeId} {xs : List Int} (h : w.heap[g]? = some (.cells (rkV xs) t (0, 0))) (hx : xs.length = 16) :
    (loadVar 25 ⟨g, 0, none⟩).run Try.prog w = .ok (.agg (rkV xs)) w := by
  have := run_loadVar_mid (P := Try.prog) w g 0 25 (rkV xs).toList _ (rk_range h) Try.underlying25 rfl (by rw [rk_len hx]; exact rk_info)
  simpa using this
theorem wpl_abs {P : Program} {ops : Array Oper} {Q : Exit → Act → World → Prop} {rest : List Oper} {a : Act} {W : World} (F : World → Prop) (hF : F W) (h : ∀ W', F W' → wpList P ops Q rest a W') : wpList P ops Q rest a W := h W hF
theorem rk_below {w W : World} {g : Nat} (ys : List Value) (hg : w.heap.size ≤ g) : ∀ (k : Nat), Below w.heap.size w W → Below w.heap.size w (W.setCells g k ys) := by
  induction ys generalizing W with
  | nil => intro k h; exact h
  | cons y ys ih => intro k h; exact ih (k + 1) (h.setCell hg y)
def lhd_Hit.f (xs : List Int) (a : Int) : Option (List Int) := if xs.length = 16 then ((lhd_is.f a).bind fun b => (if b = true then ((word_Add.f (rkG xs a.toNat) 1).bind fun q => (some (xs.set a.toNat q))) else (some xs))) else (none)
set_option maxHeartbeats 4000000 in
set_option maxRecDepth 100000 in
theorem lhd_Hit.calls (xs : List Int) (a : Int) (r : List Int) (w : World) (h : lhd_Hit.f xs a = some r) :
    Calls Try.prog 15 #[.agg (rkV xs), .int .i64 a] w fun e w' => e = .returned (.agg (rkV r)) ∧ Below w.heap.size w w' := by
  unfold lhd_Hit.f at h
  by_cases hx : xs.length = 16
  case neg => rw [if_neg hx] at h; cases h
  rw [if_pos hx] at h
  obtain ⟨b, A10, h⟩ := Option.bind_eq_some_iff.mp h
  have HX := Aside0.mk hx
  clear hx
  cases b with
  | true =>
    rw [if_pos rfl] at h
    obtain ⟨q, B10, h⟩ := Option.bind_eq_some_iff.mp h
    obtain rfl := Option.some.inj h
    clear h
    have A1 := Aside0.mk A10
    have B1 := Aside0.mk B10
    have c0 : 0 ≤ a ∧ a < 8 := by
      unfold lhd_is.f at A10
      by_cases z : a ≥ 0
      · rw [if_pos z] at A10; exact ⟨z, of_decide_eq_true (Option.some.inj A10)⟩
      · rw [if_neg z] at A10; cases A10
    clear A10 B10
    have C0 := Aside0.mk c0
    have d0 : decide (0 ≤ a) = true := decide_eq_true c0.1
    have d1 : decide (a < 8) = true := decide_eq_true c0.2
    have p0 := eq_true c0.1
    have p1 := eq_true c0.2
    clear c0
    go_enter Try.func15, Try.ntmps15
    go_wp2_with (first | ((with_reducible refine gate_dst (N := 2) rfl ?_); refine box_event ?hg (N := 2) ?hd (cs := rkV xs) (t := 25) ?hr ?_; (case hd => rfl); (case hg => rfl); (case hr => first | (go_simp; done) | (go_simp; rfl)); intro g gE w1 hb1 hB1; have GE := Aside0.mk gE; clear gE; have HB1 := Aside0.mk hb1; have HL1 := Aside0.mk hB1; clear hb1 hB1) | ((with_reducible refine gate_dst (N := 4) rfl ?_); refine box_event ?hg (N := 4) ?hd (cs := rkV (List.replicate 16 0)) (t := 25) ?hr ?_; (case hd => rfl); (case hg => rfl); (case hr => first | (go_simp; done) | (go_simp; rfl)); intro g2 gE2 w2 hb2 hB2; have NE := Aside0.mk (show g2 ≠ g by have := blk_lt HB1.out; omega); have HL2' := Aside0.mk (show w.heap.size ≤ g2 by have := HL1.out.size; omega); clear gE2; have HB3 := Aside0.mk ((hB2.block g (blk_lt HB1.out)).trans HB1.out); have HB2 := Aside0.mk hb2; have HL2 := Aside0.mk (below_step HL1.out hB2); (have hc : w2.cell? ⟨g, a.toNat, none⟩ = some (.int .u64 (rkG xs a.toNat)) := (blk_cell HB3.out a.toNat).trans (rkV_get xs a.toNat (by have := HX.out; have := C0.out; omega))); (have hf := blk_frozen HB3.out a.toNat); clear hb2 hB2) | (go_at_call 27; (with_reducible refine (lhd_is.calls a true _ A1.out).mono ?_); rintro e w' ⟨rfl, ⟨nd, rfl⟩⟩) | (go_at_call 28; (with_reducible refine (word_Add.calls (rkG xs a.toNat) 1 q _ B1.out).mono ?_); rintro e w' ⟨rfl, ⟨nd2, rfl⟩⟩) | ((with_reducible refine gate_dst (N := 15) rfl ?_); refine wpl_abs (fun W => W.heap[g]? = some (.cells (rkV (xs.set a.toNat q)) 25 (0, 0)) ∧ W.heap[g2]? = some (.cells (rkV (List.replicate 16 0)) 25 (0, 0)) ∧ Below w.heap.size w W) ⟨blk_put (blk_drewN HB3.out _) a.toNat _ (rkV_set xs a.toNat q), blk_far (blk_drewN HB2.out _) NE.out _, by have := GE.out; exact (pw_below_drewN HL2.out _).setCell (by simp; omega) _⟩ ?_; clear hc hf HB3 HB2 HL2; rintro W3 ⟨hb3, hb2, hl⟩; refine wpList_load_mid rfl 25 _ rfl g 0 rfl (rkV (xs.set a.toNat q)).toList _ (rk_range hb3) Try.underlying25 rfl (by rw [rk_len (by simpa using HX.out)]; exact rk_info) ?_; have HB3 := Aside0.mk hb3; have HB2 := Aside0.mk hb2; have HL3 := Aside0.mk hl; clear hb3 hb2 hl) | (refine wpList_store_mid rfl 25 _ _ rfl g2 0 _ rfl rfl (rk_there HB2.out _ (by simp [rkV, HX.out])) (by (try simp only [Array.toArray_toList]); rw [rkV_size, List.length_set, HX.out]; exact rk_info) (by (try simp only [Array.toArray_toList]); exact rk_one _) ?_))
    have L5 : (xs.set a.toNat q).length = 16 := by simpa using HX.out
    have HB5 := rk_stored (xs := xs.set a.toNat q) HB2.out (by simp [rkV, HX.out])
    refine bodyPost_ret (v := .agg (rkV (xs.set a.toNat q))) (results_cell Try.results15 rfl (rk_loadv HB5 L5)) rfl ⟨rfl, ?_⟩
    exact rk_below _ (by have h1 := GE.out; have h2 := HL2'.out; omega) 0 HL3.out
  | false =>
    rw [if_neg (by simp)] at h
    obtain rfl := Option.some.inj h
    clear h
    have A1 := Aside0.mk A10
    clear A10
    go_enter Try.func15, Try.ntmps15
    go_wp2_with (first | ((with_reducible refine gate_dst (N := 2) rfl ?_); refine box_event ?hg (N := 2) ?hd (cs := rkV xs) (t := 25) ?hr ?_; (case hd => rfl); (case hg => rfl); (case hr => first | (go_simp; done) | (go_simp; rfl)); intro g gE w1 hb1 hB1; have GE := Aside0.mk gE; clear gE; have HB1 := Aside0.mk hb1; have HL1 := Aside0.mk hB1; clear hb1 hB1) | ((with_reducible refine gate_dst (N := 4) rfl ?_); refine box_event ?hg (N := 4) ?hd (cs := rkV (List.replicate 16 0)) (t := 25) ?hr ?_; (case hd => rfl); (case hg => rfl); (case hr => first | (go_simp; done) | (go_simp; rfl)); intro g2 gE2 w2 hb2 hB2; have NE := Aside0.mk (show g2 ≠ g by have := blk_lt HB1.out; omega); have HL2' := Aside0.mk (show w.heap.size ≤ g2 by have := HL1.out.size; omega); clear gE2; have HB3 := Aside0.mk ((hB2.block g (blk_lt HB1.out)).trans HB1.out); have HB2 := Aside0.mk hb2; have HL2 := Aside0.mk (below_step HL1.out hB2); clear hb2 hB2) | (go_at_call 27; (with_reducible refine (lhd_is.calls a false _ A1.out).mono ?_); rintro e w' ⟨rfl, ⟨nd, rfl⟩⟩) | ((with_reducible refine gate_dst (N := 15) rfl ?_); refine wpl_abs (fun W => W.heap[g]? = some (.cells (rkV xs) 25 (0, 0)) ∧ W.heap[g2]? = some (.cells (rkV (List.replicate 16 0)) 25 (0, 0)) ∧ Below w.heap.size w W) ⟨blk_drewN HB3.out _, blk_drewN HB2.out _, pw_below_drewN HL2.out _⟩ ?_; clear HB3 HB2 HL2; rintro W3 ⟨hb3, hb2, hl⟩; refine wpList_load_mid rfl 25 _ rfl g 0 rfl (rkV xs).toList _ (rk_range hb3) Try.underlying25 rfl (by rw [rk_len HX.out]; exact rk_info) ?_; have HB3 := Aside0.mk hb3; have HB2 := Aside0.mk hb2; have HL3 := Aside0.mk hl; clear hb3 hb2 hl) | (refine wpList_store_mid rfl 25 _ _ rfl g2 0 _ rfl rfl (rk_there HB2.out _ (by simp [rkV, HX.out])) (by (try simp only [Array.toArray_toList]); rw [rkV_size, HX.out]; exact rk_info) (by (try simp only [Array.toArray_toList]); exact rk_one _) ?_))
    have HB5 := rk_stored (xs := xs) HB2.out (by simp [rkV, HX.out])
    refine bodyPost_ret (v := .agg (rkV xs)) (results_cell Try.results15 rfl (rk_loadv HB5 HX.out)) rfl ⟨rfl, ?_⟩
    exact rk_below _ HL2'.out 0 HL3.out

/-! ### word_Shl: function 32 -/
def word_Shl.f (a0 : Int) (a1 : Int) : Option (Int) := if 0 ≤ a1 then (if a0 > 0 then (if a1 ≥ 64 then ((word_held_uint64.f (shl .u64 a0 a1) 18446744073709551615 true).bind fun t104 => (some t104)) else (if 0 ≤ (IntKind.u64.wrap (64 - a1)) then ((word_held_uint64.f (shl .u64 a0 a1) 18446744073709551615 (decide ((shr .u64 a0 (IntKind.u64.wrap (64 - a1))) > 0))).bind fun t105 => (some t105)) else (none))) else ((word_held_uint64.f (shl .u64 a0 a1) 18446744073709551615 false).bind fun t106 => (some t106))) else (none)
set_option maxHeartbeats 8000000 in
set_option maxRecDepth 100000 in
theorem word_Shl.calls (a0 : Int) (a1 : Int) (r : Int) (w : World) (h : word_Shl.f a0 a1 = some r) :
    Calls Try.prog 32 #[.int .u64 a0, .int .u64 a1] w fun e w' => e = .returned (.int .u64 r) ∧ Drawn0 w w' := by
  have H : (if 0 ≤ a1 then (if a0 > 0 then (if a1 ≥ 64 then ((word_held_uint64.f (shl .u64 a0 a1) 18446744073709551615 true).bind fun t104 => (some t104)) else (if 0 ≤ (IntKind.u64.wrap (64 - a1)) then ((word_held_uint64.f (shl .u64 a0 a1) 18446744073709551615 (decide ((shr .u64 a0 (IntKind.u64.wrap (64 - a1))) > 0))).bind fun t105 => (some t105)) else (none))) else ((word_held_uint64.f (shl .u64 a0 a1) 18446744073709551615 false).bind fun t106 => (some t106))) else (none)) = some r := h
  clear h
  by_cases c3 : 0 ≤ a1
  · rw [if_pos c3] at H
    have c3b0 := eq_true c3
    have c3b1 : decide (0 ≤ a1) = true := decide_eq_true c3
    clear c3
    obtain ⟨ji4, hji4⟩ : ∃ j_ : Int, (shl .u64 a0 a1) = j_ := ⟨_, rfl⟩
    replace H : (if a0 > 0 then (if a1 ≥ 64 then ((word_held_uint64.f (ji4) 18446744073709551615 true).bind fun t104 => (some t104)) else (if 0 ≤ (IntKind.u64.wrap (64 - a1)) then ((word_held_uint64.f (ji4) 18446744073709551615 (decide ((shr .u64 a0 (IntKind.u64.wrap (64 - a1))) > 0))).bind fun t105 => (some t105)) else (none))) else ((word_held_uint64.f (ji4) 18446744073709551615 false).bind fun t106 => (some t106))) = some r := by first | (rw [hji4] at H; exact H) | (simp only [hji4] at H ⊢; exact H)
    have hji4_ : (IntKind.u64.wrap (a0 * 2 ^ min a1.toNat 64)) = ji4 := hji4
    have hji4z : a1 ≤ 64 → (IntKind.u64.wrap (a0 * 2 ^ a1.toNat)) = ji4 := shl_small hji4
    by_cases c5 : a0 > 0
    · rw [if_pos c5] at H
      have c5b0 : decide (0 < a0) = true := decide_eq_true c5
      clear c5
      by_cases c6 : a1 ≥ 64
      · rw [if_pos c6] at H
        have c6b0 : decide (64 ≤ a1) = true := decide_eq_true c6
        clear c6
        replace H := Option.bind_eq_some_iff.mp H
        obtain ⟨t104, A70, H⟩ := H
        replace H : (some t104) = some r := H
        have A7 := Aside0.mk A70
        clear A70
        obtain rfl := Option.some.inj H
        go_enter Try.func32, Try.ntmps32
        go_wp2_with (first | ((with_reducible refine gate_callee (f := 44) rfl ?_); refine goesL_ (some 21) rfl rfl Try.func44 (by kernel_rfl) rfl #[.int .u64 ji4, .int .u64 18446744073709551615, .bool true] rfl (by (try simp only [List.map_toArray, List.map_cons, List.map_nil]); first | done | (simp only [hji4]; rfl) | rfl | (simp only [List.length_drop, List.length_take]; rfl)) ?_; (with_reducible refine (word_held_uint64.calls ji4 18446744073709551615 true t104 _ A7.out).mono ?_); rintro e w' ⟨rfl, ⟨nd, rfl⟩⟩; refine ⟨_, rfl, ?_⟩) | (go_at_call 44; (with_reducible refine (word_held_uint64.calls ji4 18446744073709551615 true t104 _ A7.out).mono ?_); rintro e w' ⟨rfl, ⟨nd, rfl⟩⟩))
        go_ret
        exact ⟨by first | rfl | (simp; done) | (simp only [← hji4] <;> (first | rfl | simp)) | (simp [*]; done), by repeat (first | exact Drawn0.refl _ | apply Drawn0.step)⟩
      · rw [if_neg c6] at H
        have c6b0 : decide (64 ≤ a1) = false := decide_eq_false c6
        clear c6
        obtain ⟨ji8, hji8⟩ : ∃ j_ : Int, (IntKind.u64.wrap (64 - a1)) = j_ := ⟨_, rfl⟩
        replace H : (if 0 ≤ (ji8) then ((word_held_uint64.f (ji4) 18446744073709551615 (decide ((shr .u64 a0 (ji8)) > 0))).bind fun t105 => (some t105)) else (none)) = some r := by first | (rw [hji8] at H; exact H) | (simp only [hji8] at H ⊢; exact H)
        by_cases c9 : 0 ≤ (ji8)
        · rw [if_pos c9] at H
          have c9b0 := eq_true c9
          have c9b1 : decide (0 ≤ (ji8)) = true := decide_eq_true c9
          clear c9
          obtain ⟨ji10, hji10⟩ : ∃ j_ : Int, (shr .u64 a0 (ji8)) = j_ := ⟨_, rfl⟩
          replace H : ((word_held_uint64.f (ji4) 18446744073709551615 (decide ((ji10) > 0))).bind fun t105 => (some t105)) = some r := by first | (rw [hji10] at H; exact H) | (simp only [hji10] at H ⊢; exact H)
          have hji10_ : (a0 / 2 ^ min (ji8).toNat 64) = ji10 := hji10
          have hji10z : (ji8) ≤ 64 → (a0 / 2 ^ (ji8).toNat) = ji10 := shr_small hji10
          replace H := Option.bind_eq_some_iff.mp H
          obtain ⟨t105, A110, H⟩ := H
          replace H : (some t105) = some r := H
          have A11 := Aside0.mk A110
          clear A110
          obtain rfl := Option.some.inj H
          go_enter Try.func32, Try.ntmps32
          go_wp2_with (first | ((with_reducible refine gate_callee (f := 44) rfl ?_); refine goesL_ (some 21) rfl rfl Try.func44 (by kernel_rfl) rfl #[.int .u64 ji4, .int .u64 18446744073709551615, .bool (decide ((ji10) > 0))] rfl (by (try simp only [List.map_toArray, List.map_cons, List.map_nil]); first | done | (simp only [hji10, hji4]; rfl) | rfl | (simp only [List.length_drop, List.length_take]; rfl)) ?_; (with_reducible refine (word_held_uint64.calls ji4 18446744073709551615 (decide ((ji10) > 0)) t105 _ A11.out).mono ?_); rintro e w' ⟨rfl, ⟨nd, rfl⟩⟩; refine ⟨_, rfl, ?_⟩) | (go_at_call 44; (with_reducible refine (word_held_uint64.calls ji4 18446744073709551615 (decide ((ji10) > 0)) t105 _ A11.out).mono ?_); rintro e w' ⟨rfl, ⟨nd, rfl⟩⟩))
          go_ret
          exact ⟨by first | rfl | (simp; done) | (simp only [← hji4, ← hji8, ← hji10] <;> (first | rfl | simp)) | (simp [*]; done), by repeat (first | exact Drawn0.refl _ | apply Drawn0.step)⟩
        · rw [if_neg c9] at H
          exact absurd H (by simp)
    · rw [if_neg c5] at H
      have c5b0 : decide (0 < a0) = false := decide_eq_false c5
      clear c5
      replace H := Option.bind_eq_some_iff.mp H
      obtain ⟨t106, A120, H⟩ := H
      replace H : (some t106) = some r := H
      have A12 := Aside0.mk A120
      clear A120
      obtain rfl := Option.some.inj H
      go_enter Try.func32, Try.ntmps32
      go_wp2_with (first | ((with_reducible refine gate_callee (f := 44) rfl ?_); refine goesL_ (some 21) rfl rfl Try.func44 (by kernel_rfl) rfl #[.int .u64 ji4, .int .u64 18446744073709551615, .bool false] rfl (by (try simp only [List.map_toArray, List.map_cons, List.map_nil]); first | done | (simp only [hji4]; rfl) | rfl | (simp only [List.length_drop, List.length_take]; rfl)) ?_; (with_reducible refine (word_held_uint64.calls ji4 18446744073709551615 false t106 _ A12.out).mono ?_); rintro e w' ⟨rfl, ⟨nd, rfl⟩⟩; refine ⟨_, rfl, ?_⟩) | (go_at_call 44; (with_reducible refine (word_held_uint64.calls ji4 18446744073709551615 false t106 _ A12.out).mono ?_); rintro e w' ⟨rfl, ⟨nd, rfl⟩⟩))
      go_ret
      exact ⟨by first | rfl | (simp; done) | (simp only [← hji4] <;> (first | rfl | simp)) | (simp [*]; done), by repeat (first | exact Drawn0.refl _ | apply Drawn0.step)⟩
  · rw [if_neg c3] at H
    exact absurd H (by simp)

/-! ### bits_Mul64: function 57 -/
/-- A number of 64 bits. -/
def bits_Mul64.ok (a0 a1 : Int) : Prop := (0 ≤ a0 ∧ a0 < 18446744073709551616) ∧ (0 ≤ a1 ∧ a1 < 18446744073709551616)
instance bits_Mul64.dec (a0 a1 : Int) : Decidable (bits_Mul64.ok a0 a1) := by unfold bits_Mul64.ok; infer_instance
def bits_Mul64.f (a0 a1 : Int) : Option (Int × Int) := if bits_Mul64.ok a0 a1 then some (a0 * a1 / 18446744073709551616, a0 * a1 % 18446744073709551616) else none
set_option maxHeartbeats 1000000 in
theorem bits_Mul64.walk (x y : Nat) (hx : x < 18446744073709551616) (hy : y < 18446744073709551616) (w : World) :
    Calls Try.prog 57 #[.int .u64 x, .int .u64 y] w fun e w' => e = .returned (.tuple #[.int .u64 ((x * y / 18446744073709551616 : Nat) : Int), .int .u64 ((x * y % 18446744073709551616 : Nat) : Int)]) ∧ w' = w := by
  obtain ⟨bd, bt, bw, hhi⟩ := Lib.mul64_hi x y hx hy
  have ba := Lib.half_mul_le (a := x / 4294967296) (b := y / 4294967296) (by omega) (by omega)
  have bb := Lib.half_mul_le (a := x / 4294967296) (b := y % 4294967296) (by omega) (by omega)
  have bc := Lib.half_mul_le (a := x % 4294967296) (b := y / 4294967296) (by omega) (by omega)
  have ba' : x / 4294967296 * (y / 4294967296) < 18446744073709551616 := by omega
  have bb' : x / 4294967296 * (y % 4294967296) < 18446744073709551616 := by omega
  have bc' : x % 4294967296 * (y / 4294967296) < 18446744073709551616 := by omega
  have bh1 : x / 4294967296 * (y / 4294967296) + (x / 4294967296 * (y % 4294967296) + x % 4294967296 * (y % 4294967296) / 4294967296) / 4294967296 < 18446744073709551616 := by omega
  have bh : x / 4294967296 * (y / 4294967296) + (x / 4294967296 * (y % 4294967296) + x % 4294967296 * (y % 4294967296) / 4294967296) / 4294967296 + ((x / 4294967296 * (y % 4294967296) + x % 4294967296 * (y % 4294967296) / 4294967296) % 4294967296 + x % 4294967296 * (y / 4294967296)) / 4294967296 < 18446744073709551616 := by omega
  go_enter Try.func57, Try.ntmps57
  go_wp2
  simp only [Mul64.maskN x hx, Mul64.maskN y hy, Mul64.divN, Mul64.mulN, Mul64.addN, Mul64.wrapN _ bd, Mul64.wrapN _ bb', Mul64.wrapN _ bt, Mul64.maskN _ bt, Mul64.wrapN _ bc', Mul64.wrapN _ bw, Mul64.wrapN _ ba', Mul64.wrapN _ bh1, Mul64.wrapN _ bh, Mul64.wrapM (x * y)]
  rw [hhi]
  go_ret2
  exact ⟨rfl, rfl⟩
theorem bits_Mul64.calls (a0 : Int) (a1 : Int) (r1 : Int) (r2 : Int) (w : World) (h : bits_Mul64.f a0 a1 = some (r1, r2)) :
    Calls Try.prog 57 #[.int .u64 a0, .int .u64 a1] w fun e w' => e = .returned (.tuple #[.int .u64 r1, .int .u64 r2]) ∧ Drawn0 w w' := by
  unfold bits_Mul64.f at h
  by_cases hk : bits_Mul64.ok a0 a1
  · rw [if_pos hk] at h
    simp only [Option.some.injEq, Prod.mk.injEq] at h
    obtain ⟨rfl, rfl⟩ := h
    obtain ⟨⟨hx0, hx⟩, ⟨hy0, hy⟩⟩ := hk
    obtain ⟨x, rfl⟩ := Int.eq_ofNat_of_zero_le hx0
    obtain ⟨y, rfl⟩ := Int.eq_ofNat_of_zero_le hy0
    refine (bits_Mul64.walk x y (by omega) (by omega) w).mono ?_
    rintro e w' ⟨rfl, rfl⟩
    exact ⟨by simp, Drawn0.refl _⟩
  · rw [if_neg hk] at h
    cases h

/-! ### wide_Mul: function 50 -/
def wide_Mul.f (a0 : Int) (a1 : Int) : Option (Int × Int) := (bits_Mul64.f a0 a1).bind fun bt108 => (some (bt108.1, bt108.2))
set_option maxHeartbeats 8000000 in
set_option maxRecDepth 100000 in
theorem wide_Mul.calls (a0 : Int) (a1 : Int) (r1 : Int) (r2 : Int) (w : World) (h : wide_Mul.f a0 a1 = some (r1, r2)) :
    Calls Try.prog 50 #[.int .u64 a0, .int .u64 a1] w fun e w' => e = .returned (.agg #[.int .u64 r1, .int .u64 r2]) ∧ Below w.heap.size w w' := by
  have hu60 := Try.underlying60
  have HB := Aside0.mk (Below.refl w.heap.size w)
  have H : ((bits_Mul64.f a0 a1).bind fun bt108 => (some (bt108.1, bt108.2))) = some (r1, r2) := h
  clear h
  replace H := Option.bind_eq_some_iff.mp H
  obtain ⟨⟨t108, t109⟩, A30, H⟩ := H
  replace H : (some (t108, t109)) = some (r1, r2) := H
  have A3 := Aside0.mk A30
  clear A30
  simp only [Option.some.injEq, Prod.mk.injEq] at H
  obtain ⟨rfl, rfl⟩ := H
  go_enter Try.func50, Try.ntmps50
  go_wp2_with (first | ((with_reducible refine gate_dst (N := 4) rfl ?_); refine box_event ?hg (N := 4) ?hd (cs := #[.int .u64 0, .int .u64 0]) (t := 60) ?hr ?_; (case hd => rfl); (case hg => rfl); (case hr => first | (go_simp; done) | (go_simp; rfl)); intro gb107 hg w4 hbox hb; have n0_ := Aside0.mk (below_step (by repeat (first | (with_reducible first | exact HB.out | apply below_alloc | apply pw_below_drewN | apply below_drew1) | exact HB.out)) hb); have n1_ := Aside0.mk (hbox); have n2_ := Aside0.mk ((by rw [hg]; exact (below_size (by repeat (first | (with_reducible first | exact HB.out | apply below_alloc | apply pw_below_drewN | apply below_drew1) | exact HB.out))) : w.heap.size ≤ gb107)); have n3_ := Aside0.mk ((by rw [hg]; exact (below_size (by repeat (first | (with_reducible first | exact HB.out | apply below_alloc | apply pw_below_drewN | apply below_drew1) | exact HB.out))) : w.heap.size ≤ gb107)); clear HB; have HB := n0_; have BK107 := n1_; have GW107 := n2_; have GE107 := n3_; clear n0_ n1_ n2_ n3_; clear hb hbox hg) | ((with_reducible refine gate_callee (f := 57) rfl ?_); refine goesL_ (some 8) rfl rfl Try.func57 (by kernel_rfl) rfl #[.int .u64 a0, .int .u64 a1] rfl (by (try simp only [List.map_toArray, List.map_cons, List.map_nil]); first | done | rfl | (simp only [List.length_drop, List.length_take]; rfl)) ?_; (with_reducible refine (bits_Mul64.calls a0 a1 t108 t109 _ A3.out).mono ?_); rintro e w' ⟨rfl, ⟨nd, rfl⟩⟩; refine ⟨_, rfl, ?_⟩; (try (rw [drewN_self w4]; generalize hq_ : World.drewN w4 _ = w4; have n0_ : Aside0 (w4.heap[gb107]? = some (.cells #[.int .u64 0, .int .u64 0] 60 (0, 0))) := ⟨by rw [← hq_]; exact (by (with_reducible repeat (first | refine blk_drewN ?_ _ | refine blk_drew ?_ | refine blk_alloc ?_ _)); exact BK107.out)⟩; have n1_ : Aside0 (Below w.heap.size w w4) := ⟨by rw [← hq_]; exact (by repeat (first | (with_reducible first | exact HB.out | apply below_alloc | apply pw_below_drewN | apply below_drew1 | refine below_set ?_ GE107.out) | exact HB.out))⟩; clear BK107 HB hq_; have BK107 := n0_; have HB := n1_; clear n0_ n1_)); have hcz5_0 : w4.cell? ⟨gb107, 0, none⟩ = some (.int .u64 0) := (blk_cell BK107.out 0).trans rfl; have hcz5_1 : w4.cell? ⟨gb107, 1, none⟩ = some (.int .u64 0) := (blk_cell BK107.out 1).trans rfl; have hfz5_0 := blk_frozen BK107.out 0; have hfz5_1 := blk_frozen BK107.out 1) | (go_at_call 57; (with_reducible refine (bits_Mul64.calls a0 a1 t108 t109 _ A3.out).mono ?_); rintro e w' ⟨rfl, ⟨nd, rfl⟩⟩; (try (rw [drewN_self w4]; generalize hq_ : World.drewN w4 _ = w4; have n0_ : Aside0 (w4.heap[gb107]? = some (.cells #[.int .u64 0, .int .u64 0] 60 (0, 0))) := ⟨by rw [← hq_]; exact (by (with_reducible repeat (first | refine blk_drewN ?_ _ | refine blk_drew ?_ | refine blk_alloc ?_ _)); exact BK107.out)⟩; have n1_ : Aside0 (Below w.heap.size w w4) := ⟨by rw [← hq_]; exact (by repeat (first | (with_reducible first | exact HB.out | apply below_alloc | apply pw_below_drewN | apply below_drew1 | refine below_set ?_ GE107.out) | exact HB.out))⟩; clear BK107 HB hq_; have BK107 := n0_; have HB := n1_; clear n0_ n1_)); have hcz5_0 : w4.cell? ⟨gb107, 0, none⟩ = some (.int .u64 0) := (blk_cell BK107.out 0).trans rfl; have hcz5_1 : w4.cell? ⟨gb107, 1, none⟩ = some (.int .u64 0) := (blk_cell BK107.out 1).trans rfl; have hfz5_0 := blk_frozen BK107.out 0; have hfz5_1 := blk_frozen BK107.out 1))
  refine bodyPost_ret (results_cell_row rfl _ _ gb107 60 #[.int .u64 t108, .int .u64 t109] (0, 0) _ rfl (by (with_reducible repeat (first | refine blk_drewN ?_ _ | refine blk_drew ?_ | refine blk_alloc ?_ _)); refine blk_put (cs := #[.int .u64 t108, .int .u64 t109]) ?_ 1 _ rfl; (with_reducible repeat (first | refine blk_drewN ?_ _ | refine blk_drew ?_ | refine blk_alloc ?_ _)); refine blk_put (cs := #[.int .u64 t108, .int .u64 t109]) ?_ 0 _ rfl; (with_reducible repeat (first | refine blk_drewN ?_ _ | refine blk_drew ?_ | refine blk_alloc ?_ _)); refine blk_put (cs := #[.int .u64 t108, .int .u64 0]) ?_ 1 _ rfl; (with_reducible repeat (first | refine blk_drewN ?_ _ | refine blk_drew ?_ | refine blk_alloc ?_ _)); refine blk_put (cs := #[.int .u64 0, .int .u64 0]) ?_ 0 _ rfl; (with_reducible repeat (first | refine blk_drewN ?_ _ | refine blk_drew ?_ | refine blk_alloc ?_ _)); exact BK107.out) Try.underlying60 rfl (by kernel_rfl)) rfl ?_
  exact ⟨by first | rfl | (simp [errW_none, errW_some] <;> rfl) | (simp [*, errW_none, errW_some] <;> rfl), by repeat (first | (with_reducible first | exact HB.out | apply below_alloc | apply pw_below_drewN | apply below_drew1 | refine below_set ?_ GE107.out) | exact HB.out)⟩

/-! ### ratio_Floor_1: function 53 -/
def ratio_Floor_1.f (a0 : Int) : Option (Bool) := some false
set_option maxHeartbeats 8000000 in
set_option maxRecDepth 100000 in
theorem ratio_Floor_1.calls (a0 : Int) (r : Bool) (w : World) (h : ratio_Floor_1.f a0 = some r) :
    Calls Try.prog 53 #[.int .u64 a0] w fun e w' => e = .returned (.bool r) ∧ Drawn0 w w' := by
  have H : (some false) = some r := h
  clear h
  obtain rfl := Option.some.inj H
  go_enter Try.func53, Try.ntmps53
  go_wp2
  go_ret
  exact ⟨by first | rfl | (simp; done) | (simp [*]; done), by repeat (first | exact Drawn0.refl _ | apply Drawn0.step)⟩

/-! ### bits_Len64: function 26 -/
def bits_Len64.ren : Go.Shelf.Ren := ⟨fun | 129 => 26 | n => n, fun | 53 => 22 | 3 => 3 | 4 => 4 | 46 => 36 | 5 => 5 | 9 => 9 | n => n, fun | n => n⟩
theorem bits_Len64.lays : Go.Proofs.Lays.n129 Try.prog bits_Len64.ren := {
  mixed := by kernel_rfl
  f129 := Try.func26.trans (congrArg some (by kernel_rfl))
  t3 := Try.underlying3
  a3 := Try.isAgg3
  z3 := Try.sizeOf3
  v3 := Try.zeroValue3
  t4 := Try.underlying4
  a4 := Try.isAgg4
  z4 := Try.sizeOf4
  v4 := Try.zeroValue4
  t5 := Try.underlying5
  a5 := Try.isAgg5
  z5 := Try.sizeOf5
  v5 := Try.zeroValue5
  t9 := Try.underlying9
  a9 := Try.isAgg9
  z9 := Try.sizeOf9
  v9 := Try.zeroValue9
  t46 := Try.underlying36
  a46 := Try.isAgg36
  z46 := Try.sizeOf36
  v46 := Try.zeroValue36
  t53 := Try.underlying22
  a53 := Try.isAgg22
  z53 := Try.sizeOf22
  v53 := Try.zeroValue22 }
def bits_Len64.f (a0 : Int) : Option (Int) := if 0 ≤ a0 then (if a0 ≤ 18446744073709551615 then some (Lib.bitLen a0.toNat : Int) else none) else none
theorem bits_Len64.calls (a0 : Int) (r : Int) (w : World) (h : bits_Len64.f a0 = some r) :
    Calls Try.prog 26 #[.int .u64 a0] w fun e w' => e = .returned (.int .i64 r) ∧ Drawn0 w w' := by
  unfold bits_Len64.f at h
  by_cases h0 : 0 ≤ a0
  · by_cases h1 : a0 ≤ 18446744073709551615
    · rw [if_pos h0, if_pos h1] at h
      obtain rfl := Option.some.inj h
      refine (Any.bits_Len64 bits_Len64.lays a0 w h0 h1).mono ?_
      rintro e w' ⟨rfl, rfl⟩
      exact ⟨rfl, Drawn0.refl _⟩
    · rw [if_pos h0, if_neg h1] at h; cases h
  · rw [if_neg h0] at h; cases h

/-! ### bits_LeadingZeros64: function 66 -/
def bits_LeadingZeros64.f (a0 : Int) : Option (Int) := (bits_Len64.f a0).bind fun t110 => (some (wrap64 (64 - t110)))
set_option maxHeartbeats 8000000 in
set_option maxRecDepth 100000 in
theorem bits_LeadingZeros64.calls (a0 : Int) (r : Int) (w : World) (h : bits_LeadingZeros64.f a0 = some r) :
    Calls Try.prog 66 #[.int .u64 a0] w fun e w' => e = .returned (.int .i64 r) ∧ Drawn0 w w' := by
  have H : ((bits_Len64.f a0).bind fun t110 => (some (wrap64 (64 - t110)))) = some r := h
  clear h
  replace H := Option.bind_eq_some_iff.mp H
  obtain ⟨t110, A20, H⟩ := H
  replace H : (some (wrap64 (64 - t110))) = some r := H
  have A2 := Aside0.mk A20
  clear A20
  obtain rfl := Option.some.inj H
  go_enter Try.func66, Try.ntmps66
  go_wp2_with (first | ((with_reducible refine gate_callee (f := 26) rfl ?_); refine goesL_ (some 4) rfl rfl Try.func26 (by kernel_rfl) rfl #[.int .u64 a0] rfl (by (try simp only [List.map_toArray, List.map_cons, List.map_nil]); first | done | rfl | (simp only [List.length_drop, List.length_take]; rfl)) ?_; (with_reducible refine (bits_Len64.calls a0 t110 _ A2.out).mono ?_); rintro e w' ⟨rfl, ⟨nd, rfl⟩⟩; refine ⟨_, rfl, ?_⟩) | (go_at_call 26; (with_reducible refine (bits_Len64.calls a0 t110 _ A2.out).mono ?_); rintro e w' ⟨rfl, ⟨nd, rfl⟩⟩))
  go_ret
  exact ⟨by first | rfl | (simp; done) | (simp [*]; done), by repeat (first | exact Drawn0.refl _ | apply Drawn0.step)⟩

end Go.Proofs.Ytiokopkglmaffaa.Print
