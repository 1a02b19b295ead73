/- Lean functions that answer what Go functions of the translation answer, and the proofs of it. Written by a program of this session (wip/tools/seatprint.py), over contracts that it proved by hand. Conditions: those that each theorem says. -/
import Derived.Test.YthpkiacaemhkkaaDoorPrint0
import Derived.Test.YthpkiacaemhkkaaDoorPrint1
import Derived.Test.YthpkiacaemhkkaaDoorPrint3
namespace Go.Proofs.YthpkiacaemhkkaaDoor.Print
open Go.RowKit Go.Proofs.YthpkiacaemhkkaaDoorW.PrintWords Go.Proofs.YthpkiacaemhkkaaDoorW.PrintLast Go.Proofs.YthpkiacaemhkkaaDoorW.PrintMore
attribute [local go_sem] max2_int min2_int max_two min_two max_three min_three max_four min_four   -- for this text's walks alone
set_option linter.unusedVariables false
set_option linter.unusedSimpArgs false

/-! ### linhayref02_Mul: function 21 -/
theorem linhayref02_Mul.sum (a b x0 x1 y0 y1 c0 r0 c1 r1 c2 r2 c3 r3 : Int) (ha : a = x1 * 4294967296 + x0) (hb : b = y1 * 4294967296 + y0)
    (m0 : x0 * y0 = 4294967296 * c0 + r0 ∧ 0 ≤ r0 ∧ r0 < 4294967296) (m1 : x0 * y1 + c0 = 4294967296 * c1 + r1 ∧ 0 ≤ r1 ∧ r1 < 4294967296)
    (m2 : x1 * y0 + r1 = 4294967296 * c2 + r2 ∧ 0 ≤ r2 ∧ r2 < 4294967296) (m3 : x1 * y1 + c1 + c2 = 4294967296 * c3 + r3 ∧ 0 ≤ r3 ∧ r3 < 4294967296) :
    c3 * 4294967296 + r3 = a * b / 18446744073709551616 ∧ r2 * 4294967296 + r0 = a * b % 18446744073709551616 := by
  have e : a * b = x1 * y1 * 18446744073709551616 + (x1 * y0 + x0 * y1) * 4294967296 + x0 * y0 := by rw [ha, hb]; grind
  have e2 : a * b = 18446744073709551616 * (c3 * 4294967296 + r3) + (r2 * 4294967296 + r0) := by
    rw [e]
    generalize x0 * y0 = p at *
    generalize x0 * y1 = q at *
    generalize x1 * y0 = r at *
    generalize x1 * y1 = s at *
    omega
  rw [e2]
  omega
theorem linhayref02_Mul.fin {A A' B B' : Int} (h1 : A = A') (h2 : B = B') : Ending.returned (.agg #[.int .u64 A, .int .u64 B]) = Ending.returned (.agg #[.int .u64 A', .int .u64 B']) := by rw [h1, h2]
theorem rounds_abs {P : Program} {c : Code} {Q : Exit → Act → World → Prop} {n : Nat} {a : Act} {W : World} (F : World → Prop) (hF : F W) (h : ∀ W', F W' → Code.rounds P c Q n a W') : Code.rounds P c Q n a W := h W hF
theorem half_mul {a b : Int} (ha : 0 ≤ a) (hb : 0 ≤ b) (ha' : a < 4294967296) (hb' : b < 4294967296) : 0 ≤ a * b ∧ a * b ≤ 18446744065119617025 := by
  refine ⟨Int.mul_nonneg ha hb, ?_⟩
  have h1 : a * b ≤ 4294967295 * b := Int.mul_le_mul_of_nonneg_right (by omega) hb
  omega
set_option maxHeartbeats 1000000 in
set_option maxRecDepth 100000 in
theorem linhayref02_Mul.walk (a b : Int) (w : World) (ha : 0 ≤ a) (hb : 0 ≤ b) (ha' : a < 18446744073709551616) (hb' : b < 18446744073709551616) :
    Calls Tryd.prog 21 #[.int .u64 a, .int .u64 b] w fun e w' => e = .returned (.agg #[.int .u64 (a * b / 18446744073709551616), .int .u64 (a * b % 18446744073709551616)]) ∧ Below w.heap.size w w' := by
  obtain ⟨x0, e0⟩ : ∃ x, x = a % 4294967296 := ⟨_, rfl⟩
  obtain ⟨x1, e1⟩ : ∃ x, x = a / 4294967296 := ⟨_, rfl⟩
  obtain ⟨y0, f0⟩ : ∃ x, x = b % 4294967296 := ⟨_, rfl⟩
  obtain ⟨y1, f1⟩ : ∃ x, x = b / 4294967296 := ⟨_, rfl⟩
  have A0 : 0 ≤ x0 ∧ x0 < 4294967296 := by omega
  have A1 : 0 ≤ x1 ∧ x1 < 4294967296 := by omega
  have B0 : 0 ≤ y0 ∧ y0 < 4294967296 := by omega
  have B1 : 0 ≤ y1 ∧ y1 < 4294967296 := by omega
  have P00 := half_mul A0.1 B0.1 A0.2 B0.2
  have P01 := half_mul A0.1 B1.1 A0.2 B1.2
  have P10 := half_mul A1.1 B0.1 A1.2 B0.2
  have P11 := half_mul A1.1 B1.1 A1.2 B1.2
  have HB := Aside0.mk (Below.refl w.heap.size w)
  obtain ⟨A0, A0'⟩ := A0
  obtain ⟨A1, A1'⟩ := A1
  obtain ⟨B0, B0'⟩ := B0
  obtain ⟨B1, B1'⟩ := B1
  obtain ⟨P00, P00'⟩ := P00
  obtain ⟨P01, P01'⟩ := P01
  obtain ⟨P10, P10'⟩ := P10
  obtain ⟨P11, P11'⟩ := P11
  obtain ⟨c0, k0⟩ : ∃ x, x0 * y0 / 4294967296 = x := ⟨_, rfl⟩
  obtain ⟨r0, l0⟩ : ∃ x, x0 * y0 % 4294967296 = x := ⟨_, rfl⟩
  have m0 : x0 * y0 = 4294967296 * c0 + r0 ∧ 0 ≤ r0 ∧ r0 < 4294967296 := by omega
  have q0 : 0 ≤ c0 ∧ c0 < 4294967296 := by omega
  obtain ⟨c1, k1⟩ : ∃ x, (x0 * y1 + c0) / 4294967296 = x := ⟨_, rfl⟩
  obtain ⟨r1, l1⟩ : ∃ x, (x0 * y1 + c0) % 4294967296 = x := ⟨_, rfl⟩
  have m1 : x0 * y1 + c0 = 4294967296 * c1 + r1 ∧ 0 ≤ r1 ∧ r1 < 4294967296 := by omega
  have q1 : 0 ≤ c1 ∧ c1 < 4294967296 := by omega
  obtain ⟨c2, k2⟩ : ∃ x, (x1 * y0 + r1) / 4294967296 = x := ⟨_, rfl⟩
  obtain ⟨r2, l2⟩ : ∃ x, (x1 * y0 + r1) % 4294967296 = x := ⟨_, rfl⟩
  have m2 : x1 * y0 + r1 = 4294967296 * c2 + r2 ∧ 0 ≤ r2 ∧ r2 < 4294967296 := by omega
  have q2 : 0 ≤ c2 ∧ c2 < 4294967296 := by omega
  obtain ⟨c3, k3⟩ : ∃ x, (x1 * y1 + c1 + c2) / 4294967296 = x := ⟨_, rfl⟩
  obtain ⟨r3, l3⟩ : ∃ x, (x1 * y1 + c1 + c2) % 4294967296 = x := ⟨_, rfl⟩
  have m3 : x1 * y1 + c1 + c2 = 4294967296 * c3 + r3 ∧ 0 ≤ r3 ∧ r3 < 4294967296 := by omega
  have q3 : 0 ≤ c3 ∧ c3 < 4294967296 := by omega
  obtain ⟨S2, S3⟩ := linhayref02_Mul.sum a b x0 x1 y0 y1 c0 r0 c1 r1 c2 r2 c3 r3 (by omega) (by omega) m0 m1 m2 m3
  have X2 := Lib.hid S2
  have X3 := Lib.hid S3
  clear S2 S3
  have o0 := m0.2.1
  have o0' := m0.2.2
  have o1 := m1.2.1
  have o1' := m1.2.2
  have o2 := m2.2.1
  have o2' := m2.2.2
  have o3 := m3.2.1
  have o3' := m3.2.2
  clear m0 m1 m2 m3
  obtain ⟨q0, q0'⟩ := q0
  obtain ⟨q1, q1'⟩ := q1
  obtain ⟨q2, q2'⟩ := q2
  obtain ⟨q3, q3'⟩ := q3
  have g0 : a % 4294967296 = x0 := e0.symm
  have g1 : a / 4294967296 = x1 := e1.symm
  have g2 : b % 4294967296 = y0 := f0.symm
  have g3 : b / 4294967296 = y1 := f1.symm
  clear e0 e1 f0 f1
  go_enter Tryd.func21, Tryd.ntmps21
  go_wp2_with fail
  refine wp_loop_rounds 3 ?_
  rw [rounds_succ]
  go_wp2_with fail
  refine wp_loop_rounds 3 ?_
  rw [rounds_succ]
  go_wp2_with fail
  go_quiet (fail)
  go_wp2_with fail
  rw [rounds_succ]
  go_wp2_with fail
  go_quiet (fail)
  go_wp2_with fail
  rw [rounds_succ]
  go_wp2_with fail
  rw [rounds_succ]
  go_wp2_with fail
  refine wp_loop_rounds 3 ?_
  rw [rounds_succ]
  go_wp2_with fail
  go_quiet (fail)
  go_wp2_with fail
  rw [rounds_succ]
  go_wp2_with fail
  go_quiet (fail)
  go_wp2_with fail
  rw [rounds_succ]
  go_wp2_with fail
  refine rounds_abs (fun W' => W'.heap[w.heap.size + 1]? = some (.cells #[.int .u64 r0, .int .u64 r2, .int .u64 r3, .int .u64 c3] 48 (0, 0)) ∧ W'.heap[w.heap.size]? = some (.cells #[.int .u64 0, .int .u64 0] 39 (0, 0)) ∧ Below w.heap.size w W') ⟨?_, ?_, ?_⟩ ?_
  · refine blk_put (cs := #[.int .u64 r0, .int .u64 r2, .int .u64 r3, .int .u64 0]) ?_ 3 _ rfl
    refine blk_put (cs := #[.int .u64 r0, .int .u64 r2, .int .u64 c1, .int .u64 0]) ?_ 2 _ rfl
    refine blk_drewN ?_ _
    refine blk_put (cs := #[.int .u64 r0, .int .u64 r1, .int .u64 c1, .int .u64 0]) ?_ 1 _ rfl
    refine blk_drewN ?_ _
    refine blk_put (cs := #[.int .u64 r0, .int .u64 r1, .int .u64 0, .int .u64 0]) ?_ 2 _ rfl
    refine blk_put (cs := #[.int .u64 r0, .int .u64 0, .int .u64 0, .int .u64 0]) ?_ 1 _ rfl
    refine blk_drewN ?_ _
    refine blk_put (cs := #[.int .u64 0, .int .u64 0, .int .u64 0, .int .u64 0]) ?_ 0 _ rfl
    refine blk_drewN ?_ _
    refine blk_alloc ?_ _
    refine blk_alloc ?_ _
    simpa using heap_alloc_new (w.alloc (.cells #[.int .u64 0, .int .u64 0] 39)) _
  · repeat (with_reducible first | refine blk_drewN ?_ _ | exact heap_alloc_new _ _ | refine blk_alloc ?_ _ | refine blk_far ?_ ?_ _)
    all_goals first | (simp; done) | omega
  · repeat (with_reducible first | exact HB.out | apply below_alloc | apply pw_below_drewN | apply below_drew1 | refine below_set ?_ ?_)
    all_goals (first | omega | (simp; done) | (simp; omega))
  rintro W' ⟨hm, hr, hbW⟩
  have t0 : W'.cell? ⟨w.heap.size + 1, 0, none⟩ = some (.int .u64 r0) := (blk_cell hm 0).trans rfl
  have t1 : W'.cell? ⟨w.heap.size + 1, 1, none⟩ = some (.int .u64 r2) := (blk_cell hm 1).trans rfl
  have t2 : W'.cell? ⟨w.heap.size + 1, 2, none⟩ = some (.int .u64 r3) := (blk_cell hm 2).trans rfl
  have t3 : W'.cell? ⟨w.heap.size + 1, 3, none⟩ = some (.int .u64 c3) := (blk_cell hm 3).trans rfl
  have hlt : w.heap.size + 1 < W'.heap.size := blk_lt hm
  have u0 : W'.cell? ⟨w.heap.size, 0, none⟩ = some (.int .u64 0) := (blk_cell hr 0).trans rfl
  have u1 : W'.cell? ⟨w.heap.size, 1, none⟩ = some (.int .u64 0) := (blk_cell hr 1).trans rfl
  have v0 := blk_frozen hr 0
  have v1 := blk_frozen hr 1
  have hlt0 : w.heap.size < W'.heap.size := blk_lt hr
  clear hm hr HB
  have HB := Aside0.mk hbW
  clear hbW
  rw [rounds_succ]
  go_wp2_with (go_at_call 28; (refine (linhayref02_whole.walk r0 r2 r3 c3 _ o0 o2 o3 q3 o0' o2' o3' q3').mono ?_); rintro e w' ⟨rfl, rfl⟩)
  refine bodyPost_ret (v := .agg #[.int .u64 (c3 * 4294967296 + r3), .int .u64 (r2 * 4294967296 + r0)]) (by simp [results, Tryd.results21, go_sem, u0, u1, hlt0]) rfl ⟨linhayref02_Mul.fin X2.out X3.out, ?_⟩
  repeat (with_reducible first | exact HB.out | apply below_alloc | apply pw_below_drewN | apply below_drew1 | refine below_set ?_ ?_)
  all_goals (first | omega | (simp; done) | (simp; omega))
def linhayref02_Mul.ok (a0 a1 : Int) : Prop := (0 ≤ a0 ∧ a0 < 18446744073709551616) ∧ (0 ≤ a1 ∧ a1 < 18446744073709551616)
instance linhayref02_Mul.dec (a0 a1 : Int) : Decidable (linhayref02_Mul.ok a0 a1) := by unfold linhayref02_Mul.ok; infer_instance
def linhayref02_Mul.f (a0 : Int) (a1 : Int) : Option (Int × Int) := if linhayref02_Mul.ok a0 a1 then some (a0 * a1 / 18446744073709551616, a0 * a1 % 18446744073709551616) else none
theorem linhayref02_Mul.calls (a0 : Int) (a1 : Int) (r1 : Int) (r2 : Int) (w : World) (h : linhayref02_Mul.f a0 a1 = some (r1, r2)) :
    Calls Tryd.prog 21 #[.int .u64 a0, .int .u64 a1] w fun e w' => e = .returned (.agg #[.int .u64 r1, .int .u64 r2]) ∧ Below w.heap.size w w' := by
  unfold linhayref02_Mul.f at h
  by_cases hk : linhayref02_Mul.ok a0 a1
  · rw [if_pos hk] at h
    simp only [Option.some.injEq, Prod.mk.injEq] at h
    obtain ⟨rfl, rfl⟩ := h
    obtain ⟨⟨b1, b2⟩, ⟨b3, b4⟩⟩ := hk
    exact linhayref02_Mul.walk a0 a1 w b1 b3 b2 b4
  · rw [if_neg hk] at h
    cases h

/-! ### linhayref05_power: function 22 -/
theorem setCells_heap_size (b : Nat) : ∀ (vs : List Value) (o : Nat) (w : World), (w.setCells b o vs).heap.size = w.heap.size
  | [], _, _ => rfl
  | v :: vs, o, w => by show ((w.setCell ⟨b, o, none⟩ v).setCells b (o + 1) vs).heap.size = _; rw [setCells_heap_size b vs]; simp [World.setCell]
theorem below_cells {B b : Nat} {a : World} (hb : B ≤ b) : ∀ (vs : List Value) (o : Nat) (w : World), Below B a w → Below B a (w.setCells b o vs)
  | [], _, _, h => h
  | v :: vs, o, w, h => by show Below B a ((w.setCell ⟨b, o, none⟩ v).setCells b (o + 1) vs); exact below_cells hb vs _ _ (h.setCell hb v)
theorem wpl_abs {P : Program} {ops : Array Oper} {Q : Exit → Act → World → Prop} {rest : List Oper} {a : Act} {W : World} (F : World → Prop) (hF : F W) (h : ∀ W', F W' → wpList P ops Q rest a W') : wpList P ops Q rest a W := h W hF
theorem power_abs (L : List Int) (hL : L.length = 37) (w : World) (C : Array Value) (t : TypeId) (hC : C.size = 37) (vs : List Value) (hv : vs = L.map (Value.int .u64)) (a0 : Int) (h0 : 0 ≤ a0) (h1 : a0 < 37) :
    ((w.alloc (.cells C t)).setCells w.heap.size 0 vs).cell? ⟨w.heap.size, a0.toNat, none⟩ = some (.int .u64 (rd L a0)) ∧ Below w.heap.size w ((w.alloc (.cells C t)).setCells w.heap.size 0 vs) ∧ w.heap.size < ((w.alloc (.cells C t)).setCells w.heap.size 0 vs).heap.size := by
  have hl : vs.length = 37 := by rw [hv, List.length_map, hL]
  have hc : ∀ j, j < vs.length → ((w.alloc (.cells C t)).cell? ⟨w.heap.size, 0 + j, none⟩).isSome = true := fun j hj => by
    rw [World.cell?_alloc_mark, Array.getElem?_eq_getElem (by omega)]; rfl
  refine ⟨?_, below_cells (Nat.le_refl _) _ _ _ ((Below.refl _ _).alloc (Nat.le_refl _) _), by rw [setCells_heap_size]; simp⟩
  have hk : a0.toNat < vs.length := by omega
  have := World.cell?_setCells_in w.heap.size vs 0 (w.alloc (.cells C t)) hc a0.toNat hk
  rw [Nat.zero_add] at this
  rw [this, ← List.getElem?_eq_getElem hk, hv, List.getElem?_map]
  unfold rd
  rw [List.getD_eq_getElem?_getD, List.getElem?_eq_getElem (by omega)]
  rfl
def linhayref05_power.f (a0 : Int) : Option (Int) := if 0 ≤ a0 then (if a0 < 37 then (some (rd pw a0)) else (none)) else (none)
set_option maxHeartbeats 4000000 in
set_option maxRecDepth 100000 in
theorem linhayref05_power.calls (a0 : Int) (r : Int) (w : World) (h : linhayref05_power.f a0 = some r) :
    Calls Tryd.prog 22 #[.int .i64 a0] w fun e w' => e = .returned (.int .u64 r) ∧ Below w.heap.size w w' := by
  have HB := Aside0.mk (Below.refl w.heap.size w)
  unfold linhayref05_power.f at h
  by_cases c0 : 0 ≤ a0
  case neg => rw [if_neg c0] at h; cases h
  rw [if_pos c0] at h
  by_cases c1 : a0 < 37
  case neg => rw [if_neg c1] at h; cases h
  rw [if_pos c1] at h
  obtain rfl := Option.some.inj h
  clear h
  have d0 : decide (0 ≤ a0) = true := decide_eq_true c0
  have d1 : decide (a0 < 37) = true := decide_eq_true c1
  go_enter Tryd.func22, Tryd.ntmps22
  go_wp2_with ((with_reducible refine wpList_store_mid rfl 42 _ _ rfl w.heap.size 0 _ rfl rfl ?ht (by kernel_rfl) (by kernel_rfl) ?_); (case ht => intro j hj; (have hj' : j < 37 := hj); exact ⟨by rw [World.cell?_alloc_mark, Array.getElem?_eq_getElem (by simpa using hj)]; rfl, by rw [World.frozen?_alloc_mark]; simp⟩); (refine wpl_abs (fun W => W.cell? ⟨w.heap.size, a0.toNat, none⟩ = some (.int .u64 (rd pw a0)) ∧ Below w.heap.size w W ∧ w.heap.size < W.heap.size) (power_abs pw rfl w _ _ rfl _ rfl a0 c0 c1) ?_); rintro W' ⟨hcell, hbel, hlt⟩)
  go_ret
  exact ⟨rfl, hbel⟩

/-! ### linhayref05_Of: function 11 -/
def linhayref05_Of.l0 : Nat → Int → Int → Int → Option (Int)
  | 0, _, _, _ => none
  | k + 1, x0, x3, x4 => if x4 ≥ 0 then ((linhayref05_bit.f k x0 x4).bind fun t146 => (if t146 = 1 then ((linhayref05_power.f x4).bind fun t147 => ((linhayref02_Mul.f x3 t147).bind fun bt148 => ((linhayref02_Shr.f k bt148.1 bt148.2 62).bind fun bt150 => (linhayref05_Of.l0 k x0 bt150.2 (wrap64 (x4 - 1)))))) else (linhayref05_Of.l0 k x0 x3 (wrap64 (x4 - 1))))) else (some (IntKind.u64.wrap (Int.tdiv x3 1073741824)))
def linhayref05_Of.f (k : Nat) (a0 : Int) : Option (Int) := if a0 ≥ 137438953472 then (some 0) else (linhayref05_Of.l0 k a0 4611686018427387904 36)
theorem linhayref05_Of.mono_l : ∀ k, (∀ y0 y1 y2, LeO (linhayref05_Of.l0 k y0 y1 y2) (linhayref05_Of.l0 (k + 1) y0 y1 y2))
  | 0 => fun _ _ _ r h => by simp [linhayref05_Of.l0] at h
  | k + 1 => by
    have ih0 := linhayref05_Of.mono_l k
    · intro y0 y1 y2
      unfold linhayref05_Of.l0
      repeat' first
      | (with_reducible exact ih0 _ _ _)
      | (with_reducible exact linhayref02_Shr.mono _ _ _ _)
      | (with_reducible exact linhayref05_bit.mono _ _ _)
      | (with_reducible exact LeO.refl _)
      | (with_reducible exact LeO.none _)
      | (with_reducible refine LeO.ite ?_ ?_)
      | (with_reducible refine LeO.bind ?_ (fun _ => ?_))
      | exact ih0 _ _ _
      | exact linhayref02_Shr.mono _ _ _ _
      | exact linhayref05_bit.mono _ _ _
      | exact LeO.none _
      | refine LeO.ite ?_ ?_
      | refine LeO.bind ?_ (fun _ => ?_)
theorem linhayref05_Of.mono : ∀ a0 k, LeO (linhayref05_Of.f k a0) (linhayref05_Of.f (k + 1) a0) := by
  intro a0 k
  have ih0 := linhayref05_Of.mono_l k
  unfold linhayref05_Of.f
  repeat' first
      | (with_reducible exact ih0 _ _ _)
      | (with_reducible exact linhayref02_Shr.mono _ _ _ _)
      | (with_reducible exact linhayref05_bit.mono _ _ _)
      | (with_reducible exact LeO.refl _)
      | (with_reducible exact LeO.none _)
      | (with_reducible refine LeO.ite ?_ ?_)
      | (with_reducible refine LeO.bind ?_ (fun _ => ?_))
      | exact ih0 _ _ _
      | exact linhayref02_Shr.mono _ _ _ _
      | exact linhayref05_bit.mono _ _ _
      | exact LeO.none _
      | refine LeO.ite ?_ ?_
      | refine LeO.bind ?_ (fun _ => ?_)
set_option maxHeartbeats 8000000 in
set_option maxRecDepth 100000 in
theorem linhayref05_Of.calls (k : Nat) (a0 : Int) (r : Int) (w : World) (h : linhayref05_Of.f k a0 = some r) :
    Calls Tryd.prog 11 #[.int .u64 a0] w fun e w' => e = .returned (.int .u64 r) ∧ Below w.heap.size w w' := by
  have HB := Aside0.mk (Below.refl w.heap.size w)
  have H : (if a0 ≥ 137438953472 then (some 0) else (linhayref05_Of.l0 k a0 4611686018427387904 36)) = some r := h
  clear h
  by_cases c2 : a0 ≥ 137438953472
  · rw [if_pos c2] at H
    have c2b0 : decide (137438953472 ≤ a0) = true := decide_eq_true c2
    clear c2
    obtain rfl := Option.some.inj H
    have hfld_39_1 : ∀ (c0 c1 : Value) (w : World), (Instr.field 39 (.agg #[c0, c1]) 1).run Tryd.prog w = .ok c1 w := fun _ _ _ => by kernel_rfl
    go_enter Tryd.func11, Tryd.ntmps11
    go_wp2
    go_ret
    exact ⟨by first | rfl | (simp [errW_none, errW_some] <;> rfl) | (simp [*, errW_none, errW_some] <;> rfl), by repeat (first | (with_reducible first | exact HB.out | apply below_alloc | apply pw_below_drewN | apply below_drew1) | exact HB.out)⟩
  · rw [if_neg c2] at H
    have c2b0 : decide (137438953472 ≤ a0) = false := decide_eq_false c2
    clear c2
    have H' := Aside0.mk H
    clear H
    have hfld_39_1 : ∀ (c0 c1 : Value) (w : World), (Instr.field 39 (.agg #[c0, c1]) 1).run Tryd.prog w = .ok c1 w := fun _ _ _ => by kernel_rfl
    go_enter Tryd.func11, Tryd.ntmps11
    go_wp2
    go_loopg [3, 4] k (fun kq v3 v4 w' => ∃ (x3_1 : Int) (x4_1 : Int), v3 = .int .u64 x3_1 ∧ v4 = .int .i64 x4_1 ∧ Aside0 (linhayref05_Of.l0 kq a0 x3_1 x4_1 = some r) ∧ Aside0 (kq ≤ k) ∧ Aside0 (Below w.heap.size w w'))
    case atStart => exact ⟨(4611686018427387904), (36), (by first | rfl | (simp; done) | (simp [*]; done)), (by first | rfl | (simp; done) | (simp [*]; done)), H', ⟨Nat.le_refl _⟩, ⟨by repeat (first | (with_reducible first | exact HB.out | apply below_alloc | apply pw_below_drewN | apply below_drew1) | exact HB.out)⟩⟩
    case round =>
      clear H'
      try clear c1
      try clear c2
      try clear c2b0
      try clear p2
      obtain ⟨x3_1, x4_1, rfl, rfl, HA, HK1, HB⟩ := hrel
      cases gk with
      | zero => exact absurd HA.out (by simp [linhayref05_Of.l0])
      | succ k1 =>
        have H := HA.out
        clear HA
        simp only [linhayref05_Of.l0] at H
        by_cases c3 : x4_1 ≥ 0
        · rw [if_pos c3] at H
          have c3b0 : decide (0 ≤ x4_1) = true := decide_eq_true c3
          clear c3
          replace H := Option.bind_eq_some_iff.mp H
          obtain ⟨t146, A40, H⟩ := H
          replace H : (if t146 = 1 then ((linhayref05_power.f x4_1).bind fun t147 => ((linhayref02_Mul.f x3_1 t147).bind fun bt148 => ((linhayref02_Shr.f k1 bt148.1 bt148.2 62).bind fun bt150 => (linhayref05_Of.l0 k1 a0 bt150.2 (wrap64 (x4_1 - 1)))))) else (linhayref05_Of.l0 k1 a0 x3_1 (wrap64 (x4_1 - 1)))) = some r := H
          have A4 := Aside0.mk A40
          clear A40
          by_cases c5 : t146 = 1
          · rw [if_pos c5] at H
            have c5b0 : (t146 == 1) = true := beq_iff_eq.mpr c5
            have c5b1 : (t146 != 1) = false := bne_eq_false_iff_eq.mpr c5
            clear c5
            replace H := Option.bind_eq_some_iff.mp H
            obtain ⟨t147, A60, H⟩ := H
            replace H : ((linhayref02_Mul.f x3_1 t147).bind fun bt148 => ((linhayref02_Shr.f k1 bt148.1 bt148.2 62).bind fun bt150 => (linhayref05_Of.l0 k1 a0 bt150.2 (wrap64 (x4_1 - 1))))) = some r := H
            have A6 := Aside0.mk A60
            clear A60
            replace H := Option.bind_eq_some_iff.mp H
            obtain ⟨⟨t148, t149⟩, A70, H⟩ := H
            replace H : ((linhayref02_Shr.f k1 t148 t149 62).bind fun bt150 => (linhayref05_Of.l0 k1 a0 bt150.2 (wrap64 (x4_1 - 1)))) = some r := H
            have A7 := Aside0.mk A70
            clear A70
            replace H := Option.bind_eq_some_iff.mp H
            obtain ⟨⟨t150, t151⟩, A80, H⟩ := H
            replace H : (linhayref05_Of.l0 k1 a0 t151 (wrap64 (x4_1 - 1))) = some r := H
            have A8 := Aside0.mk A80
            clear A80
            have H' := Aside0.mk H
            clear H
            go_wp2_with (first | ((with_reducible refine gate_callee (f := 19) rfl ?_); refine goesL_ (some 13) rfl rfl Tryd.func19 (by kernel_rfl) rfl #[.int .u64 a0, .int .i64 x4_1] rfl (by (try simp only [List.map_toArray, List.map_cons, List.map_nil]); first | done | rfl | (simp only [List.length_drop, List.length_take]; rfl)) ?_; (with_reducible refine (linhayref05_bit.calls k1 a0 x4_1 t146 _ A4.out).mono ?_); rintro e w' ⟨rfl, ⟨nd, rfl⟩⟩; refine ⟨_, rfl, ?_⟩) | ((with_reducible refine gate_callee (f := 22) rfl ?_); refine goesL_ (some 17) rfl rfl Tryd.func22 (by kernel_rfl) rfl #[.int .i64 x4_1] rfl (by (try simp only [List.map_toArray, List.map_cons, List.map_nil]); first | done | rfl | (simp only [List.length_drop, List.length_take]; rfl)) ?_; (with_reducible refine (linhayref05_power.calls x4_1 t147 _ A6.out).mono ?_); rintro e w9 ⟨rfl, hb⟩; refine ⟨_, rfl, ?_⟩; have n0_ := Aside0.mk (below_step (by repeat (first | (with_reducible first | exact HB.out | apply below_alloc | apply pw_below_drewN | apply below_drew1) | exact HB.out)) hb); clear HB; have HB := n0_; clear n0_; (try clear hb); (try clear hb2); (try clear hk); (try clear hi)) | ((with_reducible refine gate_callee (f := 21) rfl ?_); refine goesL_ (some 18) rfl rfl Tryd.func21 (by kernel_rfl) rfl #[.int .u64 x3_1, .int .u64 t147] rfl (by (try simp only [List.map_toArray, List.map_cons, List.map_nil]); first | done | rfl | (simp only [List.length_drop, List.length_take]; rfl)) ?_; (with_reducible refine (linhayref02_Mul.calls x3_1 t147 t148 t149 _ A7.out).mono ?_); rintro e w10 ⟨rfl, hb⟩; refine ⟨_, rfl, ?_⟩; have n0_ := Aside0.mk (below_step (by repeat (first | (with_reducible first | exact HB.out | apply below_alloc | apply pw_below_drewN | apply below_drew1) | exact HB.out)) hb); clear HB; have HB := n0_; clear n0_; (try clear hb); (try clear hb2); (try clear hk); (try clear hi)) | ((with_reducible refine gate_callee (f := 20) rfl ?_); refine goesL_ (some 19) rfl rfl Tryd.func20 (by kernel_rfl) rfl #[.agg #[.int .u64 t148, .int .u64 t149], .int .u64 62] rfl (by (try simp only [List.map_toArray, List.map_cons, List.map_nil]); first | done | rfl | (simp only [List.length_drop, List.length_take]; rfl)) ?_; (with_reducible refine (linhayref02_Shr.calls k1 t148 t149 62 t150 t151 _ A8.out).mono ?_); rintro e w11 ⟨rfl, hb⟩; refine ⟨_, rfl, ?_⟩; have n0_ := Aside0.mk (below_step (by repeat (first | (with_reducible first | exact HB.out | apply below_alloc | apply pw_below_drewN | apply below_drew1) | exact HB.out)) hb); clear HB; have HB := n0_; clear n0_; (try clear hb); (try clear hb2); (try clear hk); (try clear hi)) | (go_at_call 19; (with_reducible refine (linhayref05_bit.calls k1 a0 x4_1 t146 _ A4.out).mono ?_); rintro e w' ⟨rfl, ⟨nd, rfl⟩⟩) | (go_at_call 22; (with_reducible refine (linhayref05_power.calls x4_1 t147 _ A6.out).mono ?_); rintro e w9 ⟨rfl, hb⟩; have n0_ := Aside0.mk (below_step (by repeat (first | (with_reducible first | exact HB.out | apply below_alloc | apply pw_below_drewN | apply below_drew1) | exact HB.out)) hb); clear HB; have HB := n0_; clear n0_; (try clear hb); (try clear hb2); (try clear hk); (try clear hi)) | (go_at_call 21; (with_reducible refine (linhayref02_Mul.calls x3_1 t147 t148 t149 _ A7.out).mono ?_); rintro e w10 ⟨rfl, hb⟩; have n0_ := Aside0.mk (below_step (by repeat (first | (with_reducible first | exact HB.out | apply below_alloc | apply pw_below_drewN | apply below_drew1) | exact HB.out)) hb); clear HB; have HB := n0_; clear n0_; (try clear hb); (try clear hb2); (try clear hk); (try clear hi)) | (go_at_call 20; (with_reducible refine (linhayref02_Shr.calls k1 t148 t149 62 t150 t151 _ A8.out).mono ?_); rintro e w11 ⟨rfl, hb⟩; have n0_ := Aside0.mk (below_step (by repeat (first | (with_reducible first | exact HB.out | apply below_alloc | apply pw_below_drewN | apply below_drew1) | exact HB.out)) hb); clear HB; have HB := n0_; clear n0_; (try clear hb); (try clear hb2); (try clear hk); (try clear hi)))
            go_roundg k1
            case measure => have := HK1.out; omega
            case rel => exact ⟨(t151), (wrap64 (x4_1 - 1)), (by first | rfl | (simp; done) | (simp [*]; done)), (by first | rfl | (simp; done) | (simp [*]; done)), H', ⟨by have := HK1.out; omega⟩, ⟨by repeat (first | (with_reducible first | exact HB.out | apply below_alloc | apply pw_below_drewN | apply below_drew1) | exact HB.out)⟩⟩
          · rw [if_neg c5] at H
            have c5b0 : (t146 == 1) = false := beq_eq_false_iff_ne.mpr c5
            have c5b1 : (t146 != 1) = true := bne_iff_ne.mpr c5
            have H' := Aside0.mk H
            clear H
            go_wp2_with (first | ((with_reducible refine gate_callee (f := 19) rfl ?_); refine goesL_ (some 13) rfl rfl Tryd.func19 (by kernel_rfl) rfl #[.int .u64 a0, .int .i64 x4_1] rfl (by (try simp only [List.map_toArray, List.map_cons, List.map_nil]); first | done | rfl | (simp only [List.length_drop, List.length_take]; rfl)) ?_; (with_reducible refine (linhayref05_bit.calls k1 a0 x4_1 t146 _ A4.out).mono ?_); rintro e w' ⟨rfl, ⟨nd, rfl⟩⟩; refine ⟨_, rfl, ?_⟩) | (go_at_call 19; (with_reducible refine (linhayref05_bit.calls k1 a0 x4_1 t146 _ A4.out).mono ?_); rintro e w' ⟨rfl, ⟨nd, rfl⟩⟩))
            go_roundg k1
            case measure => have := HK1.out; omega
            case rel => exact ⟨(x3_1), (wrap64 (x4_1 - 1)), (by first | rfl | (simp; done) | (simp [*]; done)), (by first | rfl | (simp; done) | (simp [*]; done)), H', ⟨by have := HK1.out; omega⟩, ⟨by repeat (first | (with_reducible first | exact HB.out | apply below_alloc | apply pw_below_drewN | apply below_drew1) | exact HB.out)⟩⟩
        · rw [if_neg c3] at H
          have c3b0 : decide (0 ≤ x4_1) = false := decide_eq_false c3
          clear c3
          obtain rfl := Option.some.inj H
          go_wp2
          go_ret
          exact ⟨by first | rfl | (simp [errW_none, errW_some] <;> rfl) | (simp [*, errW_none, errW_some] <;> rfl), by repeat (first | (with_reducible first | exact HB.out | apply below_alloc | apply pw_below_drewN | apply below_drew1) | exact HB.out)⟩

/-! ### linhayref02_Div: function 29 -/
def linhayref02_Div.l0 : Nat → Int → Int → Int → Int → Int → Int → Int → Option (Int × Int × Int × Int)
  | 0, _, _, _, _, _, _, _ => none
  | k + 1, x1, x7, x8, x9, x10, x153000, x153001 => if x10 < 64 then (if x7 ≥ 9223372036854775808 then (linhayref02_Div.l0 k x1 (IntKind.u64.wrap ((IntKind.u64.wrap ((IntKind.u64.wrap (2 * x7)) + (IntKind.u64.wrap (Int.tdiv x8 9223372036854775808)))) - x1)) (IntKind.u64.wrap (2 * x8)) (IntKind.u64.wrap ((IntKind.u64.wrap (2 * x9)) + 1)) (wrap64 (x10 + 1)) x153000 x153001) else (if (IntKind.u64.wrap ((IntKind.u64.wrap (2 * x7)) + (IntKind.u64.wrap (Int.tdiv x8 9223372036854775808)))) ≥ x1 then (linhayref02_Div.l0 k x1 (IntKind.u64.wrap ((IntKind.u64.wrap ((IntKind.u64.wrap (2 * x7)) + (IntKind.u64.wrap (Int.tdiv x8 9223372036854775808)))) - x1)) (IntKind.u64.wrap (2 * x8)) (IntKind.u64.wrap ((IntKind.u64.wrap (2 * x9)) + 1)) (wrap64 (x10 + 1)) x153000 x153001) else (linhayref02_Div.l0 k x1 (IntKind.u64.wrap ((IntKind.u64.wrap (2 * x7)) + (IntKind.u64.wrap (Int.tdiv x8 9223372036854775808)))) (IntKind.u64.wrap (2 * x8)) (IntKind.u64.wrap (2 * x9)) (wrap64 (x10 + 1)) x153000 x153001))) else (if x1 = 0 then (none) else (some (IntKind.u64.wrap (Int.tdiv x153000 x1), x9, x7, 0)))
def linhayref02_Div.f (k : Nat) (a0_0 : Int) (a0_1 : Int) (a1 : Int) : Option (Int × Int × Int × Int) := if a1 = 0 then (some (0, 0, 0, 20)) else (linhayref02_Div.l0 k a1 (Int.tmod a0_0 a1) a0_1 0 0 a0_0 a0_1)
theorem linhayref02_Div.mono_l : ∀ k, (∀ y0 y1 y2 y3 y4 y5 y6, LeO (linhayref02_Div.l0 k y0 y1 y2 y3 y4 y5 y6) (linhayref02_Div.l0 (k + 1) y0 y1 y2 y3 y4 y5 y6))
  | 0 => fun _ _ _ _ _ _ _ r h => by simp [linhayref02_Div.l0] at h
  | k + 1 => by
    have ih0 := linhayref02_Div.mono_l k
    · intro y0 y1 y2 y3 y4 y5 y6
      unfold linhayref02_Div.l0
      repeat' first
      | (with_reducible exact ih0 _ _ _ _ _ _ _)
      | (with_reducible exact LeO.refl _)
      | (with_reducible exact LeO.none _)
      | (with_reducible refine LeO.ite ?_ ?_)
      | (with_reducible refine LeO.bind ?_ (fun _ => ?_))
      | exact ih0 _ _ _ _ _ _ _
      | exact LeO.none _
      | refine LeO.ite ?_ ?_
      | refine LeO.bind ?_ (fun _ => ?_)
theorem linhayref02_Div.mono : ∀ a0 a1 a2 k, LeO (linhayref02_Div.f k a0 a1 a2) (linhayref02_Div.f (k + 1) a0 a1 a2) := by
  intro a0 a1 a2 k
  have ih0 := linhayref02_Div.mono_l k
  unfold linhayref02_Div.f
  repeat' first
      | (with_reducible exact ih0 _ _ _ _ _ _ _)
      | (with_reducible exact LeO.refl _)
      | (with_reducible exact LeO.none _)
      | (with_reducible refine LeO.ite ?_ ?_)
      | (with_reducible refine LeO.bind ?_ (fun _ => ?_))
      | exact ih0 _ _ _ _ _ _ _
      | exact LeO.none _
      | refine LeO.ite ?_ ?_
      | refine LeO.bind ?_ (fun _ => ?_)
set_option maxHeartbeats 8000000 in
set_option maxRecDepth 100000 in
theorem linhayref02_Div.calls (k : Nat) (a0_0 : Int) (a0_1 : Int) (a1 : Int) (r1 : Int) (r2 : Int) (r3 : Int) (r4 : Int) (w : World) (h : linhayref02_Div.f k a0_0 a0_1 a1 = some (r1, r2, r3, r4)) :
    Calls Tryd.prog 29 #[.agg #[.int .u64 a0_0, .int .u64 a0_1], .int .u64 a1] w fun e w' => e = .returned (.tuple #[.agg #[.int .u64 r1, .int .u64 r2], .int .u64 r3, .int .i64 r4]) ∧ Below w.heap.size w w' := by
  have hu39 := Tryd.underlying39
  have HB := Aside0.mk (Below.refl w.heap.size w)
  have H : (if a1 = 0 then (some (0, 0, 0, 20)) else (linhayref02_Div.l0 k a1 (Int.tmod a0_0 a1) a0_1 0 0 a0_0 a0_1)) = some (r1, r2, r3, r4) := h
  clear h
  by_cases c3 : a1 = 0
  · rw [if_pos c3] at H
    have c3b0 : (a1 == 0) = true := beq_iff_eq.mpr c3
    have c3b1 : (a1 != 0) = false := bne_eq_false_iff_eq.mpr c3
    clear c3
    simp only [Option.some.injEq, Prod.mk.injEq] at H
    obtain ⟨rfl, rfl, rfl, rfl⟩ := H
    go_enter Tryd.func29, Tryd.ntmps29
    go_wp2_with (first | ((with_reducible refine gate_dst (N := 2) rfl ?_); refine box_event ?hg (N := 2) ?hd (cs := #[.int .u64 a0_0, .int .u64 a0_1]) (t := 39) ?hr ?_; (case hd => rfl); (case hg => rfl); (case hr => first | (go_simp; done) | (go_simp; rfl)); intro gb152 hg w4 hbox hb; have n0_ := Aside0.mk (below_step (by repeat (first | (with_reducible first | exact HB.out | apply below_alloc | apply pw_below_drewN | apply below_drew1) | exact HB.out)) hb); have n1_ := Aside0.mk (hbox); have n2_ := Aside0.mk ((by rw [hg]; exact (below_size (by repeat (first | (with_reducible first | exact HB.out | apply below_alloc | apply pw_below_drewN | apply below_drew1) | exact HB.out))) : w.heap.size ≤ gb152)); have n3_ := Aside0.mk ((by rw [hg]; exact (below_size (by repeat (first | (with_reducible first | exact HB.out | apply below_alloc | apply pw_below_drewN | apply below_drew1) | exact HB.out))) : w.heap.size ≤ gb152)); clear HB; have HB := n0_; have BK152 := n1_; have GW152 := n2_; have GE152 := n3_; clear n0_ n1_ n2_ n3_; clear hb hbox hg) | ((with_reducible refine gate_dst (N := 4) rfl ?_); refine box_event ?hg (N := 4) ?hd (cs := #[.int .u64 0, .int .u64 0]) (t := 39) ?hr ?_; (case hd => rfl); (case hg => rfl); (case hr => first | (go_simp; done) | (go_simp; rfl)); intro gb153 hg w5 hbox hb; have n0_ := Aside0.mk (blk_below (g := gb152) (o := .cells #[.int .u64 a0_0, .int .u64 a0_1] 39 (0, 0)) (by (with_reducible repeat (first | refine blk_drewN ?_ _ | refine blk_drew ?_ | refine blk_alloc ?_ _)); exact BK152.out) hb); have n1_ := Aside0.mk (below_step (by repeat (first | (with_reducible first | exact HB.out | apply below_alloc | apply pw_below_drewN | apply below_drew1 | refine below_set ?_ GE152.out) | exact HB.out)) hb); have n2_ := Aside0.mk (hbox); have n3_ := Aside0.mk ((by rw [hg]; exact (below_size (by repeat (first | (with_reducible first | exact HB.out | apply below_alloc | apply pw_below_drewN | apply below_drew1 | refine below_set ?_ GE152.out) | exact HB.out))) : w.heap.size ≤ gb153)); have n4_ := Aside0.mk ((by rw [hg]; exact (below_size (by repeat (first | (with_reducible first | exact HB.out | apply below_alloc | apply pw_below_drewN | apply below_drew1 | refine below_set ?_ GE152.out) | exact HB.out))) : w.heap.size ≤ gb153)); have n5_ := Aside0.mk ((by rw [hg]; exact Nat.ne_of_lt (blk_lt (g := gb152) (o := .cells #[.int .u64 a0_0, .int .u64 a0_1] 39 (0, 0)) (by (with_reducible repeat (first | refine blk_drewN ?_ _ | refine blk_drew ?_ | refine blk_alloc ?_ _)); exact BK152.out)) : gb152 ≠ gb153)); have n6_ := Aside0.mk ((by rw [hg]; exact Nat.ne_of_gt (blk_lt (g := gb152) (o := .cells #[.int .u64 a0_0, .int .u64 a0_1] 39 (0, 0)) (by (with_reducible repeat (first | refine blk_drewN ?_ _ | refine blk_drew ?_ | refine blk_alloc ?_ _)); exact BK152.out)) : gb153 ≠ gb152)); clear BK152; clear HB; have BK152 := n0_; have HB := n1_; have BK153 := n2_; have GW153 := n3_; have GE153 := n4_; have NB152_153 := n5_; have NB153_152 := n6_; clear n0_ n1_ n2_ n3_ n4_ n5_ n6_; clear hb hbox hg; have hnb6 := NB153_152.out; have hnc6 := NB152_153.out; have hcz7_0 : w5.cell? ⟨gb153, 0, none⟩ = some (.int .u64 0) := (blk_cell BK153.out 0).trans rfl; have hcz7_1 : w5.cell? ⟨gb153, 1, none⟩ = some (.int .u64 0) := (blk_cell BK153.out 1).trans rfl; have hfz7_0 := blk_frozen BK153.out 0; have hfz7_1 := blk_frozen BK153.out 1))
    refine bodyPost_ret (results_ctt rfl _ _ gb153 39 #[.int .u64 0, .int .u64 0] (0, 0) _ rfl (by (with_reducible repeat (first | refine blk_drewN ?_ _ | refine blk_drew ?_ | refine blk_alloc ?_ _)); refine blk_put (cs := #[.int .u64 0, .int .u64 0]) ?_ 1 _ rfl; (with_reducible repeat (first | refine blk_drewN ?_ _ | refine blk_drew ?_ | refine blk_alloc ?_ _)); refine blk_put (cs := #[.int .u64 0, .int .u64 0]) ?_ 0 _ rfl; (with_reducible repeat (first | refine blk_drewN ?_ _ | refine blk_drew ?_ | refine blk_alloc ?_ _)); exact BK153.out) Tryd.underlying39 rfl (by kernel_rfl)) rfl ?_
    exact ⟨by first | rfl | (simp [errW_none, errW_some] <;> rfl) | (simp [*, errW_none, errW_some] <;> rfl), by repeat (first | (with_reducible first | exact HB.out | apply below_alloc | apply pw_below_drewN | apply below_drew1 | refine below_set ?_ GE152.out | refine below_set ?_ GE153.out) | exact HB.out)⟩
  · rw [if_neg c3] at H
    have c3b0 : (a1 == 0) = false := beq_eq_false_iff_ne.mpr c3
    have c3b1 : (a1 != 0) = true := bne_iff_ne.mpr c3
    have H' := Aside0.mk H
    clear H
    go_enter Tryd.func29, Tryd.ntmps29
    go_wp2_with (first | ((with_reducible refine gate_dst (N := 2) rfl ?_); refine box_event ?hg (N := 2) ?hd (cs := #[.int .u64 a0_0, .int .u64 a0_1]) (t := 39) ?hr ?_; (case hd => rfl); (case hg => rfl); (case hr => first | (go_simp; done) | (go_simp; rfl)); intro gb152 hg w8 hbox hb; have n0_ := Aside0.mk (below_step (by repeat (first | (with_reducible first | exact HB.out | apply below_alloc | apply pw_below_drewN | apply below_drew1) | exact HB.out)) hb); have n1_ := Aside0.mk (hbox); have n2_ := Aside0.mk ((by rw [hg]; exact (below_size (by repeat (first | (with_reducible first | exact HB.out | apply below_alloc | apply pw_below_drewN | apply below_drew1) | exact HB.out))) : w.heap.size ≤ gb152)); have n3_ := Aside0.mk ((by rw [hg]; exact (below_size (by repeat (first | (with_reducible first | exact HB.out | apply below_alloc | apply pw_below_drewN | apply below_drew1) | exact HB.out))) : w.heap.size ≤ gb152)); clear HB; have HB := n0_; have BK152 := n1_; have GW152 := n2_; have GE152 := n3_; clear n0_ n1_ n2_ n3_; clear hb hbox hg) | ((with_reducible refine gate_dst (N := 4) rfl ?_); refine box_event ?hg (N := 4) ?hd (cs := #[.int .u64 0, .int .u64 0]) (t := 39) ?hr ?_; (case hd => rfl); (case hg => rfl); (case hr => first | (go_simp; done) | (go_simp; rfl)); intro gb153 hg w9 hbox hb; have n0_ := Aside0.mk (blk_below (g := gb152) (o := .cells #[.int .u64 a0_0, .int .u64 a0_1] 39 (0, 0)) (by (with_reducible repeat (first | refine blk_drewN ?_ _ | refine blk_drew ?_ | refine blk_alloc ?_ _)); exact BK152.out) hb); have n1_ := Aside0.mk (below_step (by repeat (first | (with_reducible first | exact HB.out | apply below_alloc | apply pw_below_drewN | apply below_drew1 | refine below_set ?_ GE152.out) | exact HB.out)) hb); have n2_ := Aside0.mk (hbox); have n3_ := Aside0.mk ((by rw [hg]; exact (below_size (by repeat (first | (with_reducible first | exact HB.out | apply below_alloc | apply pw_below_drewN | apply below_drew1 | refine below_set ?_ GE152.out) | exact HB.out))) : w.heap.size ≤ gb153)); have n4_ := Aside0.mk ((by rw [hg]; exact (below_size (by repeat (first | (with_reducible first | exact HB.out | apply below_alloc | apply pw_below_drewN | apply below_drew1 | refine below_set ?_ GE152.out) | exact HB.out))) : w.heap.size ≤ gb153)); have n5_ := Aside0.mk ((by rw [hg]; exact Nat.ne_of_lt (blk_lt (g := gb152) (o := .cells #[.int .u64 a0_0, .int .u64 a0_1] 39 (0, 0)) (by (with_reducible repeat (first | refine blk_drewN ?_ _ | refine blk_drew ?_ | refine blk_alloc ?_ _)); exact BK152.out)) : gb152 ≠ gb153)); have n6_ := Aside0.mk ((by rw [hg]; exact Nat.ne_of_gt (blk_lt (g := gb152) (o := .cells #[.int .u64 a0_0, .int .u64 a0_1] 39 (0, 0)) (by (with_reducible repeat (first | refine blk_drewN ?_ _ | refine blk_drew ?_ | refine blk_alloc ?_ _)); exact BK152.out)) : gb153 ≠ gb152)); clear BK152; clear HB; have BK152 := n0_; have HB := n1_; have BK153 := n2_; have GW153 := n3_; have GE153 := n4_; have NB152_153 := n5_; have NB153_152 := n6_; clear n0_ n1_ n2_ n3_ n4_ n5_ n6_; clear hb hbox hg; have hnb10 := NB152_153.out; have hnc10 := NB153_152.out; have hcz11_0 : w9.cell? ⟨gb152, 0, none⟩ = some (.int .u64 a0_0) := (blk_cell BK152.out 0).trans rfl; have hcz11_1 : w9.cell? ⟨gb152, 1, none⟩ = some (.int .u64 a0_1) := (blk_cell BK152.out 1).trans rfl; have hfz11_0 := blk_frozen BK152.out 0; have hfz11_1 := blk_frozen BK152.out 1))
    go_loopg [7, 8, 9, 10] k (fun kq v7 v8 v9 v10 w' => ∃ (x7_1 : Int) (x8_1 : Int) (x9_1 : Int) (x10_1 : Int), v7 = .int .u64 x7_1 ∧ v8 = .int .u64 x8_1 ∧ v9 = .int .u64 x9_1 ∧ v10 = .int .i64 x10_1 ∧ Aside0 (linhayref02_Div.l0 kq a1 x7_1 x8_1 x9_1 x10_1 a0_0 a0_1 = some (r1, r2, r3, r4)) ∧ Aside0 (kq ≤ k) ∧ Aside0 (w'.heap[gb152]? = some (.cells #[.int .u64 a0_0, .int .u64 a0_1] 39 (0, 0))) ∧ Aside0 (w'.heap[gb153]? = some (.cells #[.int .u64 0, .int .u64 0] 39 (0, 0))) ∧ Aside0 (Below w.heap.size w w'))
    case atStart => exact ⟨(Int.tmod a0_0 a1), (a0_1), (0), (0), (by first | rfl | (simp; done) | (simp [*]; done)), (by first | rfl | (simp; done) | (simp [*]; done)), (by first | rfl | (simp; done) | (simp [*]; done)), (by first | rfl | (simp; done) | (simp [*]; done)), H', ⟨Nat.le_refl _⟩, ⟨by (with_reducible repeat (first | refine blk_drewN ?_ _ | refine blk_drew ?_ | refine blk_alloc ?_ _)); exact BK152.out⟩, ⟨by (with_reducible repeat (first | refine blk_drewN ?_ _ | refine blk_drew ?_ | refine blk_alloc ?_ _)); exact BK153.out⟩, ⟨by repeat (first | (with_reducible first | exact HB.out | apply below_alloc | apply pw_below_drewN | apply below_drew1 | refine below_set ?_ GE152.out | refine below_set ?_ GE153.out) | exact HB.out)⟩⟩
    case round =>
      clear H'
      try clear c1
      try clear c2
      try clear p2
      try clear c3
      try clear c3b0
      try clear c3b1
      try clear c6
      try clear c10
      try clear hcz11_0
      try clear hcz11_1
      try clear hcz7_0
      try clear hcz7_1
      try clear hfz11_0
      try clear hfz11_1
      try clear hfz7_0
      try clear hfz7_1
      obtain ⟨x7_1, x8_1, x9_1, x10_1, rfl, rfl, rfl, rfl, HA, HK1, BK152, BK153, HB⟩ := hrel
      cases gk with
      | zero => exact absurd HA.out (by simp [linhayref02_Div.l0])
      | succ k1 =>
        have H := HA.out
        clear HA
        simp only [linhayref02_Div.l0] at H
        by_cases c12 : x10_1 < 64
        · rw [if_pos c12] at H
          have c12b0 : decide (x10_1 < 64) = true := decide_eq_true c12
          clear c12
          by_cases c13 : x7_1 ≥ 9223372036854775808
          · rw [if_pos c13] at H
            have c13b0 : decide (9223372036854775808 ≤ x7_1) = true := decide_eq_true c13
            clear c13
            have H' := Aside0.mk H
            clear H
            go_wp2
            go_roundg k1
            case measure => have := HK1.out; omega
            case rel => exact ⟨(IntKind.u64.wrap ((IntKind.u64.wrap ((IntKind.u64.wrap (2 * x7_1)) + (IntKind.u64.wrap (Int.tdiv x8_1 9223372036854775808)))) - a1)), (IntKind.u64.wrap (2 * x8_1)), (IntKind.u64.wrap ((IntKind.u64.wrap (2 * x9_1)) + 1)), (wrap64 (x10_1 + 1)), (by first | rfl | (simp; done) | (simp [*]; done)), (by first | rfl | (simp; done) | (simp [*]; done)), (by first | rfl | (simp; done) | (simp [*]; done)), (by first | rfl | (simp; done) | (simp [*]; done)), H', ⟨by have := HK1.out; omega⟩, ⟨by (with_reducible repeat (first | refine blk_drewN ?_ _ | refine blk_drew ?_ | refine blk_alloc ?_ _)); exact BK152.out⟩, ⟨by (with_reducible repeat (first | refine blk_drewN ?_ _ | refine blk_drew ?_ | refine blk_alloc ?_ _)); exact BK153.out⟩, ⟨by repeat (first | (with_reducible first | exact HB.out | apply below_alloc | apply pw_below_drewN | apply below_drew1 | refine below_set ?_ GE152.out | refine below_set ?_ GE153.out) | exact HB.out)⟩⟩
          · rw [if_neg c13] at H
            have c13b0 : decide (9223372036854775808 ≤ x7_1) = false := decide_eq_false c13
            clear c13
            by_cases c14 : (IntKind.u64.wrap ((IntKind.u64.wrap (2 * x7_1)) + (IntKind.u64.wrap (Int.tdiv x8_1 9223372036854775808)))) ≥ a1
            · rw [if_pos c14] at H
              have c14b0 : decide (a1 ≤ (IntKind.u64.wrap ((IntKind.u64.wrap (2 * x7_1)) + (IntKind.u64.wrap (Int.tdiv x8_1 9223372036854775808))))) = true := decide_eq_true c14
              clear c14
              have H' := Aside0.mk H
              clear H
              go_wp2
              go_roundg k1
              case measure => have := HK1.out; omega
              case rel => exact ⟨(IntKind.u64.wrap ((IntKind.u64.wrap ((IntKind.u64.wrap (2 * x7_1)) + (IntKind.u64.wrap (Int.tdiv x8_1 9223372036854775808)))) - a1)), (IntKind.u64.wrap (2 * x8_1)), (IntKind.u64.wrap ((IntKind.u64.wrap (2 * x9_1)) + 1)), (wrap64 (x10_1 + 1)), (by first | rfl | (simp; done) | (simp [*]; done)), (by first | rfl | (simp; done) | (simp [*]; done)), (by first | rfl | (simp; done) | (simp [*]; done)), (by first | rfl | (simp; done) | (simp [*]; done)), H', ⟨by have := HK1.out; omega⟩, ⟨by (with_reducible repeat (first | refine blk_drewN ?_ _ | refine blk_drew ?_ | refine blk_alloc ?_ _)); exact BK152.out⟩, ⟨by (with_reducible repeat (first | refine blk_drewN ?_ _ | refine blk_drew ?_ | refine blk_alloc ?_ _)); exact BK153.out⟩, ⟨by repeat (first | (with_reducible first | exact HB.out | apply below_alloc | apply pw_below_drewN | apply below_drew1 | refine below_set ?_ GE152.out | refine below_set ?_ GE153.out) | exact HB.out)⟩⟩
            · rw [if_neg c14] at H
              have c14b0 : decide (a1 ≤ (IntKind.u64.wrap ((IntKind.u64.wrap (2 * x7_1)) + (IntKind.u64.wrap (Int.tdiv x8_1 9223372036854775808))))) = false := decide_eq_false c14
              clear c14
              have H' := Aside0.mk H
              clear H
              go_wp2
              go_roundg k1
              case measure => have := HK1.out; omega
              case rel => exact ⟨(IntKind.u64.wrap ((IntKind.u64.wrap (2 * x7_1)) + (IntKind.u64.wrap (Int.tdiv x8_1 9223372036854775808)))), (IntKind.u64.wrap (2 * x8_1)), (IntKind.u64.wrap (2 * x9_1)), (wrap64 (x10_1 + 1)), (by first | rfl | (simp; done) | (simp [*]; done)), (by first | rfl | (simp; done) | (simp [*]; done)), (by first | rfl | (simp; done) | (simp [*]; done)), (by first | rfl | (simp; done) | (simp [*]; done)), H', ⟨by have := HK1.out; omega⟩, ⟨by (with_reducible repeat (first | refine blk_drewN ?_ _ | refine blk_drew ?_ | refine blk_alloc ?_ _)); exact BK152.out⟩, ⟨by (with_reducible repeat (first | refine blk_drewN ?_ _ | refine blk_drew ?_ | refine blk_alloc ?_ _)); exact BK153.out⟩, ⟨by repeat (first | (with_reducible first | exact HB.out | apply below_alloc | apply pw_below_drewN | apply below_drew1 | refine below_set ?_ GE152.out | refine below_set ?_ GE153.out) | exact HB.out)⟩⟩
        · rw [if_neg c12] at H
          have c12b0 : decide (x10_1 < 64) = false := decide_eq_false c12
          clear c12
          by_cases c15 : a1 = 0
          · rw [if_pos c15] at H
            exact absurd H (by simp)
          · rw [if_neg c15] at H
            have c15b0 : (a1 == 0) = false := beq_eq_false_iff_ne.mpr c15
            have c15b1 : (a1 != 0) = true := bne_iff_ne.mpr c15
            simp only [Option.some.injEq, Prod.mk.injEq] at H
            obtain ⟨rfl, rfl, rfl, rfl⟩ := H
            have hnb16 := NB152_153.out
            have hnc16 := NB153_152.out
            have hcz17_0 : wr.cell? ⟨gb152, 0, none⟩ = some (.int .u64 a0_0) := (blk_cell BK152.out 0).trans rfl
            have hcz17_1 : wr.cell? ⟨gb152, 1, none⟩ = some (.int .u64 a0_1) := (blk_cell BK152.out 1).trans rfl
            have hfz17_0 := blk_frozen BK152.out 0
            have hfz17_1 := blk_frozen BK152.out 1
            have hcz18_0 : wr.cell? ⟨gb153, 0, none⟩ = some (.int .u64 0) := (blk_cell BK153.out 0).trans rfl
            have hcz18_1 : wr.cell? ⟨gb153, 1, none⟩ = some (.int .u64 0) := (blk_cell BK153.out 1).trans rfl
            have hfz18_0 := blk_frozen BK153.out 0
            have hfz18_1 := blk_frozen BK153.out 1
            go_wp2
            refine bodyPost_ret (results_ctt rfl _ _ gb153 39 #[.int .u64 (IntKind.u64.wrap (Int.tdiv a0_0 a1)), .int .u64 x9_1] (0, 0) _ rfl (by (with_reducible repeat (first | refine blk_drewN ?_ _ | refine blk_drew ?_ | refine blk_alloc ?_ _)); refine blk_put (cs := #[.int .u64 (IntKind.u64.wrap (Int.tdiv a0_0 a1)), .int .u64 0]) ?_ 1 _ rfl; (with_reducible repeat (first | refine blk_drewN ?_ _ | refine blk_drew ?_ | refine blk_alloc ?_ _)); refine blk_put (cs := #[.int .u64 0, .int .u64 0]) ?_ 0 _ rfl; (with_reducible repeat (first | refine blk_drewN ?_ _ | refine blk_drew ?_ | refine blk_alloc ?_ _)); exact BK153.out) Tryd.underlying39 rfl (by kernel_rfl)) rfl ?_
            exact ⟨by first | rfl | (simp [errW_none, errW_some] <;> rfl) | (simp [*, errW_none, errW_some] <;> rfl), by repeat (first | (with_reducible first | exact HB.out | apply below_alloc | apply pw_below_drewN | apply below_drew1 | refine below_set ?_ GE152.out | refine below_set ?_ GE153.out) | exact HB.out)⟩

/-! ### linhayref02_digits: function 39 -/
set_option maxHeartbeats 1000000 in
theorem linhayref02_digits.walk (a b : Int) (w : World) (ha : 0 ≤ a) (hb : 0 ≤ b) (ha' : a < 18446744073709551616) (hb' : b < 18446744073709551616) :
    Calls Tryd.prog 39 #[.agg #[.int .u64 a, .int .u64 b]] w fun e w' => e = .returned (.agg #[.int .u64 (b % 4294967296), .int .u64 (b / 4294967296), .int .u64 (a % 4294967296), .int .u64 (a / 4294967296)]) ∧ w' = (w.alloc (.cells #[.int .u64 a, .int .u64 b] 39)).alloc (.cells #[.int .u64 (b % 4294967296), .int .u64 (b / 4294967296), .int .u64 (a % 4294967296), .int .u64 (a / 4294967296)] 48) := by
  go_enter Tryd.func39, Tryd.ntmps39
  go_wp2
  refine bodyPost_ret (v := .agg #[.int .u64 (b % 4294967296), .int .u64 (b / 4294967296), .int .u64 (a % 4294967296), .int .u64 (a / 4294967296)]) (by simp [results, Tryd.results39, go_sem]) rfl ⟨rfl, rfl⟩

/-! ### linhayref02_Add: function 36 -/
theorem linhayref02_Add.sum (a b c d a0 a1 a2 a3 b0 b1 b2 b3 : Int) (hb : b = a1 * 4294967296 + a0) (ha : a = a3 * 4294967296 + a2) (hd : d = b1 * 4294967296 + b0) (hc : c = b3 * 4294967296 + b2)
    (A0 : 0 ≤ a0 ∧ a0 < 4294967296) (A1 : 0 ≤ a1 ∧ a1 < 4294967296) (A2 : 0 ≤ a2 ∧ a2 < 4294967296) (A3 : 0 ≤ a3 ∧ a3 < 4294967296)
    (B0 : 0 ≤ b0 ∧ b0 < 4294967296) (B1 : 0 ≤ b1 ∧ b1 < 4294967296) (B2 : 0 ≤ b2 ∧ b2 < 4294967296) (B3 : 0 ≤ b3 ∧ b3 < 4294967296) :
    (a3 + b3 + (a2 + b2 + (a1 + b1 + (a0 + b0) / 4294967296) / 4294967296) / 4294967296) % 4294967296 * 4294967296 + (a2 + b2 + (a1 + b1 + (a0 + b0) / 4294967296) / 4294967296) % 4294967296 = (a + c + (b + d) / 18446744073709551616) % 18446744073709551616 ∧
    (a1 + b1 + (a0 + b0) / 4294967296) % 4294967296 * 4294967296 + (a0 + b0) % 4294967296 = (b + d) % 18446744073709551616 ∧
    (a3 + b3 + (a2 + b2 + (a1 + b1 + (a0 + b0) / 4294967296) / 4294967296) / 4294967296) / 4294967296 = (a + c + (b + d) / 18446744073709551616) / 18446744073709551616 := by
  obtain ⟨c0, k0⟩ : ∃ x, x = (a0 + b0) / 4294967296 := ⟨_, rfl⟩
  obtain ⟨r0, l0⟩ : ∃ x, x = (a0 + b0) % 4294967296 := ⟨_, rfl⟩
  have m0 : a0 + b0 = 4294967296 * c0 + r0 ∧ 0 ≤ r0 ∧ r0 < 4294967296 := by omega
  rw [← k0, ← l0]
  clear k0 l0
  obtain ⟨c1, k1⟩ : ∃ x, x = (a1 + b1 + c0) / 4294967296 := ⟨_, rfl⟩
  obtain ⟨r1, l1⟩ : ∃ x, x = (a1 + b1 + c0) % 4294967296 := ⟨_, rfl⟩
  have m1 : a1 + b1 + c0 = 4294967296 * c1 + r1 ∧ 0 ≤ r1 ∧ r1 < 4294967296 := by omega
  rw [← k1, ← l1]
  clear k1 l1
  obtain ⟨c2, k2⟩ : ∃ x, x = (a2 + b2 + c1) / 4294967296 := ⟨_, rfl⟩
  obtain ⟨r2, l2⟩ : ∃ x, x = (a2 + b2 + c1) % 4294967296 := ⟨_, rfl⟩
  have m2 : a2 + b2 + c1 = 4294967296 * c2 + r2 ∧ 0 ≤ r2 ∧ r2 < 4294967296 := by omega
  rw [← k2, ← l2]
  clear k2 l2
  obtain ⟨c3, k3⟩ : ∃ x, x = (a3 + b3 + c2) / 4294967296 := ⟨_, rfl⟩
  obtain ⟨r3, l3⟩ : ∃ x, x = (a3 + b3 + c2) % 4294967296 := ⟨_, rfl⟩
  have m3 : a3 + b3 + c2 = 4294967296 * c3 + r3 ∧ 0 ≤ r3 ∧ r3 < 4294967296 := by omega
  rw [← k3, ← l3]
  clear k3 l3
  have s1 : b + d = 18446744073709551616 * c1 + (r1 * 4294967296 + r0) := by omega
  have s2 : (b + d) / 18446744073709551616 = c1 ∧ (b + d) % 18446744073709551616 = r1 * 4294967296 + r0 := by omega
  rw [s2.1, s2.2]
  have s3 : a + c + c1 = 18446744073709551616 * c3 + (r3 * 4294967296 + r2) := by omega
  omega
theorem linhayref02_Add.fin {A A' B B' C C' : Int} (h1 : A = A') (h2 : B = B') (h3 : C = C') : Ending.returned (.tuple #[.agg #[.int .u64 A, .int .u64 B], .bool (decide (0 < C))]) = Ending.returned (.tuple #[.agg #[.int .u64 A', .int .u64 B'], .bool (decide (0 < C'))]) := by rw [h1, h2, h3]
set_option maxHeartbeats 1000000 in
set_option maxRecDepth 100000 in
theorem linhayref02_Add.walk (a b c d : Int) (w : World) (ha : 0 ≤ a) (hb : 0 ≤ b) (ha' : a < 18446744073709551616) (hb' : b < 18446744073709551616)
    (hc : 0 ≤ c) (hd : 0 ≤ d) (hc' : c < 18446744073709551616) (hd' : d < 18446744073709551616) :
    Calls Tryd.prog 36 #[.agg #[.int .u64 a, .int .u64 b], .agg #[.int .u64 c, .int .u64 d]] w fun e w' => e = .returned (.tuple #[.agg #[.int .u64 ((a + c + (b + d) / 18446744073709551616) % 18446744073709551616), .int .u64 ((b + d) % 18446744073709551616)], .bool (decide (0 < (a + c + (b + d) / 18446744073709551616) / 18446744073709551616))]) ∧ Below w.heap.size w w' := by
  obtain ⟨a0, e0⟩ : ∃ x, x = b % 4294967296 := ⟨_, rfl⟩
  obtain ⟨a1, e1⟩ : ∃ x, x = b / 4294967296 := ⟨_, rfl⟩
  obtain ⟨a2, e2⟩ : ∃ x, x = a % 4294967296 := ⟨_, rfl⟩
  obtain ⟨a3, e3⟩ : ∃ x, x = a / 4294967296 := ⟨_, rfl⟩
  obtain ⟨b0, f0⟩ : ∃ x, x = d % 4294967296 := ⟨_, rfl⟩
  obtain ⟨b1, f1⟩ : ∃ x, x = d / 4294967296 := ⟨_, rfl⟩
  obtain ⟨b2, f2⟩ : ∃ x, x = c % 4294967296 := ⟨_, rfl⟩
  obtain ⟨b3, f3⟩ : ∃ x, x = c / 4294967296 := ⟨_, rfl⟩
  have D1 := fun W => linhayref02_digits.walk a b W ha hb ha' hb'
  have D2 := fun W => linhayref02_digits.walk c d W hc hd hc' hd'
  rw [← e0, ← e1, ← e2, ← e3] at D1
  rw [← f0, ← f1, ← f2, ← f3] at D2
  have A0 : 0 ≤ a0 ∧ a0 < 4294967296 := by omega
  have A1 : 0 ≤ a1 ∧ a1 < 4294967296 := by omega
  have A2 : 0 ≤ a2 ∧ a2 < 4294967296 := by omega
  have A3 : 0 ≤ a3 ∧ a3 < 4294967296 := by omega
  have B0 : 0 ≤ b0 ∧ b0 < 4294967296 := by omega
  have B1 : 0 ≤ b1 ∧ b1 < 4294967296 := by omega
  have B2 : 0 ≤ b2 ∧ b2 < 4294967296 := by omega
  have B3 : 0 ≤ b3 ∧ b3 < 4294967296 := by omega
  obtain ⟨E1, E2, E3⟩ := linhayref02_Add.sum a b c d a0 a1 a2 a3 b0 b1 b2 b3 (by omega) (by omega) (by omega) (by omega) A0 A1 A2 A3 B0 B1 B2 B3
  have X1 := Lib.hid E1
  have X2 := Lib.hid E2
  have X3 := Lib.hid E3
  clear E1 E2 E3 e0 e1 e2 e3 f0 f1 f2 f3
  obtain ⟨A0, A0'⟩ := A0
  obtain ⟨A1, A1'⟩ := A1
  obtain ⟨A2, A2'⟩ := A2
  obtain ⟨A3, A3'⟩ := A3
  obtain ⟨B0, B0'⟩ := B0
  obtain ⟨B1, B1'⟩ := B1
  obtain ⟨B2, B2'⟩ := B2
  obtain ⟨B3, B3'⟩ := B3
  have HB := Aside0.mk (Below.refl w.heap.size w)
  have K1 := Lib.hid D1
  have K2 := Lib.hid D2
  clear D1 D2
  go_enter Tryd.func36, Tryd.ntmps36
  go_wp2_with (first | (go_at_call 39; (with_reducible refine (K1.out _).mono ?_); rintro e w' ⟨rfl, rfl⟩) | (go_at_call 39; (with_reducible refine (K2.out _).mono ?_); rintro e w' ⟨rfl, rfl⟩))
  refine wp_loop_rounds 5 ?_
  rw [rounds_succ]
  go_wp2_with fail
  go_quiet (fail)
  go_wp2_with fail
  rw [rounds_succ]
  go_wp2_with fail
  go_quiet (fail)
  go_wp2_with fail
  rw [rounds_succ]
  go_wp2_with fail
  go_quiet (fail)
  go_wp2_with fail
  rw [rounds_succ]
  go_wp2_with fail
  go_quiet (fail)
  go_wp2_with fail
  rw [rounds_succ]
  go_wp2_with fail
  go_wp2_with (go_at_call 28; (refine (linhayref02_whole.walk _ _ _ _ _ (by omega) (by omega) (by omega) (by omega) (by omega) (by omega) (by omega) (by omega)).mono ?_); rintro e w' ⟨rfl, rfl⟩)
  refine bodyPost_ret (v := .tuple #[.agg #[.int .u64 ((a3 + b3 + (a2 + b2 + (a1 + b1 + (a0 + b0) / 4294967296) / 4294967296) / 4294967296) % 4294967296 * 4294967296 + (a2 + b2 + (a1 + b1 + (a0 + b0) / 4294967296) / 4294967296) % 4294967296), .int .u64 ((a1 + b1 + (a0 + b0) / 4294967296) % 4294967296 * 4294967296 + (a0 + b0) % 4294967296)], .bool (decide (0 < (a3 + b3 + (a2 + b2 + (a1 + b1 + (a0 + b0) / 4294967296) / 4294967296) / 4294967296) / 4294967296))]) (by simp [results, Tryd.results36, go_sem]) rfl ⟨linhayref02_Add.fin X1.out X2.out X3.out, ?_⟩
  repeat (with_reducible first | exact HB.out | apply below_alloc | apply pw_below_drewN | apply below_drew1 | refine below_set ?_ ?_)
  all_goals (first | omega | (simp; done) | (simp; omega))
def linhayref02_Add.ok (a b c d : Int) : Prop := ((0 ≤ a ∧ a < 18446744073709551616) ∧ (0 ≤ b ∧ b < 18446744073709551616)) ∧ ((0 ≤ c ∧ c < 18446744073709551616) ∧ (0 ≤ d ∧ d < 18446744073709551616))
instance linhayref02_Add.dec (a b c d : Int) : Decidable (linhayref02_Add.ok a b c d) := by unfold linhayref02_Add.ok; infer_instance
def linhayref02_Add.f (a0_0 : Int) (a0_1 : Int) (a1_0 : Int) (a1_1 : Int) : Option (Int × Int × Bool) :=
  if linhayref02_Add.ok a0_0 a0_1 a1_0 a1_1 then some ((a0_0 + a1_0 + (a0_1 + a1_1) / 18446744073709551616) % 18446744073709551616, (a0_1 + a1_1) % 18446744073709551616, decide (0 < (a0_0 + a1_0 + (a0_1 + a1_1) / 18446744073709551616) / 18446744073709551616)) else none
theorem linhayref02_Add.calls (a0_0 : Int) (a0_1 : Int) (a1_0 : Int) (a1_1 : Int) (r1 : Int) (r2 : Int) (r3 : Bool) (w : World) (h : linhayref02_Add.f a0_0 a0_1 a1_0 a1_1 = some (r1, r2, r3)) :
    Calls Tryd.prog 36 #[.agg #[.int .u64 a0_0, .int .u64 a0_1], .agg #[.int .u64 a1_0, .int .u64 a1_1]] w fun e w' => e = .returned (.tuple #[.agg #[.int .u64 r1, .int .u64 r2], .bool r3]) ∧ Below w.heap.size w w' := by
  unfold linhayref02_Add.f at h
  by_cases hk : linhayref02_Add.ok a0_0 a0_1 a1_0 a1_1
  · rw [if_pos hk] at h
    simp only [Option.some.injEq, Prod.mk.injEq] at h
    obtain ⟨rfl, rfl, rfl⟩ := h
    obtain ⟨⟨⟨b1, b2⟩, ⟨b3, b4⟩⟩, ⟨⟨b5, b6⟩, ⟨b7, b8⟩⟩⟩ := hk
    exact linhayref02_Add.walk a0_0 a0_1 a1_0 a1_1 w b1 b3 b2 b4 b5 b7 b6 b8
  · rw [if_neg hk] at h
    cases h

/-! ### linhayref03_part: function 32 -/
def linhayref03_part.f (k : Nat) (a0 : Int) (a1 : Int) (a2 : Int) (a3 : Int) : Option (Int × Int) := (linhayref02_Mul.f a0 a1).bind fun bt154 => ((linhayref02_Add.f bt154.1 bt154.2 0 a3).bind fun bt156 => ((linhayref02_Div.f k bt156.1 bt156.2.1 a2).bind fun bt160 => (if bt160.2.2.2 = 0 then (if bt156.2.2 = true then (some (0, 10)) else (if bt160.1 > 0 then (some (0, 10)) else (some (bt160.2.1, 0)))) else (some (0, bt160.2.2.2)))))
theorem linhayref03_part.mono : ∀ a0 a1 a2 a3 k, LeO (linhayref03_part.f k a0 a1 a2 a3) (linhayref03_part.f (k + 1) a0 a1 a2 a3) := by
  intro a0 a1 a2 a3 k
  unfold linhayref03_part.f
  repeat' first
      | (with_reducible exact linhayref02_Div.mono _ _ _ _)
      | (with_reducible exact LeO.refl _)
      | (with_reducible exact LeO.none _)
      | (with_reducible refine LeO.ite ?_ ?_)
      | (with_reducible refine LeO.bind ?_ (fun _ => ?_))
      | exact linhayref02_Div.mono _ _ _ _
      | exact LeO.none _
      | refine LeO.ite ?_ ?_
      | refine LeO.bind ?_ (fun _ => ?_)
set_option maxHeartbeats 8000000 in
set_option maxRecDepth 100000 in
theorem linhayref03_part.calls (k : Nat) (a0 : Int) (a1 : Int) (a2 : Int) (a3 : Int) (r1 : Int) (r2 : Int) (w : World) (h : linhayref03_part.f k a0 a1 a2 a3 = some (r1, r2)) :
    Calls Tryd.prog 32 #[.int .u64 a0, .int .u64 a1, .int .u64 a2, .int .u64 a3] w fun e w' => e = .returned (.tuple #[.int .u64 r1, .int .i64 r2]) ∧ Below w.heap.size w w' := by
  have hu39 := Tryd.underlying39
  have HB := Aside0.mk (Below.refl w.heap.size w)
  have H : ((linhayref02_Mul.f a0 a1).bind fun bt154 => ((linhayref02_Add.f bt154.1 bt154.2 0 a3).bind fun bt156 => ((linhayref02_Div.f k bt156.1 bt156.2.1 a2).bind fun bt160 => (if bt160.2.2.2 = 0 then (if bt156.2.2 = true then (some (0, 10)) else (if bt160.1 > 0 then (some (0, 10)) else (some (bt160.2.1, 0)))) else (some (0, bt160.2.2.2)))))) = some (r1, r2) := h
  clear h
  replace H := Option.bind_eq_some_iff.mp H
  obtain ⟨⟨t154, t155⟩, A50, H⟩ := H
  replace H : ((linhayref02_Add.f t154 t155 0 a3).bind fun bt156 => ((linhayref02_Div.f k bt156.1 bt156.2.1 a2).bind fun bt160 => (if bt160.2.2.2 = 0 then (if bt156.2.2 = true then (some (0, 10)) else (if bt160.1 > 0 then (some (0, 10)) else (some (bt160.2.1, 0)))) else (some (0, bt160.2.2.2))))) = some (r1, r2) := H
  have A5 := Aside0.mk A50
  clear A50
  replace H := Option.bind_eq_some_iff.mp H
  obtain ⟨⟨t156, t157, t158⟩, A60, H⟩ := H
  replace H : ((linhayref02_Div.f k t156 t157 a2).bind fun bt160 => (if bt160.2.2.2 = 0 then (if t158 = true then (some (0, 10)) else (if bt160.1 > 0 then (some (0, 10)) else (some (bt160.2.1, 0)))) else (some (0, bt160.2.2.2)))) = some (r1, r2) := H
  have A6 := Aside0.mk A60
  clear A60
  replace H := Option.bind_eq_some_iff.mp H
  obtain ⟨⟨t160, t161, t162, t163⟩, A70, H⟩ := H
  replace H : (if t163 = 0 then (if t158 = true then (some (0, 10)) else (if t160 > 0 then (some (0, 10)) else (some (t161, 0)))) else (some (0, t163))) = some (r1, r2) := H
  have A7 := Aside0.mk A70
  clear A70
  by_cases c8 : t163 = 0
  · rw [if_pos c8] at H
    have c8b0 : (t163 == 0) = true := beq_iff_eq.mpr c8
    have c8b1 : (t163 != 0) = false := bne_eq_false_iff_eq.mpr c8
    clear c8
    by_cases c9 : t158 = true
    · subst c9
      have H1 : (some (0, 10)) = some (r1, r2) := by rw [if_pos rfl] at H; exact H
      clear H
      have H := H1
      clear H1
      simp only [Option.some.injEq, Prod.mk.injEq] at H
      obtain ⟨rfl, rfl⟩ := H
      go_enter Tryd.func32, Tryd.ntmps32
      go_wp2_with (first | ((with_reducible refine gate_callee (f := 21) rfl ?_); refine goesL_ (some 18) rfl rfl Tryd.func21 (by kernel_rfl) rfl #[.int .u64 a0, .int .u64 a1] rfl (by (try simp only [List.map_toArray, List.map_cons, List.map_nil]); first | done | rfl | (simp only [List.length_drop, List.length_take]; rfl)) ?_; (with_reducible refine (linhayref02_Mul.calls a0 a1 t154 t155 _ A5.out).mono ?_); rintro e w10 ⟨rfl, hb⟩; refine ⟨_, rfl, ?_⟩; have n0_ := Aside0.mk (below_step (by repeat (first | (with_reducible first | exact HB.out | apply below_alloc | apply pw_below_drewN | apply below_drew1) | exact HB.out)) hb); clear HB; have HB := n0_; clear n0_; (try clear hb); (try clear hb2); (try clear hk); (try clear hi)) | ((with_reducible refine gate_callee (f := 36) rfl ?_); refine goesL_ (some 21) rfl rfl Tryd.func36 (by kernel_rfl) rfl #[.agg #[.int .u64 t154, .int .u64 t155], .agg #[.int .u64 0, .int .u64 a3]] rfl (by (try simp only [List.map_toArray, List.map_cons, List.map_nil]); first | done | rfl | (simp only [List.length_drop, List.length_take]; rfl)) ?_; (with_reducible refine (linhayref02_Add.calls t154 t155 0 a3 t156 t157 true _ A6.out).mono ?_); rintro e w11 ⟨rfl, hb⟩; refine ⟨_, rfl, ?_⟩; have n0_ := Aside0.mk (below_step (by repeat (first | (with_reducible first | exact HB.out | apply below_alloc | apply pw_below_drewN | apply below_drew1) | exact HB.out)) hb); clear HB; have HB := n0_; clear n0_; (try clear hb); (try clear hb2); (try clear hk); (try clear hi)) | ((with_reducible refine gate_dst (N := 10) rfl ?_); refine box_event ?hg (N := 10) ?hd (cs := #[.int .u64 0, .int .u64 0]) (t := 39) ?hr ?_; (case hd => rfl); (case hg => rfl); (case hr => first | (go_simp; done) | (go_simp; rfl)); intro gb159 hg w12 hbox hb; have n0_ := Aside0.mk (below_step (by repeat (first | (with_reducible first | exact HB.out | apply below_alloc | apply pw_below_drewN | apply below_drew1) | exact HB.out)) hb); have n1_ := Aside0.mk (hbox); have n2_ := Aside0.mk ((by rw [hg]; exact (below_size (by repeat (first | (with_reducible first | exact HB.out | apply below_alloc | apply pw_below_drewN | apply below_drew1) | exact HB.out))) : w.heap.size ≤ gb159)); have n3_ := Aside0.mk ((by rw [hg]; exact (below_size (by repeat (first | (with_reducible first | exact HB.out | apply below_alloc | apply pw_below_drewN | apply below_drew1) | exact HB.out))) : w.heap.size ≤ gb159)); clear HB; have HB := n0_; have BK159 := n1_; have GW159 := n2_; have GE159 := n3_; clear n0_ n1_ n2_ n3_; clear hb hbox hg; have hcz13_0 : w12.cell? ⟨gb159, 0, none⟩ = some (.int .u64 0) := (blk_cell BK159.out 0).trans rfl; have hcz13_1 : w12.cell? ⟨gb159, 1, none⟩ = some (.int .u64 0) := (blk_cell BK159.out 1).trans rfl; have hfz13_0 := blk_frozen BK159.out 0; have hfz13_1 := blk_frozen BK159.out 1) | ((with_reducible refine gate_callee (f := 29) rfl ?_); refine goesL_ (some 27) rfl rfl Tryd.func29 (by kernel_rfl) rfl #[.agg #[.int .u64 t156, .int .u64 t157], .int .u64 a2] rfl (by (try simp only [List.map_toArray, List.map_cons, List.map_nil]); first | done | rfl | (simp only [List.length_drop, List.length_take]; rfl)) ?_; (with_reducible refine (linhayref02_Div.calls k t156 t157 a2 t160 t161 t162 t163 _ A7.out).mono ?_); rintro e w14 ⟨rfl, hb⟩; refine ⟨_, rfl, ?_⟩; have n0_ := Aside0.mk (blk_below (g := gb159) (o := .cells #[.int .u64 t156, .int .u64 t157] 39 (0, 0)) (by (with_reducible repeat (first | refine blk_drewN ?_ _ | refine blk_drew ?_ | refine blk_alloc ?_ _)); refine blk_put (cs := #[.int .u64 t156, .int .u64 0]) ?_ 1 _ rfl; (with_reducible repeat (first | refine blk_drewN ?_ _ | refine blk_drew ?_ | refine blk_alloc ?_ _)); refine blk_put (cs := #[.int .u64 0, .int .u64 0]) ?_ 0 _ rfl; (with_reducible repeat (first | refine blk_drewN ?_ _ | refine blk_drew ?_ | refine blk_alloc ?_ _)); exact BK159.out) hb); have n1_ := Aside0.mk (below_step (by repeat (first | (with_reducible first | exact HB.out | apply below_alloc | apply pw_below_drewN | apply below_drew1 | refine below_set ?_ GE159.out) | exact HB.out)) hb); clear BK159; clear HB; have BK159 := n0_; have HB := n1_; clear n0_ n1_; (try clear hb); (try clear hb2); (try clear hk); (try clear hi)) | ((with_reducible refine gate_dst (N := 12) rfl ?_); refine box_event ?hg (N := 12) ?hd (cs := #[.int .u64 0, .int .u64 0]) (t := 39) ?hr ?_; (case hd => rfl); (case hg => rfl); (case hr => first | (go_simp; done) | (go_simp; rfl)); intro gb164 hg w15 hbox hb; have n0_ := Aside0.mk (blk_below (g := gb159) (o := .cells #[.int .u64 t156, .int .u64 t157] 39 (0, 0)) (by (with_reducible repeat (first | refine blk_drewN ?_ _ | refine blk_drew ?_ | refine blk_alloc ?_ _)); exact BK159.out) hb); have n1_ := Aside0.mk (below_step (by repeat (first | (with_reducible first | exact HB.out | apply below_alloc | apply pw_below_drewN | apply below_drew1 | refine below_set ?_ GE159.out) | exact HB.out)) hb); have n2_ := Aside0.mk (hbox); have n3_ := Aside0.mk ((by rw [hg]; exact (below_size (by repeat (first | (with_reducible first | exact HB.out | apply below_alloc | apply pw_below_drewN | apply below_drew1 | refine below_set ?_ GE159.out) | exact HB.out))) : w.heap.size ≤ gb164)); have n4_ := Aside0.mk ((by rw [hg]; exact (below_size (by repeat (first | (with_reducible first | exact HB.out | apply below_alloc | apply pw_below_drewN | apply below_drew1 | refine below_set ?_ GE159.out) | exact HB.out))) : w.heap.size ≤ gb164)); have n5_ := Aside0.mk ((by rw [hg]; exact Nat.ne_of_lt (blk_lt (g := gb159) (o := .cells #[.int .u64 t156, .int .u64 t157] 39 (0, 0)) (by (with_reducible repeat (first | refine blk_drewN ?_ _ | refine blk_drew ?_ | refine blk_alloc ?_ _)); exact BK159.out)) : gb159 ≠ gb164)); have n6_ := Aside0.mk ((by rw [hg]; exact Nat.ne_of_gt (blk_lt (g := gb159) (o := .cells #[.int .u64 t156, .int .u64 t157] 39 (0, 0)) (by (with_reducible repeat (first | refine blk_drewN ?_ _ | refine blk_drew ?_ | refine blk_alloc ?_ _)); exact BK159.out)) : gb164 ≠ gb159)); clear BK159; clear HB; have BK159 := n0_; have HB := n1_; have BK164 := n2_; have GW164 := n3_; have GE164 := n4_; have NB159_164 := n5_; have NB164_159 := n6_; clear n0_ n1_ n2_ n3_ n4_ n5_ n6_; clear hb hbox hg; have hnb16 := NB164_159.out; have hnc16 := NB159_164.out; have hcz17_0 : w15.cell? ⟨gb164, 0, none⟩ = some (.int .u64 0) := (blk_cell BK164.out 0).trans rfl; have hcz17_1 : w15.cell? ⟨gb164, 1, none⟩ = some (.int .u64 0) := (blk_cell BK164.out 1).trans rfl; have hfz17_0 := blk_frozen BK164.out 0; have hfz17_1 := blk_frozen BK164.out 1) | (go_at_call 21; (with_reducible refine (linhayref02_Mul.calls a0 a1 t154 t155 _ A5.out).mono ?_); rintro e w10 ⟨rfl, hb⟩; have n0_ := Aside0.mk (below_step (by repeat (first | (with_reducible first | exact HB.out | apply below_alloc | apply pw_below_drewN | apply below_drew1) | exact HB.out)) hb); clear HB; have HB := n0_; clear n0_; (try clear hb); (try clear hb2); (try clear hk); (try clear hi)) | (go_at_call 36; (with_reducible refine (linhayref02_Add.calls t154 t155 0 a3 t156 t157 true _ A6.out).mono ?_); rintro e w11 ⟨rfl, hb⟩; have n0_ := Aside0.mk (below_step (by repeat (first | (with_reducible first | exact HB.out | apply below_alloc | apply pw_below_drewN | apply below_drew1) | exact HB.out)) hb); clear HB; have HB := n0_; clear n0_; (try clear hb); (try clear hb2); (try clear hk); (try clear hi)) | (go_at_call 29; (with_reducible refine (linhayref02_Div.calls k t156 t157 a2 t160 t161 t162 t163 _ A7.out).mono ?_); rintro e w14 ⟨rfl, hb⟩; have n0_ := Aside0.mk (blk_below (g := gb159) (o := .cells #[.int .u64 t156, .int .u64 t157] 39 (0, 0)) (by (with_reducible repeat (first | refine blk_drewN ?_ _ | refine blk_drew ?_ | refine blk_alloc ?_ _)); refine blk_put (cs := #[.int .u64 t156, .int .u64 0]) ?_ 1 _ rfl; (with_reducible repeat (first | refine blk_drewN ?_ _ | refine blk_drew ?_ | refine blk_alloc ?_ _)); refine blk_put (cs := #[.int .u64 0, .int .u64 0]) ?_ 0 _ rfl; (with_reducible repeat (first | refine blk_drewN ?_ _ | refine blk_drew ?_ | refine blk_alloc ?_ _)); exact BK159.out) hb); have n1_ := Aside0.mk (below_step (by repeat (first | (with_reducible first | exact HB.out | apply below_alloc | apply pw_below_drewN | apply below_drew1 | refine below_set ?_ GE159.out) | exact HB.out)) hb); clear BK159; clear HB; have BK159 := n0_; have HB := n1_; clear n0_ n1_; (try clear hb); (try clear hb2); (try clear hk); (try clear hi)))
      go_ret2
      exact ⟨by first | rfl | (simp [errW_none, errW_some] <;> rfl) | (simp [*, errW_none, errW_some] <;> rfl), by repeat (first | (with_reducible first | exact HB.out | apply below_alloc | apply pw_below_drewN | apply below_drew1 | refine below_set ?_ GE159.out | refine below_set ?_ GE164.out) | exact HB.out)⟩
    · replace c9 := Bool.eq_false_iff.mpr c9
      subst c9
      have H1 : (if t160 > 0 then (some (0, 10)) else (some (t161, 0))) = some (r1, r2) := by rw [if_neg (show ¬ (false = true) by decide)] at H; exact H
      clear H
      have H := H1
      clear H1
      by_cases c18 : t160 > 0
      · rw [if_pos c18] at H
        have c18b0 : decide (0 < t160) = true := decide_eq_true c18
        clear c18
        simp only [Option.some.injEq, Prod.mk.injEq] at H
        obtain ⟨rfl, rfl⟩ := H
        go_enter Tryd.func32, Tryd.ntmps32
        go_wp2_with (first | ((with_reducible refine gate_callee (f := 21) rfl ?_); refine goesL_ (some 18) rfl rfl Tryd.func21 (by kernel_rfl) rfl #[.int .u64 a0, .int .u64 a1] rfl (by (try simp only [List.map_toArray, List.map_cons, List.map_nil]); first | done | rfl | (simp only [List.length_drop, List.length_take]; rfl)) ?_; (with_reducible refine (linhayref02_Mul.calls a0 a1 t154 t155 _ A5.out).mono ?_); rintro e w19 ⟨rfl, hb⟩; refine ⟨_, rfl, ?_⟩; have n0_ := Aside0.mk (below_step (by repeat (first | (with_reducible first | exact HB.out | apply below_alloc | apply pw_below_drewN | apply below_drew1) | exact HB.out)) hb); clear HB; have HB := n0_; clear n0_; (try clear hb); (try clear hb2); (try clear hk); (try clear hi)) | ((with_reducible refine gate_callee (f := 36) rfl ?_); refine goesL_ (some 21) rfl rfl Tryd.func36 (by kernel_rfl) rfl #[.agg #[.int .u64 t154, .int .u64 t155], .agg #[.int .u64 0, .int .u64 a3]] rfl (by (try simp only [List.map_toArray, List.map_cons, List.map_nil]); first | done | rfl | (simp only [List.length_drop, List.length_take]; rfl)) ?_; (with_reducible refine (linhayref02_Add.calls t154 t155 0 a3 t156 t157 false _ A6.out).mono ?_); rintro e w20 ⟨rfl, hb⟩; refine ⟨_, rfl, ?_⟩; have n0_ := Aside0.mk (below_step (by repeat (first | (with_reducible first | exact HB.out | apply below_alloc | apply pw_below_drewN | apply below_drew1) | exact HB.out)) hb); clear HB; have HB := n0_; clear n0_; (try clear hb); (try clear hb2); (try clear hk); (try clear hi)) | ((with_reducible refine gate_dst (N := 10) rfl ?_); refine box_event ?hg (N := 10) ?hd (cs := #[.int .u64 0, .int .u64 0]) (t := 39) ?hr ?_; (case hd => rfl); (case hg => rfl); (case hr => first | (go_simp; done) | (go_simp; rfl)); intro gb159 hg w21 hbox hb; have n0_ := Aside0.mk (below_step (by repeat (first | (with_reducible first | exact HB.out | apply below_alloc | apply pw_below_drewN | apply below_drew1) | exact HB.out)) hb); have n1_ := Aside0.mk (hbox); have n2_ := Aside0.mk ((by rw [hg]; exact (below_size (by repeat (first | (with_reducible first | exact HB.out | apply below_alloc | apply pw_below_drewN | apply below_drew1) | exact HB.out))) : w.heap.size ≤ gb159)); have n3_ := Aside0.mk ((by rw [hg]; exact (below_size (by repeat (first | (with_reducible first | exact HB.out | apply below_alloc | apply pw_below_drewN | apply below_drew1) | exact HB.out))) : w.heap.size ≤ gb159)); clear HB; have HB := n0_; have BK159 := n1_; have GW159 := n2_; have GE159 := n3_; clear n0_ n1_ n2_ n3_; clear hb hbox hg; have hcz22_0 : w21.cell? ⟨gb159, 0, none⟩ = some (.int .u64 0) := (blk_cell BK159.out 0).trans rfl; have hcz22_1 : w21.cell? ⟨gb159, 1, none⟩ = some (.int .u64 0) := (blk_cell BK159.out 1).trans rfl; have hfz22_0 := blk_frozen BK159.out 0; have hfz22_1 := blk_frozen BK159.out 1) | ((with_reducible refine gate_callee (f := 29) rfl ?_); refine goesL_ (some 27) rfl rfl Tryd.func29 (by kernel_rfl) rfl #[.agg #[.int .u64 t156, .int .u64 t157], .int .u64 a2] rfl (by (try simp only [List.map_toArray, List.map_cons, List.map_nil]); first | done | rfl | (simp only [List.length_drop, List.length_take]; rfl)) ?_; (with_reducible refine (linhayref02_Div.calls k t156 t157 a2 t160 t161 t162 t163 _ A7.out).mono ?_); rintro e w23 ⟨rfl, hb⟩; refine ⟨_, rfl, ?_⟩; have n0_ := Aside0.mk (blk_below (g := gb159) (o := .cells #[.int .u64 t156, .int .u64 t157] 39 (0, 0)) (by (with_reducible repeat (first | refine blk_drewN ?_ _ | refine blk_drew ?_ | refine blk_alloc ?_ _)); refine blk_put (cs := #[.int .u64 t156, .int .u64 0]) ?_ 1 _ rfl; (with_reducible repeat (first | refine blk_drewN ?_ _ | refine blk_drew ?_ | refine blk_alloc ?_ _)); refine blk_put (cs := #[.int .u64 0, .int .u64 0]) ?_ 0 _ rfl; (with_reducible repeat (first | refine blk_drewN ?_ _ | refine blk_drew ?_ | refine blk_alloc ?_ _)); exact BK159.out) hb); have n1_ := Aside0.mk (below_step (by repeat (first | (with_reducible first | exact HB.out | apply below_alloc | apply pw_below_drewN | apply below_drew1 | refine below_set ?_ GE159.out) | exact HB.out)) hb); clear BK159; clear HB; have BK159 := n0_; have HB := n1_; clear n0_ n1_; (try clear hb); (try clear hb2); (try clear hk); (try clear hi)) | ((with_reducible refine gate_dst (N := 12) rfl ?_); refine box_event ?hg (N := 12) ?hd (cs := #[.int .u64 0, .int .u64 0]) (t := 39) ?hr ?_; (case hd => rfl); (case hg => rfl); (case hr => first | (go_simp; done) | (go_simp; rfl)); intro gb164 hg w24 hbox hb; have n0_ := Aside0.mk (blk_below (g := gb159) (o := .cells #[.int .u64 t156, .int .u64 t157] 39 (0, 0)) (by (with_reducible repeat (first | refine blk_drewN ?_ _ | refine blk_drew ?_ | refine blk_alloc ?_ _)); exact BK159.out) hb); have n1_ := Aside0.mk (below_step (by repeat (first | (with_reducible first | exact HB.out | apply below_alloc | apply pw_below_drewN | apply below_drew1 | refine below_set ?_ GE159.out) | exact HB.out)) hb); have n2_ := Aside0.mk (hbox); have n3_ := Aside0.mk ((by rw [hg]; exact (below_size (by repeat (first | (with_reducible first | exact HB.out | apply below_alloc | apply pw_below_drewN | apply below_drew1 | refine below_set ?_ GE159.out) | exact HB.out))) : w.heap.size ≤ gb164)); have n4_ := Aside0.mk ((by rw [hg]; exact (below_size (by repeat (first | (with_reducible first | exact HB.out | apply below_alloc | apply pw_below_drewN | apply below_drew1 | refine below_set ?_ GE159.out) | exact HB.out))) : w.heap.size ≤ gb164)); have n5_ := Aside0.mk ((by rw [hg]; exact Nat.ne_of_lt (blk_lt (g := gb159) (o := .cells #[.int .u64 t156, .int .u64 t157] 39 (0, 0)) (by (with_reducible repeat (first | refine blk_drewN ?_ _ | refine blk_drew ?_ | refine blk_alloc ?_ _)); exact BK159.out)) : gb159 ≠ gb164)); have n6_ := Aside0.mk ((by rw [hg]; exact Nat.ne_of_gt (blk_lt (g := gb159) (o := .cells #[.int .u64 t156, .int .u64 t157] 39 (0, 0)) (by (with_reducible repeat (first | refine blk_drewN ?_ _ | refine blk_drew ?_ | refine blk_alloc ?_ _)); exact BK159.out)) : gb164 ≠ gb159)); clear BK159; clear HB; have BK159 := n0_; have HB := n1_; have BK164 := n2_; have GW164 := n3_; have GE164 := n4_; have NB159_164 := n5_; have NB164_159 := n6_; clear n0_ n1_ n2_ n3_ n4_ n5_ n6_; clear hb hbox hg; have hnb25 := NB164_159.out; have hnc25 := NB159_164.out; have hcz26_0 : w24.cell? ⟨gb164, 0, none⟩ = some (.int .u64 0) := (blk_cell BK164.out 0).trans rfl; have hcz26_1 : w24.cell? ⟨gb164, 1, none⟩ = some (.int .u64 0) := (blk_cell BK164.out 1).trans rfl; have hfz26_0 := blk_frozen BK164.out 0; have hfz26_1 := blk_frozen BK164.out 1) | (go_at_call 21; (with_reducible refine (linhayref02_Mul.calls a0 a1 t154 t155 _ A5.out).mono ?_); rintro e w19 ⟨rfl, hb⟩; have n0_ := Aside0.mk (below_step (by repeat (first | (with_reducible first | exact HB.out | apply below_alloc | apply pw_below_drewN | apply below_drew1) | exact HB.out)) hb); clear HB; have HB := n0_; clear n0_; (try clear hb); (try clear hb2); (try clear hk); (try clear hi)) | (go_at_call 36; (with_reducible refine (linhayref02_Add.calls t154 t155 0 a3 t156 t157 false _ A6.out).mono ?_); rintro e w20 ⟨rfl, hb⟩; have n0_ := Aside0.mk (below_step (by repeat (first | (with_reducible first | exact HB.out | apply below_alloc | apply pw_below_drewN | apply below_drew1) | exact HB.out)) hb); clear HB; have HB := n0_; clear n0_; (try clear hb); (try clear hb2); (try clear hk); (try clear hi)) | (go_at_call 29; (with_reducible refine (linhayref02_Div.calls k t156 t157 a2 t160 t161 t162 t163 _ A7.out).mono ?_); rintro e w23 ⟨rfl, hb⟩; have n0_ := Aside0.mk (blk_below (g := gb159) (o := .cells #[.int .u64 t156, .int .u64 t157] 39 (0, 0)) (by (with_reducible repeat (first | refine blk_drewN ?_ _ | refine blk_drew ?_ | refine blk_alloc ?_ _)); refine blk_put (cs := #[.int .u64 t156, .int .u64 0]) ?_ 1 _ rfl; (with_reducible repeat (first | refine blk_drewN ?_ _ | refine blk_drew ?_ | refine blk_alloc ?_ _)); refine blk_put (cs := #[.int .u64 0, .int .u64 0]) ?_ 0 _ rfl; (with_reducible repeat (first | refine blk_drewN ?_ _ | refine blk_drew ?_ | refine blk_alloc ?_ _)); exact BK159.out) hb); have n1_ := Aside0.mk (below_step (by repeat (first | (with_reducible first | exact HB.out | apply below_alloc | apply pw_below_drewN | apply below_drew1 | refine below_set ?_ GE159.out) | exact HB.out)) hb); clear BK159; clear HB; have BK159 := n0_; have HB := n1_; clear n0_ n1_; (try clear hb); (try clear hb2); (try clear hk); (try clear hi)))
        go_ret2
        exact ⟨by first | rfl | (simp [errW_none, errW_some] <;> rfl) | (simp [*, errW_none, errW_some] <;> rfl), by repeat (first | (with_reducible first | exact HB.out | apply below_alloc | apply pw_below_drewN | apply below_drew1 | refine below_set ?_ GE159.out | refine below_set ?_ GE164.out) | exact HB.out)⟩
      · rw [if_neg c18] at H
        have c18b0 : decide (0 < t160) = false := decide_eq_false c18
        clear c18
        simp only [Option.some.injEq, Prod.mk.injEq] at H
        obtain ⟨rfl, rfl⟩ := H
        go_enter Tryd.func32, Tryd.ntmps32
        go_wp2_with (first | ((with_reducible refine gate_callee (f := 21) rfl ?_); refine goesL_ (some 18) rfl rfl Tryd.func21 (by kernel_rfl) rfl #[.int .u64 a0, .int .u64 a1] rfl (by (try simp only [List.map_toArray, List.map_cons, List.map_nil]); first | done | rfl | (simp only [List.length_drop, List.length_take]; rfl)) ?_; (with_reducible refine (linhayref02_Mul.calls a0 a1 t154 t155 _ A5.out).mono ?_); rintro e w27 ⟨rfl, hb⟩; refine ⟨_, rfl, ?_⟩; have n0_ := Aside0.mk (below_step (by repeat (first | (with_reducible first | exact HB.out | apply below_alloc | apply pw_below_drewN | apply below_drew1) | exact HB.out)) hb); clear HB; have HB := n0_; clear n0_; (try clear hb); (try clear hb2); (try clear hk); (try clear hi)) | ((with_reducible refine gate_callee (f := 36) rfl ?_); refine goesL_ (some 21) rfl rfl Tryd.func36 (by kernel_rfl) rfl #[.agg #[.int .u64 t154, .int .u64 t155], .agg #[.int .u64 0, .int .u64 a3]] rfl (by (try simp only [List.map_toArray, List.map_cons, List.map_nil]); first | done | rfl | (simp only [List.length_drop, List.length_take]; rfl)) ?_; (with_reducible refine (linhayref02_Add.calls t154 t155 0 a3 t156 t157 false _ A6.out).mono ?_); rintro e w28 ⟨rfl, hb⟩; refine ⟨_, rfl, ?_⟩; have n0_ := Aside0.mk (below_step (by repeat (first | (with_reducible first | exact HB.out | apply below_alloc | apply pw_below_drewN | apply below_drew1) | exact HB.out)) hb); clear HB; have HB := n0_; clear n0_; (try clear hb); (try clear hb2); (try clear hk); (try clear hi)) | ((with_reducible refine gate_dst (N := 10) rfl ?_); refine box_event ?hg (N := 10) ?hd (cs := #[.int .u64 0, .int .u64 0]) (t := 39) ?hr ?_; (case hd => rfl); (case hg => rfl); (case hr => first | (go_simp; done) | (go_simp; rfl)); intro gb159 hg w29 hbox hb; have n0_ := Aside0.mk (below_step (by repeat (first | (with_reducible first | exact HB.out | apply below_alloc | apply pw_below_drewN | apply below_drew1) | exact HB.out)) hb); have n1_ := Aside0.mk (hbox); have n2_ := Aside0.mk ((by rw [hg]; exact (below_size (by repeat (first | (with_reducible first | exact HB.out | apply below_alloc | apply pw_below_drewN | apply below_drew1) | exact HB.out))) : w.heap.size ≤ gb159)); have n3_ := Aside0.mk ((by rw [hg]; exact (below_size (by repeat (first | (with_reducible first | exact HB.out | apply below_alloc | apply pw_below_drewN | apply below_drew1) | exact HB.out))) : w.heap.size ≤ gb159)); clear HB; have HB := n0_; have BK159 := n1_; have GW159 := n2_; have GE159 := n3_; clear n0_ n1_ n2_ n3_; clear hb hbox hg; have hcz30_0 : w29.cell? ⟨gb159, 0, none⟩ = some (.int .u64 0) := (blk_cell BK159.out 0).trans rfl; have hcz30_1 : w29.cell? ⟨gb159, 1, none⟩ = some (.int .u64 0) := (blk_cell BK159.out 1).trans rfl; have hfz30_0 := blk_frozen BK159.out 0; have hfz30_1 := blk_frozen BK159.out 1) | ((with_reducible refine gate_callee (f := 29) rfl ?_); refine goesL_ (some 27) rfl rfl Tryd.func29 (by kernel_rfl) rfl #[.agg #[.int .u64 t156, .int .u64 t157], .int .u64 a2] rfl (by (try simp only [List.map_toArray, List.map_cons, List.map_nil]); first | done | rfl | (simp only [List.length_drop, List.length_take]; rfl)) ?_; (with_reducible refine (linhayref02_Div.calls k t156 t157 a2 t160 t161 t162 t163 _ A7.out).mono ?_); rintro e w31 ⟨rfl, hb⟩; refine ⟨_, rfl, ?_⟩; have n0_ := Aside0.mk (blk_below (g := gb159) (o := .cells #[.int .u64 t156, .int .u64 t157] 39 (0, 0)) (by (with_reducible repeat (first | refine blk_drewN ?_ _ | refine blk_drew ?_ | refine blk_alloc ?_ _)); refine blk_put (cs := #[.int .u64 t156, .int .u64 0]) ?_ 1 _ rfl; (with_reducible repeat (first | refine blk_drewN ?_ _ | refine blk_drew ?_ | refine blk_alloc ?_ _)); refine blk_put (cs := #[.int .u64 0, .int .u64 0]) ?_ 0 _ rfl; (with_reducible repeat (first | refine blk_drewN ?_ _ | refine blk_drew ?_ | refine blk_alloc ?_ _)); exact BK159.out) hb); have n1_ := Aside0.mk (below_step (by repeat (first | (with_reducible first | exact HB.out | apply below_alloc | apply pw_below_drewN | apply below_drew1 | refine below_set ?_ GE159.out) | exact HB.out)) hb); clear BK159; clear HB; have BK159 := n0_; have HB := n1_; clear n0_ n1_; (try clear hb); (try clear hb2); (try clear hk); (try clear hi)) | ((with_reducible refine gate_dst (N := 12) rfl ?_); refine box_event ?hg (N := 12) ?hd (cs := #[.int .u64 0, .int .u64 0]) (t := 39) ?hr ?_; (case hd => rfl); (case hg => rfl); (case hr => first | (go_simp; done) | (go_simp; rfl)); intro gb164 hg w32 hbox hb; have n0_ := Aside0.mk (blk_below (g := gb159) (o := .cells #[.int .u64 t156, .int .u64 t157] 39 (0, 0)) (by (with_reducible repeat (first | refine blk_drewN ?_ _ | refine blk_drew ?_ | refine blk_alloc ?_ _)); exact BK159.out) hb); have n1_ := Aside0.mk (below_step (by repeat (first | (with_reducible first | exact HB.out | apply below_alloc | apply pw_below_drewN | apply below_drew1 | refine below_set ?_ GE159.out) | exact HB.out)) hb); have n2_ := Aside0.mk (hbox); have n3_ := Aside0.mk ((by rw [hg]; exact (below_size (by repeat (first | (with_reducible first | exact HB.out | apply below_alloc | apply pw_below_drewN | apply below_drew1 | refine below_set ?_ GE159.out) | exact HB.out))) : w.heap.size ≤ gb164)); have n4_ := Aside0.mk ((by rw [hg]; exact (below_size (by repeat (first | (with_reducible first | exact HB.out | apply below_alloc | apply pw_below_drewN | apply below_drew1 | refine below_set ?_ GE159.out) | exact HB.out))) : w.heap.size ≤ gb164)); have n5_ := Aside0.mk ((by rw [hg]; exact Nat.ne_of_lt (blk_lt (g := gb159) (o := .cells #[.int .u64 t156, .int .u64 t157] 39 (0, 0)) (by (with_reducible repeat (first | refine blk_drewN ?_ _ | refine blk_drew ?_ | refine blk_alloc ?_ _)); exact BK159.out)) : gb159 ≠ gb164)); have n6_ := Aside0.mk ((by rw [hg]; exact Nat.ne_of_gt (blk_lt (g := gb159) (o := .cells #[.int .u64 t156, .int .u64 t157] 39 (0, 0)) (by (with_reducible repeat (first | refine blk_drewN ?_ _ | refine blk_drew ?_ | refine blk_alloc ?_ _)); exact BK159.out)) : gb164 ≠ gb159)); clear BK159; clear HB; have BK159 := n0_; have HB := n1_; have BK164 := n2_; have GW164 := n3_; have GE164 := n4_; have NB159_164 := n5_; have NB164_159 := n6_; clear n0_ n1_ n2_ n3_ n4_ n5_ n6_; clear hb hbox hg; have hnb33 := NB164_159.out; have hnc33 := NB159_164.out; have hcz34_0 : w32.cell? ⟨gb164, 0, none⟩ = some (.int .u64 0) := (blk_cell BK164.out 0).trans rfl; have hcz34_1 : w32.cell? ⟨gb164, 1, none⟩ = some (.int .u64 0) := (blk_cell BK164.out 1).trans rfl; have hfz34_0 := blk_frozen BK164.out 0; have hfz34_1 := blk_frozen BK164.out 1) | (go_at_call 21; (with_reducible refine (linhayref02_Mul.calls a0 a1 t154 t155 _ A5.out).mono ?_); rintro e w27 ⟨rfl, hb⟩; have n0_ := Aside0.mk (below_step (by repeat (first | (with_reducible first | exact HB.out | apply below_alloc | apply pw_below_drewN | apply below_drew1) | exact HB.out)) hb); clear HB; have HB := n0_; clear n0_; (try clear hb); (try clear hb2); (try clear hk); (try clear hi)) | (go_at_call 36; (with_reducible refine (linhayref02_Add.calls t154 t155 0 a3 t156 t157 false _ A6.out).mono ?_); rintro e w28 ⟨rfl, hb⟩; have n0_ := Aside0.mk (below_step (by repeat (first | (with_reducible first | exact HB.out | apply below_alloc | apply pw_below_drewN | apply below_drew1) | exact HB.out)) hb); clear HB; have HB := n0_; clear n0_; (try clear hb); (try clear hb2); (try clear hk); (try clear hi)) | (go_at_call 29; (with_reducible refine (linhayref02_Div.calls k t156 t157 a2 t160 t161 t162 t163 _ A7.out).mono ?_); rintro e w31 ⟨rfl, hb⟩; have n0_ := Aside0.mk (blk_below (g := gb159) (o := .cells #[.int .u64 t156, .int .u64 t157] 39 (0, 0)) (by (with_reducible repeat (first | refine blk_drewN ?_ _ | refine blk_drew ?_ | refine blk_alloc ?_ _)); refine blk_put (cs := #[.int .u64 t156, .int .u64 0]) ?_ 1 _ rfl; (with_reducible repeat (first | refine blk_drewN ?_ _ | refine blk_drew ?_ | refine blk_alloc ?_ _)); refine blk_put (cs := #[.int .u64 0, .int .u64 0]) ?_ 0 _ rfl; (with_reducible repeat (first | refine blk_drewN ?_ _ | refine blk_drew ?_ | refine blk_alloc ?_ _)); exact BK159.out) hb); have n1_ := Aside0.mk (below_step (by repeat (first | (with_reducible first | exact HB.out | apply below_alloc | apply pw_below_drewN | apply below_drew1 | refine below_set ?_ GE159.out) | exact HB.out)) hb); clear BK159; clear HB; have BK159 := n0_; have HB := n1_; clear n0_ n1_; (try clear hb); (try clear hb2); (try clear hk); (try clear hi)))
        go_ret2
        exact ⟨by first | rfl | (simp [errW_none, errW_some] <;> rfl) | (simp [*, errW_none, errW_some] <;> rfl), by repeat (first | (with_reducible first | exact HB.out | apply below_alloc | apply pw_below_drewN | apply below_drew1 | refine below_set ?_ GE159.out | refine below_set ?_ GE164.out) | exact HB.out)⟩
  · rw [if_neg c8] at H
    have c8b0 : (t163 == 0) = false := beq_eq_false_iff_ne.mpr c8
    have c8b1 : (t163 != 0) = true := bne_iff_ne.mpr c8
    simp only [Option.some.injEq, Prod.mk.injEq] at H
    obtain ⟨rfl, rfl⟩ := H
    go_enter Tryd.func32, Tryd.ntmps32
    go_wp2_with (first | ((with_reducible refine gate_callee (f := 21) rfl ?_); refine goesL_ (some 18) rfl rfl Tryd.func21 (by kernel_rfl) rfl #[.int .u64 a0, .int .u64 a1] rfl (by (try simp only [List.map_toArray, List.map_cons, List.map_nil]); first | done | rfl | (simp only [List.length_drop, List.length_take]; rfl)) ?_; (with_reducible refine (linhayref02_Mul.calls a0 a1 t154 t155 _ A5.out).mono ?_); rintro e w35 ⟨rfl, hb⟩; refine ⟨_, rfl, ?_⟩; have n0_ := Aside0.mk (below_step (by repeat (first | (with_reducible first | exact HB.out | apply below_alloc | apply pw_below_drewN | apply below_drew1) | exact HB.out)) hb); clear HB; have HB := n0_; clear n0_; (try clear hb); (try clear hb2); (try clear hk); (try clear hi)) | ((with_reducible refine gate_callee (f := 36) rfl ?_); refine goesL_ (some 21) rfl rfl Tryd.func36 (by kernel_rfl) rfl #[.agg #[.int .u64 t154, .int .u64 t155], .agg #[.int .u64 0, .int .u64 a3]] rfl (by (try simp only [List.map_toArray, List.map_cons, List.map_nil]); first | done | rfl | (simp only [List.length_drop, List.length_take]; rfl)) ?_; (with_reducible refine (linhayref02_Add.calls t154 t155 0 a3 t156 t157 t158 _ A6.out).mono ?_); rintro e w36 ⟨rfl, hb⟩; refine ⟨_, rfl, ?_⟩; have n0_ := Aside0.mk (below_step (by repeat (first | (with_reducible first | exact HB.out | apply below_alloc | apply pw_below_drewN | apply below_drew1) | exact HB.out)) hb); clear HB; have HB := n0_; clear n0_; (try clear hb); (try clear hb2); (try clear hk); (try clear hi)) | ((with_reducible refine gate_dst (N := 10) rfl ?_); refine box_event ?hg (N := 10) ?hd (cs := #[.int .u64 0, .int .u64 0]) (t := 39) ?hr ?_; (case hd => rfl); (case hg => rfl); (case hr => first | (go_simp; done) | (go_simp; rfl)); intro gb159 hg w37 hbox hb; have n0_ := Aside0.mk (below_step (by repeat (first | (with_reducible first | exact HB.out | apply below_alloc | apply pw_below_drewN | apply below_drew1) | exact HB.out)) hb); have n1_ := Aside0.mk (hbox); have n2_ := Aside0.mk ((by rw [hg]; exact (below_size (by repeat (first | (with_reducible first | exact HB.out | apply below_alloc | apply pw_below_drewN | apply below_drew1) | exact HB.out))) : w.heap.size ≤ gb159)); have n3_ := Aside0.mk ((by rw [hg]; exact (below_size (by repeat (first | (with_reducible first | exact HB.out | apply below_alloc | apply pw_below_drewN | apply below_drew1) | exact HB.out))) : w.heap.size ≤ gb159)); clear HB; have HB := n0_; have BK159 := n1_; have GW159 := n2_; have GE159 := n3_; clear n0_ n1_ n2_ n3_; clear hb hbox hg; have hcz38_0 : w37.cell? ⟨gb159, 0, none⟩ = some (.int .u64 0) := (blk_cell BK159.out 0).trans rfl; have hcz38_1 : w37.cell? ⟨gb159, 1, none⟩ = some (.int .u64 0) := (blk_cell BK159.out 1).trans rfl; have hfz38_0 := blk_frozen BK159.out 0; have hfz38_1 := blk_frozen BK159.out 1) | ((with_reducible refine gate_callee (f := 29) rfl ?_); refine goesL_ (some 27) rfl rfl Tryd.func29 (by kernel_rfl) rfl #[.agg #[.int .u64 t156, .int .u64 t157], .int .u64 a2] rfl (by (try simp only [List.map_toArray, List.map_cons, List.map_nil]); first | done | rfl | (simp only [List.length_drop, List.length_take]; rfl)) ?_; (with_reducible refine (linhayref02_Div.calls k t156 t157 a2 t160 t161 t162 t163 _ A7.out).mono ?_); rintro e w39 ⟨rfl, hb⟩; refine ⟨_, rfl, ?_⟩; have n0_ := Aside0.mk (blk_below (g := gb159) (o := .cells #[.int .u64 t156, .int .u64 t157] 39 (0, 0)) (by (with_reducible repeat (first | refine blk_drewN ?_ _ | refine blk_drew ?_ | refine blk_alloc ?_ _)); refine blk_put (cs := #[.int .u64 t156, .int .u64 0]) ?_ 1 _ rfl; (with_reducible repeat (first | refine blk_drewN ?_ _ | refine blk_drew ?_ | refine blk_alloc ?_ _)); refine blk_put (cs := #[.int .u64 0, .int .u64 0]) ?_ 0 _ rfl; (with_reducible repeat (first | refine blk_drewN ?_ _ | refine blk_drew ?_ | refine blk_alloc ?_ _)); exact BK159.out) hb); have n1_ := Aside0.mk (below_step (by repeat (first | (with_reducible first | exact HB.out | apply below_alloc | apply pw_below_drewN | apply below_drew1 | refine below_set ?_ GE159.out) | exact HB.out)) hb); clear BK159; clear HB; have BK159 := n0_; have HB := n1_; clear n0_ n1_; (try clear hb); (try clear hb2); (try clear hk); (try clear hi)) | ((with_reducible refine gate_dst (N := 12) rfl ?_); refine box_event ?hg (N := 12) ?hd (cs := #[.int .u64 0, .int .u64 0]) (t := 39) ?hr ?_; (case hd => rfl); (case hg => rfl); (case hr => first | (go_simp; done) | (go_simp; rfl)); intro gb164 hg w40 hbox hb; have n0_ := Aside0.mk (blk_below (g := gb159) (o := .cells #[.int .u64 t156, .int .u64 t157] 39 (0, 0)) (by (with_reducible repeat (first | refine blk_drewN ?_ _ | refine blk_drew ?_ | refine blk_alloc ?_ _)); exact BK159.out) hb); have n1_ := Aside0.mk (below_step (by repeat (first | (with_reducible first | exact HB.out | apply below_alloc | apply pw_below_drewN | apply below_drew1 | refine below_set ?_ GE159.out) | exact HB.out)) hb); have n2_ := Aside0.mk (hbox); have n3_ := Aside0.mk ((by rw [hg]; exact (below_size (by repeat (first | (with_reducible first | exact HB.out | apply below_alloc | apply pw_below_drewN | apply below_drew1 | refine below_set ?_ GE159.out) | exact HB.out))) : w.heap.size ≤ gb164)); have n4_ := Aside0.mk ((by rw [hg]; exact (below_size (by repeat (first | (with_reducible first | exact HB.out | apply below_alloc | apply pw_below_drewN | apply below_drew1 | refine below_set ?_ GE159.out) | exact HB.out))) : w.heap.size ≤ gb164)); have n5_ := Aside0.mk ((by rw [hg]; exact Nat.ne_of_lt (blk_lt (g := gb159) (o := .cells #[.int .u64 t156, .int .u64 t157] 39 (0, 0)) (by (with_reducible repeat (first | refine blk_drewN ?_ _ | refine blk_drew ?_ | refine blk_alloc ?_ _)); exact BK159.out)) : gb159 ≠ gb164)); have n6_ := Aside0.mk ((by rw [hg]; exact Nat.ne_of_gt (blk_lt (g := gb159) (o := .cells #[.int .u64 t156, .int .u64 t157] 39 (0, 0)) (by (with_reducible repeat (first | refine blk_drewN ?_ _ | refine blk_drew ?_ | refine blk_alloc ?_ _)); exact BK159.out)) : gb164 ≠ gb159)); clear BK159; clear HB; have BK159 := n0_; have HB := n1_; have BK164 := n2_; have GW164 := n3_; have GE164 := n4_; have NB159_164 := n5_; have NB164_159 := n6_; clear n0_ n1_ n2_ n3_ n4_ n5_ n6_; clear hb hbox hg; have hnb41 := NB164_159.out; have hnc41 := NB159_164.out; have hcz42_0 : w40.cell? ⟨gb164, 0, none⟩ = some (.int .u64 0) := (blk_cell BK164.out 0).trans rfl; have hcz42_1 : w40.cell? ⟨gb164, 1, none⟩ = some (.int .u64 0) := (blk_cell BK164.out 1).trans rfl; have hfz42_0 := blk_frozen BK164.out 0; have hfz42_1 := blk_frozen BK164.out 1) | (go_at_call 21; (with_reducible refine (linhayref02_Mul.calls a0 a1 t154 t155 _ A5.out).mono ?_); rintro e w35 ⟨rfl, hb⟩; have n0_ := Aside0.mk (below_step (by repeat (first | (with_reducible first | exact HB.out | apply below_alloc | apply pw_below_drewN | apply below_drew1) | exact HB.out)) hb); clear HB; have HB := n0_; clear n0_; (try clear hb); (try clear hb2); (try clear hk); (try clear hi)) | (go_at_call 36; (with_reducible refine (linhayref02_Add.calls t154 t155 0 a3 t156 t157 t158 _ A6.out).mono ?_); rintro e w36 ⟨rfl, hb⟩; have n0_ := Aside0.mk (below_step (by repeat (first | (with_reducible first | exact HB.out | apply below_alloc | apply pw_below_drewN | apply below_drew1) | exact HB.out)) hb); clear HB; have HB := n0_; clear n0_; (try clear hb); (try clear hb2); (try clear hk); (try clear hi)) | (go_at_call 29; (with_reducible refine (linhayref02_Div.calls k t156 t157 a2 t160 t161 t162 t163 _ A7.out).mono ?_); rintro e w39 ⟨rfl, hb⟩; have n0_ := Aside0.mk (blk_below (g := gb159) (o := .cells #[.int .u64 t156, .int .u64 t157] 39 (0, 0)) (by (with_reducible repeat (first | refine blk_drewN ?_ _ | refine blk_drew ?_ | refine blk_alloc ?_ _)); refine blk_put (cs := #[.int .u64 t156, .int .u64 0]) ?_ 1 _ rfl; (with_reducible repeat (first | refine blk_drewN ?_ _ | refine blk_drew ?_ | refine blk_alloc ?_ _)); refine blk_put (cs := #[.int .u64 0, .int .u64 0]) ?_ 0 _ rfl; (with_reducible repeat (first | refine blk_drewN ?_ _ | refine blk_drew ?_ | refine blk_alloc ?_ _)); exact BK159.out) hb); have n1_ := Aside0.mk (below_step (by repeat (first | (with_reducible first | exact HB.out | apply below_alloc | apply pw_below_drewN | apply below_drew1 | refine below_set ?_ GE159.out) | exact HB.out)) hb); clear BK159; clear HB; have BK159 := n0_; have HB := n1_; clear n0_ n1_; (try clear hb); (try clear hb2); (try clear hk); (try clear hi)))
    go_ret2
    exact ⟨by first | rfl | (simp [errW_none, errW_some] <;> rfl) | (simp [*, errW_none, errW_some] <;> rfl), by repeat (first | (with_reducible first | exact HB.out | apply below_alloc | apply pw_below_drewN | apply below_drew1 | refine below_set ?_ GE159.out | refine below_set ?_ GE164.out) | exact HB.out)⟩

/-! ### linhayref03_Floor: function 26 -/
def linhayref03_Floor.f (k : Nat) (a0 : Int) (a1 : Int) (a2 : Int) : Option (Int × Int) := (linhayref03_part.f k a0 a1 a2 0).bind fun bt165 => (some (bt165.1, bt165.2))
theorem linhayref03_Floor.mono : ∀ a0 a1 a2 k, LeO (linhayref03_Floor.f k a0 a1 a2) (linhayref03_Floor.f (k + 1) a0 a1 a2) := by
  intro a0 a1 a2 k
  unfold linhayref03_Floor.f
  repeat' first
      | (with_reducible exact linhayref03_part.mono _ _ _ _ _)
      | (with_reducible exact LeO.refl _)
      | (with_reducible exact LeO.none _)
      | (with_reducible refine LeO.ite ?_ ?_)
      | (with_reducible refine LeO.bind ?_ (fun _ => ?_))
      | exact linhayref03_part.mono _ _ _ _ _
      | exact LeO.none _
      | refine LeO.ite ?_ ?_
      | refine LeO.bind ?_ (fun _ => ?_)
set_option maxHeartbeats 8000000 in
set_option maxRecDepth 100000 in
theorem linhayref03_Floor.calls (k : Nat) (a0 : Int) (a1 : Int) (a2 : Int) (r1 : Int) (r2 : Int) (w : World) (h : linhayref03_Floor.f k a0 a1 a2 = some (r1, r2)) :
    Calls Tryd.prog 26 #[.int .u64 a0, .int .u64 a1, .int .u64 a2] w fun e w' => e = .returned (.tuple #[.int .u64 r1, .int .i64 r2]) ∧ Below w.heap.size w w' := by
  have HB := Aside0.mk (Below.refl w.heap.size w)
  have H : ((linhayref03_part.f k a0 a1 a2 0).bind fun bt165 => (some (bt165.1, bt165.2))) = some (r1, r2) := h
  clear h
  replace H := Option.bind_eq_some_iff.mp H
  obtain ⟨⟨t165, t166⟩, A40, H⟩ := H
  replace H : (some (t165, t166)) = some (r1, r2) := H
  have A4 := Aside0.mk A40
  clear A40
  simp only [Option.some.injEq, Prod.mk.injEq] at H
  obtain ⟨rfl, rfl⟩ := H
  go_enter Tryd.func26, Tryd.ntmps26
  go_wp2_with (first | ((with_reducible refine gate_callee (f := 32) rfl ?_); refine goesL_ (some 11) rfl rfl Tryd.func32 (by kernel_rfl) rfl #[.int .u64 a0, .int .u64 a1, .int .u64 a2, .int .u64 0] rfl (by (try simp only [List.map_toArray, List.map_cons, List.map_nil]); first | done | rfl | (simp only [List.length_drop, List.length_take]; rfl)) ?_; (with_reducible refine (linhayref03_part.calls k a0 a1 a2 0 t165 t166 _ A4.out).mono ?_); rintro e w5 ⟨rfl, hb⟩; refine ⟨_, rfl, ?_⟩; have n0_ := Aside0.mk (below_step (by repeat (first | (with_reducible first | exact HB.out | apply below_alloc | apply pw_below_drewN | apply below_drew1) | exact HB.out)) hb); clear HB; have HB := n0_; clear n0_; (try clear hb); (try clear hb2); (try clear hk); (try clear hi)) | (go_at_call 32; (with_reducible refine (linhayref03_part.calls k a0 a1 a2 0 t165 t166 _ A4.out).mono ?_); rintro e w5 ⟨rfl, hb⟩; have n0_ := Aside0.mk (below_step (by repeat (first | (with_reducible first | exact HB.out | apply below_alloc | apply pw_below_drewN | apply below_drew1) | exact HB.out)) hb); clear HB; have HB := n0_; clear n0_; (try clear hb); (try clear hb2); (try clear hk); (try clear hi)))
  go_ret2
  exact ⟨by first | rfl | (simp [errW_none, errW_some] <;> rfl) | (simp [*, errW_none, errW_some] <;> rfl), by repeat (first | (with_reducible first | exact HB.out | apply below_alloc | apply pw_below_drewN | apply below_drew1) | exact HB.out)⟩

/-! ### linhayref04_Of: function 16 -/
def linhayref04_Of.f (k : Nat) (a0 : Int) (a1 : Int) : Option (Int × Int) := (linhayref03_Floor.f k a0 4294967296 a1).bind fun bt167 => (some (bt167.1, bt167.2))
theorem linhayref04_Of.mono : ∀ a0 a1 k, LeO (linhayref04_Of.f k a0 a1) (linhayref04_Of.f (k + 1) a0 a1) := by
  intro a0 a1 k
  unfold linhayref04_Of.f
  repeat' first
      | (with_reducible exact linhayref03_Floor.mono _ _ _ _)
      | (with_reducible exact LeO.refl _)
      | (with_reducible exact LeO.none _)
      | (with_reducible refine LeO.ite ?_ ?_)
      | (with_reducible refine LeO.bind ?_ (fun _ => ?_))
      | exact linhayref03_Floor.mono _ _ _ _
      | exact LeO.none _
      | refine LeO.ite ?_ ?_
      | refine LeO.bind ?_ (fun _ => ?_)
set_option maxHeartbeats 8000000 in
set_option maxRecDepth 100000 in
theorem linhayref04_Of.calls (k : Nat) (a0 : Int) (a1 : Int) (r1 : Int) (r2 : Int) (w : World) (h : linhayref04_Of.f k a0 a1 = some (r1, r2)) :
    Calls Tryd.prog 16 #[.int .u64 a0, .int .u64 a1] w fun e w' => e = .returned (.tuple #[.int .u64 r1, .int .i64 r2]) ∧ Below w.heap.size w w' := by
  have HB := Aside0.mk (Below.refl w.heap.size w)
  have H : ((linhayref03_Floor.f k a0 4294967296 a1).bind fun bt167 => (some (bt167.1, bt167.2))) = some (r1, r2) := h
  clear h
  replace H := Option.bind_eq_some_iff.mp H
  obtain ⟨⟨t167, t168⟩, A30, H⟩ := H
  replace H : (some (t167, t168)) = some (r1, r2) := H
  have A3 := Aside0.mk A30
  clear A30
  simp only [Option.some.injEq, Prod.mk.injEq] at H
  obtain ⟨rfl, rfl⟩ := H
  go_enter Tryd.func16, Tryd.ntmps16
  go_wp2_with (first | ((with_reducible refine gate_callee (f := 26) rfl ?_); refine goesL_ (some 8) rfl rfl Tryd.func26 (by kernel_rfl) rfl #[.int .u64 a0, .int .u64 4294967296, .int .u64 a1] rfl (by (try simp only [List.map_toArray, List.map_cons, List.map_nil]); first | done | rfl | (simp only [List.length_drop, List.length_take]; rfl)) ?_; (with_reducible refine (linhayref03_Floor.calls k a0 4294967296 a1 t167 t168 _ A3.out).mono ?_); rintro e w4 ⟨rfl, hb⟩; refine ⟨_, rfl, ?_⟩; have n0_ := Aside0.mk (below_step (by repeat (first | (with_reducible first | exact HB.out | apply below_alloc | apply pw_below_drewN | apply below_drew1) | exact HB.out)) hb); clear HB; have HB := n0_; clear n0_; (try clear hb); (try clear hb2); (try clear hk); (try clear hi)) | (go_at_call 26; (with_reducible refine (linhayref03_Floor.calls k a0 4294967296 a1 t167 t168 _ A3.out).mono ?_); rintro e w4 ⟨rfl, hb⟩; have n0_ := Aside0.mk (below_step (by repeat (first | (with_reducible first | exact HB.out | apply below_alloc | apply pw_below_drewN | apply below_drew1) | exact HB.out)) hb); clear HB; have HB := n0_; clear n0_; (try clear hb); (try clear hb2); (try clear hk); (try clear hi)))
  go_ret2
  exact ⟨by first | rfl | (simp [errW_none, errW_some] <;> rfl) | (simp [*, errW_none, errW_some] <;> rfl), by repeat (first | (with_reducible first | exact HB.out | apply below_alloc | apply pw_below_drewN | apply below_drew1) | exact HB.out)⟩

/-! ### linhayref05_Ratio: function 9 -/
def linhayref05_Ratio.f (k : Nat) (a0 : Int) (a1 : Int) : Option (Int) := (linhayref04_Of.f k a0 a1).bind fun bt169 => (if bt169.2 = 0 then ((linhayref05_Of.f k bt169.1).bind fun t171 => (some t171)) else (some 0))
theorem linhayref05_Ratio.mono : ∀ a0 a1 k, LeO (linhayref05_Ratio.f k a0 a1) (linhayref05_Ratio.f (k + 1) a0 a1) := by
  intro a0 a1 k
  unfold linhayref05_Ratio.f
  repeat' first
      | (with_reducible exact linhayref04_Of.mono _ _ _)
      | (with_reducible exact linhayref05_Of.mono _ _)
      | (with_reducible exact LeO.refl _)
      | (with_reducible exact LeO.none _)
      | (with_reducible refine LeO.ite ?_ ?_)
      | (with_reducible refine LeO.bind ?_ (fun _ => ?_))
      | exact linhayref04_Of.mono _ _ _
      | exact linhayref05_Of.mono _ _
      | exact LeO.none _
      | refine LeO.ite ?_ ?_
      | refine LeO.bind ?_ (fun _ => ?_)
set_option maxHeartbeats 8000000 in
set_option maxRecDepth 100000 in
theorem linhayref05_Ratio.calls (k : Nat) (a0 : Int) (a1 : Int) (r : Int) (w : World) (h : linhayref05_Ratio.f k a0 a1 = some r) :
    Calls Tryd.prog 9 #[.int .u64 a0, .int .u64 a1] w fun e w' => e = .returned (.int .u64 r) ∧ Below w.heap.size w w' := by
  have HB := Aside0.mk (Below.refl w.heap.size w)
  have H : ((linhayref04_Of.f k a0 a1).bind fun bt169 => (if bt169.2 = 0 then ((linhayref05_Of.f k bt169.1).bind fun t171 => (some t171)) else (some 0))) = some r := h
  clear h
  replace H := Option.bind_eq_some_iff.mp H
  obtain ⟨⟨t169, t170⟩, A30, H⟩ := H
  replace H : (if t170 = 0 then ((linhayref05_Of.f k t169).bind fun t171 => (some t171)) else (some 0)) = some r := H
  have A3 := Aside0.mk A30
  clear A30
  by_cases c4 : t170 = 0
  · rw [if_pos c4] at H
    have c4b0 : (t170 == 0) = true := beq_iff_eq.mpr c4
    have c4b1 : (t170 != 0) = false := bne_eq_false_iff_eq.mpr c4
    clear c4
    replace H := Option.bind_eq_some_iff.mp H
    obtain ⟨t171, A50, H⟩ := H
    replace H : (some t171) = some r := H
    have A5 := Aside0.mk A50
    clear A50
    obtain rfl := Option.some.inj H
    go_enter Tryd.func9, Tryd.ntmps9
    go_wp2_with (first | ((with_reducible refine gate_callee (f := 16) rfl ?_); refine goesL_ (some 10) rfl rfl Tryd.func16 (by kernel_rfl) rfl #[.int .u64 a0, .int .u64 a1] rfl (by (try simp only [List.map_toArray, List.map_cons, List.map_nil]); first | done | rfl | (simp only [List.length_drop, List.length_take]; rfl)) ?_; (with_reducible refine (linhayref04_Of.calls k a0 a1 t169 t170 _ A3.out).mono ?_); rintro e w6 ⟨rfl, hb⟩; refine ⟨_, rfl, ?_⟩; have n0_ := Aside0.mk (below_step (by repeat (first | (with_reducible first | exact HB.out | apply below_alloc | apply pw_below_drewN | apply below_drew1) | exact HB.out)) hb); clear HB; have HB := n0_; clear n0_; (try clear hb); (try clear hb2); (try clear hk); (try clear hi)) | ((with_reducible refine gate_callee (f := 11) rfl ?_); refine goesL_ (some 16) rfl rfl Tryd.func11 (by kernel_rfl) rfl #[.int .u64 t169] rfl (by (try simp only [List.map_toArray, List.map_cons, List.map_nil]); first | done | rfl | (simp only [List.length_drop, List.length_take]; rfl)) ?_; (with_reducible refine (linhayref05_Of.calls k t169 t171 _ A5.out).mono ?_); rintro e w7 ⟨rfl, hb⟩; refine ⟨_, rfl, ?_⟩; have n0_ := Aside0.mk (below_step (by repeat (first | (with_reducible first | exact HB.out | apply below_alloc | apply pw_below_drewN | apply below_drew1) | exact HB.out)) hb); clear HB; have HB := n0_; clear n0_; (try clear hb); (try clear hb2); (try clear hk); (try clear hi)) | (go_at_call 16; (with_reducible refine (linhayref04_Of.calls k a0 a1 t169 t170 _ A3.out).mono ?_); rintro e w6 ⟨rfl, hb⟩; have n0_ := Aside0.mk (below_step (by repeat (first | (with_reducible first | exact HB.out | apply below_alloc | apply pw_below_drewN | apply below_drew1) | exact HB.out)) hb); clear HB; have HB := n0_; clear n0_; (try clear hb); (try clear hb2); (try clear hk); (try clear hi)) | (go_at_call 11; (with_reducible refine (linhayref05_Of.calls k t169 t171 _ A5.out).mono ?_); rintro e w7 ⟨rfl, hb⟩; have n0_ := Aside0.mk (below_step (by repeat (first | (with_reducible first | exact HB.out | apply below_alloc | apply pw_below_drewN | apply below_drew1) | exact HB.out)) hb); clear HB; have HB := n0_; clear n0_; (try clear hb); (try clear hb2); (try clear hk); (try clear hi)))
    go_ret
    exact ⟨by first | rfl | (simp [errW_none, errW_some] <;> rfl) | (simp [*, errW_none, errW_some] <;> rfl), by repeat (first | (with_reducible first | exact HB.out | apply below_alloc | apply pw_below_drewN | apply below_drew1) | exact HB.out)⟩
  · rw [if_neg c4] at H
    have c4b0 : (t170 == 0) = false := beq_eq_false_iff_ne.mpr c4
    have c4b1 : (t170 != 0) = true := bne_iff_ne.mpr c4
    obtain rfl := Option.some.inj H
    go_enter Tryd.func9, Tryd.ntmps9
    go_wp2_with (first | ((with_reducible refine gate_callee (f := 16) rfl ?_); refine goesL_ (some 10) rfl rfl Tryd.func16 (by kernel_rfl) rfl #[.int .u64 a0, .int .u64 a1] rfl (by (try simp only [List.map_toArray, List.map_cons, List.map_nil]); first | done | rfl | (simp only [List.length_drop, List.length_take]; rfl)) ?_; (with_reducible refine (linhayref04_Of.calls k a0 a1 t169 t170 _ A3.out).mono ?_); rintro e w8 ⟨rfl, hb⟩; refine ⟨_, rfl, ?_⟩; have n0_ := Aside0.mk (below_step (by repeat (first | (with_reducible first | exact HB.out | apply below_alloc | apply pw_below_drewN | apply below_drew1) | exact HB.out)) hb); clear HB; have HB := n0_; clear n0_; (try clear hb); (try clear hb2); (try clear hk); (try clear hi)) | (go_at_call 16; (with_reducible refine (linhayref04_Of.calls k a0 a1 t169 t170 _ A3.out).mono ?_); rintro e w8 ⟨rfl, hb⟩; have n0_ := Aside0.mk (below_step (by repeat (first | (with_reducible first | exact HB.out | apply below_alloc | apply pw_below_drewN | apply below_drew1) | exact HB.out)) hb); clear HB; have HB := n0_; clear n0_; (try clear hb); (try clear hb2); (try clear hk); (try clear hi)))
    go_ret
    exact ⟨by first | rfl | (simp [errW_none, errW_some] <;> rfl) | (simp [*, errW_none, errW_some] <;> rfl), by repeat (first | (with_reducible first | exact HB.out | apply below_alloc | apply pw_below_drewN | apply below_drew1) | exact HB.out)⟩

end Go.Proofs.YthpkiacaemhkkaaDoor.Print
