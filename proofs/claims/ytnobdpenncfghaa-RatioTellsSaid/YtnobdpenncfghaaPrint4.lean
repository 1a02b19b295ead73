/- Lean functions that answer what Go functions of the translation answer, and the proofs of it. Written by a program of this session (wip/tools/seatprint.py), over contracts that it proved by hand. Conditions: those that each theorem says. -/
import Derived.Test.YtnobdpenncfghaaPrint0
import Derived.Test.YtnobdpenncfghaaPrint2
import Derived.Test.YtnobdpenncfghaaPrint3
namespace Go.Proofs.Ytnobdpenncfghaa.Print
open Go.RowKit Go.Proofs.YtnobdpenncfghaaW.PrintWords Go.Proofs.YtnobdpenncfghaaW.PrintLast Go.Proofs.YtnobdpenncfghaaW.PrintMore
attribute [local go_sem] max2_int min2_int max_two min_two max_three min_three max_four min_four   -- for this text's walks alone
set_option linter.unusedVariables false
set_option linter.unusedSimpArgs false

/-! ### linhayref03_Least: function 13 -/
mutual
def linhayref03_Least.l0 : Nat → List (S24) → Int → Option (Int × Bool)
  | 0, _, _ => none
  | k + 1, x0, x4 => if x4 < (x0.length : Int) then (if 0 ≤ x4 then (linhayref03_Least.l1 k x0 x4 (decide (((rd_T24 x0 x4).f1) > 0)) 0) else (none)) else (some (0, false))
def linhayref03_Least.l1 : Nat → List (S24) → Int → Bool → Int → Option (Int × Bool)
  | 0, _, _, _, _ => none
  | k + 1, x0, x4, x5, x6 => if x6 < (x0.length : Int) then (if 0 ≤ x6 then (if 0 ≤ x4 then (if x4 < (x0.length : Int) then ((linhayref03_Cmp.f k ((rd_T24 x0 x6).f0) ((rd_T24 x0 x6).f1) ((rd_T24 x0 x4).f0) ((rd_T24 x0 x4).f1)).bind fun bt211 => (if x5 = true then (if bt211.2 = 0 then (linhayref03_Least.l1 k x0 x4 (decide (bt211.1 ≥ 0)) (wrap64 (x6 + 1))) else (linhayref03_Least.l1 k x0 x4 true (wrap64 (x6 + 1)))) else (linhayref03_Least.l1 k x0 x4 false (wrap64 (x6 + 1))))) else (none)) else (none)) else (none)) else (if x5 = true then (some (x4, true)) else (linhayref03_Least.l0 k x0 (wrap64 (x4 + 1))))
end
def linhayref03_Least.f (k : Nat) (l0 : List (S24)) : Option (Int × Bool) := linhayref03_Least.l0 k l0 0
theorem linhayref03_Least.mono_l : ∀ k, (∀ y0 y1, LeO (linhayref03_Least.l0 k y0 y1) (linhayref03_Least.l0 (k + 1) y0 y1)) ∧ (∀ y0 y1 y2 y3, LeO (linhayref03_Least.l1 k y0 y1 y2 y3) (linhayref03_Least.l1 (k + 1) y0 y1 y2 y3))
  | 0 => ⟨fun _ _ r h => by simp [linhayref03_Least.l0] at h, fun _ _ _ _ r h => by simp [linhayref03_Least.l1] at h⟩
  | k + 1 => by
    obtain ⟨ih0, ih1⟩ := linhayref03_Least.mono_l k
    refine ⟨?_, ?_⟩
    · intro y0 y1
      unfold linhayref03_Least.l0
      repeat' first
      | (with_reducible exact ih0 _ _)
      | (with_reducible exact ih1 _ _ _ _)
      | (with_reducible exact linhayref03_Cmp.mono _ _ _ _ _)
      | (with_reducible exact LeO.refl _)
      | (with_reducible exact LeO.none _)
      | (with_reducible refine LeO.ite ?_ ?_)
      | (with_reducible refine LeO.bind ?_ (fun _ => ?_))
      | exact ih0 _ _
      | exact ih1 _ _ _ _
      | exact linhayref03_Cmp.mono _ _ _ _ _
      | exact LeO.none _
      | refine LeO.ite ?_ ?_
      | refine LeO.bind ?_ (fun _ => ?_)
    · intro y0 y1 y2 y3
      unfold linhayref03_Least.l1
      repeat' first
      | (with_reducible exact ih0 _ _)
      | (with_reducible exact ih1 _ _ _ _)
      | (with_reducible exact linhayref03_Cmp.mono _ _ _ _ _)
      | (with_reducible exact LeO.refl _)
      | (with_reducible exact LeO.none _)
      | (with_reducible refine LeO.ite ?_ ?_)
      | (with_reducible refine LeO.bind ?_ (fun _ => ?_))
      | exact ih0 _ _
      | exact ih1 _ _ _ _
      | exact linhayref03_Cmp.mono _ _ _ _ _
      | exact LeO.none _
      | refine LeO.ite ?_ ?_
      | refine LeO.bind ?_ (fun _ => ?_)
theorem linhayref03_Least.mono : ∀ a0 k, LeO (linhayref03_Least.f k a0) (linhayref03_Least.f (k + 1) a0) := by
  intro a0 k
  obtain ⟨ih0, ih1⟩ := linhayref03_Least.mono_l k
  unfold linhayref03_Least.f
  repeat' first
      | (with_reducible exact ih0 _ _)
      | (with_reducible exact ih1 _ _ _ _)
      | (with_reducible exact linhayref03_Cmp.mono _ _ _ _ _)
      | (with_reducible exact LeO.refl _)
      | (with_reducible exact LeO.none _)
      | (with_reducible refine LeO.ite ?_ ?_)
      | (with_reducible refine LeO.bind ?_ (fun _ => ?_))
      | exact ih0 _ _
      | exact ih1 _ _ _ _
      | exact linhayref03_Cmp.mono _ _ _ _ _
      | exact LeO.none _
      | refine LeO.ite ?_ ?_
      | refine LeO.bind ?_ (fun _ => ?_)
def linhayref03_Least.T8 : Bool × List (List Nat × List Nat) := (true, [([], []), ([], []), ([0, 1], [0, 1]), ([2], [2]), ([], []), ([], []), ([4, 5], [4, 5]), ([6], [6]), ([3, 7], [3, 7]), ([8], [8]), ([9], [9]), ([9], [9]), ([10, 8, 0, 1, 2, 3, 4, 5, 6, 7, 8, 9, 10], [10]), ([11, 12, 0, 1, 2, 3, 4, 5, 6, 7, 8, 9, 10, 11, 12], [11])])
def linhayref03_Least.B8 : List Nat := [0, 0, 3, 7, 0, 0, 48, 112, 255, 511, 1023, 1023, 2047, 8191]
theorem linhayref03_Least.tab8 : rtab .any (opsOf Try.f13 8) = linhayref03_Least.T8 := by kernel_rfl
theorem linhayref03_Least.bits8 : waitsOk linhayref03_Least.T8.2 linhayref03_Least.B8 = true := by kernel_rfl
set_option maxHeartbeats 8000000 in
set_option maxRecDepth 100000 in
theorem linhayref03_Least.calls (k : Nat) (A0 : Option Addr) (c0 : Nat) (l0 : List (S24)) (r1 : Int) (r2 : Bool) (w : World) (hr0 : Kd.C k24 w A0 l0.length l0) (hc0 : l0.length ≤ c0) (h : linhayref03_Least.f k l0 = some (r1, r2)) :
    Calls Try.prog 13 #[.slice A0 l0.length c0] w fun e w' => e = .returned (.tuple #[.int .i64 r1, .bool r2]) ∧ Below w.heap.size w w' := by
  have hu24 := Try.underlying24
  have HR0 := Aside0.mk hr0
  have HC0 := Aside0.mk hc0
  clear hr0 hc0
  have HB := Aside0.mk (Below.refl w.heap.size w)
  have H : (linhayref03_Least.l0 k l0 0) = some (r1, r2) := h
  clear h
  have H' := Aside0.mk H
  clear H
  go_enter Try.func13, Try.ntmps13
  go_wp2
  go_loopg [4] k (fun kq v4 w' => ∃ (x4_1 : Int), v4 = .int .i64 x4_1 ∧ Aside0 (linhayref03_Least.l0 kq l0 x4_1 = some (r1, r2)) ∧ Aside0 (kq ≤ k) ∧ Aside0 (Below w.heap.size w w'))
  case atStart => exact ⟨(0), (by first | rfl | (simp; done) | (simp [*]; done)), H', ⟨Nat.le_refl _⟩, ⟨by repeat (first | (with_reducible first | exact HB.out | apply below_alloc | apply pw_below_drewN | apply below_drew1) | exact HB.out)⟩⟩
  case round =>
    clear H'
    try clear c1
    obtain ⟨x4_1, rfl, HA, HK1, HB⟩ := hrel
    cases gk with
    | zero => exact absurd HA.out (by simp [linhayref03_Least.l0])
    | succ k1 =>
      have H := HA.out
      clear HA
      simp only [linhayref03_Least.l0] at H
      by_cases c2 : x4_1 < (l0.length : Int)
      · rw [if_pos c2] at H
        have c2b0 : decide (x4_1 < (l0.length : Int)) = true := decide_eq_true c2
        clear c2
        by_cases c3 : 0 ≤ x4_1
        · rw [if_pos c3] at H
          have c3b0 : decide (0 ≤ x4_1) = true := decide_eq_true c3
          clear c3
          have H' := Aside0.mk H
          clear H
          have p208 : 0 ≤ (x4_1 : Int) := of_decide_eq_true (by first | (with_reducible assumption) | assumption)
          have q208 : x4_1 < (l0.length : Int) := of_decide_eq_true (by first | (with_reducible assumption) | assumption)
          obtain ⟨ad208, e208, hx208_0, hx208_1⟩ := at_T24 HR0.out x4_1 p208 q208
          cases e208
          replace hx208_0 := (HB.out.cell (World.block_lt_of_cell? w _ hx208_0)).trans hx208_0
          replace hx208_1 := (HB.out.cell (World.block_lt_of_cell? w _ hx208_1)).trans hx208_1
          replace p208 := eq_true p208
          replace q208 := eq_true q208
          go_wp2
          go_loopg [5, 6] k1 (fun kq v5 v6 w' => ∃ (x5_2 : Bool) (x6_2 : Int), v5 = .bool x5_2 ∧ v6 = .int .i64 x6_2 ∧ Aside0 (linhayref03_Least.l1 kq l0 x4_1 x5_2 x6_2 = some (r1, r2)) ∧ Aside0 (kq ≤ k1) ∧ Aside0 (Below w.heap.size w w'))
          case atStart => exact ⟨(decide (((rd_T24 l0 x4_1).f1) > 0)), (0), (by first | rfl | (simp; done) | (simp [*]; done)), (by first | rfl | (simp; done) | (simp [*]; done)), H', ⟨Nat.le_refl _⟩, ⟨by repeat (first | (with_reducible first | exact HB.out | apply below_alloc | apply pw_below_drewN | apply below_drew1) | exact HB.out)⟩⟩
          case round =>
            clear H'
            try clear c1
            try clear c2
            try clear c2b0
            try clear p2
            try clear q2
            try clear hx2
            try clear c3
            try clear c3b0
            try clear hx208_0
            try clear hx208_1
            try clear p208
            try clear q208
            obtain ⟨x5_2, x6_2, rfl, rfl, HA, HK2, HB⟩ := hrel
            cases gk with
            | zero => exact absurd HA.out (by simp [linhayref03_Least.l1])
            | succ k2 =>
              have H := HA.out
              clear HA
              simp only [linhayref03_Least.l1] at H
              by_cases c4 : x6_2 < (l0.length : Int)
              · rw [if_pos c4] at H
                have c4b0 : decide (x6_2 < (l0.length : Int)) = true := decide_eq_true c4
                clear c4
                by_cases c5 : 0 ≤ x6_2
                · rw [if_pos c5] at H
                  have c5b0 : decide (0 ≤ x6_2) = true := decide_eq_true c5
                  clear c5
                  by_cases c6 : 0 ≤ x4_1
                  · rw [if_pos c6] at H
                    have c6b0 : decide (0 ≤ x4_1) = true := decide_eq_true c6
                    clear c6
                    by_cases c7 : x4_1 < (l0.length : Int)
                    · rw [if_pos c7] at H
                      have c7b0 : decide (x4_1 < (l0.length : Int)) = true := decide_eq_true c7
                      clear c7
                      replace H := Option.bind_eq_some_iff.mp H
                      obtain ⟨⟨t211, t212⟩, A80, H⟩ := H
                      replace H : (if x5_2 = true then (if t212 = 0 then (linhayref03_Least.l1 k2 l0 x4_1 (decide (t211 ≥ 0)) (wrap64 (x6_2 + 1))) else (linhayref03_Least.l1 k2 l0 x4_1 true (wrap64 (x6_2 + 1)))) else (linhayref03_Least.l1 k2 l0 x4_1 false (wrap64 (x6_2 + 1)))) = some (r1, r2) := H
                      have A8 := Aside0.mk A80
                      clear A80
                      by_cases c9 : x5_2 = true
                      · subst c9
                        have H1 : (if t212 = 0 then (linhayref03_Least.l1 k2 l0 x4_1 (decide (t211 ≥ 0)) (wrap64 (x6_2 + 1))) else (linhayref03_Least.l1 k2 l0 x4_1 true (wrap64 (x6_2 + 1)))) = some (r1, r2) := by rw [if_pos rfl] at H; exact H
                        clear H
                        have H := H1
                        clear H1
                        by_cases c10 : t212 = 0
                        · rw [if_pos c10] at H
                          have c10b0 : (t212 == 0) = true := beq_iff_eq.mpr c10
                          have c10b1 : (t212 != 0) = false := bne_eq_false_iff_eq.mpr c10
                          clear c10
                          have H' := Aside0.mk H
                          clear H
                          try go_wp2
                          have n0_ := Aside0.mk (below_drew1 HB.out)
                          clear HB
                          have HB := n0_
                          clear n0_
                          have p209 : 0 ≤ (x6_2 : Int) := of_decide_eq_true (by first | (with_reducible assumption) | assumption)
                          have q209 : x6_2 < (l0.length : Int) := of_decide_eq_true (by first | (with_reducible assumption) | assumption)
                          obtain ⟨ad209, e209, hx209_0, hx209_1⟩ := at_T24 HR0.out x6_2 p209 q209
                          have hw209_1 := hx209_1
                          have hw209_0 := hx209_0
                          obtain rfl : ad208 = ad209 := (by injection e209)
                          replace hx209_0 := (HB.out.cell (World.block_lt_of_cell? w _ hx209_0)).trans hx209_0
                          replace hx209_1 := (HB.out.cell (World.block_lt_of_cell? w _ hx209_1)).trans hx209_1
                          replace p209 := eq_true p209
                          replace q209 := eq_true q209
                          have p210 : 0 ≤ (x4_1 : Int) := of_decide_eq_true (by first | (with_reducible assumption) | assumption)
                          have q210 : x4_1 < (l0.length : Int) := of_decide_eq_true (by first | (with_reducible assumption) | assumption)
                          obtain ⟨ad210, e210, hx210_0, hx210_1⟩ := at_T24 HR0.out x4_1 p210 q210
                          have hw210_1 := hx210_1
                          have hw210_0 := hx210_0
                          obtain rfl : ad208 = ad210 := (by injection e210)
                          replace hx210_0 := (HB.out.cell (World.block_lt_of_cell? w _ hx210_0)).trans hx210_0
                          replace hx210_1 := (HB.out.cell (World.block_lt_of_cell? w _ hx210_1)).trans hx210_1
                          replace p210 := eq_true p210
                          replace q210 := eq_true q210
                          refine start_ (n := 14) (S := fun w' => w'.cell? (ad208.add ((x6_2).toNat * 2)) = some (.int .u64 ((rd_T24 l0 x6_2).f0)) ∧ w'.cell? ⟨(ad208.add ((x6_2).toNat * 2)).block, (ad208.add ((x6_2).toNat * 2)).off + 1, none⟩ = some (.int .u64 ((rd_T24 l0 x6_2).f1)) ∧ w'.cell? (ad208.add ((x4_1).toNat * 2)) = some (.int .u64 ((rd_T24 l0 x4_1).f0)) ∧ w'.cell? ⟨(ad208.add ((x4_1).toNat * 2)).block, (ad208.add ((x4_1).toNat * 2)).off + 1, none⟩ = some (.int .u64 ((rd_T24 l0 x4_1).f1))) (ds := []) #[false, false, false, false, false, false, false, false, false, false, false, false, false, false] (by kernel_rfl) rfl rfl ⟨((HB.out.cell (World.block_lt_of_cell? w _ hw209_0)).trans hw209_0), ((HB.out.cell (World.block_lt_of_cell? w _ hw209_1)).trans hw209_1), ((HB.out.cell (World.block_lt_of_cell? w _ hw210_0)).trans hw210_0), ((HB.out.cell (World.block_lt_of_cell? w _ hw210_1)).trans hw210_1)⟩ (fun hHeld => ?_); refine with_tabW linhayref03_Least.tab8 linhayref03_Least.bits8 (fun HT_ HW_ => ?_)
                          generalize wr.drew = w11 at HB hx209_0 hx209_1 hx210_0 hx210_1 hHeld ⊢
                          refine pure_ (i := 0) (N := some 28) (v := ?_) (a' := ?_) #[true, false, false, false, false, false, false, false, false, false, false, false, false, false] rfl rfl (any_of HT_.out (by kernel_rfl)) (fun _ _ _ h => h) (Or.inl ⟨by rfl, ?_⟩) ?_ ?_
                          rotate_left
                          · intro w'
                            go_simp
                            with_reducible rfl
                          rotate_left
                          · simp only [Act.put, List.setIfInBounds_toArray, List.set_cons_zero, List.set_cons_succ, i64_w, i32_w]
                            rfl
                          refine pure_ (i := 1) (N := some 29) (v := ?_) (a' := ?_) #[true, true, false, false, false, false, false, false, false, false, false, false, false, false] rfl rfl (any_of HT_.out (by kernel_rfl)) (fun _ _ _ h => h) (Or.inl ⟨by rfl, ?_⟩) ?_ ?_
                          rotate_left
                          · intro w'
                            go_simp
                            with_reducible rfl
                          rotate_left
                          · simp only [Act.put, List.setIfInBounds_toArray, List.set_cons_zero, List.set_cons_succ, i64_w, i32_w]
                            rfl
                          refine pure_ (i := 2) (N := some 30) (v := ?_) (a' := ?_) #[true, true, true, false, false, false, false, false, false, false, false, false, false, false] rfl rfl (any_of HT_.out (by kernel_rfl)) (fun _ _ _ h => h) (Or.inl ⟨by rfl, ?_⟩) ?_ ?_
                          rotate_left
                          · intro w'
                            go_simp
                            with_reducible rfl
                          rotate_left
                          · simp only [Act.put, List.setIfInBounds_toArray, List.set_cons_zero, List.set_cons_succ, i64_w, i32_w]
                            rfl
                          refine pure_ (i := 4) (N := some 32) (v := ?_) (a' := ?_) #[true, true, true, false, true, false, false, false, false, false, false, false, false, false] rfl rfl (any_of HT_.out (by kernel_rfl)) (fun _ _ _ h => h) (Or.inl ⟨by rfl, ?_⟩) ?_ ?_
                          rotate_left
                          · intro w'
                            go_simp
                            with_reducible rfl
                          rotate_left
                          · simp only [Act.put, List.setIfInBounds_toArray, List.set_cons_zero, List.set_cons_succ, i64_w, i32_w]
                            rfl
                          refine pure_ (i := 5) (N := some 33) (v := ?_) (a' := ?_) #[true, true, true, false, true, true, false, false, false, false, false, false, false, false] rfl rfl (any_of HT_.out (by kernel_rfl)) (fun _ _ _ h => h) (Or.inl ⟨by rfl, ?_⟩) ?_ ?_
                          rotate_left
                          · intro w'
                            go_simp
                            with_reducible rfl
                          rotate_left
                          · simp only [Act.put, List.setIfInBounds_toArray, List.set_cons_zero, List.set_cons_succ, i64_w, i32_w]
                            rfl
                          refine pure_ (i := 6) (N := some 34) (v := ?_) (a' := ?_) #[true, true, true, false, true, true, true, false, false, false, false, false, false, false] rfl rfl (any_of HT_.out (by kernel_rfl)) (fun _ _ _ h => h) (Or.inl ⟨by rfl, ?_⟩) ?_ ?_
                          rotate_left
                          · intro w'
                            go_simp
                            with_reducible rfl
                          rotate_left
                          · simp only [Act.put, List.setIfInBounds_toArray, List.set_cons_zero, List.set_cons_succ, i64_w, i32_w]
                            rfl
                          refine take_ (i := 3) (N := some 31) (v := ?_) (a' := ?_) #[true, true, true, true, true, true, true, false, false, false, false, false, false, false] rfl rfl (take_ofW HT_.out HW_.out (by kernel_rfl)) (fun _ _ _ h => h) (Or.inl ⟨by rfl, ?_⟩) hHeld ?_ ?_
                          rotate_left
                          · rintro w' ⟨s0, s1, s2, s3⟩
                            go_simp
                            with_reducible rfl
                          rotate_left
                          · simp only [Act.put, List.setIfInBounds_toArray, List.set_cons_zero, List.set_cons_succ, i64_w, i32_w]
                            rfl
                          refine take_ (i := 7) (N := some 35) (v := ?_) (a' := ?_) #[true, true, true, true, true, true, true, true, false, false, false, false, false, false] rfl rfl (take_ofW HT_.out HW_.out (by kernel_rfl)) (fun _ _ _ h => h) (Or.inl ⟨by rfl, ?_⟩) hHeld ?_ ?_
                          rotate_left
                          · rintro w' ⟨s0, s1, s2, s3⟩
                            go_simp
                            with_reducible rfl
                          rotate_left
                          · simp only [Act.put, List.setIfInBounds_toArray, List.set_cons_zero, List.set_cons_succ, i64_w, i32_w]
                            rfl
                          refine one_ (i := 8) (N := some 36) #[true, true, true, true, true, true, true, true, true, false, false, false, false, false] rfl rfl (one_of HT_.out (by kernel_rfl)) (by decide) (fun K hK => ?_)
                          refine goes_ Try.func11 (by kernel_rfl) rfl #[.agg #[.int .u64 ((rd_T24 l0 x6_2).f0), .int .u64 ((rd_T24 l0 x6_2).f1)], .agg #[.int .u64 ((rd_T24 l0 x4_1).f0), .int .u64 ((rd_T24 l0 x4_1).f1)]] (by rfl) rfl rfl (by (try simp only [List.map_toArray, List.map_cons, List.map_nil]); first | done | rfl | (simp only [List.length_drop, List.length_take]; rfl)) ?_
                          with_reducible refine (linhayref03_Cmp.calls k2 ((rd_T24 l0 x6_2).f0) ((rd_T24 l0 x6_2).f1) ((rd_T24 l0 x4_1).f0) ((rd_T24 l0 x4_1).f1) t211 t212 _ A8.out).mono ?_
                          rintro e w12 ⟨rfl, hb⟩
                          refine ⟨_, rfl, ?_⟩
                          have n0_ := Aside0.mk (below_step (by repeat (first | (with_reducible first | exact HB.out | apply below_alloc | apply pw_below_drewN | apply below_drew1) | exact HB.out)) hb)
                          clear HB
                          have HB := n0_
                          clear n0_
                          (try clear hb)
                          (try clear hb2)
                          (try clear hk)
                          (try clear hi)
                          refine hK.out _ _ ⟨((HB.out.cell (World.block_lt_of_cell? w _ hw209_0)).trans hw209_0), ((HB.out.cell (World.block_lt_of_cell? w _ hw209_1)).trans hw209_1), ((HB.out.cell (World.block_lt_of_cell? w _ hw210_0)).trans hw210_0), ((HB.out.cell (World.block_lt_of_cell? w _ hw210_1)).trans hw210_1)⟩ (fun hHeld => ?_)
                          clear hK K
                          refine norm_ (a' := ?_) ?_ ?_
                          rotate_left
                          · show Act.put _ (some 36) _ = _
                            simp only [Act.put, List.setIfInBounds_toArray, List.set_cons_zero, List.set_cons_succ, i64_w, i32_w]
                            rfl
                          refine pure_ (i := 9) (N := some 27) (v := ?_) (a' := ?_) #[true, true, true, true, true, true, true, true, true, true, false, false, false, false] rfl rfl (any_of HT_.out (by kernel_rfl)) (fun _ _ _ h => h) (Or.inl ⟨by rfl, ?_⟩) ?_ ?_
                          rotate_left
                          · intro w'
                            go_simp
                            with_reducible rfl
                          rotate_left
                          · simp only [Act.put, List.setIfInBounds_toArray, List.set_cons_zero, List.set_cons_succ, i64_w, i32_w]
                            rfl
                          refine pure_ (i := 10) (N := some 37) (v := ?_) (a' := ?_) #[true, true, true, true, true, true, true, true, true, true, true, false, false, false] rfl rfl (any_of HT_.out (by kernel_rfl)) (fun _ _ _ h => h) (Or.inl ⟨by rfl, ?_⟩) ?_ ?_
                          rotate_left
                          · intro w'
                            go_simp
                            with_reducible rfl
                          rotate_left
                          · simp only [Act.put, List.setIfInBounds_toArray, List.set_cons_zero, List.set_cons_succ, i64_w, i32_w]
                            rfl
                          refine pure_ (i := 11) (N := some 38) (v := ?_) (a' := ?_) #[true, true, true, true, true, true, true, true, true, true, true, true, false, false] rfl rfl (any_of HT_.out (by kernel_rfl)) (fun _ _ _ h => h) (Or.inl ⟨by rfl, ?_⟩) ?_ ?_
                          rotate_left
                          · intro w'
                            go_simp
                            with_reducible rfl
                          rotate_left
                          · simp only [Act.put, List.setIfInBounds_toArray, List.set_cons_zero, List.set_cons_succ, i64_w, i32_w]
                            rfl
                          refine pure_ (i := 12) (N := some 7) (v := ?_) (a' := ?_) #[true, true, true, true, true, true, true, true, true, true, true, true, true, false] rfl rfl (any_of HT_.out (by kernel_rfl)) (fun _ _ _ h => h) (Or.inl ⟨by rfl, ?_⟩) ?_ ?_
                          rotate_left
                          · intro w'
                            go_simp
                            with_reducible rfl
                          rotate_left
                          · simp only [Act.put, List.setIfInBounds_toArray, List.set_cons_zero, List.set_cons_succ, i64_w, i32_w]
                            rfl
                          refine pure_ (i := 13) (N := some 8) (v := ?_) (a' := ?_) #[true, true, true, true, true, true, true, true, true, true, true, true, true, true] rfl rfl (any_of HT_.out (by kernel_rfl)) (fun _ _ _ h => h) (Or.inl ⟨by rfl, ?_⟩) ?_ ?_
                          rotate_left
                          · intro w'
                            go_simp
                            with_reducible rfl
                          rotate_left
                          · simp only [Act.put, List.setIfInBounds_toArray, List.set_cons_zero, List.set_cons_succ, i64_w, i32_w]
                            rfl
                          refine done_ (done_of HT_.out (by kernel_rfl)) ?_
                          try go_wp2
                          go_roundg k2
                          case measure => have := HK1.out; have := HK2.out; omega
                          case rel => exact ⟨(decide (t211 ≥ 0)), (wrap64 (x6_2 + 1)), (by first | rfl | (simp; done) | (simp [*]; done)), (by first | rfl | (simp; done) | (simp [*]; done)), H', ⟨by have := HK1.out; have := HK2.out; omega⟩, ⟨by repeat (first | (with_reducible first | exact HB.out | apply below_alloc | apply pw_below_drewN | apply below_drew1) | exact HB.out)⟩⟩
                        · rw [if_neg c10] at H
                          have c10b0 : (t212 == 0) = false := beq_eq_false_iff_ne.mpr c10
                          have c10b1 : (t212 != 0) = true := bne_iff_ne.mpr c10
                          have H' := Aside0.mk H
                          clear H
                          try go_wp2
                          have n0_ := Aside0.mk (below_drew1 HB.out)
                          clear HB
                          have HB := n0_
                          clear n0_
                          have p209 : 0 ≤ (x6_2 : Int) := of_decide_eq_true (by first | (with_reducible assumption) | assumption)
                          have q209 : x6_2 < (l0.length : Int) := of_decide_eq_true (by first | (with_reducible assumption) | assumption)
                          obtain ⟨ad209, e209, hx209_0, hx209_1⟩ := at_T24 HR0.out x6_2 p209 q209
                          have hw209_1 := hx209_1
                          have hw209_0 := hx209_0
                          obtain rfl : ad208 = ad209 := (by injection e209)
                          replace hx209_0 := (HB.out.cell (World.block_lt_of_cell? w _ hx209_0)).trans hx209_0
                          replace hx209_1 := (HB.out.cell (World.block_lt_of_cell? w _ hx209_1)).trans hx209_1
                          replace p209 := eq_true p209
                          replace q209 := eq_true q209
                          have p210 : 0 ≤ (x4_1 : Int) := of_decide_eq_true (by first | (with_reducible assumption) | assumption)
                          have q210 : x4_1 < (l0.length : Int) := of_decide_eq_true (by first | (with_reducible assumption) | assumption)
                          obtain ⟨ad210, e210, hx210_0, hx210_1⟩ := at_T24 HR0.out x4_1 p210 q210
                          have hw210_1 := hx210_1
                          have hw210_0 := hx210_0
                          obtain rfl : ad208 = ad210 := (by injection e210)
                          replace hx210_0 := (HB.out.cell (World.block_lt_of_cell? w _ hx210_0)).trans hx210_0
                          replace hx210_1 := (HB.out.cell (World.block_lt_of_cell? w _ hx210_1)).trans hx210_1
                          replace p210 := eq_true p210
                          replace q210 := eq_true q210
                          refine start_ (n := 14) (S := fun w' => w'.cell? (ad208.add ((x6_2).toNat * 2)) = some (.int .u64 ((rd_T24 l0 x6_2).f0)) ∧ w'.cell? ⟨(ad208.add ((x6_2).toNat * 2)).block, (ad208.add ((x6_2).toNat * 2)).off + 1, none⟩ = some (.int .u64 ((rd_T24 l0 x6_2).f1)) ∧ w'.cell? (ad208.add ((x4_1).toNat * 2)) = some (.int .u64 ((rd_T24 l0 x4_1).f0)) ∧ w'.cell? ⟨(ad208.add ((x4_1).toNat * 2)).block, (ad208.add ((x4_1).toNat * 2)).off + 1, none⟩ = some (.int .u64 ((rd_T24 l0 x4_1).f1))) (ds := []) #[false, false, false, false, false, false, false, false, false, false, false, false, false, false] (by kernel_rfl) rfl rfl ⟨((HB.out.cell (World.block_lt_of_cell? w _ hw209_0)).trans hw209_0), ((HB.out.cell (World.block_lt_of_cell? w _ hw209_1)).trans hw209_1), ((HB.out.cell (World.block_lt_of_cell? w _ hw210_0)).trans hw210_0), ((HB.out.cell (World.block_lt_of_cell? w _ hw210_1)).trans hw210_1)⟩ (fun hHeld => ?_); refine with_tabW linhayref03_Least.tab8 linhayref03_Least.bits8 (fun HT_ HW_ => ?_)
                          generalize wr.drew = w13 at HB hx209_0 hx209_1 hx210_0 hx210_1 hHeld ⊢
                          refine pure_ (i := 0) (N := some 28) (v := ?_) (a' := ?_) #[true, false, false, false, false, false, false, false, false, false, false, false, false, false] rfl rfl (any_of HT_.out (by kernel_rfl)) (fun _ _ _ h => h) (Or.inl ⟨by rfl, ?_⟩) ?_ ?_
                          rotate_left
                          · intro w'
                            go_simp
                            with_reducible rfl
                          rotate_left
                          · simp only [Act.put, List.setIfInBounds_toArray, List.set_cons_zero, List.set_cons_succ, i64_w, i32_w]
                            rfl
                          refine pure_ (i := 1) (N := some 29) (v := ?_) (a' := ?_) #[true, true, false, false, false, false, false, false, false, false, false, false, false, false] rfl rfl (any_of HT_.out (by kernel_rfl)) (fun _ _ _ h => h) (Or.inl ⟨by rfl, ?_⟩) ?_ ?_
                          rotate_left
                          · intro w'
                            go_simp
                            with_reducible rfl
                          rotate_left
                          · simp only [Act.put, List.setIfInBounds_toArray, List.set_cons_zero, List.set_cons_succ, i64_w, i32_w]
                            rfl
                          refine pure_ (i := 2) (N := some 30) (v := ?_) (a' := ?_) #[true, true, true, false, false, false, false, false, false, false, false, false, false, false] rfl rfl (any_of HT_.out (by kernel_rfl)) (fun _ _ _ h => h) (Or.inl ⟨by rfl, ?_⟩) ?_ ?_
                          rotate_left
                          · intro w'
                            go_simp
                            with_reducible rfl
                          rotate_left
                          · simp only [Act.put, List.setIfInBounds_toArray, List.set_cons_zero, List.set_cons_succ, i64_w, i32_w]
                            rfl
                          refine pure_ (i := 4) (N := some 32) (v := ?_) (a' := ?_) #[true, true, true, false, true, false, false, false, false, false, false, false, false, false] rfl rfl (any_of HT_.out (by kernel_rfl)) (fun _ _ _ h => h) (Or.inl ⟨by rfl, ?_⟩) ?_ ?_
                          rotate_left
                          · intro w'
                            go_simp
                            with_reducible rfl
                          rotate_left
                          · simp only [Act.put, List.setIfInBounds_toArray, List.set_cons_zero, List.set_cons_succ, i64_w, i32_w]
                            rfl
                          refine pure_ (i := 5) (N := some 33) (v := ?_) (a' := ?_) #[true, true, true, false, true, true, false, false, false, false, false, false, false, false] rfl rfl (any_of HT_.out (by kernel_rfl)) (fun _ _ _ h => h) (Or.inl ⟨by rfl, ?_⟩) ?_ ?_
                          rotate_left
                          · intro w'
                            go_simp
                            with_reducible rfl
                          rotate_left
                          · simp only [Act.put, List.setIfInBounds_toArray, List.set_cons_zero, List.set_cons_succ, i64_w, i32_w]
                            rfl
                          refine pure_ (i := 6) (N := some 34) (v := ?_) (a' := ?_) #[true, true, true, false, true, true, true, false, false, false, false, false, false, false] rfl rfl (any_of HT_.out (by kernel_rfl)) (fun _ _ _ h => h) (Or.inl ⟨by rfl, ?_⟩) ?_ ?_
                          rotate_left
                          · intro w'
                            go_simp
                            with_reducible rfl
                          rotate_left
                          · simp only [Act.put, List.setIfInBounds_toArray, List.set_cons_zero, List.set_cons_succ, i64_w, i32_w]
                            rfl
                          refine take_ (i := 3) (N := some 31) (v := ?_) (a' := ?_) #[true, true, true, true, true, true, true, false, false, false, false, false, false, false] rfl rfl (take_ofW HT_.out HW_.out (by kernel_rfl)) (fun _ _ _ h => h) (Or.inl ⟨by rfl, ?_⟩) hHeld ?_ ?_
                          rotate_left
                          · rintro w' ⟨s0, s1, s2, s3⟩
                            go_simp
                            with_reducible rfl
                          rotate_left
                          · simp only [Act.put, List.setIfInBounds_toArray, List.set_cons_zero, List.set_cons_succ, i64_w, i32_w]
                            rfl
                          refine take_ (i := 7) (N := some 35) (v := ?_) (a' := ?_) #[true, true, true, true, true, true, true, true, false, false, false, false, false, false] rfl rfl (take_ofW HT_.out HW_.out (by kernel_rfl)) (fun _ _ _ h => h) (Or.inl ⟨by rfl, ?_⟩) hHeld ?_ ?_
                          rotate_left
                          · rintro w' ⟨s0, s1, s2, s3⟩
                            go_simp
                            with_reducible rfl
                          rotate_left
                          · simp only [Act.put, List.setIfInBounds_toArray, List.set_cons_zero, List.set_cons_succ, i64_w, i32_w]
                            rfl
                          refine one_ (i := 8) (N := some 36) #[true, true, true, true, true, true, true, true, true, false, false, false, false, false] rfl rfl (one_of HT_.out (by kernel_rfl)) (by decide) (fun K hK => ?_)
                          refine goes_ Try.func11 (by kernel_rfl) rfl #[.agg #[.int .u64 ((rd_T24 l0 x6_2).f0), .int .u64 ((rd_T24 l0 x6_2).f1)], .agg #[.int .u64 ((rd_T24 l0 x4_1).f0), .int .u64 ((rd_T24 l0 x4_1).f1)]] (by rfl) rfl rfl (by (try simp only [List.map_toArray, List.map_cons, List.map_nil]); first | done | rfl | (simp only [List.length_drop, List.length_take]; rfl)) ?_
                          with_reducible refine (linhayref03_Cmp.calls k2 ((rd_T24 l0 x6_2).f0) ((rd_T24 l0 x6_2).f1) ((rd_T24 l0 x4_1).f0) ((rd_T24 l0 x4_1).f1) t211 t212 _ A8.out).mono ?_
                          rintro e w14 ⟨rfl, hb⟩
                          refine ⟨_, rfl, ?_⟩
                          have n0_ := Aside0.mk (below_step (by repeat (first | (with_reducible first | exact HB.out | apply below_alloc | apply pw_below_drewN | apply below_drew1) | exact HB.out)) hb)
                          clear HB
                          have HB := n0_
                          clear n0_
                          (try clear hb)
                          (try clear hb2)
                          (try clear hk)
                          (try clear hi)
                          refine hK.out _ _ ⟨((HB.out.cell (World.block_lt_of_cell? w _ hw209_0)).trans hw209_0), ((HB.out.cell (World.block_lt_of_cell? w _ hw209_1)).trans hw209_1), ((HB.out.cell (World.block_lt_of_cell? w _ hw210_0)).trans hw210_0), ((HB.out.cell (World.block_lt_of_cell? w _ hw210_1)).trans hw210_1)⟩ (fun hHeld => ?_)
                          clear hK K
                          refine norm_ (a' := ?_) ?_ ?_
                          rotate_left
                          · show Act.put _ (some 36) _ = _
                            simp only [Act.put, List.setIfInBounds_toArray, List.set_cons_zero, List.set_cons_succ, i64_w, i32_w]
                            rfl
                          refine pure_ (i := 9) (N := some 27) (v := ?_) (a' := ?_) #[true, true, true, true, true, true, true, true, true, true, false, false, false, false] rfl rfl (any_of HT_.out (by kernel_rfl)) (fun _ _ _ h => h) (Or.inl ⟨by rfl, ?_⟩) ?_ ?_
                          rotate_left
                          · intro w'
                            go_simp
                            with_reducible rfl
                          rotate_left
                          · simp only [Act.put, List.setIfInBounds_toArray, List.set_cons_zero, List.set_cons_succ, i64_w, i32_w]
                            rfl
                          refine pure_ (i := 10) (N := some 37) (v := ?_) (a' := ?_) #[true, true, true, true, true, true, true, true, true, true, true, false, false, false] rfl rfl (any_of HT_.out (by kernel_rfl)) (fun _ _ _ h => h) (Or.inl ⟨by rfl, ?_⟩) ?_ ?_
                          rotate_left
                          · intro w'
                            go_simp
                            with_reducible rfl
                          rotate_left
                          · simp only [Act.put, List.setIfInBounds_toArray, List.set_cons_zero, List.set_cons_succ, i64_w, i32_w]
                            rfl
                          refine pure_ (i := 11) (N := some 38) (v := ?_) (a' := ?_) #[true, true, true, true, true, true, true, true, true, true, true, true, false, false] rfl rfl (any_of HT_.out (by kernel_rfl)) (fun _ _ _ h => h) (Or.inl ⟨by rfl, ?_⟩) ?_ ?_
                          rotate_left
                          · intro w'
                            go_simp
                            with_reducible rfl
                          rotate_left
                          · simp only [Act.put, List.setIfInBounds_toArray, List.set_cons_zero, List.set_cons_succ, i64_w, i32_w]
                            rfl
                          refine pure_ (i := 12) (N := some 7) (v := ?_) (a' := ?_) #[true, true, true, true, true, true, true, true, true, true, true, true, true, false] rfl rfl (any_of HT_.out (by kernel_rfl)) (fun _ _ _ h => h) (Or.inl ⟨by rfl, ?_⟩) ?_ ?_
                          rotate_left
                          · intro w'
                            go_simp
                            with_reducible rfl
                          rotate_left
                          · simp only [Act.put, List.setIfInBounds_toArray, List.set_cons_zero, List.set_cons_succ, i64_w, i32_w]
                            rfl
                          refine pure_ (i := 13) (N := some 8) (v := ?_) (a' := ?_) #[true, true, true, true, true, true, true, true, true, true, true, true, true, true] rfl rfl (any_of HT_.out (by kernel_rfl)) (fun _ _ _ h => h) (Or.inl ⟨by rfl, ?_⟩) ?_ ?_
                          rotate_left
                          · intro w'
                            go_simp
                            with_reducible rfl
                          rotate_left
                          · simp only [Act.put, List.setIfInBounds_toArray, List.set_cons_zero, List.set_cons_succ, i64_w, i32_w]
                            rfl
                          refine done_ (done_of HT_.out (by kernel_rfl)) ?_
                          try go_wp2
                          go_roundg k2
                          case measure => have := HK1.out; have := HK2.out; omega
                          case rel => exact ⟨(true), (wrap64 (x6_2 + 1)), (by first | rfl | (simp; done) | (simp [*]; done)), (by first | rfl | (simp; done) | (simp [*]; done)), H', ⟨by have := HK1.out; have := HK2.out; omega⟩, ⟨by repeat (first | (with_reducible first | exact HB.out | apply below_alloc | apply pw_below_drewN | apply below_drew1) | exact HB.out)⟩⟩
                      · replace c9 := Bool.eq_false_iff.mpr c9
                        subst c9
                        have H1 : (linhayref03_Least.l1 k2 l0 x4_1 false (wrap64 (x6_2 + 1))) = some (r1, r2) := by rw [if_neg (show ¬ (false = true) by decide)] at H; exact H
                        clear H
                        have H := H1
                        clear H1
                        have H' := Aside0.mk H
                        clear H
                        try go_wp2
                        have n0_ := Aside0.mk (below_drew1 HB.out)
                        clear HB
                        have HB := n0_
                        clear n0_
                        have p209 : 0 ≤ (x6_2 : Int) := of_decide_eq_true (by first | (with_reducible assumption) | assumption)
                        have q209 : x6_2 < (l0.length : Int) := of_decide_eq_true (by first | (with_reducible assumption) | assumption)
                        obtain ⟨ad209, e209, hx209_0, hx209_1⟩ := at_T24 HR0.out x6_2 p209 q209
                        have hw209_1 := hx209_1
                        have hw209_0 := hx209_0
                        obtain rfl : ad208 = ad209 := (by injection e209)
                        replace hx209_0 := (HB.out.cell (World.block_lt_of_cell? w _ hx209_0)).trans hx209_0
                        replace hx209_1 := (HB.out.cell (World.block_lt_of_cell? w _ hx209_1)).trans hx209_1
                        replace p209 := eq_true p209
                        replace q209 := eq_true q209
                        have p210 : 0 ≤ (x4_1 : Int) := of_decide_eq_true (by first | (with_reducible assumption) | assumption)
                        have q210 : x4_1 < (l0.length : Int) := of_decide_eq_true (by first | (with_reducible assumption) | assumption)
                        obtain ⟨ad210, e210, hx210_0, hx210_1⟩ := at_T24 HR0.out x4_1 p210 q210
                        have hw210_1 := hx210_1
                        have hw210_0 := hx210_0
                        obtain rfl : ad208 = ad210 := (by injection e210)
                        replace hx210_0 := (HB.out.cell (World.block_lt_of_cell? w _ hx210_0)).trans hx210_0
                        replace hx210_1 := (HB.out.cell (World.block_lt_of_cell? w _ hx210_1)).trans hx210_1
                        replace p210 := eq_true p210
                        replace q210 := eq_true q210
                        refine start_ (n := 14) (S := fun w' => w'.cell? (ad208.add ((x6_2).toNat * 2)) = some (.int .u64 ((rd_T24 l0 x6_2).f0)) ∧ w'.cell? ⟨(ad208.add ((x6_2).toNat * 2)).block, (ad208.add ((x6_2).toNat * 2)).off + 1, none⟩ = some (.int .u64 ((rd_T24 l0 x6_2).f1)) ∧ w'.cell? (ad208.add ((x4_1).toNat * 2)) = some (.int .u64 ((rd_T24 l0 x4_1).f0)) ∧ w'.cell? ⟨(ad208.add ((x4_1).toNat * 2)).block, (ad208.add ((x4_1).toNat * 2)).off + 1, none⟩ = some (.int .u64 ((rd_T24 l0 x4_1).f1))) (ds := []) #[false, false, false, false, false, false, false, false, false, false, false, false, false, false] (by kernel_rfl) rfl rfl ⟨((HB.out.cell (World.block_lt_of_cell? w _ hw209_0)).trans hw209_0), ((HB.out.cell (World.block_lt_of_cell? w _ hw209_1)).trans hw209_1), ((HB.out.cell (World.block_lt_of_cell? w _ hw210_0)).trans hw210_0), ((HB.out.cell (World.block_lt_of_cell? w _ hw210_1)).trans hw210_1)⟩ (fun hHeld => ?_); refine with_tabW linhayref03_Least.tab8 linhayref03_Least.bits8 (fun HT_ HW_ => ?_)
                        generalize wr.drew = w15 at HB hx209_0 hx209_1 hx210_0 hx210_1 hHeld ⊢
                        refine pure_ (i := 0) (N := some 28) (v := ?_) (a' := ?_) #[true, false, false, false, false, false, false, false, false, false, false, false, false, false] rfl rfl (any_of HT_.out (by kernel_rfl)) (fun _ _ _ h => h) (Or.inl ⟨by rfl, ?_⟩) ?_ ?_
                        rotate_left
                        · intro w'
                          go_simp
                          with_reducible rfl
                        rotate_left
                        · simp only [Act.put, List.setIfInBounds_toArray, List.set_cons_zero, List.set_cons_succ, i64_w, i32_w]
                          rfl
                        refine pure_ (i := 1) (N := some 29) (v := ?_) (a' := ?_) #[true, true, false, false, false, false, false, false, false, false, false, false, false, false] rfl rfl (any_of HT_.out (by kernel_rfl)) (fun _ _ _ h => h) (Or.inl ⟨by rfl, ?_⟩) ?_ ?_
                        rotate_left
                        · intro w'
                          go_simp
                          with_reducible rfl
                        rotate_left
                        · simp only [Act.put, List.setIfInBounds_toArray, List.set_cons_zero, List.set_cons_succ, i64_w, i32_w]
                          rfl
                        refine pure_ (i := 2) (N := some 30) (v := ?_) (a' := ?_) #[true, true, true, false, false, false, false, false, false, false, false, false, false, false] rfl rfl (any_of HT_.out (by kernel_rfl)) (fun _ _ _ h => h) (Or.inl ⟨by rfl, ?_⟩) ?_ ?_
                        rotate_left
                        · intro w'
                          go_simp
                          with_reducible rfl
                        rotate_left
                        · simp only [Act.put, List.setIfInBounds_toArray, List.set_cons_zero, List.set_cons_succ, i64_w, i32_w]
                          rfl
                        refine pure_ (i := 4) (N := some 32) (v := ?_) (a' := ?_) #[true, true, true, false, true, false, false, false, false, false, false, false, false, false] rfl rfl (any_of HT_.out (by kernel_rfl)) (fun _ _ _ h => h) (Or.inl ⟨by rfl, ?_⟩) ?_ ?_
                        rotate_left
                        · intro w'
                          go_simp
                          with_reducible rfl
                        rotate_left
                        · simp only [Act.put, List.setIfInBounds_toArray, List.set_cons_zero, List.set_cons_succ, i64_w, i32_w]
                          rfl
                        refine pure_ (i := 5) (N := some 33) (v := ?_) (a' := ?_) #[true, true, true, false, true, true, false, false, false, false, false, false, false, false] rfl rfl (any_of HT_.out (by kernel_rfl)) (fun _ _ _ h => h) (Or.inl ⟨by rfl, ?_⟩) ?_ ?_
                        rotate_left
                        · intro w'
                          go_simp
                          with_reducible rfl
                        rotate_left
                        · simp only [Act.put, List.setIfInBounds_toArray, List.set_cons_zero, List.set_cons_succ, i64_w, i32_w]
                          rfl
                        refine pure_ (i := 6) (N := some 34) (v := ?_) (a' := ?_) #[true, true, true, false, true, true, true, false, false, false, false, false, false, false] rfl rfl (any_of HT_.out (by kernel_rfl)) (fun _ _ _ h => h) (Or.inl ⟨by rfl, ?_⟩) ?_ ?_
                        rotate_left
                        · intro w'
                          go_simp
                          with_reducible rfl
                        rotate_left
                        · simp only [Act.put, List.setIfInBounds_toArray, List.set_cons_zero, List.set_cons_succ, i64_w, i32_w]
                          rfl
                        refine take_ (i := 3) (N := some 31) (v := ?_) (a' := ?_) #[true, true, true, true, true, true, true, false, false, false, false, false, false, false] rfl rfl (take_ofW HT_.out HW_.out (by kernel_rfl)) (fun _ _ _ h => h) (Or.inl ⟨by rfl, ?_⟩) hHeld ?_ ?_
                        rotate_left
                        · rintro w' ⟨s0, s1, s2, s3⟩
                          go_simp
                          with_reducible rfl
                        rotate_left
                        · simp only [Act.put, List.setIfInBounds_toArray, List.set_cons_zero, List.set_cons_succ, i64_w, i32_w]
                          rfl
                        refine take_ (i := 7) (N := some 35) (v := ?_) (a' := ?_) #[true, true, true, true, true, true, true, true, false, false, false, false, false, false] rfl rfl (take_ofW HT_.out HW_.out (by kernel_rfl)) (fun _ _ _ h => h) (Or.inl ⟨by rfl, ?_⟩) hHeld ?_ ?_
                        rotate_left
                        · rintro w' ⟨s0, s1, s2, s3⟩
                          go_simp
                          with_reducible rfl
                        rotate_left
                        · simp only [Act.put, List.setIfInBounds_toArray, List.set_cons_zero, List.set_cons_succ, i64_w, i32_w]
                          rfl
                        refine one_ (i := 8) (N := some 36) #[true, true, true, true, true, true, true, true, true, false, false, false, false, false] rfl rfl (one_of HT_.out (by kernel_rfl)) (by decide) (fun K hK => ?_)
                        refine goes_ Try.func11 (by kernel_rfl) rfl #[.agg #[.int .u64 ((rd_T24 l0 x6_2).f0), .int .u64 ((rd_T24 l0 x6_2).f1)], .agg #[.int .u64 ((rd_T24 l0 x4_1).f0), .int .u64 ((rd_T24 l0 x4_1).f1)]] (by rfl) rfl rfl (by (try simp only [List.map_toArray, List.map_cons, List.map_nil]); first | done | rfl | (simp only [List.length_drop, List.length_take]; rfl)) ?_
                        with_reducible refine (linhayref03_Cmp.calls k2 ((rd_T24 l0 x6_2).f0) ((rd_T24 l0 x6_2).f1) ((rd_T24 l0 x4_1).f0) ((rd_T24 l0 x4_1).f1) t211 t212 _ A8.out).mono ?_
                        rintro e w16 ⟨rfl, hb⟩
                        refine ⟨_, rfl, ?_⟩
                        have n0_ := Aside0.mk (below_step (by repeat (first | (with_reducible first | exact HB.out | apply below_alloc | apply pw_below_drewN | apply below_drew1) | exact HB.out)) hb)
                        clear HB
                        have HB := n0_
                        clear n0_
                        (try clear hb)
                        (try clear hb2)
                        (try clear hk)
                        (try clear hi)
                        refine hK.out _ _ ⟨((HB.out.cell (World.block_lt_of_cell? w _ hw209_0)).trans hw209_0), ((HB.out.cell (World.block_lt_of_cell? w _ hw209_1)).trans hw209_1), ((HB.out.cell (World.block_lt_of_cell? w _ hw210_0)).trans hw210_0), ((HB.out.cell (World.block_lt_of_cell? w _ hw210_1)).trans hw210_1)⟩ (fun hHeld => ?_)
                        clear hK K
                        refine norm_ (a' := ?_) ?_ ?_
                        rotate_left
                        · show Act.put _ (some 36) _ = _
                          simp only [Act.put, List.setIfInBounds_toArray, List.set_cons_zero, List.set_cons_succ, i64_w, i32_w]
                          rfl
                        refine pure_ (i := 9) (N := some 27) (v := ?_) (a' := ?_) #[true, true, true, true, true, true, true, true, true, true, false, false, false, false] rfl rfl (any_of HT_.out (by kernel_rfl)) (fun _ _ _ h => h) (Or.inl ⟨by rfl, ?_⟩) ?_ ?_
                        rotate_left
                        · intro w'
                          go_simp
                          with_reducible rfl
                        rotate_left
                        · simp only [Act.put, List.setIfInBounds_toArray, List.set_cons_zero, List.set_cons_succ, i64_w, i32_w]
                          rfl
                        refine pure_ (i := 10) (N := some 37) (v := ?_) (a' := ?_) #[true, true, true, true, true, true, true, true, true, true, true, false, false, false] rfl rfl (any_of HT_.out (by kernel_rfl)) (fun _ _ _ h => h) (Or.inl ⟨by rfl, ?_⟩) ?_ ?_
                        rotate_left
                        · intro w'
                          go_simp
                          with_reducible rfl
                        rotate_left
                        · simp only [Act.put, List.setIfInBounds_toArray, List.set_cons_zero, List.set_cons_succ, i64_w, i32_w]
                          rfl
                        refine pure_ (i := 11) (N := some 38) (v := ?_) (a' := ?_) #[true, true, true, true, true, true, true, true, true, true, true, true, false, false] rfl rfl (any_of HT_.out (by kernel_rfl)) (fun _ _ _ h => h) (Or.inl ⟨by rfl, ?_⟩) ?_ ?_
                        rotate_left
                        · intro w'
                          go_simp
                          with_reducible rfl
                        rotate_left
                        · simp only [Act.put, List.setIfInBounds_toArray, List.set_cons_zero, List.set_cons_succ, i64_w, i32_w]
                          rfl
                        refine pure_ (i := 12) (N := some 7) (v := ?_) (a' := ?_) #[true, true, true, true, true, true, true, true, true, true, true, true, true, false] rfl rfl (any_of HT_.out (by kernel_rfl)) (fun _ _ _ h => h) (Or.inl ⟨by rfl, ?_⟩) ?_ ?_
                        rotate_left
                        · intro w'
                          go_simp
                          with_reducible rfl
                        rotate_left
                        · simp only [Act.put, List.setIfInBounds_toArray, List.set_cons_zero, List.set_cons_succ, i64_w, i32_w]
                          rfl
                        refine pure_ (i := 13) (N := some 8) (v := ?_) (a' := ?_) #[true, true, true, true, true, true, true, true, true, true, true, true, true, true] rfl rfl (any_of HT_.out (by kernel_rfl)) (fun _ _ _ h => h) (Or.inl ⟨by rfl, ?_⟩) ?_ ?_
                        rotate_left
                        · intro w'
                          go_simp
                          with_reducible rfl
                        rotate_left
                        · simp only [Act.put, List.setIfInBounds_toArray, List.set_cons_zero, List.set_cons_succ, i64_w, i32_w]
                          rfl
                        refine done_ (done_of HT_.out (by kernel_rfl)) ?_
                        try go_wp2
                        go_roundg k2
                        case measure => have := HK1.out; have := HK2.out; omega
                        case rel => exact ⟨(false), (wrap64 (x6_2 + 1)), (by first | rfl | (simp; done) | (simp [*]; done)), (by first | rfl | (simp; done) | (simp [*]; done)), H', ⟨by have := HK1.out; have := HK2.out; omega⟩, ⟨by repeat (first | (with_reducible first | exact HB.out | apply below_alloc | apply pw_below_drewN | apply below_drew1) | exact HB.out)⟩⟩
                    · rw [if_neg c7] at H
                      exact absurd H (by simp)
                  · rw [if_neg c6] at H
                    exact absurd H (by simp)
                · rw [if_neg c5] at H
                  exact absurd H (by simp)
              · rw [if_neg c4] at H
                have c4b0 : decide (x6_2 < (l0.length : Int)) = false := decide_eq_false c4
                clear c4
                by_cases c17 : x5_2 = true
                · subst c17
                  have H1 : (some (x4_1, true)) = some (r1, r2) := by rw [if_pos rfl] at H; exact H
                  clear H
                  have H := H1
                  clear H1
                  simp only [Option.some.injEq, Prod.mk.injEq] at H
                  obtain ⟨rfl, rfl⟩ := H
                  go_wp2
                  go_ret2
                  exact ⟨by first | rfl | (simp [errW_none, errW_some] <;> rfl) | (simp [*, errW_none, errW_some] <;> rfl), by repeat (first | (with_reducible first | exact HB.out | apply below_alloc | apply pw_below_drewN | apply below_drew1) | exact HB.out)⟩
                · replace c17 := Bool.eq_false_iff.mpr c17
                  subst c17
                  have H1 : (linhayref03_Least.l0 k2 l0 (wrap64 (x4_1 + 1))) = some (r1, r2) := by rw [if_neg (show ¬ (false = true) by decide)] at H; exact H
                  clear H
                  have H := H1
                  clear H1
                  have H' := Aside0.mk H
                  clear H
                  go_wp2
                  go_roundg k2
                  case measure => have := HK1.out; have := HK2.out; omega
                  case rel => exact ⟨(wrap64 (x4_1 + 1)), (by first | rfl | (simp; done) | (simp [*]; done)), H', ⟨by have := HK1.out; have := HK2.out; omega⟩, ⟨by repeat (first | (with_reducible first | exact HB.out | apply below_alloc | apply pw_below_drewN | apply below_drew1) | exact HB.out)⟩⟩
        · rw [if_neg c3] at H
          exact absurd H (by simp)
      · rw [if_neg c2] at H
        have c2b0 : decide (x4_1 < (l0.length : Int)) = false := decide_eq_false c2
        clear c2
        simp only [Option.some.injEq, Prod.mk.injEq] at H
        obtain ⟨rfl, rfl⟩ := H
        go_wp2
        go_ret2
        exact ⟨by first | rfl | (simp [errW_none, errW_some] <;> rfl) | (simp [*, errW_none, errW_some] <;> rfl), by repeat (first | (with_reducible first | exact HB.out | apply below_alloc | apply pw_below_drewN | apply below_drew1) | exact HB.out)⟩

/-! ### linhayref02_digits: function 44 -/
set_option maxHeartbeats 1000000 in
theorem linhayref02_digits.walk (a b : Int) (w : World) (ha : 0 ≤ a) (hb : 0 ≤ b) (ha' : a < 18446744073709551616) (hb' : b < 18446744073709551616) :
    Calls Try.prog 44 #[.agg #[.int .u64 a, .int .u64 b]] w fun e w' => e = .returned (.agg #[.int .u64 (b % 4294967296), .int .u64 (b / 4294967296), .int .u64 (a % 4294967296), .int .u64 (a / 4294967296)]) ∧ w' = (w.alloc (.cells #[.int .u64 a, .int .u64 b] 43)).alloc (.cells #[.int .u64 (b % 4294967296), .int .u64 (b / 4294967296), .int .u64 (a % 4294967296), .int .u64 (a / 4294967296)] 55) := by
  go_enter Try.func44, Try.ntmps44
  go_wp2
  refine bodyPost_ret (v := .agg #[.int .u64 (b % 4294967296), .int .u64 (b / 4294967296), .int .u64 (a % 4294967296), .int .u64 (a / 4294967296)]) (by simp [results, Try.results44, go_sem]) rfl ⟨rfl, rfl⟩

/-! ### linhayref02_Add: function 39 -/
theorem linhayref02_Add.sum (a b c d a0 a1 a2 a3 b0 b1 b2 b3 : Int) (hb : b = a1 * 4294967296 + a0) (ha : a = a3 * 4294967296 + a2) (hd : d = b1 * 4294967296 + b0) (hc : c = b3 * 4294967296 + b2)
    (A0 : 0 ≤ a0 ∧ a0 < 4294967296) (A1 : 0 ≤ a1 ∧ a1 < 4294967296) (A2 : 0 ≤ a2 ∧ a2 < 4294967296) (A3 : 0 ≤ a3 ∧ a3 < 4294967296)
    (B0 : 0 ≤ b0 ∧ b0 < 4294967296) (B1 : 0 ≤ b1 ∧ b1 < 4294967296) (B2 : 0 ≤ b2 ∧ b2 < 4294967296) (B3 : 0 ≤ b3 ∧ b3 < 4294967296) :
    (a3 + b3 + (a2 + b2 + (a1 + b1 + (a0 + b0) / 4294967296) / 4294967296) / 4294967296) % 4294967296 * 4294967296 + (a2 + b2 + (a1 + b1 + (a0 + b0) / 4294967296) / 4294967296) % 4294967296 = (a + c + (b + d) / 18446744073709551616) % 18446744073709551616 ∧
    (a1 + b1 + (a0 + b0) / 4294967296) % 4294967296 * 4294967296 + (a0 + b0) % 4294967296 = (b + d) % 18446744073709551616 ∧
    (a3 + b3 + (a2 + b2 + (a1 + b1 + (a0 + b0) / 4294967296) / 4294967296) / 4294967296) / 4294967296 = (a + c + (b + d) / 18446744073709551616) / 18446744073709551616 := by
  obtain ⟨c0, k0⟩ : ∃ x, x = (a0 + b0) / 4294967296 := ⟨_, rfl⟩
  obtain ⟨r0, l0⟩ : ∃ x, x = (a0 + b0) % 4294967296 := ⟨_, rfl⟩
  have m0 : a0 + b0 = 4294967296 * c0 + r0 ∧ 0 ≤ r0 ∧ r0 < 4294967296 := by omega
  rw [← k0, ← l0]
  clear k0 l0
  obtain ⟨c1, k1⟩ : ∃ x, x = (a1 + b1 + c0) / 4294967296 := ⟨_, rfl⟩
  obtain ⟨r1, l1⟩ : ∃ x, x = (a1 + b1 + c0) % 4294967296 := ⟨_, rfl⟩
  have m1 : a1 + b1 + c0 = 4294967296 * c1 + r1 ∧ 0 ≤ r1 ∧ r1 < 4294967296 := by omega
  rw [← k1, ← l1]
  clear k1 l1
  obtain ⟨c2, k2⟩ : ∃ x, x = (a2 + b2 + c1) / 4294967296 := ⟨_, rfl⟩
  obtain ⟨r2, l2⟩ : ∃ x, x = (a2 + b2 + c1) % 4294967296 := ⟨_, rfl⟩
  have m2 : a2 + b2 + c1 = 4294967296 * c2 + r2 ∧ 0 ≤ r2 ∧ r2 < 4294967296 := by omega
  rw [← k2, ← l2]
  clear k2 l2
  obtain ⟨c3, k3⟩ : ∃ x, x = (a3 + b3 + c2) / 4294967296 := ⟨_, rfl⟩
  obtain ⟨r3, l3⟩ : ∃ x, x = (a3 + b3 + c2) % 4294967296 := ⟨_, rfl⟩
  have m3 : a3 + b3 + c2 = 4294967296 * c3 + r3 ∧ 0 ≤ r3 ∧ r3 < 4294967296 := by omega
  rw [← k3, ← l3]
  clear k3 l3
  have s1 : b + d = 18446744073709551616 * c1 + (r1 * 4294967296 + r0) := by omega
  have s2 : (b + d) / 18446744073709551616 = c1 ∧ (b + d) % 18446744073709551616 = r1 * 4294967296 + r0 := by omega
  rw [s2.1, s2.2]
  have s3 : a + c + c1 = 18446744073709551616 * c3 + (r3 * 4294967296 + r2) := by omega
  omega
theorem linhayref02_Add.fin {A A' B B' C C' : Int} (h1 : A = A') (h2 : B = B') (h3 : C = C') : Ending.returned (.tuple #[.agg #[.int .u64 A, .int .u64 B], .bool (decide (0 < C))]) = Ending.returned (.tuple #[.agg #[.int .u64 A', .int .u64 B'], .bool (decide (0 < C'))]) := by rw [h1, h2, h3]
set_option maxHeartbeats 1000000 in
set_option maxRecDepth 100000 in
theorem linhayref02_Add.walk (a b c d : Int) (w : World) (ha : 0 ≤ a) (hb : 0 ≤ b) (ha' : a < 18446744073709551616) (hb' : b < 18446744073709551616)
    (hc : 0 ≤ c) (hd : 0 ≤ d) (hc' : c < 18446744073709551616) (hd' : d < 18446744073709551616) :
    Calls Try.prog 39 #[.agg #[.int .u64 a, .int .u64 b], .agg #[.int .u64 c, .int .u64 d]] w fun e w' => e = .returned (.tuple #[.agg #[.int .u64 ((a + c + (b + d) / 18446744073709551616) % 18446744073709551616), .int .u64 ((b + d) % 18446744073709551616)], .bool (decide (0 < (a + c + (b + d) / 18446744073709551616) / 18446744073709551616))]) ∧ Below w.heap.size w w' := by
  obtain ⟨a0, e0⟩ : ∃ x, x = b % 4294967296 := ⟨_, rfl⟩
  obtain ⟨a1, e1⟩ : ∃ x, x = b / 4294967296 := ⟨_, rfl⟩
  obtain ⟨a2, e2⟩ : ∃ x, x = a % 4294967296 := ⟨_, rfl⟩
  obtain ⟨a3, e3⟩ : ∃ x, x = a / 4294967296 := ⟨_, rfl⟩
  obtain ⟨b0, f0⟩ : ∃ x, x = d % 4294967296 := ⟨_, rfl⟩
  obtain ⟨b1, f1⟩ : ∃ x, x = d / 4294967296 := ⟨_, rfl⟩
  obtain ⟨b2, f2⟩ : ∃ x, x = c % 4294967296 := ⟨_, rfl⟩
  obtain ⟨b3, f3⟩ : ∃ x, x = c / 4294967296 := ⟨_, rfl⟩
  have D1 := fun W => linhayref02_digits.walk a b W ha hb ha' hb'
  have D2 := fun W => linhayref02_digits.walk c d W hc hd hc' hd'
  rw [← e0, ← e1, ← e2, ← e3] at D1
  rw [← f0, ← f1, ← f2, ← f3] at D2
  have A0 : 0 ≤ a0 ∧ a0 < 4294967296 := by omega
  have A1 : 0 ≤ a1 ∧ a1 < 4294967296 := by omega
  have A2 : 0 ≤ a2 ∧ a2 < 4294967296 := by omega
  have A3 : 0 ≤ a3 ∧ a3 < 4294967296 := by omega
  have B0 : 0 ≤ b0 ∧ b0 < 4294967296 := by omega
  have B1 : 0 ≤ b1 ∧ b1 < 4294967296 := by omega
  have B2 : 0 ≤ b2 ∧ b2 < 4294967296 := by omega
  have B3 : 0 ≤ b3 ∧ b3 < 4294967296 := by omega
  obtain ⟨E1, E2, E3⟩ := linhayref02_Add.sum a b c d a0 a1 a2 a3 b0 b1 b2 b3 (by omega) (by omega) (by omega) (by omega) A0 A1 A2 A3 B0 B1 B2 B3
  have X1 := Lib.hid E1
  have X2 := Lib.hid E2
  have X3 := Lib.hid E3
  clear E1 E2 E3 e0 e1 e2 e3 f0 f1 f2 f3
  obtain ⟨A0, A0'⟩ := A0
  obtain ⟨A1, A1'⟩ := A1
  obtain ⟨A2, A2'⟩ := A2
  obtain ⟨A3, A3'⟩ := A3
  obtain ⟨B0, B0'⟩ := B0
  obtain ⟨B1, B1'⟩ := B1
  obtain ⟨B2, B2'⟩ := B2
  obtain ⟨B3, B3'⟩ := B3
  have HB := Aside0.mk (Below.refl w.heap.size w)
  have K1 := Lib.hid D1
  have K2 := Lib.hid D2
  clear D1 D2
  go_enter Try.func39, Try.ntmps39
  go_wp2_with (first | (go_at_call 44; (with_reducible refine (K1.out _).mono ?_); rintro e w' ⟨rfl, rfl⟩) | (go_at_call 44; (with_reducible refine (K2.out _).mono ?_); rintro e w' ⟨rfl, rfl⟩))
  refine wp_loop_rounds 5 ?_
  rw [rounds_succ]
  go_wp2_with fail
  go_quiet (fail)
  go_wp2_with fail
  rw [rounds_succ]
  go_wp2_with fail
  go_quiet (fail)
  go_wp2_with fail
  rw [rounds_succ]
  go_wp2_with fail
  go_quiet (fail)
  go_wp2_with fail
  rw [rounds_succ]
  go_wp2_with fail
  go_quiet (fail)
  go_wp2_with fail
  rw [rounds_succ]
  go_wp2_with fail
  go_wp2_with (go_at_call 35; (refine (linhayref02_whole.walk _ _ _ _ _ (by omega) (by omega) (by omega) (by omega) (by omega) (by omega) (by omega) (by omega)).mono ?_); rintro e w' ⟨rfl, rfl⟩)
  refine bodyPost_ret (v := .tuple #[.agg #[.int .u64 ((a3 + b3 + (a2 + b2 + (a1 + b1 + (a0 + b0) / 4294967296) / 4294967296) / 4294967296) % 4294967296 * 4294967296 + (a2 + b2 + (a1 + b1 + (a0 + b0) / 4294967296) / 4294967296) % 4294967296), .int .u64 ((a1 + b1 + (a0 + b0) / 4294967296) % 4294967296 * 4294967296 + (a0 + b0) % 4294967296)], .bool (decide (0 < (a3 + b3 + (a2 + b2 + (a1 + b1 + (a0 + b0) / 4294967296) / 4294967296) / 4294967296) / 4294967296))]) (by simp [results, Try.results39, go_sem]) rfl ⟨linhayref02_Add.fin X1.out X2.out X3.out, ?_⟩
  repeat (with_reducible first | exact HB.out | apply below_alloc | apply pw_below_drewN | apply below_drew1 | refine below_set ?_ ?_)
  all_goals (first | omega | (simp; done) | (simp; omega))
def linhayref02_Add.ok (a b c d : Int) : Prop := ((0 ≤ a ∧ a < 18446744073709551616) ∧ (0 ≤ b ∧ b < 18446744073709551616)) ∧ ((0 ≤ c ∧ c < 18446744073709551616) ∧ (0 ≤ d ∧ d < 18446744073709551616))
instance linhayref02_Add.dec (a b c d : Int) : Decidable (linhayref02_Add.ok a b c d) := by unfold linhayref02_Add.ok; infer_instance
def linhayref02_Add.f (a0_0 : Int) (a0_1 : Int) (a1_0 : Int) (a1_1 : Int) : Option (Int × Int × Bool) :=
  if linhayref02_Add.ok a0_0 a0_1 a1_0 a1_1 then some ((a0_0 + a1_0 + (a0_1 + a1_1) / 18446744073709551616) % 18446744073709551616, (a0_1 + a1_1) % 18446744073709551616, decide (0 < (a0_0 + a1_0 + (a0_1 + a1_1) / 18446744073709551616) / 18446744073709551616)) else none
theorem linhayref02_Add.calls (a0_0 : Int) (a0_1 : Int) (a1_0 : Int) (a1_1 : Int) (r1 : Int) (r2 : Int) (r3 : Bool) (w : World) (h : linhayref02_Add.f a0_0 a0_1 a1_0 a1_1 = some (r1, r2, r3)) :
    Calls Try.prog 39 #[.agg #[.int .u64 a0_0, .int .u64 a0_1], .agg #[.int .u64 a1_0, .int .u64 a1_1]] w fun e w' => e = .returned (.tuple #[.agg #[.int .u64 r1, .int .u64 r2], .bool r3]) ∧ Below w.heap.size w w' := by
  unfold linhayref02_Add.f at h
  by_cases hk : linhayref02_Add.ok a0_0 a0_1 a1_0 a1_1
  · rw [if_pos hk] at h
    simp only [Option.some.injEq, Prod.mk.injEq] at h
    obtain ⟨rfl, rfl, rfl⟩ := h
    obtain ⟨⟨⟨b1, b2⟩, ⟨b3, b4⟩⟩, ⟨⟨b5, b6⟩, ⟨b7, b8⟩⟩⟩ := hk
    exact linhayref02_Add.walk a0_0 a0_1 a1_0 a1_1 w b1 b3 b2 b4 b5 b7 b6 b8
  · rw [if_neg hk] at h
    cases h

/-! ### linhayref02_Div: function 40 -/
def linhayref02_Div.l0 : Nat → Int → Int → Int → Int → Int → Int → Int → Option (Int × Int × Int × Int)
  | 0, _, _, _, _, _, _, _ => none
  | k + 1, x1, x7, x8, x9, x10, x214000, x214001 => if x10 < 64 then (if x7 ≥ 9223372036854775808 then (linhayref02_Div.l0 k x1 (IntKind.u64.wrap ((IntKind.u64.wrap ((IntKind.u64.wrap (2 * x7)) + (IntKind.u64.wrap (Int.tdiv x8 9223372036854775808)))) - x1)) (IntKind.u64.wrap (2 * x8)) (IntKind.u64.wrap ((IntKind.u64.wrap (2 * x9)) + 1)) (wrap64 (x10 + 1)) x214000 x214001) else (if (IntKind.u64.wrap ((IntKind.u64.wrap (2 * x7)) + (IntKind.u64.wrap (Int.tdiv x8 9223372036854775808)))) ≥ x1 then (linhayref02_Div.l0 k x1 (IntKind.u64.wrap ((IntKind.u64.wrap ((IntKind.u64.wrap (2 * x7)) + (IntKind.u64.wrap (Int.tdiv x8 9223372036854775808)))) - x1)) (IntKind.u64.wrap (2 * x8)) (IntKind.u64.wrap ((IntKind.u64.wrap (2 * x9)) + 1)) (wrap64 (x10 + 1)) x214000 x214001) else (linhayref02_Div.l0 k x1 (IntKind.u64.wrap ((IntKind.u64.wrap (2 * x7)) + (IntKind.u64.wrap (Int.tdiv x8 9223372036854775808)))) (IntKind.u64.wrap (2 * x8)) (IntKind.u64.wrap (2 * x9)) (wrap64 (x10 + 1)) x214000 x214001))) else (if x1 = 0 then (none) else (some (IntKind.u64.wrap (Int.tdiv x214000 x1), x9, x7, 0)))
def linhayref02_Div.f (k : Nat) (a0_0 : Int) (a0_1 : Int) (a1 : Int) : Option (Int × Int × Int × Int) := if a1 = 0 then (some (0, 0, 0, 20)) else (linhayref02_Div.l0 k a1 (Int.tmod a0_0 a1) a0_1 0 0 a0_0 a0_1)
theorem linhayref02_Div.mono_l : ∀ k, (∀ y0 y1 y2 y3 y4 y5 y6, LeO (linhayref02_Div.l0 k y0 y1 y2 y3 y4 y5 y6) (linhayref02_Div.l0 (k + 1) y0 y1 y2 y3 y4 y5 y6))
  | 0 => fun _ _ _ _ _ _ _ r h => by simp [linhayref02_Div.l0] at h
  | k + 1 => by
    have ih0 := linhayref02_Div.mono_l k
    · intro y0 y1 y2 y3 y4 y5 y6
      unfold linhayref02_Div.l0
      repeat' first
      | (with_reducible exact ih0 _ _ _ _ _ _ _)
      | (with_reducible exact LeO.refl _)
      | (with_reducible exact LeO.none _)
      | (with_reducible refine LeO.ite ?_ ?_)
      | (with_reducible refine LeO.bind ?_ (fun _ => ?_))
      | exact ih0 _ _ _ _ _ _ _
      | exact LeO.none _
      | refine LeO.ite ?_ ?_
      | refine LeO.bind ?_ (fun _ => ?_)
theorem linhayref02_Div.mono : ∀ a0 a1 a2 k, LeO (linhayref02_Div.f k a0 a1 a2) (linhayref02_Div.f (k + 1) a0 a1 a2) := by
  intro a0 a1 a2 k
  have ih0 := linhayref02_Div.mono_l k
  unfold linhayref02_Div.f
  repeat' first
      | (with_reducible exact ih0 _ _ _ _ _ _ _)
      | (with_reducible exact LeO.refl _)
      | (with_reducible exact LeO.none _)
      | (with_reducible refine LeO.ite ?_ ?_)
      | (with_reducible refine LeO.bind ?_ (fun _ => ?_))
      | exact ih0 _ _ _ _ _ _ _
      | exact LeO.none _
      | refine LeO.ite ?_ ?_
      | refine LeO.bind ?_ (fun _ => ?_)
set_option maxHeartbeats 8000000 in
set_option maxRecDepth 100000 in
theorem linhayref02_Div.calls (k : Nat) (a0_0 : Int) (a0_1 : Int) (a1 : Int) (r1 : Int) (r2 : Int) (r3 : Int) (r4 : Int) (w : World) (h : linhayref02_Div.f k a0_0 a0_1 a1 = some (r1, r2, r3, r4)) :
    Calls Try.prog 40 #[.agg #[.int .u64 a0_0, .int .u64 a0_1], .int .u64 a1] w fun e w' => e = .returned (.tuple #[.agg #[.int .u64 r1, .int .u64 r2], .int .u64 r3, .int .i64 r4]) ∧ Below w.heap.size w w' := by
  have hu43 := Try.underlying43
  have HB := Aside0.mk (Below.refl w.heap.size w)
  have H : (if a1 = 0 then (some (0, 0, 0, 20)) else (linhayref02_Div.l0 k a1 (Int.tmod a0_0 a1) a0_1 0 0 a0_0 a0_1)) = some (r1, r2, r3, r4) := h
  clear h
  by_cases c3 : a1 = 0
  · rw [if_pos c3] at H
    have c3b0 : (a1 == 0) = true := beq_iff_eq.mpr c3
    have c3b1 : (a1 != 0) = false := bne_eq_false_iff_eq.mpr c3
    clear c3
    simp only [Option.some.injEq, Prod.mk.injEq] at H
    obtain ⟨rfl, rfl, rfl, rfl⟩ := H
    go_enter Try.func40, Try.ntmps40
    go_wp2_with (first | ((with_reducible refine gate_dst (N := 2) rfl ?_); refine box_event ?hg (N := 2) ?hd (cs := #[.int .u64 a0_0, .int .u64 a0_1]) (t := 43) ?hr ?_; (case hd => rfl); (case hg => rfl); (case hr => first | (go_simp; done) | (go_simp; rfl)); intro gb213 hg w4 hbox hb; have n0_ := Aside0.mk (below_step (by repeat (first | (with_reducible first | exact HB.out | apply below_alloc | apply pw_below_drewN | apply below_drew1) | exact HB.out)) hb); have n1_ := Aside0.mk (hbox); have n2_ := Aside0.mk ((by rw [hg]; exact (below_size (by repeat (first | (with_reducible first | exact HB.out | apply below_alloc | apply pw_below_drewN | apply below_drew1) | exact HB.out))) : w.heap.size ≤ gb213)); have n3_ := Aside0.mk ((by rw [hg]; exact (below_size (by repeat (first | (with_reducible first | exact HB.out | apply below_alloc | apply pw_below_drewN | apply below_drew1) | exact HB.out))) : w.heap.size ≤ gb213)); clear HB; have HB := n0_; have BK213 := n1_; have GW213 := n2_; have GE213 := n3_; clear n0_ n1_ n2_ n3_; clear hb hbox hg) | ((with_reducible refine gate_dst (N := 4) rfl ?_); refine box_event ?hg (N := 4) ?hd (cs := #[.int .u64 0, .int .u64 0]) (t := 43) ?hr ?_; (case hd => rfl); (case hg => rfl); (case hr => first | (go_simp; done) | (go_simp; rfl)); intro gb214 hg w5 hbox hb; have n0_ := Aside0.mk (blk_below (g := gb213) (o := .cells #[.int .u64 a0_0, .int .u64 a0_1] 43 (0, 0)) (by (with_reducible repeat (first | refine blk_drewN ?_ _ | refine blk_drew ?_ | refine blk_alloc ?_ _)); exact BK213.out) hb); have n1_ := Aside0.mk (below_step (by repeat (first | (with_reducible first | exact HB.out | apply below_alloc | apply pw_below_drewN | apply below_drew1 | refine below_set ?_ GE213.out) | exact HB.out)) hb); have n2_ := Aside0.mk (hbox); have n3_ := Aside0.mk ((by rw [hg]; exact (below_size (by repeat (first | (with_reducible first | exact HB.out | apply below_alloc | apply pw_below_drewN | apply below_drew1 | refine below_set ?_ GE213.out) | exact HB.out))) : w.heap.size ≤ gb214)); have n4_ := Aside0.mk ((by rw [hg]; exact (below_size (by repeat (first | (with_reducible first | exact HB.out | apply below_alloc | apply pw_below_drewN | apply below_drew1 | refine below_set ?_ GE213.out) | exact HB.out))) : w.heap.size ≤ gb214)); have n5_ := Aside0.mk ((by rw [hg]; exact Nat.ne_of_lt (blk_lt (g := gb213) (o := .cells #[.int .u64 a0_0, .int .u64 a0_1] 43 (0, 0)) (by (with_reducible repeat (first | refine blk_drewN ?_ _ | refine blk_drew ?_ | refine blk_alloc ?_ _)); exact BK213.out)) : gb213 ≠ gb214)); have n6_ := Aside0.mk ((by rw [hg]; exact Nat.ne_of_gt (blk_lt (g := gb213) (o := .cells #[.int .u64 a0_0, .int .u64 a0_1] 43 (0, 0)) (by (with_reducible repeat (first | refine blk_drewN ?_ _ | refine blk_drew ?_ | refine blk_alloc ?_ _)); exact BK213.out)) : gb214 ≠ gb213)); clear BK213; clear HB; have BK213 := n0_; have HB := n1_; have BK214 := n2_; have GW214 := n3_; have GE214 := n4_; have NB213_214 := n5_; have NB214_213 := n6_; clear n0_ n1_ n2_ n3_ n4_ n5_ n6_; clear hb hbox hg; have hnb6 := NB214_213.out; have hnc6 := NB213_214.out; have hcz7_0 : w5.cell? ⟨gb214, 0, none⟩ = some (.int .u64 0) := (blk_cell BK214.out 0).trans rfl; have hcz7_1 : w5.cell? ⟨gb214, 1, none⟩ = some (.int .u64 0) := (blk_cell BK214.out 1).trans rfl; have hfz7_0 := blk_frozen BK214.out 0; have hfz7_1 := blk_frozen BK214.out 1))
    refine bodyPost_ret (results_ctt rfl _ _ gb214 43 #[.int .u64 0, .int .u64 0] (0, 0) _ rfl (by (with_reducible repeat (first | refine blk_drewN ?_ _ | refine blk_drew ?_ | refine blk_alloc ?_ _)); refine blk_put (cs := #[.int .u64 0, .int .u64 0]) ?_ 1 _ rfl; (with_reducible repeat (first | refine blk_drewN ?_ _ | refine blk_drew ?_ | refine blk_alloc ?_ _)); refine blk_put (cs := #[.int .u64 0, .int .u64 0]) ?_ 0 _ rfl; (with_reducible repeat (first | refine blk_drewN ?_ _ | refine blk_drew ?_ | refine blk_alloc ?_ _)); exact BK214.out) Try.underlying43 rfl (by kernel_rfl)) rfl ?_
    exact ⟨by first | rfl | (simp [errW_none, errW_some] <;> rfl) | (simp [*, errW_none, errW_some] <;> rfl), by repeat (first | (with_reducible first | exact HB.out | apply below_alloc | apply pw_below_drewN | apply below_drew1 | refine below_set ?_ GE213.out | refine below_set ?_ GE214.out) | exact HB.out)⟩
  · rw [if_neg c3] at H
    have c3b0 : (a1 == 0) = false := beq_eq_false_iff_ne.mpr c3
    have c3b1 : (a1 != 0) = true := bne_iff_ne.mpr c3
    have H' := Aside0.mk H
    clear H
    go_enter Try.func40, Try.ntmps40
    go_wp2_with (first | ((with_reducible refine gate_dst (N := 2) rfl ?_); refine box_event ?hg (N := 2) ?hd (cs := #[.int .u64 a0_0, .int .u64 a0_1]) (t := 43) ?hr ?_; (case hd => rfl); (case hg => rfl); (case hr => first | (go_simp; done) | (go_simp; rfl)); intro gb213 hg w8 hbox hb; have n0_ := Aside0.mk (below_step (by repeat (first | (with_reducible first | exact HB.out | apply below_alloc | apply pw_below_drewN | apply below_drew1) | exact HB.out)) hb); have n1_ := Aside0.mk (hbox); have n2_ := Aside0.mk ((by rw [hg]; exact (below_size (by repeat (first | (with_reducible first | exact HB.out | apply below_alloc | apply pw_below_drewN | apply below_drew1) | exact HB.out))) : w.heap.size ≤ gb213)); have n3_ := Aside0.mk ((by rw [hg]; exact (below_size (by repeat (first | (with_reducible first | exact HB.out | apply below_alloc | apply pw_below_drewN | apply below_drew1) | exact HB.out))) : w.heap.size ≤ gb213)); clear HB; have HB := n0_; have BK213 := n1_; have GW213 := n2_; have GE213 := n3_; clear n0_ n1_ n2_ n3_; clear hb hbox hg) | ((with_reducible refine gate_dst (N := 4) rfl ?_); refine box_event ?hg (N := 4) ?hd (cs := #[.int .u64 0, .int .u64 0]) (t := 43) ?hr ?_; (case hd => rfl); (case hg => rfl); (case hr => first | (go_simp; done) | (go_simp; rfl)); intro gb214 hg w9 hbox hb; have n0_ := Aside0.mk (blk_below (g := gb213) (o := .cells #[.int .u64 a0_0, .int .u64 a0_1] 43 (0, 0)) (by (with_reducible repeat (first | refine blk_drewN ?_ _ | refine blk_drew ?_ | refine blk_alloc ?_ _)); exact BK213.out) hb); have n1_ := Aside0.mk (below_step (by repeat (first | (with_reducible first | exact HB.out | apply below_alloc | apply pw_below_drewN | apply below_drew1 | refine below_set ?_ GE213.out) | exact HB.out)) hb); have n2_ := Aside0.mk (hbox); have n3_ := Aside0.mk ((by rw [hg]; exact (below_size (by repeat (first | (with_reducible first | exact HB.out | apply below_alloc | apply pw_below_drewN | apply below_drew1 | refine below_set ?_ GE213.out) | exact HB.out))) : w.heap.size ≤ gb214)); have n4_ := Aside0.mk ((by rw [hg]; exact (below_size (by repeat (first | (with_reducible first | exact HB.out | apply below_alloc | apply pw_below_drewN | apply below_drew1 | refine below_set ?_ GE213.out) | exact HB.out))) : w.heap.size ≤ gb214)); have n5_ := Aside0.mk ((by rw [hg]; exact Nat.ne_of_lt (blk_lt (g := gb213) (o := .cells #[.int .u64 a0_0, .int .u64 a0_1] 43 (0, 0)) (by (with_reducible repeat (first | refine blk_drewN ?_ _ | refine blk_drew ?_ | refine blk_alloc ?_ _)); exact BK213.out)) : gb213 ≠ gb214)); have n6_ := Aside0.mk ((by rw [hg]; exact Nat.ne_of_gt (blk_lt (g := gb213) (o := .cells #[.int .u64 a0_0, .int .u64 a0_1] 43 (0, 0)) (by (with_reducible repeat (first | refine blk_drewN ?_ _ | refine blk_drew ?_ | refine blk_alloc ?_ _)); exact BK213.out)) : gb214 ≠ gb213)); clear BK213; clear HB; have BK213 := n0_; have HB := n1_; have BK214 := n2_; have GW214 := n3_; have GE214 := n4_; have NB213_214 := n5_; have NB214_213 := n6_; clear n0_ n1_ n2_ n3_ n4_ n5_ n6_; clear hb hbox hg; have hnb10 := NB213_214.out; have hnc10 := NB214_213.out; have hcz11_0 : w9.cell? ⟨gb213, 0, none⟩ = some (.int .u64 a0_0) := (blk_cell BK213.out 0).trans rfl; have hcz11_1 : w9.cell? ⟨gb213, 1, none⟩ = some (.int .u64 a0_1) := (blk_cell BK213.out 1).trans rfl; have hfz11_0 := blk_frozen BK213.out 0; have hfz11_1 := blk_frozen BK213.out 1))
    go_loopg [7, 8, 9, 10] k (fun kq v7 v8 v9 v10 w' => ∃ (x7_1 : Int) (x8_1 : Int) (x9_1 : Int) (x10_1 : Int), v7 = .int .u64 x7_1 ∧ v8 = .int .u64 x8_1 ∧ v9 = .int .u64 x9_1 ∧ v10 = .int .i64 x10_1 ∧ Aside0 (linhayref02_Div.l0 kq a1 x7_1 x8_1 x9_1 x10_1 a0_0 a0_1 = some (r1, r2, r3, r4)) ∧ Aside0 (kq ≤ k) ∧ Aside0 (w'.heap[gb213]? = some (.cells #[.int .u64 a0_0, .int .u64 a0_1] 43 (0, 0))) ∧ Aside0 (w'.heap[gb214]? = some (.cells #[.int .u64 0, .int .u64 0] 43 (0, 0))) ∧ Aside0 (Below w.heap.size w w'))
    case atStart => exact ⟨(Int.tmod a0_0 a1), (a0_1), (0), (0), (by first | rfl | (simp; done) | (simp [*]; done)), (by first | rfl | (simp; done) | (simp [*]; done)), (by first | rfl | (simp; done) | (simp [*]; done)), (by first | rfl | (simp; done) | (simp [*]; done)), H', ⟨Nat.le_refl _⟩, ⟨by (with_reducible repeat (first | refine blk_drewN ?_ _ | refine blk_drew ?_ | refine blk_alloc ?_ _)); exact BK213.out⟩, ⟨by (with_reducible repeat (first | refine blk_drewN ?_ _ | refine blk_drew ?_ | refine blk_alloc ?_ _)); exact BK214.out⟩, ⟨by repeat (first | (with_reducible first | exact HB.out | apply below_alloc | apply pw_below_drewN | apply below_drew1 | refine below_set ?_ GE213.out | refine below_set ?_ GE214.out) | exact HB.out)⟩⟩
    case round =>
      clear H'
      try clear c1
      try clear p2
      try clear c3
      try clear c3b0
      try clear c3b1
      try clear c4
      try clear c6
      try clear c10
      try clear hcz11_0
      try clear hcz11_1
      try clear hcz7_0
      try clear hcz7_1
      try clear hfz11_0
      try clear hfz11_1
      try clear hfz7_0
      try clear hfz7_1
      obtain ⟨x7_1, x8_1, x9_1, x10_1, rfl, rfl, rfl, rfl, HA, HK1, BK213, BK214, HB⟩ := hrel
      cases gk with
      | zero => exact absurd HA.out (by simp [linhayref02_Div.l0])
      | succ k1 =>
        have H := HA.out
        clear HA
        simp only [linhayref02_Div.l0] at H
        by_cases c12 : x10_1 < 64
        · rw [if_pos c12] at H
          have c12b0 : decide (x10_1 < 64) = true := decide_eq_true c12
          clear c12
          by_cases c13 : x7_1 ≥ 9223372036854775808
          · rw [if_pos c13] at H
            have c13b0 : decide (9223372036854775808 ≤ x7_1) = true := decide_eq_true c13
            clear c13
            have H' := Aside0.mk H
            clear H
            go_wp2
            go_roundg k1
            case measure => have := HK1.out; omega
            case rel => exact ⟨(IntKind.u64.wrap ((IntKind.u64.wrap ((IntKind.u64.wrap (2 * x7_1)) + (IntKind.u64.wrap (Int.tdiv x8_1 9223372036854775808)))) - a1)), (IntKind.u64.wrap (2 * x8_1)), (IntKind.u64.wrap ((IntKind.u64.wrap (2 * x9_1)) + 1)), (wrap64 (x10_1 + 1)), (by first | rfl | (simp; done) | (simp [*]; done)), (by first | rfl | (simp; done) | (simp [*]; done)), (by first | rfl | (simp; done) | (simp [*]; done)), (by first | rfl | (simp; done) | (simp [*]; done)), H', ⟨by have := HK1.out; omega⟩, ⟨by (with_reducible repeat (first | refine blk_drewN ?_ _ | refine blk_drew ?_ | refine blk_alloc ?_ _)); exact BK213.out⟩, ⟨by (with_reducible repeat (first | refine blk_drewN ?_ _ | refine blk_drew ?_ | refine blk_alloc ?_ _)); exact BK214.out⟩, ⟨by repeat (first | (with_reducible first | exact HB.out | apply below_alloc | apply pw_below_drewN | apply below_drew1 | refine below_set ?_ GE213.out | refine below_set ?_ GE214.out) | exact HB.out)⟩⟩
          · rw [if_neg c13] at H
            have c13b0 : decide (9223372036854775808 ≤ x7_1) = false := decide_eq_false c13
            clear c13
            by_cases c14 : (IntKind.u64.wrap ((IntKind.u64.wrap (2 * x7_1)) + (IntKind.u64.wrap (Int.tdiv x8_1 9223372036854775808)))) ≥ a1
            · rw [if_pos c14] at H
              have c14b0 : decide (a1 ≤ (IntKind.u64.wrap ((IntKind.u64.wrap (2 * x7_1)) + (IntKind.u64.wrap (Int.tdiv x8_1 9223372036854775808))))) = true := decide_eq_true c14
              clear c14
              have H' := Aside0.mk H
              clear H
              go_wp2
              go_roundg k1
              case measure => have := HK1.out; omega
              case rel => exact ⟨(IntKind.u64.wrap ((IntKind.u64.wrap ((IntKind.u64.wrap (2 * x7_1)) + (IntKind.u64.wrap (Int.tdiv x8_1 9223372036854775808)))) - a1)), (IntKind.u64.wrap (2 * x8_1)), (IntKind.u64.wrap ((IntKind.u64.wrap (2 * x9_1)) + 1)), (wrap64 (x10_1 + 1)), (by first | rfl | (simp; done) | (simp [*]; done)), (by first | rfl | (simp; done) | (simp [*]; done)), (by first | rfl | (simp; done) | (simp [*]; done)), (by first | rfl | (simp; done) | (simp [*]; done)), H', ⟨by have := HK1.out; omega⟩, ⟨by (with_reducible repeat (first | refine blk_drewN ?_ _ | refine blk_drew ?_ | refine blk_alloc ?_ _)); exact BK213.out⟩, ⟨by (with_reducible repeat (first | refine blk_drewN ?_ _ | refine blk_drew ?_ | refine blk_alloc ?_ _)); exact BK214.out⟩, ⟨by repeat (first | (with_reducible first | exact HB.out | apply below_alloc | apply pw_below_drewN | apply below_drew1 | refine below_set ?_ GE213.out | refine below_set ?_ GE214.out) | exact HB.out)⟩⟩
            · rw [if_neg c14] at H
              have c14b0 : decide (a1 ≤ (IntKind.u64.wrap ((IntKind.u64.wrap (2 * x7_1)) + (IntKind.u64.wrap (Int.tdiv x8_1 9223372036854775808))))) = false := decide_eq_false c14
              clear c14
              have H' := Aside0.mk H
              clear H
              go_wp2
              go_roundg k1
              case measure => have := HK1.out; omega
              case rel => exact ⟨(IntKind.u64.wrap ((IntKind.u64.wrap (2 * x7_1)) + (IntKind.u64.wrap (Int.tdiv x8_1 9223372036854775808)))), (IntKind.u64.wrap (2 * x8_1)), (IntKind.u64.wrap (2 * x9_1)), (wrap64 (x10_1 + 1)), (by first | rfl | (simp; done) | (simp [*]; done)), (by first | rfl | (simp; done) | (simp [*]; done)), (by first | rfl | (simp; done) | (simp [*]; done)), (by first | rfl | (simp; done) | (simp [*]; done)), H', ⟨by have := HK1.out; omega⟩, ⟨by (with_reducible repeat (first | refine blk_drewN ?_ _ | refine blk_drew ?_ | refine blk_alloc ?_ _)); exact BK213.out⟩, ⟨by (with_reducible repeat (first | refine blk_drewN ?_ _ | refine blk_drew ?_ | refine blk_alloc ?_ _)); exact BK214.out⟩, ⟨by repeat (first | (with_reducible first | exact HB.out | apply below_alloc | apply pw_below_drewN | apply below_drew1 | refine below_set ?_ GE213.out | refine below_set ?_ GE214.out) | exact HB.out)⟩⟩
        · rw [if_neg c12] at H
          have c12b0 : decide (x10_1 < 64) = false := decide_eq_false c12
          clear c12
          by_cases c15 : a1 = 0
          · rw [if_pos c15] at H
            exact absurd H (by simp)
          · rw [if_neg c15] at H
            have c15b0 : (a1 == 0) = false := beq_eq_false_iff_ne.mpr c15
            have c15b1 : (a1 != 0) = true := bne_iff_ne.mpr c15
            simp only [Option.some.injEq, Prod.mk.injEq] at H
            obtain ⟨rfl, rfl, rfl, rfl⟩ := H
            have hnb16 := NB213_214.out
            have hnc16 := NB214_213.out
            have hcz17_0 : wr.cell? ⟨gb213, 0, none⟩ = some (.int .u64 a0_0) := (blk_cell BK213.out 0).trans rfl
            have hcz17_1 : wr.cell? ⟨gb213, 1, none⟩ = some (.int .u64 a0_1) := (blk_cell BK213.out 1).trans rfl
            have hfz17_0 := blk_frozen BK213.out 0
            have hfz17_1 := blk_frozen BK213.out 1
            have hcz18_0 : wr.cell? ⟨gb214, 0, none⟩ = some (.int .u64 0) := (blk_cell BK214.out 0).trans rfl
            have hcz18_1 : wr.cell? ⟨gb214, 1, none⟩ = some (.int .u64 0) := (blk_cell BK214.out 1).trans rfl
            have hfz18_0 := blk_frozen BK214.out 0
            have hfz18_1 := blk_frozen BK214.out 1
            go_wp2
            refine bodyPost_ret (results_ctt rfl _ _ gb214 43 #[.int .u64 (IntKind.u64.wrap (Int.tdiv a0_0 a1)), .int .u64 x9_1] (0, 0) _ rfl (by (with_reducible repeat (first | refine blk_drewN ?_ _ | refine blk_drew ?_ | refine blk_alloc ?_ _)); refine blk_put (cs := #[.int .u64 (IntKind.u64.wrap (Int.tdiv a0_0 a1)), .int .u64 0]) ?_ 1 _ rfl; (with_reducible repeat (first | refine blk_drewN ?_ _ | refine blk_drew ?_ | refine blk_alloc ?_ _)); refine blk_put (cs := #[.int .u64 0, .int .u64 0]) ?_ 0 _ rfl; (with_reducible repeat (first | refine blk_drewN ?_ _ | refine blk_drew ?_ | refine blk_alloc ?_ _)); exact BK214.out) Try.underlying43 rfl (by kernel_rfl)) rfl ?_
            exact ⟨by first | rfl | (simp [errW_none, errW_some] <;> rfl) | (simp [*, errW_none, errW_some] <;> rfl), by repeat (first | (with_reducible first | exact HB.out | apply below_alloc | apply pw_below_drewN | apply below_drew1 | refine below_set ?_ GE213.out | refine below_set ?_ GE214.out) | exact HB.out)⟩

/-! ### linhayref03_part: function 29 -/
def linhayref03_part.f (k : Nat) (a0 : Int) (a1 : Int) (a2 : Int) (a3 : Int) : Option (Int × Int) := (linhayref02_Mul.f a0 a1).bind fun bt215 => ((linhayref02_Add.f bt215.1 bt215.2 0 a3).bind fun bt217 => ((linhayref02_Div.f k bt217.1 bt217.2.1 a2).bind fun bt221 => (if bt221.2.2.2 = 0 then (if bt217.2.2 = true then (some (0, 10)) else (if bt221.1 > 0 then (some (0, 10)) else (some (bt221.2.1, 0)))) else (some (0, bt221.2.2.2)))))
theorem linhayref03_part.mono : ∀ a0 a1 a2 a3 k, LeO (linhayref03_part.f k a0 a1 a2 a3) (linhayref03_part.f (k + 1) a0 a1 a2 a3) := by
  intro a0 a1 a2 a3 k
  unfold linhayref03_part.f
  repeat' first
      | (with_reducible exact linhayref02_Div.mono _ _ _ _)
      | (with_reducible exact LeO.refl _)
      | (with_reducible exact LeO.none _)
      | (with_reducible refine LeO.ite ?_ ?_)
      | (with_reducible refine LeO.bind ?_ (fun _ => ?_))
      | exact linhayref02_Div.mono _ _ _ _
      | exact LeO.none _
      | refine LeO.ite ?_ ?_
      | refine LeO.bind ?_ (fun _ => ?_)
set_option maxHeartbeats 8000000 in
set_option maxRecDepth 100000 in
theorem linhayref03_part.calls (k : Nat) (a0 : Int) (a1 : Int) (a2 : Int) (a3 : Int) (r1 : Int) (r2 : Int) (w : World) (h : linhayref03_part.f k a0 a1 a2 a3 = some (r1, r2)) :
    Calls Try.prog 29 #[.int .u64 a0, .int .u64 a1, .int .u64 a2, .int .u64 a3] w fun e w' => e = .returned (.tuple #[.int .u64 r1, .int .i64 r2]) ∧ Below w.heap.size w w' := by
  have hu43 := Try.underlying43
  have HB := Aside0.mk (Below.refl w.heap.size w)
  have H : ((linhayref02_Mul.f a0 a1).bind fun bt215 => ((linhayref02_Add.f bt215.1 bt215.2 0 a3).bind fun bt217 => ((linhayref02_Div.f k bt217.1 bt217.2.1 a2).bind fun bt221 => (if bt221.2.2.2 = 0 then (if bt217.2.2 = true then (some (0, 10)) else (if bt221.1 > 0 then (some (0, 10)) else (some (bt221.2.1, 0)))) else (some (0, bt221.2.2.2)))))) = some (r1, r2) := h
  clear h
  replace H := Option.bind_eq_some_iff.mp H
  obtain ⟨⟨t215, t216⟩, A50, H⟩ := H
  replace H : ((linhayref02_Add.f t215 t216 0 a3).bind fun bt217 => ((linhayref02_Div.f k bt217.1 bt217.2.1 a2).bind fun bt221 => (if bt221.2.2.2 = 0 then (if bt217.2.2 = true then (some (0, 10)) else (if bt221.1 > 0 then (some (0, 10)) else (some (bt221.2.1, 0)))) else (some (0, bt221.2.2.2))))) = some (r1, r2) := H
  have A5 := Aside0.mk A50
  clear A50
  replace H := Option.bind_eq_some_iff.mp H
  obtain ⟨⟨t217, t218, t219⟩, A60, H⟩ := H
  replace H : ((linhayref02_Div.f k t217 t218 a2).bind fun bt221 => (if bt221.2.2.2 = 0 then (if t219 = true then (some (0, 10)) else (if bt221.1 > 0 then (some (0, 10)) else (some (bt221.2.1, 0)))) else (some (0, bt221.2.2.2)))) = some (r1, r2) := H
  have A6 := Aside0.mk A60
  clear A60
  replace H := Option.bind_eq_some_iff.mp H
  obtain ⟨⟨t221, t222, t223, t224⟩, A70, H⟩ := H
  replace H : (if t224 = 0 then (if t219 = true then (some (0, 10)) else (if t221 > 0 then (some (0, 10)) else (some (t222, 0)))) else (some (0, t224))) = some (r1, r2) := H
  have A7 := Aside0.mk A70
  clear A70
  by_cases c8 : t224 = 0
  · rw [if_pos c8] at H
    have c8b0 : (t224 == 0) = true := beq_iff_eq.mpr c8
    have c8b1 : (t224 != 0) = false := bne_eq_false_iff_eq.mpr c8
    clear c8
    by_cases c9 : t219 = true
    · subst c9
      have H1 : (some (0, 10)) = some (r1, r2) := by rw [if_pos rfl] at H; exact H
      clear H
      have H := H1
      clear H1
      simp only [Option.some.injEq, Prod.mk.injEq] at H
      obtain ⟨rfl, rfl⟩ := H
      go_enter Try.func29, Try.ntmps29
      go_wp2_with (first | ((with_reducible refine gate_callee (f := 22) rfl ?_); refine goesL_ (some 18) rfl rfl Try.func22 (by kernel_rfl) rfl #[.int .u64 a0, .int .u64 a1] rfl (by (try simp only [List.map_toArray, List.map_cons, List.map_nil]); first | done | rfl | (simp only [List.length_drop, List.length_take]; rfl)) ?_; (with_reducible refine (linhayref02_Mul.calls a0 a1 t215 t216 _ A5.out).mono ?_); rintro e w10 ⟨rfl, hb⟩; refine ⟨_, rfl, ?_⟩; have n0_ := Aside0.mk (below_step (by repeat (first | (with_reducible first | exact HB.out | apply below_alloc | apply pw_below_drewN | apply below_drew1) | exact HB.out)) hb); clear HB; have HB := n0_; clear n0_; (try clear hb); (try clear hb2); (try clear hk); (try clear hi)) | ((with_reducible refine gate_callee (f := 39) rfl ?_); refine goesL_ (some 21) rfl rfl Try.func39 (by kernel_rfl) rfl #[.agg #[.int .u64 t215, .int .u64 t216], .agg #[.int .u64 0, .int .u64 a3]] rfl (by (try simp only [List.map_toArray, List.map_cons, List.map_nil]); first | done | rfl | (simp only [List.length_drop, List.length_take]; rfl)) ?_; (with_reducible refine (linhayref02_Add.calls t215 t216 0 a3 t217 t218 true _ A6.out).mono ?_); rintro e w11 ⟨rfl, hb⟩; refine ⟨_, rfl, ?_⟩; have n0_ := Aside0.mk (below_step (by repeat (first | (with_reducible first | exact HB.out | apply below_alloc | apply pw_below_drewN | apply below_drew1) | exact HB.out)) hb); clear HB; have HB := n0_; clear n0_; (try clear hb); (try clear hb2); (try clear hk); (try clear hi)) | ((with_reducible refine gate_dst (N := 10) rfl ?_); refine box_event ?hg (N := 10) ?hd (cs := #[.int .u64 0, .int .u64 0]) (t := 43) ?hr ?_; (case hd => rfl); (case hg => rfl); (case hr => first | (go_simp; done) | (go_simp; rfl)); intro gb220 hg w12 hbox hb; have n0_ := Aside0.mk (below_step (by repeat (first | (with_reducible first | exact HB.out | apply below_alloc | apply pw_below_drewN | apply below_drew1) | exact HB.out)) hb); have n1_ := Aside0.mk (hbox); have n2_ := Aside0.mk ((by rw [hg]; exact (below_size (by repeat (first | (with_reducible first | exact HB.out | apply below_alloc | apply pw_below_drewN | apply below_drew1) | exact HB.out))) : w.heap.size ≤ gb220)); have n3_ := Aside0.mk ((by rw [hg]; exact (below_size (by repeat (first | (with_reducible first | exact HB.out | apply below_alloc | apply pw_below_drewN | apply below_drew1) | exact HB.out))) : w.heap.size ≤ gb220)); clear HB; have HB := n0_; have BK220 := n1_; have GW220 := n2_; have GE220 := n3_; clear n0_ n1_ n2_ n3_; clear hb hbox hg; have hcz13_0 : w12.cell? ⟨gb220, 0, none⟩ = some (.int .u64 0) := (blk_cell BK220.out 0).trans rfl; have hcz13_1 : w12.cell? ⟨gb220, 1, none⟩ = some (.int .u64 0) := (blk_cell BK220.out 1).trans rfl; have hfz13_0 := blk_frozen BK220.out 0; have hfz13_1 := blk_frozen BK220.out 1) | ((with_reducible refine gate_callee (f := 40) rfl ?_); refine goesL_ (some 27) rfl rfl Try.func40 (by kernel_rfl) rfl #[.agg #[.int .u64 t217, .int .u64 t218], .int .u64 a2] rfl (by (try simp only [List.map_toArray, List.map_cons, List.map_nil]); first | done | rfl | (simp only [List.length_drop, List.length_take]; rfl)) ?_; (with_reducible refine (linhayref02_Div.calls k t217 t218 a2 t221 t222 t223 t224 _ A7.out).mono ?_); rintro e w14 ⟨rfl, hb⟩; refine ⟨_, rfl, ?_⟩; have n0_ := Aside0.mk (blk_below (g := gb220) (o := .cells #[.int .u64 t217, .int .u64 t218] 43 (0, 0)) (by (with_reducible repeat (first | refine blk_drewN ?_ _ | refine blk_drew ?_ | refine blk_alloc ?_ _)); refine blk_put (cs := #[.int .u64 t217, .int .u64 0]) ?_ 1 _ rfl; (with_reducible repeat (first | refine blk_drewN ?_ _ | refine blk_drew ?_ | refine blk_alloc ?_ _)); refine blk_put (cs := #[.int .u64 0, .int .u64 0]) ?_ 0 _ rfl; (with_reducible repeat (first | refine blk_drewN ?_ _ | refine blk_drew ?_ | refine blk_alloc ?_ _)); exact BK220.out) hb); have n1_ := Aside0.mk (below_step (by repeat (first | (with_reducible first | exact HB.out | apply below_alloc | apply pw_below_drewN | apply below_drew1 | refine below_set ?_ GE220.out) | exact HB.out)) hb); clear BK220; clear HB; have BK220 := n0_; have HB := n1_; clear n0_ n1_; (try clear hb); (try clear hb2); (try clear hk); (try clear hi)) | ((with_reducible refine gate_dst (N := 12) rfl ?_); refine box_event ?hg (N := 12) ?hd (cs := #[.int .u64 0, .int .u64 0]) (t := 43) ?hr ?_; (case hd => rfl); (case hg => rfl); (case hr => first | (go_simp; done) | (go_simp; rfl)); intro gb225 hg w15 hbox hb; have n0_ := Aside0.mk (blk_below (g := gb220) (o := .cells #[.int .u64 t217, .int .u64 t218] 43 (0, 0)) (by (with_reducible repeat (first | refine blk_drewN ?_ _ | refine blk_drew ?_ | refine blk_alloc ?_ _)); exact BK220.out) hb); have n1_ := Aside0.mk (below_step (by repeat (first | (with_reducible first | exact HB.out | apply below_alloc | apply pw_below_drewN | apply below_drew1 | refine below_set ?_ GE220.out) | exact HB.out)) hb); have n2_ := Aside0.mk (hbox); have n3_ := Aside0.mk ((by rw [hg]; exact (below_size (by repeat (first | (with_reducible first | exact HB.out | apply below_alloc | apply pw_below_drewN | apply below_drew1 | refine below_set ?_ GE220.out) | exact HB.out))) : w.heap.size ≤ gb225)); have n4_ := Aside0.mk ((by rw [hg]; exact (below_size (by repeat (first | (with_reducible first | exact HB.out | apply below_alloc | apply pw_below_drewN | apply below_drew1 | refine below_set ?_ GE220.out) | exact HB.out))) : w.heap.size ≤ gb225)); have n5_ := Aside0.mk ((by rw [hg]; exact Nat.ne_of_lt (blk_lt (g := gb220) (o := .cells #[.int .u64 t217, .int .u64 t218] 43 (0, 0)) (by (with_reducible repeat (first | refine blk_drewN ?_ _ | refine blk_drew ?_ | refine blk_alloc ?_ _)); exact BK220.out)) : gb220 ≠ gb225)); have n6_ := Aside0.mk ((by rw [hg]; exact Nat.ne_of_gt (blk_lt (g := gb220) (o := .cells #[.int .u64 t217, .int .u64 t218] 43 (0, 0)) (by (with_reducible repeat (first | refine blk_drewN ?_ _ | refine blk_drew ?_ | refine blk_alloc ?_ _)); exact BK220.out)) : gb225 ≠ gb220)); clear BK220; clear HB; have BK220 := n0_; have HB := n1_; have BK225 := n2_; have GW225 := n3_; have GE225 := n4_; have NB220_225 := n5_; have NB225_220 := n6_; clear n0_ n1_ n2_ n3_ n4_ n5_ n6_; clear hb hbox hg; have hnb16 := NB225_220.out; have hnc16 := NB220_225.out; have hcz17_0 : w15.cell? ⟨gb225, 0, none⟩ = some (.int .u64 0) := (blk_cell BK225.out 0).trans rfl; have hcz17_1 : w15.cell? ⟨gb225, 1, none⟩ = some (.int .u64 0) := (blk_cell BK225.out 1).trans rfl; have hfz17_0 := blk_frozen BK225.out 0; have hfz17_1 := blk_frozen BK225.out 1) | (go_at_call 22; (with_reducible refine (linhayref02_Mul.calls a0 a1 t215 t216 _ A5.out).mono ?_); rintro e w10 ⟨rfl, hb⟩; have n0_ := Aside0.mk (below_step (by repeat (first | (with_reducible first | exact HB.out | apply below_alloc | apply pw_below_drewN | apply below_drew1) | exact HB.out)) hb); clear HB; have HB := n0_; clear n0_; (try clear hb); (try clear hb2); (try clear hk); (try clear hi)) | (go_at_call 39; (with_reducible refine (linhayref02_Add.calls t215 t216 0 a3 t217 t218 true _ A6.out).mono ?_); rintro e w11 ⟨rfl, hb⟩; have n0_ := Aside0.mk (below_step (by repeat (first | (with_reducible first | exact HB.out | apply below_alloc | apply pw_below_drewN | apply below_drew1) | exact HB.out)) hb); clear HB; have HB := n0_; clear n0_; (try clear hb); (try clear hb2); (try clear hk); (try clear hi)) | (go_at_call 40; (with_reducible refine (linhayref02_Div.calls k t217 t218 a2 t221 t222 t223 t224 _ A7.out).mono ?_); rintro e w14 ⟨rfl, hb⟩; have n0_ := Aside0.mk (blk_below (g := gb220) (o := .cells #[.int .u64 t217, .int .u64 t218] 43 (0, 0)) (by (with_reducible repeat (first | refine blk_drewN ?_ _ | refine blk_drew ?_ | refine blk_alloc ?_ _)); refine blk_put (cs := #[.int .u64 t217, .int .u64 0]) ?_ 1 _ rfl; (with_reducible repeat (first | refine blk_drewN ?_ _ | refine blk_drew ?_ | refine blk_alloc ?_ _)); refine blk_put (cs := #[.int .u64 0, .int .u64 0]) ?_ 0 _ rfl; (with_reducible repeat (first | refine blk_drewN ?_ _ | refine blk_drew ?_ | refine blk_alloc ?_ _)); exact BK220.out) hb); have n1_ := Aside0.mk (below_step (by repeat (first | (with_reducible first | exact HB.out | apply below_alloc | apply pw_below_drewN | apply below_drew1 | refine below_set ?_ GE220.out) | exact HB.out)) hb); clear BK220; clear HB; have BK220 := n0_; have HB := n1_; clear n0_ n1_; (try clear hb); (try clear hb2); (try clear hk); (try clear hi)))
      go_ret2
      exact ⟨by first | rfl | (simp [errW_none, errW_some] <;> rfl) | (simp [*, errW_none, errW_some] <;> rfl), by repeat (first | (with_reducible first | exact HB.out | apply below_alloc | apply pw_below_drewN | apply below_drew1 | refine below_set ?_ GE220.out | refine below_set ?_ GE225.out) | exact HB.out)⟩
    · replace c9 := Bool.eq_false_iff.mpr c9
      subst c9
      have H1 : (if t221 > 0 then (some (0, 10)) else (some (t222, 0))) = some (r1, r2) := by rw [if_neg (show ¬ (false = true) by decide)] at H; exact H
      clear H
      have H := H1
      clear H1
      by_cases c18 : t221 > 0
      · rw [if_pos c18] at H
        have c18b0 : decide (0 < t221) = true := decide_eq_true c18
        clear c18
        simp only [Option.some.injEq, Prod.mk.injEq] at H
        obtain ⟨rfl, rfl⟩ := H
        go_enter Try.func29, Try.ntmps29
        go_wp2_with (first | ((with_reducible refine gate_callee (f := 22) rfl ?_); refine goesL_ (some 18) rfl rfl Try.func22 (by kernel_rfl) rfl #[.int .u64 a0, .int .u64 a1] rfl (by (try simp only [List.map_toArray, List.map_cons, List.map_nil]); first | done | rfl | (simp only [List.length_drop, List.length_take]; rfl)) ?_; (with_reducible refine (linhayref02_Mul.calls a0 a1 t215 t216 _ A5.out).mono ?_); rintro e w19 ⟨rfl, hb⟩; refine ⟨_, rfl, ?_⟩; have n0_ := Aside0.mk (below_step (by repeat (first | (with_reducible first | exact HB.out | apply below_alloc | apply pw_below_drewN | apply below_drew1) | exact HB.out)) hb); clear HB; have HB := n0_; clear n0_; (try clear hb); (try clear hb2); (try clear hk); (try clear hi)) | ((with_reducible refine gate_callee (f := 39) rfl ?_); refine goesL_ (some 21) rfl rfl Try.func39 (by kernel_rfl) rfl #[.agg #[.int .u64 t215, .int .u64 t216], .agg #[.int .u64 0, .int .u64 a3]] rfl (by (try simp only [List.map_toArray, List.map_cons, List.map_nil]); first | done | rfl | (simp only [List.length_drop, List.length_take]; rfl)) ?_; (with_reducible refine (linhayref02_Add.calls t215 t216 0 a3 t217 t218 false _ A6.out).mono ?_); rintro e w20 ⟨rfl, hb⟩; refine ⟨_, rfl, ?_⟩; have n0_ := Aside0.mk (below_step (by repeat (first | (with_reducible first | exact HB.out | apply below_alloc | apply pw_below_drewN | apply below_drew1) | exact HB.out)) hb); clear HB; have HB := n0_; clear n0_; (try clear hb); (try clear hb2); (try clear hk); (try clear hi)) | ((with_reducible refine gate_dst (N := 10) rfl ?_); refine box_event ?hg (N := 10) ?hd (cs := #[.int .u64 0, .int .u64 0]) (t := 43) ?hr ?_; (case hd => rfl); (case hg => rfl); (case hr => first | (go_simp; done) | (go_simp; rfl)); intro gb220 hg w21 hbox hb; have n0_ := Aside0.mk (below_step (by repeat (first | (with_reducible first | exact HB.out | apply below_alloc | apply pw_below_drewN | apply below_drew1) | exact HB.out)) hb); have n1_ := Aside0.mk (hbox); have n2_ := Aside0.mk ((by rw [hg]; exact (below_size (by repeat (first | (with_reducible first | exact HB.out | apply below_alloc | apply pw_below_drewN | apply below_drew1) | exact HB.out))) : w.heap.size ≤ gb220)); have n3_ := Aside0.mk ((by rw [hg]; exact (below_size (by repeat (first | (with_reducible first | exact HB.out | apply below_alloc | apply pw_below_drewN | apply below_drew1) | exact HB.out))) : w.heap.size ≤ gb220)); clear HB; have HB := n0_; have BK220 := n1_; have GW220 := n2_; have GE220 := n3_; clear n0_ n1_ n2_ n3_; clear hb hbox hg; have hcz22_0 : w21.cell? ⟨gb220, 0, none⟩ = some (.int .u64 0) := (blk_cell BK220.out 0).trans rfl; have hcz22_1 : w21.cell? ⟨gb220, 1, none⟩ = some (.int .u64 0) := (blk_cell BK220.out 1).trans rfl; have hfz22_0 := blk_frozen BK220.out 0; have hfz22_1 := blk_frozen BK220.out 1) | ((with_reducible refine gate_callee (f := 40) rfl ?_); refine goesL_ (some 27) rfl rfl Try.func40 (by kernel_rfl) rfl #[.agg #[.int .u64 t217, .int .u64 t218], .int .u64 a2] rfl (by (try simp only [List.map_toArray, List.map_cons, List.map_nil]); first | done | rfl | (simp only [List.length_drop, List.length_take]; rfl)) ?_; (with_reducible refine (linhayref02_Div.calls k t217 t218 a2 t221 t222 t223 t224 _ A7.out).mono ?_); rintro e w23 ⟨rfl, hb⟩; refine ⟨_, rfl, ?_⟩; have n0_ := Aside0.mk (blk_below (g := gb220) (o := .cells #[.int .u64 t217, .int .u64 t218] 43 (0, 0)) (by (with_reducible repeat (first | refine blk_drewN ?_ _ | refine blk_drew ?_ | refine blk_alloc ?_ _)); refine blk_put (cs := #[.int .u64 t217, .int .u64 0]) ?_ 1 _ rfl; (with_reducible repeat (first | refine blk_drewN ?_ _ | refine blk_drew ?_ | refine blk_alloc ?_ _)); refine blk_put (cs := #[.int .u64 0, .int .u64 0]) ?_ 0 _ rfl; (with_reducible repeat (first | refine blk_drewN ?_ _ | refine blk_drew ?_ | refine blk_alloc ?_ _)); exact BK220.out) hb); have n1_ := Aside0.mk (below_step (by repeat (first | (with_reducible first | exact HB.out | apply below_alloc | apply pw_below_drewN | apply below_drew1 | refine below_set ?_ GE220.out) | exact HB.out)) hb); clear BK220; clear HB; have BK220 := n0_; have HB := n1_; clear n0_ n1_; (try clear hb); (try clear hb2); (try clear hk); (try clear hi)) | ((with_reducible refine gate_dst (N := 12) rfl ?_); refine box_event ?hg (N := 12) ?hd (cs := #[.int .u64 0, .int .u64 0]) (t := 43) ?hr ?_; (case hd => rfl); (case hg => rfl); (case hr => first | (go_simp; done) | (go_simp; rfl)); intro gb225 hg w24 hbox hb; have n0_ := Aside0.mk (blk_below (g := gb220) (o := .cells #[.int .u64 t217, .int .u64 t218] 43 (0, 0)) (by (with_reducible repeat (first | refine blk_drewN ?_ _ | refine blk_drew ?_ | refine blk_alloc ?_ _)); exact BK220.out) hb); have n1_ := Aside0.mk (below_step (by repeat (first | (with_reducible first | exact HB.out | apply below_alloc | apply pw_below_drewN | apply below_drew1 | refine below_set ?_ GE220.out) | exact HB.out)) hb); have n2_ := Aside0.mk (hbox); have n3_ := Aside0.mk ((by rw [hg]; exact (below_size (by repeat (first | (with_reducible first | exact HB.out | apply below_alloc | apply pw_below_drewN | apply below_drew1 | refine below_set ?_ GE220.out) | exact HB.out))) : w.heap.size ≤ gb225)); have n4_ := Aside0.mk ((by rw [hg]; exact (below_size (by repeat (first | (with_reducible first | exact HB.out | apply below_alloc | apply pw_below_drewN | apply below_drew1 | refine below_set ?_ GE220.out) | exact HB.out))) : w.heap.size ≤ gb225)); have n5_ := Aside0.mk ((by rw [hg]; exact Nat.ne_of_lt (blk_lt (g := gb220) (o := .cells #[.int .u64 t217, .int .u64 t218] 43 (0, 0)) (by (with_reducible repeat (first | refine blk_drewN ?_ _ | refine blk_drew ?_ | refine blk_alloc ?_ _)); exact BK220.out)) : gb220 ≠ gb225)); have n6_ := Aside0.mk ((by rw [hg]; exact Nat.ne_of_gt (blk_lt (g := gb220) (o := .cells #[.int .u64 t217, .int .u64 t218] 43 (0, 0)) (by (with_reducible repeat (first | refine blk_drewN ?_ _ | refine blk_drew ?_ | refine blk_alloc ?_ _)); exact BK220.out)) : gb225 ≠ gb220)); clear BK220; clear HB; have BK220 := n0_; have HB := n1_; have BK225 := n2_; have GW225 := n3_; have GE225 := n4_; have NB220_225 := n5_; have NB225_220 := n6_; clear n0_ n1_ n2_ n3_ n4_ n5_ n6_; clear hb hbox hg; have hnb25 := NB225_220.out; have hnc25 := NB220_225.out; have hcz26_0 : w24.cell? ⟨gb225, 0, none⟩ = some (.int .u64 0) := (blk_cell BK225.out 0).trans rfl; have hcz26_1 : w24.cell? ⟨gb225, 1, none⟩ = some (.int .u64 0) := (blk_cell BK225.out 1).trans rfl; have hfz26_0 := blk_frozen BK225.out 0; have hfz26_1 := blk_frozen BK225.out 1) | (go_at_call 22; (with_reducible refine (linhayref02_Mul.calls a0 a1 t215 t216 _ A5.out).mono ?_); rintro e w19 ⟨rfl, hb⟩; have n0_ := Aside0.mk (below_step (by repeat (first | (with_reducible first | exact HB.out | apply below_alloc | apply pw_below_drewN | apply below_drew1) | exact HB.out)) hb); clear HB; have HB := n0_; clear n0_; (try clear hb); (try clear hb2); (try clear hk); (try clear hi)) | (go_at_call 39; (with_reducible refine (linhayref02_Add.calls t215 t216 0 a3 t217 t218 false _ A6.out).mono ?_); rintro e w20 ⟨rfl, hb⟩; have n0_ := Aside0.mk (below_step (by repeat (first | (with_reducible first | exact HB.out | apply below_alloc | apply pw_below_drewN | apply below_drew1) | exact HB.out)) hb); clear HB; have HB := n0_; clear n0_; (try clear hb); (try clear hb2); (try clear hk); (try clear hi)) | (go_at_call 40; (with_reducible refine (linhayref02_Div.calls k t217 t218 a2 t221 t222 t223 t224 _ A7.out).mono ?_); rintro e w23 ⟨rfl, hb⟩; have n0_ := Aside0.mk (blk_below (g := gb220) (o := .cells #[.int .u64 t217, .int .u64 t218] 43 (0, 0)) (by (with_reducible repeat (first | refine blk_drewN ?_ _ | refine blk_drew ?_ | refine blk_alloc ?_ _)); refine blk_put (cs := #[.int .u64 t217, .int .u64 0]) ?_ 1 _ rfl; (with_reducible repeat (first | refine blk_drewN ?_ _ | refine blk_drew ?_ | refine blk_alloc ?_ _)); refine blk_put (cs := #[.int .u64 0, .int .u64 0]) ?_ 0 _ rfl; (with_reducible repeat (first | refine blk_drewN ?_ _ | refine blk_drew ?_ | refine blk_alloc ?_ _)); exact BK220.out) hb); have n1_ := Aside0.mk (below_step (by repeat (first | (with_reducible first | exact HB.out | apply below_alloc | apply pw_below_drewN | apply below_drew1 | refine below_set ?_ GE220.out) | exact HB.out)) hb); clear BK220; clear HB; have BK220 := n0_; have HB := n1_; clear n0_ n1_; (try clear hb); (try clear hb2); (try clear hk); (try clear hi)))
        go_ret2
        exact ⟨by first | rfl | (simp [errW_none, errW_some] <;> rfl) | (simp [*, errW_none, errW_some] <;> rfl), by repeat (first | (with_reducible first | exact HB.out | apply below_alloc | apply pw_below_drewN | apply below_drew1 | refine below_set ?_ GE220.out | refine below_set ?_ GE225.out) | exact HB.out)⟩
      · rw [if_neg c18] at H
        have c18b0 : decide (0 < t221) = false := decide_eq_false c18
        clear c18
        simp only [Option.some.injEq, Prod.mk.injEq] at H
        obtain ⟨rfl, rfl⟩ := H
        go_enter Try.func29, Try.ntmps29
        go_wp2_with (first | ((with_reducible refine gate_callee (f := 22) rfl ?_); refine goesL_ (some 18) rfl rfl Try.func22 (by kernel_rfl) rfl #[.int .u64 a0, .int .u64 a1] rfl (by (try simp only [List.map_toArray, List.map_cons, List.map_nil]); first | done | rfl | (simp only [List.length_drop, List.length_take]; rfl)) ?_; (with_reducible refine (linhayref02_Mul.calls a0 a1 t215 t216 _ A5.out).mono ?_); rintro e w27 ⟨rfl, hb⟩; refine ⟨_, rfl, ?_⟩; have n0_ := Aside0.mk (below_step (by repeat (first | (with_reducible first | exact HB.out | apply below_alloc | apply pw_below_drewN | apply below_drew1) | exact HB.out)) hb); clear HB; have HB := n0_; clear n0_; (try clear hb); (try clear hb2); (try clear hk); (try clear hi)) | ((with_reducible refine gate_callee (f := 39) rfl ?_); refine goesL_ (some 21) rfl rfl Try.func39 (by kernel_rfl) rfl #[.agg #[.int .u64 t215, .int .u64 t216], .agg #[.int .u64 0, .int .u64 a3]] rfl (by (try simp only [List.map_toArray, List.map_cons, List.map_nil]); first | done | rfl | (simp only [List.length_drop, List.length_take]; rfl)) ?_; (with_reducible refine (linhayref02_Add.calls t215 t216 0 a3 t217 t218 false _ A6.out).mono ?_); rintro e w28 ⟨rfl, hb⟩; refine ⟨_, rfl, ?_⟩; have n0_ := Aside0.mk (below_step (by repeat (first | (with_reducible first | exact HB.out | apply below_alloc | apply pw_below_drewN | apply below_drew1) | exact HB.out)) hb); clear HB; have HB := n0_; clear n0_; (try clear hb); (try clear hb2); (try clear hk); (try clear hi)) | ((with_reducible refine gate_dst (N := 10) rfl ?_); refine box_event ?hg (N := 10) ?hd (cs := #[.int .u64 0, .int .u64 0]) (t := 43) ?hr ?_; (case hd => rfl); (case hg => rfl); (case hr => first | (go_simp; done) | (go_simp; rfl)); intro gb220 hg w29 hbox hb; have n0_ := Aside0.mk (below_step (by repeat (first | (with_reducible first | exact HB.out | apply below_alloc | apply pw_below_drewN | apply below_drew1) | exact HB.out)) hb); have n1_ := Aside0.mk (hbox); have n2_ := Aside0.mk ((by rw [hg]; exact (below_size (by repeat (first | (with_reducible first | exact HB.out | apply below_alloc | apply pw_below_drewN | apply below_drew1) | exact HB.out))) : w.heap.size ≤ gb220)); have n3_ := Aside0.mk ((by rw [hg]; exact (below_size (by repeat (first | (with_reducible first | exact HB.out | apply below_alloc | apply pw_below_drewN | apply below_drew1) | exact HB.out))) : w.heap.size ≤ gb220)); clear HB; have HB := n0_; have BK220 := n1_; have GW220 := n2_; have GE220 := n3_; clear n0_ n1_ n2_ n3_; clear hb hbox hg; have hcz30_0 : w29.cell? ⟨gb220, 0, none⟩ = some (.int .u64 0) := (blk_cell BK220.out 0).trans rfl; have hcz30_1 : w29.cell? ⟨gb220, 1, none⟩ = some (.int .u64 0) := (blk_cell BK220.out 1).trans rfl; have hfz30_0 := blk_frozen BK220.out 0; have hfz30_1 := blk_frozen BK220.out 1) | ((with_reducible refine gate_callee (f := 40) rfl ?_); refine goesL_ (some 27) rfl rfl Try.func40 (by kernel_rfl) rfl #[.agg #[.int .u64 t217, .int .u64 t218], .int .u64 a2] rfl (by (try simp only [List.map_toArray, List.map_cons, List.map_nil]); first | done | rfl | (simp only [List.length_drop, List.length_take]; rfl)) ?_; (with_reducible refine (linhayref02_Div.calls k t217 t218 a2 t221 t222 t223 t224 _ A7.out).mono ?_); rintro e w31 ⟨rfl, hb⟩; refine ⟨_, rfl, ?_⟩; have n0_ := Aside0.mk (blk_below (g := gb220) (o := .cells #[.int .u64 t217, .int .u64 t218] 43 (0, 0)) (by (with_reducible repeat (first | refine blk_drewN ?_ _ | refine blk_drew ?_ | refine blk_alloc ?_ _)); refine blk_put (cs := #[.int .u64 t217, .int .u64 0]) ?_ 1 _ rfl; (with_reducible repeat (first | refine blk_drewN ?_ _ | refine blk_drew ?_ | refine blk_alloc ?_ _)); refine blk_put (cs := #[.int .u64 0, .int .u64 0]) ?_ 0 _ rfl; (with_reducible repeat (first | refine blk_drewN ?_ _ | refine blk_drew ?_ | refine blk_alloc ?_ _)); exact BK220.out) hb); have n1_ := Aside0.mk (below_step (by repeat (first | (with_reducible first | exact HB.out | apply below_alloc | apply pw_below_drewN | apply below_drew1 | refine below_set ?_ GE220.out) | exact HB.out)) hb); clear BK220; clear HB; have BK220 := n0_; have HB := n1_; clear n0_ n1_; (try clear hb); (try clear hb2); (try clear hk); (try clear hi)) | ((with_reducible refine gate_dst (N := 12) rfl ?_); refine box_event ?hg (N := 12) ?hd (cs := #[.int .u64 0, .int .u64 0]) (t := 43) ?hr ?_; (case hd => rfl); (case hg => rfl); (case hr => first | (go_simp; done) | (go_simp; rfl)); intro gb225 hg w32 hbox hb; have n0_ := Aside0.mk (blk_below (g := gb220) (o := .cells #[.int .u64 t217, .int .u64 t218] 43 (0, 0)) (by (with_reducible repeat (first | refine blk_drewN ?_ _ | refine blk_drew ?_ | refine blk_alloc ?_ _)); exact BK220.out) hb); have n1_ := Aside0.mk (below_step (by repeat (first | (with_reducible first | exact HB.out | apply below_alloc | apply pw_below_drewN | apply below_drew1 | refine below_set ?_ GE220.out) | exact HB.out)) hb); have n2_ := Aside0.mk (hbox); have n3_ := Aside0.mk ((by rw [hg]; exact (below_size (by repeat (first | (with_reducible first | exact HB.out | apply below_alloc | apply pw_below_drewN | apply below_drew1 | refine below_set ?_ GE220.out) | exact HB.out))) : w.heap.size ≤ gb225)); have n4_ := Aside0.mk ((by rw [hg]; exact (below_size (by repeat (first | (with_reducible first | exact HB.out | apply below_alloc | apply pw_below_drewN | apply below_drew1 | refine below_set ?_ GE220.out) | exact HB.out))) : w.heap.size ≤ gb225)); have n5_ := Aside0.mk ((by rw [hg]; exact Nat.ne_of_lt (blk_lt (g := gb220) (o := .cells #[.int .u64 t217, .int .u64 t218] 43 (0, 0)) (by (with_reducible repeat (first | refine blk_drewN ?_ _ | refine blk_drew ?_ | refine blk_alloc ?_ _)); exact BK220.out)) : gb220 ≠ gb225)); have n6_ := Aside0.mk ((by rw [hg]; exact Nat.ne_of_gt (blk_lt (g := gb220) (o := .cells #[.int .u64 t217, .int .u64 t218] 43 (0, 0)) (by (with_reducible repeat (first | refine blk_drewN ?_ _ | refine blk_drew ?_ | refine blk_alloc ?_ _)); exact BK220.out)) : gb225 ≠ gb220)); clear BK220; clear HB; have BK220 := n0_; have HB := n1_; have BK225 := n2_; have GW225 := n3_; have GE225 := n4_; have NB220_225 := n5_; have NB225_220 := n6_; clear n0_ n1_ n2_ n3_ n4_ n5_ n6_; clear hb hbox hg; have hnb33 := NB225_220.out; have hnc33 := NB220_225.out; have hcz34_0 : w32.cell? ⟨gb225, 0, none⟩ = some (.int .u64 0) := (blk_cell BK225.out 0).trans rfl; have hcz34_1 : w32.cell? ⟨gb225, 1, none⟩ = some (.int .u64 0) := (blk_cell BK225.out 1).trans rfl; have hfz34_0 := blk_frozen BK225.out 0; have hfz34_1 := blk_frozen BK225.out 1) | (go_at_call 22; (with_reducible refine (linhayref02_Mul.calls a0 a1 t215 t216 _ A5.out).mono ?_); rintro e w27 ⟨rfl, hb⟩; have n0_ := Aside0.mk (below_step (by repeat (first | (with_reducible first | exact HB.out | apply below_alloc | apply pw_below_drewN | apply below_drew1) | exact HB.out)) hb); clear HB; have HB := n0_; clear n0_; (try clear hb); (try clear hb2); (try clear hk); (try clear hi)) | (go_at_call 39; (with_reducible refine (linhayref02_Add.calls t215 t216 0 a3 t217 t218 false _ A6.out).mono ?_); rintro e w28 ⟨rfl, hb⟩; have n0_ := Aside0.mk (below_step (by repeat (first | (with_reducible first | exact HB.out | apply below_alloc | apply pw_below_drewN | apply below_drew1) | exact HB.out)) hb); clear HB; have HB := n0_; clear n0_; (try clear hb); (try clear hb2); (try clear hk); (try clear hi)) | (go_at_call 40; (with_reducible refine (linhayref02_Div.calls k t217 t218 a2 t221 t222 t223 t224 _ A7.out).mono ?_); rintro e w31 ⟨rfl, hb⟩; have n0_ := Aside0.mk (blk_below (g := gb220) (o := .cells #[.int .u64 t217, .int .u64 t218] 43 (0, 0)) (by (with_reducible repeat (first | refine blk_drewN ?_ _ | refine blk_drew ?_ | refine blk_alloc ?_ _)); refine blk_put (cs := #[.int .u64 t217, .int .u64 0]) ?_ 1 _ rfl; (with_reducible repeat (first | refine blk_drewN ?_ _ | refine blk_drew ?_ | refine blk_alloc ?_ _)); refine blk_put (cs := #[.int .u64 0, .int .u64 0]) ?_ 0 _ rfl; (with_reducible repeat (first | refine blk_drewN ?_ _ | refine blk_drew ?_ | refine blk_alloc ?_ _)); exact BK220.out) hb); have n1_ := Aside0.mk (below_step (by repeat (first | (with_reducible first | exact HB.out | apply below_alloc | apply pw_below_drewN | apply below_drew1 | refine below_set ?_ GE220.out) | exact HB.out)) hb); clear BK220; clear HB; have BK220 := n0_; have HB := n1_; clear n0_ n1_; (try clear hb); (try clear hb2); (try clear hk); (try clear hi)))
        go_ret2
        exact ⟨by first | rfl | (simp [errW_none, errW_some] <;> rfl) | (simp [*, errW_none, errW_some] <;> rfl), by repeat (first | (with_reducible first | exact HB.out | apply below_alloc | apply pw_below_drewN | apply below_drew1 | refine below_set ?_ GE220.out | refine below_set ?_ GE225.out) | exact HB.out)⟩
  · rw [if_neg c8] at H
    have c8b0 : (t224 == 0) = false := beq_eq_false_iff_ne.mpr c8
    have c8b1 : (t224 != 0) = true := bne_iff_ne.mpr c8
    simp only [Option.some.injEq, Prod.mk.injEq] at H
    obtain ⟨rfl, rfl⟩ := H
    go_enter Try.func29, Try.ntmps29
    go_wp2_with (first | ((with_reducible refine gate_callee (f := 22) rfl ?_); refine goesL_ (some 18) rfl rfl Try.func22 (by kernel_rfl) rfl #[.int .u64 a0, .int .u64 a1] rfl (by (try simp only [List.map_toArray, List.map_cons, List.map_nil]); first | done | rfl | (simp only [List.length_drop, List.length_take]; rfl)) ?_; (with_reducible refine (linhayref02_Mul.calls a0 a1 t215 t216 _ A5.out).mono ?_); rintro e w35 ⟨rfl, hb⟩; refine ⟨_, rfl, ?_⟩; have n0_ := Aside0.mk (below_step (by repeat (first | (with_reducible first | exact HB.out | apply below_alloc | apply pw_below_drewN | apply below_drew1) | exact HB.out)) hb); clear HB; have HB := n0_; clear n0_; (try clear hb); (try clear hb2); (try clear hk); (try clear hi)) | ((with_reducible refine gate_callee (f := 39) rfl ?_); refine goesL_ (some 21) rfl rfl Try.func39 (by kernel_rfl) rfl #[.agg #[.int .u64 t215, .int .u64 t216], .agg #[.int .u64 0, .int .u64 a3]] rfl (by (try simp only [List.map_toArray, List.map_cons, List.map_nil]); first | done | rfl | (simp only [List.length_drop, List.length_take]; rfl)) ?_; (with_reducible refine (linhayref02_Add.calls t215 t216 0 a3 t217 t218 t219 _ A6.out).mono ?_); rintro e w36 ⟨rfl, hb⟩; refine ⟨_, rfl, ?_⟩; have n0_ := Aside0.mk (below_step (by repeat (first | (with_reducible first | exact HB.out | apply below_alloc | apply pw_below_drewN | apply below_drew1) | exact HB.out)) hb); clear HB; have HB := n0_; clear n0_; (try clear hb); (try clear hb2); (try clear hk); (try clear hi)) | ((with_reducible refine gate_dst (N := 10) rfl ?_); refine box_event ?hg (N := 10) ?hd (cs := #[.int .u64 0, .int .u64 0]) (t := 43) ?hr ?_; (case hd => rfl); (case hg => rfl); (case hr => first | (go_simp; done) | (go_simp; rfl)); intro gb220 hg w37 hbox hb; have n0_ := Aside0.mk (below_step (by repeat (first | (with_reducible first | exact HB.out | apply below_alloc | apply pw_below_drewN | apply below_drew1) | exact HB.out)) hb); have n1_ := Aside0.mk (hbox); have n2_ := Aside0.mk ((by rw [hg]; exact (below_size (by repeat (first | (with_reducible first | exact HB.out | apply below_alloc | apply pw_below_drewN | apply below_drew1) | exact HB.out))) : w.heap.size ≤ gb220)); have n3_ := Aside0.mk ((by rw [hg]; exact (below_size (by repeat (first | (with_reducible first | exact HB.out | apply below_alloc | apply pw_below_drewN | apply below_drew1) | exact HB.out))) : w.heap.size ≤ gb220)); clear HB; have HB := n0_; have BK220 := n1_; have GW220 := n2_; have GE220 := n3_; clear n0_ n1_ n2_ n3_; clear hb hbox hg; have hcz38_0 : w37.cell? ⟨gb220, 0, none⟩ = some (.int .u64 0) := (blk_cell BK220.out 0).trans rfl; have hcz38_1 : w37.cell? ⟨gb220, 1, none⟩ = some (.int .u64 0) := (blk_cell BK220.out 1).trans rfl; have hfz38_0 := blk_frozen BK220.out 0; have hfz38_1 := blk_frozen BK220.out 1) | ((with_reducible refine gate_callee (f := 40) rfl ?_); refine goesL_ (some 27) rfl rfl Try.func40 (by kernel_rfl) rfl #[.agg #[.int .u64 t217, .int .u64 t218], .int .u64 a2] rfl (by (try simp only [List.map_toArray, List.map_cons, List.map_nil]); first | done | rfl | (simp only [List.length_drop, List.length_take]; rfl)) ?_; (with_reducible refine (linhayref02_Div.calls k t217 t218 a2 t221 t222 t223 t224 _ A7.out).mono ?_); rintro e w39 ⟨rfl, hb⟩; refine ⟨_, rfl, ?_⟩; have n0_ := Aside0.mk (blk_below (g := gb220) (o := .cells #[.int .u64 t217, .int .u64 t218] 43 (0, 0)) (by (with_reducible repeat (first | refine blk_drewN ?_ _ | refine blk_drew ?_ | refine blk_alloc ?_ _)); refine blk_put (cs := #[.int .u64 t217, .int .u64 0]) ?_ 1 _ rfl; (with_reducible repeat (first | refine blk_drewN ?_ _ | refine blk_drew ?_ | refine blk_alloc ?_ _)); refine blk_put (cs := #[.int .u64 0, .int .u64 0]) ?_ 0 _ rfl; (with_reducible repeat (first | refine blk_drewN ?_ _ | refine blk_drew ?_ | refine blk_alloc ?_ _)); exact BK220.out) hb); have n1_ := Aside0.mk (below_step (by repeat (first | (with_reducible first | exact HB.out | apply below_alloc | apply pw_below_drewN | apply below_drew1 | refine below_set ?_ GE220.out) | exact HB.out)) hb); clear BK220; clear HB; have BK220 := n0_; have HB := n1_; clear n0_ n1_; (try clear hb); (try clear hb2); (try clear hk); (try clear hi)) | ((with_reducible refine gate_dst (N := 12) rfl ?_); refine box_event ?hg (N := 12) ?hd (cs := #[.int .u64 0, .int .u64 0]) (t := 43) ?hr ?_; (case hd => rfl); (case hg => rfl); (case hr => first | (go_simp; done) | (go_simp; rfl)); intro gb225 hg w40 hbox hb; have n0_ := Aside0.mk (blk_below (g := gb220) (o := .cells #[.int .u64 t217, .int .u64 t218] 43 (0, 0)) (by (with_reducible repeat (first | refine blk_drewN ?_ _ | refine blk_drew ?_ | refine blk_alloc ?_ _)); exact BK220.out) hb); have n1_ := Aside0.mk (below_step (by repeat (first | (with_reducible first | exact HB.out | apply below_alloc | apply pw_below_drewN | apply below_drew1 | refine below_set ?_ GE220.out) | exact HB.out)) hb); have n2_ := Aside0.mk (hbox); have n3_ := Aside0.mk ((by rw [hg]; exact (below_size (by repeat (first | (with_reducible first | exact HB.out | apply below_alloc | apply pw_below_drewN | apply below_drew1 | refine below_set ?_ GE220.out) | exact HB.out))) : w.heap.size ≤ gb225)); have n4_ := Aside0.mk ((by rw [hg]; exact (below_size (by repeat (first | (with_reducible first | exact HB.out | apply below_alloc | apply pw_below_drewN | apply below_drew1 | refine below_set ?_ GE220.out) | exact HB.out))) : w.heap.size ≤ gb225)); have n5_ := Aside0.mk ((by rw [hg]; exact Nat.ne_of_lt (blk_lt (g := gb220) (o := .cells #[.int .u64 t217, .int .u64 t218] 43 (0, 0)) (by (with_reducible repeat (first | refine blk_drewN ?_ _ | refine blk_drew ?_ | refine blk_alloc ?_ _)); exact BK220.out)) : gb220 ≠ gb225)); have n6_ := Aside0.mk ((by rw [hg]; exact Nat.ne_of_gt (blk_lt (g := gb220) (o := .cells #[.int .u64 t217, .int .u64 t218] 43 (0, 0)) (by (with_reducible repeat (first | refine blk_drewN ?_ _ | refine blk_drew ?_ | refine blk_alloc ?_ _)); exact BK220.out)) : gb225 ≠ gb220)); clear BK220; clear HB; have BK220 := n0_; have HB := n1_; have BK225 := n2_; have GW225 := n3_; have GE225 := n4_; have NB220_225 := n5_; have NB225_220 := n6_; clear n0_ n1_ n2_ n3_ n4_ n5_ n6_; clear hb hbox hg; have hnb41 := NB225_220.out; have hnc41 := NB220_225.out; have hcz42_0 : w40.cell? ⟨gb225, 0, none⟩ = some (.int .u64 0) := (blk_cell BK225.out 0).trans rfl; have hcz42_1 : w40.cell? ⟨gb225, 1, none⟩ = some (.int .u64 0) := (blk_cell BK225.out 1).trans rfl; have hfz42_0 := blk_frozen BK225.out 0; have hfz42_1 := blk_frozen BK225.out 1) | (go_at_call 22; (with_reducible refine (linhayref02_Mul.calls a0 a1 t215 t216 _ A5.out).mono ?_); rintro e w35 ⟨rfl, hb⟩; have n0_ := Aside0.mk (below_step (by repeat (first | (with_reducible first | exact HB.out | apply below_alloc | apply pw_below_drewN | apply below_drew1) | exact HB.out)) hb); clear HB; have HB := n0_; clear n0_; (try clear hb); (try clear hb2); (try clear hk); (try clear hi)) | (go_at_call 39; (with_reducible refine (linhayref02_Add.calls t215 t216 0 a3 t217 t218 t219 _ A6.out).mono ?_); rintro e w36 ⟨rfl, hb⟩; have n0_ := Aside0.mk (below_step (by repeat (first | (with_reducible first | exact HB.out | apply below_alloc | apply pw_below_drewN | apply below_drew1) | exact HB.out)) hb); clear HB; have HB := n0_; clear n0_; (try clear hb); (try clear hb2); (try clear hk); (try clear hi)) | (go_at_call 40; (with_reducible refine (linhayref02_Div.calls k t217 t218 a2 t221 t222 t223 t224 _ A7.out).mono ?_); rintro e w39 ⟨rfl, hb⟩; have n0_ := Aside0.mk (blk_below (g := gb220) (o := .cells #[.int .u64 t217, .int .u64 t218] 43 (0, 0)) (by (with_reducible repeat (first | refine blk_drewN ?_ _ | refine blk_drew ?_ | refine blk_alloc ?_ _)); refine blk_put (cs := #[.int .u64 t217, .int .u64 0]) ?_ 1 _ rfl; (with_reducible repeat (first | refine blk_drewN ?_ _ | refine blk_drew ?_ | refine blk_alloc ?_ _)); refine blk_put (cs := #[.int .u64 0, .int .u64 0]) ?_ 0 _ rfl; (with_reducible repeat (first | refine blk_drewN ?_ _ | refine blk_drew ?_ | refine blk_alloc ?_ _)); exact BK220.out) hb); have n1_ := Aside0.mk (below_step (by repeat (first | (with_reducible first | exact HB.out | apply below_alloc | apply pw_below_drewN | apply below_drew1 | refine below_set ?_ GE220.out) | exact HB.out)) hb); clear BK220; clear HB; have BK220 := n0_; have HB := n1_; clear n0_ n1_; (try clear hb); (try clear hb2); (try clear hk); (try clear hi)))
    go_ret2
    exact ⟨by first | rfl | (simp [errW_none, errW_some] <;> rfl) | (simp [*, errW_none, errW_some] <;> rfl), by repeat (first | (with_reducible first | exact HB.out | apply below_alloc | apply pw_below_drewN | apply below_drew1 | refine below_set ?_ GE220.out | refine below_set ?_ GE225.out) | exact HB.out)⟩

/-! ### linhayref03_Floor: function 15 -/
def linhayref03_Floor.f (k : Nat) (a0 : Int) (a1 : Int) (a2 : Int) : Option (Int × Int) := (linhayref03_part.f k a0 a1 a2 0).bind fun bt226 => (some (bt226.1, bt226.2))
theorem linhayref03_Floor.mono : ∀ a0 a1 a2 k, LeO (linhayref03_Floor.f k a0 a1 a2) (linhayref03_Floor.f (k + 1) a0 a1 a2) := by
  intro a0 a1 a2 k
  unfold linhayref03_Floor.f
  repeat' first
      | (with_reducible exact linhayref03_part.mono _ _ _ _ _)
      | (with_reducible exact LeO.refl _)
      | (with_reducible exact LeO.none _)
      | (with_reducible refine LeO.ite ?_ ?_)
      | (with_reducible refine LeO.bind ?_ (fun _ => ?_))
      | exact linhayref03_part.mono _ _ _ _ _
      | exact LeO.none _
      | refine LeO.ite ?_ ?_
      | refine LeO.bind ?_ (fun _ => ?_)
set_option maxHeartbeats 8000000 in
set_option maxRecDepth 100000 in
theorem linhayref03_Floor.calls (k : Nat) (a0 : Int) (a1 : Int) (a2 : Int) (r1 : Int) (r2 : Int) (w : World) (h : linhayref03_Floor.f k a0 a1 a2 = some (r1, r2)) :
    Calls Try.prog 15 #[.int .u64 a0, .int .u64 a1, .int .u64 a2] w fun e w' => e = .returned (.tuple #[.int .u64 r1, .int .i64 r2]) ∧ Below w.heap.size w w' := by
  have HB := Aside0.mk (Below.refl w.heap.size w)
  have H : ((linhayref03_part.f k a0 a1 a2 0).bind fun bt226 => (some (bt226.1, bt226.2))) = some (r1, r2) := h
  clear h
  replace H := Option.bind_eq_some_iff.mp H
  obtain ⟨⟨t226, t227⟩, A40, H⟩ := H
  replace H : (some (t226, t227)) = some (r1, r2) := H
  have A4 := Aside0.mk A40
  clear A40
  simp only [Option.some.injEq, Prod.mk.injEq] at H
  obtain ⟨rfl, rfl⟩ := H
  go_enter Try.func15, Try.ntmps15
  go_wp2_with (first | ((with_reducible refine gate_callee (f := 29) rfl ?_); refine goesL_ (some 11) rfl rfl Try.func29 (by kernel_rfl) rfl #[.int .u64 a0, .int .u64 a1, .int .u64 a2, .int .u64 0] rfl (by (try simp only [List.map_toArray, List.map_cons, List.map_nil]); first | done | rfl | (simp only [List.length_drop, List.length_take]; rfl)) ?_; (with_reducible refine (linhayref03_part.calls k a0 a1 a2 0 t226 t227 _ A4.out).mono ?_); rintro e w5 ⟨rfl, hb⟩; refine ⟨_, rfl, ?_⟩; have n0_ := Aside0.mk (below_step (by repeat (first | (with_reducible first | exact HB.out | apply below_alloc | apply pw_below_drewN | apply below_drew1) | exact HB.out)) hb); clear HB; have HB := n0_; clear n0_; (try clear hb); (try clear hb2); (try clear hk); (try clear hi)) | (go_at_call 29; (with_reducible refine (linhayref03_part.calls k a0 a1 a2 0 t226 t227 _ A4.out).mono ?_); rintro e w5 ⟨rfl, hb⟩; have n0_ := Aside0.mk (below_step (by repeat (first | (with_reducible first | exact HB.out | apply below_alloc | apply pw_below_drewN | apply below_drew1) | exact HB.out)) hb); clear HB; have HB := n0_; clear n0_; (try clear hb); (try clear hb2); (try clear hk); (try clear hi)))
  go_ret2
  exact ⟨by first | rfl | (simp [errW_none, errW_some] <;> rfl) | (simp [*, errW_none, errW_some] <;> rfl), by repeat (first | (with_reducible first | exact HB.out | apply below_alloc | apply pw_below_drewN | apply below_drew1) | exact HB.out)⟩

/-! ### linhayref03_Ceil: function 17 -/
def linhayref03_Ceil.f (k : Nat) (a0 : Int) (a1 : Int) (a2 : Int) : Option (Int × Int) := (linhayref03_part.f k a0 a1 a2 (IntKind.u64.wrap ((mx a2 1) - 1))).bind fun bt228 => (some (bt228.1, bt228.2))
theorem linhayref03_Ceil.mono : ∀ a0 a1 a2 k, LeO (linhayref03_Ceil.f k a0 a1 a2) (linhayref03_Ceil.f (k + 1) a0 a1 a2) := by
  intro a0 a1 a2 k
  unfold linhayref03_Ceil.f
  repeat' first
      | (with_reducible exact linhayref03_part.mono _ _ _ _ _)
      | (with_reducible exact LeO.refl _)
      | (with_reducible exact LeO.none _)
      | (with_reducible refine LeO.ite ?_ ?_)
      | (with_reducible refine LeO.bind ?_ (fun _ => ?_))
      | exact linhayref03_part.mono _ _ _ _ _
      | exact LeO.none _
      | refine LeO.ite ?_ ?_
      | refine LeO.bind ?_ (fun _ => ?_)
set_option maxHeartbeats 8000000 in
set_option maxRecDepth 100000 in
theorem linhayref03_Ceil.calls (k : Nat) (a0 : Int) (a1 : Int) (a2 : Int) (r1 : Int) (r2 : Int) (w : World) (h : linhayref03_Ceil.f k a0 a1 a2 = some (r1, r2)) :
    Calls Try.prog 17 #[.int .u64 a0, .int .u64 a1, .int .u64 a2] w fun e w' => e = .returned (.tuple #[.int .u64 r1, .int .i64 r2]) ∧ Below w.heap.size w w' := by
  have HB := Aside0.mk (Below.refl w.heap.size w)
  have H : ((linhayref03_part.f k a0 a1 a2 (IntKind.u64.wrap ((mx a2 1) - 1))).bind fun bt228 => (some (bt228.1, bt228.2))) = some (r1, r2) := h
  clear h
  obtain ⟨ji4, hji4⟩ : ∃ j_ : Int, (mx a2 1) = j_ := ⟨_, rfl⟩
  replace H : ((linhayref03_part.f k a0 a1 a2 (IntKind.u64.wrap ((ji4) - 1))).bind fun bt228 => (some (bt228.1, bt228.2))) = some (r1, r2) := by first | (rw [hji4] at H; exact H) | (simp only [hji4] at H ⊢; exact H)
  (try (have hji4l : 1 ≤ ji4 := by (rw [← hji4]; unfold mx; (repeat' split) <;> omega)))
  (try (have hji4m : 0 ≤ ji4 := by omega))
  have hji4_ : (if a2 < 1 then 1 else a2) = ji4 := hji4
  replace H := Option.bind_eq_some_iff.mp H
  obtain ⟨⟨t228, t229⟩, A50, H⟩ := H
  replace H : (some (t228, t229)) = some (r1, r2) := H
  have A5 := Aside0.mk A50
  clear A50
  simp only [Option.some.injEq, Prod.mk.injEq] at H
  obtain ⟨rfl, rfl⟩ := H
  go_enter Try.func17, Try.ntmps17
  go_wp2_with (first | ((with_reducible refine gate_callee (f := 29) rfl ?_); refine goesL_ (some 14) rfl rfl Try.func29 (by kernel_rfl) rfl #[.int .u64 a0, .int .u64 a1, .int .u64 a2, .int .u64 (IntKind.u64.wrap ((ji4) - 1))] rfl (by (try simp only [List.map_toArray, List.map_cons, List.map_nil]); first | done | (simp only [hji4]; rfl) | rfl | (simp only [List.length_drop, List.length_take]; rfl)) ?_; (with_reducible refine (linhayref03_part.calls k a0 a1 a2 (IntKind.u64.wrap ((ji4) - 1)) t228 t229 _ A5.out).mono ?_); rintro e w6 ⟨rfl, hb⟩; refine ⟨_, rfl, ?_⟩; have n0_ := Aside0.mk (below_step (by repeat (first | (with_reducible first | exact HB.out | apply below_alloc | apply pw_below_drewN | apply below_drew1) | exact HB.out)) hb); clear HB; have HB := n0_; clear n0_; (try clear hb); (try clear hb2); (try clear hk); (try clear hi)) | (go_at_call 29; (with_reducible refine (linhayref03_part.calls k a0 a1 a2 (IntKind.u64.wrap ((ji4) - 1)) t228 t229 _ A5.out).mono ?_); rintro e w6 ⟨rfl, hb⟩; have n0_ := Aside0.mk (below_step (by repeat (first | (with_reducible first | exact HB.out | apply below_alloc | apply pw_below_drewN | apply below_drew1) | exact HB.out)) hb); clear HB; have HB := n0_; clear n0_; (try clear hb); (try clear hb2); (try clear hk); (try clear hi)))
  go_ret2
  exact ⟨by first | rfl | (simp [errW_none, errW_some] <;> rfl) | (simp only [← hji4]; first | rfl | (simp [errW_none, errW_some] <;> rfl)) | (simp [*, errW_none, errW_some] <;> rfl), by repeat (first | (with_reducible first | exact HB.out | apply below_alloc | apply pw_below_drewN | apply below_drew1) | exact HB.out)⟩

/-! ### linhayref03_Near: function 19 -/
def linhayref03_Near.f (k : Nat) (a0 : Int) (a1 : Int) (a2 : Int) : Option (Int × Int) := (linhayref03_part.f k a0 a1 a2 (IntKind.u64.wrap (Int.tdiv a2 2))).bind fun bt230 => (some (bt230.1, bt230.2))
theorem linhayref03_Near.mono : ∀ a0 a1 a2 k, LeO (linhayref03_Near.f k a0 a1 a2) (linhayref03_Near.f (k + 1) a0 a1 a2) := by
  intro a0 a1 a2 k
  unfold linhayref03_Near.f
  repeat' first
      | (with_reducible exact linhayref03_part.mono _ _ _ _ _)
      | (with_reducible exact LeO.refl _)
      | (with_reducible exact LeO.none _)
      | (with_reducible refine LeO.ite ?_ ?_)
      | (with_reducible refine LeO.bind ?_ (fun _ => ?_))
      | exact linhayref03_part.mono _ _ _ _ _
      | exact LeO.none _
      | refine LeO.ite ?_ ?_
      | refine LeO.bind ?_ (fun _ => ?_)
set_option maxHeartbeats 8000000 in
set_option maxRecDepth 100000 in
theorem linhayref03_Near.calls (k : Nat) (a0 : Int) (a1 : Int) (a2 : Int) (r1 : Int) (r2 : Int) (w : World) (h : linhayref03_Near.f k a0 a1 a2 = some (r1, r2)) :
    Calls Try.prog 19 #[.int .u64 a0, .int .u64 a1, .int .u64 a2] w fun e w' => e = .returned (.tuple #[.int .u64 r1, .int .i64 r2]) ∧ Below w.heap.size w w' := by
  have HB := Aside0.mk (Below.refl w.heap.size w)
  have H : ((linhayref03_part.f k a0 a1 a2 (IntKind.u64.wrap (Int.tdiv a2 2))).bind fun bt230 => (some (bt230.1, bt230.2))) = some (r1, r2) := h
  clear h
  replace H := Option.bind_eq_some_iff.mp H
  obtain ⟨⟨t230, t231⟩, A40, H⟩ := H
  replace H : (some (t230, t231)) = some (r1, r2) := H
  have A4 := Aside0.mk A40
  clear A40
  simp only [Option.some.injEq, Prod.mk.injEq] at H
  obtain ⟨rfl, rfl⟩ := H
  go_enter Try.func19, Try.ntmps19
  go_wp2_with (first | ((with_reducible refine gate_callee (f := 29) rfl ?_); refine goesL_ (some 13) rfl rfl Try.func29 (by kernel_rfl) rfl #[.int .u64 a0, .int .u64 a1, .int .u64 a2, .int .u64 (IntKind.u64.wrap (Int.tdiv a2 2))] rfl (by (try simp only [List.map_toArray, List.map_cons, List.map_nil]); first | done | rfl | (simp only [List.length_drop, List.length_take]; rfl)) ?_; (with_reducible refine (linhayref03_part.calls k a0 a1 a2 (IntKind.u64.wrap (Int.tdiv a2 2)) t230 t231 _ A4.out).mono ?_); rintro e w5 ⟨rfl, hb⟩; refine ⟨_, rfl, ?_⟩; have n0_ := Aside0.mk (below_step (by repeat (first | (with_reducible first | exact HB.out | apply below_alloc | apply pw_below_drewN | apply below_drew1) | exact HB.out)) hb); clear HB; have HB := n0_; clear n0_; (try clear hb); (try clear hb2); (try clear hk); (try clear hi)) | (go_at_call 29; (with_reducible refine (linhayref03_part.calls k a0 a1 a2 (IntKind.u64.wrap (Int.tdiv a2 2)) t230 t231 _ A4.out).mono ?_); rintro e w5 ⟨rfl, hb⟩; have n0_ := Aside0.mk (below_step (by repeat (first | (with_reducible first | exact HB.out | apply below_alloc | apply pw_below_drewN | apply below_drew1) | exact HB.out)) hb); clear HB; have HB := n0_; clear n0_; (try clear hb); (try clear hb2); (try clear hk); (try clear hi)))
  go_ret2
  exact ⟨by first | rfl | (simp [errW_none, errW_some] <;> rfl) | (simp [*, errW_none, errW_some] <;> rfl), by repeat (first | (with_reducible first | exact HB.out | apply below_alloc | apply pw_below_drewN | apply below_drew1) | exact HB.out)⟩

/-! ### linhaylaw03_RatioTells: function 3 -/
def linhaylaw03_RatioTells.f (k : Nat) (a0_0 : Int) (a0_1 : Int) (a1_0 : Int) (a1_1 : Int) (l2 : List (S24)) (a3 : Int) (a4 : Int) (a5 : Int) : Option (Bool) := (linhaylaw03_awake.f k).bind fun t234 => (if (l2.length : Int) > 100 then (some t234) else ((ratio_Cmp.f k a0_0 a0_1 a1_0 a1_1).bind fun bt235 => ((linhayref03_Cmp.f k a0_0 a0_1 a1_0 a1_1).bind fun bt237 => ((ratio_Least.f k l2).bind fun bt239 => ((linhayref03_Least.f k l2).bind fun bt241 => ((ratio_Floor.f k a3 a4 a5).bind fun bt243 => ((linhayref03_Floor.f k a3 a4 a5).bind fun bt245 => ((ratio_Ceil.f k a3 a4 a5).bind fun bt247 => ((linhayref03_Ceil.f k a3 a4 a5).bind fun bt249 => ((ratio_Near.f k a3 a4 a5).bind fun bt251 => ((linhayref03_Near.f k a3 a4 a5).bind fun bt253 => (if t234 = true then (if bt235.1 = bt237.1 then (if bt235.2 = bt237.2 then (if bt239.1 = bt241.1 then (if (bt239.2 == bt241.2) = true then (if bt243.1 = bt245.1 then (if bt243.2 = bt245.2 then (if bt247.1 = bt249.1 then (if bt247.2 = bt249.2 then (if bt251.1 = bt253.1 then (some (bt251.2 == bt253.2)) else (none)) else (none)) else (none)) else (none)) else (none)) else (none)) else (none)) else (none)) else (none)) else (none)))))))))))))
theorem linhaylaw03_RatioTells.mono : ∀ a0 a1 a2 a3 a4 a5 a6 a7 k, LeO (linhaylaw03_RatioTells.f k a0 a1 a2 a3 a4 a5 a6 a7) (linhaylaw03_RatioTells.f (k + 1) a0 a1 a2 a3 a4 a5 a6 a7) := by
  intro a0 a1 a2 a3 a4 a5 a6 a7 k
  unfold linhaylaw03_RatioTells.f
  repeat' first
      | (with_reducible exact linhaylaw03_awake.mono _)
      | (with_reducible exact linhayref03_Ceil.mono _ _ _ _)
      | (with_reducible exact linhayref03_Cmp.mono _ _ _ _ _)
      | (with_reducible exact linhayref03_Floor.mono _ _ _ _)
      | (with_reducible exact linhayref03_Least.mono _ _)
      | (with_reducible exact linhayref03_Near.mono _ _ _ _)
      | (with_reducible exact ratio_Ceil.mono _ _ _ _)
      | (with_reducible exact ratio_Cmp.mono _ _ _ _ _)
      | (with_reducible exact ratio_Floor.mono _ _ _ _)
      | (with_reducible exact ratio_Least.mono _ _)
      | (with_reducible exact ratio_Near.mono _ _ _ _)
      | (with_reducible exact LeO.refl _)
      | (with_reducible exact LeO.none _)
      | (with_reducible refine LeO.ite ?_ ?_)
      | (with_reducible refine LeO.bind ?_ (fun _ => ?_))
      | exact linhaylaw03_awake.mono _
      | exact linhayref03_Ceil.mono _ _ _ _
      | exact linhayref03_Cmp.mono _ _ _ _ _
      | exact linhayref03_Floor.mono _ _ _ _
      | exact linhayref03_Least.mono _ _
      | exact linhayref03_Near.mono _ _ _ _
      | exact ratio_Ceil.mono _ _ _ _
      | exact ratio_Cmp.mono _ _ _ _ _
      | exact ratio_Floor.mono _ _ _ _
      | exact ratio_Least.mono _ _
      | exact ratio_Near.mono _ _ _ _
      | exact LeO.none _
      | refine LeO.ite ?_ ?_
      | refine LeO.bind ?_ (fun _ => ?_)
set_option maxHeartbeats 8000000 in
set_option maxRecDepth 100000 in
theorem linhaylaw03_RatioTells.calls (k : Nat) (a0_0 : Int) (a0_1 : Int) (a1_0 : Int) (a1_1 : Int) (A2 : Option Addr) (c2 : Nat) (l2 : List (S24)) (a3 : Int) (a4 : Int) (a5 : Int) (r : Bool) (w : World) (hr2 : Kd.C k24 w A2 l2.length l2) (hc2 : l2.length ≤ c2) (h : linhaylaw03_RatioTells.f k a0_0 a0_1 a1_0 a1_1 l2 a3 a4 a5 = some r) :
    Calls Try.prog 3 #[.agg #[.int .u64 a0_0, .int .u64 a0_1], .agg #[.int .u64 a1_0, .int .u64 a1_1], .slice A2 l2.length c2, .int .u64 a3, .int .u64 a4, .int .u64 a5] w fun e w' => e = .returned (.bool r) ∧ Below w.heap.size w w' := by
  have hu24 := Try.underlying24
  have HR2 := Aside0.mk hr2
  have HC2 := Aside0.mk hc2
  clear hr2 hc2
  have HB := Aside0.mk (Below.refl w.heap.size w)
  have H : ((linhaylaw03_awake.f k).bind fun t234 => (if (l2.length : Int) > 100 then (some t234) else ((ratio_Cmp.f k a0_0 a0_1 a1_0 a1_1).bind fun bt235 => ((linhayref03_Cmp.f k a0_0 a0_1 a1_0 a1_1).bind fun bt237 => ((ratio_Least.f k l2).bind fun bt239 => ((linhayref03_Least.f k l2).bind fun bt241 => ((ratio_Floor.f k a3 a4 a5).bind fun bt243 => ((linhayref03_Floor.f k a3 a4 a5).bind fun bt245 => ((ratio_Ceil.f k a3 a4 a5).bind fun bt247 => ((linhayref03_Ceil.f k a3 a4 a5).bind fun bt249 => ((ratio_Near.f k a3 a4 a5).bind fun bt251 => ((linhayref03_Near.f k a3 a4 a5).bind fun bt253 => (if t234 = true then (if bt235.1 = bt237.1 then (if bt235.2 = bt237.2 then (if bt239.1 = bt241.1 then (if (bt239.2 == bt241.2) = true then (if bt243.1 = bt245.1 then (if bt243.2 = bt245.2 then (if bt247.1 = bt249.1 then (if bt247.2 = bt249.2 then (if bt251.1 = bt253.1 then (some (bt251.2 == bt253.2)) else (none)) else (none)) else (none)) else (none)) else (none)) else (none)) else (none)) else (none)) else (none)) else (none)))))))))))))) = some r := h
  clear h
  replace H := Option.bind_eq_some_iff.mp H
  obtain ⟨t234, A70, H⟩ := H
  replace H : (if (l2.length : Int) > 100 then (some t234) else ((ratio_Cmp.f k a0_0 a0_1 a1_0 a1_1).bind fun bt235 => ((linhayref03_Cmp.f k a0_0 a0_1 a1_0 a1_1).bind fun bt237 => ((ratio_Least.f k l2).bind fun bt239 => ((linhayref03_Least.f k l2).bind fun bt241 => ((ratio_Floor.f k a3 a4 a5).bind fun bt243 => ((linhayref03_Floor.f k a3 a4 a5).bind fun bt245 => ((ratio_Ceil.f k a3 a4 a5).bind fun bt247 => ((linhayref03_Ceil.f k a3 a4 a5).bind fun bt249 => ((ratio_Near.f k a3 a4 a5).bind fun bt251 => ((linhayref03_Near.f k a3 a4 a5).bind fun bt253 => (if t234 = true then (if bt235.1 = bt237.1 then (if bt235.2 = bt237.2 then (if bt239.1 = bt241.1 then (if (bt239.2 == bt241.2) = true then (if bt243.1 = bt245.1 then (if bt243.2 = bt245.2 then (if bt247.1 = bt249.1 then (if bt247.2 = bt249.2 then (if bt251.1 = bt253.1 then (some (bt251.2 == bt253.2)) else (none)) else (none)) else (none)) else (none)) else (none)) else (none)) else (none)) else (none)) else (none)) else (none))))))))))))) = some r := H
  have A7 := Aside0.mk A70
  clear A70
  by_cases c8 : (l2.length : Int) > 100
  · rw [if_pos c8] at H
    have c8b0 : decide (100 < (l2.length : Int)) = true := decide_eq_true c8
    have c8b1 : decide (100 < l2.length) = true := decide_eq_true (by omega)
    clear c8
    obtain rfl := Option.some.inj H
    go_enter Try.func3, Try.ntmps3
    go_wp2_with (first | ((with_reducible refine gate_dst (N := 6) rfl ?_); refine box_event ?hg (N := 6) ?hd (cs := #[.int .u64 a0_0, .int .u64 a0_1]) (t := 24) ?hr ?_; (case hd => rfl); (case hg => rfl); (case hr => first | (go_simp; done) | (go_simp; rfl)); intro gb232 hg w9 hbox hb; have n0_ := Aside0.mk (below_step (by repeat (first | (with_reducible first | exact HB.out | apply below_alloc | apply pw_below_drewN | apply below_drew1) | exact HB.out)) hb); have n1_ := Aside0.mk (hbox); have n2_ := Aside0.mk ((by rw [hg]; exact (below_size (by repeat (first | (with_reducible first | exact HB.out | apply below_alloc | apply pw_below_drewN | apply below_drew1) | exact HB.out))) : w.heap.size ≤ gb232)); have n3_ := Aside0.mk ((by rw [hg]; exact (below_size (by repeat (first | (with_reducible first | exact HB.out | apply below_alloc | apply pw_below_drewN | apply below_drew1) | exact HB.out))) : w.heap.size ≤ gb232)); clear HB; have HB := n0_; have BK232 := n1_; have GW232 := n2_; have GE232 := n3_; clear n0_ n1_ n2_ n3_; clear hb hbox hg) | ((with_reducible refine gate_dst (N := 7) rfl ?_); refine box_event ?hg (N := 7) ?hd (cs := #[.int .u64 a1_0, .int .u64 a1_1]) (t := 24) ?hr ?_; (case hd => rfl); (case hg => rfl); (case hr => first | (go_simp; done) | (go_simp; rfl)); intro gb233 hg w10 hbox hb; have n0_ := Aside0.mk (blk_below (g := gb232) (o := .cells #[.int .u64 a0_0, .int .u64 a0_1] 24 (0, 0)) (by (with_reducible repeat (first | refine blk_drewN ?_ _ | refine blk_drew ?_ | refine blk_alloc ?_ _)); exact BK232.out) hb); have n1_ := Aside0.mk (below_step (by repeat (first | (with_reducible first | exact HB.out | apply below_alloc | apply pw_below_drewN | apply below_drew1 | refine below_set ?_ GE232.out) | exact HB.out)) hb); have n2_ := Aside0.mk (hbox); have n3_ := Aside0.mk ((by rw [hg]; exact (below_size (by repeat (first | (with_reducible first | exact HB.out | apply below_alloc | apply pw_below_drewN | apply below_drew1 | refine below_set ?_ GE232.out) | exact HB.out))) : w.heap.size ≤ gb233)); have n4_ := Aside0.mk ((by rw [hg]; exact (below_size (by repeat (first | (with_reducible first | exact HB.out | apply below_alloc | apply pw_below_drewN | apply below_drew1 | refine below_set ?_ GE232.out) | exact HB.out))) : w.heap.size ≤ gb233)); have n5_ := Aside0.mk ((by rw [hg]; exact Nat.ne_of_lt (blk_lt (g := gb232) (o := .cells #[.int .u64 a0_0, .int .u64 a0_1] 24 (0, 0)) (by (with_reducible repeat (first | refine blk_drewN ?_ _ | refine blk_drew ?_ | refine blk_alloc ?_ _)); exact BK232.out)) : gb232 ≠ gb233)); have n6_ := Aside0.mk ((by rw [hg]; exact Nat.ne_of_gt (blk_lt (g := gb232) (o := .cells #[.int .u64 a0_0, .int .u64 a0_1] 24 (0, 0)) (by (with_reducible repeat (first | refine blk_drewN ?_ _ | refine blk_drew ?_ | refine blk_alloc ?_ _)); exact BK232.out)) : gb233 ≠ gb232)); clear BK232; clear HB; have BK232 := n0_; have HB := n1_; have BK233 := n2_; have GW233 := n3_; have GE233 := n4_; have NB232_233 := n5_; have NB233_232 := n6_; clear n0_ n1_ n2_ n3_ n4_ n5_ n6_; clear hb hbox hg) | ((with_reducible refine gate_callee (f := 9) rfl ?_); refine goesL_ (some 34) rfl rfl Try.func9 (by kernel_rfl) rfl #[] rfl (by (try simp only [List.map_toArray, List.map_cons, List.map_nil]); first | done | rfl | (simp only [List.length_drop, List.length_take]; rfl)) ?_; (with_reducible refine (linhaylaw03_awake.calls k  t234 _ A7.out).mono ?_); rintro e w11 ⟨rfl, hb⟩; refine ⟨_, rfl, ?_⟩; have n0_ := Aside0.mk (blk_below (g := gb232) (o := .cells #[.int .u64 a0_0, .int .u64 a0_1] 24 (0, 0)) (by (with_reducible repeat (first | refine blk_drewN ?_ _ | refine blk_drew ?_ | refine blk_alloc ?_ _)); exact BK232.out) hb); have n1_ := Aside0.mk (blk_below (g := gb233) (o := .cells #[.int .u64 a1_0, .int .u64 a1_1] 24 (0, 0)) (by (with_reducible repeat (first | refine blk_drewN ?_ _ | refine blk_drew ?_ | refine blk_alloc ?_ _)); exact BK233.out) hb); have n2_ := Aside0.mk (below_step (by repeat (first | (with_reducible first | exact HB.out | apply below_alloc | apply pw_below_drewN | apply below_drew1 | refine below_set ?_ GE232.out | refine below_set ?_ GE233.out) | exact HB.out)) hb); clear BK232; clear BK233; clear HB; have BK232 := n0_; have BK233 := n1_; have HB := n2_; clear n0_ n1_ n2_; (try clear hb); (try clear hb2); (try clear hk); (try clear hi)) | (go_at_call 9; (with_reducible refine (linhaylaw03_awake.calls k  t234 _ A7.out).mono ?_); rintro e w11 ⟨rfl, hb⟩; have n0_ := Aside0.mk (blk_below (g := gb232) (o := .cells #[.int .u64 a0_0, .int .u64 a0_1] 24 (0, 0)) (by (with_reducible repeat (first | refine blk_drewN ?_ _ | refine blk_drew ?_ | refine blk_alloc ?_ _)); exact BK232.out) hb); have n1_ := Aside0.mk (blk_below (g := gb233) (o := .cells #[.int .u64 a1_0, .int .u64 a1_1] 24 (0, 0)) (by (with_reducible repeat (first | refine blk_drewN ?_ _ | refine blk_drew ?_ | refine blk_alloc ?_ _)); exact BK233.out) hb); have n2_ := Aside0.mk (below_step (by repeat (first | (with_reducible first | exact HB.out | apply below_alloc | apply pw_below_drewN | apply below_drew1 | refine below_set ?_ GE232.out | refine below_set ?_ GE233.out) | exact HB.out)) hb); clear BK232; clear BK233; clear HB; have BK232 := n0_; have BK233 := n1_; have HB := n2_; clear n0_ n1_ n2_; (try clear hb); (try clear hb2); (try clear hk); (try clear hi)))
    go_ret
    exact ⟨by first | rfl | (simp [errW_none, errW_some] <;> rfl) | (simp [*, errW_none, errW_some] <;> rfl), by repeat (first | (with_reducible first | exact HB.out | apply below_alloc | apply pw_below_drewN | apply below_drew1 | refine below_set ?_ GE232.out | refine below_set ?_ GE233.out) | exact HB.out)⟩
  · rw [if_neg c8] at H
    have c8b0 : decide (100 < (l2.length : Int)) = false := decide_eq_false c8
    have c8b1 : decide (100 < l2.length) = false := decide_eq_false (by omega)
    clear c8
    replace H := Option.bind_eq_some_iff.mp H
    obtain ⟨⟨t235, t236⟩, A120, H⟩ := H
    replace H : ((linhayref03_Cmp.f k a0_0 a0_1 a1_0 a1_1).bind fun bt237 => ((ratio_Least.f k l2).bind fun bt239 => ((linhayref03_Least.f k l2).bind fun bt241 => ((ratio_Floor.f k a3 a4 a5).bind fun bt243 => ((linhayref03_Floor.f k a3 a4 a5).bind fun bt245 => ((ratio_Ceil.f k a3 a4 a5).bind fun bt247 => ((linhayref03_Ceil.f k a3 a4 a5).bind fun bt249 => ((ratio_Near.f k a3 a4 a5).bind fun bt251 => ((linhayref03_Near.f k a3 a4 a5).bind fun bt253 => (if t234 = true then (if t235 = bt237.1 then (if t236 = bt237.2 then (if bt239.1 = bt241.1 then (if (bt239.2 == bt241.2) = true then (if bt243.1 = bt245.1 then (if bt243.2 = bt245.2 then (if bt247.1 = bt249.1 then (if bt247.2 = bt249.2 then (if bt251.1 = bt253.1 then (some (bt251.2 == bt253.2)) else (none)) else (none)) else (none)) else (none)) else (none)) else (none)) else (none)) else (none)) else (none)) else (none))))))))))) = some r := H
    have A12 := Aside0.mk A120
    clear A120
    replace H := Option.bind_eq_some_iff.mp H
    obtain ⟨⟨t237, t238⟩, A130, H⟩ := H
    replace H : ((ratio_Least.f k l2).bind fun bt239 => ((linhayref03_Least.f k l2).bind fun bt241 => ((ratio_Floor.f k a3 a4 a5).bind fun bt243 => ((linhayref03_Floor.f k a3 a4 a5).bind fun bt245 => ((ratio_Ceil.f k a3 a4 a5).bind fun bt247 => ((linhayref03_Ceil.f k a3 a4 a5).bind fun bt249 => ((ratio_Near.f k a3 a4 a5).bind fun bt251 => ((linhayref03_Near.f k a3 a4 a5).bind fun bt253 => (if t234 = true then (if t235 = t237 then (if t236 = t238 then (if bt239.1 = bt241.1 then (if (bt239.2 == bt241.2) = true then (if bt243.1 = bt245.1 then (if bt243.2 = bt245.2 then (if bt247.1 = bt249.1 then (if bt247.2 = bt249.2 then (if bt251.1 = bt253.1 then (some (bt251.2 == bt253.2)) else (none)) else (none)) else (none)) else (none)) else (none)) else (none)) else (none)) else (none)) else (none)) else (none)))))))))) = some r := H
    have A13 := Aside0.mk A130
    clear A130
    replace H := Option.bind_eq_some_iff.mp H
    obtain ⟨⟨t239, t240⟩, A140, H⟩ := H
    replace H : ((linhayref03_Least.f k l2).bind fun bt241 => ((ratio_Floor.f k a3 a4 a5).bind fun bt243 => ((linhayref03_Floor.f k a3 a4 a5).bind fun bt245 => ((ratio_Ceil.f k a3 a4 a5).bind fun bt247 => ((linhayref03_Ceil.f k a3 a4 a5).bind fun bt249 => ((ratio_Near.f k a3 a4 a5).bind fun bt251 => ((linhayref03_Near.f k a3 a4 a5).bind fun bt253 => (if t234 = true then (if t235 = t237 then (if t236 = t238 then (if t239 = bt241.1 then (if (t240 == bt241.2) = true then (if bt243.1 = bt245.1 then (if bt243.2 = bt245.2 then (if bt247.1 = bt249.1 then (if bt247.2 = bt249.2 then (if bt251.1 = bt253.1 then (some (bt251.2 == bt253.2)) else (none)) else (none)) else (none)) else (none)) else (none)) else (none)) else (none)) else (none)) else (none)) else (none))))))))) = some r := H
    have A14 := Aside0.mk A140
    clear A140
    replace H := Option.bind_eq_some_iff.mp H
    obtain ⟨⟨t241, t242⟩, A150, H⟩ := H
    replace H : ((ratio_Floor.f k a3 a4 a5).bind fun bt243 => ((linhayref03_Floor.f k a3 a4 a5).bind fun bt245 => ((ratio_Ceil.f k a3 a4 a5).bind fun bt247 => ((linhayref03_Ceil.f k a3 a4 a5).bind fun bt249 => ((ratio_Near.f k a3 a4 a5).bind fun bt251 => ((linhayref03_Near.f k a3 a4 a5).bind fun bt253 => (if t234 = true then (if t235 = t237 then (if t236 = t238 then (if t239 = t241 then (if (t240 == t242) = true then (if bt243.1 = bt245.1 then (if bt243.2 = bt245.2 then (if bt247.1 = bt249.1 then (if bt247.2 = bt249.2 then (if bt251.1 = bt253.1 then (some (bt251.2 == bt253.2)) else (none)) else (none)) else (none)) else (none)) else (none)) else (none)) else (none)) else (none)) else (none)) else (none)))))))) = some r := H
    have A15 := Aside0.mk A150
    clear A150
    replace H := Option.bind_eq_some_iff.mp H
    obtain ⟨⟨t243, t244⟩, A160, H⟩ := H
    replace H : ((linhayref03_Floor.f k a3 a4 a5).bind fun bt245 => ((ratio_Ceil.f k a3 a4 a5).bind fun bt247 => ((linhayref03_Ceil.f k a3 a4 a5).bind fun bt249 => ((ratio_Near.f k a3 a4 a5).bind fun bt251 => ((linhayref03_Near.f k a3 a4 a5).bind fun bt253 => (if t234 = true then (if t235 = t237 then (if t236 = t238 then (if t239 = t241 then (if (t240 == t242) = true then (if t243 = bt245.1 then (if t244 = bt245.2 then (if bt247.1 = bt249.1 then (if bt247.2 = bt249.2 then (if bt251.1 = bt253.1 then (some (bt251.2 == bt253.2)) else (none)) else (none)) else (none)) else (none)) else (none)) else (none)) else (none)) else (none)) else (none)) else (none))))))) = some r := H
    have A16 := Aside0.mk A160
    clear A160
    replace H := Option.bind_eq_some_iff.mp H
    obtain ⟨⟨t245, t246⟩, A170, H⟩ := H
    replace H : ((ratio_Ceil.f k a3 a4 a5).bind fun bt247 => ((linhayref03_Ceil.f k a3 a4 a5).bind fun bt249 => ((ratio_Near.f k a3 a4 a5).bind fun bt251 => ((linhayref03_Near.f k a3 a4 a5).bind fun bt253 => (if t234 = true then (if t235 = t237 then (if t236 = t238 then (if t239 = t241 then (if (t240 == t242) = true then (if t243 = t245 then (if t244 = t246 then (if bt247.1 = bt249.1 then (if bt247.2 = bt249.2 then (if bt251.1 = bt253.1 then (some (bt251.2 == bt253.2)) else (none)) else (none)) else (none)) else (none)) else (none)) else (none)) else (none)) else (none)) else (none)) else (none)))))) = some r := H
    have A17 := Aside0.mk A170
    clear A170
    replace H := Option.bind_eq_some_iff.mp H
    obtain ⟨⟨t247, t248⟩, A180, H⟩ := H
    replace H : ((linhayref03_Ceil.f k a3 a4 a5).bind fun bt249 => ((ratio_Near.f k a3 a4 a5).bind fun bt251 => ((linhayref03_Near.f k a3 a4 a5).bind fun bt253 => (if t234 = true then (if t235 = t237 then (if t236 = t238 then (if t239 = t241 then (if (t240 == t242) = true then (if t243 = t245 then (if t244 = t246 then (if t247 = bt249.1 then (if t248 = bt249.2 then (if bt251.1 = bt253.1 then (some (bt251.2 == bt253.2)) else (none)) else (none)) else (none)) else (none)) else (none)) else (none)) else (none)) else (none)) else (none)) else (none))))) = some r := H
    have A18 := Aside0.mk A180
    clear A180
    replace H := Option.bind_eq_some_iff.mp H
    obtain ⟨⟨t249, t250⟩, A190, H⟩ := H
    replace H : ((ratio_Near.f k a3 a4 a5).bind fun bt251 => ((linhayref03_Near.f k a3 a4 a5).bind fun bt253 => (if t234 = true then (if t235 = t237 then (if t236 = t238 then (if t239 = t241 then (if (t240 == t242) = true then (if t243 = t245 then (if t244 = t246 then (if t247 = t249 then (if t248 = t250 then (if bt251.1 = bt253.1 then (some (bt251.2 == bt253.2)) else (none)) else (none)) else (none)) else (none)) else (none)) else (none)) else (none)) else (none)) else (none)) else (none)))) = some r := H
    have A19 := Aside0.mk A190
    clear A190
    replace H := Option.bind_eq_some_iff.mp H
    obtain ⟨⟨t251, t252⟩, A200, H⟩ := H
    replace H : ((linhayref03_Near.f k a3 a4 a5).bind fun bt253 => (if t234 = true then (if t235 = t237 then (if t236 = t238 then (if t239 = t241 then (if (t240 == t242) = true then (if t243 = t245 then (if t244 = t246 then (if t247 = t249 then (if t248 = t250 then (if t251 = bt253.1 then (some (t252 == bt253.2)) else (none)) else (none)) else (none)) else (none)) else (none)) else (none)) else (none)) else (none)) else (none)) else (none))) = some r := H
    have A20 := Aside0.mk A200
    clear A200
    replace H := Option.bind_eq_some_iff.mp H
    obtain ⟨⟨t253, t254⟩, A210, H⟩ := H
    replace H : (if t234 = true then (if t235 = t237 then (if t236 = t238 then (if t239 = t241 then (if (t240 == t242) = true then (if t243 = t245 then (if t244 = t246 then (if t247 = t249 then (if t248 = t250 then (if t251 = t253 then (some (t252 == t254)) else (none)) else (none)) else (none)) else (none)) else (none)) else (none)) else (none)) else (none)) else (none)) else (none)) = some r := H
    have A21 := Aside0.mk A210
    clear A210
    by_cases c22 : t234 = true
    · subst c22
      have H1 : (if t235 = t237 then (if t236 = t238 then (if t239 = t241 then (if (t240 == t242) = true then (if t243 = t245 then (if t244 = t246 then (if t247 = t249 then (if t248 = t250 then (if t251 = t253 then (some (t252 == t254)) else (none)) else (none)) else (none)) else (none)) else (none)) else (none)) else (none)) else (none)) else (none)) = some r := by rw [if_pos rfl] at H; exact H
      clear H
      have H := H1
      clear H1
      by_cases c23 : t235 = t237
      · rw [if_pos c23] at H
        have c23b0 : (t235 == t237) = true := beq_iff_eq.mpr c23
        have c23b1 : (t235 != t237) = false := bne_eq_false_iff_eq.mpr c23
        clear c23
        by_cases c24 : t236 = t238
        · rw [if_pos c24] at H
          have c24b0 : (t236 == t238) = true := beq_iff_eq.mpr c24
          have c24b1 : (t236 != t238) = false := bne_eq_false_iff_eq.mpr c24
          clear c24
          by_cases c25 : t239 = t241
          · rw [if_pos c25] at H
            have c25b0 : (t239 == t241) = true := beq_iff_eq.mpr c25
            have c25b1 : (t239 != t241) = false := bne_eq_false_iff_eq.mpr c25
            clear c25
            by_cases c26 : (t240 == t242) = true
            · rw [if_pos c26] at H
              have c26b0 : (t240 == t242) = true := c26
              (try (have c26b1 : decide (t240 = t242) = true := by simpa using c26))
              (try (have c26b2 : (t240 == t242) = true := by simpa using c26))
              clear c26
              by_cases c27 : t243 = t245
              · rw [if_pos c27] at H
                have c27b0 : (t243 == t245) = true := beq_iff_eq.mpr c27
                have c27b1 : (t243 != t245) = false := bne_eq_false_iff_eq.mpr c27
                clear c27
                by_cases c28 : t244 = t246
                · rw [if_pos c28] at H
                  have c28b0 : (t244 == t246) = true := beq_iff_eq.mpr c28
                  have c28b1 : (t244 != t246) = false := bne_eq_false_iff_eq.mpr c28
                  clear c28
                  by_cases c29 : t247 = t249
                  · rw [if_pos c29] at H
                    have c29b0 : (t247 == t249) = true := beq_iff_eq.mpr c29
                    have c29b1 : (t247 != t249) = false := bne_eq_false_iff_eq.mpr c29
                    clear c29
                    by_cases c30 : t248 = t250
                    · rw [if_pos c30] at H
                      have c30b0 : (t248 == t250) = true := beq_iff_eq.mpr c30
                      have c30b1 : (t248 != t250) = false := bne_eq_false_iff_eq.mpr c30
                      clear c30
                      by_cases c31 : t251 = t253
                      · rw [if_pos c31] at H
                        have c31b0 : (t251 == t253) = true := beq_iff_eq.mpr c31
                        have c31b1 : (t251 != t253) = false := bne_eq_false_iff_eq.mpr c31
                        clear c31
                        obtain rfl := Option.some.inj H
                        go_enter Try.func3, Try.ntmps3
                        go_wp2_with (first | ((with_reducible refine gate_dst (N := 6) rfl ?_); refine box_event ?hg (N := 6) ?hd (cs := #[.int .u64 a0_0, .int .u64 a0_1]) (t := 24) ?hr ?_; (case hd => rfl); (case hg => rfl); (case hr => first | (go_simp; done) | (go_simp; rfl)); intro gb232 hg w32 hbox hb; have n0_ := Aside0.mk (below_step (by repeat (first | (with_reducible first | exact HB.out | apply below_alloc | apply pw_below_drewN | apply below_drew1) | exact HB.out)) hb); have n1_ := Aside0.mk (hbox); have n2_ := Aside0.mk ((by rw [hg]; exact (below_size (by repeat (first | (with_reducible first | exact HB.out | apply below_alloc | apply pw_below_drewN | apply below_drew1) | exact HB.out))) : w.heap.size ≤ gb232)); have n3_ := Aside0.mk ((by rw [hg]; exact (below_size (by repeat (first | (with_reducible first | exact HB.out | apply below_alloc | apply pw_below_drewN | apply below_drew1) | exact HB.out))) : w.heap.size ≤ gb232)); clear HB; have HB := n0_; have BK232 := n1_; have GW232 := n2_; have GE232 := n3_; clear n0_ n1_ n2_ n3_; clear hb hbox hg) | ((with_reducible refine gate_dst (N := 7) rfl ?_); refine box_event ?hg (N := 7) ?hd (cs := #[.int .u64 a1_0, .int .u64 a1_1]) (t := 24) ?hr ?_; (case hd => rfl); (case hg => rfl); (case hr => first | (go_simp; done) | (go_simp; rfl)); intro gb233 hg w33 hbox hb; have n0_ := Aside0.mk (blk_below (g := gb232) (o := .cells #[.int .u64 a0_0, .int .u64 a0_1] 24 (0, 0)) (by (with_reducible repeat (first | refine blk_drewN ?_ _ | refine blk_drew ?_ | refine blk_alloc ?_ _)); exact BK232.out) hb); have n1_ := Aside0.mk (below_step (by repeat (first | (with_reducible first | exact HB.out | apply below_alloc | apply pw_below_drewN | apply below_drew1 | refine below_set ?_ GE232.out) | exact HB.out)) hb); have n2_ := Aside0.mk (hbox); have n3_ := Aside0.mk ((by rw [hg]; exact (below_size (by repeat (first | (with_reducible first | exact HB.out | apply below_alloc | apply pw_below_drewN | apply below_drew1 | refine below_set ?_ GE232.out) | exact HB.out))) : w.heap.size ≤ gb233)); have n4_ := Aside0.mk ((by rw [hg]; exact (below_size (by repeat (first | (with_reducible first | exact HB.out | apply below_alloc | apply pw_below_drewN | apply below_drew1 | refine below_set ?_ GE232.out) | exact HB.out))) : w.heap.size ≤ gb233)); have n5_ := Aside0.mk ((by rw [hg]; exact Nat.ne_of_lt (blk_lt (g := gb232) (o := .cells #[.int .u64 a0_0, .int .u64 a0_1] 24 (0, 0)) (by (with_reducible repeat (first | refine blk_drewN ?_ _ | refine blk_drew ?_ | refine blk_alloc ?_ _)); exact BK232.out)) : gb232 ≠ gb233)); have n6_ := Aside0.mk ((by rw [hg]; exact Nat.ne_of_gt (blk_lt (g := gb232) (o := .cells #[.int .u64 a0_0, .int .u64 a0_1] 24 (0, 0)) (by (with_reducible repeat (first | refine blk_drewN ?_ _ | refine blk_drew ?_ | refine blk_alloc ?_ _)); exact BK232.out)) : gb233 ≠ gb232)); clear BK232; clear HB; have BK232 := n0_; have HB := n1_; have BK233 := n2_; have GW233 := n3_; have GE233 := n4_; have NB232_233 := n5_; have NB233_232 := n6_; clear n0_ n1_ n2_ n3_ n4_ n5_ n6_; clear hb hbox hg) | ((with_reducible refine gate_callee (f := 9) rfl ?_); refine goesL_ (some 34) rfl rfl Try.func9 (by kernel_rfl) rfl #[] rfl (by (try simp only [List.map_toArray, List.map_cons, List.map_nil]); first | done | rfl | (simp only [List.length_drop, List.length_take]; rfl)) ?_; (with_reducible refine (linhaylaw03_awake.calls k  true _ A7.out).mono ?_); rintro e w34 ⟨rfl, hb⟩; refine ⟨_, rfl, ?_⟩; have n0_ := Aside0.mk (blk_below (g := gb232) (o := .cells #[.int .u64 a0_0, .int .u64 a0_1] 24 (0, 0)) (by (with_reducible repeat (first | refine blk_drewN ?_ _ | refine blk_drew ?_ | refine blk_alloc ?_ _)); exact BK232.out) hb); have n1_ := Aside0.mk (blk_below (g := gb233) (o := .cells #[.int .u64 a1_0, .int .u64 a1_1] 24 (0, 0)) (by (with_reducible repeat (first | refine blk_drewN ?_ _ | refine blk_drew ?_ | refine blk_alloc ?_ _)); exact BK233.out) hb); have n2_ := Aside0.mk (below_step (by repeat (first | (with_reducible first | exact HB.out | apply below_alloc | apply pw_below_drewN | apply below_drew1 | refine below_set ?_ GE232.out | refine below_set ?_ GE233.out) | exact HB.out)) hb); clear BK232; clear BK233; clear HB; have BK232 := n0_; have BK233 := n1_; have HB := n2_; clear n0_ n1_ n2_; (try clear hb); (try clear hb2); (try clear hk); (try clear hi); have hnb35 := NB232_233.out; have hnc35 := NB233_232.out; have hcz36_0 : w34.cell? ⟨gb232, 0, none⟩ = some (.int .u64 a0_0) := (blk_cell BK232.out 0).trans rfl; have hcz36_1 : w34.cell? ⟨gb232, 1, none⟩ = some (.int .u64 a0_1) := (blk_cell BK232.out 1).trans rfl; have hfz36_0 := blk_frozen BK232.out 0; have hfz36_1 := blk_frozen BK232.out 1; have hcz37_0 : w34.cell? ⟨gb233, 0, none⟩ = some (.int .u64 a1_0) := (blk_cell BK233.out 0).trans rfl; have hcz37_1 : w34.cell? ⟨gb233, 1, none⟩ = some (.int .u64 a1_1) := (blk_cell BK233.out 1).trans rfl; have hfz37_0 := blk_frozen BK233.out 0; have hfz37_1 := blk_frozen BK233.out 1) | ((with_reducible refine gate_callee (f := 10) rfl ?_); refine goesL_ (some 42) rfl rfl Try.func10 (by kernel_rfl) rfl #[.agg #[.int .u64 a0_0, .int .u64 a0_1], .agg #[.int .u64 a1_0, .int .u64 a1_1]] rfl (by (try simp only [List.map_toArray, List.map_cons, List.map_nil]); first | done | rfl | (simp only [List.length_drop, List.length_take]; rfl)) ?_; (with_reducible refine (ratio_Cmp.calls k a0_0 a0_1 a1_0 a1_1 t235 t236 _ A12.out).mono ?_); rintro e w38 ⟨rfl, hb⟩; refine ⟨_, rfl, ?_⟩; have n0_ := Aside0.mk (blk_below (g := gb232) (o := .cells #[.int .u64 a0_0, .int .u64 a0_1] 24 (0, 0)) (by (with_reducible repeat (first | refine blk_drewN ?_ _ | refine blk_drew ?_ | refine blk_alloc ?_ _)); exact BK232.out) hb); have n1_ := Aside0.mk (blk_below (g := gb233) (o := .cells #[.int .u64 a1_0, .int .u64 a1_1] 24 (0, 0)) (by (with_reducible repeat (first | refine blk_drewN ?_ _ | refine blk_drew ?_ | refine blk_alloc ?_ _)); exact BK233.out) hb); have n2_ := Aside0.mk (below_step (by repeat (first | (with_reducible first | exact HB.out | apply below_alloc | apply pw_below_drewN | apply below_drew1 | refine below_set ?_ GE232.out | refine below_set ?_ GE233.out) | exact HB.out)) hb); clear BK232; clear BK233; clear HB; have BK232 := n0_; have BK233 := n1_; have HB := n2_; clear n0_ n1_ n2_; (try clear hb); (try clear hb2); (try clear hk); (try clear hi); have hcz39_0 : w38.cell? ⟨gb232, 0, none⟩ = some (.int .u64 a0_0) := (blk_cell BK232.out 0).trans rfl; have hcz39_1 : w38.cell? ⟨gb232, 1, none⟩ = some (.int .u64 a0_1) := (blk_cell BK232.out 1).trans rfl; have hfz39_0 := blk_frozen BK232.out 0; have hfz39_1 := blk_frozen BK232.out 1; have hcz40_0 : w38.cell? ⟨gb233, 0, none⟩ = some (.int .u64 a1_0) := (blk_cell BK233.out 0).trans rfl; have hcz40_1 : w38.cell? ⟨gb233, 1, none⟩ = some (.int .u64 a1_1) := (blk_cell BK233.out 1).trans rfl; have hfz40_0 := blk_frozen BK233.out 0; have hfz40_1 := blk_frozen BK233.out 1) | ((with_reducible refine gate_callee (f := 11) rfl ?_); refine goesL_ (some 48) rfl rfl Try.func11 (by kernel_rfl) rfl #[.agg #[.int .u64 a0_0, .int .u64 a0_1], .agg #[.int .u64 a1_0, .int .u64 a1_1]] rfl (by (try simp only [List.map_toArray, List.map_cons, List.map_nil]); first | done | rfl | (simp only [List.length_drop, List.length_take]; rfl)) ?_; (with_reducible refine (linhayref03_Cmp.calls k a0_0 a0_1 a1_0 a1_1 t237 t238 _ A13.out).mono ?_); rintro e w41 ⟨rfl, hb⟩; refine ⟨_, rfl, ?_⟩; have n0_ := Aside0.mk (blk_below (g := gb232) (o := .cells #[.int .u64 a0_0, .int .u64 a0_1] 24 (0, 0)) (by (with_reducible repeat (first | refine blk_drewN ?_ _ | refine blk_drew ?_ | refine blk_alloc ?_ _)); exact BK232.out) hb); have n1_ := Aside0.mk (blk_below (g := gb233) (o := .cells #[.int .u64 a1_0, .int .u64 a1_1] 24 (0, 0)) (by (with_reducible repeat (first | refine blk_drewN ?_ _ | refine blk_drew ?_ | refine blk_alloc ?_ _)); exact BK233.out) hb); have n2_ := Aside0.mk (below_step (by repeat (first | (with_reducible first | exact HB.out | apply below_alloc | apply pw_below_drewN | apply below_drew1 | refine below_set ?_ GE232.out | refine below_set ?_ GE233.out) | exact HB.out)) hb); clear BK232; clear BK233; clear HB; have BK232 := n0_; have BK233 := n1_; have HB := n2_; clear n0_ n1_ n2_; (try clear hb); (try clear hb2); (try clear hk); (try clear hi)) | ((with_reducible refine gate_callee (f := 12) rfl ?_); refine goesL_ (some 53) rfl rfl Try.func12 (by kernel_rfl) rfl #[.slice A2 l2.length c2] rfl (by (try simp only [List.map_toArray, List.map_cons, List.map_nil]); first | done | rfl | (simp only [List.length_drop, List.length_take]; rfl)) ?_; (with_reducible refine (ratio_Least.calls k _ _ l2 t239 t240 _ ?side1 ?side2 A14.out).mono ?_); (case side1 => repeat (first | exact (Kd.C_below HR2.out HB.out) | (with_reducible refine Kd.C_alloc ?_ _) | (with_reducible refine Kd.C_drewN ?_ _) | (with_reducible refine Kd.C_drew ?_))); (case side2 => exact HC2.out); rintro e w42 ⟨rfl, hb⟩; refine ⟨_, rfl, ?_⟩; have n0_ := Aside0.mk (blk_below (g := gb232) (o := .cells #[.int .u64 a0_0, .int .u64 a0_1] 24 (0, 0)) (by (with_reducible repeat (first | refine blk_drewN ?_ _ | refine blk_drew ?_ | refine blk_alloc ?_ _)); exact BK232.out) hb); have n1_ := Aside0.mk (blk_below (g := gb233) (o := .cells #[.int .u64 a1_0, .int .u64 a1_1] 24 (0, 0)) (by (with_reducible repeat (first | refine blk_drewN ?_ _ | refine blk_drew ?_ | refine blk_alloc ?_ _)); exact BK233.out) hb); have n2_ := Aside0.mk (below_step (by repeat (first | (with_reducible first | exact HB.out | apply below_alloc | apply pw_below_drewN | apply below_drew1 | refine below_set ?_ GE232.out | refine below_set ?_ GE233.out) | exact HB.out)) hb); clear BK232; clear BK233; clear HB; have BK232 := n0_; have BK233 := n1_; have HB := n2_; clear n0_ n1_ n2_; (try clear hb); (try clear hb2); (try clear hk); (try clear hi)) | ((with_reducible refine gate_callee (f := 13) rfl ?_); refine goesL_ (some 58) rfl rfl Try.func13 (by kernel_rfl) rfl #[.slice A2 l2.length c2] rfl (by (try simp only [List.map_toArray, List.map_cons, List.map_nil]); first | done | rfl | (simp only [List.length_drop, List.length_take]; rfl)) ?_; (with_reducible refine (linhayref03_Least.calls k _ _ l2 t241 t242 _ ?side1 ?side2 A15.out).mono ?_); (case side1 => repeat (first | exact (Kd.C_below HR2.out HB.out) | (with_reducible refine Kd.C_alloc ?_ _) | (with_reducible refine Kd.C_drewN ?_ _) | (with_reducible refine Kd.C_drew ?_))); (case side2 => exact HC2.out); rintro e w43 ⟨rfl, hb⟩; refine ⟨_, rfl, ?_⟩; have n0_ := Aside0.mk (blk_below (g := gb232) (o := .cells #[.int .u64 a0_0, .int .u64 a0_1] 24 (0, 0)) (by (with_reducible repeat (first | refine blk_drewN ?_ _ | refine blk_drew ?_ | refine blk_alloc ?_ _)); exact BK232.out) hb); have n1_ := Aside0.mk (blk_below (g := gb233) (o := .cells #[.int .u64 a1_0, .int .u64 a1_1] 24 (0, 0)) (by (with_reducible repeat (first | refine blk_drewN ?_ _ | refine blk_drew ?_ | refine blk_alloc ?_ _)); exact BK233.out) hb); have n2_ := Aside0.mk (below_step (by repeat (first | (with_reducible first | exact HB.out | apply below_alloc | apply pw_below_drewN | apply below_drew1 | refine below_set ?_ GE232.out | refine below_set ?_ GE233.out) | exact HB.out)) hb); clear BK232; clear BK233; clear HB; have BK232 := n0_; have BK233 := n1_; have HB := n2_; clear n0_ n1_ n2_; (try clear hb); (try clear hb2); (try clear hk); (try clear hi)) | ((with_reducible refine gate_callee (f := 14) rfl ?_); refine goesL_ (some 65) rfl rfl Try.func14 (by kernel_rfl) rfl #[.int .u64 a3, .int .u64 a4, .int .u64 a5] rfl (by (try simp only [List.map_toArray, List.map_cons, List.map_nil]); first | done | rfl | (simp only [List.length_drop, List.length_take]; rfl)) ?_; (with_reducible refine (ratio_Floor.calls k a3 a4 a5 t243 t244 _ A16.out).mono ?_); rintro e w44 ⟨rfl, hb⟩; refine ⟨_, rfl, ?_⟩; have n0_ := Aside0.mk (blk_below (g := gb232) (o := .cells #[.int .u64 a0_0, .int .u64 a0_1] 24 (0, 0)) (by (with_reducible repeat (first | refine blk_drewN ?_ _ | refine blk_drew ?_ | refine blk_alloc ?_ _)); exact BK232.out) hb); have n1_ := Aside0.mk (blk_below (g := gb233) (o := .cells #[.int .u64 a1_0, .int .u64 a1_1] 24 (0, 0)) (by (with_reducible repeat (first | refine blk_drewN ?_ _ | refine blk_drew ?_ | refine blk_alloc ?_ _)); exact BK233.out) hb); have n2_ := Aside0.mk (below_step (by repeat (first | (with_reducible first | exact HB.out | apply below_alloc | apply pw_below_drewN | apply below_drew1 | refine below_set ?_ GE232.out | refine below_set ?_ GE233.out) | exact HB.out)) hb); clear BK232; clear BK233; clear HB; have BK232 := n0_; have BK233 := n1_; have HB := n2_; clear n0_ n1_ n2_; (try clear hb); (try clear hb2); (try clear hk); (try clear hi)) | ((with_reducible refine gate_callee (f := 15) rfl ?_); refine goesL_ (some 72) rfl rfl Try.func15 (by kernel_rfl) rfl #[.int .u64 a3, .int .u64 a4, .int .u64 a5] rfl (by (try simp only [List.map_toArray, List.map_cons, List.map_nil]); first | done | rfl | (simp only [List.length_drop, List.length_take]; rfl)) ?_; (with_reducible refine (linhayref03_Floor.calls k a3 a4 a5 t245 t246 _ A17.out).mono ?_); rintro e w45 ⟨rfl, hb⟩; refine ⟨_, rfl, ?_⟩; have n0_ := Aside0.mk (blk_below (g := gb232) (o := .cells #[.int .u64 a0_0, .int .u64 a0_1] 24 (0, 0)) (by (with_reducible repeat (first | refine blk_drewN ?_ _ | refine blk_drew ?_ | refine blk_alloc ?_ _)); exact BK232.out) hb); have n1_ := Aside0.mk (blk_below (g := gb233) (o := .cells #[.int .u64 a1_0, .int .u64 a1_1] 24 (0, 0)) (by (with_reducible repeat (first | refine blk_drewN ?_ _ | refine blk_drew ?_ | refine blk_alloc ?_ _)); exact BK233.out) hb); have n2_ := Aside0.mk (below_step (by repeat (first | (with_reducible first | exact HB.out | apply below_alloc | apply pw_below_drewN | apply below_drew1 | refine below_set ?_ GE232.out | refine below_set ?_ GE233.out) | exact HB.out)) hb); clear BK232; clear BK233; clear HB; have BK232 := n0_; have BK233 := n1_; have HB := n2_; clear n0_ n1_ n2_; (try clear hb); (try clear hb2); (try clear hk); (try clear hi)) | ((with_reducible refine gate_callee (f := 16) rfl ?_); refine goesL_ (some 79) rfl rfl Try.func16 (by kernel_rfl) rfl #[.int .u64 a3, .int .u64 a4, .int .u64 a5] rfl (by (try simp only [List.map_toArray, List.map_cons, List.map_nil]); first | done | rfl | (simp only [List.length_drop, List.length_take]; rfl)) ?_; (with_reducible refine (ratio_Ceil.calls k a3 a4 a5 t247 t248 _ A18.out).mono ?_); rintro e w46 ⟨rfl, hb⟩; refine ⟨_, rfl, ?_⟩; have n0_ := Aside0.mk (blk_below (g := gb232) (o := .cells #[.int .u64 a0_0, .int .u64 a0_1] 24 (0, 0)) (by (with_reducible repeat (first | refine blk_drewN ?_ _ | refine blk_drew ?_ | refine blk_alloc ?_ _)); exact BK232.out) hb); have n1_ := Aside0.mk (blk_below (g := gb233) (o := .cells #[.int .u64 a1_0, .int .u64 a1_1] 24 (0, 0)) (by (with_reducible repeat (first | refine blk_drewN ?_ _ | refine blk_drew ?_ | refine blk_alloc ?_ _)); exact BK233.out) hb); have n2_ := Aside0.mk (below_step (by repeat (first | (with_reducible first | exact HB.out | apply below_alloc | apply pw_below_drewN | apply below_drew1 | refine below_set ?_ GE232.out | refine below_set ?_ GE233.out) | exact HB.out)) hb); clear BK232; clear BK233; clear HB; have BK232 := n0_; have BK233 := n1_; have HB := n2_; clear n0_ n1_ n2_; (try clear hb); (try clear hb2); (try clear hk); (try clear hi)) | ((with_reducible refine gate_callee (f := 17) rfl ?_); refine goesL_ (some 86) rfl rfl Try.func17 (by kernel_rfl) rfl #[.int .u64 a3, .int .u64 a4, .int .u64 a5] rfl (by (try simp only [List.map_toArray, List.map_cons, List.map_nil]); first | done | rfl | (simp only [List.length_drop, List.length_take]; rfl)) ?_; (with_reducible refine (linhayref03_Ceil.calls k a3 a4 a5 t249 t250 _ A19.out).mono ?_); rintro e w47 ⟨rfl, hb⟩; refine ⟨_, rfl, ?_⟩; have n0_ := Aside0.mk (blk_below (g := gb232) (o := .cells #[.int .u64 a0_0, .int .u64 a0_1] 24 (0, 0)) (by (with_reducible repeat (first | refine blk_drewN ?_ _ | refine blk_drew ?_ | refine blk_alloc ?_ _)); exact BK232.out) hb); have n1_ := Aside0.mk (blk_below (g := gb233) (o := .cells #[.int .u64 a1_0, .int .u64 a1_1] 24 (0, 0)) (by (with_reducible repeat (first | refine blk_drewN ?_ _ | refine blk_drew ?_ | refine blk_alloc ?_ _)); exact BK233.out) hb); have n2_ := Aside0.mk (below_step (by repeat (first | (with_reducible first | exact HB.out | apply below_alloc | apply pw_below_drewN | apply below_drew1 | refine below_set ?_ GE232.out | refine below_set ?_ GE233.out) | exact HB.out)) hb); clear BK232; clear BK233; clear HB; have BK232 := n0_; have BK233 := n1_; have HB := n2_; clear n0_ n1_ n2_; (try clear hb); (try clear hb2); (try clear hk); (try clear hi)) | ((with_reducible refine gate_callee (f := 18) rfl ?_); refine goesL_ (some 93) rfl rfl Try.func18 (by kernel_rfl) rfl #[.int .u64 a3, .int .u64 a4, .int .u64 a5] rfl (by (try simp only [List.map_toArray, List.map_cons, List.map_nil]); first | done | rfl | (simp only [List.length_drop, List.length_take]; rfl)) ?_; (with_reducible refine (ratio_Near.calls k a3 a4 a5 t251 t252 _ A20.out).mono ?_); rintro e w48 ⟨rfl, hb⟩; refine ⟨_, rfl, ?_⟩; have n0_ := Aside0.mk (blk_below (g := gb232) (o := .cells #[.int .u64 a0_0, .int .u64 a0_1] 24 (0, 0)) (by (with_reducible repeat (first | refine blk_drewN ?_ _ | refine blk_drew ?_ | refine blk_alloc ?_ _)); exact BK232.out) hb); have n1_ := Aside0.mk (blk_below (g := gb233) (o := .cells #[.int .u64 a1_0, .int .u64 a1_1] 24 (0, 0)) (by (with_reducible repeat (first | refine blk_drewN ?_ _ | refine blk_drew ?_ | refine blk_alloc ?_ _)); exact BK233.out) hb); have n2_ := Aside0.mk (below_step (by repeat (first | (with_reducible first | exact HB.out | apply below_alloc | apply pw_below_drewN | apply below_drew1 | refine below_set ?_ GE232.out | refine below_set ?_ GE233.out) | exact HB.out)) hb); clear BK232; clear BK233; clear HB; have BK232 := n0_; have BK233 := n1_; have HB := n2_; clear n0_ n1_ n2_; (try clear hb); (try clear hb2); (try clear hk); (try clear hi)) | ((with_reducible refine gate_callee (f := 19) rfl ?_); refine goesL_ (some 100) rfl rfl Try.func19 (by kernel_rfl) rfl #[.int .u64 a3, .int .u64 a4, .int .u64 a5] rfl (by (try simp only [List.map_toArray, List.map_cons, List.map_nil]); first | done | rfl | (simp only [List.length_drop, List.length_take]; rfl)) ?_; (with_reducible refine (linhayref03_Near.calls k a3 a4 a5 t253 t254 _ A21.out).mono ?_); rintro e w49 ⟨rfl, hb⟩; refine ⟨_, rfl, ?_⟩; have n0_ := Aside0.mk (blk_below (g := gb232) (o := .cells #[.int .u64 a0_0, .int .u64 a0_1] 24 (0, 0)) (by (with_reducible repeat (first | refine blk_drewN ?_ _ | refine blk_drew ?_ | refine blk_alloc ?_ _)); exact BK232.out) hb); have n1_ := Aside0.mk (blk_below (g := gb233) (o := .cells #[.int .u64 a1_0, .int .u64 a1_1] 24 (0, 0)) (by (with_reducible repeat (first | refine blk_drewN ?_ _ | refine blk_drew ?_ | refine blk_alloc ?_ _)); exact BK233.out) hb); have n2_ := Aside0.mk (below_step (by repeat (first | (with_reducible first | exact HB.out | apply below_alloc | apply pw_below_drewN | apply below_drew1 | refine below_set ?_ GE232.out | refine below_set ?_ GE233.out) | exact HB.out)) hb); clear BK232; clear BK233; clear HB; have BK232 := n0_; have BK233 := n1_; have HB := n2_; clear n0_ n1_ n2_; (try clear hb); (try clear hb2); (try clear hk); (try clear hi)) | (go_at_call 9; (with_reducible refine (linhaylaw03_awake.calls k  true _ A7.out).mono ?_); rintro e w34 ⟨rfl, hb⟩; have n0_ := Aside0.mk (blk_below (g := gb232) (o := .cells #[.int .u64 a0_0, .int .u64 a0_1] 24 (0, 0)) (by (with_reducible repeat (first | refine blk_drewN ?_ _ | refine blk_drew ?_ | refine blk_alloc ?_ _)); exact BK232.out) hb); have n1_ := Aside0.mk (blk_below (g := gb233) (o := .cells #[.int .u64 a1_0, .int .u64 a1_1] 24 (0, 0)) (by (with_reducible repeat (first | refine blk_drewN ?_ _ | refine blk_drew ?_ | refine blk_alloc ?_ _)); exact BK233.out) hb); have n2_ := Aside0.mk (below_step (by repeat (first | (with_reducible first | exact HB.out | apply below_alloc | apply pw_below_drewN | apply below_drew1 | refine below_set ?_ GE232.out | refine below_set ?_ GE233.out) | exact HB.out)) hb); clear BK232; clear BK233; clear HB; have BK232 := n0_; have BK233 := n1_; have HB := n2_; clear n0_ n1_ n2_; (try clear hb); (try clear hb2); (try clear hk); (try clear hi); have hnb35 := NB232_233.out; have hnc35 := NB233_232.out; have hcz36_0 : w34.cell? ⟨gb232, 0, none⟩ = some (.int .u64 a0_0) := (blk_cell BK232.out 0).trans rfl; have hcz36_1 : w34.cell? ⟨gb232, 1, none⟩ = some (.int .u64 a0_1) := (blk_cell BK232.out 1).trans rfl; have hfz36_0 := blk_frozen BK232.out 0; have hfz36_1 := blk_frozen BK232.out 1; have hcz37_0 : w34.cell? ⟨gb233, 0, none⟩ = some (.int .u64 a1_0) := (blk_cell BK233.out 0).trans rfl; have hcz37_1 : w34.cell? ⟨gb233, 1, none⟩ = some (.int .u64 a1_1) := (blk_cell BK233.out 1).trans rfl; have hfz37_0 := blk_frozen BK233.out 0; have hfz37_1 := blk_frozen BK233.out 1) | (go_at_call 10; (with_reducible refine (ratio_Cmp.calls k a0_0 a0_1 a1_0 a1_1 t235 t236 _ A12.out).mono ?_); rintro e w38 ⟨rfl, hb⟩; have n0_ := Aside0.mk (blk_below (g := gb232) (o := .cells #[.int .u64 a0_0, .int .u64 a0_1] 24 (0, 0)) (by (with_reducible repeat (first | refine blk_drewN ?_ _ | refine blk_drew ?_ | refine blk_alloc ?_ _)); exact BK232.out) hb); have n1_ := Aside0.mk (blk_below (g := gb233) (o := .cells #[.int .u64 a1_0, .int .u64 a1_1] 24 (0, 0)) (by (with_reducible repeat (first | refine blk_drewN ?_ _ | refine blk_drew ?_ | refine blk_alloc ?_ _)); exact BK233.out) hb); have n2_ := Aside0.mk (below_step (by repeat (first | (with_reducible first | exact HB.out | apply below_alloc | apply pw_below_drewN | apply below_drew1 | refine below_set ?_ GE232.out | refine below_set ?_ GE233.out) | exact HB.out)) hb); clear BK232; clear BK233; clear HB; have BK232 := n0_; have BK233 := n1_; have HB := n2_; clear n0_ n1_ n2_; (try clear hb); (try clear hb2); (try clear hk); (try clear hi); have hcz39_0 : w38.cell? ⟨gb232, 0, none⟩ = some (.int .u64 a0_0) := (blk_cell BK232.out 0).trans rfl; have hcz39_1 : w38.cell? ⟨gb232, 1, none⟩ = some (.int .u64 a0_1) := (blk_cell BK232.out 1).trans rfl; have hfz39_0 := blk_frozen BK232.out 0; have hfz39_1 := blk_frozen BK232.out 1; have hcz40_0 : w38.cell? ⟨gb233, 0, none⟩ = some (.int .u64 a1_0) := (blk_cell BK233.out 0).trans rfl; have hcz40_1 : w38.cell? ⟨gb233, 1, none⟩ = some (.int .u64 a1_1) := (blk_cell BK233.out 1).trans rfl; have hfz40_0 := blk_frozen BK233.out 0; have hfz40_1 := blk_frozen BK233.out 1) | (go_at_call 11; (with_reducible refine (linhayref03_Cmp.calls k a0_0 a0_1 a1_0 a1_1 t237 t238 _ A13.out).mono ?_); rintro e w41 ⟨rfl, hb⟩; have n0_ := Aside0.mk (blk_below (g := gb232) (o := .cells #[.int .u64 a0_0, .int .u64 a0_1] 24 (0, 0)) (by (with_reducible repeat (first | refine blk_drewN ?_ _ | refine blk_drew ?_ | refine blk_alloc ?_ _)); exact BK232.out) hb); have n1_ := Aside0.mk (blk_below (g := gb233) (o := .cells #[.int .u64 a1_0, .int .u64 a1_1] 24 (0, 0)) (by (with_reducible repeat (first | refine blk_drewN ?_ _ | refine blk_drew ?_ | refine blk_alloc ?_ _)); exact BK233.out) hb); have n2_ := Aside0.mk (below_step (by repeat (first | (with_reducible first | exact HB.out | apply below_alloc | apply pw_below_drewN | apply below_drew1 | refine below_set ?_ GE232.out | refine below_set ?_ GE233.out) | exact HB.out)) hb); clear BK232; clear BK233; clear HB; have BK232 := n0_; have BK233 := n1_; have HB := n2_; clear n0_ n1_ n2_; (try clear hb); (try clear hb2); (try clear hk); (try clear hi)) | (go_at_call 12; (with_reducible refine (ratio_Least.calls k _ _ l2 t239 t240 _ ?side1 ?side2 A14.out).mono ?_); (case side1 => repeat (first | exact (Kd.C_below HR2.out HB.out) | (with_reducible refine Kd.C_alloc ?_ _) | (with_reducible refine Kd.C_drewN ?_ _) | (with_reducible refine Kd.C_drew ?_))); (case side2 => exact HC2.out); rintro e w42 ⟨rfl, hb⟩; have n0_ := Aside0.mk (blk_below (g := gb232) (o := .cells #[.int .u64 a0_0, .int .u64 a0_1] 24 (0, 0)) (by (with_reducible repeat (first | refine blk_drewN ?_ _ | refine blk_drew ?_ | refine blk_alloc ?_ _)); exact BK232.out) hb); have n1_ := Aside0.mk (blk_below (g := gb233) (o := .cells #[.int .u64 a1_0, .int .u64 a1_1] 24 (0, 0)) (by (with_reducible repeat (first | refine blk_drewN ?_ _ | refine blk_drew ?_ | refine blk_alloc ?_ _)); exact BK233.out) hb); have n2_ := Aside0.mk (below_step (by repeat (first | (with_reducible first | exact HB.out | apply below_alloc | apply pw_below_drewN | apply below_drew1 | refine below_set ?_ GE232.out | refine below_set ?_ GE233.out) | exact HB.out)) hb); clear BK232; clear BK233; clear HB; have BK232 := n0_; have BK233 := n1_; have HB := n2_; clear n0_ n1_ n2_; (try clear hb); (try clear hb2); (try clear hk); (try clear hi)) | (go_at_call 13; (with_reducible refine (linhayref03_Least.calls k _ _ l2 t241 t242 _ ?side1 ?side2 A15.out).mono ?_); (case side1 => repeat (first | exact (Kd.C_below HR2.out HB.out) | (with_reducible refine Kd.C_alloc ?_ _) | (with_reducible refine Kd.C_drewN ?_ _) | (with_reducible refine Kd.C_drew ?_))); (case side2 => exact HC2.out); rintro e w43 ⟨rfl, hb⟩; have n0_ := Aside0.mk (blk_below (g := gb232) (o := .cells #[.int .u64 a0_0, .int .u64 a0_1] 24 (0, 0)) (by (with_reducible repeat (first | refine blk_drewN ?_ _ | refine blk_drew ?_ | refine blk_alloc ?_ _)); exact BK232.out) hb); have n1_ := Aside0.mk (blk_below (g := gb233) (o := .cells #[.int .u64 a1_0, .int .u64 a1_1] 24 (0, 0)) (by (with_reducible repeat (first | refine blk_drewN ?_ _ | refine blk_drew ?_ | refine blk_alloc ?_ _)); exact BK233.out) hb); have n2_ := Aside0.mk (below_step (by repeat (first | (with_reducible first | exact HB.out | apply below_alloc | apply pw_below_drewN | apply below_drew1 | refine below_set ?_ GE232.out | refine below_set ?_ GE233.out) | exact HB.out)) hb); clear BK232; clear BK233; clear HB; have BK232 := n0_; have BK233 := n1_; have HB := n2_; clear n0_ n1_ n2_; (try clear hb); (try clear hb2); (try clear hk); (try clear hi)) | (go_at_call 14; (with_reducible refine (ratio_Floor.calls k a3 a4 a5 t243 t244 _ A16.out).mono ?_); rintro e w44 ⟨rfl, hb⟩; have n0_ := Aside0.mk (blk_below (g := gb232) (o := .cells #[.int .u64 a0_0, .int .u64 a0_1] 24 (0, 0)) (by (with_reducible repeat (first | refine blk_drewN ?_ _ | refine blk_drew ?_ | refine blk_alloc ?_ _)); exact BK232.out) hb); have n1_ := Aside0.mk (blk_below (g := gb233) (o := .cells #[.int .u64 a1_0, .int .u64 a1_1] 24 (0, 0)) (by (with_reducible repeat (first | refine blk_drewN ?_ _ | refine blk_drew ?_ | refine blk_alloc ?_ _)); exact BK233.out) hb); have n2_ := Aside0.mk (below_step (by repeat (first | (with_reducible first | exact HB.out | apply below_alloc | apply pw_below_drewN | apply below_drew1 | refine below_set ?_ GE232.out | refine below_set ?_ GE233.out) | exact HB.out)) hb); clear BK232; clear BK233; clear HB; have BK232 := n0_; have BK233 := n1_; have HB := n2_; clear n0_ n1_ n2_; (try clear hb); (try clear hb2); (try clear hk); (try clear hi)) | (go_at_call 15; (with_reducible refine (linhayref03_Floor.calls k a3 a4 a5 t245 t246 _ A17.out).mono ?_); rintro e w45 ⟨rfl, hb⟩; have n0_ := Aside0.mk (blk_below (g := gb232) (o := .cells #[.int .u64 a0_0, .int .u64 a0_1] 24 (0, 0)) (by (with_reducible repeat (first | refine blk_drewN ?_ _ | refine blk_drew ?_ | refine blk_alloc ?_ _)); exact BK232.out) hb); have n1_ := Aside0.mk (blk_below (g := gb233) (o := .cells #[.int .u64 a1_0, .int .u64 a1_1] 24 (0, 0)) (by (with_reducible repeat (first | refine blk_drewN ?_ _ | refine blk_drew ?_ | refine blk_alloc ?_ _)); exact BK233.out) hb); have n2_ := Aside0.mk (below_step (by repeat (first | (with_reducible first | exact HB.out | apply below_alloc | apply pw_below_drewN | apply below_drew1 | refine below_set ?_ GE232.out | refine below_set ?_ GE233.out) | exact HB.out)) hb); clear BK232; clear BK233; clear HB; have BK232 := n0_; have BK233 := n1_; have HB := n2_; clear n0_ n1_ n2_; (try clear hb); (try clear hb2); (try clear hk); (try clear hi)) | (go_at_call 16; (with_reducible refine (ratio_Ceil.calls k a3 a4 a5 t247 t248 _ A18.out).mono ?_); rintro e w46 ⟨rfl, hb⟩; have n0_ := Aside0.mk (blk_below (g := gb232) (o := .cells #[.int .u64 a0_0, .int .u64 a0_1] 24 (0, 0)) (by (with_reducible repeat (first | refine blk_drewN ?_ _ | refine blk_drew ?_ | refine blk_alloc ?_ _)); exact BK232.out) hb); have n1_ := Aside0.mk (blk_below (g := gb233) (o := .cells #[.int .u64 a1_0, .int .u64 a1_1] 24 (0, 0)) (by (with_reducible repeat (first | refine blk_drewN ?_ _ | refine blk_drew ?_ | refine blk_alloc ?_ _)); exact BK233.out) hb); have n2_ := Aside0.mk (below_step (by repeat (first | (with_reducible first | exact HB.out | apply below_alloc | apply pw_below_drewN | apply below_drew1 | refine below_set ?_ GE232.out | refine below_set ?_ GE233.out) | exact HB.out)) hb); clear BK232; clear BK233; clear HB; have BK232 := n0_; have BK233 := n1_; have HB := n2_; clear n0_ n1_ n2_; (try clear hb); (try clear hb2); (try clear hk); (try clear hi)) | (go_at_call 17; (with_reducible refine (linhayref03_Ceil.calls k a3 a4 a5 t249 t250 _ A19.out).mono ?_); rintro e w47 ⟨rfl, hb⟩; have n0_ := Aside0.mk (blk_below (g := gb232) (o := .cells #[.int .u64 a0_0, .int .u64 a0_1] 24 (0, 0)) (by (with_reducible repeat (first | refine blk_drewN ?_ _ | refine blk_drew ?_ | refine blk_alloc ?_ _)); exact BK232.out) hb); have n1_ := Aside0.mk (blk_below (g := gb233) (o := .cells #[.int .u64 a1_0, .int .u64 a1_1] 24 (0, 0)) (by (with_reducible repeat (first | refine blk_drewN ?_ _ | refine blk_drew ?_ | refine blk_alloc ?_ _)); exact BK233.out) hb); have n2_ := Aside0.mk (below_step (by repeat (first | (with_reducible first | exact HB.out | apply below_alloc | apply pw_below_drewN | apply below_drew1 | refine below_set ?_ GE232.out | refine below_set ?_ GE233.out) | exact HB.out)) hb); clear BK232; clear BK233; clear HB; have BK232 := n0_; have BK233 := n1_; have HB := n2_; clear n0_ n1_ n2_; (try clear hb); (try clear hb2); (try clear hk); (try clear hi)) | (go_at_call 18; (with_reducible refine (ratio_Near.calls k a3 a4 a5 t251 t252 _ A20.out).mono ?_); rintro e w48 ⟨rfl, hb⟩; have n0_ := Aside0.mk (blk_below (g := gb232) (o := .cells #[.int .u64 a0_0, .int .u64 a0_1] 24 (0, 0)) (by (with_reducible repeat (first | refine blk_drewN ?_ _ | refine blk_drew ?_ | refine blk_alloc ?_ _)); exact BK232.out) hb); have n1_ := Aside0.mk (blk_below (g := gb233) (o := .cells #[.int .u64 a1_0, .int .u64 a1_1] 24 (0, 0)) (by (with_reducible repeat (first | refine blk_drewN ?_ _ | refine blk_drew ?_ | refine blk_alloc ?_ _)); exact BK233.out) hb); have n2_ := Aside0.mk (below_step (by repeat (first | (with_reducible first | exact HB.out | apply below_alloc | apply pw_below_drewN | apply below_drew1 | refine below_set ?_ GE232.out | refine below_set ?_ GE233.out) | exact HB.out)) hb); clear BK232; clear BK233; clear HB; have BK232 := n0_; have BK233 := n1_; have HB := n2_; clear n0_ n1_ n2_; (try clear hb); (try clear hb2); (try clear hk); (try clear hi)) | (go_at_call 19; (with_reducible refine (linhayref03_Near.calls k a3 a4 a5 t253 t254 _ A21.out).mono ?_); rintro e w49 ⟨rfl, hb⟩; have n0_ := Aside0.mk (blk_below (g := gb232) (o := .cells #[.int .u64 a0_0, .int .u64 a0_1] 24 (0, 0)) (by (with_reducible repeat (first | refine blk_drewN ?_ _ | refine blk_drew ?_ | refine blk_alloc ?_ _)); exact BK232.out) hb); have n1_ := Aside0.mk (blk_below (g := gb233) (o := .cells #[.int .u64 a1_0, .int .u64 a1_1] 24 (0, 0)) (by (with_reducible repeat (first | refine blk_drewN ?_ _ | refine blk_drew ?_ | refine blk_alloc ?_ _)); exact BK233.out) hb); have n2_ := Aside0.mk (below_step (by repeat (first | (with_reducible first | exact HB.out | apply below_alloc | apply pw_below_drewN | apply below_drew1 | refine below_set ?_ GE232.out | refine below_set ?_ GE233.out) | exact HB.out)) hb); clear BK232; clear BK233; clear HB; have BK232 := n0_; have BK233 := n1_; have HB := n2_; clear n0_ n1_ n2_; (try clear hb); (try clear hb2); (try clear hk); (try clear hi)))
                        go_ret
                        exact ⟨by first | rfl | (simp [errW_none, errW_some] <;> rfl) | (simp [*, errW_none, errW_some] <;> rfl), by repeat (first | (with_reducible first | exact HB.out | apply below_alloc | apply pw_below_drewN | apply below_drew1 | refine below_set ?_ GE232.out | refine below_set ?_ GE233.out) | exact HB.out)⟩
                      · rw [if_neg c31] at H
                        exact absurd H (by simp)
                    · rw [if_neg c30] at H
                      exact absurd H (by simp)
                  · rw [if_neg c29] at H
                    exact absurd H (by simp)
                · rw [if_neg c28] at H
                  exact absurd H (by simp)
              · rw [if_neg c27] at H
                exact absurd H (by simp)
            · rw [if_neg c26] at H
              exact absurd H (by simp)
          · rw [if_neg c25] at H
            exact absurd H (by simp)
        · rw [if_neg c24] at H
          exact absurd H (by simp)
      · rw [if_neg c23] at H
        exact absurd H (by simp)
    · replace c22 := Bool.eq_false_iff.mpr c22
      subst c22
      have H1 : (none) = some r := by rw [if_neg (show ¬ (false = true) by decide)] at H; exact H
      clear H
      have H := H1
      clear H1
      exact absurd H (by simp)

-- NOT PRINTED: function 4 (linhaylaw03_RatioOrder)

/-! ### linhaylaw03_RatioSame: function 5 -/
def linhaylaw03_RatioSame.f (k : Nat) (a0 : Int) (a1 : Int) (a2 : Int) (a3_0 : Int) (a3_1 : Int) : Option (Bool) := (linhaylaw03_awake.f k).bind fun t270 => ((ratio_Cmp.f k (IntKind.u64.wrap (a0)) (IntKind.u64.wrap (a1)) (IntKind.u64.wrap ((IntKind.u64.wrap (a0)) * (IntKind.u64.wrap (a2)))) (IntKind.u64.wrap ((IntKind.u64.wrap (a1)) * (IntKind.u64.wrap (a2))))).bind fun bt273 => ((ratio_Cmp.f k (IntKind.u64.wrap (a0)) (IntKind.u64.wrap (a1)) a3_0 a3_1).bind fun bt275 => ((ratio_Cmp.f k (IntKind.u64.wrap ((IntKind.u64.wrap (a0)) * (IntKind.u64.wrap (a2)))) (IntKind.u64.wrap ((IntKind.u64.wrap (a1)) * (IntKind.u64.wrap (a2)))) a3_0 a3_1).bind fun bt277 => (if a1 = 0 then (if t270 = true then (if bt273.2 = 20 then (some (bt273.1 == 0)) else (none)) else (none)) else (if a2 = 0 then (if t270 = true then (if bt273.2 = 20 then (some (bt273.1 == 0)) else (none)) else (none)) else (if t270 = true then (if bt273.2 = 0 then (if bt273.1 = 0 then (if bt275.1 = bt277.1 then (some (bt275.2 == bt277.2)) else (none)) else (none)) else (none)) else (none)))))))
theorem linhaylaw03_RatioSame.mono : ∀ a0 a1 a2 a3 a4 k, LeO (linhaylaw03_RatioSame.f k a0 a1 a2 a3 a4) (linhaylaw03_RatioSame.f (k + 1) a0 a1 a2 a3 a4) := by
  intro a0 a1 a2 a3 a4 k
  unfold linhaylaw03_RatioSame.f
  repeat' first
      | (with_reducible exact linhaylaw03_awake.mono _)
      | (with_reducible exact ratio_Cmp.mono _ _ _ _ _)
      | (with_reducible exact LeO.refl _)
      | (with_reducible exact LeO.none _)
      | (with_reducible refine LeO.ite ?_ ?_)
      | (with_reducible refine LeO.bind ?_ (fun _ => ?_))
      | exact linhaylaw03_awake.mono _
      | exact ratio_Cmp.mono _ _ _ _ _
      | exact LeO.none _
      | refine LeO.ite ?_ ?_
      | refine LeO.bind ?_ (fun _ => ?_)
set_option maxHeartbeats 8000000 in
set_option maxRecDepth 100000 in
theorem linhaylaw03_RatioSame.calls (k : Nat) (a0 : Int) (a1 : Int) (a2 : Int) (a3_0 : Int) (a3_1 : Int) (r : Bool) (w : World) (h : linhaylaw03_RatioSame.f k a0 a1 a2 a3_0 a3_1 = some r) :
    Calls Try.prog 5 #[.int .u32 a0, .int .u32 a1, .int .u32 a2, .agg #[.int .u64 a3_0, .int .u64 a3_1]] w fun e w' => e = .returned (.bool r) ∧ Below w.heap.size w w' := by
  have hu24 := Try.underlying24
  have HB := Aside0.mk (Below.refl w.heap.size w)
  have H : ((linhaylaw03_awake.f k).bind fun t270 => ((ratio_Cmp.f k (IntKind.u64.wrap (a0)) (IntKind.u64.wrap (a1)) (IntKind.u64.wrap ((IntKind.u64.wrap (a0)) * (IntKind.u64.wrap (a2)))) (IntKind.u64.wrap ((IntKind.u64.wrap (a1)) * (IntKind.u64.wrap (a2))))).bind fun bt273 => ((ratio_Cmp.f k (IntKind.u64.wrap (a0)) (IntKind.u64.wrap (a1)) a3_0 a3_1).bind fun bt275 => ((ratio_Cmp.f k (IntKind.u64.wrap ((IntKind.u64.wrap (a0)) * (IntKind.u64.wrap (a2)))) (IntKind.u64.wrap ((IntKind.u64.wrap (a1)) * (IntKind.u64.wrap (a2)))) a3_0 a3_1).bind fun bt277 => (if a1 = 0 then (if t270 = true then (if bt273.2 = 20 then (some (bt273.1 == 0)) else (none)) else (none)) else (if a2 = 0 then (if t270 = true then (if bt273.2 = 20 then (some (bt273.1 == 0)) else (none)) else (none)) else (if t270 = true then (if bt273.2 = 0 then (if bt273.1 = 0 then (if bt275.1 = bt277.1 then (some (bt275.2 == bt277.2)) else (none)) else (none)) else (none)) else (none)))))))) = some r := h
  clear h
  replace H := Option.bind_eq_some_iff.mp H
  obtain ⟨t270, A50, H⟩ := H
  replace H : ((ratio_Cmp.f k (IntKind.u64.wrap (a0)) (IntKind.u64.wrap (a1)) (IntKind.u64.wrap ((IntKind.u64.wrap (a0)) * (IntKind.u64.wrap (a2)))) (IntKind.u64.wrap ((IntKind.u64.wrap (a1)) * (IntKind.u64.wrap (a2))))).bind fun bt273 => ((ratio_Cmp.f k (IntKind.u64.wrap (a0)) (IntKind.u64.wrap (a1)) a3_0 a3_1).bind fun bt275 => ((ratio_Cmp.f k (IntKind.u64.wrap ((IntKind.u64.wrap (a0)) * (IntKind.u64.wrap (a2)))) (IntKind.u64.wrap ((IntKind.u64.wrap (a1)) * (IntKind.u64.wrap (a2)))) a3_0 a3_1).bind fun bt277 => (if a1 = 0 then (if t270 = true then (if bt273.2 = 20 then (some (bt273.1 == 0)) else (none)) else (none)) else (if a2 = 0 then (if t270 = true then (if bt273.2 = 20 then (some (bt273.1 == 0)) else (none)) else (none)) else (if t270 = true then (if bt273.2 = 0 then (if bt273.1 = 0 then (if bt275.1 = bt277.1 then (some (bt275.2 == bt277.2)) else (none)) else (none)) else (none)) else (none))))))) = some r := H
  have A5 := Aside0.mk A50
  clear A50
  replace H := Option.bind_eq_some_iff.mp H
  obtain ⟨⟨t273, t274⟩, A60, H⟩ := H
  replace H : ((ratio_Cmp.f k (IntKind.u64.wrap (a0)) (IntKind.u64.wrap (a1)) a3_0 a3_1).bind fun bt275 => ((ratio_Cmp.f k (IntKind.u64.wrap ((IntKind.u64.wrap (a0)) * (IntKind.u64.wrap (a2)))) (IntKind.u64.wrap ((IntKind.u64.wrap (a1)) * (IntKind.u64.wrap (a2)))) a3_0 a3_1).bind fun bt277 => (if a1 = 0 then (if t270 = true then (if t274 = 20 then (some (t273 == 0)) else (none)) else (none)) else (if a2 = 0 then (if t270 = true then (if t274 = 20 then (some (t273 == 0)) else (none)) else (none)) else (if t270 = true then (if t274 = 0 then (if t273 = 0 then (if bt275.1 = bt277.1 then (some (bt275.2 == bt277.2)) else (none)) else (none)) else (none)) else (none)))))) = some r := H
  have A6 := Aside0.mk A60
  clear A60
  replace H := Option.bind_eq_some_iff.mp H
  obtain ⟨⟨t275, t276⟩, A70, H⟩ := H
  replace H : ((ratio_Cmp.f k (IntKind.u64.wrap ((IntKind.u64.wrap (a0)) * (IntKind.u64.wrap (a2)))) (IntKind.u64.wrap ((IntKind.u64.wrap (a1)) * (IntKind.u64.wrap (a2)))) a3_0 a3_1).bind fun bt277 => (if a1 = 0 then (if t270 = true then (if t274 = 20 then (some (t273 == 0)) else (none)) else (none)) else (if a2 = 0 then (if t270 = true then (if t274 = 20 then (some (t273 == 0)) else (none)) else (none)) else (if t270 = true then (if t274 = 0 then (if t273 = 0 then (if t275 = bt277.1 then (some (t276 == bt277.2)) else (none)) else (none)) else (none)) else (none))))) = some r := H
  have A7 := Aside0.mk A70
  clear A70
  replace H := Option.bind_eq_some_iff.mp H
  obtain ⟨⟨t277, t278⟩, A80, H⟩ := H
  replace H : (if a1 = 0 then (if t270 = true then (if t274 = 20 then (some (t273 == 0)) else (none)) else (none)) else (if a2 = 0 then (if t270 = true then (if t274 = 20 then (some (t273 == 0)) else (none)) else (none)) else (if t270 = true then (if t274 = 0 then (if t273 = 0 then (if t275 = t277 then (some (t276 == t278)) else (none)) else (none)) else (none)) else (none)))) = some r := H
  have A8 := Aside0.mk A80
  clear A80
  by_cases c9 : a1 = 0
  · rw [if_pos c9] at H
    have c9b0 : (a1 == 0) = true := beq_iff_eq.mpr c9
    have c9b1 : (a1 != 0) = false := bne_eq_false_iff_eq.mpr c9
    clear c9
    by_cases c10 : t270 = true
    · subst c10
      have H1 : (if t274 = 20 then (some (t273 == 0)) else (none)) = some r := by rw [if_pos rfl] at H; exact H
      clear H
      have H := H1
      clear H1
      by_cases c11 : t274 = 20
      · rw [if_pos c11] at H
        have c11b0 : (t274 == 20) = true := beq_iff_eq.mpr c11
        have c11b1 : (t274 != 20) = false := bne_eq_false_iff_eq.mpr c11
        clear c11
        obtain rfl := Option.some.inj H
        go_enter Try.func5, Try.ntmps5
        go_wp2_with (first | ((with_reducible refine gate_dst (N := 7) rfl ?_); refine box_event ?hg (N := 7) ?hd (cs := #[.int .u64 a3_0, .int .u64 a3_1]) (t := 24) ?hr ?_; (case hd => rfl); (case hg => rfl); (case hr => first | (go_simp; done) | (go_simp; rfl)); intro gb269 hg w12 hbox hb; have n0_ := Aside0.mk (below_step (by repeat (first | (with_reducible first | exact HB.out | apply below_alloc | apply pw_below_drewN | apply below_drew1) | exact HB.out)) hb); have n1_ := Aside0.mk (hbox); have n2_ := Aside0.mk ((by rw [hg]; exact (below_size (by repeat (first | (with_reducible first | exact HB.out | apply below_alloc | apply pw_below_drewN | apply below_drew1) | exact HB.out))) : w.heap.size ≤ gb269)); have n3_ := Aside0.mk ((by rw [hg]; exact (below_size (by repeat (first | (with_reducible first | exact HB.out | apply below_alloc | apply pw_below_drewN | apply below_drew1) | exact HB.out))) : w.heap.size ≤ gb269)); clear HB; have HB := n0_; have BK269 := n1_; have GW269 := n2_; have GE269 := n3_; clear n0_ n1_ n2_ n3_; clear hb hbox hg) | ((with_reducible refine gate_callee (f := 9) rfl ?_); refine goesL_ (some 18) rfl rfl Try.func9 (by kernel_rfl) rfl #[] rfl (by (try simp only [List.map_toArray, List.map_cons, List.map_nil]); first | done | rfl | (simp only [List.length_drop, List.length_take]; rfl)) ?_; (with_reducible refine (linhaylaw03_awake.calls k  true _ A5.out).mono ?_); rintro e w13 ⟨rfl, hb⟩; refine ⟨_, rfl, ?_⟩; have n0_ := Aside0.mk (blk_below (g := gb269) (o := .cells #[.int .u64 a3_0, .int .u64 a3_1] 24 (0, 0)) (by (with_reducible repeat (first | refine blk_drewN ?_ _ | refine blk_drew ?_ | refine blk_alloc ?_ _)); exact BK269.out) hb); have n1_ := Aside0.mk (below_step (by repeat (first | (with_reducible first | exact HB.out | apply below_alloc | apply pw_below_drewN | apply below_drew1 | refine below_set ?_ GE269.out) | exact HB.out)) hb); clear BK269; clear HB; have BK269 := n0_; have HB := n1_; clear n0_ n1_; (try clear hb); (try clear hb2); (try clear hk); (try clear hi)) | ((with_reducible refine gate_dst (N := 10) rfl ?_); refine box_event ?hg (N := 10) ?hd (cs := #[.int .u64 0, .int .u64 0]) (t := 24) ?hr ?_; (case hd => rfl); (case hg => rfl); (case hr => first | (go_simp; done) | (go_simp; rfl)); intro gb271 hg w14 hbox hb; have n0_ := Aside0.mk (blk_below (g := gb269) (o := .cells #[.int .u64 a3_0, .int .u64 a3_1] 24 (0, 0)) (by (with_reducible repeat (first | refine blk_drewN ?_ _ | refine blk_drew ?_ | refine blk_alloc ?_ _)); exact BK269.out) hb); have n1_ := Aside0.mk (below_step (by repeat (first | (with_reducible first | exact HB.out | apply below_alloc | apply pw_below_drewN | apply below_drew1 | refine below_set ?_ GE269.out) | exact HB.out)) hb); have n2_ := Aside0.mk (hbox); have n3_ := Aside0.mk ((by rw [hg]; exact (below_size (by repeat (first | (with_reducible first | exact HB.out | apply below_alloc | apply pw_below_drewN | apply below_drew1 | refine below_set ?_ GE269.out) | exact HB.out))) : w.heap.size ≤ gb271)); have n4_ := Aside0.mk ((by rw [hg]; exact (below_size (by repeat (first | (with_reducible first | exact HB.out | apply below_alloc | apply pw_below_drewN | apply below_drew1 | refine below_set ?_ GE269.out) | exact HB.out))) : w.heap.size ≤ gb271)); have n5_ := Aside0.mk ((by rw [hg]; exact Nat.ne_of_lt (blk_lt (g := gb269) (o := .cells #[.int .u64 a3_0, .int .u64 a3_1] 24 (0, 0)) (by (with_reducible repeat (first | refine blk_drewN ?_ _ | refine blk_drew ?_ | refine blk_alloc ?_ _)); exact BK269.out)) : gb269 ≠ gb271)); have n6_ := Aside0.mk ((by rw [hg]; exact Nat.ne_of_gt (blk_lt (g := gb269) (o := .cells #[.int .u64 a3_0, .int .u64 a3_1] 24 (0, 0)) (by (with_reducible repeat (first | refine blk_drewN ?_ _ | refine blk_drew ?_ | refine blk_alloc ?_ _)); exact BK269.out)) : gb271 ≠ gb269)); clear BK269; clear HB; have BK269 := n0_; have HB := n1_; have BK271 := n2_; have GW271 := n3_; have GE271 := n4_; have NB269_271 := n5_; have NB271_269 := n6_; clear n0_ n1_ n2_ n3_ n4_ n5_ n6_; clear hb hbox hg; have hnb15 := NB271_269.out; have hnc15 := NB269_271.out; have hcz16_0 : w14.cell? ⟨gb271, 0, none⟩ = some (.int .u64 0) := (blk_cell BK271.out 0).trans rfl; have hcz16_1 : w14.cell? ⟨gb271, 1, none⟩ = some (.int .u64 0) := (blk_cell BK271.out 1).trans rfl; have hfz16_0 := blk_frozen BK271.out 0; have hfz16_1 := blk_frozen BK271.out 1) | ((with_reducible refine gate_dst (N := 11) rfl ?_); refine box_event ?hg (N := 11) ?hd (cs := #[.int .u64 0, .int .u64 0]) (t := 24) ?hr ?_; (case hd => rfl); (case hg => rfl); (case hr => first | (go_simp; done) | (go_simp; rfl)); intro gb272 hg w17 hbox hb; have n0_ := Aside0.mk (blk_below (g := gb269) (o := .cells #[.int .u64 a3_0, .int .u64 a3_1] 24 (0, 0)) (by (with_reducible repeat (first | refine blk_drewN ?_ _ | refine blk_drew ?_ | refine blk_alloc ?_ _)); refine blk_far ?_ NB269_271.out _; (with_reducible repeat (first | refine blk_drewN ?_ _ | refine blk_drew ?_ | refine blk_alloc ?_ _)); refine blk_far ?_ NB269_271.out _; (with_reducible repeat (first | refine blk_drewN ?_ _ | refine blk_drew ?_ | refine blk_alloc ?_ _)); exact BK269.out) hb); have n1_ := Aside0.mk (blk_below (g := gb271) (o := .cells #[.int .u64 (IntKind.u64.wrap (a0)), .int .u64 (IntKind.u64.wrap (a1))] 24 (0, 0)) (by (with_reducible repeat (first | refine blk_drewN ?_ _ | refine blk_drew ?_ | refine blk_alloc ?_ _)); refine blk_put (cs := #[.int .u64 (IntKind.u64.wrap (a0)), .int .u64 0]) ?_ 1 _ rfl; (with_reducible repeat (first | refine blk_drewN ?_ _ | refine blk_drew ?_ | refine blk_alloc ?_ _)); refine blk_put (cs := #[.int .u64 0, .int .u64 0]) ?_ 0 _ rfl; (with_reducible repeat (first | refine blk_drewN ?_ _ | refine blk_drew ?_ | refine blk_alloc ?_ _)); exact BK271.out) hb); have n2_ := Aside0.mk (below_step (by repeat (first | (with_reducible first | exact HB.out | apply below_alloc | apply pw_below_drewN | apply below_drew1 | refine below_set ?_ GE269.out | refine below_set ?_ GE271.out) | exact HB.out)) hb); have n3_ := Aside0.mk (hbox); have n4_ := Aside0.mk ((by rw [hg]; exact (below_size (by repeat (first | (with_reducible first | exact HB.out | apply below_alloc | apply pw_below_drewN | apply below_drew1 | refine below_set ?_ GE269.out | refine below_set ?_ GE271.out) | exact HB.out))) : w.heap.size ≤ gb272)); have n5_ := Aside0.mk ((by rw [hg]; exact (below_size (by repeat (first | (with_reducible first | exact HB.out | apply below_alloc | apply pw_below_drewN | apply below_drew1 | refine below_set ?_ GE269.out | refine below_set ?_ GE271.out) | exact HB.out))) : w.heap.size ≤ gb272)); have n6_ := Aside0.mk ((by rw [hg]; exact Nat.ne_of_lt (blk_lt (g := gb269) (o := .cells #[.int .u64 a3_0, .int .u64 a3_1] 24 (0, 0)) (by (with_reducible repeat (first | refine blk_drewN ?_ _ | refine blk_drew ?_ | refine blk_alloc ?_ _)); refine blk_far ?_ NB269_271.out _; (with_reducible repeat (first | refine blk_drewN ?_ _ | refine blk_drew ?_ | refine blk_alloc ?_ _)); refine blk_far ?_ NB269_271.out _; (with_reducible repeat (first | refine blk_drewN ?_ _ | refine blk_drew ?_ | refine blk_alloc ?_ _)); exact BK269.out)) : gb269 ≠ gb272)); have n7_ := Aside0.mk ((by rw [hg]; exact Nat.ne_of_gt (blk_lt (g := gb269) (o := .cells #[.int .u64 a3_0, .int .u64 a3_1] 24 (0, 0)) (by (with_reducible repeat (first | refine blk_drewN ?_ _ | refine blk_drew ?_ | refine blk_alloc ?_ _)); refine blk_far ?_ NB269_271.out _; (with_reducible repeat (first | refine blk_drewN ?_ _ | refine blk_drew ?_ | refine blk_alloc ?_ _)); refine blk_far ?_ NB269_271.out _; (with_reducible repeat (first | refine blk_drewN ?_ _ | refine blk_drew ?_ | refine blk_alloc ?_ _)); exact BK269.out)) : gb272 ≠ gb269)); have n8_ := Aside0.mk ((by rw [hg]; exact Nat.ne_of_lt (blk_lt (g := gb271) (o := .cells #[.int .u64 (IntKind.u64.wrap (a0)), .int .u64 (IntKind.u64.wrap (a1))] 24 (0, 0)) (by (with_reducible repeat (first | refine blk_drewN ?_ _ | refine blk_drew ?_ | refine blk_alloc ?_ _)); refine blk_put (cs := #[.int .u64 (IntKind.u64.wrap (a0)), .int .u64 0]) ?_ 1 _ rfl; (with_reducible repeat (first | refine blk_drewN ?_ _ | refine blk_drew ?_ | refine blk_alloc ?_ _)); refine blk_put (cs := #[.int .u64 0, .int .u64 0]) ?_ 0 _ rfl; (with_reducible repeat (first | refine blk_drewN ?_ _ | refine blk_drew ?_ | refine blk_alloc ?_ _)); exact BK271.out)) : gb271 ≠ gb272)); have n9_ := Aside0.mk ((by rw [hg]; exact Nat.ne_of_gt (blk_lt (g := gb271) (o := .cells #[.int .u64 (IntKind.u64.wrap (a0)), .int .u64 (IntKind.u64.wrap (a1))] 24 (0, 0)) (by (with_reducible repeat (first | refine blk_drewN ?_ _ | refine blk_drew ?_ | refine blk_alloc ?_ _)); refine blk_put (cs := #[.int .u64 (IntKind.u64.wrap (a0)), .int .u64 0]) ?_ 1 _ rfl; (with_reducible repeat (first | refine blk_drewN ?_ _ | refine blk_drew ?_ | refine blk_alloc ?_ _)); refine blk_put (cs := #[.int .u64 0, .int .u64 0]) ?_ 0 _ rfl; (with_reducible repeat (first | refine blk_drewN ?_ _ | refine blk_drew ?_ | refine blk_alloc ?_ _)); exact BK271.out)) : gb272 ≠ gb271)); clear BK269; clear BK271; clear HB; have BK269 := n0_; have BK271 := n1_; have HB := n2_; have BK272 := n3_; have GW272 := n4_; have GE272 := n5_; have NB269_272 := n6_; have NB272_269 := n7_; have NB271_272 := n8_; have NB272_271 := n9_; clear n0_ n1_ n2_ n3_ n4_ n5_ n6_ n7_ n8_ n9_; clear hb hbox hg; have hnb18 := NB272_269.out; have hnc18 := NB269_272.out; have hnb19 := NB272_271.out; have hnc19 := NB271_272.out; have hcz20_0 : w17.cell? ⟨gb272, 0, none⟩ = some (.int .u64 0) := (blk_cell BK272.out 0).trans rfl; have hcz20_1 : w17.cell? ⟨gb272, 1, none⟩ = some (.int .u64 0) := (blk_cell BK272.out 1).trans rfl; have hfz20_0 := blk_frozen BK272.out 0; have hfz20_1 := blk_frozen BK272.out 1; have hcz21_0 : w17.cell? ⟨gb271, 0, none⟩ = some (.int .u64 (IntKind.u64.wrap (a0))) := (blk_cell BK271.out 0).trans rfl; have hcz21_1 : w17.cell? ⟨gb271, 1, none⟩ = some (.int .u64 (IntKind.u64.wrap (a1))) := (blk_cell BK271.out 1).trans rfl; have hfz21_0 := blk_frozen BK271.out 0; have hfz21_1 := blk_frozen BK271.out 1) | ((with_reducible refine gate_callee (f := 10) rfl ?_); refine goesL_ (some 38) rfl rfl Try.func10 (by kernel_rfl) rfl #[.agg #[.int .u64 (IntKind.u64.wrap (a0)), .int .u64 (IntKind.u64.wrap (a1))], .agg #[.int .u64 (IntKind.u64.wrap ((IntKind.u64.wrap (a0)) * (IntKind.u64.wrap (a2)))), .int .u64 (IntKind.u64.wrap ((IntKind.u64.wrap (a1)) * (IntKind.u64.wrap (a2))))]] rfl (by (try simp only [List.map_toArray, List.map_cons, List.map_nil]); first | done | rfl | (simp only [List.length_drop, List.length_take]; rfl)) ?_; (with_reducible refine (ratio_Cmp.calls k (IntKind.u64.wrap (a0)) (IntKind.u64.wrap (a1)) (IntKind.u64.wrap ((IntKind.u64.wrap (a0)) * (IntKind.u64.wrap (a2)))) (IntKind.u64.wrap ((IntKind.u64.wrap (a1)) * (IntKind.u64.wrap (a2)))) t273 t274 _ A6.out).mono ?_); rintro e w22 ⟨rfl, hb⟩; refine ⟨_, rfl, ?_⟩; have n0_ := Aside0.mk (blk_below (g := gb269) (o := .cells #[.int .u64 a3_0, .int .u64 a3_1] 24 (0, 0)) (by (with_reducible repeat (first | refine blk_drewN ?_ _ | refine blk_drew ?_ | refine blk_alloc ?_ _)); refine blk_far ?_ NB269_272.out _; (with_reducible repeat (first | refine blk_drewN ?_ _ | refine blk_drew ?_ | refine blk_alloc ?_ _)); refine blk_far ?_ NB269_272.out _; (with_reducible repeat (first | refine blk_drewN ?_ _ | refine blk_drew ?_ | refine blk_alloc ?_ _)); exact BK269.out) hb); have n1_ := Aside0.mk (blk_below (g := gb271) (o := .cells #[.int .u64 (IntKind.u64.wrap (a0)), .int .u64 (IntKind.u64.wrap (a1))] 24 (0, 0)) (by (with_reducible repeat (first | refine blk_drewN ?_ _ | refine blk_drew ?_ | refine blk_alloc ?_ _)); refine blk_far ?_ NB271_272.out _; (with_reducible repeat (first | refine blk_drewN ?_ _ | refine blk_drew ?_ | refine blk_alloc ?_ _)); refine blk_far ?_ NB271_272.out _; (with_reducible repeat (first | refine blk_drewN ?_ _ | refine blk_drew ?_ | refine blk_alloc ?_ _)); exact BK271.out) hb); have n2_ := Aside0.mk (blk_below (g := gb272) (o := .cells #[.int .u64 (IntKind.u64.wrap ((IntKind.u64.wrap (a0)) * (IntKind.u64.wrap (a2)))), .int .u64 (IntKind.u64.wrap ((IntKind.u64.wrap (a1)) * (IntKind.u64.wrap (a2))))] 24 (0, 0)) (by (with_reducible repeat (first | refine blk_drewN ?_ _ | refine blk_drew ?_ | refine blk_alloc ?_ _)); refine blk_put (cs := #[.int .u64 (IntKind.u64.wrap ((IntKind.u64.wrap (a0)) * (IntKind.u64.wrap (a2)))), .int .u64 0]) ?_ 1 _ rfl; (with_reducible repeat (first | refine blk_drewN ?_ _ | refine blk_drew ?_ | refine blk_alloc ?_ _)); refine blk_put (cs := #[.int .u64 0, .int .u64 0]) ?_ 0 _ rfl; (with_reducible repeat (first | refine blk_drewN ?_ _ | refine blk_drew ?_ | refine blk_alloc ?_ _)); exact BK272.out) hb); have n3_ := Aside0.mk (below_step (by repeat (first | (with_reducible first | exact HB.out | apply below_alloc | apply pw_below_drewN | apply below_drew1 | refine below_set ?_ GE269.out | refine below_set ?_ GE271.out | refine below_set ?_ GE272.out) | exact HB.out)) hb); clear BK269; clear BK271; clear BK272; clear HB; have BK269 := n0_; have BK271 := n1_; have BK272 := n2_; have HB := n3_; clear n0_ n1_ n2_ n3_; (try clear hb); (try clear hb2); (try clear hk); (try clear hi); have hcz23_0 : w22.cell? ⟨gb271, 0, none⟩ = some (.int .u64 (IntKind.u64.wrap (a0))) := (blk_cell BK271.out 0).trans rfl; have hcz23_1 : w22.cell? ⟨gb271, 1, none⟩ = some (.int .u64 (IntKind.u64.wrap (a1))) := (blk_cell BK271.out 1).trans rfl; have hfz23_0 := blk_frozen BK271.out 0; have hfz23_1 := blk_frozen BK271.out 1; have hcz24_0 : w22.cell? ⟨gb269, 0, none⟩ = some (.int .u64 a3_0) := (blk_cell BK269.out 0).trans rfl; have hcz24_1 : w22.cell? ⟨gb269, 1, none⟩ = some (.int .u64 a3_1) := (blk_cell BK269.out 1).trans rfl; have hfz24_0 := blk_frozen BK269.out 0; have hfz24_1 := blk_frozen BK269.out 1) | ((with_reducible refine gate_callee (f := 10) rfl ?_); refine goesL_ (some 44) rfl rfl Try.func10 (by kernel_rfl) rfl #[.agg #[.int .u64 (IntKind.u64.wrap (a0)), .int .u64 (IntKind.u64.wrap (a1))], .agg #[.int .u64 a3_0, .int .u64 a3_1]] rfl (by (try simp only [List.map_toArray, List.map_cons, List.map_nil]); first | done | rfl | (simp only [List.length_drop, List.length_take]; rfl)) ?_; (with_reducible refine (ratio_Cmp.calls k (IntKind.u64.wrap (a0)) (IntKind.u64.wrap (a1)) a3_0 a3_1 t275 t276 _ A7.out).mono ?_); rintro e w25 ⟨rfl, hb⟩; refine ⟨_, rfl, ?_⟩; have n0_ := Aside0.mk (blk_below (g := gb269) (o := .cells #[.int .u64 a3_0, .int .u64 a3_1] 24 (0, 0)) (by (with_reducible repeat (first | refine blk_drewN ?_ _ | refine blk_drew ?_ | refine blk_alloc ?_ _)); exact BK269.out) hb); have n1_ := Aside0.mk (blk_below (g := gb271) (o := .cells #[.int .u64 (IntKind.u64.wrap (a0)), .int .u64 (IntKind.u64.wrap (a1))] 24 (0, 0)) (by (with_reducible repeat (first | refine blk_drewN ?_ _ | refine blk_drew ?_ | refine blk_alloc ?_ _)); exact BK271.out) hb); have n2_ := Aside0.mk (blk_below (g := gb272) (o := .cells #[.int .u64 (IntKind.u64.wrap ((IntKind.u64.wrap (a0)) * (IntKind.u64.wrap (a2)))), .int .u64 (IntKind.u64.wrap ((IntKind.u64.wrap (a1)) * (IntKind.u64.wrap (a2))))] 24 (0, 0)) (by (with_reducible repeat (first | refine blk_drewN ?_ _ | refine blk_drew ?_ | refine blk_alloc ?_ _)); exact BK272.out) hb); have n3_ := Aside0.mk (below_step (by repeat (first | (with_reducible first | exact HB.out | apply below_alloc | apply pw_below_drewN | apply below_drew1 | refine below_set ?_ GE269.out | refine below_set ?_ GE271.out | refine below_set ?_ GE272.out) | exact HB.out)) hb); clear BK269; clear BK271; clear BK272; clear HB; have BK269 := n0_; have BK271 := n1_; have BK272 := n2_; have HB := n3_; clear n0_ n1_ n2_ n3_; (try clear hb); (try clear hb2); (try clear hk); (try clear hi); have hcz26_0 : w25.cell? ⟨gb272, 0, none⟩ = some (.int .u64 (IntKind.u64.wrap ((IntKind.u64.wrap (a0)) * (IntKind.u64.wrap (a2))))) := (blk_cell BK272.out 0).trans rfl; have hcz26_1 : w25.cell? ⟨gb272, 1, none⟩ = some (.int .u64 (IntKind.u64.wrap ((IntKind.u64.wrap (a1)) * (IntKind.u64.wrap (a2))))) := (blk_cell BK272.out 1).trans rfl; have hfz26_0 := blk_frozen BK272.out 0; have hfz26_1 := blk_frozen BK272.out 1; have hcz27_0 : w25.cell? ⟨gb269, 0, none⟩ = some (.int .u64 a3_0) := (blk_cell BK269.out 0).trans rfl; have hcz27_1 : w25.cell? ⟨gb269, 1, none⟩ = some (.int .u64 a3_1) := (blk_cell BK269.out 1).trans rfl; have hfz27_0 := blk_frozen BK269.out 0; have hfz27_1 := blk_frozen BK269.out 1) | ((with_reducible refine gate_callee (f := 10) rfl ?_); refine goesL_ (some 50) rfl rfl Try.func10 (by kernel_rfl) rfl #[.agg #[.int .u64 (IntKind.u64.wrap ((IntKind.u64.wrap (a0)) * (IntKind.u64.wrap (a2)))), .int .u64 (IntKind.u64.wrap ((IntKind.u64.wrap (a1)) * (IntKind.u64.wrap (a2))))], .agg #[.int .u64 a3_0, .int .u64 a3_1]] rfl (by (try simp only [List.map_toArray, List.map_cons, List.map_nil]); first | done | rfl | (simp only [List.length_drop, List.length_take]; rfl)) ?_; (with_reducible refine (ratio_Cmp.calls k (IntKind.u64.wrap ((IntKind.u64.wrap (a0)) * (IntKind.u64.wrap (a2)))) (IntKind.u64.wrap ((IntKind.u64.wrap (a1)) * (IntKind.u64.wrap (a2)))) a3_0 a3_1 t277 t278 _ A8.out).mono ?_); rintro e w28 ⟨rfl, hb⟩; refine ⟨_, rfl, ?_⟩; have n0_ := Aside0.mk (blk_below (g := gb269) (o := .cells #[.int .u64 a3_0, .int .u64 a3_1] 24 (0, 0)) (by (with_reducible repeat (first | refine blk_drewN ?_ _ | refine blk_drew ?_ | refine blk_alloc ?_ _)); exact BK269.out) hb); have n1_ := Aside0.mk (blk_below (g := gb271) (o := .cells #[.int .u64 (IntKind.u64.wrap (a0)), .int .u64 (IntKind.u64.wrap (a1))] 24 (0, 0)) (by (with_reducible repeat (first | refine blk_drewN ?_ _ | refine blk_drew ?_ | refine blk_alloc ?_ _)); exact BK271.out) hb); have n2_ := Aside0.mk (blk_below (g := gb272) (o := .cells #[.int .u64 (IntKind.u64.wrap ((IntKind.u64.wrap (a0)) * (IntKind.u64.wrap (a2)))), .int .u64 (IntKind.u64.wrap ((IntKind.u64.wrap (a1)) * (IntKind.u64.wrap (a2))))] 24 (0, 0)) (by (with_reducible repeat (first | refine blk_drewN ?_ _ | refine blk_drew ?_ | refine blk_alloc ?_ _)); exact BK272.out) hb); have n3_ := Aside0.mk (below_step (by repeat (first | (with_reducible first | exact HB.out | apply below_alloc | apply pw_below_drewN | apply below_drew1 | refine below_set ?_ GE269.out | refine below_set ?_ GE271.out | refine below_set ?_ GE272.out) | exact HB.out)) hb); clear BK269; clear BK271; clear BK272; clear HB; have BK269 := n0_; have BK271 := n1_; have BK272 := n2_; have HB := n3_; clear n0_ n1_ n2_ n3_; (try clear hb); (try clear hb2); (try clear hk); (try clear hi)) | (go_at_call 9; (with_reducible refine (linhaylaw03_awake.calls k  true _ A5.out).mono ?_); rintro e w13 ⟨rfl, hb⟩; have n0_ := Aside0.mk (blk_below (g := gb269) (o := .cells #[.int .u64 a3_0, .int .u64 a3_1] 24 (0, 0)) (by (with_reducible repeat (first | refine blk_drewN ?_ _ | refine blk_drew ?_ | refine blk_alloc ?_ _)); exact BK269.out) hb); have n1_ := Aside0.mk (below_step (by repeat (first | (with_reducible first | exact HB.out | apply below_alloc | apply pw_below_drewN | apply below_drew1 | refine below_set ?_ GE269.out) | exact HB.out)) hb); clear BK269; clear HB; have BK269 := n0_; have HB := n1_; clear n0_ n1_; (try clear hb); (try clear hb2); (try clear hk); (try clear hi)) | (go_at_call 10; (with_reducible refine (ratio_Cmp.calls k (IntKind.u64.wrap (a0)) (IntKind.u64.wrap (a1)) (IntKind.u64.wrap ((IntKind.u64.wrap (a0)) * (IntKind.u64.wrap (a2)))) (IntKind.u64.wrap ((IntKind.u64.wrap (a1)) * (IntKind.u64.wrap (a2)))) t273 t274 _ A6.out).mono ?_); rintro e w22 ⟨rfl, hb⟩; have n0_ := Aside0.mk (blk_below (g := gb269) (o := .cells #[.int .u64 a3_0, .int .u64 a3_1] 24 (0, 0)) (by (with_reducible repeat (first | refine blk_drewN ?_ _ | refine blk_drew ?_ | refine blk_alloc ?_ _)); refine blk_far ?_ NB269_272.out _; (with_reducible repeat (first | refine blk_drewN ?_ _ | refine blk_drew ?_ | refine blk_alloc ?_ _)); refine blk_far ?_ NB269_272.out _; (with_reducible repeat (first | refine blk_drewN ?_ _ | refine blk_drew ?_ | refine blk_alloc ?_ _)); exact BK269.out) hb); have n1_ := Aside0.mk (blk_below (g := gb271) (o := .cells #[.int .u64 (IntKind.u64.wrap (a0)), .int .u64 (IntKind.u64.wrap (a1))] 24 (0, 0)) (by (with_reducible repeat (first | refine blk_drewN ?_ _ | refine blk_drew ?_ | refine blk_alloc ?_ _)); refine blk_far ?_ NB271_272.out _; (with_reducible repeat (first | refine blk_drewN ?_ _ | refine blk_drew ?_ | refine blk_alloc ?_ _)); refine blk_far ?_ NB271_272.out _; (with_reducible repeat (first | refine blk_drewN ?_ _ | refine blk_drew ?_ | refine blk_alloc ?_ _)); exact BK271.out) hb); have n2_ := Aside0.mk (blk_below (g := gb272) (o := .cells #[.int .u64 (IntKind.u64.wrap ((IntKind.u64.wrap (a0)) * (IntKind.u64.wrap (a2)))), .int .u64 (IntKind.u64.wrap ((IntKind.u64.wrap (a1)) * (IntKind.u64.wrap (a2))))] 24 (0, 0)) (by (with_reducible repeat (first | refine blk_drewN ?_ _ | refine blk_drew ?_ | refine blk_alloc ?_ _)); refine blk_put (cs := #[.int .u64 (IntKind.u64.wrap ((IntKind.u64.wrap (a0)) * (IntKind.u64.wrap (a2)))), .int .u64 0]) ?_ 1 _ rfl; (with_reducible repeat (first | refine blk_drewN ?_ _ | refine blk_drew ?_ | refine blk_alloc ?_ _)); refine blk_put (cs := #[.int .u64 0, .int .u64 0]) ?_ 0 _ rfl; (with_reducible repeat (first | refine blk_drewN ?_ _ | refine blk_drew ?_ | refine blk_alloc ?_ _)); exact BK272.out) hb); have n3_ := Aside0.mk (below_step (by repeat (first | (with_reducible first | exact HB.out | apply below_alloc | apply pw_below_drewN | apply below_drew1 | refine below_set ?_ GE269.out | refine below_set ?_ GE271.out | refine below_set ?_ GE272.out) | exact HB.out)) hb); clear BK269; clear BK271; clear BK272; clear HB; have BK269 := n0_; have BK271 := n1_; have BK272 := n2_; have HB := n3_; clear n0_ n1_ n2_ n3_; (try clear hb); (try clear hb2); (try clear hk); (try clear hi); have hcz23_0 : w22.cell? ⟨gb271, 0, none⟩ = some (.int .u64 (IntKind.u64.wrap (a0))) := (blk_cell BK271.out 0).trans rfl; have hcz23_1 : w22.cell? ⟨gb271, 1, none⟩ = some (.int .u64 (IntKind.u64.wrap (a1))) := (blk_cell BK271.out 1).trans rfl; have hfz23_0 := blk_frozen BK271.out 0; have hfz23_1 := blk_frozen BK271.out 1; have hcz24_0 : w22.cell? ⟨gb269, 0, none⟩ = some (.int .u64 a3_0) := (blk_cell BK269.out 0).trans rfl; have hcz24_1 : w22.cell? ⟨gb269, 1, none⟩ = some (.int .u64 a3_1) := (blk_cell BK269.out 1).trans rfl; have hfz24_0 := blk_frozen BK269.out 0; have hfz24_1 := blk_frozen BK269.out 1) | (go_at_call 10; (with_reducible refine (ratio_Cmp.calls k (IntKind.u64.wrap (a0)) (IntKind.u64.wrap (a1)) a3_0 a3_1 t275 t276 _ A7.out).mono ?_); rintro e w25 ⟨rfl, hb⟩; have n0_ := Aside0.mk (blk_below (g := gb269) (o := .cells #[.int .u64 a3_0, .int .u64 a3_1] 24 (0, 0)) (by (with_reducible repeat (first | refine blk_drewN ?_ _ | refine blk_drew ?_ | refine blk_alloc ?_ _)); exact BK269.out) hb); have n1_ := Aside0.mk (blk_below (g := gb271) (o := .cells #[.int .u64 (IntKind.u64.wrap (a0)), .int .u64 (IntKind.u64.wrap (a1))] 24 (0, 0)) (by (with_reducible repeat (first | refine blk_drewN ?_ _ | refine blk_drew ?_ | refine blk_alloc ?_ _)); exact BK271.out) hb); have n2_ := Aside0.mk (blk_below (g := gb272) (o := .cells #[.int .u64 (IntKind.u64.wrap ((IntKind.u64.wrap (a0)) * (IntKind.u64.wrap (a2)))), .int .u64 (IntKind.u64.wrap ((IntKind.u64.wrap (a1)) * (IntKind.u64.wrap (a2))))] 24 (0, 0)) (by (with_reducible repeat (first | refine blk_drewN ?_ _ | refine blk_drew ?_ | refine blk_alloc ?_ _)); exact BK272.out) hb); have n3_ := Aside0.mk (below_step (by repeat (first | (with_reducible first | exact HB.out | apply below_alloc | apply pw_below_drewN | apply below_drew1 | refine below_set ?_ GE269.out | refine below_set ?_ GE271.out | refine below_set ?_ GE272.out) | exact HB.out)) hb); clear BK269; clear BK271; clear BK272; clear HB; have BK269 := n0_; have BK271 := n1_; have BK272 := n2_; have HB := n3_; clear n0_ n1_ n2_ n3_; (try clear hb); (try clear hb2); (try clear hk); (try clear hi); have hcz26_0 : w25.cell? ⟨gb272, 0, none⟩ = some (.int .u64 (IntKind.u64.wrap ((IntKind.u64.wrap (a0)) * (IntKind.u64.wrap (a2))))) := (blk_cell BK272.out 0).trans rfl; have hcz26_1 : w25.cell? ⟨gb272, 1, none⟩ = some (.int .u64 (IntKind.u64.wrap ((IntKind.u64.wrap (a1)) * (IntKind.u64.wrap (a2))))) := (blk_cell BK272.out 1).trans rfl; have hfz26_0 := blk_frozen BK272.out 0; have hfz26_1 := blk_frozen BK272.out 1; have hcz27_0 : w25.cell? ⟨gb269, 0, none⟩ = some (.int .u64 a3_0) := (blk_cell BK269.out 0).trans rfl; have hcz27_1 : w25.cell? ⟨gb269, 1, none⟩ = some (.int .u64 a3_1) := (blk_cell BK269.out 1).trans rfl; have hfz27_0 := blk_frozen BK269.out 0; have hfz27_1 := blk_frozen BK269.out 1) | (go_at_call 10; (with_reducible refine (ratio_Cmp.calls k (IntKind.u64.wrap ((IntKind.u64.wrap (a0)) * (IntKind.u64.wrap (a2)))) (IntKind.u64.wrap ((IntKind.u64.wrap (a1)) * (IntKind.u64.wrap (a2)))) a3_0 a3_1 t277 t278 _ A8.out).mono ?_); rintro e w28 ⟨rfl, hb⟩; have n0_ := Aside0.mk (blk_below (g := gb269) (o := .cells #[.int .u64 a3_0, .int .u64 a3_1] 24 (0, 0)) (by (with_reducible repeat (first | refine blk_drewN ?_ _ | refine blk_drew ?_ | refine blk_alloc ?_ _)); exact BK269.out) hb); have n1_ := Aside0.mk (blk_below (g := gb271) (o := .cells #[.int .u64 (IntKind.u64.wrap (a0)), .int .u64 (IntKind.u64.wrap (a1))] 24 (0, 0)) (by (with_reducible repeat (first | refine blk_drewN ?_ _ | refine blk_drew ?_ | refine blk_alloc ?_ _)); exact BK271.out) hb); have n2_ := Aside0.mk (blk_below (g := gb272) (o := .cells #[.int .u64 (IntKind.u64.wrap ((IntKind.u64.wrap (a0)) * (IntKind.u64.wrap (a2)))), .int .u64 (IntKind.u64.wrap ((IntKind.u64.wrap (a1)) * (IntKind.u64.wrap (a2))))] 24 (0, 0)) (by (with_reducible repeat (first | refine blk_drewN ?_ _ | refine blk_drew ?_ | refine blk_alloc ?_ _)); exact BK272.out) hb); have n3_ := Aside0.mk (below_step (by repeat (first | (with_reducible first | exact HB.out | apply below_alloc | apply pw_below_drewN | apply below_drew1 | refine below_set ?_ GE269.out | refine below_set ?_ GE271.out | refine below_set ?_ GE272.out) | exact HB.out)) hb); clear BK269; clear BK271; clear BK272; clear HB; have BK269 := n0_; have BK271 := n1_; have BK272 := n2_; have HB := n3_; clear n0_ n1_ n2_ n3_; (try clear hb); (try clear hb2); (try clear hk); (try clear hi)))
        go_ret
        exact ⟨by first | rfl | (simp [errW_none, errW_some] <;> rfl) | (simp [*, errW_none, errW_some] <;> rfl), by repeat (first | (with_reducible first | exact HB.out | apply below_alloc | apply pw_below_drewN | apply below_drew1 | refine below_set ?_ GE269.out | refine below_set ?_ GE271.out | refine below_set ?_ GE272.out) | exact HB.out)⟩
      · rw [if_neg c11] at H
        exact absurd H (by simp)
    · replace c10 := Bool.eq_false_iff.mpr c10
      subst c10
      have H1 : (none) = some r := by rw [if_neg (show ¬ (false = true) by decide)] at H; exact H
      clear H
      have H := H1
      clear H1
      exact absurd H (by simp)
  · rw [if_neg c9] at H
    have c9b0 : (a1 == 0) = false := beq_eq_false_iff_ne.mpr c9
    have c9b1 : (a1 != 0) = true := bne_iff_ne.mpr c9
    by_cases c29 : a2 = 0
    · rw [if_pos c29] at H
      have c29b0 : (a2 == 0) = true := beq_iff_eq.mpr c29
      have c29b1 : (a2 != 0) = false := bne_eq_false_iff_eq.mpr c29
      clear c29
      by_cases c30 : t270 = true
      · subst c30
        have H1 : (if t274 = 20 then (some (t273 == 0)) else (none)) = some r := by rw [if_pos rfl] at H; exact H
        clear H
        have H := H1
        clear H1
        by_cases c31 : t274 = 20
        · rw [if_pos c31] at H
          have c31b0 : (t274 == 20) = true := beq_iff_eq.mpr c31
          have c31b1 : (t274 != 20) = false := bne_eq_false_iff_eq.mpr c31
          clear c31
          obtain rfl := Option.some.inj H
          go_enter Try.func5, Try.ntmps5
          go_wp2_with (first | ((with_reducible refine gate_dst (N := 7) rfl ?_); refine box_event ?hg (N := 7) ?hd (cs := #[.int .u64 a3_0, .int .u64 a3_1]) (t := 24) ?hr ?_; (case hd => rfl); (case hg => rfl); (case hr => first | (go_simp; done) | (go_simp; rfl)); intro gb269 hg w32 hbox hb; have n0_ := Aside0.mk (below_step (by repeat (first | (with_reducible first | exact HB.out | apply below_alloc | apply pw_below_drewN | apply below_drew1) | exact HB.out)) hb); have n1_ := Aside0.mk (hbox); have n2_ := Aside0.mk ((by rw [hg]; exact (below_size (by repeat (first | (with_reducible first | exact HB.out | apply below_alloc | apply pw_below_drewN | apply below_drew1) | exact HB.out))) : w.heap.size ≤ gb269)); have n3_ := Aside0.mk ((by rw [hg]; exact (below_size (by repeat (first | (with_reducible first | exact HB.out | apply below_alloc | apply pw_below_drewN | apply below_drew1) | exact HB.out))) : w.heap.size ≤ gb269)); clear HB; have HB := n0_; have BK269 := n1_; have GW269 := n2_; have GE269 := n3_; clear n0_ n1_ n2_ n3_; clear hb hbox hg) | ((with_reducible refine gate_callee (f := 9) rfl ?_); refine goesL_ (some 18) rfl rfl Try.func9 (by kernel_rfl) rfl #[] rfl (by (try simp only [List.map_toArray, List.map_cons, List.map_nil]); first | done | rfl | (simp only [List.length_drop, List.length_take]; rfl)) ?_; (with_reducible refine (linhaylaw03_awake.calls k  true _ A5.out).mono ?_); rintro e w33 ⟨rfl, hb⟩; refine ⟨_, rfl, ?_⟩; have n0_ := Aside0.mk (blk_below (g := gb269) (o := .cells #[.int .u64 a3_0, .int .u64 a3_1] 24 (0, 0)) (by (with_reducible repeat (first | refine blk_drewN ?_ _ | refine blk_drew ?_ | refine blk_alloc ?_ _)); exact BK269.out) hb); have n1_ := Aside0.mk (below_step (by repeat (first | (with_reducible first | exact HB.out | apply below_alloc | apply pw_below_drewN | apply below_drew1 | refine below_set ?_ GE269.out) | exact HB.out)) hb); clear BK269; clear HB; have BK269 := n0_; have HB := n1_; clear n0_ n1_; (try clear hb); (try clear hb2); (try clear hk); (try clear hi)) | ((with_reducible refine gate_dst (N := 10) rfl ?_); refine box_event ?hg (N := 10) ?hd (cs := #[.int .u64 0, .int .u64 0]) (t := 24) ?hr ?_; (case hd => rfl); (case hg => rfl); (case hr => first | (go_simp; done) | (go_simp; rfl)); intro gb271 hg w34 hbox hb; have n0_ := Aside0.mk (blk_below (g := gb269) (o := .cells #[.int .u64 a3_0, .int .u64 a3_1] 24 (0, 0)) (by (with_reducible repeat (first | refine blk_drewN ?_ _ | refine blk_drew ?_ | refine blk_alloc ?_ _)); exact BK269.out) hb); have n1_ := Aside0.mk (below_step (by repeat (first | (with_reducible first | exact HB.out | apply below_alloc | apply pw_below_drewN | apply below_drew1 | refine below_set ?_ GE269.out) | exact HB.out)) hb); have n2_ := Aside0.mk (hbox); have n3_ := Aside0.mk ((by rw [hg]; exact (below_size (by repeat (first | (with_reducible first | exact HB.out | apply below_alloc | apply pw_below_drewN | apply below_drew1 | refine below_set ?_ GE269.out) | exact HB.out))) : w.heap.size ≤ gb271)); have n4_ := Aside0.mk ((by rw [hg]; exact (below_size (by repeat (first | (with_reducible first | exact HB.out | apply below_alloc | apply pw_below_drewN | apply below_drew1 | refine below_set ?_ GE269.out) | exact HB.out))) : w.heap.size ≤ gb271)); have n5_ := Aside0.mk ((by rw [hg]; exact Nat.ne_of_lt (blk_lt (g := gb269) (o := .cells #[.int .u64 a3_0, .int .u64 a3_1] 24 (0, 0)) (by (with_reducible repeat (first | refine blk_drewN ?_ _ | refine blk_drew ?_ | refine blk_alloc ?_ _)); exact BK269.out)) : gb269 ≠ gb271)); have n6_ := Aside0.mk ((by rw [hg]; exact Nat.ne_of_gt (blk_lt (g := gb269) (o := .cells #[.int .u64 a3_0, .int .u64 a3_1] 24 (0, 0)) (by (with_reducible repeat (first | refine blk_drewN ?_ _ | refine blk_drew ?_ | refine blk_alloc ?_ _)); exact BK269.out)) : gb271 ≠ gb269)); clear BK269; clear HB; have BK269 := n0_; have HB := n1_; have BK271 := n2_; have GW271 := n3_; have GE271 := n4_; have NB269_271 := n5_; have NB271_269 := n6_; clear n0_ n1_ n2_ n3_ n4_ n5_ n6_; clear hb hbox hg; have hnb35 := NB271_269.out; have hnc35 := NB269_271.out; have hcz36_0 : w34.cell? ⟨gb271, 0, none⟩ = some (.int .u64 0) := (blk_cell BK271.out 0).trans rfl; have hcz36_1 : w34.cell? ⟨gb271, 1, none⟩ = some (.int .u64 0) := (blk_cell BK271.out 1).trans rfl; have hfz36_0 := blk_frozen BK271.out 0; have hfz36_1 := blk_frozen BK271.out 1) | ((with_reducible refine gate_dst (N := 11) rfl ?_); refine box_event ?hg (N := 11) ?hd (cs := #[.int .u64 0, .int .u64 0]) (t := 24) ?hr ?_; (case hd => rfl); (case hg => rfl); (case hr => first | (go_simp; done) | (go_simp; rfl)); intro gb272 hg w37 hbox hb; have n0_ := Aside0.mk (blk_below (g := gb269) (o := .cells #[.int .u64 a3_0, .int .u64 a3_1] 24 (0, 0)) (by (with_reducible repeat (first | refine blk_drewN ?_ _ | refine blk_drew ?_ | refine blk_alloc ?_ _)); refine blk_far ?_ NB269_271.out _; (with_reducible repeat (first | refine blk_drewN ?_ _ | refine blk_drew ?_ | refine blk_alloc ?_ _)); refine blk_far ?_ NB269_271.out _; (with_reducible repeat (first | refine blk_drewN ?_ _ | refine blk_drew ?_ | refine blk_alloc ?_ _)); exact BK269.out) hb); have n1_ := Aside0.mk (blk_below (g := gb271) (o := .cells #[.int .u64 (IntKind.u64.wrap (a0)), .int .u64 (IntKind.u64.wrap (a1))] 24 (0, 0)) (by (with_reducible repeat (first | refine blk_drewN ?_ _ | refine blk_drew ?_ | refine blk_alloc ?_ _)); refine blk_put (cs := #[.int .u64 (IntKind.u64.wrap (a0)), .int .u64 0]) ?_ 1 _ rfl; (with_reducible repeat (first | refine blk_drewN ?_ _ | refine blk_drew ?_ | refine blk_alloc ?_ _)); refine blk_put (cs := #[.int .u64 0, .int .u64 0]) ?_ 0 _ rfl; (with_reducible repeat (first | refine blk_drewN ?_ _ | refine blk_drew ?_ | refine blk_alloc ?_ _)); exact BK271.out) hb); have n2_ := Aside0.mk (below_step (by repeat (first | (with_reducible first | exact HB.out | apply below_alloc | apply pw_below_drewN | apply below_drew1 | refine below_set ?_ GE269.out | refine below_set ?_ GE271.out) | exact HB.out)) hb); have n3_ := Aside0.mk (hbox); have n4_ := Aside0.mk ((by rw [hg]; exact (below_size (by repeat (first | (with_reducible first | exact HB.out | apply below_alloc | apply pw_below_drewN | apply below_drew1 | refine below_set ?_ GE269.out | refine below_set ?_ GE271.out) | exact HB.out))) : w.heap.size ≤ gb272)); have n5_ := Aside0.mk ((by rw [hg]; exact (below_size (by repeat (first | (with_reducible first | exact HB.out | apply below_alloc | apply pw_below_drewN | apply below_drew1 | refine below_set ?_ GE269.out | refine below_set ?_ GE271.out) | exact HB.out))) : w.heap.size ≤ gb272)); have n6_ := Aside0.mk ((by rw [hg]; exact Nat.ne_of_lt (blk_lt (g := gb269) (o := .cells #[.int .u64 a3_0, .int .u64 a3_1] 24 (0, 0)) (by (with_reducible repeat (first | refine blk_drewN ?_ _ | refine blk_drew ?_ | refine blk_alloc ?_ _)); refine blk_far ?_ NB269_271.out _; (with_reducible repeat (first | refine blk_drewN ?_ _ | refine blk_drew ?_ | refine blk_alloc ?_ _)); refine blk_far ?_ NB269_271.out _; (with_reducible repeat (first | refine blk_drewN ?_ _ | refine blk_drew ?_ | refine blk_alloc ?_ _)); exact BK269.out)) : gb269 ≠ gb272)); have n7_ := Aside0.mk ((by rw [hg]; exact Nat.ne_of_gt (blk_lt (g := gb269) (o := .cells #[.int .u64 a3_0, .int .u64 a3_1] 24 (0, 0)) (by (with_reducible repeat (first | refine blk_drewN ?_ _ | refine blk_drew ?_ | refine blk_alloc ?_ _)); refine blk_far ?_ NB269_271.out _; (with_reducible repeat (first | refine blk_drewN ?_ _ | refine blk_drew ?_ | refine blk_alloc ?_ _)); refine blk_far ?_ NB269_271.out _; (with_reducible repeat (first | refine blk_drewN ?_ _ | refine blk_drew ?_ | refine blk_alloc ?_ _)); exact BK269.out)) : gb272 ≠ gb269)); have n8_ := Aside0.mk ((by rw [hg]; exact Nat.ne_of_lt (blk_lt (g := gb271) (o := .cells #[.int .u64 (IntKind.u64.wrap (a0)), .int .u64 (IntKind.u64.wrap (a1))] 24 (0, 0)) (by (with_reducible repeat (first | refine blk_drewN ?_ _ | refine blk_drew ?_ | refine blk_alloc ?_ _)); refine blk_put (cs := #[.int .u64 (IntKind.u64.wrap (a0)), .int .u64 0]) ?_ 1 _ rfl; (with_reducible repeat (first | refine blk_drewN ?_ _ | refine blk_drew ?_ | refine blk_alloc ?_ _)); refine blk_put (cs := #[.int .u64 0, .int .u64 0]) ?_ 0 _ rfl; (with_reducible repeat (first | refine blk_drewN ?_ _ | refine blk_drew ?_ | refine blk_alloc ?_ _)); exact BK271.out)) : gb271 ≠ gb272)); have n9_ := Aside0.mk ((by rw [hg]; exact Nat.ne_of_gt (blk_lt (g := gb271) (o := .cells #[.int .u64 (IntKind.u64.wrap (a0)), .int .u64 (IntKind.u64.wrap (a1))] 24 (0, 0)) (by (with_reducible repeat (first | refine blk_drewN ?_ _ | refine blk_drew ?_ | refine blk_alloc ?_ _)); refine blk_put (cs := #[.int .u64 (IntKind.u64.wrap (a0)), .int .u64 0]) ?_ 1 _ rfl; (with_reducible repeat (first | refine blk_drewN ?_ _ | refine blk_drew ?_ | refine blk_alloc ?_ _)); refine blk_put (cs := #[.int .u64 0, .int .u64 0]) ?_ 0 _ rfl; (with_reducible repeat (first | refine blk_drewN ?_ _ | refine blk_drew ?_ | refine blk_alloc ?_ _)); exact BK271.out)) : gb272 ≠ gb271)); clear BK269; clear BK271; clear HB; have BK269 := n0_; have BK271 := n1_; have HB := n2_; have BK272 := n3_; have GW272 := n4_; have GE272 := n5_; have NB269_272 := n6_; have NB272_269 := n7_; have NB271_272 := n8_; have NB272_271 := n9_; clear n0_ n1_ n2_ n3_ n4_ n5_ n6_ n7_ n8_ n9_; clear hb hbox hg; have hnb38 := NB272_269.out; have hnc38 := NB269_272.out; have hnb39 := NB272_271.out; have hnc39 := NB271_272.out; have hcz40_0 : w37.cell? ⟨gb272, 0, none⟩ = some (.int .u64 0) := (blk_cell BK272.out 0).trans rfl; have hcz40_1 : w37.cell? ⟨gb272, 1, none⟩ = some (.int .u64 0) := (blk_cell BK272.out 1).trans rfl; have hfz40_0 := blk_frozen BK272.out 0; have hfz40_1 := blk_frozen BK272.out 1; have hcz41_0 : w37.cell? ⟨gb271, 0, none⟩ = some (.int .u64 (IntKind.u64.wrap (a0))) := (blk_cell BK271.out 0).trans rfl; have hcz41_1 : w37.cell? ⟨gb271, 1, none⟩ = some (.int .u64 (IntKind.u64.wrap (a1))) := (blk_cell BK271.out 1).trans rfl; have hfz41_0 := blk_frozen BK271.out 0; have hfz41_1 := blk_frozen BK271.out 1) | ((with_reducible refine gate_callee (f := 10) rfl ?_); refine goesL_ (some 38) rfl rfl Try.func10 (by kernel_rfl) rfl #[.agg #[.int .u64 (IntKind.u64.wrap (a0)), .int .u64 (IntKind.u64.wrap (a1))], .agg #[.int .u64 (IntKind.u64.wrap ((IntKind.u64.wrap (a0)) * (IntKind.u64.wrap (a2)))), .int .u64 (IntKind.u64.wrap ((IntKind.u64.wrap (a1)) * (IntKind.u64.wrap (a2))))]] rfl (by (try simp only [List.map_toArray, List.map_cons, List.map_nil]); first | done | rfl | (simp only [List.length_drop, List.length_take]; rfl)) ?_; (with_reducible refine (ratio_Cmp.calls k (IntKind.u64.wrap (a0)) (IntKind.u64.wrap (a1)) (IntKind.u64.wrap ((IntKind.u64.wrap (a0)) * (IntKind.u64.wrap (a2)))) (IntKind.u64.wrap ((IntKind.u64.wrap (a1)) * (IntKind.u64.wrap (a2)))) t273 t274 _ A6.out).mono ?_); rintro e w42 ⟨rfl, hb⟩; refine ⟨_, rfl, ?_⟩; have n0_ := Aside0.mk (blk_below (g := gb269) (o := .cells #[.int .u64 a3_0, .int .u64 a3_1] 24 (0, 0)) (by (with_reducible repeat (first | refine blk_drewN ?_ _ | refine blk_drew ?_ | refine blk_alloc ?_ _)); refine blk_far ?_ NB269_272.out _; (with_reducible repeat (first | refine blk_drewN ?_ _ | refine blk_drew ?_ | refine blk_alloc ?_ _)); refine blk_far ?_ NB269_272.out _; (with_reducible repeat (first | refine blk_drewN ?_ _ | refine blk_drew ?_ | refine blk_alloc ?_ _)); exact BK269.out) hb); have n1_ := Aside0.mk (blk_below (g := gb271) (o := .cells #[.int .u64 (IntKind.u64.wrap (a0)), .int .u64 (IntKind.u64.wrap (a1))] 24 (0, 0)) (by (with_reducible repeat (first | refine blk_drewN ?_ _ | refine blk_drew ?_ | refine blk_alloc ?_ _)); refine blk_far ?_ NB271_272.out _; (with_reducible repeat (first | refine blk_drewN ?_ _ | refine blk_drew ?_ | refine blk_alloc ?_ _)); refine blk_far ?_ NB271_272.out _; (with_reducible repeat (first | refine blk_drewN ?_ _ | refine blk_drew ?_ | refine blk_alloc ?_ _)); exact BK271.out) hb); have n2_ := Aside0.mk (blk_below (g := gb272) (o := .cells #[.int .u64 (IntKind.u64.wrap ((IntKind.u64.wrap (a0)) * (IntKind.u64.wrap (a2)))), .int .u64 (IntKind.u64.wrap ((IntKind.u64.wrap (a1)) * (IntKind.u64.wrap (a2))))] 24 (0, 0)) (by (with_reducible repeat (first | refine blk_drewN ?_ _ | refine blk_drew ?_ | refine blk_alloc ?_ _)); refine blk_put (cs := #[.int .u64 (IntKind.u64.wrap ((IntKind.u64.wrap (a0)) * (IntKind.u64.wrap (a2)))), .int .u64 0]) ?_ 1 _ rfl; (with_reducible repeat (first | refine blk_drewN ?_ _ | refine blk_drew ?_ | refine blk_alloc ?_ _)); refine blk_put (cs := #[.int .u64 0, .int .u64 0]) ?_ 0 _ rfl; (with_reducible repeat (first | refine blk_drewN ?_ _ | refine blk_drew ?_ | refine blk_alloc ?_ _)); exact BK272.out) hb); have n3_ := Aside0.mk (below_step (by repeat (first | (with_reducible first | exact HB.out | apply below_alloc | apply pw_below_drewN | apply below_drew1 | refine below_set ?_ GE269.out | refine below_set ?_ GE271.out | refine below_set ?_ GE272.out) | exact HB.out)) hb); clear BK269; clear BK271; clear BK272; clear HB; have BK269 := n0_; have BK271 := n1_; have BK272 := n2_; have HB := n3_; clear n0_ n1_ n2_ n3_; (try clear hb); (try clear hb2); (try clear hk); (try clear hi); have hcz43_0 : w42.cell? ⟨gb271, 0, none⟩ = some (.int .u64 (IntKind.u64.wrap (a0))) := (blk_cell BK271.out 0).trans rfl; have hcz43_1 : w42.cell? ⟨gb271, 1, none⟩ = some (.int .u64 (IntKind.u64.wrap (a1))) := (blk_cell BK271.out 1).trans rfl; have hfz43_0 := blk_frozen BK271.out 0; have hfz43_1 := blk_frozen BK271.out 1; have hcz44_0 : w42.cell? ⟨gb269, 0, none⟩ = some (.int .u64 a3_0) := (blk_cell BK269.out 0).trans rfl; have hcz44_1 : w42.cell? ⟨gb269, 1, none⟩ = some (.int .u64 a3_1) := (blk_cell BK269.out 1).trans rfl; have hfz44_0 := blk_frozen BK269.out 0; have hfz44_1 := blk_frozen BK269.out 1) | ((with_reducible refine gate_callee (f := 10) rfl ?_); refine goesL_ (some 44) rfl rfl Try.func10 (by kernel_rfl) rfl #[.agg #[.int .u64 (IntKind.u64.wrap (a0)), .int .u64 (IntKind.u64.wrap (a1))], .agg #[.int .u64 a3_0, .int .u64 a3_1]] rfl (by (try simp only [List.map_toArray, List.map_cons, List.map_nil]); first | done | rfl | (simp only [List.length_drop, List.length_take]; rfl)) ?_; (with_reducible refine (ratio_Cmp.calls k (IntKind.u64.wrap (a0)) (IntKind.u64.wrap (a1)) a3_0 a3_1 t275 t276 _ A7.out).mono ?_); rintro e w45 ⟨rfl, hb⟩; refine ⟨_, rfl, ?_⟩; have n0_ := Aside0.mk (blk_below (g := gb269) (o := .cells #[.int .u64 a3_0, .int .u64 a3_1] 24 (0, 0)) (by (with_reducible repeat (first | refine blk_drewN ?_ _ | refine blk_drew ?_ | refine blk_alloc ?_ _)); exact BK269.out) hb); have n1_ := Aside0.mk (blk_below (g := gb271) (o := .cells #[.int .u64 (IntKind.u64.wrap (a0)), .int .u64 (IntKind.u64.wrap (a1))] 24 (0, 0)) (by (with_reducible repeat (first | refine blk_drewN ?_ _ | refine blk_drew ?_ | refine blk_alloc ?_ _)); exact BK271.out) hb); have n2_ := Aside0.mk (blk_below (g := gb272) (o := .cells #[.int .u64 (IntKind.u64.wrap ((IntKind.u64.wrap (a0)) * (IntKind.u64.wrap (a2)))), .int .u64 (IntKind.u64.wrap ((IntKind.u64.wrap (a1)) * (IntKind.u64.wrap (a2))))] 24 (0, 0)) (by (with_reducible repeat (first | refine blk_drewN ?_ _ | refine blk_drew ?_ | refine blk_alloc ?_ _)); exact BK272.out) hb); have n3_ := Aside0.mk (below_step (by repeat (first | (with_reducible first | exact HB.out | apply below_alloc | apply pw_below_drewN | apply below_drew1 | refine below_set ?_ GE269.out | refine below_set ?_ GE271.out | refine below_set ?_ GE272.out) | exact HB.out)) hb); clear BK269; clear BK271; clear BK272; clear HB; have BK269 := n0_; have BK271 := n1_; have BK272 := n2_; have HB := n3_; clear n0_ n1_ n2_ n3_; (try clear hb); (try clear hb2); (try clear hk); (try clear hi); have hcz46_0 : w45.cell? ⟨gb272, 0, none⟩ = some (.int .u64 (IntKind.u64.wrap ((IntKind.u64.wrap (a0)) * (IntKind.u64.wrap (a2))))) := (blk_cell BK272.out 0).trans rfl; have hcz46_1 : w45.cell? ⟨gb272, 1, none⟩ = some (.int .u64 (IntKind.u64.wrap ((IntKind.u64.wrap (a1)) * (IntKind.u64.wrap (a2))))) := (blk_cell BK272.out 1).trans rfl; have hfz46_0 := blk_frozen BK272.out 0; have hfz46_1 := blk_frozen BK272.out 1; have hcz47_0 : w45.cell? ⟨gb269, 0, none⟩ = some (.int .u64 a3_0) := (blk_cell BK269.out 0).trans rfl; have hcz47_1 : w45.cell? ⟨gb269, 1, none⟩ = some (.int .u64 a3_1) := (blk_cell BK269.out 1).trans rfl; have hfz47_0 := blk_frozen BK269.out 0; have hfz47_1 := blk_frozen BK269.out 1) | ((with_reducible refine gate_callee (f := 10) rfl ?_); refine goesL_ (some 50) rfl rfl Try.func10 (by kernel_rfl) rfl #[.agg #[.int .u64 (IntKind.u64.wrap ((IntKind.u64.wrap (a0)) * (IntKind.u64.wrap (a2)))), .int .u64 (IntKind.u64.wrap ((IntKind.u64.wrap (a1)) * (IntKind.u64.wrap (a2))))], .agg #[.int .u64 a3_0, .int .u64 a3_1]] rfl (by (try simp only [List.map_toArray, List.map_cons, List.map_nil]); first | done | rfl | (simp only [List.length_drop, List.length_take]; rfl)) ?_; (with_reducible refine (ratio_Cmp.calls k (IntKind.u64.wrap ((IntKind.u64.wrap (a0)) * (IntKind.u64.wrap (a2)))) (IntKind.u64.wrap ((IntKind.u64.wrap (a1)) * (IntKind.u64.wrap (a2)))) a3_0 a3_1 t277 t278 _ A8.out).mono ?_); rintro e w48 ⟨rfl, hb⟩; refine ⟨_, rfl, ?_⟩; have n0_ := Aside0.mk (blk_below (g := gb269) (o := .cells #[.int .u64 a3_0, .int .u64 a3_1] 24 (0, 0)) (by (with_reducible repeat (first | refine blk_drewN ?_ _ | refine blk_drew ?_ | refine blk_alloc ?_ _)); exact BK269.out) hb); have n1_ := Aside0.mk (blk_below (g := gb271) (o := .cells #[.int .u64 (IntKind.u64.wrap (a0)), .int .u64 (IntKind.u64.wrap (a1))] 24 (0, 0)) (by (with_reducible repeat (first | refine blk_drewN ?_ _ | refine blk_drew ?_ | refine blk_alloc ?_ _)); exact BK271.out) hb); have n2_ := Aside0.mk (blk_below (g := gb272) (o := .cells #[.int .u64 (IntKind.u64.wrap ((IntKind.u64.wrap (a0)) * (IntKind.u64.wrap (a2)))), .int .u64 (IntKind.u64.wrap ((IntKind.u64.wrap (a1)) * (IntKind.u64.wrap (a2))))] 24 (0, 0)) (by (with_reducible repeat (first | refine blk_drewN ?_ _ | refine blk_drew ?_ | refine blk_alloc ?_ _)); exact BK272.out) hb); have n3_ := Aside0.mk (below_step (by repeat (first | (with_reducible first | exact HB.out | apply below_alloc | apply pw_below_drewN | apply below_drew1 | refine below_set ?_ GE269.out | refine below_set ?_ GE271.out | refine below_set ?_ GE272.out) | exact HB.out)) hb); clear BK269; clear BK271; clear BK272; clear HB; have BK269 := n0_; have BK271 := n1_; have BK272 := n2_; have HB := n3_; clear n0_ n1_ n2_ n3_; (try clear hb); (try clear hb2); (try clear hk); (try clear hi)) | (go_at_call 9; (with_reducible refine (linhaylaw03_awake.calls k  true _ A5.out).mono ?_); rintro e w33 ⟨rfl, hb⟩; have n0_ := Aside0.mk (blk_below (g := gb269) (o := .cells #[.int .u64 a3_0, .int .u64 a3_1] 24 (0, 0)) (by (with_reducible repeat (first | refine blk_drewN ?_ _ | refine blk_drew ?_ | refine blk_alloc ?_ _)); exact BK269.out) hb); have n1_ := Aside0.mk (below_step (by repeat (first | (with_reducible first | exact HB.out | apply below_alloc | apply pw_below_drewN | apply below_drew1 | refine below_set ?_ GE269.out) | exact HB.out)) hb); clear BK269; clear HB; have BK269 := n0_; have HB := n1_; clear n0_ n1_; (try clear hb); (try clear hb2); (try clear hk); (try clear hi)) | (go_at_call 10; (with_reducible refine (ratio_Cmp.calls k (IntKind.u64.wrap (a0)) (IntKind.u64.wrap (a1)) (IntKind.u64.wrap ((IntKind.u64.wrap (a0)) * (IntKind.u64.wrap (a2)))) (IntKind.u64.wrap ((IntKind.u64.wrap (a1)) * (IntKind.u64.wrap (a2)))) t273 t274 _ A6.out).mono ?_); rintro e w42 ⟨rfl, hb⟩; have n0_ := Aside0.mk (blk_below (g := gb269) (o := .cells #[.int .u64 a3_0, .int .u64 a3_1] 24 (0, 0)) (by (with_reducible repeat (first | refine blk_drewN ?_ _ | refine blk_drew ?_ | refine blk_alloc ?_ _)); refine blk_far ?_ NB269_272.out _; (with_reducible repeat (first | refine blk_drewN ?_ _ | refine blk_drew ?_ | refine blk_alloc ?_ _)); refine blk_far ?_ NB269_272.out _; (with_reducible repeat (first | refine blk_drewN ?_ _ | refine blk_drew ?_ | refine blk_alloc ?_ _)); exact BK269.out) hb); have n1_ := Aside0.mk (blk_below (g := gb271) (o := .cells #[.int .u64 (IntKind.u64.wrap (a0)), .int .u64 (IntKind.u64.wrap (a1))] 24 (0, 0)) (by (with_reducible repeat (first | refine blk_drewN ?_ _ | refine blk_drew ?_ | refine blk_alloc ?_ _)); refine blk_far ?_ NB271_272.out _; (with_reducible repeat (first | refine blk_drewN ?_ _ | refine blk_drew ?_ | refine blk_alloc ?_ _)); refine blk_far ?_ NB271_272.out _; (with_reducible repeat (first | refine blk_drewN ?_ _ | refine blk_drew ?_ | refine blk_alloc ?_ _)); exact BK271.out) hb); have n2_ := Aside0.mk (blk_below (g := gb272) (o := .cells #[.int .u64 (IntKind.u64.wrap ((IntKind.u64.wrap (a0)) * (IntKind.u64.wrap (a2)))), .int .u64 (IntKind.u64.wrap ((IntKind.u64.wrap (a1)) * (IntKind.u64.wrap (a2))))] 24 (0, 0)) (by (with_reducible repeat (first | refine blk_drewN ?_ _ | refine blk_drew ?_ | refine blk_alloc ?_ _)); refine blk_put (cs := #[.int .u64 (IntKind.u64.wrap ((IntKind.u64.wrap (a0)) * (IntKind.u64.wrap (a2)))), .int .u64 0]) ?_ 1 _ rfl; (with_reducible repeat (first | refine blk_drewN ?_ _ | refine blk_drew ?_ | refine blk_alloc ?_ _)); refine blk_put (cs := #[.int .u64 0, .int .u64 0]) ?_ 0 _ rfl; (with_reducible repeat (first | refine blk_drewN ?_ _ | refine blk_drew ?_ | refine blk_alloc ?_ _)); exact BK272.out) hb); have n3_ := Aside0.mk (below_step (by repeat (first | (with_reducible first | exact HB.out | apply below_alloc | apply pw_below_drewN | apply below_drew1 | refine below_set ?_ GE269.out | refine below_set ?_ GE271.out | refine below_set ?_ GE272.out) | exact HB.out)) hb); clear BK269; clear BK271; clear BK272; clear HB; have BK269 := n0_; have BK271 := n1_; have BK272 := n2_; have HB := n3_; clear n0_ n1_ n2_ n3_; (try clear hb); (try clear hb2); (try clear hk); (try clear hi); have hcz43_0 : w42.cell? ⟨gb271, 0, none⟩ = some (.int .u64 (IntKind.u64.wrap (a0))) := (blk_cell BK271.out 0).trans rfl; have hcz43_1 : w42.cell? ⟨gb271, 1, none⟩ = some (.int .u64 (IntKind.u64.wrap (a1))) := (blk_cell BK271.out 1).trans rfl; have hfz43_0 := blk_frozen BK271.out 0; have hfz43_1 := blk_frozen BK271.out 1; have hcz44_0 : w42.cell? ⟨gb269, 0, none⟩ = some (.int .u64 a3_0) := (blk_cell BK269.out 0).trans rfl; have hcz44_1 : w42.cell? ⟨gb269, 1, none⟩ = some (.int .u64 a3_1) := (blk_cell BK269.out 1).trans rfl; have hfz44_0 := blk_frozen BK269.out 0; have hfz44_1 := blk_frozen BK269.out 1) | (go_at_call 10; (with_reducible refine (ratio_Cmp.calls k (IntKind.u64.wrap (a0)) (IntKind.u64.wrap (a1)) a3_0 a3_1 t275 t276 _ A7.out).mono ?_); rintro e w45 ⟨rfl, hb⟩; have n0_ := Aside0.mk (blk_below (g := gb269) (o := .cells #[.int .u64 a3_0, .int .u64 a3_1] 24 (0, 0)) (by (with_reducible repeat (first | refine blk_drewN ?_ _ | refine blk_drew ?_ | refine blk_alloc ?_ _)); exact BK269.out) hb); have n1_ := Aside0.mk (blk_below (g := gb271) (o := .cells #[.int .u64 (IntKind.u64.wrap (a0)), .int .u64 (IntKind.u64.wrap (a1))] 24 (0, 0)) (by (with_reducible repeat (first | refine blk_drewN ?_ _ | refine blk_drew ?_ | refine blk_alloc ?_ _)); exact BK271.out) hb); have n2_ := Aside0.mk (blk_below (g := gb272) (o := .cells #[.int .u64 (IntKind.u64.wrap ((IntKind.u64.wrap (a0)) * (IntKind.u64.wrap (a2)))), .int .u64 (IntKind.u64.wrap ((IntKind.u64.wrap (a1)) * (IntKind.u64.wrap (a2))))] 24 (0, 0)) (by (with_reducible repeat (first | refine blk_drewN ?_ _ | refine blk_drew ?_ | refine blk_alloc ?_ _)); exact BK272.out) hb); have n3_ := Aside0.mk (below_step (by repeat (first | (with_reducible first | exact HB.out | apply below_alloc | apply pw_below_drewN | apply below_drew1 | refine below_set ?_ GE269.out | refine below_set ?_ GE271.out | refine below_set ?_ GE272.out) | exact HB.out)) hb); clear BK269; clear BK271; clear BK272; clear HB; have BK269 := n0_; have BK271 := n1_; have BK272 := n2_; have HB := n3_; clear n0_ n1_ n2_ n3_; (try clear hb); (try clear hb2); (try clear hk); (try clear hi); have hcz46_0 : w45.cell? ⟨gb272, 0, none⟩ = some (.int .u64 (IntKind.u64.wrap ((IntKind.u64.wrap (a0)) * (IntKind.u64.wrap (a2))))) := (blk_cell BK272.out 0).trans rfl; have hcz46_1 : w45.cell? ⟨gb272, 1, none⟩ = some (.int .u64 (IntKind.u64.wrap ((IntKind.u64.wrap (a1)) * (IntKind.u64.wrap (a2))))) := (blk_cell BK272.out 1).trans rfl; have hfz46_0 := blk_frozen BK272.out 0; have hfz46_1 := blk_frozen BK272.out 1; have hcz47_0 : w45.cell? ⟨gb269, 0, none⟩ = some (.int .u64 a3_0) := (blk_cell BK269.out 0).trans rfl; have hcz47_1 : w45.cell? ⟨gb269, 1, none⟩ = some (.int .u64 a3_1) := (blk_cell BK269.out 1).trans rfl; have hfz47_0 := blk_frozen BK269.out 0; have hfz47_1 := blk_frozen BK269.out 1) | (go_at_call 10; (with_reducible refine (ratio_Cmp.calls k (IntKind.u64.wrap ((IntKind.u64.wrap (a0)) * (IntKind.u64.wrap (a2)))) (IntKind.u64.wrap ((IntKind.u64.wrap (a1)) * (IntKind.u64.wrap (a2)))) a3_0 a3_1 t277 t278 _ A8.out).mono ?_); rintro e w48 ⟨rfl, hb⟩; have n0_ := Aside0.mk (blk_below (g := gb269) (o := .cells #[.int .u64 a3_0, .int .u64 a3_1] 24 (0, 0)) (by (with_reducible repeat (first | refine blk_drewN ?_ _ | refine blk_drew ?_ | refine blk_alloc ?_ _)); exact BK269.out) hb); have n1_ := Aside0.mk (blk_below (g := gb271) (o := .cells #[.int .u64 (IntKind.u64.wrap (a0)), .int .u64 (IntKind.u64.wrap (a1))] 24 (0, 0)) (by (with_reducible repeat (first | refine blk_drewN ?_ _ | refine blk_drew ?_ | refine blk_alloc ?_ _)); exact BK271.out) hb); have n2_ := Aside0.mk (blk_below (g := gb272) (o := .cells #[.int .u64 (IntKind.u64.wrap ((IntKind.u64.wrap (a0)) * (IntKind.u64.wrap (a2)))), .int .u64 (IntKind.u64.wrap ((IntKind.u64.wrap (a1)) * (IntKind.u64.wrap (a2))))] 24 (0, 0)) (by (with_reducible repeat (first | refine blk_drewN ?_ _ | refine blk_drew ?_ | refine blk_alloc ?_ _)); exact BK272.out) hb); have n3_ := Aside0.mk (below_step (by repeat (first | (with_reducible first | exact HB.out | apply below_alloc | apply pw_below_drewN | apply below_drew1 | refine below_set ?_ GE269.out | refine below_set ?_ GE271.out | refine below_set ?_ GE272.out) | exact HB.out)) hb); clear BK269; clear BK271; clear BK272; clear HB; have BK269 := n0_; have BK271 := n1_; have BK272 := n2_; have HB := n3_; clear n0_ n1_ n2_ n3_; (try clear hb); (try clear hb2); (try clear hk); (try clear hi)))
          go_ret
          exact ⟨by first | rfl | (simp [errW_none, errW_some] <;> rfl) | (simp [*, errW_none, errW_some] <;> rfl), by repeat (first | (with_reducible first | exact HB.out | apply below_alloc | apply pw_below_drewN | apply below_drew1 | refine below_set ?_ GE269.out | refine below_set ?_ GE271.out | refine below_set ?_ GE272.out) | exact HB.out)⟩
        · rw [if_neg c31] at H
          exact absurd H (by simp)
      · replace c30 := Bool.eq_false_iff.mpr c30
        subst c30
        have H1 : (none) = some r := by rw [if_neg (show ¬ (false = true) by decide)] at H; exact H
        clear H
        have H := H1
        clear H1
        exact absurd H (by simp)
    · rw [if_neg c29] at H
      have c29b0 : (a2 == 0) = false := beq_eq_false_iff_ne.mpr c29
      have c29b1 : (a2 != 0) = true := bne_iff_ne.mpr c29
      by_cases c49 : t270 = true
      · subst c49
        have H1 : (if t274 = 0 then (if t273 = 0 then (if t275 = t277 then (some (t276 == t278)) else (none)) else (none)) else (none)) = some r := by rw [if_pos rfl] at H; exact H
        clear H
        have H := H1
        clear H1
        by_cases c50 : t274 = 0
        · rw [if_pos c50] at H
          have c50b0 : (t274 == 0) = true := beq_iff_eq.mpr c50
          have c50b1 : (t274 != 0) = false := bne_eq_false_iff_eq.mpr c50
          clear c50
          by_cases c51 : t273 = 0
          · rw [if_pos c51] at H
            have c51b0 : (t273 == 0) = true := beq_iff_eq.mpr c51
            have c51b1 : (t273 != 0) = false := bne_eq_false_iff_eq.mpr c51
            clear c51
            by_cases c52 : t275 = t277
            · rw [if_pos c52] at H
              have c52b0 : (t275 == t277) = true := beq_iff_eq.mpr c52
              have c52b1 : (t275 != t277) = false := bne_eq_false_iff_eq.mpr c52
              clear c52
              obtain rfl := Option.some.inj H
              go_enter Try.func5, Try.ntmps5
              go_wp2_with (first | ((with_reducible refine gate_dst (N := 7) rfl ?_); refine box_event ?hg (N := 7) ?hd (cs := #[.int .u64 a3_0, .int .u64 a3_1]) (t := 24) ?hr ?_; (case hd => rfl); (case hg => rfl); (case hr => first | (go_simp; done) | (go_simp; rfl)); intro gb269 hg w53 hbox hb; have n0_ := Aside0.mk (below_step (by repeat (first | (with_reducible first | exact HB.out | apply below_alloc | apply pw_below_drewN | apply below_drew1) | exact HB.out)) hb); have n1_ := Aside0.mk (hbox); have n2_ := Aside0.mk ((by rw [hg]; exact (below_size (by repeat (first | (with_reducible first | exact HB.out | apply below_alloc | apply pw_below_drewN | apply below_drew1) | exact HB.out))) : w.heap.size ≤ gb269)); have n3_ := Aside0.mk ((by rw [hg]; exact (below_size (by repeat (first | (with_reducible first | exact HB.out | apply below_alloc | apply pw_below_drewN | apply below_drew1) | exact HB.out))) : w.heap.size ≤ gb269)); clear HB; have HB := n0_; have BK269 := n1_; have GW269 := n2_; have GE269 := n3_; clear n0_ n1_ n2_ n3_; clear hb hbox hg) | ((with_reducible refine gate_callee (f := 9) rfl ?_); refine goesL_ (some 18) rfl rfl Try.func9 (by kernel_rfl) rfl #[] rfl (by (try simp only [List.map_toArray, List.map_cons, List.map_nil]); first | done | rfl | (simp only [List.length_drop, List.length_take]; rfl)) ?_; (with_reducible refine (linhaylaw03_awake.calls k  true _ A5.out).mono ?_); rintro e w54 ⟨rfl, hb⟩; refine ⟨_, rfl, ?_⟩; have n0_ := Aside0.mk (blk_below (g := gb269) (o := .cells #[.int .u64 a3_0, .int .u64 a3_1] 24 (0, 0)) (by (with_reducible repeat (first | refine blk_drewN ?_ _ | refine blk_drew ?_ | refine blk_alloc ?_ _)); exact BK269.out) hb); have n1_ := Aside0.mk (below_step (by repeat (first | (with_reducible first | exact HB.out | apply below_alloc | apply pw_below_drewN | apply below_drew1 | refine below_set ?_ GE269.out) | exact HB.out)) hb); clear BK269; clear HB; have BK269 := n0_; have HB := n1_; clear n0_ n1_; (try clear hb); (try clear hb2); (try clear hk); (try clear hi)) | ((with_reducible refine gate_dst (N := 10) rfl ?_); refine box_event ?hg (N := 10) ?hd (cs := #[.int .u64 0, .int .u64 0]) (t := 24) ?hr ?_; (case hd => rfl); (case hg => rfl); (case hr => first | (go_simp; done) | (go_simp; rfl)); intro gb271 hg w55 hbox hb; have n0_ := Aside0.mk (blk_below (g := gb269) (o := .cells #[.int .u64 a3_0, .int .u64 a3_1] 24 (0, 0)) (by (with_reducible repeat (first | refine blk_drewN ?_ _ | refine blk_drew ?_ | refine blk_alloc ?_ _)); exact BK269.out) hb); have n1_ := Aside0.mk (below_step (by repeat (first | (with_reducible first | exact HB.out | apply below_alloc | apply pw_below_drewN | apply below_drew1 | refine below_set ?_ GE269.out) | exact HB.out)) hb); have n2_ := Aside0.mk (hbox); have n3_ := Aside0.mk ((by rw [hg]; exact (below_size (by repeat (first | (with_reducible first | exact HB.out | apply below_alloc | apply pw_below_drewN | apply below_drew1 | refine below_set ?_ GE269.out) | exact HB.out))) : w.heap.size ≤ gb271)); have n4_ := Aside0.mk ((by rw [hg]; exact (below_size (by repeat (first | (with_reducible first | exact HB.out | apply below_alloc | apply pw_below_drewN | apply below_drew1 | refine below_set ?_ GE269.out) | exact HB.out))) : w.heap.size ≤ gb271)); have n5_ := Aside0.mk ((by rw [hg]; exact Nat.ne_of_lt (blk_lt (g := gb269) (o := .cells #[.int .u64 a3_0, .int .u64 a3_1] 24 (0, 0)) (by (with_reducible repeat (first | refine blk_drewN ?_ _ | refine blk_drew ?_ | refine blk_alloc ?_ _)); exact BK269.out)) : gb269 ≠ gb271)); have n6_ := Aside0.mk ((by rw [hg]; exact Nat.ne_of_gt (blk_lt (g := gb269) (o := .cells #[.int .u64 a3_0, .int .u64 a3_1] 24 (0, 0)) (by (with_reducible repeat (first | refine blk_drewN ?_ _ | refine blk_drew ?_ | refine blk_alloc ?_ _)); exact BK269.out)) : gb271 ≠ gb269)); clear BK269; clear HB; have BK269 := n0_; have HB := n1_; have BK271 := n2_; have GW271 := n3_; have GE271 := n4_; have NB269_271 := n5_; have NB271_269 := n6_; clear n0_ n1_ n2_ n3_ n4_ n5_ n6_; clear hb hbox hg; have hnb56 := NB271_269.out; have hnc56 := NB269_271.out; have hcz57_0 : w55.cell? ⟨gb271, 0, none⟩ = some (.int .u64 0) := (blk_cell BK271.out 0).trans rfl; have hcz57_1 : w55.cell? ⟨gb271, 1, none⟩ = some (.int .u64 0) := (blk_cell BK271.out 1).trans rfl; have hfz57_0 := blk_frozen BK271.out 0; have hfz57_1 := blk_frozen BK271.out 1) | ((with_reducible refine gate_dst (N := 11) rfl ?_); refine box_event ?hg (N := 11) ?hd (cs := #[.int .u64 0, .int .u64 0]) (t := 24) ?hr ?_; (case hd => rfl); (case hg => rfl); (case hr => first | (go_simp; done) | (go_simp; rfl)); intro gb272 hg w58 hbox hb; have n0_ := Aside0.mk (blk_below (g := gb269) (o := .cells #[.int .u64 a3_0, .int .u64 a3_1] 24 (0, 0)) (by (with_reducible repeat (first | refine blk_drewN ?_ _ | refine blk_drew ?_ | refine blk_alloc ?_ _)); refine blk_far ?_ NB269_271.out _; (with_reducible repeat (first | refine blk_drewN ?_ _ | refine blk_drew ?_ | refine blk_alloc ?_ _)); refine blk_far ?_ NB269_271.out _; (with_reducible repeat (first | refine blk_drewN ?_ _ | refine blk_drew ?_ | refine blk_alloc ?_ _)); exact BK269.out) hb); have n1_ := Aside0.mk (blk_below (g := gb271) (o := .cells #[.int .u64 (IntKind.u64.wrap (a0)), .int .u64 (IntKind.u64.wrap (a1))] 24 (0, 0)) (by (with_reducible repeat (first | refine blk_drewN ?_ _ | refine blk_drew ?_ | refine blk_alloc ?_ _)); refine blk_put (cs := #[.int .u64 (IntKind.u64.wrap (a0)), .int .u64 0]) ?_ 1 _ rfl; (with_reducible repeat (first | refine blk_drewN ?_ _ | refine blk_drew ?_ | refine blk_alloc ?_ _)); refine blk_put (cs := #[.int .u64 0, .int .u64 0]) ?_ 0 _ rfl; (with_reducible repeat (first | refine blk_drewN ?_ _ | refine blk_drew ?_ | refine blk_alloc ?_ _)); exact BK271.out) hb); have n2_ := Aside0.mk (below_step (by repeat (first | (with_reducible first | exact HB.out | apply below_alloc | apply pw_below_drewN | apply below_drew1 | refine below_set ?_ GE269.out | refine below_set ?_ GE271.out) | exact HB.out)) hb); have n3_ := Aside0.mk (hbox); have n4_ := Aside0.mk ((by rw [hg]; exact (below_size (by repeat (first | (with_reducible first | exact HB.out | apply below_alloc | apply pw_below_drewN | apply below_drew1 | refine below_set ?_ GE269.out | refine below_set ?_ GE271.out) | exact HB.out))) : w.heap.size ≤ gb272)); have n5_ := Aside0.mk ((by rw [hg]; exact (below_size (by repeat (first | (with_reducible first | exact HB.out | apply below_alloc | apply pw_below_drewN | apply below_drew1 | refine below_set ?_ GE269.out | refine below_set ?_ GE271.out) | exact HB.out))) : w.heap.size ≤ gb272)); have n6_ := Aside0.mk ((by rw [hg]; exact Nat.ne_of_lt (blk_lt (g := gb269) (o := .cells #[.int .u64 a3_0, .int .u64 a3_1] 24 (0, 0)) (by (with_reducible repeat (first | refine blk_drewN ?_ _ | refine blk_drew ?_ | refine blk_alloc ?_ _)); refine blk_far ?_ NB269_271.out _; (with_reducible repeat (first | refine blk_drewN ?_ _ | refine blk_drew ?_ | refine blk_alloc ?_ _)); refine blk_far ?_ NB269_271.out _; (with_reducible repeat (first | refine blk_drewN ?_ _ | refine blk_drew ?_ | refine blk_alloc ?_ _)); exact BK269.out)) : gb269 ≠ gb272)); have n7_ := Aside0.mk ((by rw [hg]; exact Nat.ne_of_gt (blk_lt (g := gb269) (o := .cells #[.int .u64 a3_0, .int .u64 a3_1] 24 (0, 0)) (by (with_reducible repeat (first | refine blk_drewN ?_ _ | refine blk_drew ?_ | refine blk_alloc ?_ _)); refine blk_far ?_ NB269_271.out _; (with_reducible repeat (first | refine blk_drewN ?_ _ | refine blk_drew ?_ | refine blk_alloc ?_ _)); refine blk_far ?_ NB269_271.out _; (with_reducible repeat (first | refine blk_drewN ?_ _ | refine blk_drew ?_ | refine blk_alloc ?_ _)); exact BK269.out)) : gb272 ≠ gb269)); have n8_ := Aside0.mk ((by rw [hg]; exact Nat.ne_of_lt (blk_lt (g := gb271) (o := .cells #[.int .u64 (IntKind.u64.wrap (a0)), .int .u64 (IntKind.u64.wrap (a1))] 24 (0, 0)) (by (with_reducible repeat (first | refine blk_drewN ?_ _ | refine blk_drew ?_ | refine blk_alloc ?_ _)); refine blk_put (cs := #[.int .u64 (IntKind.u64.wrap (a0)), .int .u64 0]) ?_ 1 _ rfl; (with_reducible repeat (first | refine blk_drewN ?_ _ | refine blk_drew ?_ | refine blk_alloc ?_ _)); refine blk_put (cs := #[.int .u64 0, .int .u64 0]) ?_ 0 _ rfl; (with_reducible repeat (first | refine blk_drewN ?_ _ | refine blk_drew ?_ | refine blk_alloc ?_ _)); exact BK271.out)) : gb271 ≠ gb272)); have n9_ := Aside0.mk ((by rw [hg]; exact Nat.ne_of_gt (blk_lt (g := gb271) (o := .cells #[.int .u64 (IntKind.u64.wrap (a0)), .int .u64 (IntKind.u64.wrap (a1))] 24 (0, 0)) (by (with_reducible repeat (first | refine blk_drewN ?_ _ | refine blk_drew ?_ | refine blk_alloc ?_ _)); refine blk_put (cs := #[.int .u64 (IntKind.u64.wrap (a0)), .int .u64 0]) ?_ 1 _ rfl; (with_reducible repeat (first | refine blk_drewN ?_ _ | refine blk_drew ?_ | refine blk_alloc ?_ _)); refine blk_put (cs := #[.int .u64 0, .int .u64 0]) ?_ 0 _ rfl; (with_reducible repeat (first | refine blk_drewN ?_ _ | refine blk_drew ?_ | refine blk_alloc ?_ _)); exact BK271.out)) : gb272 ≠ gb271)); clear BK269; clear BK271; clear HB; have BK269 := n0_; have BK271 := n1_; have HB := n2_; have BK272 := n3_; have GW272 := n4_; have GE272 := n5_; have NB269_272 := n6_; have NB272_269 := n7_; have NB271_272 := n8_; have NB272_271 := n9_; clear n0_ n1_ n2_ n3_ n4_ n5_ n6_ n7_ n8_ n9_; clear hb hbox hg; have hnb59 := NB272_269.out; have hnc59 := NB269_272.out; have hnb60 := NB272_271.out; have hnc60 := NB271_272.out; have hcz61_0 : w58.cell? ⟨gb272, 0, none⟩ = some (.int .u64 0) := (blk_cell BK272.out 0).trans rfl; have hcz61_1 : w58.cell? ⟨gb272, 1, none⟩ = some (.int .u64 0) := (blk_cell BK272.out 1).trans rfl; have hfz61_0 := blk_frozen BK272.out 0; have hfz61_1 := blk_frozen BK272.out 1; have hcz62_0 : w58.cell? ⟨gb271, 0, none⟩ = some (.int .u64 (IntKind.u64.wrap (a0))) := (blk_cell BK271.out 0).trans rfl; have hcz62_1 : w58.cell? ⟨gb271, 1, none⟩ = some (.int .u64 (IntKind.u64.wrap (a1))) := (blk_cell BK271.out 1).trans rfl; have hfz62_0 := blk_frozen BK271.out 0; have hfz62_1 := blk_frozen BK271.out 1) | ((with_reducible refine gate_callee (f := 10) rfl ?_); refine goesL_ (some 38) rfl rfl Try.func10 (by kernel_rfl) rfl #[.agg #[.int .u64 (IntKind.u64.wrap (a0)), .int .u64 (IntKind.u64.wrap (a1))], .agg #[.int .u64 (IntKind.u64.wrap ((IntKind.u64.wrap (a0)) * (IntKind.u64.wrap (a2)))), .int .u64 (IntKind.u64.wrap ((IntKind.u64.wrap (a1)) * (IntKind.u64.wrap (a2))))]] rfl (by (try simp only [List.map_toArray, List.map_cons, List.map_nil]); first | done | rfl | (simp only [List.length_drop, List.length_take]; rfl)) ?_; (with_reducible refine (ratio_Cmp.calls k (IntKind.u64.wrap (a0)) (IntKind.u64.wrap (a1)) (IntKind.u64.wrap ((IntKind.u64.wrap (a0)) * (IntKind.u64.wrap (a2)))) (IntKind.u64.wrap ((IntKind.u64.wrap (a1)) * (IntKind.u64.wrap (a2)))) t273 t274 _ A6.out).mono ?_); rintro e w63 ⟨rfl, hb⟩; refine ⟨_, rfl, ?_⟩; have n0_ := Aside0.mk (blk_below (g := gb269) (o := .cells #[.int .u64 a3_0, .int .u64 a3_1] 24 (0, 0)) (by (with_reducible repeat (first | refine blk_drewN ?_ _ | refine blk_drew ?_ | refine blk_alloc ?_ _)); refine blk_far ?_ NB269_272.out _; (with_reducible repeat (first | refine blk_drewN ?_ _ | refine blk_drew ?_ | refine blk_alloc ?_ _)); refine blk_far ?_ NB269_272.out _; (with_reducible repeat (first | refine blk_drewN ?_ _ | refine blk_drew ?_ | refine blk_alloc ?_ _)); exact BK269.out) hb); have n1_ := Aside0.mk (blk_below (g := gb271) (o := .cells #[.int .u64 (IntKind.u64.wrap (a0)), .int .u64 (IntKind.u64.wrap (a1))] 24 (0, 0)) (by (with_reducible repeat (first | refine blk_drewN ?_ _ | refine blk_drew ?_ | refine blk_alloc ?_ _)); refine blk_far ?_ NB271_272.out _; (with_reducible repeat (first | refine blk_drewN ?_ _ | refine blk_drew ?_ | refine blk_alloc ?_ _)); refine blk_far ?_ NB271_272.out _; (with_reducible repeat (first | refine blk_drewN ?_ _ | refine blk_drew ?_ | refine blk_alloc ?_ _)); exact BK271.out) hb); have n2_ := Aside0.mk (blk_below (g := gb272) (o := .cells #[.int .u64 (IntKind.u64.wrap ((IntKind.u64.wrap (a0)) * (IntKind.u64.wrap (a2)))), .int .u64 (IntKind.u64.wrap ((IntKind.u64.wrap (a1)) * (IntKind.u64.wrap (a2))))] 24 (0, 0)) (by (with_reducible repeat (first | refine blk_drewN ?_ _ | refine blk_drew ?_ | refine blk_alloc ?_ _)); refine blk_put (cs := #[.int .u64 (IntKind.u64.wrap ((IntKind.u64.wrap (a0)) * (IntKind.u64.wrap (a2)))), .int .u64 0]) ?_ 1 _ rfl; (with_reducible repeat (first | refine blk_drewN ?_ _ | refine blk_drew ?_ | refine blk_alloc ?_ _)); refine blk_put (cs := #[.int .u64 0, .int .u64 0]) ?_ 0 _ rfl; (with_reducible repeat (first | refine blk_drewN ?_ _ | refine blk_drew ?_ | refine blk_alloc ?_ _)); exact BK272.out) hb); have n3_ := Aside0.mk (below_step (by repeat (first | (with_reducible first | exact HB.out | apply below_alloc | apply pw_below_drewN | apply below_drew1 | refine below_set ?_ GE269.out | refine below_set ?_ GE271.out | refine below_set ?_ GE272.out) | exact HB.out)) hb); clear BK269; clear BK271; clear BK272; clear HB; have BK269 := n0_; have BK271 := n1_; have BK272 := n2_; have HB := n3_; clear n0_ n1_ n2_ n3_; (try clear hb); (try clear hb2); (try clear hk); (try clear hi); have hcz64_0 : w63.cell? ⟨gb271, 0, none⟩ = some (.int .u64 (IntKind.u64.wrap (a0))) := (blk_cell BK271.out 0).trans rfl; have hcz64_1 : w63.cell? ⟨gb271, 1, none⟩ = some (.int .u64 (IntKind.u64.wrap (a1))) := (blk_cell BK271.out 1).trans rfl; have hfz64_0 := blk_frozen BK271.out 0; have hfz64_1 := blk_frozen BK271.out 1; have hcz65_0 : w63.cell? ⟨gb269, 0, none⟩ = some (.int .u64 a3_0) := (blk_cell BK269.out 0).trans rfl; have hcz65_1 : w63.cell? ⟨gb269, 1, none⟩ = some (.int .u64 a3_1) := (blk_cell BK269.out 1).trans rfl; have hfz65_0 := blk_frozen BK269.out 0; have hfz65_1 := blk_frozen BK269.out 1) | ((with_reducible refine gate_callee (f := 10) rfl ?_); refine goesL_ (some 44) rfl rfl Try.func10 (by kernel_rfl) rfl #[.agg #[.int .u64 (IntKind.u64.wrap (a0)), .int .u64 (IntKind.u64.wrap (a1))], .agg #[.int .u64 a3_0, .int .u64 a3_1]] rfl (by (try simp only [List.map_toArray, List.map_cons, List.map_nil]); first | done | rfl | (simp only [List.length_drop, List.length_take]; rfl)) ?_; (with_reducible refine (ratio_Cmp.calls k (IntKind.u64.wrap (a0)) (IntKind.u64.wrap (a1)) a3_0 a3_1 t275 t276 _ A7.out).mono ?_); rintro e w66 ⟨rfl, hb⟩; refine ⟨_, rfl, ?_⟩; have n0_ := Aside0.mk (blk_below (g := gb269) (o := .cells #[.int .u64 a3_0, .int .u64 a3_1] 24 (0, 0)) (by (with_reducible repeat (first | refine blk_drewN ?_ _ | refine blk_drew ?_ | refine blk_alloc ?_ _)); exact BK269.out) hb); have n1_ := Aside0.mk (blk_below (g := gb271) (o := .cells #[.int .u64 (IntKind.u64.wrap (a0)), .int .u64 (IntKind.u64.wrap (a1))] 24 (0, 0)) (by (with_reducible repeat (first | refine blk_drewN ?_ _ | refine blk_drew ?_ | refine blk_alloc ?_ _)); exact BK271.out) hb); have n2_ := Aside0.mk (blk_below (g := gb272) (o := .cells #[.int .u64 (IntKind.u64.wrap ((IntKind.u64.wrap (a0)) * (IntKind.u64.wrap (a2)))), .int .u64 (IntKind.u64.wrap ((IntKind.u64.wrap (a1)) * (IntKind.u64.wrap (a2))))] 24 (0, 0)) (by (with_reducible repeat (first | refine blk_drewN ?_ _ | refine blk_drew ?_ | refine blk_alloc ?_ _)); exact BK272.out) hb); have n3_ := Aside0.mk (below_step (by repeat (first | (with_reducible first | exact HB.out | apply below_alloc | apply pw_below_drewN | apply below_drew1 | refine below_set ?_ GE269.out | refine below_set ?_ GE271.out | refine below_set ?_ GE272.out) | exact HB.out)) hb); clear BK269; clear BK271; clear BK272; clear HB; have BK269 := n0_; have BK271 := n1_; have BK272 := n2_; have HB := n3_; clear n0_ n1_ n2_ n3_; (try clear hb); (try clear hb2); (try clear hk); (try clear hi); have hcz67_0 : w66.cell? ⟨gb272, 0, none⟩ = some (.int .u64 (IntKind.u64.wrap ((IntKind.u64.wrap (a0)) * (IntKind.u64.wrap (a2))))) := (blk_cell BK272.out 0).trans rfl; have hcz67_1 : w66.cell? ⟨gb272, 1, none⟩ = some (.int .u64 (IntKind.u64.wrap ((IntKind.u64.wrap (a1)) * (IntKind.u64.wrap (a2))))) := (blk_cell BK272.out 1).trans rfl; have hfz67_0 := blk_frozen BK272.out 0; have hfz67_1 := blk_frozen BK272.out 1; have hcz68_0 : w66.cell? ⟨gb269, 0, none⟩ = some (.int .u64 a3_0) := (blk_cell BK269.out 0).trans rfl; have hcz68_1 : w66.cell? ⟨gb269, 1, none⟩ = some (.int .u64 a3_1) := (blk_cell BK269.out 1).trans rfl; have hfz68_0 := blk_frozen BK269.out 0; have hfz68_1 := blk_frozen BK269.out 1) | ((with_reducible refine gate_callee (f := 10) rfl ?_); refine goesL_ (some 50) rfl rfl Try.func10 (by kernel_rfl) rfl #[.agg #[.int .u64 (IntKind.u64.wrap ((IntKind.u64.wrap (a0)) * (IntKind.u64.wrap (a2)))), .int .u64 (IntKind.u64.wrap ((IntKind.u64.wrap (a1)) * (IntKind.u64.wrap (a2))))], .agg #[.int .u64 a3_0, .int .u64 a3_1]] rfl (by (try simp only [List.map_toArray, List.map_cons, List.map_nil]); first | done | rfl | (simp only [List.length_drop, List.length_take]; rfl)) ?_; (with_reducible refine (ratio_Cmp.calls k (IntKind.u64.wrap ((IntKind.u64.wrap (a0)) * (IntKind.u64.wrap (a2)))) (IntKind.u64.wrap ((IntKind.u64.wrap (a1)) * (IntKind.u64.wrap (a2)))) a3_0 a3_1 t277 t278 _ A8.out).mono ?_); rintro e w69 ⟨rfl, hb⟩; refine ⟨_, rfl, ?_⟩; have n0_ := Aside0.mk (blk_below (g := gb269) (o := .cells #[.int .u64 a3_0, .int .u64 a3_1] 24 (0, 0)) (by (with_reducible repeat (first | refine blk_drewN ?_ _ | refine blk_drew ?_ | refine blk_alloc ?_ _)); exact BK269.out) hb); have n1_ := Aside0.mk (blk_below (g := gb271) (o := .cells #[.int .u64 (IntKind.u64.wrap (a0)), .int .u64 (IntKind.u64.wrap (a1))] 24 (0, 0)) (by (with_reducible repeat (first | refine blk_drewN ?_ _ | refine blk_drew ?_ | refine blk_alloc ?_ _)); exact BK271.out) hb); have n2_ := Aside0.mk (blk_below (g := gb272) (o := .cells #[.int .u64 (IntKind.u64.wrap ((IntKind.u64.wrap (a0)) * (IntKind.u64.wrap (a2)))), .int .u64 (IntKind.u64.wrap ((IntKind.u64.wrap (a1)) * (IntKind.u64.wrap (a2))))] 24 (0, 0)) (by (with_reducible repeat (first | refine blk_drewN ?_ _ | refine blk_drew ?_ | refine blk_alloc ?_ _)); exact BK272.out) hb); have n3_ := Aside0.mk (below_step (by repeat (first | (with_reducible first | exact HB.out | apply below_alloc | apply pw_below_drewN | apply below_drew1 | refine below_set ?_ GE269.out | refine below_set ?_ GE271.out | refine below_set ?_ GE272.out) | exact HB.out)) hb); clear BK269; clear BK271; clear BK272; clear HB; have BK269 := n0_; have BK271 := n1_; have BK272 := n2_; have HB := n3_; clear n0_ n1_ n2_ n3_; (try clear hb); (try clear hb2); (try clear hk); (try clear hi)) | (go_at_call 9; (with_reducible refine (linhaylaw03_awake.calls k  true _ A5.out).mono ?_); rintro e w54 ⟨rfl, hb⟩; have n0_ := Aside0.mk (blk_below (g := gb269) (o := .cells #[.int .u64 a3_0, .int .u64 a3_1] 24 (0, 0)) (by (with_reducible repeat (first | refine blk_drewN ?_ _ | refine blk_drew ?_ | refine blk_alloc ?_ _)); exact BK269.out) hb); have n1_ := Aside0.mk (below_step (by repeat (first | (with_reducible first | exact HB.out | apply below_alloc | apply pw_below_drewN | apply below_drew1 | refine below_set ?_ GE269.out) | exact HB.out)) hb); clear BK269; clear HB; have BK269 := n0_; have HB := n1_; clear n0_ n1_; (try clear hb); (try clear hb2); (try clear hk); (try clear hi)) | (go_at_call 10; (with_reducible refine (ratio_Cmp.calls k (IntKind.u64.wrap (a0)) (IntKind.u64.wrap (a1)) (IntKind.u64.wrap ((IntKind.u64.wrap (a0)) * (IntKind.u64.wrap (a2)))) (IntKind.u64.wrap ((IntKind.u64.wrap (a1)) * (IntKind.u64.wrap (a2)))) t273 t274 _ A6.out).mono ?_); rintro e w63 ⟨rfl, hb⟩; have n0_ := Aside0.mk (blk_below (g := gb269) (o := .cells #[.int .u64 a3_0, .int .u64 a3_1] 24 (0, 0)) (by (with_reducible repeat (first | refine blk_drewN ?_ _ | refine blk_drew ?_ | refine blk_alloc ?_ _)); refine blk_far ?_ NB269_272.out _; (with_reducible repeat (first | refine blk_drewN ?_ _ | refine blk_drew ?_ | refine blk_alloc ?_ _)); refine blk_far ?_ NB269_272.out _; (with_reducible repeat (first | refine blk_drewN ?_ _ | refine blk_drew ?_ | refine blk_alloc ?_ _)); exact BK269.out) hb); have n1_ := Aside0.mk (blk_below (g := gb271) (o := .cells #[.int .u64 (IntKind.u64.wrap (a0)), .int .u64 (IntKind.u64.wrap (a1))] 24 (0, 0)) (by (with_reducible repeat (first | refine blk_drewN ?_ _ | refine blk_drew ?_ | refine blk_alloc ?_ _)); refine blk_far ?_ NB271_272.out _; (with_reducible repeat (first | refine blk_drewN ?_ _ | refine blk_drew ?_ | refine blk_alloc ?_ _)); refine blk_far ?_ NB271_272.out _; (with_reducible repeat (first | refine blk_drewN ?_ _ | refine blk_drew ?_ | refine blk_alloc ?_ _)); exact BK271.out) hb); have n2_ := Aside0.mk (blk_below (g := gb272) (o := .cells #[.int .u64 (IntKind.u64.wrap ((IntKind.u64.wrap (a0)) * (IntKind.u64.wrap (a2)))), .int .u64 (IntKind.u64.wrap ((IntKind.u64.wrap (a1)) * (IntKind.u64.wrap (a2))))] 24 (0, 0)) (by (with_reducible repeat (first | refine blk_drewN ?_ _ | refine blk_drew ?_ | refine blk_alloc ?_ _)); refine blk_put (cs := #[.int .u64 (IntKind.u64.wrap ((IntKind.u64.wrap (a0)) * (IntKind.u64.wrap (a2)))), .int .u64 0]) ?_ 1 _ rfl; (with_reducible repeat (first | refine blk_drewN ?_ _ | refine blk_drew ?_ | refine blk_alloc ?_ _)); refine blk_put (cs := #[.int .u64 0, .int .u64 0]) ?_ 0 _ rfl; (with_reducible repeat (first | refine blk_drewN ?_ _ | refine blk_drew ?_ | refine blk_alloc ?_ _)); exact BK272.out) hb); have n3_ := Aside0.mk (below_step (by repeat (first | (with_reducible first | exact HB.out | apply below_alloc | apply pw_below_drewN | apply below_drew1 | refine below_set ?_ GE269.out | refine below_set ?_ GE271.out | refine below_set ?_ GE272.out) | exact HB.out)) hb); clear BK269; clear BK271; clear BK272; clear HB; have BK269 := n0_; have BK271 := n1_; have BK272 := n2_; have HB := n3_; clear n0_ n1_ n2_ n3_; (try clear hb); (try clear hb2); (try clear hk); (try clear hi); have hcz64_0 : w63.cell? ⟨gb271, 0, none⟩ = some (.int .u64 (IntKind.u64.wrap (a0))) := (blk_cell BK271.out 0).trans rfl; have hcz64_1 : w63.cell? ⟨gb271, 1, none⟩ = some (.int .u64 (IntKind.u64.wrap (a1))) := (blk_cell BK271.out 1).trans rfl; have hfz64_0 := blk_frozen BK271.out 0; have hfz64_1 := blk_frozen BK271.out 1; have hcz65_0 : w63.cell? ⟨gb269, 0, none⟩ = some (.int .u64 a3_0) := (blk_cell BK269.out 0).trans rfl; have hcz65_1 : w63.cell? ⟨gb269, 1, none⟩ = some (.int .u64 a3_1) := (blk_cell BK269.out 1).trans rfl; have hfz65_0 := blk_frozen BK269.out 0; have hfz65_1 := blk_frozen BK269.out 1) | (go_at_call 10; (with_reducible refine (ratio_Cmp.calls k (IntKind.u64.wrap (a0)) (IntKind.u64.wrap (a1)) a3_0 a3_1 t275 t276 _ A7.out).mono ?_); rintro e w66 ⟨rfl, hb⟩; have n0_ := Aside0.mk (blk_below (g := gb269) (o := .cells #[.int .u64 a3_0, .int .u64 a3_1] 24 (0, 0)) (by (with_reducible repeat (first | refine blk_drewN ?_ _ | refine blk_drew ?_ | refine blk_alloc ?_ _)); exact BK269.out) hb); have n1_ := Aside0.mk (blk_below (g := gb271) (o := .cells #[.int .u64 (IntKind.u64.wrap (a0)), .int .u64 (IntKind.u64.wrap (a1))] 24 (0, 0)) (by (with_reducible repeat (first | refine blk_drewN ?_ _ | refine blk_drew ?_ | refine blk_alloc ?_ _)); exact BK271.out) hb); have n2_ := Aside0.mk (blk_below (g := gb272) (o := .cells #[.int .u64 (IntKind.u64.wrap ((IntKind.u64.wrap (a0)) * (IntKind.u64.wrap (a2)))), .int .u64 (IntKind.u64.wrap ((IntKind.u64.wrap (a1)) * (IntKind.u64.wrap (a2))))] 24 (0, 0)) (by (with_reducible repeat (first | refine blk_drewN ?_ _ | refine blk_drew ?_ | refine blk_alloc ?_ _)); exact BK272.out) hb); have n3_ := Aside0.mk (below_step (by repeat (first | (with_reducible first | exact HB.out | apply below_alloc | apply pw_below_drewN | apply below_drew1 | refine below_set ?_ GE269.out | refine below_set ?_ GE271.out | refine below_set ?_ GE272.out) | exact HB.out)) hb); clear BK269; clear BK271; clear BK272; clear HB; have BK269 := n0_; have BK271 := n1_; have BK272 := n2_; have HB := n3_; clear n0_ n1_ n2_ n3_; (try clear hb); (try clear hb2); (try clear hk); (try clear hi); have hcz67_0 : w66.cell? ⟨gb272, 0, none⟩ = some (.int .u64 (IntKind.u64.wrap ((IntKind.u64.wrap (a0)) * (IntKind.u64.wrap (a2))))) := (blk_cell BK272.out 0).trans rfl; have hcz67_1 : w66.cell? ⟨gb272, 1, none⟩ = some (.int .u64 (IntKind.u64.wrap ((IntKind.u64.wrap (a1)) * (IntKind.u64.wrap (a2))))) := (blk_cell BK272.out 1).trans rfl; have hfz67_0 := blk_frozen BK272.out 0; have hfz67_1 := blk_frozen BK272.out 1; have hcz68_0 : w66.cell? ⟨gb269, 0, none⟩ = some (.int .u64 a3_0) := (blk_cell BK269.out 0).trans rfl; have hcz68_1 : w66.cell? ⟨gb269, 1, none⟩ = some (.int .u64 a3_1) := (blk_cell BK269.out 1).trans rfl; have hfz68_0 := blk_frozen BK269.out 0; have hfz68_1 := blk_frozen BK269.out 1) | (go_at_call 10; (with_reducible refine (ratio_Cmp.calls k (IntKind.u64.wrap ((IntKind.u64.wrap (a0)) * (IntKind.u64.wrap (a2)))) (IntKind.u64.wrap ((IntKind.u64.wrap (a1)) * (IntKind.u64.wrap (a2)))) a3_0 a3_1 t277 t278 _ A8.out).mono ?_); rintro e w69 ⟨rfl, hb⟩; have n0_ := Aside0.mk (blk_below (g := gb269) (o := .cells #[.int .u64 a3_0, .int .u64 a3_1] 24 (0, 0)) (by (with_reducible repeat (first | refine blk_drewN ?_ _ | refine blk_drew ?_ | refine blk_alloc ?_ _)); exact BK269.out) hb); have n1_ := Aside0.mk (blk_below (g := gb271) (o := .cells #[.int .u64 (IntKind.u64.wrap (a0)), .int .u64 (IntKind.u64.wrap (a1))] 24 (0, 0)) (by (with_reducible repeat (first | refine blk_drewN ?_ _ | refine blk_drew ?_ | refine blk_alloc ?_ _)); exact BK271.out) hb); have n2_ := Aside0.mk (blk_below (g := gb272) (o := .cells #[.int .u64 (IntKind.u64.wrap ((IntKind.u64.wrap (a0)) * (IntKind.u64.wrap (a2)))), .int .u64 (IntKind.u64.wrap ((IntKind.u64.wrap (a1)) * (IntKind.u64.wrap (a2))))] 24 (0, 0)) (by (with_reducible repeat (first | refine blk_drewN ?_ _ | refine blk_drew ?_ | refine blk_alloc ?_ _)); exact BK272.out) hb); have n3_ := Aside0.mk (below_step (by repeat (first | (with_reducible first | exact HB.out | apply below_alloc | apply pw_below_drewN | apply below_drew1 | refine below_set ?_ GE269.out | refine below_set ?_ GE271.out | refine below_set ?_ GE272.out) | exact HB.out)) hb); clear BK269; clear BK271; clear BK272; clear HB; have BK269 := n0_; have BK271 := n1_; have BK272 := n2_; have HB := n3_; clear n0_ n1_ n2_ n3_; (try clear hb); (try clear hb2); (try clear hk); (try clear hi)))
              go_ret
              exact ⟨by first | rfl | (simp [errW_none, errW_some] <;> rfl) | (simp [*, errW_none, errW_some] <;> rfl), by repeat (first | (with_reducible first | exact HB.out | apply below_alloc | apply pw_below_drewN | apply below_drew1 | refine below_set ?_ GE269.out | refine below_set ?_ GE271.out | refine below_set ?_ GE272.out) | exact HB.out)⟩
            · rw [if_neg c52] at H
              exact absurd H (by simp)
          · rw [if_neg c51] at H
            exact absurd H (by simp)
        · rw [if_neg c50] at H
          exact absurd H (by simp)
      · replace c49 := Bool.eq_false_iff.mpr c49
        subst c49
        have H1 : (none) = some r := by rw [if_neg (show ¬ (false = true) by decide)] at H; exact H
        clear H
        have H := H1
        clear H1
        exact absurd H (by simp)

end Go.Proofs.Ytnobdpenncfghaa.Print
