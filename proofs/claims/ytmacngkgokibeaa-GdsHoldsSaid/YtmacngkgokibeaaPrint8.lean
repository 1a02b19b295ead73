/- Lean functions that answer what Go functions of the translation answer, and the proofs of it. Written by a program of this session (wip/tools/seatprint.py), over contracts that it proved by hand. Conditions: those that each theorem says. -/
import Derived.Test.YtmacngkgokibeaaPrint0
import Derived.Test.YtmacngkgokibeaaPrint5
import Derived.Test.YtmacngkgokibeaaPrint7
namespace Go.Proofs.Ytmacngkgokibeaa.Print
open Go.RowKit Go.Proofs.YtmacngkgokibeaaW.PrintWords Go.Proofs.YtmacngkgokibeaaW.PrintLast Go.Proofs.YtmacngkgokibeaaW.PrintMore
attribute [local go_sem] max2_int min2_int max_two min_two max_three min_three max_four min_four   -- for this text's walks alone
set_option linter.unusedVariables false
set_option linter.unusedSimpArgs false

/-! ### linhaylaw18_GdsHolds: function 4 -/
mutual
def linhaylaw18_GdsHolds.l0 : Nat → Int → List Int → List Int → Bool → List (S40) → List Bool → Int → Int → Option (Bool)
  | 0, _, _, _, _, _, _, _, _ => none
  | k + 1, x0, x1, x3, x9, x10, x12, x13, x14 => if x14 < (x10.length : Int) then (if 0 ≤ x14 then (if x14 < (x3.length : Int) then (linhaylaw18_GdsHolds.l1 k x0 x1 x3 x9 x10 x12 x13 x14 (rd x3 x14) 0 0) else (none)) else (none)) else (some x9)
def linhaylaw18_GdsHolds.l1 : Nat → Int → List Int → List Int → Bool → List (S40) → List Bool → Int → Int → Int → Int → Int → Option (Bool)
  | 0, _, _, _, _, _, _, _, _, _, _, _ => none
  | k + 1, x0, x1, x3, x9, x10, x12, x13, x14, x15, x16, x17 => if 0 ≤ x14 then (if x14 < (x10.length : Int) then (if x17 < (((rd_T40 x10 x14).f1).length : Int) then (if 0 ≤ x17 then (if (rd ((rd_T40 x10 x14).f1) x17) < 0 then (none) else (if (rd ((rd_T40 x10 x14).f1) x17) ≥ (x12.length : Int) then (none) else (if 0 ≤ (rd ((rd_T40 x10 x14).f1) x17) then (if (rd ((rd_T40 x10 x14).f1) x17) < (x12.length : Int) then (if (rdOf false x12 (rd ((rd_T40 x10 x14).f1) x17) = true) then (if (rd_T40 x10 x14).f0 = true then (none) else (if (rd ((rd_T40 x10 x14).f1) x17) < (x1.length : Int) then (linhaylaw18_GdsHolds.l1 k x0 x1 x3 x9 x10 (x12.set ((rd ((rd_T40 x10 x14).f1) x17) : Int).toNat false) (wrap64 (x13 - (rd x1 (rd ((rd_T40 x10 x14).f1) x17)))) x14 x15 (rd x1 (rd ((rd_T40 x10 x14).f1) x17)) (wrap64 (x17 + 1))) else (none))) else (none)) else (none)) else (none)))) else (none)) else (if 0 ≤ x15 then (if x15 < (x12.length : Int) then (if (((rd_T40 x10 x14).f0) != (rdOf false x12 x15)) = true then (linhaylaw18_GdsHolds.j2 k x0 x1 x3 x9 x10 x12 x13 x14 x15 true) else (if x16 > 0 then (if x15 < (x1.length : Int) then (linhaylaw18_GdsHolds.j2 k x0 x1 x3 x9 x10 x12 x13 x14 x15 (decide ((wrap64 ((wrap64 (x13 + x16)) + (rd x1 x15))) ≤ x0))) else (none)) else (linhaylaw18_GdsHolds.j2 k x0 x1 x3 x9 x10 x12 x13 x14 x15 false))) else (none)) else (none))) else (none)) else (none)
def linhaylaw18_GdsHolds.j2 : Nat → Int → List Int → List Int → Bool → List (S40) → List Bool → Int → Int → Int → Bool → Option (Bool)
  | 0, _, _, _, _, _, _, _, _, _, _ => none
  | k + 1, x0, x1, x3, x9, x10, x12, x13, x14, x15, x138 => if x138 = true then (none) else (if 0 ≤ x14 then (if x14 < (x10.length : Int) then (if ((rd_T40 x10 x14).f0 = true) then (linhaylaw18_GdsHolds.j3 k x0 x1 x3 x9 x10 x12 x13 x14 x15 false) else (if 0 ≤ x15 then (if x15 < (x1.length : Int) then (linhaylaw18_GdsHolds.j3 k x0 x1 x3 x9 x10 x12 x13 x14 x15 (decide ((rd x1 x15) ≤ x0))) else (none)) else (none))) else (none)) else (none))
def linhaylaw18_GdsHolds.j3 : Nat → Int → List Int → List Int → Bool → List (S40) → List Bool → Int → Int → Int → Bool → Option (Bool)
  | 0, _, _, _, _, _, _, _, _, _, _ => none
  | k + 1, x0, x1, x3, x9, x10, x12, x13, x14, x15, x152 => if x152 = true then (if 0 ≤ x15 then (if x15 < (x12.length : Int) then (if x15 < (x1.length : Int) then (if (wrap64 (x13 + (rd x1 x15))) > x0 then (none) else (linhaylaw18_GdsHolds.l0 k x0 x1 x3 x9 x10 (x12.set (x15 : Int).toNat true) (wrap64 (x13 + (rd x1 x15))) (wrap64 (x14 + 1)))) else (none)) else (none)) else (none)) else (if x13 > x0 then (none) else (linhaylaw18_GdsHolds.l0 k x0 x1 x3 x9 x10 x12 x13 (wrap64 (x14 + 1))))
end
def linhaylaw18_GdsHolds.f (k : Nat) (a0 : Int) (l1 : List Int) (l2 : List Int) (l3 : List Int) : Option (Bool) := (linhaylaw18_awake.f k).bind fun t174 => ((linhaylaw18_few.f l1 l2 l3).bind fun t175 => (if t175 = true then ((gds_Run.f k a0 l1 l2 l3).bind fun bt176 => (if bt176.2 = 0 then (if (bt176.1.length : Int) = (l3.length : Int) then (if 0 ≤ (l1.length : Int) then (if ((l1.length : Int) : Int).toNat ≤ 281474976710656 then (linhaylaw18_GdsHolds.l0 k a0 l1 l3 t174 bt176.1 (List.replicate ((l1.length : Int) : Int).toNat false) 0 0) else (none)) else (none)) else (none)) else (if t174 = true then (some ((bt176.1.length : Int) == 0)) else (none)))) else (some t174)))
theorem linhaylaw18_GdsHolds.mono_l : ∀ k, (∀ y0 y1 y2 y3 y4 y5 y6 y7, LeO (linhaylaw18_GdsHolds.l0 k y0 y1 y2 y3 y4 y5 y6 y7) (linhaylaw18_GdsHolds.l0 (k + 1) y0 y1 y2 y3 y4 y5 y6 y7)) ∧ (∀ y0 y1 y2 y3 y4 y5 y6 y7 y8 y9 y10, LeO (linhaylaw18_GdsHolds.l1 k y0 y1 y2 y3 y4 y5 y6 y7 y8 y9 y10) (linhaylaw18_GdsHolds.l1 (k + 1) y0 y1 y2 y3 y4 y5 y6 y7 y8 y9 y10)) ∧ (∀ y0 y1 y2 y3 y4 y5 y6 y7 y8 y9, LeO (linhaylaw18_GdsHolds.j2 k y0 y1 y2 y3 y4 y5 y6 y7 y8 y9) (linhaylaw18_GdsHolds.j2 (k + 1) y0 y1 y2 y3 y4 y5 y6 y7 y8 y9)) ∧ (∀ y0 y1 y2 y3 y4 y5 y6 y7 y8 y9, LeO (linhaylaw18_GdsHolds.j3 k y0 y1 y2 y3 y4 y5 y6 y7 y8 y9) (linhaylaw18_GdsHolds.j3 (k + 1) y0 y1 y2 y3 y4 y5 y6 y7 y8 y9))
  | 0 => ⟨fun _ _ _ _ _ _ _ _ r h => by simp [linhaylaw18_GdsHolds.l0] at h, fun _ _ _ _ _ _ _ _ _ _ _ r h => by simp [linhaylaw18_GdsHolds.l1] at h, fun _ _ _ _ _ _ _ _ _ _ r h => by simp [linhaylaw18_GdsHolds.j2] at h, fun _ _ _ _ _ _ _ _ _ _ r h => by simp [linhaylaw18_GdsHolds.j3] at h⟩
  | k + 1 => by
    obtain ⟨ih0, ih1, ih2, ih3⟩ := linhaylaw18_GdsHolds.mono_l k
    refine ⟨?_, ?_, ?_, ?_⟩
    · intro y0 y1 y2 y3 y4 y5 y6 y7
      unfold linhaylaw18_GdsHolds.l0
      repeat' first
      | (with_reducible exact ih0 _ _ _ _ _ _ _ _)
      | (with_reducible exact ih1 _ _ _ _ _ _ _ _ _ _ _)
      | (with_reducible exact ih2 _ _ _ _ _ _ _ _ _ _)
      | (with_reducible exact ih3 _ _ _ _ _ _ _ _ _ _)
      | (with_reducible exact gds_Run.mono _ _ _ _ _)
      | (with_reducible exact linhaylaw18_awake.mono _)
      | (with_reducible exact LeO.refl _)
      | (with_reducible exact LeO.none _)
      | (with_reducible refine LeO.ite ?_ ?_)
      | (with_reducible refine LeO.bind ?_ (fun _ => ?_))
      | exact ih0 _ _ _ _ _ _ _ _
      | exact ih1 _ _ _ _ _ _ _ _ _ _ _
      | exact ih2 _ _ _ _ _ _ _ _ _ _
      | exact ih3 _ _ _ _ _ _ _ _ _ _
      | exact gds_Run.mono _ _ _ _ _
      | exact linhaylaw18_awake.mono _
      | exact LeO.none _
      | refine LeO.ite ?_ ?_
      | refine LeO.bind ?_ (fun _ => ?_)
    · intro y0 y1 y2 y3 y4 y5 y6 y7 y8 y9 y10
      unfold linhaylaw18_GdsHolds.l1
      repeat' first
      | (with_reducible exact ih0 _ _ _ _ _ _ _ _)
      | (with_reducible exact ih1 _ _ _ _ _ _ _ _ _ _ _)
      | (with_reducible exact ih2 _ _ _ _ _ _ _ _ _ _)
      | (with_reducible exact ih3 _ _ _ _ _ _ _ _ _ _)
      | (with_reducible exact gds_Run.mono _ _ _ _ _)
      | (with_reducible exact linhaylaw18_awake.mono _)
      | (with_reducible exact LeO.refl _)
      | (with_reducible exact LeO.none _)
      | (with_reducible refine LeO.ite ?_ ?_)
      | (with_reducible refine LeO.bind ?_ (fun _ => ?_))
      | exact ih0 _ _ _ _ _ _ _ _
      | exact ih1 _ _ _ _ _ _ _ _ _ _ _
      | exact ih2 _ _ _ _ _ _ _ _ _ _
      | exact ih3 _ _ _ _ _ _ _ _ _ _
      | exact gds_Run.mono _ _ _ _ _
      | exact linhaylaw18_awake.mono _
      | exact LeO.none _
      | refine LeO.ite ?_ ?_
      | refine LeO.bind ?_ (fun _ => ?_)
    · intro y0 y1 y2 y3 y4 y5 y6 y7 y8 y9
      unfold linhaylaw18_GdsHolds.j2
      repeat' first
      | (with_reducible exact ih0 _ _ _ _ _ _ _ _)
      | (with_reducible exact ih1 _ _ _ _ _ _ _ _ _ _ _)
      | (with_reducible exact ih2 _ _ _ _ _ _ _ _ _ _)
      | (with_reducible exact ih3 _ _ _ _ _ _ _ _ _ _)
      | (with_reducible exact gds_Run.mono _ _ _ _ _)
      | (with_reducible exact linhaylaw18_awake.mono _)
      | (with_reducible exact LeO.refl _)
      | (with_reducible exact LeO.none _)
      | (with_reducible refine LeO.ite ?_ ?_)
      | (with_reducible refine LeO.bind ?_ (fun _ => ?_))
      | exact ih0 _ _ _ _ _ _ _ _
      | exact ih1 _ _ _ _ _ _ _ _ _ _ _
      | exact ih2 _ _ _ _ _ _ _ _ _ _
      | exact ih3 _ _ _ _ _ _ _ _ _ _
      | exact gds_Run.mono _ _ _ _ _
      | exact linhaylaw18_awake.mono _
      | exact LeO.none _
      | refine LeO.ite ?_ ?_
      | refine LeO.bind ?_ (fun _ => ?_)
    · intro y0 y1 y2 y3 y4 y5 y6 y7 y8 y9
      unfold linhaylaw18_GdsHolds.j3
      repeat' first
      | (with_reducible exact ih0 _ _ _ _ _ _ _ _)
      | (with_reducible exact ih1 _ _ _ _ _ _ _ _ _ _ _)
      | (with_reducible exact ih2 _ _ _ _ _ _ _ _ _ _)
      | (with_reducible exact ih3 _ _ _ _ _ _ _ _ _ _)
      | (with_reducible exact gds_Run.mono _ _ _ _ _)
      | (with_reducible exact linhaylaw18_awake.mono _)
      | (with_reducible exact LeO.refl _)
      | (with_reducible exact LeO.none _)
      | (with_reducible refine LeO.ite ?_ ?_)
      | (with_reducible refine LeO.bind ?_ (fun _ => ?_))
      | exact ih0 _ _ _ _ _ _ _ _
      | exact ih1 _ _ _ _ _ _ _ _ _ _ _
      | exact ih2 _ _ _ _ _ _ _ _ _ _
      | exact ih3 _ _ _ _ _ _ _ _ _ _
      | exact gds_Run.mono _ _ _ _ _
      | exact linhaylaw18_awake.mono _
      | exact LeO.none _
      | refine LeO.ite ?_ ?_
      | refine LeO.bind ?_ (fun _ => ?_)
theorem linhaylaw18_GdsHolds.mono : ∀ a0 a1 a2 a3 k, LeO (linhaylaw18_GdsHolds.f k a0 a1 a2 a3) (linhaylaw18_GdsHolds.f (k + 1) a0 a1 a2 a3) := by
  intro a0 a1 a2 a3 k
  obtain ⟨ih0, ih1, ih2, ih3⟩ := linhaylaw18_GdsHolds.mono_l k
  unfold linhaylaw18_GdsHolds.f
  repeat' first
      | (with_reducible exact ih0 _ _ _ _ _ _ _ _)
      | (with_reducible exact ih1 _ _ _ _ _ _ _ _ _ _ _)
      | (with_reducible exact ih2 _ _ _ _ _ _ _ _ _ _)
      | (with_reducible exact ih3 _ _ _ _ _ _ _ _ _ _)
      | (with_reducible exact gds_Run.mono _ _ _ _ _)
      | (with_reducible exact linhaylaw18_awake.mono _)
      | (with_reducible exact LeO.refl _)
      | (with_reducible exact LeO.none _)
      | (with_reducible refine LeO.ite ?_ ?_)
      | (with_reducible refine LeO.bind ?_ (fun _ => ?_))
      | exact ih0 _ _ _ _ _ _ _ _
      | exact ih1 _ _ _ _ _ _ _ _ _ _ _
      | exact ih2 _ _ _ _ _ _ _ _ _ _
      | exact ih3 _ _ _ _ _ _ _ _ _ _
      | exact gds_Run.mono _ _ _ _ _
      | exact linhaylaw18_awake.mono _
      | exact LeO.none _
      | refine LeO.ite ?_ ?_
      | refine LeO.bind ?_ (fun _ => ?_)
set_option maxHeartbeats 8000000 in
set_option maxRecDepth 100000 in
theorem linhaylaw18_GdsHolds.calls (k : Nat) (a0 : Int) (A1 : Option Addr) (c1 : Nat) (l1 : List Int) (A2 : Option Addr) (c2 : Nat) (l2 : List Int) (A3 : Option Addr) (c3 : Nat) (l3 : List Int) (r : Bool) (w : World) (hr1 : Kd.C (Kd.int .i64) w A1 l1.length l1) (hc1 : l1.length ≤ c1) (hr2 : Kd.C (Kd.int .i64) w A2 l2.length l2) (hc2 : l2.length ≤ c2) (hr3 : Kd.C (Kd.int .i64) w A3 l3.length l3) (hc3 : l3.length ≤ c3) (h : linhaylaw18_GdsHolds.f k a0 l1 l2 l3 = some r) :
    Calls Try.prog 4 #[.int .i64 a0, .slice A1 l1.length c1, .slice A2 l2.length c2, .slice A3 l3.length c3] w fun e w' => e = .returned (.bool r) ∧ Below w.heap.size w w' := by
  have HR1 := Aside0.mk hr1
  have HC1 := Aside0.mk hc1
  clear hr1 hc1
  have HR2 := Aside0.mk hr2
  have HC2 := Aside0.mk hc2
  clear hr2 hc2
  have HR3 := Aside0.mk hr3
  have HC3 := Aside0.mk hc3
  clear hr3 hc3
  have HB := Aside0.mk (Below.refl w.heap.size w)
  have H : ((linhaylaw18_awake.f k).bind fun t174 => ((linhaylaw18_few.f l1 l2 l3).bind fun t175 => (if t175 = true then ((gds_Run.f k a0 l1 l2 l3).bind fun bt176 => (if bt176.2 = 0 then (if (bt176.1.length : Int) = (l3.length : Int) then (if 0 ≤ (l1.length : Int) then (if ((l1.length : Int) : Int).toNat ≤ 281474976710656 then (linhaylaw18_GdsHolds.l0 k a0 l1 l3 t174 bt176.1 (List.replicate ((l1.length : Int) : Int).toNat false) 0 0) else (none)) else (none)) else (none)) else (if t174 = true then (some ((bt176.1.length : Int) == 0)) else (none)))) else (some t174)))) = some r := h
  clear h
  replace H := Option.bind_eq_some_iff.mp H
  obtain ⟨t174, A50, H⟩ := H
  replace H : ((linhaylaw18_few.f l1 l2 l3).bind fun t175 => (if t175 = true then ((gds_Run.f k a0 l1 l2 l3).bind fun bt176 => (if bt176.2 = 0 then (if (bt176.1.length : Int) = (l3.length : Int) then (if 0 ≤ (l1.length : Int) then (if ((l1.length : Int) : Int).toNat ≤ 281474976710656 then (linhaylaw18_GdsHolds.l0 k a0 l1 l3 t174 bt176.1 (List.replicate ((l1.length : Int) : Int).toNat false) 0 0) else (none)) else (none)) else (none)) else (if t174 = true then (some ((bt176.1.length : Int) == 0)) else (none)))) else (some t174))) = some r := H
  have A5 := Aside0.mk A50
  clear A50
  replace H := Option.bind_eq_some_iff.mp H
  obtain ⟨t175, A60, H⟩ := H
  replace H : (if t175 = true then ((gds_Run.f k a0 l1 l2 l3).bind fun bt176 => (if bt176.2 = 0 then (if (bt176.1.length : Int) = (l3.length : Int) then (if 0 ≤ (l1.length : Int) then (if ((l1.length : Int) : Int).toNat ≤ 281474976710656 then (linhaylaw18_GdsHolds.l0 k a0 l1 l3 t174 bt176.1 (List.replicate ((l1.length : Int) : Int).toNat false) 0 0) else (none)) else (none)) else (none)) else (if t174 = true then (some ((bt176.1.length : Int) == 0)) else (none)))) else (some t174)) = some r := H
  have A6 := Aside0.mk A60
  clear A60
  by_cases c7 : t175 = true
  · subst c7
    have H1 : ((gds_Run.f k a0 l1 l2 l3).bind fun bt176 => (if bt176.2 = 0 then (if (bt176.1.length : Int) = (l3.length : Int) then (if 0 ≤ (l1.length : Int) then (if ((l1.length : Int) : Int).toNat ≤ 281474976710656 then (linhaylaw18_GdsHolds.l0 k a0 l1 l3 t174 bt176.1 (List.replicate ((l1.length : Int) : Int).toNat false) 0 0) else (none)) else (none)) else (none)) else (if t174 = true then (some ((bt176.1.length : Int) == 0)) else (none)))) = some r := by rw [if_pos rfl] at H; exact H
    clear H
    have H := H1
    clear H1
    replace H := Option.bind_eq_some_iff.mp H
    obtain ⟨⟨t176, t177⟩, A80, H⟩ := H
    replace H : (if t177 = 0 then (if (t176.length : Int) = (l3.length : Int) then (if 0 ≤ (l1.length : Int) then (if ((l1.length : Int) : Int).toNat ≤ 281474976710656 then (linhaylaw18_GdsHolds.l0 k a0 l1 l3 t174 t176 (List.replicate ((l1.length : Int) : Int).toNat false) 0 0) else (none)) else (none)) else (none)) else (if t174 = true then (some ((t176.length : Int) == 0)) else (none))) = some r := H
    have A8 := Aside0.mk A80
    clear A80
    by_cases c9 : t177 = 0
    · rw [if_pos c9] at H
      have c9b0 : (t177 == 0) = true := beq_iff_eq.mpr c9
      have c9b1 : (t177 != 0) = false := bne_eq_false_iff_eq.mpr c9
      clear c9
      by_cases c10 : (t176.length : Int) = (l3.length : Int)
      · rw [if_pos c10] at H
        have c10b0 : ((t176.length : Int) == (l3.length : Int)) = true := beq_iff_eq.mpr c10
        have c10b1 : ((t176.length : Int) != (l3.length : Int)) = false := bne_eq_false_iff_eq.mpr c10
        have c10b2 : (t176.length == l3.length) = true := by first | simpa using c10 | (simp at c10 ⊢; omega)
        clear c10
        by_cases c11 : 0 ≤ (l1.length : Int)
        · rw [if_pos c11] at H
          have c11b0 := eq_true c11
          have c11b1 : decide (0 ≤ (l1.length : Int)) = true := decide_eq_true c11
          clear c11
          by_cases c12 : ((l1.length : Int) : Int).toNat ≤ 281474976710656
          · rw [if_pos c12] at H
            have c12b0 := eq_true c12
            have c12b1 : decide (((l1.length : Int) : Int).toNat ≤ 281474976710656) = true := decide_eq_true c12
            clear c12
            obtain ⟨y180, hy180⟩ : ∃ y_ : List Bool, y_ = (List.replicate ((l1.length : Int) : Int).toNat false) := ⟨_, rfl⟩
            replace H : (linhaylaw18_GdsHolds.l0 k a0 l1 l3 t174 t176 y180 0 0) = some r := by first | (rw [hy180]; with_reducible exact H) | (have H2_ := (Option.bind_some _ _).symm.trans H; rw [hy180]; with_reducible exact H2_) | (have H2_ := (Option.bind_some _ _).symm.trans H; with_reducible exact H2_) | with_reducible exact H | (rw [hy180]; exact H) | exact H
            have Ny180 := Aside0.mk hy180
            clear hy180
            have H' := Aside0.mk H
            clear H
            go_enter Try.func4, Try.ntmps4
            go_wp2_with (first | (go_at_call 8; (with_reducible refine (linhaylaw18_awake.calls k  t174 _ A5.out).mono ?_); rintro e w13 ⟨rfl, hb⟩; have n0_ := Aside0.mk (below_step (by repeat (first | (with_reducible first | exact HB.out | apply below_alloc | apply pw_below_drewN | apply below_drew1) | exact HB.out)) hb); clear HB; have HB := n0_; clear n0_; (try clear hb); (try clear hb2); (try clear hk); (try clear hi)) | (go_at_call 9; (with_reducible refine (linhaylaw18_few.calls _ _ l1 _ _ l2 _ _ l3 true _ ?side1 ?side2 ?side3 ?side4 ?side5 ?side6 A6.out).mono ?_); (case side1 => repeat (first | exact (Kd.C_below HR1.out HB.out) | (with_reducible refine Kd.C_alloc ?_ _) | (with_reducible refine Kd.C_drewN ?_ _) | (with_reducible refine Kd.C_drew ?_))); (case side2 => exact HC1.out); (case side3 => repeat (first | exact (Kd.C_below HR2.out HB.out) | (with_reducible refine Kd.C_alloc ?_ _) | (with_reducible refine Kd.C_drewN ?_ _) | (with_reducible refine Kd.C_drew ?_))); (case side4 => exact HC2.out); (case side5 => repeat (first | exact (Kd.C_below HR3.out HB.out) | (with_reducible refine Kd.C_alloc ?_ _) | (with_reducible refine Kd.C_drewN ?_ _) | (with_reducible refine Kd.C_drew ?_))); (case side6 => exact HC3.out); rintro e w' ⟨rfl, ⟨nd, rfl⟩⟩; (try first | exact ⟨rfl, _, World.drewN_drewN _ _ _⟩ | exact ⟨rfl, _, Eq.trans (World.drewN_drewN _ _ _) (congrArg (World.drewN _) (Nat.add_assoc _ _ _))⟩)) | (go_at_call 10; (with_reducible refine (gds_Run.calls k a0 _ _ l1 _ _ l2 _ _ l3 t176 t177 _ ?side1 ?side2 ?side3 ?side4 ?side5 ?side6 A8.out).mono ?_); (case side1 => repeat (first | exact (Kd.C_below HR1.out (by repeat (first | (with_reducible first | exact HB.out | apply below_alloc | apply pw_below_drewN | apply below_drew1) | exact HB.out))) | (with_reducible refine Kd.C_alloc ?_ _) | (with_reducible refine Kd.C_drewN ?_ _) | (with_reducible refine Kd.C_drew ?_))); (case side2 => exact HC1.out); (case side3 => repeat (first | exact (Kd.C_below HR2.out (by repeat (first | (with_reducible first | exact HB.out | apply below_alloc | apply pw_below_drewN | apply below_drew1) | exact HB.out))) | (with_reducible refine Kd.C_alloc ?_ _) | (with_reducible refine Kd.C_drewN ?_ _) | (with_reducible refine Kd.C_drew ?_))); (case side4 => exact HC2.out); (case side5 => repeat (first | exact (Kd.C_below HR3.out (by repeat (first | (with_reducible first | exact HB.out | apply below_alloc | apply pw_below_drewN | apply below_drew1) | exact HB.out))) | (with_reducible refine Kd.C_alloc ?_ _) | (with_reducible refine Kd.C_drewN ?_ _) | (with_reducible refine Kd.C_drew ?_))); (case side6 => exact HC3.out); rintro e w14 ⟨v178, rfl, ho0, hb⟩; have n0_ := Aside0.mk (Kd.S_lower ho0 (below_size (by repeat (first | (with_reducible first | exact HB.out | apply below_alloc | apply pw_below_drewN | apply below_drew1) | exact HB.out)))); have n1_ := Aside0.mk (below_step (by repeat (first | (with_reducible first | exact HB.out | apply below_alloc | apply pw_below_drewN | apply below_drew1) | exact HB.out)) hb); clear HB; have HO179 := n0_; have HB := n1_; clear n0_ n1_; (try clear hb); (try clear hb2); (try clear hk); (try clear hi); (try clear ho0); obtain ⟨Ao15, co15, eo15⟩ := Kd.S_slice HO179.out; subst eo15) | ((with_reducible refine gate_dst (N := 49) rfl ?_); (try (refine gate_guard (by rfl) ?_; dsimp only)); refine Kd.R_make Kd.bool _ 4 rfl (N := 49) rfl 38 _ _ rfl (l1.length : Int) rfl rfl Try.underlying38 (.bool false) 1 info4 rfl (by decide) (by omega) false (ok := fun _ => True) (okp := fun _ => True) rfl (fun _ hk => hk) trivial (of_decide_eq_true (by first | (with_reducible assumption) | assumption)) (Nat.le_trans (Nat.mul_le_mul_right _ (of_decide_eq_true (by first | (with_reducible assumption) | assumption) : (l1.length : Int).toNat ≤ 281474976710656)) (by omega)) (Below.refl _ _) (Nat.le_refl _) ?_; intro v181 w16 ho17 hb hg_ hnew_; clear hg_ hnew_; (first | rw [← Ny180.out] at ho17 | (simp only [Int.reduceToNat] at ho17; rw [← Ny180.out] at ho17)); have n0_ := Aside0.mk (Kd.S_below (by (with_reducible repeat (first | apply Kd.S_alloc | apply Kd.S_drewN | apply Kd.S_drew)); exact HO179.out) hb); have n1_ := Aside0.mk (Kd.R_lower ho17 (below_size (by repeat (first | (with_reducible first | exact HB.out | apply below_alloc | apply pw_below_drewN | apply below_drew1) | exact HB.out)))); have n2_ := Aside0.mk (below_step (by repeat (first | (with_reducible first | exact HB.out | apply below_alloc | apply pw_below_drewN | apply below_drew1) | exact HB.out)) hb); clear HO179; clear HB; have HO179 := n0_; have HO182 := n1_; have HB := n2_; clear n0_ n1_ n2_; clear hb ho17))
            repeat (go_quiet (first | (go_at_call 8; (with_reducible refine (linhaylaw18_awake.calls k  t174 _ A5.out).mono ?_); rintro e w13 ⟨rfl, hb⟩; have n0_ := Aside0.mk (below_step (by repeat (first | (with_reducible first | exact HB.out | apply below_alloc | apply pw_below_drewN | apply below_drew1) | exact HB.out)) hb); clear HB; have HB := n0_; clear n0_; (try clear hb); (try clear hb2); (try clear hk); (try clear hi)) | (go_at_call 9; (with_reducible refine (linhaylaw18_few.calls _ _ l1 _ _ l2 _ _ l3 true _ ?side1 ?side2 ?side3 ?side4 ?side5 ?side6 A6.out).mono ?_); (case side1 => repeat (first | exact (Kd.C_below HR1.out HB.out) | (with_reducible refine Kd.C_alloc ?_ _) | (with_reducible refine Kd.C_drewN ?_ _) | (with_reducible refine Kd.C_drew ?_))); (case side2 => exact HC1.out); (case side3 => repeat (first | exact (Kd.C_below HR2.out HB.out) | (with_reducible refine Kd.C_alloc ?_ _) | (with_reducible refine Kd.C_drewN ?_ _) | (with_reducible refine Kd.C_drew ?_))); (case side4 => exact HC2.out); (case side5 => repeat (first | exact (Kd.C_below HR3.out HB.out) | (with_reducible refine Kd.C_alloc ?_ _) | (with_reducible refine Kd.C_drewN ?_ _) | (with_reducible refine Kd.C_drew ?_))); (case side6 => exact HC3.out); rintro e w' ⟨rfl, ⟨nd, rfl⟩⟩; (try first | exact ⟨rfl, _, World.drewN_drewN _ _ _⟩ | exact ⟨rfl, _, Eq.trans (World.drewN_drewN _ _ _) (congrArg (World.drewN _) (Nat.add_assoc _ _ _))⟩)) | (go_at_call 10; (with_reducible refine (gds_Run.calls k a0 _ _ l1 _ _ l2 _ _ l3 t176 t177 _ ?side1 ?side2 ?side3 ?side4 ?side5 ?side6 A8.out).mono ?_); (case side1 => repeat (first | exact (Kd.C_below HR1.out (by repeat (first | (with_reducible first | exact HB.out | apply below_alloc | apply pw_below_drewN | apply below_drew1) | exact HB.out))) | (with_reducible refine Kd.C_alloc ?_ _) | (with_reducible refine Kd.C_drewN ?_ _) | (with_reducible refine Kd.C_drew ?_))); (case side2 => exact HC1.out); (case side3 => repeat (first | exact (Kd.C_below HR2.out (by repeat (first | (with_reducible first | exact HB.out | apply below_alloc | apply pw_below_drewN | apply below_drew1) | exact HB.out))) | (with_reducible refine Kd.C_alloc ?_ _) | (with_reducible refine Kd.C_drewN ?_ _) | (with_reducible refine Kd.C_drew ?_))); (case side4 => exact HC2.out); (case side5 => repeat (first | exact (Kd.C_below HR3.out (by repeat (first | (with_reducible first | exact HB.out | apply below_alloc | apply pw_below_drewN | apply below_drew1) | exact HB.out))) | (with_reducible refine Kd.C_alloc ?_ _) | (with_reducible refine Kd.C_drewN ?_ _) | (with_reducible refine Kd.C_drew ?_))); (case side6 => exact HC3.out); rintro e w14 ⟨v178, rfl, ho0, hb⟩; have n0_ := Aside0.mk (Kd.S_lower ho0 (below_size (by repeat (first | (with_reducible first | exact HB.out | apply below_alloc | apply pw_below_drewN | apply below_drew1) | exact HB.out)))); have n1_ := Aside0.mk (below_step (by repeat (first | (with_reducible first | exact HB.out | apply below_alloc | apply pw_below_drewN | apply below_drew1) | exact HB.out)) hb); clear HB; have HO179 := n0_; have HB := n1_; clear n0_ n1_; (try clear hb); (try clear hb2); (try clear hk); (try clear hi); (try clear ho0); obtain ⟨Ao15, co15, eo15⟩ := Kd.S_slice HO179.out; subst eo15) | ((with_reducible refine gate_dst (N := 49) rfl ?_); (try (refine gate_guard (by rfl) ?_; dsimp only)); refine Kd.R_make Kd.bool _ 4 rfl (N := 49) rfl 38 _ _ rfl (l1.length : Int) rfl rfl Try.underlying38 (.bool false) 1 info4 rfl (by decide) (by omega) false (ok := fun _ => True) (okp := fun _ => True) rfl (fun _ hk => hk) trivial (of_decide_eq_true (by first | (with_reducible assumption) | assumption)) (Nat.le_trans (Nat.mul_le_mul_right _ (of_decide_eq_true (by first | (with_reducible assumption) | assumption) : (l1.length : Int).toNat ≤ 281474976710656)) (by omega)) (Below.refl _ _) (Nat.le_refl _) ?_; intro v181 w16 ho17 hb hg_ hnew_; clear hg_ hnew_; (first | rw [← Ny180.out] at ho17 | (simp only [Int.reduceToNat] at ho17; rw [← Ny180.out] at ho17)); have n0_ := Aside0.mk (Kd.S_below (by (with_reducible repeat (first | apply Kd.S_alloc | apply Kd.S_drewN | apply Kd.S_drew)); exact HO179.out) hb); have n1_ := Aside0.mk (Kd.R_lower ho17 (below_size (by repeat (first | (with_reducible first | exact HB.out | apply below_alloc | apply pw_below_drewN | apply below_drew1) | exact HB.out)))); have n2_ := Aside0.mk (below_step (by repeat (first | (with_reducible first | exact HB.out | apply below_alloc | apply pw_below_drewN | apply below_drew1) | exact HB.out)) hb); clear HO179; clear HB; have HO179 := n0_; have HO182 := n1_; have HB := n2_; clear n0_ n1_ n2_; clear hb ho17)); try go_wp2_with (first | (go_at_call 8; (with_reducible refine (linhaylaw18_awake.calls k  t174 _ A5.out).mono ?_); rintro e w13 ⟨rfl, hb⟩; have n0_ := Aside0.mk (below_step (by repeat (first | (with_reducible first | exact HB.out | apply below_alloc | apply pw_below_drewN | apply below_drew1) | exact HB.out)) hb); clear HB; have HB := n0_; clear n0_; (try clear hb); (try clear hb2); (try clear hk); (try clear hi)) | (go_at_call 9; (with_reducible refine (linhaylaw18_few.calls _ _ l1 _ _ l2 _ _ l3 true _ ?side1 ?side2 ?side3 ?side4 ?side5 ?side6 A6.out).mono ?_); (case side1 => repeat (first | exact (Kd.C_below HR1.out HB.out) | (with_reducible refine Kd.C_alloc ?_ _) | (with_reducible refine Kd.C_drewN ?_ _) | (with_reducible refine Kd.C_drew ?_))); (case side2 => exact HC1.out); (case side3 => repeat (first | exact (Kd.C_below HR2.out HB.out) | (with_reducible refine Kd.C_alloc ?_ _) | (with_reducible refine Kd.C_drewN ?_ _) | (with_reducible refine Kd.C_drew ?_))); (case side4 => exact HC2.out); (case side5 => repeat (first | exact (Kd.C_below HR3.out HB.out) | (with_reducible refine Kd.C_alloc ?_ _) | (with_reducible refine Kd.C_drewN ?_ _) | (with_reducible refine Kd.C_drew ?_))); (case side6 => exact HC3.out); rintro e w' ⟨rfl, ⟨nd, rfl⟩⟩; (try first | exact ⟨rfl, _, World.drewN_drewN _ _ _⟩ | exact ⟨rfl, _, Eq.trans (World.drewN_drewN _ _ _) (congrArg (World.drewN _) (Nat.add_assoc _ _ _))⟩)) | (go_at_call 10; (with_reducible refine (gds_Run.calls k a0 _ _ l1 _ _ l2 _ _ l3 t176 t177 _ ?side1 ?side2 ?side3 ?side4 ?side5 ?side6 A8.out).mono ?_); (case side1 => repeat (first | exact (Kd.C_below HR1.out (by repeat (first | (with_reducible first | exact HB.out | apply below_alloc | apply pw_below_drewN | apply below_drew1) | exact HB.out))) | (with_reducible refine Kd.C_alloc ?_ _) | (with_reducible refine Kd.C_drewN ?_ _) | (with_reducible refine Kd.C_drew ?_))); (case side2 => exact HC1.out); (case side3 => repeat (first | exact (Kd.C_below HR2.out (by repeat (first | (with_reducible first | exact HB.out | apply below_alloc | apply pw_below_drewN | apply below_drew1) | exact HB.out))) | (with_reducible refine Kd.C_alloc ?_ _) | (with_reducible refine Kd.C_drewN ?_ _) | (with_reducible refine Kd.C_drew ?_))); (case side4 => exact HC2.out); (case side5 => repeat (first | exact (Kd.C_below HR3.out (by repeat (first | (with_reducible first | exact HB.out | apply below_alloc | apply pw_below_drewN | apply below_drew1) | exact HB.out))) | (with_reducible refine Kd.C_alloc ?_ _) | (with_reducible refine Kd.C_drewN ?_ _) | (with_reducible refine Kd.C_drew ?_))); (case side6 => exact HC3.out); rintro e w14 ⟨v178, rfl, ho0, hb⟩; have n0_ := Aside0.mk (Kd.S_lower ho0 (below_size (by repeat (first | (with_reducible first | exact HB.out | apply below_alloc | apply pw_below_drewN | apply below_drew1) | exact HB.out)))); have n1_ := Aside0.mk (below_step (by repeat (first | (with_reducible first | exact HB.out | apply below_alloc | apply pw_below_drewN | apply below_drew1) | exact HB.out)) hb); clear HB; have HO179 := n0_; have HB := n1_; clear n0_ n1_; (try clear hb); (try clear hb2); (try clear hk); (try clear hi); (try clear ho0); obtain ⟨Ao15, co15, eo15⟩ := Kd.S_slice HO179.out; subst eo15) | ((with_reducible refine gate_dst (N := 49) rfl ?_); (try (refine gate_guard (by rfl) ?_; dsimp only)); refine Kd.R_make Kd.bool _ 4 rfl (N := 49) rfl 38 _ _ rfl (l1.length : Int) rfl rfl Try.underlying38 (.bool false) 1 info4 rfl (by decide) (by omega) false (ok := fun _ => True) (okp := fun _ => True) rfl (fun _ hk => hk) trivial (of_decide_eq_true (by first | (with_reducible assumption) | assumption)) (Nat.le_trans (Nat.mul_le_mul_right _ (of_decide_eq_true (by first | (with_reducible assumption) | assumption) : (l1.length : Int).toNat ≤ 281474976710656)) (by omega)) (Below.refl _ _) (Nat.le_refl _) ?_; intro v181 w16 ho17 hb hg_ hnew_; clear hg_ hnew_; (first | rw [← Ny180.out] at ho17 | (simp only [Int.reduceToNat] at ho17; rw [← Ny180.out] at ho17)); have n0_ := Aside0.mk (Kd.S_below (by (with_reducible repeat (first | apply Kd.S_alloc | apply Kd.S_drewN | apply Kd.S_drew)); exact HO179.out) hb); have n1_ := Aside0.mk (Kd.R_lower ho17 (below_size (by repeat (first | (with_reducible first | exact HB.out | apply below_alloc | apply pw_below_drewN | apply below_drew1) | exact HB.out)))); have n2_ := Aside0.mk (below_step (by repeat (first | (with_reducible first | exact HB.out | apply below_alloc | apply pw_below_drewN | apply below_drew1) | exact HB.out)) hb); clear HO179; clear HB; have HO179 := n0_; have HO182 := n1_; have HB := n2_; clear n0_ n1_ n2_; clear hb ho17)))
            go_loopg [13, 14] k (fun kq v13 v14 w' => ∃ (x12_1 : List Bool) (x13_1 : Int) (x14_1 : Int), v13 = .int .i64 x13_1 ∧ v14 = .int .i64 x14_1 ∧ Aside0 (linhaylaw18_GdsHolds.l0 kq a0 l1 l3 t174 t176 x12_1 x13_1 x14_1 = some r) ∧ Aside0 (kq ≤ k) ∧ Aside0 (Kd.S k40 40 w' w.heap.size (fun _ => True) (.slice Ao15 t176.length co15) t176) ∧ Aside0 (Kd.R Kd.bool 4 w' w.heap.size (fun _ => True) v181 x12_1) ∧ Aside0 (Below w.heap.size w w'))
            case atStart => exact ⟨(y180), (0), (0), (by first | rfl | (simp; done) | (simp [*]; done)), (by first | rfl | (simp; done) | (simp [*]; done)), H', ⟨Nat.le_refl _⟩, ⟨by (with_reducible repeat (first | apply Kd.S_alloc | apply Kd.S_drewN | apply Kd.S_drew)); exact HO179.out⟩, ⟨by (with_reducible repeat (first | apply Kd.R_alloc | apply Kd.R_drewN | apply Kd.R_drew)); exact HO182.out⟩, ⟨by repeat (first | (with_reducible first | exact HB.out | apply below_alloc | apply pw_below_drewN | apply below_drew1) | exact HB.out)⟩⟩
            case round =>
              clear H'
              try clear c1
              try clear c2
              try clear p2
              try clear c3
              try clear c4
              try clear c7
              try clear c9
              try clear c9b0
              try clear c9b1
              try clear c10
              try clear c10b0
              try clear c10b1
              try clear c10b2
              try clear c11
              try clear c11b0
              try clear c11b1
              try clear c12
              try clear c12b0
              try clear c12b1
              obtain ⟨x12_1, x13_1, x14_1, rfl, rfl, HA, HK1, HO_10, HO_12, HB⟩ := hrel
              cases gk with
              | zero => exact absurd HA.out (by simp [linhaylaw18_GdsHolds.l0])
              | succ k1 =>
                have H := HA.out
                clear HA
                simp only [linhaylaw18_GdsHolds.l0] at H
                by_cases c18 : x14_1 < (t176.length : Int)
                · rw [if_pos c18] at H
                  have c18b0 : decide (x14_1 < (t176.length : Int)) = true := decide_eq_true c18
                  clear c18
                  by_cases c19 : 0 ≤ x14_1
                  · rw [if_pos c19] at H
                    have c19b0 : decide (0 ≤ x14_1) = true := decide_eq_true c19
                    clear c19
                    by_cases c20 : x14_1 < (l3.length : Int)
                    · rw [if_pos c20] at H
                      have c20b0 : decide (x14_1 < (l3.length : Int)) = true := decide_eq_true c20
                      clear c20
                      have H' := Aside0.mk H
                      clear H
                      have p183 : 0 ≤ (x14_1 : Int) := of_decide_eq_true (by first | (with_reducible assumption) | assumption)
                      have q183 : x14_1 < (l3.length : Int) := of_decide_eq_true (by first | (with_reducible assumption) | assumption)
                      obtain ⟨ad183, e183, hx183_0⟩ := Kd.at_int HR3.out x14_1 p183 q183
                      cases e183
                      replace hx183_0 := (HB.out.cell (World.block_lt_of_cell? w _ hx183_0)).trans hx183_0
                      replace p183 := eq_true p183
                      replace q183 := eq_true q183
                      go_wp2
                      repeat (go_quiet (fail); try go_wp2)
                      go_loopg [13, 16, 17] k1 (fun kq v13 v16 v17 w' => ∃ (x12_2 : List Bool) (x13_2 : Int) (x16_2 : Int) (x17_2 : Int), v13 = .int .i64 x13_2 ∧ v16 = .int .i64 x16_2 ∧ v17 = .int .i64 x17_2 ∧ Aside0 (linhaylaw18_GdsHolds.l1 kq a0 l1 l3 t174 t176 x12_2 x13_2 x14_1 (rd l3 x14_1) x16_2 x17_2 = some r) ∧ Aside0 (kq ≤ k1) ∧ Aside0 (Kd.S k40 40 w' w.heap.size (fun _ => True) (.slice Ao15 t176.length co15) t176) ∧ Aside0 (Kd.R Kd.bool 4 w' w.heap.size (fun _ => True) v181 x12_2) ∧ Aside0 (Below w.heap.size w w'))
                      case atStart => exact ⟨(x12_1), (x13_1), (0), (0), (by first | rfl | (simp; done) | (simp [*]; done)), (by first | rfl | (simp; done) | (simp [*]; done)), (by first | rfl | (simp; done) | (simp [*]; done)), H', ⟨Nat.le_refl _⟩, ⟨by (with_reducible repeat (first | apply Kd.S_alloc | apply Kd.S_drewN | apply Kd.S_drew)); exact HO_10.out⟩, ⟨by (with_reducible repeat (first | apply Kd.R_alloc | apply Kd.R_drewN | apply Kd.R_drew)); exact HO_12.out⟩, ⟨by repeat (first | (with_reducible first | exact HB.out | apply below_alloc | apply pw_below_drewN | apply below_drew1) | exact HB.out)⟩⟩
                      case round =>
                        clear H'
                        try clear c1
                        try clear p1
                        try clear q1
                        try clear hx1
                        try clear c2
                        try clear p2
                        try clear c3
                        try clear c4
                        try clear c7
                        try clear c9
                        try clear c9b0
                        try clear c9b1
                        try clear c10
                        try clear c10b0
                        try clear c10b1
                        try clear c10b2
                        try clear c11
                        try clear c11b0
                        try clear c11b1
                        try clear c12
                        try clear c12b0
                        try clear c12b1
                        try clear c18
                        try clear c18b0
                        try clear p18
                        try clear q18
                        try clear hx18
                        try clear c19
                        try clear c19b0
                        try clear c20
                        try clear c20b0
                        try clear hx183_0
                        try clear p183
                        try clear p2
                        try clear q183
                        obtain ⟨x12_2, x13_2, x16_2, x17_2, rfl, rfl, rfl, HA, HK2, HO_10, HO_12, HB⟩ := hrel
                        cases gk with
                        | zero => exact absurd HA.out (by simp [linhaylaw18_GdsHolds.l1])
                        | succ k2 =>
                          have H := HA.out
                          clear HA
                          simp only [linhaylaw18_GdsHolds.l1] at H
                          by_cases c21 : 0 ≤ x14_1
                          · rw [if_pos c21] at H
                            have c21b0 : decide (0 ≤ x14_1) = true := decide_eq_true c21
                            clear c21
                            by_cases c22 : x14_1 < (t176.length : Int)
                            · rw [if_pos c22] at H
                              have c22b0 : decide (x14_1 < (t176.length : Int)) = true := decide_eq_true c22
                              clear c22
                              by_cases c23 : x17_2 < (((rd_T40 t176 x14_1).f1).length : Int)
                              · rw [if_pos c23] at H
                                have c23b0 : decide (x17_2 < (((rd_T40 t176 x14_1).f1).length : Int)) = true := decide_eq_true c23
                                clear c23
                                by_cases c24 : 0 ≤ x17_2
                                · rw [if_pos c24] at H
                                  have c24b0 : decide (0 ≤ x17_2) = true := decide_eq_true c24
                                  clear c24
                                  by_cases c25 : (rd ((rd_T40 t176 x14_1).f1) x17_2) < 0
                                  · rw [if_pos c25] at H
                                    exact absurd H (by simp)
                                  · rw [if_neg c25] at H
                                    have c25b0 : decide ((rd ((rd_T40 t176 x14_1).f1) x17_2) < 0) = false := decide_eq_false c25
                                    clear c25
                                    by_cases c26 : (rd ((rd_T40 t176 x14_1).f1) x17_2) ≥ (x12_2.length : Int)
                                    · rw [if_pos c26] at H
                                      exact absurd H (by simp)
                                    · rw [if_neg c26] at H
                                      have c26b0 : decide ((x12_2.length : Int) ≤ (rd ((rd_T40 t176 x14_1).f1) x17_2)) = false := decide_eq_false c26
                                      clear c26
                                      by_cases c27 : 0 ≤ (rd ((rd_T40 t176 x14_1).f1) x17_2)
                                      · rw [if_pos c27] at H
                                        have c27b0 : decide (0 ≤ (rd ((rd_T40 t176 x14_1).f1) x17_2)) = true := decide_eq_true c27
                                        clear c27
                                        by_cases c28 : (rd ((rd_T40 t176 x14_1).f1) x17_2) < (x12_2.length : Int)
                                        · rw [if_pos c28] at H
                                          have c28b0 : decide ((rd ((rd_T40 t176 x14_1).f1) x17_2) < (x12_2.length : Int)) = true := decide_eq_true c28
                                          clear c28
                                          obtain ⟨bq29, hbq29⟩ : ∃ b_ : Bool, b_ = (rdOf false x12_2 (rd ((rd_T40 t176 x14_1).f1) x17_2)) := ⟨_, rfl⟩
                                          replace H : (if (bq29 = true) then (if (rd_T40 t176 x14_1).f0 = true then (none) else (if (rd ((rd_T40 t176 x14_1).f1) x17_2) < (l1.length : Int) then (linhaylaw18_GdsHolds.l1 k2 a0 l1 l3 t174 t176 (x12_2.set ((rd ((rd_T40 t176 x14_1).f1) x17_2) : Int).toNat false) (wrap64 (x13_2 - (rd l1 (rd ((rd_T40 t176 x14_1).f1) x17_2)))) x14_1 (rd l3 x14_1) (rd l1 (rd ((rd_T40 t176 x14_1).f1) x17_2)) (wrap64 (x17_2 + 1))) else (none))) else (none)) = some r := by rw [← hbq29] at H; exact H
                                          have Nbq29 := Aside0.mk hbq29
                                          clear hbq29
                                          by_cases c30 : (bq29 = true)
                                          · subst c30
                                            have H1 : (if (rd_T40 t176 x14_1).f0 = true then (none) else (if (rd ((rd_T40 t176 x14_1).f1) x17_2) < (l1.length : Int) then (linhaylaw18_GdsHolds.l1 k2 a0 l1 l3 t174 t176 (x12_2.set ((rd ((rd_T40 t176 x14_1).f1) x17_2) : Int).toNat false) (wrap64 (x13_2 - (rd l1 (rd ((rd_T40 t176 x14_1).f1) x17_2)))) x14_1 (rd l3 x14_1) (rd l1 (rd ((rd_T40 t176 x14_1).f1) x17_2)) (wrap64 (x17_2 + 1))) else (none))) = some r := by rw [if_pos rfl] at H; exact H
                                            clear H
                                            have H := H1
                                            clear H1
                                            obtain ⟨bq31, hbq31⟩ : ∃ b_ : Bool, b_ = ((rd_T40 t176 x14_1).f0) := ⟨_, rfl⟩
                                            replace H : (if bq31 = true then (none) else (if (rd ((rd_T40 t176 x14_1).f1) x17_2) < (l1.length : Int) then (linhaylaw18_GdsHolds.l1 k2 a0 l1 l3 t174 t176 (x12_2.set ((rd ((rd_T40 t176 x14_1).f1) x17_2) : Int).toNat false) (wrap64 (x13_2 - (rd l1 (rd ((rd_T40 t176 x14_1).f1) x17_2)))) x14_1 (rd l3 x14_1) (rd l1 (rd ((rd_T40 t176 x14_1).f1) x17_2)) (wrap64 (x17_2 + 1))) else (none))) = some r := by rw [← hbq31] at H; exact H
                                            have Nbq31 := Aside0.mk hbq31
                                            clear hbq31
                                            by_cases c32 : bq31 = true
                                            · subst c32
                                              have H1 : (none) = some r := by rw [if_pos rfl] at H; exact H
                                              clear H
                                              have H := H1
                                              clear H1
                                              exact absurd H (by simp)
                                            · replace c32 := Bool.eq_false_iff.mpr c32
                                              subst c32
                                              have H1 : (if (rd ((rd_T40 t176 x14_1).f1) x17_2) < (l1.length : Int) then (linhaylaw18_GdsHolds.l1 k2 a0 l1 l3 t174 t176 (x12_2.set ((rd ((rd_T40 t176 x14_1).f1) x17_2) : Int).toNat false) (wrap64 (x13_2 - (rd l1 (rd ((rd_T40 t176 x14_1).f1) x17_2)))) x14_1 (rd l3 x14_1) (rd l1 (rd ((rd_T40 t176 x14_1).f1) x17_2)) (wrap64 (x17_2 + 1))) else (none)) = some r := by rw [if_neg (show ¬ (false = true) by decide)] at H; exact H
                                              clear H
                                              have H := H1
                                              clear H1
                                              obtain ⟨y189, hy189⟩ : ∃ y_ : List Bool, y_ = (x12_2.set ((rd ((rd_T40 t176 x14_1).f1) x17_2) : Int).toNat false) := ⟨_, rfl⟩
                                              replace H : (if (rd ((rd_T40 t176 x14_1).f1) x17_2) < (l1.length : Int) then (linhaylaw18_GdsHolds.l1 k2 a0 l1 l3 t174 t176 y189 (wrap64 (x13_2 - (rd l1 (rd ((rd_T40 t176 x14_1).f1) x17_2)))) x14_1 (rd l3 x14_1) (rd l1 (rd ((rd_T40 t176 x14_1).f1) x17_2)) (wrap64 (x17_2 + 1))) else (none)) = some r := by first | (rw [hy189]; with_reducible exact H) | (have H2_ := (Option.bind_some _ _).symm.trans H; rw [hy189]; with_reducible exact H2_) | (have H2_ := (Option.bind_some _ _).symm.trans H; with_reducible exact H2_) | with_reducible exact H | (rw [hy189]; exact H) | exact H
                                              have Ny189 := Aside0.mk hy189
                                              clear hy189
                                              by_cases c34 : (rd ((rd_T40 t176 x14_1).f1) x17_2) < (l1.length : Int)
                                              · rw [if_pos c34] at H
                                                have c34b0 : decide ((rd ((rd_T40 t176 x14_1).f1) x17_2) < (l1.length : Int)) = true := decide_eq_true c34
                                                clear c34
                                                have H' := Aside0.mk H
                                                clear H
                                                have p184 : 0 ≤ (x14_1 : Int) := of_decide_eq_true (by first | (with_reducible assumption) | assumption)
                                                have q184 : x14_1 < (t176.length : Int) := of_decide_eq_true (by first | (with_reducible assumption) | assumption)
                                                obtain ⟨ad184, A184_1, c184_1, e184, hx184_0, hx184_1, hl184_1, hi184_1⟩ := at_T40 (Kd.S_reads' HO_10.out).2.2 x14_1 p184 q184
                                                (try rw [← Nbq29.out] at hx184_0)
                                                (try rw [← Nbq31.out] at hx184_0)
                                                cases e184
                                                obtain ⟨ce184, hce184, hMe184, hcc184⟩ := Kd.S_get HO_10.out z40 x14_1 p184 (by first | exact q184 | exact of_decide_eq_true (by first | (with_reducible assumption) | assumption) | (have e_ := (Kd.S_reads' HO_10.out).1; omega))
                                                obtain ⟨ve184_1, rfl, ge184_1⟩ := k40_openM hMe184
                                                have hv184_1 := hcc184 1 _ rfl
                                                rw [add_field _ _ 1 (by omega)] at hv184_1
                                                replace hv184_1 := Option.some.inj (hv184_1.symm.trans hx184_1)
                                                rw [hv184_1] at ge184_1
                                                have HL184_1 := Aside0.mk (show Kd.R (Kd.int .i64) 3 _ _ _ _ ((rd_T40 t176 x14_1).f1) from ge184_1)
                                                clear hv184_1 ge184_1
                                                clear hcc184 hce184
                                                have HR184_1 := Aside0.mk hi184_1
                                                have HC184_1 := Aside0.mk hl184_1
                                                clear hi184_1 hl184_1
                                                replace p184 := eq_true p184
                                                replace q184 := eq_true q184
                                                have p185 : 0 ≤ (x14_1 : Int) := of_decide_eq_true (by first | (with_reducible assumption) | assumption)
                                                have q185 : x14_1 < (t176.length : Int) := of_decide_eq_true (by first | (with_reducible assumption) | assumption)
                                                obtain ⟨ad185, A185_1, c185_1, e185, hx185_0, hx185_1, hl185_1, hi185_1⟩ := at_T40 (Kd.S_reads' HO_10.out).2.2 x14_1 p185 q185
                                                (try rw [← Nbq29.out] at hx185_0)
                                                (try rw [← Nbq31.out] at hx185_0)
                                                obtain rfl : ad184 = ad185 := (by injection e185)
                                                obtain ⟨ce185, hce185, hMe185, hcc185⟩ := Kd.S_get HO_10.out z40 x14_1 p185 (by first | exact q185 | exact of_decide_eq_true (by first | (with_reducible assumption) | assumption) | (have e_ := (Kd.S_reads' HO_10.out).1; omega))
                                                obtain ⟨ve185_1, rfl, ge185_1⟩ := k40_openM hMe185
                                                have hv185_1 := hcc185 1 _ rfl
                                                rw [add_field _ _ 1 (by omega)] at hv185_1
                                                replace hv185_1 := Option.some.inj (hv185_1.symm.trans hx185_1)
                                                rw [hv185_1] at ge185_1
                                                have HL185_1 := Aside0.mk (show Kd.R (Kd.int .i64) 3 _ _ _ _ ((rd_T40 t176 x14_1).f1) from ge185_1)
                                                clear hv185_1 ge185_1
                                                clear hcc185 hce185
                                                have HR185_1 := Aside0.mk hi185_1
                                                have HC185_1 := Aside0.mk hl185_1
                                                clear hi185_1 hl185_1
                                                replace p185 := eq_true p185
                                                replace q185 := eq_true q185
                                                have ea_ := Option.some.inj (hx184_1.symm.trans hx185_1)
                                                injection ea_ with ea_ en_ ec_
                                                subst ea_
                                                subst ec_
                                                clear en_
                                                have p186 : 0 ≤ (x17_2 : Int) := of_decide_eq_true (by first | (with_reducible assumption) | assumption)
                                                have q186 : x17_2 < (((rd_T40 t176 x14_1).f1).length : Int) := of_decide_eq_true (by first | (with_reducible assumption) | assumption)
                                                obtain ⟨ad186, e186, hx186_0⟩ := Kd.at_int (by repeat (first | (with_reducible exact HR185_1.out) | (with_reducible refine Kd.C_alloc ?_ _) | (with_reducible refine Kd.C_drewN ?_ _) | (with_reducible refine Kd.C_drew ?_) | exact HR185_1.out)) x17_2 p186 q186
                                                cases e186
                                                replace p186 := eq_true p186
                                                replace q186 := eq_true q186
                                                obtain ⟨Ao35, co35, eo35⟩ := Kd.R_slice HO_12.out
                                                subst eo35
                                                have p187 : 0 ≤ ((rd ((rd_T40 t176 x14_1).f1) x17_2) : Int) := of_decide_eq_true (by first | (with_reducible assumption) | assumption)
                                                have q187 : (rd ((rd_T40 t176 x14_1).f1) x17_2) < (x12_2.length : Int) := of_decide_eq_true (by first | (with_reducible assumption) | assumption)
                                                obtain ⟨ad187, e187, hx187_0⟩ := Kd.at_bool (Kd.R_reads' HO_12.out).2.2 (rd ((rd_T40 t176 x14_1).f1) x17_2) p187 q187
                                                (try rw [← Nbq29.out] at hx187_0)
                                                (try rw [← Nbq31.out] at hx187_0)
                                                cases e187
                                                replace p187 := eq_true p187
                                                replace q187 := eq_true q187
                                                have p188 : 0 ≤ (x14_1 : Int) := of_decide_eq_true (by first | (with_reducible assumption) | assumption)
                                                have q188 : x14_1 < (t176.length : Int) := of_decide_eq_true (by first | (with_reducible assumption) | assumption)
                                                obtain ⟨ad188, A188_1, c188_1, e188, hx188_0, hx188_1, hl188_1, hi188_1⟩ := at_T40 (Kd.S_reads' HO_10.out).2.2 x14_1 p188 q188
                                                (try rw [← Nbq29.out] at hx188_0)
                                                (try rw [← Nbq31.out] at hx188_0)
                                                obtain rfl : ad184 = ad188 := (by injection e188)
                                                obtain ⟨ce188, hce188, hMe188, hcc188⟩ := Kd.S_get HO_10.out z40 x14_1 p188 (by first | exact q188 | exact of_decide_eq_true (by first | (with_reducible assumption) | assumption) | (have e_ := (Kd.S_reads' HO_10.out).1; omega))
                                                obtain ⟨ve188_1, rfl, ge188_1⟩ := k40_openM hMe188
                                                have hv188_1 := hcc188 1 _ rfl
                                                rw [add_field _ _ 1 (by omega)] at hv188_1
                                                replace hv188_1 := Option.some.inj (hv188_1.symm.trans hx188_1)
                                                rw [hv188_1] at ge188_1
                                                have HL188_1 := Aside0.mk (show Kd.R (Kd.int .i64) 3 _ _ _ _ ((rd_T40 t176 x14_1).f1) from ge188_1)
                                                clear hv188_1 ge188_1
                                                clear hcc188 hce188
                                                have HR188_1 := Aside0.mk hi188_1
                                                have HC188_1 := Aside0.mk hl188_1
                                                clear hi188_1 hl188_1
                                                replace p188 := eq_true p188
                                                replace q188 := eq_true q188
                                                have ea_ := Option.some.inj (hx184_1.symm.trans hx188_1)
                                                injection ea_ with ea_ en_ ec_
                                                subst ea_
                                                subst ec_
                                                clear en_
                                                have p33 : 0 ≤ ((rd ((rd_T40 t176 x14_1).f1) x17_2) : Int) := of_decide_eq_true (by first | (with_reducible assumption) | assumption)
                                                have q33 : ((rd ((rd_T40 t176 x14_1).f1) x17_2) : Int) < ((x12_2.length : Int) : Int) := of_decide_eq_true (by first | (with_reducible assumption) | assumption)
                                                obtain ⟨go33, co33, eo33, gb33, gl33, cl33, HG33⟩ := Kd.R_form HO_12.out (by omega)
                                                (first | cases eo33 | (injection eo33 with ea_ en_ ec_; (first | subst ea_ | (injection ea_ with ea_; subst ea_)); subst ec_; clear en_))
                                                have GB33 := Aside0.mk gb33
                                                have GG33 := Aside0.mk HG33
                                                clear gb33 gl33 HG33
                                                (first | simp only [add_plain] at hx187_0 | skip)
                                                obtain ⟨hx33_0, hf33_0⟩ := Kd.R_celln false HO_12.out ((rd ((rd_T40 t176 x14_1).f1) x17_2) : Int) p33 q33
                                                replace p33 := eq_true p33
                                                replace q33 := eq_true q33
                                                have HP36 := Kd.R_putg HO_12.out ((rd ((rd_T40 t176 x14_1).f1) x17_2) : Int) false
                                                go_wp2_with (first | ((with_reducible refine gate_store (t := 4) (p := 102) rfl ?_); (try (rw [drewN_self wr]; generalize hq_ : World.drewN wr _ = wr; have n0_ := Aside0.mk (Kd.S_at hq_ HO_10.out); have n1_ := Aside0.mk (Kd.R_at hq_ HO_12.out); have n2_ := Aside0.mk (Kd.R_at hq_ HL184_1.out); have n3_ := Aside0.mk (Kd.R_at hq_ HL185_1.out); have n4_ := Aside0.mk (Kd.R_at hq_ HL188_1.out); have n5_ := Aside0.mk (below_at hq_ HB.out); clear hq_ HO_10 HO_12 HL184_1 HL185_1 HL188_1 HB; have HO_10 := n0_; have HO_12 := n1_; have HL184_1 := n2_; have HL185_1 := n3_; have HL188_1 := n4_; have HB := n5_; clear n0_ n1_ n2_ n3_ n4_ n5_; (try (have HP36 := Kd.R_putg HO_12.out ((rd ((rd_T40 t176 x14_1).f1) x17_2) : Int) false)))); refine store_event (t := 4) (p := 102) (v := ?vo_w37) (w1 := (wr.setCell ⟨go33, ((rd ((rd_T40 t176 x14_1).f1) x17_2) : Int).toNat, none⟩ (.bool false))) ?hg ?ho ?hn ?hr ?_; (case ho => rfl); (case hg => rfl); (case hn => rfl); (case hr => first | (go_simp; done) | (go_simp; rfl)); intro w37 hw; have hg : wr.grownBy w37 (some go33) := (by rw [hw]; exact HP36.2); have hp_ : Kd.R Kd.bool 4 w37 w.heap.size (fun _ => True) (.slice (some ⟨go33, 0, none⟩) x12_2.length co35) y189 := (by rw [hw, Ny189.out]; exact HP36.1); clear HP36; have n0_ := Aside0.mk (Kd.S_over' (v := (.slice (some ⟨go33, 0, none⟩) x12_2.length co35)) (by (with_reducible repeat (first | apply Kd.S_alloc | apply Kd.S_drewN | apply Kd.S_drew)); exact HO_10.out) (Kd.R_typed HO_12.out) (by decide) hg); have n1_ := Aside0.mk (hp_); have n2_ := Aside0.mk (Kd.R_over' (v := (.slice (some ⟨go33, 0, none⟩) x12_2.length co35)) (by (with_reducible repeat (first | apply Kd.R_alloc | apply Kd.R_drewN | apply Kd.R_drew)); exact HL184_1.out) (Kd.R_typed HO_12.out) (by decide) hg); have n3_ := Aside0.mk (Kd.R_over' (v := (.slice (some ⟨go33, 0, none⟩) x12_2.length co35)) (by (with_reducible repeat (first | apply Kd.R_alloc | apply Kd.R_drewN | apply Kd.R_drew)); exact HL185_1.out) (Kd.R_typed HO_12.out) (by decide) hg); have n4_ := Aside0.mk (Kd.R_over' (v := (.slice (some ⟨go33, 0, none⟩) x12_2.length co35)) (by (with_reducible repeat (first | apply Kd.R_alloc | apply Kd.R_drewN | apply Kd.R_drew)); exact HL188_1.out) (Kd.R_typed HO_12.out) (by decide) hg); have n5_ := Aside0.mk ((by rw [hw]; exact below_set (HB.out) GB33.out : Below w.heap.size w w37)); clear HO_10; clear HO_12; clear HL184_1; clear HL185_1; clear HL188_1; clear HB; have HO_10 := n0_; have HO_12 := n1_; have HL184_1 := n2_; have HL185_1 := n3_; have HL188_1 := n4_; have HB := n5_; clear n0_ n1_ n2_ n3_ n4_ n5_; clear hg hw hp_; have p190 : 0 ≤ ((rd ((rd_T40 t176 x14_1).f1) x17_2) : Int) := of_decide_eq_true (by first | (with_reducible assumption) | assumption); have q190 : (rd ((rd_T40 t176 x14_1).f1) x17_2) < (l1.length : Int) := of_decide_eq_true (by first | (with_reducible assumption) | assumption); obtain ⟨ad190, e190, hx190_0⟩ := Kd.at_int HR1.out (rd ((rd_T40 t176 x14_1).f1) x17_2) p190 q190; cases e190; replace hx190_0 := (HB.out.cell (World.block_lt_of_cell? w _ hx190_0)).trans hx190_0; replace p190 := eq_true p190; replace q190 := eq_true q190; have p191 : 0 ≤ ((rd ((rd_T40 t176 x14_1).f1) x17_2) : Int) := of_decide_eq_true (by first | (with_reducible assumption) | assumption); have q191 : (rd ((rd_T40 t176 x14_1).f1) x17_2) < (l1.length : Int) := of_decide_eq_true (by first | (with_reducible assumption) | assumption); obtain ⟨ad191, e191, hx191_0⟩ := Kd.at_int HR1.out (rd ((rd_T40 t176 x14_1).f1) x17_2) p191 q191; obtain rfl : ad190 = ad191 := (by injection e191); replace hx191_0 := (HB.out.cell (World.block_lt_of_cell? w _ hx191_0)).trans hx191_0; replace p191 := eq_true p191; replace q191 := eq_true q191))
                                                repeat (go_quiet (first | ((with_reducible refine gate_store (t := 4) (p := 102) rfl ?_); (try (rw [drewN_self wr]; generalize hq_ : World.drewN wr _ = wr; have n0_ := Aside0.mk (Kd.S_at hq_ HO_10.out); have n1_ := Aside0.mk (Kd.R_at hq_ HO_12.out); have n2_ := Aside0.mk (Kd.R_at hq_ HL184_1.out); have n3_ := Aside0.mk (Kd.R_at hq_ HL185_1.out); have n4_ := Aside0.mk (Kd.R_at hq_ HL188_1.out); have n5_ := Aside0.mk (below_at hq_ HB.out); clear hq_ HO_10 HO_12 HL184_1 HL185_1 HL188_1 HB; have HO_10 := n0_; have HO_12 := n1_; have HL184_1 := n2_; have HL185_1 := n3_; have HL188_1 := n4_; have HB := n5_; clear n0_ n1_ n2_ n3_ n4_ n5_; (try (have HP36 := Kd.R_putg HO_12.out ((rd ((rd_T40 t176 x14_1).f1) x17_2) : Int) false)))); refine store_event (t := 4) (p := 102) (v := ?vo_w37) (w1 := (wr.setCell ⟨go33, ((rd ((rd_T40 t176 x14_1).f1) x17_2) : Int).toNat, none⟩ (.bool false))) ?hg ?ho ?hn ?hr ?_; (case ho => rfl); (case hg => rfl); (case hn => rfl); (case hr => first | (go_simp; done) | (go_simp; rfl)); intro w37 hw; have hg : wr.grownBy w37 (some go33) := (by rw [hw]; exact HP36.2); have hp_ : Kd.R Kd.bool 4 w37 w.heap.size (fun _ => True) (.slice (some ⟨go33, 0, none⟩) x12_2.length co35) y189 := (by rw [hw, Ny189.out]; exact HP36.1); clear HP36; have n0_ := Aside0.mk (Kd.S_over' (v := (.slice (some ⟨go33, 0, none⟩) x12_2.length co35)) (by (with_reducible repeat (first | apply Kd.S_alloc | apply Kd.S_drewN | apply Kd.S_drew)); exact HO_10.out) (Kd.R_typed HO_12.out) (by decide) hg); have n1_ := Aside0.mk (hp_); have n2_ := Aside0.mk (Kd.R_over' (v := (.slice (some ⟨go33, 0, none⟩) x12_2.length co35)) (by (with_reducible repeat (first | apply Kd.R_alloc | apply Kd.R_drewN | apply Kd.R_drew)); exact HL184_1.out) (Kd.R_typed HO_12.out) (by decide) hg); have n3_ := Aside0.mk (Kd.R_over' (v := (.slice (some ⟨go33, 0, none⟩) x12_2.length co35)) (by (with_reducible repeat (first | apply Kd.R_alloc | apply Kd.R_drewN | apply Kd.R_drew)); exact HL185_1.out) (Kd.R_typed HO_12.out) (by decide) hg); have n4_ := Aside0.mk (Kd.R_over' (v := (.slice (some ⟨go33, 0, none⟩) x12_2.length co35)) (by (with_reducible repeat (first | apply Kd.R_alloc | apply Kd.R_drewN | apply Kd.R_drew)); exact HL188_1.out) (Kd.R_typed HO_12.out) (by decide) hg); have n5_ := Aside0.mk ((by rw [hw]; exact below_set (HB.out) GB33.out : Below w.heap.size w w37)); clear HO_10; clear HO_12; clear HL184_1; clear HL185_1; clear HL188_1; clear HB; have HO_10 := n0_; have HO_12 := n1_; have HL184_1 := n2_; have HL185_1 := n3_; have HL188_1 := n4_; have HB := n5_; clear n0_ n1_ n2_ n3_ n4_ n5_; clear hg hw hp_; have p190 : 0 ≤ ((rd ((rd_T40 t176 x14_1).f1) x17_2) : Int) := of_decide_eq_true (by first | (with_reducible assumption) | assumption); have q190 : (rd ((rd_T40 t176 x14_1).f1) x17_2) < (l1.length : Int) := of_decide_eq_true (by first | (with_reducible assumption) | assumption); obtain ⟨ad190, e190, hx190_0⟩ := Kd.at_int HR1.out (rd ((rd_T40 t176 x14_1).f1) x17_2) p190 q190; cases e190; replace hx190_0 := (HB.out.cell (World.block_lt_of_cell? w _ hx190_0)).trans hx190_0; replace p190 := eq_true p190; replace q190 := eq_true q190; have p191 : 0 ≤ ((rd ((rd_T40 t176 x14_1).f1) x17_2) : Int) := of_decide_eq_true (by first | (with_reducible assumption) | assumption); have q191 : (rd ((rd_T40 t176 x14_1).f1) x17_2) < (l1.length : Int) := of_decide_eq_true (by first | (with_reducible assumption) | assumption); obtain ⟨ad191, e191, hx191_0⟩ := Kd.at_int HR1.out (rd ((rd_T40 t176 x14_1).f1) x17_2) p191 q191; obtain rfl : ad190 = ad191 := (by injection e191); replace hx191_0 := (HB.out.cell (World.block_lt_of_cell? w _ hx191_0)).trans hx191_0; replace p191 := eq_true p191; replace q191 := eq_true q191)); try go_wp2_with (first | ((with_reducible refine gate_store (t := 4) (p := 102) rfl ?_); (try (rw [drewN_self wr]; generalize hq_ : World.drewN wr _ = wr; have n0_ := Aside0.mk (Kd.S_at hq_ HO_10.out); have n1_ := Aside0.mk (Kd.R_at hq_ HO_12.out); have n2_ := Aside0.mk (Kd.R_at hq_ HL184_1.out); have n3_ := Aside0.mk (Kd.R_at hq_ HL185_1.out); have n4_ := Aside0.mk (Kd.R_at hq_ HL188_1.out); have n5_ := Aside0.mk (below_at hq_ HB.out); clear hq_ HO_10 HO_12 HL184_1 HL185_1 HL188_1 HB; have HO_10 := n0_; have HO_12 := n1_; have HL184_1 := n2_; have HL185_1 := n3_; have HL188_1 := n4_; have HB := n5_; clear n0_ n1_ n2_ n3_ n4_ n5_; (try (have HP36 := Kd.R_putg HO_12.out ((rd ((rd_T40 t176 x14_1).f1) x17_2) : Int) false)))); refine store_event (t := 4) (p := 102) (v := ?vo_w37) (w1 := (wr.setCell ⟨go33, ((rd ((rd_T40 t176 x14_1).f1) x17_2) : Int).toNat, none⟩ (.bool false))) ?hg ?ho ?hn ?hr ?_; (case ho => rfl); (case hg => rfl); (case hn => rfl); (case hr => first | (go_simp; done) | (go_simp; rfl)); intro w37 hw; have hg : wr.grownBy w37 (some go33) := (by rw [hw]; exact HP36.2); have hp_ : Kd.R Kd.bool 4 w37 w.heap.size (fun _ => True) (.slice (some ⟨go33, 0, none⟩) x12_2.length co35) y189 := (by rw [hw, Ny189.out]; exact HP36.1); clear HP36; have n0_ := Aside0.mk (Kd.S_over' (v := (.slice (some ⟨go33, 0, none⟩) x12_2.length co35)) (by (with_reducible repeat (first | apply Kd.S_alloc | apply Kd.S_drewN | apply Kd.S_drew)); exact HO_10.out) (Kd.R_typed HO_12.out) (by decide) hg); have n1_ := Aside0.mk (hp_); have n2_ := Aside0.mk (Kd.R_over' (v := (.slice (some ⟨go33, 0, none⟩) x12_2.length co35)) (by (with_reducible repeat (first | apply Kd.R_alloc | apply Kd.R_drewN | apply Kd.R_drew)); exact HL184_1.out) (Kd.R_typed HO_12.out) (by decide) hg); have n3_ := Aside0.mk (Kd.R_over' (v := (.slice (some ⟨go33, 0, none⟩) x12_2.length co35)) (by (with_reducible repeat (first | apply Kd.R_alloc | apply Kd.R_drewN | apply Kd.R_drew)); exact HL185_1.out) (Kd.R_typed HO_12.out) (by decide) hg); have n4_ := Aside0.mk (Kd.R_over' (v := (.slice (some ⟨go33, 0, none⟩) x12_2.length co35)) (by (with_reducible repeat (first | apply Kd.R_alloc | apply Kd.R_drewN | apply Kd.R_drew)); exact HL188_1.out) (Kd.R_typed HO_12.out) (by decide) hg); have n5_ := Aside0.mk ((by rw [hw]; exact below_set (HB.out) GB33.out : Below w.heap.size w w37)); clear HO_10; clear HO_12; clear HL184_1; clear HL185_1; clear HL188_1; clear HB; have HO_10 := n0_; have HO_12 := n1_; have HL184_1 := n2_; have HL185_1 := n3_; have HL188_1 := n4_; have HB := n5_; clear n0_ n1_ n2_ n3_ n4_ n5_; clear hg hw hp_; have p190 : 0 ≤ ((rd ((rd_T40 t176 x14_1).f1) x17_2) : Int) := of_decide_eq_true (by first | (with_reducible assumption) | assumption); have q190 : (rd ((rd_T40 t176 x14_1).f1) x17_2) < (l1.length : Int) := of_decide_eq_true (by first | (with_reducible assumption) | assumption); obtain ⟨ad190, e190, hx190_0⟩ := Kd.at_int HR1.out (rd ((rd_T40 t176 x14_1).f1) x17_2) p190 q190; cases e190; replace hx190_0 := (HB.out.cell (World.block_lt_of_cell? w _ hx190_0)).trans hx190_0; replace p190 := eq_true p190; replace q190 := eq_true q190; have p191 : 0 ≤ ((rd ((rd_T40 t176 x14_1).f1) x17_2) : Int) := of_decide_eq_true (by first | (with_reducible assumption) | assumption); have q191 : (rd ((rd_T40 t176 x14_1).f1) x17_2) < (l1.length : Int) := of_decide_eq_true (by first | (with_reducible assumption) | assumption); obtain ⟨ad191, e191, hx191_0⟩ := Kd.at_int HR1.out (rd ((rd_T40 t176 x14_1).f1) x17_2) p191 q191; obtain rfl : ad190 = ad191 := (by injection e191); replace hx191_0 := (HB.out.cell (World.block_lt_of_cell? w _ hx191_0)).trans hx191_0; replace p191 := eq_true p191; replace q191 := eq_true q191)))
                                                go_roundg k2
                                                case measure => have := HK1.out; have := HK2.out; omega
                                                case rel => exact ⟨(y189), (wrap64 (x13_2 - (rd l1 (rd ((rd_T40 t176 x14_1).f1) x17_2)))), (rd l1 (rd ((rd_T40 t176 x14_1).f1) x17_2)), (wrap64 (x17_2 + 1)), (by first | rfl | (simp; done) | (simp [*]; done)), (by first | rfl | (simp; done) | (simp [*]; done)), (by first | rfl | (simp; done) | (simp [*]; done)), H', ⟨by have := HK1.out; have := HK2.out; omega⟩, ⟨by (with_reducible repeat (first | apply Kd.S_alloc | apply Kd.S_drewN | apply Kd.S_drew)); exact HO_10.out⟩, ⟨by (with_reducible repeat (first | apply Kd.R_alloc | apply Kd.R_drewN | apply Kd.R_drew)); exact HO_12.out⟩, ⟨by repeat (first | (with_reducible first | exact HB.out | apply below_alloc | apply pw_below_drewN | apply below_drew1) | exact HB.out)⟩⟩
                                              · rw [if_neg c34] at H
                                                exact absurd H (by simp)
                                          · replace c30 := Bool.eq_false_iff.mpr c30
                                            subst c30
                                            have H1 : (none) = some r := by rw [if_neg (show ¬ (false = true) by decide)] at H; exact H
                                            clear H
                                            have H := H1
                                            clear H1
                                            exact absurd H (by simp)
                                        · rw [if_neg c28] at H
                                          exact absurd H (by simp)
                                      · rw [if_neg c27] at H
                                        exact absurd H (by simp)
                                · rw [if_neg c24] at H
                                  exact absurd H (by simp)
                              · rw [if_neg c23] at H
                                have c23b0 : decide (x17_2 < (((rd_T40 t176 x14_1).f1).length : Int)) = false := decide_eq_false c23
                                clear c23
                                have HC38 := Aside0.mk H
                                clear H
                                have p184 : 0 ≤ (x14_1 : Int) := of_decide_eq_true (by first | (with_reducible assumption) | assumption)
                                have q184 : x14_1 < (t176.length : Int) := of_decide_eq_true (by first | (with_reducible assumption) | assumption)
                                obtain ⟨ad184, A184_1, c184_1, e184, hx184_0, hx184_1, hl184_1, hi184_1⟩ := at_T40 (Kd.S_reads' HO_10.out).2.2 x14_1 p184 q184
                                cases e184
                                obtain ⟨ce184, hce184, hMe184, hcc184⟩ := Kd.S_get HO_10.out z40 x14_1 p184 (by first | exact q184 | exact of_decide_eq_true (by first | (with_reducible assumption) | assumption) | (have e_ := (Kd.S_reads' HO_10.out).1; omega))
                                obtain ⟨ve184_1, rfl, ge184_1⟩ := k40_openM hMe184
                                have hv184_1 := hcc184 1 _ rfl
                                rw [add_field _ _ 1 (by omega)] at hv184_1
                                replace hv184_1 := Option.some.inj (hv184_1.symm.trans hx184_1)
                                rw [hv184_1] at ge184_1
                                have HL184_1 := Aside0.mk (show Kd.R (Kd.int .i64) 3 _ _ _ _ ((rd_T40 t176 x14_1).f1) from ge184_1)
                                clear hv184_1 ge184_1
                                clear hcc184 hce184
                                have HR184_1 := Aside0.mk hi184_1
                                have HC184_1 := Aside0.mk hl184_1
                                clear hi184_1 hl184_1
                                replace p184 := eq_true p184
                                replace q184 := eq_true q184
                                go_upto_region 25 with (fail)
                                repeat (go_quiet (fail); go_upto_region 25 with (fail))
                                go_cut [138] (fun v138 wc => ∃ (kq : Nat) (x138_37 : Bool), v138 = .bool x138_37 ∧ Aside0 (linhaylaw18_GdsHolds.j2 kq a0 l1 l3 t174 t176 x12_2 x13_2 x14_1 (rd l3 x14_1) x138_37 = some r) ∧ Aside0 (kq ≤ k2) ∧ Aside0 (Kd.S k40 40 wc w.heap.size (fun _ => True) (.slice (some ad184) t176.length co15) t176) ∧ Aside0 (Kd.R Kd.bool 4 wc w.heap.size (fun _ => True) v181 x12_2) ∧ Aside0 (Kd.C (Kd.int .i64) wc A184_1 ((rd_T40 t176 x14_1).f1).length ((rd_T40 t176 x14_1).f1)) ∧ Aside0 (Below w.heap.size w wc))
                                case first =>
                                  have H := HC38.out
                                  clear HC38
                                  by_cases c39 : 0 ≤ (rd l3 x14_1)
                                  · rw [if_pos c39] at H
                                    have c39b0 : decide (0 ≤ (rd l3 x14_1)) = true := decide_eq_true c39
                                    clear c39
                                    (first | rw [c39b0] | (simp only [i64_w, i32_w]; rw [c39b0]) | skip)
                                    by_cases c40 : (rd l3 x14_1) < (x12_2.length : Int)
                                    · rw [if_pos c40] at H
                                      have c40b0 : decide ((rd l3 x14_1) < (x12_2.length : Int)) = true := decide_eq_true c40
                                      clear c40
                                      by_cases c41 : (((rd_T40 t176 x14_1).f0) != (rdOf false x12_2 (rd l3 x14_1))) = true
                                      · rw [if_pos c41] at H
                                        have c41b0 : (((rd_T40 t176 x14_1).f0) != (rdOf false x12_2 (rd l3 x14_1))) = true := c41
                                        (try (have c41b1 : decide (((rd_T40 t176 x14_1).f0) = (rdOf false x12_2 (rd l3 x14_1))) = false := by simpa using c41))
                                        (try (have c41b2 : (((rd_T40 t176 x14_1).f0) == (rdOf false x12_2 (rd l3 x14_1))) = false := by simpa using c41))
                                        (try (have c41b3 : ¬ (((rd_T40 t176 x14_1).f0) = (rdOf false x12_2 (rd l3 x14_1))) := by simpa using c41))
                                        clear c41
                                        have H' := Aside0.mk H
                                        clear H
                                        have p192 : 0 ≤ (x14_1 : Int) := of_decide_eq_true (by first | (with_reducible assumption) | assumption)
                                        have q192 : x14_1 < (t176.length : Int) := of_decide_eq_true (by first | (with_reducible assumption) | assumption)
                                        obtain ⟨ad192, A192_1, c192_1, e192, hx192_0, hx192_1, hl192_1, hi192_1⟩ := at_T40 (Kd.S_reads' HO_10.out).2.2 x14_1 p192 q192
                                        obtain rfl : ad184 = ad192 := (by injection e192)
                                        obtain ⟨ce192, hce192, hMe192, hcc192⟩ := Kd.S_get HO_10.out z40 x14_1 p192 (by first | exact q192 | exact of_decide_eq_true (by first | (with_reducible assumption) | assumption) | (have e_ := (Kd.S_reads' HO_10.out).1; omega))
                                        obtain ⟨ve192_1, rfl, ge192_1⟩ := k40_openM hMe192
                                        have hv192_1 := hcc192 1 _ rfl
                                        rw [add_field _ _ 1 (by omega)] at hv192_1
                                        replace hv192_1 := Option.some.inj (hv192_1.symm.trans hx192_1)
                                        rw [hv192_1] at ge192_1
                                        have HL192_1 := Aside0.mk (show Kd.R (Kd.int .i64) 3 _ _ _ _ ((rd_T40 t176 x14_1).f1) from ge192_1)
                                        clear hv192_1 ge192_1
                                        clear hcc192 hce192
                                        have HR192_1 := Aside0.mk hi192_1
                                        have HC192_1 := Aside0.mk hl192_1
                                        clear hi192_1 hl192_1
                                        replace p192 := eq_true p192
                                        replace q192 := eq_true q192
                                        obtain ⟨Ao42, co42, eo42⟩ := Kd.R_slice HO_12.out
                                        subst eo42
                                        have p193 : 0 ≤ ((rd l3 x14_1) : Int) := of_decide_eq_true (by first | (with_reducible assumption) | assumption)
                                        have q193 : (rd l3 x14_1) < (x12_2.length : Int) := of_decide_eq_true (by first | (with_reducible assumption) | assumption)
                                        obtain ⟨ad193, e193, hx193_0⟩ := Kd.at_bool (Kd.R_reads' HO_12.out).2.2 (rd l3 x14_1) p193 q193
                                        cases e193
                                        replace p193 := eq_true p193
                                        replace q193 := eq_true q193
                                        go_wp2
                                        repeat (go_quiet (fail); try go_wp2)
                                        go_meet
                                        case rel => exact ⟨_, (true), (by first | rfl | (simp; done) | (simp [*]; done)), H', ⟨by have := HK1.out; have := HK2.out; first | omega | exact Nat.le_refl _⟩, ⟨by (with_reducible repeat (first | apply Kd.S_alloc | apply Kd.S_drewN | apply Kd.S_drew)); exact HO_10.out⟩, ⟨by (with_reducible repeat (first | apply Kd.R_alloc | apply Kd.R_drewN | apply Kd.R_drew)); exact HO_12.out⟩, ⟨by repeat (first | (with_reducible exact HR184_1.out) | (with_reducible refine Kd.C_alloc ?_ _) | (with_reducible refine Kd.C_drewN ?_ _) | (with_reducible refine Kd.C_drew ?_) | exact HR184_1.out)⟩, ⟨by repeat (first | (with_reducible first | exact HB.out | apply below_alloc | apply pw_below_drewN | apply below_drew1) | exact HB.out)⟩⟩
                                      · rw [if_neg c41] at H
                                        have c41b0 : (((rd_T40 t176 x14_1).f0) != (rdOf false x12_2 (rd l3 x14_1))) = false := by simpa using c41
                                        (try (have c41b1 : decide (((rd_T40 t176 x14_1).f0) = (rdOf false x12_2 (rd l3 x14_1))) = true := by simpa using c41))
                                        (try (have c41b2 : (((rd_T40 t176 x14_1).f0) == (rdOf false x12_2 (rd l3 x14_1))) = true := by simpa using c41))
                                        clear c41
                                        by_cases c43 : x16_2 > 0
                                        · rw [if_pos c43] at H
                                          have c43b0 : decide (0 < x16_2) = true := decide_eq_true c43
                                          clear c43
                                          by_cases c44 : (rd l3 x14_1) < (l1.length : Int)
                                          · rw [if_pos c44] at H
                                            have c44b0 : decide ((rd l3 x14_1) < (l1.length : Int)) = true := decide_eq_true c44
                                            clear c44
                                            have H' := Aside0.mk H
                                            clear H
                                            have p192 : 0 ≤ (x14_1 : Int) := of_decide_eq_true (by first | (with_reducible assumption) | assumption)
                                            have q192 : x14_1 < (t176.length : Int) := of_decide_eq_true (by first | (with_reducible assumption) | assumption)
                                            obtain ⟨ad192, A192_1, c192_1, e192, hx192_0, hx192_1, hl192_1, hi192_1⟩ := at_T40 (Kd.S_reads' HO_10.out).2.2 x14_1 p192 q192
                                            obtain rfl : ad184 = ad192 := (by injection e192)
                                            obtain ⟨ce192, hce192, hMe192, hcc192⟩ := Kd.S_get HO_10.out z40 x14_1 p192 (by first | exact q192 | exact of_decide_eq_true (by first | (with_reducible assumption) | assumption) | (have e_ := (Kd.S_reads' HO_10.out).1; omega))
                                            obtain ⟨ve192_1, rfl, ge192_1⟩ := k40_openM hMe192
                                            have hv192_1 := hcc192 1 _ rfl
                                            rw [add_field _ _ 1 (by omega)] at hv192_1
                                            replace hv192_1 := Option.some.inj (hv192_1.symm.trans hx192_1)
                                            rw [hv192_1] at ge192_1
                                            have HL192_1 := Aside0.mk (show Kd.R (Kd.int .i64) 3 _ _ _ _ ((rd_T40 t176 x14_1).f1) from ge192_1)
                                            clear hv192_1 ge192_1
                                            clear hcc192 hce192
                                            have HR192_1 := Aside0.mk hi192_1
                                            have HC192_1 := Aside0.mk hl192_1
                                            clear hi192_1 hl192_1
                                            replace p192 := eq_true p192
                                            replace q192 := eq_true q192
                                            obtain ⟨Ao45, co45, eo45⟩ := Kd.R_slice HO_12.out
                                            subst eo45
                                            have p193 : 0 ≤ ((rd l3 x14_1) : Int) := of_decide_eq_true (by first | (with_reducible assumption) | assumption)
                                            have q193 : (rd l3 x14_1) < (x12_2.length : Int) := of_decide_eq_true (by first | (with_reducible assumption) | assumption)
                                            obtain ⟨ad193, e193, hx193_0⟩ := Kd.at_bool (Kd.R_reads' HO_12.out).2.2 (rd l3 x14_1) p193 q193
                                            cases e193
                                            replace p193 := eq_true p193
                                            replace q193 := eq_true q193
                                            have p194 : 0 ≤ ((rd l3 x14_1) : Int) := of_decide_eq_true (by first | (with_reducible assumption) | assumption)
                                            have q194 : (rd l3 x14_1) < (l1.length : Int) := of_decide_eq_true (by first | (with_reducible assumption) | assumption)
                                            obtain ⟨ad194, e194, hx194_0⟩ := Kd.at_int HR1.out (rd l3 x14_1) p194 q194
                                            cases e194
                                            replace hx194_0 := (HB.out.cell (World.block_lt_of_cell? w _ hx194_0)).trans hx194_0
                                            replace p194 := eq_true p194
                                            replace q194 := eq_true q194
                                            go_wp2
                                            repeat (go_quiet (fail); try go_wp2)
                                            go_meet
                                            case rel => exact ⟨_, (decide ((wrap64 ((wrap64 (x13_2 + x16_2)) + (rd l1 (rd l3 x14_1)))) ≤ a0)), (by first | rfl | (simp; done) | (simp [*]; done)), H', ⟨by have := HK1.out; have := HK2.out; first | omega | exact Nat.le_refl _⟩, ⟨by (with_reducible repeat (first | apply Kd.S_alloc | apply Kd.S_drewN | apply Kd.S_drew)); exact HO_10.out⟩, ⟨by (with_reducible repeat (first | apply Kd.R_alloc | apply Kd.R_drewN | apply Kd.R_drew)); exact HO_12.out⟩, ⟨by repeat (first | (with_reducible exact HR184_1.out) | (with_reducible refine Kd.C_alloc ?_ _) | (with_reducible refine Kd.C_drewN ?_ _) | (with_reducible refine Kd.C_drew ?_) | exact HR184_1.out)⟩, ⟨by repeat (first | (with_reducible first | exact HB.out | apply below_alloc | apply pw_below_drewN | apply below_drew1) | exact HB.out)⟩⟩
                                          · rw [if_neg c44] at H
                                            exact absurd H (by simp)
                                        · rw [if_neg c43] at H
                                          have c43b0 : decide (0 < x16_2) = false := decide_eq_false c43
                                          clear c43
                                          have H' := Aside0.mk H
                                          clear H
                                          have p192 : 0 ≤ (x14_1 : Int) := of_decide_eq_true (by first | (with_reducible assumption) | assumption)
                                          have q192 : x14_1 < (t176.length : Int) := of_decide_eq_true (by first | (with_reducible assumption) | assumption)
                                          obtain ⟨ad192, A192_1, c192_1, e192, hx192_0, hx192_1, hl192_1, hi192_1⟩ := at_T40 (Kd.S_reads' HO_10.out).2.2 x14_1 p192 q192
                                          obtain rfl : ad184 = ad192 := (by injection e192)
                                          obtain ⟨ce192, hce192, hMe192, hcc192⟩ := Kd.S_get HO_10.out z40 x14_1 p192 (by first | exact q192 | exact of_decide_eq_true (by first | (with_reducible assumption) | assumption) | (have e_ := (Kd.S_reads' HO_10.out).1; omega))
                                          obtain ⟨ve192_1, rfl, ge192_1⟩ := k40_openM hMe192
                                          have hv192_1 := hcc192 1 _ rfl
                                          rw [add_field _ _ 1 (by omega)] at hv192_1
                                          replace hv192_1 := Option.some.inj (hv192_1.symm.trans hx192_1)
                                          rw [hv192_1] at ge192_1
                                          have HL192_1 := Aside0.mk (show Kd.R (Kd.int .i64) 3 _ _ _ _ ((rd_T40 t176 x14_1).f1) from ge192_1)
                                          clear hv192_1 ge192_1
                                          clear hcc192 hce192
                                          have HR192_1 := Aside0.mk hi192_1
                                          have HC192_1 := Aside0.mk hl192_1
                                          clear hi192_1 hl192_1
                                          replace p192 := eq_true p192
                                          replace q192 := eq_true q192
                                          obtain ⟨Ao46, co46, eo46⟩ := Kd.R_slice HO_12.out
                                          subst eo46
                                          have p193 : 0 ≤ ((rd l3 x14_1) : Int) := of_decide_eq_true (by first | (with_reducible assumption) | assumption)
                                          have q193 : (rd l3 x14_1) < (x12_2.length : Int) := of_decide_eq_true (by first | (with_reducible assumption) | assumption)
                                          obtain ⟨ad193, e193, hx193_0⟩ := Kd.at_bool (Kd.R_reads' HO_12.out).2.2 (rd l3 x14_1) p193 q193
                                          cases e193
                                          replace p193 := eq_true p193
                                          replace q193 := eq_true q193
                                          go_wp2
                                          repeat (go_quiet (fail); try go_wp2)
                                          go_meet
                                          case rel => exact ⟨_, (false), (by first | rfl | (simp; done) | (simp [*]; done)), H', ⟨by have := HK1.out; have := HK2.out; first | omega | exact Nat.le_refl _⟩, ⟨by (with_reducible repeat (first | apply Kd.S_alloc | apply Kd.S_drewN | apply Kd.S_drew)); exact HO_10.out⟩, ⟨by (with_reducible repeat (first | apply Kd.R_alloc | apply Kd.R_drewN | apply Kd.R_drew)); exact HO_12.out⟩, ⟨by repeat (first | (with_reducible exact HR184_1.out) | (with_reducible refine Kd.C_alloc ?_ _) | (with_reducible refine Kd.C_drewN ?_ _) | (with_reducible refine Kd.C_drew ?_) | exact HR184_1.out)⟩, ⟨by repeat (first | (with_reducible first | exact HB.out | apply below_alloc | apply pw_below_drewN | apply below_drew1) | exact HB.out)⟩⟩
                                    · rw [if_neg c40] at H
                                      exact absurd H (by simp)
                                  · rw [if_neg c39] at H
                                    exact absurd H (by simp)
                                case rest =>
                                  clear HC38
                                  try clear c1
                                  try clear p1
                                  try clear q1
                                  try clear hx1
                                  try clear c2
                                  try clear p2
                                  try clear q2
                                  try clear c3
                                  try clear p3
                                  try clear q3
                                  try clear hx3
                                  try clear c4
                                  try clear p6
                                  try clear c7
                                  try clear c9
                                  try clear c9b0
                                  try clear c9b1
                                  try clear c10
                                  try clear c10b0
                                  try clear c10b1
                                  try clear c10b2
                                  try clear c11
                                  try clear c11b0
                                  try clear c11b1
                                  try clear c12
                                  try clear c12b0
                                  try clear c12b1
                                  try clear c18
                                  try clear c18b0
                                  try clear p18
                                  try clear q18
                                  try clear hx18
                                  try clear c19
                                  try clear c19b0
                                  try clear p19
                                  try clear q19
                                  try clear hx19
                                  try clear c20
                                  try clear c20b0
                                  try clear c21
                                  try clear c21b0
                                  try clear c22
                                  try clear c22b0
                                  try clear c23
                                  try clear c23b0
                                  try clear c24
                                  try clear c24b0
                                  try clear c25
                                  try clear c25b0
                                  try clear c26
                                  try clear c26b0
                                  try clear c27
                                  try clear c27b0
                                  try clear c28
                                  try clear c28b0
                                  try clear q29
                                  try clear c30
                                  try clear q31
                                  try clear c32
                                  try clear p33
                                  try clear q33
                                  try clear hx33
                                  try clear hf33
                                  try clear c34
                                  try clear c34b0
                                  try clear c39
                                  try clear c39b0
                                  try clear c40
                                  try clear c40b0
                                  try clear c41
                                  try clear c41b0
                                  try clear c41b1
                                  try clear c41b2
                                  try clear c43
                                  try clear c43b0
                                  try clear c44
                                  try clear c44b0
                                  try clear hx183_0
                                  try clear hx184_0
                                  try clear hx184_1
                                  try clear hx185_0
                                  try clear hx185_1
                                  try clear hx186_0
                                  try clear hx187_0
                                  try clear hx188_0
                                  try clear hx188_1
                                  try clear hx190_0
                                  try clear hx191_0
                                  try clear hx192_0
                                  try clear hx192_1
                                  try clear hx193_0
                                  try clear hx194_0
                                  try clear hx33_0
                                  try clear p1
                                  try clear p18
                                  try clear p183
                                  try clear p184
                                  try clear p185
                                  try clear p186
                                  try clear p187
                                  try clear p188
                                  try clear p190
                                  try clear p191
                                  try clear p192
                                  try clear p193
                                  try clear p194
                                  try clear p2
                                  try clear p33
                                  try clear q1
                                  try clear q18
                                  try clear q183
                                  try clear q184
                                  try clear q185
                                  try clear q186
                                  try clear q187
                                  try clear q188
                                  try clear q190
                                  try clear q191
                                  try clear q192
                                  try clear q193
                                  try clear q194
                                  try clear q33
                                  obtain ⟨kq, x138_37, rfl, HA, HJ37, HO_10, HO_12, HR184_1, HB⟩ := hcut
                                  cases kq with
                                  | zero => exact absurd HA.out (by simp [linhaylaw18_GdsHolds.j2])
                                  | succ kj37 =>
                                    have H := HA.out
                                    clear HA
                                    simp only [linhaylaw18_GdsHolds.j2] at H
                                    by_cases c47 : x138_37 = true
                                    · subst c47
                                      have H1 : (none) = some r := by rw [if_pos rfl] at H; exact H
                                      clear H
                                      have H := H1
                                      clear H1
                                      exact absurd H (by simp)
                                    · replace c47 := Bool.eq_false_iff.mpr c47
                                      subst c47
                                      have H1 : (if 0 ≤ x14_1 then (if x14_1 < (t176.length : Int) then (if ((rd_T40 t176 x14_1).f0 = true) then (linhaylaw18_GdsHolds.j3 kj37 a0 l1 l3 t174 t176 x12_2 x13_2 x14_1 (rd l3 x14_1) false) else (if 0 ≤ (rd l3 x14_1) then (if (rd l3 x14_1) < (l1.length : Int) then (linhaylaw18_GdsHolds.j3 kj37 a0 l1 l3 t174 t176 x12_2 x13_2 x14_1 (rd l3 x14_1) (decide ((rd l1 (rd l3 x14_1)) ≤ a0))) else (none)) else (none))) else (none)) else (none)) = some r := by rw [if_neg (show ¬ (false = true) by decide)] at H; exact H
                                      clear H
                                      have H := H1
                                      clear H1
                                      have HC48 := Aside0.mk H
                                      clear H
                                      go_upto_region 27 with (fail)
                                      repeat (go_quiet (fail); go_upto_region 27 with (fail))
                                      go_cut [152] (fun v152 wc => ∃ (kq : Nat) (x152_47 : Bool), v152 = .bool x152_47 ∧ Aside0 (linhaylaw18_GdsHolds.j3 kq a0 l1 l3 t174 t176 x12_2 x13_2 x14_1 (rd l3 x14_1) x152_47 = some r) ∧ Aside0 (kq ≤ kj37) ∧ Aside0 (Kd.S k40 40 wc w.heap.size (fun _ => True) (.slice (some ad184) t176.length co15) t176) ∧ Aside0 (Kd.R Kd.bool 4 wc w.heap.size (fun _ => True) v181 x12_2) ∧ Aside0 (Kd.C (Kd.int .i64) wc A184_1 ((rd_T40 t176 x14_1).f1).length ((rd_T40 t176 x14_1).f1)) ∧ Aside0 (Below w.heap.size w wc))
                                      case first =>
                                        have H := HC48.out
                                        clear HC48
                                        by_cases c49 : 0 ≤ x14_1
                                        · rw [if_pos c49] at H
                                          have c49b0 : decide (0 ≤ x14_1) = true := decide_eq_true c49
                                          clear c49
                                          (first | rw [c49b0] | (simp only [i64_w, i32_w]; rw [c49b0]) | skip)
                                          by_cases c50 : x14_1 < (t176.length : Int)
                                          · rw [if_pos c50] at H
                                            have c50b0 : decide (x14_1 < (t176.length : Int)) = true := decide_eq_true c50
                                            clear c50
                                            obtain ⟨bq51, hbq51⟩ : ∃ b_ : Bool, b_ = ((rd_T40 t176 x14_1).f0) := ⟨_, rfl⟩
                                            replace H : (if (bq51 = true) then (linhaylaw18_GdsHolds.j3 kj37 a0 l1 l3 t174 t176 x12_2 x13_2 x14_1 (rd l3 x14_1) false) else (if 0 ≤ (rd l3 x14_1) then (if (rd l3 x14_1) < (l1.length : Int) then (linhaylaw18_GdsHolds.j3 kj37 a0 l1 l3 t174 t176 x12_2 x13_2 x14_1 (rd l3 x14_1) (decide ((rd l1 (rd l3 x14_1)) ≤ a0))) else (none)) else (none))) = some r := by rw [← hbq51] at H; exact H
                                            have Nbq51 := Aside0.mk hbq51
                                            clear hbq51
                                            by_cases c52 : (bq51 = true)
                                            · subst c52
                                              have H1 : (linhaylaw18_GdsHolds.j3 kj37 a0 l1 l3 t174 t176 x12_2 x13_2 x14_1 (rd l3 x14_1) false) = some r := by rw [if_pos rfl] at H; exact H
                                              clear H
                                              have H := H1
                                              clear H1
                                              have H' := Aside0.mk H
                                              clear H
                                              have p195 : 0 ≤ (x14_1 : Int) := of_decide_eq_true (by first | (with_reducible assumption) | assumption)
                                              have q195 : x14_1 < (t176.length : Int) := of_decide_eq_true (by first | (with_reducible assumption) | assumption)
                                              obtain ⟨ad195, A195_1, c195_1, e195, hx195_0, hx195_1, hl195_1, hi195_1⟩ := at_T40 (Kd.S_reads' HO_10.out).2.2 x14_1 p195 q195
                                              (try rw [← Nbq51.out] at hx195_0)
                                              obtain rfl : ad184 = ad195 := (by injection e195)
                                              obtain ⟨ce195, hce195, hMe195, hcc195⟩ := Kd.S_get HO_10.out z40 x14_1 p195 (by first | exact q195 | exact of_decide_eq_true (by first | (with_reducible assumption) | assumption) | (have e_ := (Kd.S_reads' HO_10.out).1; omega))
                                              obtain ⟨ve195_1, rfl, ge195_1⟩ := k40_openM hMe195
                                              have hv195_1 := hcc195 1 _ rfl
                                              rw [add_field _ _ 1 (by omega)] at hv195_1
                                              replace hv195_1 := Option.some.inj (hv195_1.symm.trans hx195_1)
                                              rw [hv195_1] at ge195_1
                                              have HL195_1 := Aside0.mk (show Kd.R (Kd.int .i64) 3 _ _ _ _ ((rd_T40 t176 x14_1).f1) from ge195_1)
                                              clear hv195_1 ge195_1
                                              clear hcc195 hce195
                                              have HR195_1 := Aside0.mk hi195_1
                                              have HC195_1 := Aside0.mk hl195_1
                                              clear hi195_1 hl195_1
                                              replace p195 := eq_true p195
                                              replace q195 := eq_true q195
                                              go_wp2
                                              repeat (go_quiet (fail); try go_wp2)
                                              go_meet
                                              case rel => exact ⟨_, (false), (by first | rfl | (simp; done) | (simp [*]; done)), H', ⟨by have := HK1.out; have := HK2.out; have := HJ37.out; first | omega | exact Nat.le_refl _⟩, ⟨by (with_reducible repeat (first | apply Kd.S_alloc | apply Kd.S_drewN | apply Kd.S_drew)); exact HO_10.out⟩, ⟨by (with_reducible repeat (first | apply Kd.R_alloc | apply Kd.R_drewN | apply Kd.R_drew)); exact HO_12.out⟩, ⟨by repeat (first | (with_reducible exact HR184_1.out) | (with_reducible refine Kd.C_alloc ?_ _) | (with_reducible refine Kd.C_drewN ?_ _) | (with_reducible refine Kd.C_drew ?_) | exact HR184_1.out)⟩, ⟨by repeat (first | (with_reducible first | exact HB.out | apply below_alloc | apply pw_below_drewN | apply below_drew1) | exact HB.out)⟩⟩
                                            · replace c52 := Bool.eq_false_iff.mpr c52
                                              subst c52
                                              have H1 : (if 0 ≤ (rd l3 x14_1) then (if (rd l3 x14_1) < (l1.length : Int) then (linhaylaw18_GdsHolds.j3 kj37 a0 l1 l3 t174 t176 x12_2 x13_2 x14_1 (rd l3 x14_1) (decide ((rd l1 (rd l3 x14_1)) ≤ a0))) else (none)) else (none)) = some r := by rw [if_neg (show ¬ (false = true) by decide)] at H; exact H
                                              clear H
                                              have H := H1
                                              clear H1
                                              by_cases c53 : 0 ≤ (rd l3 x14_1)
                                              · rw [if_pos c53] at H
                                                have c53b0 : decide (0 ≤ (rd l3 x14_1)) = true := decide_eq_true c53
                                                clear c53
                                                by_cases c54 : (rd l3 x14_1) < (l1.length : Int)
                                                · rw [if_pos c54] at H
                                                  have c54b0 : decide ((rd l3 x14_1) < (l1.length : Int)) = true := decide_eq_true c54
                                                  clear c54
                                                  have H' := Aside0.mk H
                                                  clear H
                                                  have p195 : 0 ≤ (x14_1 : Int) := of_decide_eq_true (by first | (with_reducible assumption) | assumption)
                                                  have q195 : x14_1 < (t176.length : Int) := of_decide_eq_true (by first | (with_reducible assumption) | assumption)
                                                  obtain ⟨ad195, A195_1, c195_1, e195, hx195_0, hx195_1, hl195_1, hi195_1⟩ := at_T40 (Kd.S_reads' HO_10.out).2.2 x14_1 p195 q195
                                                  (try rw [← Nbq51.out] at hx195_0)
                                                  obtain rfl : ad184 = ad195 := (by injection e195)
                                                  obtain ⟨ce195, hce195, hMe195, hcc195⟩ := Kd.S_get HO_10.out z40 x14_1 p195 (by first | exact q195 | exact of_decide_eq_true (by first | (with_reducible assumption) | assumption) | (have e_ := (Kd.S_reads' HO_10.out).1; omega))
                                                  obtain ⟨ve195_1, rfl, ge195_1⟩ := k40_openM hMe195
                                                  have hv195_1 := hcc195 1 _ rfl
                                                  rw [add_field _ _ 1 (by omega)] at hv195_1
                                                  replace hv195_1 := Option.some.inj (hv195_1.symm.trans hx195_1)
                                                  rw [hv195_1] at ge195_1
                                                  have HL195_1 := Aside0.mk (show Kd.R (Kd.int .i64) 3 _ _ _ _ ((rd_T40 t176 x14_1).f1) from ge195_1)
                                                  clear hv195_1 ge195_1
                                                  clear hcc195 hce195
                                                  have HR195_1 := Aside0.mk hi195_1
                                                  have HC195_1 := Aside0.mk hl195_1
                                                  clear hi195_1 hl195_1
                                                  replace p195 := eq_true p195
                                                  replace q195 := eq_true q195
                                                  have p196 : 0 ≤ ((rd l3 x14_1) : Int) := of_decide_eq_true (by first | (with_reducible assumption) | assumption)
                                                  have q196 : (rd l3 x14_1) < (l1.length : Int) := of_decide_eq_true (by first | (with_reducible assumption) | assumption)
                                                  obtain ⟨ad196, e196, hx196_0⟩ := Kd.at_int HR1.out (rd l3 x14_1) p196 q196
                                                  cases e196
                                                  replace hx196_0 := (HB.out.cell (World.block_lt_of_cell? w _ hx196_0)).trans hx196_0
                                                  replace p196 := eq_true p196
                                                  replace q196 := eq_true q196
                                                  go_wp2
                                                  repeat (go_quiet (fail); try go_wp2)
                                                  go_meet
                                                  case rel => exact ⟨_, (decide ((rd l1 (rd l3 x14_1)) ≤ a0)), (by first | rfl | (simp; done) | (simp [*]; done)), H', ⟨by have := HK1.out; have := HK2.out; have := HJ37.out; first | omega | exact Nat.le_refl _⟩, ⟨by (with_reducible repeat (first | apply Kd.S_alloc | apply Kd.S_drewN | apply Kd.S_drew)); exact HO_10.out⟩, ⟨by (with_reducible repeat (first | apply Kd.R_alloc | apply Kd.R_drewN | apply Kd.R_drew)); exact HO_12.out⟩, ⟨by repeat (first | (with_reducible exact HR184_1.out) | (with_reducible refine Kd.C_alloc ?_ _) | (with_reducible refine Kd.C_drewN ?_ _) | (with_reducible refine Kd.C_drew ?_) | exact HR184_1.out)⟩, ⟨by repeat (first | (with_reducible first | exact HB.out | apply below_alloc | apply pw_below_drewN | apply below_drew1) | exact HB.out)⟩⟩
                                                · rw [if_neg c54] at H
                                                  exact absurd H (by simp)
                                              · rw [if_neg c53] at H
                                                exact absurd H (by simp)
                                          · rw [if_neg c50] at H
                                            exact absurd H (by simp)
                                        · rw [if_neg c49] at H
                                          exact absurd H (by simp)
                                      case rest =>
                                        clear HC48
                                        try clear c1
                                        try clear p1
                                        try clear q1
                                        try clear hx1
                                        try clear c2
                                        try clear p2
                                        try clear q2
                                        try clear c3
                                        try clear p3
                                        try clear q3
                                        try clear hx3
                                        try clear c4
                                        try clear c5
                                        try clear q5
                                        try clear p6
                                        try clear c7
                                        try clear c9
                                        try clear c9b0
                                        try clear c9b1
                                        try clear c10
                                        try clear c10b0
                                        try clear c10b1
                                        try clear c10b2
                                        try clear c11
                                        try clear c11b0
                                        try clear c11b1
                                        try clear c12
                                        try clear c12b0
                                        try clear c12b1
                                        try clear c18
                                        try clear c18b0
                                        try clear p18
                                        try clear q18
                                        try clear hx18
                                        try clear c19
                                        try clear c19b0
                                        try clear p19
                                        try clear q19
                                        try clear hx19
                                        try clear c20
                                        try clear c20b0
                                        try clear c21
                                        try clear c21b0
                                        try clear c22
                                        try clear c22b0
                                        try clear c23
                                        try clear c23b0
                                        try clear c24
                                        try clear c24b0
                                        try clear c25
                                        try clear c25b0
                                        try clear c26
                                        try clear c26b0
                                        try clear c27
                                        try clear c27b0
                                        try clear c28
                                        try clear c28b0
                                        try clear q29
                                        try clear c30
                                        try clear q31
                                        try clear c32
                                        try clear p33
                                        try clear q33
                                        try clear hx33
                                        try clear hf33
                                        try clear c34
                                        try clear c34b0
                                        try clear c39
                                        try clear c39b0
                                        try clear c40
                                        try clear c40b0
                                        try clear c41
                                        try clear c41b0
                                        try clear c41b1
                                        try clear c41b2
                                        try clear c43
                                        try clear c43b0
                                        try clear c44
                                        try clear c44b0
                                        try clear c47
                                        try clear c49
                                        try clear c49b0
                                        try clear c50
                                        try clear c50b0
                                        try clear q51
                                        try clear c52
                                        try clear c53
                                        try clear c53b0
                                        try clear c54
                                        try clear c54b0
                                        try clear hx183_0
                                        try clear hx184_0
                                        try clear hx184_1
                                        try clear hx185_0
                                        try clear hx185_1
                                        try clear hx186_0
                                        try clear hx187_0
                                        try clear hx188_0
                                        try clear hx188_1
                                        try clear hx190_0
                                        try clear hx191_0
                                        try clear hx192_0
                                        try clear hx192_1
                                        try clear hx193_0
                                        try clear hx194_0
                                        try clear hx195_0
                                        try clear hx195_1
                                        try clear hx196_0
                                        try clear hx33_0
                                        try clear p1
                                        try clear p18
                                        try clear p183
                                        try clear p184
                                        try clear p185
                                        try clear p186
                                        try clear p187
                                        try clear p188
                                        try clear p19
                                        try clear p190
                                        try clear p191
                                        try clear p192
                                        try clear p193
                                        try clear p194
                                        try clear p195
                                        try clear p196
                                        try clear p2
                                        try clear p3
                                        try clear p33
                                        try clear p6
                                        try clear q1
                                        try clear q18
                                        try clear q183
                                        try clear q184
                                        try clear q185
                                        try clear q186
                                        try clear q187
                                        try clear q188
                                        try clear q19
                                        try clear q190
                                        try clear q191
                                        try clear q192
                                        try clear q193
                                        try clear q194
                                        try clear q195
                                        try clear q196
                                        try clear q2
                                        try clear q29
                                        try clear q3
                                        try clear q31
                                        try clear q33
                                        obtain ⟨kq, x152_47, rfl, HA, HJ47, HO_10, HO_12, HR184_1, HB⟩ := hcut
                                        cases kq with
                                        | zero => exact absurd HA.out (by simp [linhaylaw18_GdsHolds.j3])
                                        | succ kj47 =>
                                          have H := HA.out
                                          clear HA
                                          simp only [linhaylaw18_GdsHolds.j3] at H
                                          by_cases c55 : x152_47 = true
                                          · subst c55
                                            have H1 : (if 0 ≤ (rd l3 x14_1) then (if (rd l3 x14_1) < (x12_2.length : Int) then (if (rd l3 x14_1) < (l1.length : Int) then (if (wrap64 (x13_2 + (rd l1 (rd l3 x14_1)))) > a0 then (none) else (linhaylaw18_GdsHolds.l0 kj47 a0 l1 l3 t174 t176 (x12_2.set ((rd l3 x14_1) : Int).toNat true) (wrap64 (x13_2 + (rd l1 (rd l3 x14_1)))) (wrap64 (x14_1 + 1)))) else (none)) else (none)) else (none)) = some r := by rw [if_pos rfl] at H; exact H
                                            clear H
                                            have H := H1
                                            clear H1
                                            by_cases c56 : 0 ≤ (rd l3 x14_1)
                                            · rw [if_pos c56] at H
                                              have c56b0 : decide (0 ≤ (rd l3 x14_1)) = true := decide_eq_true c56
                                              clear c56
                                              by_cases c57 : (rd l3 x14_1) < (x12_2.length : Int)
                                              · rw [if_pos c57] at H
                                                have c57b0 : decide ((rd l3 x14_1) < (x12_2.length : Int)) = true := decide_eq_true c57
                                                clear c57
                                                obtain ⟨y197, hy197⟩ : ∃ y_ : List Bool, y_ = (x12_2.set ((rd l3 x14_1) : Int).toNat true) := ⟨_, rfl⟩
                                                replace H : (if (rd l3 x14_1) < (l1.length : Int) then (if (wrap64 (x13_2 + (rd l1 (rd l3 x14_1)))) > a0 then (none) else (linhaylaw18_GdsHolds.l0 kj47 a0 l1 l3 t174 t176 y197 (wrap64 (x13_2 + (rd l1 (rd l3 x14_1)))) (wrap64 (x14_1 + 1)))) else (none)) = some r := by first | (rw [hy197]; with_reducible exact H) | (have H2_ := (Option.bind_some _ _).symm.trans H; rw [hy197]; with_reducible exact H2_) | (have H2_ := (Option.bind_some _ _).symm.trans H; with_reducible exact H2_) | with_reducible exact H | (rw [hy197]; exact H) | exact H
                                                have Ny197 := Aside0.mk hy197
                                                clear hy197
                                                by_cases c59 : (rd l3 x14_1) < (l1.length : Int)
                                                · rw [if_pos c59] at H
                                                  have c59b0 : decide ((rd l3 x14_1) < (l1.length : Int)) = true := decide_eq_true c59
                                                  clear c59
                                                  by_cases c60 : (wrap64 (x13_2 + (rd l1 (rd l3 x14_1)))) > a0
                                                  · rw [if_pos c60] at H
                                                    exact absurd H (by simp)
                                                  · rw [if_neg c60] at H
                                                    have c60b0 : decide (a0 < (wrap64 (x13_2 + (rd l1 (rd l3 x14_1))))) = false := decide_eq_false c60
                                                    clear c60
                                                    have H' := Aside0.mk H
                                                    clear H
                                                    have p58 : 0 ≤ ((rd l3 x14_1) : Int) := of_decide_eq_true (by first | (with_reducible assumption) | assumption)
                                                    have q58 : ((rd l3 x14_1) : Int) < ((x12_2.length : Int) : Int) := of_decide_eq_true (by first | (with_reducible assumption) | assumption)
                                                    obtain ⟨go58, co58, eo58, gb58, gl58, cl58, HG58⟩ := Kd.R_form HO_12.out (by omega)
                                                    (first | cases eo58 | (injection eo58 with ea_ en_ ec_; (first | subst ea_ | (injection ea_ with ea_; subst ea_)); subst ec_; clear en_))
                                                    have GB58 := Aside0.mk gb58
                                                    have GG58 := Aside0.mk HG58
                                                    clear gb58 gl58 HG58
                                                    obtain ⟨hx58_0, hf58_0⟩ := Kd.R_celln false HO_12.out ((rd l3 x14_1) : Int) p58 q58
                                                    replace p58 := eq_true p58
                                                    replace q58 := eq_true q58
                                                    have HP61 := Kd.R_putg HO_12.out ((rd l3 x14_1) : Int) true
                                                    go_wp2_with (first | ((with_reducible refine gate_store (t := 4) (p := 155) rfl ?_); (try (rw [drewN_self wc]; generalize hq_ : World.drewN wc _ = wc; have n0_ := Aside0.mk (Kd.S_at hq_ HO_10.out); have n1_ := Aside0.mk (Kd.R_at hq_ HO_12.out); have n2_ := Aside0.mk (below_at hq_ HB.out); clear hq_ HO_10 HO_12 HB; have HO_10 := n0_; have HO_12 := n1_; have HB := n2_; clear n0_ n1_ n2_; (try (have HP61 := Kd.R_putg HO_12.out ((rd l3 x14_1) : Int) true)))); refine store_event (t := 4) (p := 155) (v := ?vo_w62) (w1 := (wc.setCell ⟨go58, ((rd l3 x14_1) : Int).toNat, none⟩ (.bool true))) ?hg ?ho ?hn ?hr ?_; (case ho => rfl); (case hg => rfl); (case hn => rfl); (case hr => first | (go_simp; done) | (go_simp; rfl)); intro w62 hw; have hg : wc.grownBy w62 (some go58) := (by rw [hw]; exact HP61.2); have hp_ : Kd.R Kd.bool 4 w62 w.heap.size (fun _ => True) (.slice (some ⟨go58, 0, none⟩) x12_2.length co58) y197 := (by rw [hw, Ny197.out]; exact HP61.1); clear HP61; have n0_ := Aside0.mk (Kd.S_over' (v := (.slice (some ⟨go58, 0, none⟩) x12_2.length co58)) (by (with_reducible repeat (first | apply Kd.S_alloc | apply Kd.S_drewN | apply Kd.S_drew)); exact HO_10.out) (Kd.R_typed HO_12.out) (by decide) hg); have n1_ := Aside0.mk (hp_); have n2_ := Aside0.mk ((by rw [hw]; exact below_set (HB.out) GB58.out : Below w.heap.size w w62)); clear HO_10; clear HO_12; clear HB; have HO_10 := n0_; have HO_12 := n1_; have HB := n2_; clear n0_ n1_ n2_; clear hg hw hp_; have p198 : 0 ≤ ((rd l3 x14_1) : Int) := of_decide_eq_true (by first | (with_reducible assumption) | assumption); have q198 : (rd l3 x14_1) < (l1.length : Int) := of_decide_eq_true (by first | (with_reducible assumption) | assumption); obtain ⟨ad198, e198, hx198_0⟩ := Kd.at_int HR1.out (rd l3 x14_1) p198 q198; cases e198; replace hx198_0 := (HB.out.cell (World.block_lt_of_cell? w _ hx198_0)).trans hx198_0; replace p198 := eq_true p198; replace q198 := eq_true q198))
                                                    repeat (go_quiet (first | ((with_reducible refine gate_store (t := 4) (p := 155) rfl ?_); (try (rw [drewN_self wc]; generalize hq_ : World.drewN wc _ = wc; have n0_ := Aside0.mk (Kd.S_at hq_ HO_10.out); have n1_ := Aside0.mk (Kd.R_at hq_ HO_12.out); have n2_ := Aside0.mk (below_at hq_ HB.out); clear hq_ HO_10 HO_12 HB; have HO_10 := n0_; have HO_12 := n1_; have HB := n2_; clear n0_ n1_ n2_; (try (have HP61 := Kd.R_putg HO_12.out ((rd l3 x14_1) : Int) true)))); refine store_event (t := 4) (p := 155) (v := ?vo_w62) (w1 := (wc.setCell ⟨go58, ((rd l3 x14_1) : Int).toNat, none⟩ (.bool true))) ?hg ?ho ?hn ?hr ?_; (case ho => rfl); (case hg => rfl); (case hn => rfl); (case hr => first | (go_simp; done) | (go_simp; rfl)); intro w62 hw; have hg : wc.grownBy w62 (some go58) := (by rw [hw]; exact HP61.2); have hp_ : Kd.R Kd.bool 4 w62 w.heap.size (fun _ => True) (.slice (some ⟨go58, 0, none⟩) x12_2.length co58) y197 := (by rw [hw, Ny197.out]; exact HP61.1); clear HP61; have n0_ := Aside0.mk (Kd.S_over' (v := (.slice (some ⟨go58, 0, none⟩) x12_2.length co58)) (by (with_reducible repeat (first | apply Kd.S_alloc | apply Kd.S_drewN | apply Kd.S_drew)); exact HO_10.out) (Kd.R_typed HO_12.out) (by decide) hg); have n1_ := Aside0.mk (hp_); have n2_ := Aside0.mk ((by rw [hw]; exact below_set (HB.out) GB58.out : Below w.heap.size w w62)); clear HO_10; clear HO_12; clear HB; have HO_10 := n0_; have HO_12 := n1_; have HB := n2_; clear n0_ n1_ n2_; clear hg hw hp_; have p198 : 0 ≤ ((rd l3 x14_1) : Int) := of_decide_eq_true (by first | (with_reducible assumption) | assumption); have q198 : (rd l3 x14_1) < (l1.length : Int) := of_decide_eq_true (by first | (with_reducible assumption) | assumption); obtain ⟨ad198, e198, hx198_0⟩ := Kd.at_int HR1.out (rd l3 x14_1) p198 q198; cases e198; replace hx198_0 := (HB.out.cell (World.block_lt_of_cell? w _ hx198_0)).trans hx198_0; replace p198 := eq_true p198; replace q198 := eq_true q198)); try go_wp2_with (first | ((with_reducible refine gate_store (t := 4) (p := 155) rfl ?_); (try (rw [drewN_self wc]; generalize hq_ : World.drewN wc _ = wc; have n0_ := Aside0.mk (Kd.S_at hq_ HO_10.out); have n1_ := Aside0.mk (Kd.R_at hq_ HO_12.out); have n2_ := Aside0.mk (below_at hq_ HB.out); clear hq_ HO_10 HO_12 HB; have HO_10 := n0_; have HO_12 := n1_; have HB := n2_; clear n0_ n1_ n2_; (try (have HP61 := Kd.R_putg HO_12.out ((rd l3 x14_1) : Int) true)))); refine store_event (t := 4) (p := 155) (v := ?vo_w62) (w1 := (wc.setCell ⟨go58, ((rd l3 x14_1) : Int).toNat, none⟩ (.bool true))) ?hg ?ho ?hn ?hr ?_; (case ho => rfl); (case hg => rfl); (case hn => rfl); (case hr => first | (go_simp; done) | (go_simp; rfl)); intro w62 hw; have hg : wc.grownBy w62 (some go58) := (by rw [hw]; exact HP61.2); have hp_ : Kd.R Kd.bool 4 w62 w.heap.size (fun _ => True) (.slice (some ⟨go58, 0, none⟩) x12_2.length co58) y197 := (by rw [hw, Ny197.out]; exact HP61.1); clear HP61; have n0_ := Aside0.mk (Kd.S_over' (v := (.slice (some ⟨go58, 0, none⟩) x12_2.length co58)) (by (with_reducible repeat (first | apply Kd.S_alloc | apply Kd.S_drewN | apply Kd.S_drew)); exact HO_10.out) (Kd.R_typed HO_12.out) (by decide) hg); have n1_ := Aside0.mk (hp_); have n2_ := Aside0.mk ((by rw [hw]; exact below_set (HB.out) GB58.out : Below w.heap.size w w62)); clear HO_10; clear HO_12; clear HB; have HO_10 := n0_; have HO_12 := n1_; have HB := n2_; clear n0_ n1_ n2_; clear hg hw hp_; have p198 : 0 ≤ ((rd l3 x14_1) : Int) := of_decide_eq_true (by first | (with_reducible assumption) | assumption); have q198 : (rd l3 x14_1) < (l1.length : Int) := of_decide_eq_true (by first | (with_reducible assumption) | assumption); obtain ⟨ad198, e198, hx198_0⟩ := Kd.at_int HR1.out (rd l3 x14_1) p198 q198; cases e198; replace hx198_0 := (HB.out.cell (World.block_lt_of_cell? w _ hx198_0)).trans hx198_0; replace p198 := eq_true p198; replace q198 := eq_true q198)))
                                                    go_roundg kj47
                                                    case measure => have := HK1.out; have := HK2.out; have := HJ37.out; have := HJ47.out; omega
                                                    case rel => exact ⟨(y197), (wrap64 (x13_2 + (rd l1 (rd l3 x14_1)))), (wrap64 (x14_1 + 1)), (by first | rfl | (simp; done) | (simp [*]; done)), (by first | rfl | (simp; done) | (simp [*]; done)), H', ⟨by have := HK1.out; have := HK2.out; have := HJ37.out; have := HJ47.out; omega⟩, ⟨by (with_reducible repeat (first | apply Kd.S_alloc | apply Kd.S_drewN | apply Kd.S_drew)); exact HO_10.out⟩, ⟨by (with_reducible repeat (first | apply Kd.R_alloc | apply Kd.R_drewN | apply Kd.R_drew)); exact HO_12.out⟩, ⟨by repeat (first | (with_reducible first | exact HB.out | apply below_alloc | apply pw_below_drewN | apply below_drew1) | exact HB.out)⟩⟩
                                                · rw [if_neg c59] at H
                                                  exact absurd H (by simp)
                                              · rw [if_neg c57] at H
                                                exact absurd H (by simp)
                                            · rw [if_neg c56] at H
                                              exact absurd H (by simp)
                                          · replace c55 := Bool.eq_false_iff.mpr c55
                                            subst c55
                                            have H1 : (if x13_2 > a0 then (none) else (linhaylaw18_GdsHolds.l0 kj47 a0 l1 l3 t174 t176 x12_2 x13_2 (wrap64 (x14_1 + 1)))) = some r := by rw [if_neg (show ¬ (false = true) by decide)] at H; exact H
                                            clear H
                                            have H := H1
                                            clear H1
                                            by_cases c63 : x13_2 > a0
                                            · rw [if_pos c63] at H
                                              exact absurd H (by simp)
                                            · rw [if_neg c63] at H
                                              have c63b0 : decide (a0 < x13_2) = false := decide_eq_false c63
                                              clear c63
                                              have H' := Aside0.mk H
                                              clear H
                                              go_wp2
                                              repeat (go_quiet (fail); try go_wp2)
                                              go_roundg kj47
                                              case measure => have := HK1.out; have := HK2.out; have := HJ37.out; have := HJ47.out; omega
                                              case rel => exact ⟨(x12_2), (x13_2), (wrap64 (x14_1 + 1)), (by first | rfl | (simp; done) | (simp [*]; done)), (by first | rfl | (simp; done) | (simp [*]; done)), H', ⟨by have := HK1.out; have := HK2.out; have := HJ37.out; have := HJ47.out; omega⟩, ⟨by (with_reducible repeat (first | apply Kd.S_alloc | apply Kd.S_drewN | apply Kd.S_drew)); exact HO_10.out⟩, ⟨by (with_reducible repeat (first | apply Kd.R_alloc | apply Kd.R_drewN | apply Kd.R_drew)); exact HO_12.out⟩, ⟨by repeat (first | (with_reducible first | exact HB.out | apply below_alloc | apply pw_below_drewN | apply below_drew1) | exact HB.out)⟩⟩
                            · rw [if_neg c22] at H
                              exact absurd H (by simp)
                          · rw [if_neg c21] at H
                            exact absurd H (by simp)
                    · rw [if_neg c20] at H
                      exact absurd H (by simp)
                  · rw [if_neg c19] at H
                    exact absurd H (by simp)
                · rw [if_neg c18] at H
                  have c18b0 : decide (x14_1 < (t176.length : Int)) = false := decide_eq_false c18
                  clear c18
                  obtain rfl := Option.some.inj H
                  go_wp2
                  repeat (go_quiet (fail); try go_wp2)
                  go_ret
                  exact ⟨by first | rfl | (simp [errW_none, errW_some] <;> rfl) | (simp [*, errW_none, errW_some] <;> rfl), by repeat (first | (with_reducible first | exact HB.out | apply below_alloc | apply pw_below_drewN | apply below_drew1) | exact HB.out)⟩
          · rw [if_neg c12] at H
            exact absurd H (by simp)
        · rw [if_neg c11] at H
          exact absurd H (by simp)
      · rw [if_neg c10] at H
        exact absurd H (by simp)
    · rw [if_neg c9] at H
      have c9b0 : (t177 == 0) = false := beq_eq_false_iff_ne.mpr c9
      have c9b1 : (t177 != 0) = true := bne_iff_ne.mpr c9
      by_cases c64 : t174 = true
      · subst c64
        have H1 : (some ((t176.length : Int) == 0)) = some r := by rw [if_pos rfl] at H; exact H
        clear H
        have H := H1
        clear H1
        obtain rfl := Option.some.inj H
        go_enter Try.func4, Try.ntmps4
        go_wp2_with (first | (go_at_call 8; (with_reducible refine (linhaylaw18_awake.calls k  true _ A5.out).mono ?_); rintro e w65 ⟨rfl, hb⟩; have n0_ := Aside0.mk (below_step (by repeat (first | (with_reducible first | exact HB.out | apply below_alloc | apply pw_below_drewN | apply below_drew1) | exact HB.out)) hb); clear HB; have HB := n0_; clear n0_; (try clear hb); (try clear hb2); (try clear hk); (try clear hi)) | (go_at_call 9; (with_reducible refine (linhaylaw18_few.calls _ _ l1 _ _ l2 _ _ l3 true _ ?side1 ?side2 ?side3 ?side4 ?side5 ?side6 A6.out).mono ?_); (case side1 => repeat (first | exact (Kd.C_below HR1.out HB.out) | (with_reducible refine Kd.C_alloc ?_ _) | (with_reducible refine Kd.C_drewN ?_ _) | (with_reducible refine Kd.C_drew ?_))); (case side2 => exact HC1.out); (case side3 => repeat (first | exact (Kd.C_below HR2.out HB.out) | (with_reducible refine Kd.C_alloc ?_ _) | (with_reducible refine Kd.C_drewN ?_ _) | (with_reducible refine Kd.C_drew ?_))); (case side4 => exact HC2.out); (case side5 => repeat (first | exact (Kd.C_below HR3.out HB.out) | (with_reducible refine Kd.C_alloc ?_ _) | (with_reducible refine Kd.C_drewN ?_ _) | (with_reducible refine Kd.C_drew ?_))); (case side6 => exact HC3.out); rintro e w' ⟨rfl, ⟨nd, rfl⟩⟩; (try first | exact ⟨rfl, _, World.drewN_drewN _ _ _⟩ | exact ⟨rfl, _, Eq.trans (World.drewN_drewN _ _ _) (congrArg (World.drewN _) (Nat.add_assoc _ _ _))⟩)) | (go_at_call 10; (with_reducible refine (gds_Run.calls k a0 _ _ l1 _ _ l2 _ _ l3 t176 t177 _ ?side1 ?side2 ?side3 ?side4 ?side5 ?side6 A8.out).mono ?_); (case side1 => repeat (first | exact (Kd.C_below HR1.out (by repeat (first | (with_reducible first | exact HB.out | apply below_alloc | apply pw_below_drewN | apply below_drew1) | exact HB.out))) | (with_reducible refine Kd.C_alloc ?_ _) | (with_reducible refine Kd.C_drewN ?_ _) | (with_reducible refine Kd.C_drew ?_))); (case side2 => exact HC1.out); (case side3 => repeat (first | exact (Kd.C_below HR2.out (by repeat (first | (with_reducible first | exact HB.out | apply below_alloc | apply pw_below_drewN | apply below_drew1) | exact HB.out))) | (with_reducible refine Kd.C_alloc ?_ _) | (with_reducible refine Kd.C_drewN ?_ _) | (with_reducible refine Kd.C_drew ?_))); (case side4 => exact HC2.out); (case side5 => repeat (first | exact (Kd.C_below HR3.out (by repeat (first | (with_reducible first | exact HB.out | apply below_alloc | apply pw_below_drewN | apply below_drew1) | exact HB.out))) | (with_reducible refine Kd.C_alloc ?_ _) | (with_reducible refine Kd.C_drewN ?_ _) | (with_reducible refine Kd.C_drew ?_))); (case side6 => exact HC3.out); rintro e w66 ⟨v178, rfl, ho0, hb⟩; have n0_ := Aside0.mk (Kd.S_lower ho0 (below_size (by repeat (first | (with_reducible first | exact HB.out | apply below_alloc | apply pw_below_drewN | apply below_drew1) | exact HB.out)))); have n1_ := Aside0.mk (below_step (by repeat (first | (with_reducible first | exact HB.out | apply below_alloc | apply pw_below_drewN | apply below_drew1) | exact HB.out)) hb); clear HB; have HO179 := n0_; have HB := n1_; clear n0_ n1_; (try clear hb); (try clear hb2); (try clear hk); (try clear hi); (try clear ho0); obtain ⟨Ao67, co67, eo67⟩ := Kd.S_slice HO179.out; subst eo67))
        repeat (go_quiet (first | (go_at_call 8; (with_reducible refine (linhaylaw18_awake.calls k  true _ A5.out).mono ?_); rintro e w65 ⟨rfl, hb⟩; have n0_ := Aside0.mk (below_step (by repeat (first | (with_reducible first | exact HB.out | apply below_alloc | apply pw_below_drewN | apply below_drew1) | exact HB.out)) hb); clear HB; have HB := n0_; clear n0_; (try clear hb); (try clear hb2); (try clear hk); (try clear hi)) | (go_at_call 9; (with_reducible refine (linhaylaw18_few.calls _ _ l1 _ _ l2 _ _ l3 true _ ?side1 ?side2 ?side3 ?side4 ?side5 ?side6 A6.out).mono ?_); (case side1 => repeat (first | exact (Kd.C_below HR1.out HB.out) | (with_reducible refine Kd.C_alloc ?_ _) | (with_reducible refine Kd.C_drewN ?_ _) | (with_reducible refine Kd.C_drew ?_))); (case side2 => exact HC1.out); (case side3 => repeat (first | exact (Kd.C_below HR2.out HB.out) | (with_reducible refine Kd.C_alloc ?_ _) | (with_reducible refine Kd.C_drewN ?_ _) | (with_reducible refine Kd.C_drew ?_))); (case side4 => exact HC2.out); (case side5 => repeat (first | exact (Kd.C_below HR3.out HB.out) | (with_reducible refine Kd.C_alloc ?_ _) | (with_reducible refine Kd.C_drewN ?_ _) | (with_reducible refine Kd.C_drew ?_))); (case side6 => exact HC3.out); rintro e w' ⟨rfl, ⟨nd, rfl⟩⟩; (try first | exact ⟨rfl, _, World.drewN_drewN _ _ _⟩ | exact ⟨rfl, _, Eq.trans (World.drewN_drewN _ _ _) (congrArg (World.drewN _) (Nat.add_assoc _ _ _))⟩)) | (go_at_call 10; (with_reducible refine (gds_Run.calls k a0 _ _ l1 _ _ l2 _ _ l3 t176 t177 _ ?side1 ?side2 ?side3 ?side4 ?side5 ?side6 A8.out).mono ?_); (case side1 => repeat (first | exact (Kd.C_below HR1.out (by repeat (first | (with_reducible first | exact HB.out | apply below_alloc | apply pw_below_drewN | apply below_drew1) | exact HB.out))) | (with_reducible refine Kd.C_alloc ?_ _) | (with_reducible refine Kd.C_drewN ?_ _) | (with_reducible refine Kd.C_drew ?_))); (case side2 => exact HC1.out); (case side3 => repeat (first | exact (Kd.C_below HR2.out (by repeat (first | (with_reducible first | exact HB.out | apply below_alloc | apply pw_below_drewN | apply below_drew1) | exact HB.out))) | (with_reducible refine Kd.C_alloc ?_ _) | (with_reducible refine Kd.C_drewN ?_ _) | (with_reducible refine Kd.C_drew ?_))); (case side4 => exact HC2.out); (case side5 => repeat (first | exact (Kd.C_below HR3.out (by repeat (first | (with_reducible first | exact HB.out | apply below_alloc | apply pw_below_drewN | apply below_drew1) | exact HB.out))) | (with_reducible refine Kd.C_alloc ?_ _) | (with_reducible refine Kd.C_drewN ?_ _) | (with_reducible refine Kd.C_drew ?_))); (case side6 => exact HC3.out); rintro e w66 ⟨v178, rfl, ho0, hb⟩; have n0_ := Aside0.mk (Kd.S_lower ho0 (below_size (by repeat (first | (with_reducible first | exact HB.out | apply below_alloc | apply pw_below_drewN | apply below_drew1) | exact HB.out)))); have n1_ := Aside0.mk (below_step (by repeat (first | (with_reducible first | exact HB.out | apply below_alloc | apply pw_below_drewN | apply below_drew1) | exact HB.out)) hb); clear HB; have HO179 := n0_; have HB := n1_; clear n0_ n1_; (try clear hb); (try clear hb2); (try clear hk); (try clear hi); (try clear ho0); obtain ⟨Ao67, co67, eo67⟩ := Kd.S_slice HO179.out; subst eo67)); try go_wp2_with (first | (go_at_call 8; (with_reducible refine (linhaylaw18_awake.calls k  true _ A5.out).mono ?_); rintro e w65 ⟨rfl, hb⟩; have n0_ := Aside0.mk (below_step (by repeat (first | (with_reducible first | exact HB.out | apply below_alloc | apply pw_below_drewN | apply below_drew1) | exact HB.out)) hb); clear HB; have HB := n0_; clear n0_; (try clear hb); (try clear hb2); (try clear hk); (try clear hi)) | (go_at_call 9; (with_reducible refine (linhaylaw18_few.calls _ _ l1 _ _ l2 _ _ l3 true _ ?side1 ?side2 ?side3 ?side4 ?side5 ?side6 A6.out).mono ?_); (case side1 => repeat (first | exact (Kd.C_below HR1.out HB.out) | (with_reducible refine Kd.C_alloc ?_ _) | (with_reducible refine Kd.C_drewN ?_ _) | (with_reducible refine Kd.C_drew ?_))); (case side2 => exact HC1.out); (case side3 => repeat (first | exact (Kd.C_below HR2.out HB.out) | (with_reducible refine Kd.C_alloc ?_ _) | (with_reducible refine Kd.C_drewN ?_ _) | (with_reducible refine Kd.C_drew ?_))); (case side4 => exact HC2.out); (case side5 => repeat (first | exact (Kd.C_below HR3.out HB.out) | (with_reducible refine Kd.C_alloc ?_ _) | (with_reducible refine Kd.C_drewN ?_ _) | (with_reducible refine Kd.C_drew ?_))); (case side6 => exact HC3.out); rintro e w' ⟨rfl, ⟨nd, rfl⟩⟩; (try first | exact ⟨rfl, _, World.drewN_drewN _ _ _⟩ | exact ⟨rfl, _, Eq.trans (World.drewN_drewN _ _ _) (congrArg (World.drewN _) (Nat.add_assoc _ _ _))⟩)) | (go_at_call 10; (with_reducible refine (gds_Run.calls k a0 _ _ l1 _ _ l2 _ _ l3 t176 t177 _ ?side1 ?side2 ?side3 ?side4 ?side5 ?side6 A8.out).mono ?_); (case side1 => repeat (first | exact (Kd.C_below HR1.out (by repeat (first | (with_reducible first | exact HB.out | apply below_alloc | apply pw_below_drewN | apply below_drew1) | exact HB.out))) | (with_reducible refine Kd.C_alloc ?_ _) | (with_reducible refine Kd.C_drewN ?_ _) | (with_reducible refine Kd.C_drew ?_))); (case side2 => exact HC1.out); (case side3 => repeat (first | exact (Kd.C_below HR2.out (by repeat (first | (with_reducible first | exact HB.out | apply below_alloc | apply pw_below_drewN | apply below_drew1) | exact HB.out))) | (with_reducible refine Kd.C_alloc ?_ _) | (with_reducible refine Kd.C_drewN ?_ _) | (with_reducible refine Kd.C_drew ?_))); (case side4 => exact HC2.out); (case side5 => repeat (first | exact (Kd.C_below HR3.out (by repeat (first | (with_reducible first | exact HB.out | apply below_alloc | apply pw_below_drewN | apply below_drew1) | exact HB.out))) | (with_reducible refine Kd.C_alloc ?_ _) | (with_reducible refine Kd.C_drewN ?_ _) | (with_reducible refine Kd.C_drew ?_))); (case side6 => exact HC3.out); rintro e w66 ⟨v178, rfl, ho0, hb⟩; have n0_ := Aside0.mk (Kd.S_lower ho0 (below_size (by repeat (first | (with_reducible first | exact HB.out | apply below_alloc | apply pw_below_drewN | apply below_drew1) | exact HB.out)))); have n1_ := Aside0.mk (below_step (by repeat (first | (with_reducible first | exact HB.out | apply below_alloc | apply pw_below_drewN | apply below_drew1) | exact HB.out)) hb); clear HB; have HO179 := n0_; have HB := n1_; clear n0_ n1_; (try clear hb); (try clear hb2); (try clear hk); (try clear hi); (try clear ho0); obtain ⟨Ao67, co67, eo67⟩ := Kd.S_slice HO179.out; subst eo67)))
        go_ret
        exact ⟨by first | rfl | (simp [errW_none, errW_some] <;> rfl) | (simp [*, errW_none, errW_some] <;> rfl), by repeat (first | (with_reducible first | exact HB.out | apply below_alloc | apply pw_below_drewN | apply below_drew1) | exact HB.out)⟩
      · replace c64 := Bool.eq_false_iff.mpr c64
        subst c64
        have H1 : (none) = some r := by rw [if_neg (show ¬ (false = true) by decide)] at H; exact H
        clear H
        have H := H1
        clear H1
        exact absurd H (by simp)
  · replace c7 := Bool.eq_false_iff.mpr c7
    subst c7
    have H1 : (some t174) = some r := by rw [if_neg (show ¬ (false = true) by decide)] at H; exact H
    clear H
    have H := H1
    clear H1
    obtain rfl := Option.some.inj H
    go_enter Try.func4, Try.ntmps4
    go_wp2_with (first | (go_at_call 8; (with_reducible refine (linhaylaw18_awake.calls k  t174 _ A5.out).mono ?_); rintro e w68 ⟨rfl, hb⟩; have n0_ := Aside0.mk (below_step (by repeat (first | (with_reducible first | exact HB.out | apply below_alloc | apply pw_below_drewN | apply below_drew1) | exact HB.out)) hb); clear HB; have HB := n0_; clear n0_; (try clear hb); (try clear hb2); (try clear hk); (try clear hi)) | (go_at_call 9; (with_reducible refine (linhaylaw18_few.calls _ _ l1 _ _ l2 _ _ l3 false _ ?side1 ?side2 ?side3 ?side4 ?side5 ?side6 A6.out).mono ?_); (case side1 => repeat (first | exact (Kd.C_below HR1.out HB.out) | (with_reducible refine Kd.C_alloc ?_ _) | (with_reducible refine Kd.C_drewN ?_ _) | (with_reducible refine Kd.C_drew ?_))); (case side2 => exact HC1.out); (case side3 => repeat (first | exact (Kd.C_below HR2.out HB.out) | (with_reducible refine Kd.C_alloc ?_ _) | (with_reducible refine Kd.C_drewN ?_ _) | (with_reducible refine Kd.C_drew ?_))); (case side4 => exact HC2.out); (case side5 => repeat (first | exact (Kd.C_below HR3.out HB.out) | (with_reducible refine Kd.C_alloc ?_ _) | (with_reducible refine Kd.C_drewN ?_ _) | (with_reducible refine Kd.C_drew ?_))); (case side6 => exact HC3.out); rintro e w' ⟨rfl, ⟨nd, rfl⟩⟩; (try first | exact ⟨rfl, _, World.drewN_drewN _ _ _⟩ | exact ⟨rfl, _, Eq.trans (World.drewN_drewN _ _ _) (congrArg (World.drewN _) (Nat.add_assoc _ _ _))⟩)))
    repeat (go_quiet (first | (go_at_call 8; (with_reducible refine (linhaylaw18_awake.calls k  t174 _ A5.out).mono ?_); rintro e w68 ⟨rfl, hb⟩; have n0_ := Aside0.mk (below_step (by repeat (first | (with_reducible first | exact HB.out | apply below_alloc | apply pw_below_drewN | apply below_drew1) | exact HB.out)) hb); clear HB; have HB := n0_; clear n0_; (try clear hb); (try clear hb2); (try clear hk); (try clear hi)) | (go_at_call 9; (with_reducible refine (linhaylaw18_few.calls _ _ l1 _ _ l2 _ _ l3 false _ ?side1 ?side2 ?side3 ?side4 ?side5 ?side6 A6.out).mono ?_); (case side1 => repeat (first | exact (Kd.C_below HR1.out HB.out) | (with_reducible refine Kd.C_alloc ?_ _) | (with_reducible refine Kd.C_drewN ?_ _) | (with_reducible refine Kd.C_drew ?_))); (case side2 => exact HC1.out); (case side3 => repeat (first | exact (Kd.C_below HR2.out HB.out) | (with_reducible refine Kd.C_alloc ?_ _) | (with_reducible refine Kd.C_drewN ?_ _) | (with_reducible refine Kd.C_drew ?_))); (case side4 => exact HC2.out); (case side5 => repeat (first | exact (Kd.C_below HR3.out HB.out) | (with_reducible refine Kd.C_alloc ?_ _) | (with_reducible refine Kd.C_drewN ?_ _) | (with_reducible refine Kd.C_drew ?_))); (case side6 => exact HC3.out); rintro e w' ⟨rfl, ⟨nd, rfl⟩⟩; (try first | exact ⟨rfl, _, World.drewN_drewN _ _ _⟩ | exact ⟨rfl, _, Eq.trans (World.drewN_drewN _ _ _) (congrArg (World.drewN _) (Nat.add_assoc _ _ _))⟩))); try go_wp2_with (first | (go_at_call 8; (with_reducible refine (linhaylaw18_awake.calls k  t174 _ A5.out).mono ?_); rintro e w68 ⟨rfl, hb⟩; have n0_ := Aside0.mk (below_step (by repeat (first | (with_reducible first | exact HB.out | apply below_alloc | apply pw_below_drewN | apply below_drew1) | exact HB.out)) hb); clear HB; have HB := n0_; clear n0_; (try clear hb); (try clear hb2); (try clear hk); (try clear hi)) | (go_at_call 9; (with_reducible refine (linhaylaw18_few.calls _ _ l1 _ _ l2 _ _ l3 false _ ?side1 ?side2 ?side3 ?side4 ?side5 ?side6 A6.out).mono ?_); (case side1 => repeat (first | exact (Kd.C_below HR1.out HB.out) | (with_reducible refine Kd.C_alloc ?_ _) | (with_reducible refine Kd.C_drewN ?_ _) | (with_reducible refine Kd.C_drew ?_))); (case side2 => exact HC1.out); (case side3 => repeat (first | exact (Kd.C_below HR2.out HB.out) | (with_reducible refine Kd.C_alloc ?_ _) | (with_reducible refine Kd.C_drewN ?_ _) | (with_reducible refine Kd.C_drew ?_))); (case side4 => exact HC2.out); (case side5 => repeat (first | exact (Kd.C_below HR3.out HB.out) | (with_reducible refine Kd.C_alloc ?_ _) | (with_reducible refine Kd.C_drewN ?_ _) | (with_reducible refine Kd.C_drew ?_))); (case side6 => exact HC3.out); rintro e w' ⟨rfl, ⟨nd, rfl⟩⟩; (try first | exact ⟨rfl, _, World.drewN_drewN _ _ _⟩ | exact ⟨rfl, _, Eq.trans (World.drewN_drewN _ _ _) (congrArg (World.drewN _) (Nat.add_assoc _ _ _))⟩))))
    go_ret
    exact ⟨by first | rfl | (simp [errW_none, errW_some] <;> rfl) | (simp [*, errW_none, errW_some] <;> rfl), by repeat (first | (with_reducible first | exact HB.out | apply below_alloc | apply pw_below_drewN | apply below_drew1) | exact HB.out)⟩

/-- THE ONE PURE STATEMENT of linhaylaw18_GdsHolds: yours. -/
def linhaylaw18_GdsHolds.Pure : Prop := ∀ (a0 : Int) (l1 : List Int) (l2 : List Int) (l3 : List Int), (Lit.int .i64 a0).wf = true → l1.length ≤ maxLen → l1.length * 8 ≤ 140737488351232 → (∀ x ∈ l1, (Lit.int .i64 x).wf = true) → l2.length ≤ maxLen → l2.length * 8 ≤ 140737488351232 → (∀ x ∈ l2, (Lit.int .i64 x).wf = true) → l3.length ≤ maxLen → l3.length * 8 ≤ 140737488351232 → (∀ x ∈ l3, (Lit.int .i64 x).wf = true) → ∃ k, linhaylaw18_GdsHolds.f k a0 l1 l2 l3 = some true
theorem linhaylaw18_GdsHolds.walk (P : linhaylaw18_GdsHolds.Pure) (a0 : Int) (a1 : Option Addr) (len1 cap1 : Nat) (z1 : List Int) (a2 : Option Addr) (len2 cap2 : Nat) (z2 : List Int) (a3 : Option Addr) (len3 cap3 : Nat) (z3 : List Int) (w : World) (w0 : (Lit.int .i64 a0).wf = true) (w1 : (a1 = none ∧ len1 = 0 ∧ cap1 = 0 ∧ z1 = []) ∨ ∃ x, a1 = some x ∧ len1 ≤ cap1 ∧ cap1 ≤ maxLen ∧ z1.length = cap1 ∧ (∀ i, i < z1.length → w.cell? (x.add i) = some (.int .i64 (z1.getD i 0))) ∧ ∀ n ∈ z1, (Lit.int .i64 n).wf = true) (y1 : len1 * 8 ≤ 140737488351232) (w2 : (a2 = none ∧ len2 = 0 ∧ cap2 = 0 ∧ z2 = []) ∨ ∃ x, a2 = some x ∧ len2 ≤ cap2 ∧ cap2 ≤ maxLen ∧ z2.length = cap2 ∧ (∀ i, i < z2.length → w.cell? (x.add i) = some (.int .i64 (z2.getD i 0))) ∧ ∀ n ∈ z2, (Lit.int .i64 n).wf = true) (y2 : len2 * 8 ≤ 140737488351232) (w3 : (a3 = none ∧ len3 = 0 ∧ cap3 = 0 ∧ z3 = []) ∨ ∃ x, a3 = some x ∧ len3 ≤ cap3 ∧ cap3 ≤ maxLen ∧ z3.length = cap3 ∧ (∀ i, i < z3.length → w.cell? (x.add i) = some (.int .i64 (z3.getD i 0))) ∧ ∀ n ∈ z3, (Lit.int .i64 n).wf = true) (y3 : len3 * 8 ≤ 140737488351232) :
    Calls Try.prog 4 #[.int .i64 a0, .slice a1 len1 cap1, .slice a2 len2 cap2, .slice a3 len3 cap3] w fun e w' => e = .returned (.bool true) ∧ Below w.heap.size w w' := by
  obtain ⟨l1, rfl, hr1, hm1, hw1, hc1⟩ := ReadsInt.ofRowC w1
  obtain ⟨l2, rfl, hr2, hm2, hw2, hc2⟩ := ReadsInt.ofRowC w2
  obtain ⟨l3, rfl, hr3, hm3, hw3, hc3⟩ := ReadsInt.ofRowC w3
  obtain ⟨k, h⟩ := P a0 l1 l2 l3 w0 hm1 y1 hw1 hm2 y2 hw2 hm3 y3 hw3
  refine (linhaylaw18_GdsHolds.calls k a0 _ _ l1 _ _ l2 _ _ l3 true w (Kd.C_of_reads (d := (0 : Int)) (h1 := fun _ => rfl) hr1) hc1 (Kd.C_of_reads (d := (0 : Int)) (h1 := fun _ => rfl) hr2) hc2 (Kd.C_of_reads (d := (0 : Int)) (h1 := fun _ => rfl) hr3) hc3 h).mono ?_
  rintro e w' ⟨rfl, hd⟩
  exact ⟨rfl, hd⟩

end Go.Proofs.Ytmacngkgokibeaa.Print
