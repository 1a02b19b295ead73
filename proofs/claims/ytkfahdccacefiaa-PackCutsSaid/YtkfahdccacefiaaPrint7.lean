/- Lean functions that answer what Go functions of the translation answer, and the proofs of it. Written by a program of this session (wip/tools/seatprint.py), over contracts that it proved by hand. Conditions: those that each theorem says. -/
import Derived.Test.YtkfahdccacefiaaPrint0
import Derived.Test.YtkfahdccacefiaaPrint1
import Derived.Test.YtkfahdccacefiaaPrint2
namespace Go.Proofs.Ytkfahdccacefiaa.Print
open Go.RowKit Go.Proofs.YtkfahdccacefiaaW.PrintWords Go.Proofs.YtkfahdccacefiaaW.PrintLast Go.Proofs.YtkfahdccacefiaaW.PrintMore
attribute [local go_sem] max2_int min2_int max_two min_two max_three min_three max_four min_four   -- for this text's walks alone
set_option linter.unusedVariables false
set_option linter.unusedSimpArgs false

/-! ### linhaylaw07_PackCuts: function 6 -/
def linhaylaw07_PackCuts.j0 : Nat → Int → Bool → ByteArray → ByteArray → ByteArray → Bool → Option (Bool)
  | 0, _, _, _, _, _, _ => none
  | k + 1, x2, x7, x8, x9, x10, x40 => if x40 = true then (none) else (if (x8.size : Int) = 0 then (none) else (if 0 ≤ (Int.tmod (wrap64 (x2)) (x8.size : Int)) then (if (Int.tmod (wrap64 (x2)) (x8.size : Int)) ≤ (x8.size : Int) then ((pack_Take.f k (x8.extract 0 ((Int.tmod (wrap64 (x2)) (x8.size : Int)) : Int).toNat)).bind fun bt289 => (if (x9.size : Int) = 0 then (none) else (if 0 ≤ (Int.tmod (wrap64 (x2)) (x9.size : Int)) then (if (Int.tmod (wrap64 (x2)) (x9.size : Int)) ≤ (x9.size : Int) then ((pack_TakeText.f k (x9.extract 0 ((Int.tmod (wrap64 (x2)) (x9.size : Int)) : Int).toNat)).bind fun bt292 => (if (x10.size : Int) = 0 then (none) else (if 0 ≤ (Int.tmod (wrap64 (x2)) (x10.size : Int)) then (if (Int.tmod (wrap64 (x2)) (x10.size : Int)) ≤ (x10.size : Int) then ((pack_TakeTexts.f k (x10.extract 0 ((Int.tmod (wrap64 (x2)) (x10.size : Int)) : Int).toNat)).bind fun bt295 => (if x7 = true then (if bt289.2.2 = 70 then (if bt292.2.2 = 70 then (some (bt295.2.2 == 70)) else (none)) else (none)) else (none))) else (none)) else (none)))) else (none)) else (none)))) else (none)) else (none)))
def linhaylaw07_PackCuts.f (k : Nat) (a0 : Int) (l1 : List ByteArray) (a2 : Int) : Option (Bool) := (linhaylaw07_awake.f k).bind fun t281 => ((linhayref07_Few.f k l1 100).bind fun t282 => (if t282 = true then ((pack_Put.f (⟨#[]⟩ : ByteArray) (([a0] : List Int))).bind fun t286 => ((pack_Text.f (⟨#[]⟩ : ByteArray) (⟨#[97, 98, 99]⟩ : ByteArray)).bind fun t287 => ((pack_Texts.f k (⟨#[]⟩ : ByteArray) l1).bind fun t288 => (if t286.toList = ([] : List UInt8) then (linhaylaw07_PackCuts.j0 k a2 t281 t286 t287 t288 true) else (if t287.toList = ([] : List UInt8) then (linhaylaw07_PackCuts.j0 k a2 t281 t286 t287 t288 true) else (linhaylaw07_PackCuts.j0 k a2 t281 t286 t287 t288 (t288.toList == ([] : List UInt8)))))))) else (some t281)))
theorem linhaylaw07_PackCuts.mono_l : ∀ k, (∀ y0 y1 y2 y3 y4 y5, LeO (linhaylaw07_PackCuts.j0 k y0 y1 y2 y3 y4 y5) (linhaylaw07_PackCuts.j0 (k + 1) y0 y1 y2 y3 y4 y5))
  | 0 => fun _ _ _ _ _ _ r h => by simp [linhaylaw07_PackCuts.j0] at h
  | k + 1 => by
    have ih0 := linhaylaw07_PackCuts.mono_l k
    · intro y0 y1 y2 y3 y4 y5
      unfold linhaylaw07_PackCuts.j0
      repeat' first
      | (with_reducible exact ih0 _ _ _ _ _ _)
      | (with_reducible exact linhaylaw07_awake.mono _)
      | (with_reducible exact linhayref07_Few.mono _ _ _)
      | (with_reducible exact pack_Take.mono _ _)
      | (with_reducible exact pack_TakeText.mono _ _)
      | (with_reducible exact pack_TakeTexts.mono _ _)
      | (with_reducible exact pack_Texts.mono _ _ _)
      | (with_reducible exact LeO.refl _)
      | (with_reducible exact LeO.none _)
      | (with_reducible refine LeO.ite ?_ ?_)
      | (with_reducible refine LeO.bind ?_ (fun _ => ?_))
      | exact ih0 _ _ _ _ _ _
      | exact linhaylaw07_awake.mono _
      | exact linhayref07_Few.mono _ _ _
      | exact pack_Take.mono _ _
      | exact pack_TakeText.mono _ _
      | exact pack_TakeTexts.mono _ _
      | exact pack_Texts.mono _ _ _
      | exact LeO.none _
      | refine LeO.ite ?_ ?_
      | refine LeO.bind ?_ (fun _ => ?_)
theorem linhaylaw07_PackCuts.mono : ∀ a0 a1 a2 k, LeO (linhaylaw07_PackCuts.f k a0 a1 a2) (linhaylaw07_PackCuts.f (k + 1) a0 a1 a2) := by
  intro a0 a1 a2 k
  have ih0 := linhaylaw07_PackCuts.mono_l k
  unfold linhaylaw07_PackCuts.f
  repeat' first
      | (with_reducible exact ih0 _ _ _ _ _ _)
      | (with_reducible exact linhaylaw07_awake.mono _)
      | (with_reducible exact linhayref07_Few.mono _ _ _)
      | (with_reducible exact pack_Take.mono _ _)
      | (with_reducible exact pack_TakeText.mono _ _)
      | (with_reducible exact pack_TakeTexts.mono _ _)
      | (with_reducible exact pack_Texts.mono _ _ _)
      | (with_reducible exact LeO.refl _)
      | (with_reducible exact LeO.none _)
      | (with_reducible refine LeO.ite ?_ ?_)
      | (with_reducible refine LeO.bind ?_ (fun _ => ?_))
      | exact ih0 _ _ _ _ _ _
      | exact linhaylaw07_awake.mono _
      | exact linhayref07_Few.mono _ _ _
      | exact pack_Take.mono _ _
      | exact pack_TakeText.mono _ _
      | exact pack_TakeTexts.mono _ _
      | exact pack_Texts.mono _ _ _
      | exact LeO.none _
      | refine LeO.ite ?_ ?_
      | refine LeO.bind ?_ (fun _ => ?_)
set_option maxHeartbeats 8000000 in
set_option maxRecDepth 100000 in
theorem linhaylaw07_PackCuts.calls (k : Nat) (a0 : Int) (A1 : Option Addr) (c1 : Nat) (l1 : List ByteArray) (a2 : Int) (r : Bool) (w : World) (hr1 : Kd.C Kd.string w A1 l1.length l1) (hc1 : l1.length ≤ c1) (h : linhaylaw07_PackCuts.f k a0 l1 a2 = some r) :
    Calls Try.prog 6 #[.int .u64 a0, .slice A1 l1.length c1, .int .u16 a2] w fun e w' => e = .returned (.bool r) ∧ Below w.heap.size w w' := by
  have HR1 := Aside0.mk hr1
  have HC1 := Aside0.mk hc1
  clear hr1 hc1
  have HB := Aside0.mk (Below.refl w.heap.size w)
  have H : ((linhaylaw07_awake.f k).bind fun t281 => ((linhayref07_Few.f k l1 100).bind fun t282 => (if t282 = true then ((pack_Put.f (⟨#[]⟩ : ByteArray) (([a0] : List Int))).bind fun t286 => ((pack_Text.f (⟨#[]⟩ : ByteArray) (⟨#[97, 98, 99]⟩ : ByteArray)).bind fun t287 => ((pack_Texts.f k (⟨#[]⟩ : ByteArray) l1).bind fun t288 => (if t286.toList = ([] : List UInt8) then (linhaylaw07_PackCuts.j0 k a2 t281 t286 t287 t288 true) else (if t287.toList = ([] : List UInt8) then (linhaylaw07_PackCuts.j0 k a2 t281 t286 t287 t288 true) else (linhaylaw07_PackCuts.j0 k a2 t281 t286 t287 t288 (t288.toList == ([] : List UInt8)))))))) else (some t281)))) = some r := h
  clear h
  replace H := Option.bind_eq_some_iff.mp H
  obtain ⟨t281, A40, H⟩ := H
  replace H : ((linhayref07_Few.f k l1 100).bind fun t282 => (if t282 = true then ((pack_Put.f (⟨#[]⟩ : ByteArray) (([a0] : List Int))).bind fun t286 => ((pack_Text.f (⟨#[]⟩ : ByteArray) (⟨#[97, 98, 99]⟩ : ByteArray)).bind fun t287 => ((pack_Texts.f k (⟨#[]⟩ : ByteArray) l1).bind fun t288 => (if t286.toList = ([] : List UInt8) then (linhaylaw07_PackCuts.j0 k a2 t281 t286 t287 t288 true) else (if t287.toList = ([] : List UInt8) then (linhaylaw07_PackCuts.j0 k a2 t281 t286 t287 t288 true) else (linhaylaw07_PackCuts.j0 k a2 t281 t286 t287 t288 (t288.toList == ([] : List UInt8)))))))) else (some t281))) = some r := H
  have A4 := Aside0.mk A40
  clear A40
  replace H := Option.bind_eq_some_iff.mp H
  obtain ⟨t282, A50, H⟩ := H
  replace H : (if t282 = true then ((pack_Put.f (⟨#[]⟩ : ByteArray) (([a0] : List Int))).bind fun t286 => ((pack_Text.f (⟨#[]⟩ : ByteArray) (⟨#[97, 98, 99]⟩ : ByteArray)).bind fun t287 => ((pack_Texts.f k (⟨#[]⟩ : ByteArray) l1).bind fun t288 => (if t286.toList = ([] : List UInt8) then (linhaylaw07_PackCuts.j0 k a2 t281 t286 t287 t288 true) else (if t287.toList = ([] : List UInt8) then (linhaylaw07_PackCuts.j0 k a2 t281 t286 t287 t288 true) else (linhaylaw07_PackCuts.j0 k a2 t281 t286 t287 t288 (t288.toList == ([] : List UInt8)))))))) else (some t281)) = some r := H
  have A5 := Aside0.mk A50
  clear A50
  by_cases c6 : t282 = true
  · subst c6
    have H1 : ((pack_Put.f (⟨#[]⟩ : ByteArray) (([a0] : List Int))).bind fun t286 => ((pack_Text.f (⟨#[]⟩ : ByteArray) (⟨#[97, 98, 99]⟩ : ByteArray)).bind fun t287 => ((pack_Texts.f k (⟨#[]⟩ : ByteArray) l1).bind fun t288 => (if t286.toList = ([] : List UInt8) then (linhaylaw07_PackCuts.j0 k a2 t281 t286 t287 t288 true) else (if t287.toList = ([] : List UInt8) then (linhaylaw07_PackCuts.j0 k a2 t281 t286 t287 t288 true) else (linhaylaw07_PackCuts.j0 k a2 t281 t286 t287 t288 (t288.toList == ([] : List UInt8)))))))) = some r := by rw [if_pos rfl] at H; exact H
    clear H
    have H := H1
    clear H1
    obtain ⟨y283, hy283⟩ : ∃ y_ : List Int, y_ = (([a0] : List Int)) := ⟨_, rfl⟩
    replace H : ((pack_Put.f (⟨#[]⟩ : ByteArray) y283).bind fun t286 => ((pack_Text.f (⟨#[]⟩ : ByteArray) (⟨#[97, 98, 99]⟩ : ByteArray)).bind fun t287 => ((pack_Texts.f k (⟨#[]⟩ : ByteArray) l1).bind fun t288 => (if t286.toList = ([] : List UInt8) then (linhaylaw07_PackCuts.j0 k a2 t281 t286 t287 t288 true) else (if t287.toList = ([] : List UInt8) then (linhaylaw07_PackCuts.j0 k a2 t281 t286 t287 t288 true) else (linhaylaw07_PackCuts.j0 k a2 t281 t286 t287 t288 (t288.toList == ([] : List UInt8)))))))) = some r := by first | (rw [hy283]; with_reducible exact H) | (have H2_ := (Option.bind_some _ _).symm.trans H; rw [hy283]; with_reducible exact H2_) | (have H2_ := (Option.bind_some _ _).symm.trans H; with_reducible exact H2_) | with_reducible exact H | (rw [hy283]; exact H) | exact H
    have Ny283 := Aside0.mk hy283
    clear hy283
    replace H := Option.bind_eq_some_iff.mp H
    obtain ⟨t286, A70, H⟩ := H
    replace H : ((pack_Text.f (⟨#[]⟩ : ByteArray) (⟨#[97, 98, 99]⟩ : ByteArray)).bind fun t287 => ((pack_Texts.f k (⟨#[]⟩ : ByteArray) l1).bind fun t288 => (if t286.toList = ([] : List UInt8) then (linhaylaw07_PackCuts.j0 k a2 t281 t286 t287 t288 true) else (if t287.toList = ([] : List UInt8) then (linhaylaw07_PackCuts.j0 k a2 t281 t286 t287 t288 true) else (linhaylaw07_PackCuts.j0 k a2 t281 t286 t287 t288 (t288.toList == ([] : List UInt8))))))) = some r := H
    have A7 := Aside0.mk A70
    clear A70
    replace H := Option.bind_eq_some_iff.mp H
    obtain ⟨t287, A80, H⟩ := H
    replace H : ((pack_Texts.f k (⟨#[]⟩ : ByteArray) l1).bind fun t288 => (if t286.toList = ([] : List UInt8) then (linhaylaw07_PackCuts.j0 k a2 t281 t286 t287 t288 true) else (if t287.toList = ([] : List UInt8) then (linhaylaw07_PackCuts.j0 k a2 t281 t286 t287 t288 true) else (linhaylaw07_PackCuts.j0 k a2 t281 t286 t287 t288 (t288.toList == ([] : List UInt8)))))) = some r := H
    have A8 := Aside0.mk A80
    clear A80
    replace H := Option.bind_eq_some_iff.mp H
    obtain ⟨t288, A90, H⟩ := H
    replace H : (if t286.toList = ([] : List UInt8) then (linhaylaw07_PackCuts.j0 k a2 t281 t286 t287 t288 true) else (if t287.toList = ([] : List UInt8) then (linhaylaw07_PackCuts.j0 k a2 t281 t286 t287 t288 true) else (linhaylaw07_PackCuts.j0 k a2 t281 t286 t287 t288 (t288.toList == ([] : List UInt8))))) = some r := H
    have A9 := Aside0.mk A90
    clear A90
    have HC10 := Aside0.mk H
    clear H
    go_enter Try.func6, Try.ntmps6
    go_upto_region 7 with (first | ((with_reducible refine gate_callee (f := 9) rfl ?_); refine goesL_ (some 20) rfl rfl Try.func9 (by kernel_rfl) rfl #[] rfl (by (try simp only [List.map_toArray, List.map_cons, List.map_nil]); first | done | rfl | (simp only [List.length_drop, List.length_take]; rfl)) ?_; (with_reducible refine (linhaylaw07_awake.calls k  t281 _ A4.out).mono ?_); rintro e w11 ⟨rfl, hb⟩; refine ⟨_, rfl, ?_⟩; have n0_ := Aside0.mk (below_step (by repeat (first | (with_reducible first | exact HB.out | apply below_alloc | apply pw_below_drewN | apply below_drew1) | exact HB.out)) hb); clear HB; have HB := n0_; clear n0_; (try clear hb); (try clear hb2); (try clear hk); (try clear hi)) | ((with_reducible refine gate_callee (f := 10) rfl ?_); refine goesL_ (some 22) rfl rfl Try.func10 (by kernel_rfl) rfl #[.slice A1 l1.length c1, .int .i64 100] rfl (by (try simp only [List.map_toArray, List.map_cons, List.map_nil]); first | done | rfl | (simp only [List.length_drop, List.length_take]; rfl)) ?_; (with_reducible refine (linhayref07_Few.calls k _ _ l1 100 true _ ?side1 ?side2 A5.out).mono ?_); (case side1 => repeat (first | exact (Kd.C_below HR1.out HB.out) | (with_reducible refine Kd.C_alloc ?_ _) | (with_reducible refine Kd.C_drewN ?_ _) | (with_reducible refine Kd.C_drew ?_))); (case side2 => exact HC1.out); rintro e w' ⟨rfl, ⟨nd, rfl⟩⟩; refine ⟨_, rfl, ?_⟩) | ((with_reducible refine gate_dst (N := 26) rfl ?_); refine Kd.R_lit (Kd.int .u64) _ 24 ?hg (N := 26) ?hd (xs := ([a0] : List Int)) (inner := [.int .u64 a0]) (ok := fun _ => True) (okp := fun _ => True) ?hr ?hp (fun _ hk => hk) trivial (Below.refl _ _) (Nat.le_refl _) (by simp) ?_; (case hd => rfl); (case hg => rfl); (case hr => first | (go_simp; done) | (go_simp; rfl)); (case hp => exact (Reps.one (show Kd.M (Kd.int .u64) _ _ _ a0 [.int .u64 a0] from rfl) (Reps.none _ _))); intro v284 w12 ho13 hb hg_ hnew_; clear hg_ hnew_; (first | rw [← Ny283.out] at ho13 | (simp only [Int.reduceToNat] at ho13; rw [← Ny283.out] at ho13)); have n0_ := Aside0.mk (Kd.R_lower ho13 (below_size (by repeat (first | (with_reducible first | exact HB.out | apply below_alloc | apply pw_below_drewN | apply below_drew1) | exact HB.out)))); have n1_ := Aside0.mk (below_step (by repeat (first | (with_reducible first | exact HB.out | apply below_alloc | apply pw_below_drewN | apply below_drew1) | exact HB.out)) hb); clear HB; have HO285 := n0_; have HB := n1_; clear n0_ n1_; clear hb ho13; obtain ⟨Ao14, co14, eo14⟩ := Kd.R_slice HO285.out; subst eo14) | ((with_reducible refine gate_callee (f := 18) rfl ?_); refine goesL_ (some 27) rfl rfl Try.func18 (by kernel_rfl) rfl #[.string (⟨#[]⟩ : ByteArray), .slice Ao14 y283.length co14] rfl (by (try simp only [List.map_toArray, List.map_cons, List.map_nil]); first | done | rfl | (simp only [List.length_drop, List.length_take]; rfl)) ?_; (with_reducible refine (pack_Put.calls (⟨#[]⟩ : ByteArray) _ _ y283 t286 _ ?side1 ?side2 A7.out).mono ?_); (case side1 => repeat (first | exact (Kd.R_reads' HO285.out).2.2 | (with_reducible refine Kd.C_alloc ?_ _) | (with_reducible refine Kd.C_drewN ?_ _) | (with_reducible refine Kd.C_drew ?_))); (case side2 => exact (Kd.R_reads' HO285.out).2.1); rintro e w15 ⟨rfl, hb⟩; refine ⟨_, rfl, ?_⟩; have n0_ := Aside0.mk (Kd.R_below (by (with_reducible repeat (first | apply Kd.R_alloc | apply Kd.R_drewN | apply Kd.R_drew)); exact HO285.out) hb); have n1_ := Aside0.mk (below_step (by repeat (first | (with_reducible first | exact HB.out | apply below_alloc | apply pw_below_drewN | apply below_drew1) | exact HB.out)) hb); clear HO285; clear HB; have HO285 := n0_; have HB := n1_; clear n0_ n1_; (try clear hb); (try clear hb2); (try clear hk); (try clear hi)) | ((with_reducible refine gate_callee (f := 20) rfl ?_); refine goesL_ (some 28) rfl rfl Try.func20 (by kernel_rfl) rfl #[.string (⟨#[]⟩ : ByteArray), .string (⟨#[97, 98, 99]⟩ : ByteArray)] rfl (by (try simp only [List.map_toArray, List.map_cons, List.map_nil]); first | done | rfl | (simp only [List.length_drop, List.length_take]; rfl)) ?_; (with_reducible refine (pack_Text.calls (⟨#[]⟩ : ByteArray) (⟨#[97, 98, 99]⟩ : ByteArray) t287 _ A8.out).mono ?_); rintro e w16 ⟨rfl, hb⟩; refine ⟨_, rfl, ?_⟩; have n0_ := Aside0.mk (Kd.R_below (by (with_reducible repeat (first | apply Kd.R_alloc | apply Kd.R_drewN | apply Kd.R_drew)); exact HO285.out) hb); have n1_ := Aside0.mk (below_step (by repeat (first | (with_reducible first | exact HB.out | apply below_alloc | apply pw_below_drewN | apply below_drew1) | exact HB.out)) hb); clear HO285; clear HB; have HO285 := n0_; have HB := n1_; clear n0_ n1_; (try clear hb); (try clear hb2); (try clear hk); (try clear hi)) | ((with_reducible refine gate_callee (f := 22) rfl ?_); refine goesL_ (some 30) rfl rfl Try.func22 (by kernel_rfl) rfl #[.string (⟨#[]⟩ : ByteArray), .slice A1 l1.length c1] rfl (by (try simp only [List.map_toArray, List.map_cons, List.map_nil]); first | done | rfl | (simp only [List.length_drop, List.length_take]; rfl)) ?_; (with_reducible refine (pack_Texts.calls k (⟨#[]⟩ : ByteArray) _ _ l1 t288 _ ?side1 ?side2 A9.out).mono ?_); (case side1 => repeat (first | exact (Kd.C_below HR1.out HB.out) | (with_reducible refine Kd.C_alloc ?_ _) | (with_reducible refine Kd.C_drewN ?_ _) | (with_reducible refine Kd.C_drew ?_))); (case side2 => exact HC1.out); rintro e w17 ⟨rfl, hb⟩; refine ⟨_, rfl, ?_⟩; have n0_ := Aside0.mk (Kd.R_below (by (with_reducible repeat (first | apply Kd.R_alloc | apply Kd.R_drewN | apply Kd.R_drew)); exact HO285.out) hb); have n1_ := Aside0.mk (below_step (by repeat (first | (with_reducible first | exact HB.out | apply below_alloc | apply pw_below_drewN | apply below_drew1) | exact HB.out)) hb); clear HO285; clear HB; have HO285 := n0_; have HB := n1_; clear n0_ n1_; (try clear hb); (try clear hb2); (try clear hk); (try clear hi)) | (go_at_call 9; (with_reducible refine (linhaylaw07_awake.calls k  t281 _ A4.out).mono ?_); rintro e w11 ⟨rfl, hb⟩; have n0_ := Aside0.mk (below_step (by repeat (first | (with_reducible first | exact HB.out | apply below_alloc | apply pw_below_drewN | apply below_drew1) | exact HB.out)) hb); clear HB; have HB := n0_; clear n0_; (try clear hb); (try clear hb2); (try clear hk); (try clear hi)) | (go_at_call 10; (with_reducible refine (linhayref07_Few.calls k _ _ l1 100 true _ ?side1 ?side2 A5.out).mono ?_); (case side1 => repeat (first | exact (Kd.C_below HR1.out HB.out) | (with_reducible refine Kd.C_alloc ?_ _) | (with_reducible refine Kd.C_drewN ?_ _) | (with_reducible refine Kd.C_drew ?_))); (case side2 => exact HC1.out); rintro e w' ⟨rfl, ⟨nd, rfl⟩⟩) | (go_at_call 18; (with_reducible refine (pack_Put.calls (⟨#[]⟩ : ByteArray) _ _ y283 t286 _ ?side1 ?side2 A7.out).mono ?_); (case side1 => repeat (first | exact (Kd.R_reads' HO285.out).2.2 | (with_reducible refine Kd.C_alloc ?_ _) | (with_reducible refine Kd.C_drewN ?_ _) | (with_reducible refine Kd.C_drew ?_))); (case side2 => exact (Kd.R_reads' HO285.out).2.1); rintro e w15 ⟨rfl, hb⟩; have n0_ := Aside0.mk (Kd.R_below (by (with_reducible repeat (first | apply Kd.R_alloc | apply Kd.R_drewN | apply Kd.R_drew)); exact HO285.out) hb); have n1_ := Aside0.mk (below_step (by repeat (first | (with_reducible first | exact HB.out | apply below_alloc | apply pw_below_drewN | apply below_drew1) | exact HB.out)) hb); clear HO285; clear HB; have HO285 := n0_; have HB := n1_; clear n0_ n1_; (try clear hb); (try clear hb2); (try clear hk); (try clear hi)) | (go_at_call 20; (with_reducible refine (pack_Text.calls (⟨#[]⟩ : ByteArray) (⟨#[97, 98, 99]⟩ : ByteArray) t287 _ A8.out).mono ?_); rintro e w16 ⟨rfl, hb⟩; have n0_ := Aside0.mk (Kd.R_below (by (with_reducible repeat (first | apply Kd.R_alloc | apply Kd.R_drewN | apply Kd.R_drew)); exact HO285.out) hb); have n1_ := Aside0.mk (below_step (by repeat (first | (with_reducible first | exact HB.out | apply below_alloc | apply pw_below_drewN | apply below_drew1) | exact HB.out)) hb); clear HO285; clear HB; have HO285 := n0_; have HB := n1_; clear n0_ n1_; (try clear hb); (try clear hb2); (try clear hk); (try clear hi)) | (go_at_call 22; (with_reducible refine (pack_Texts.calls k (⟨#[]⟩ : ByteArray) _ _ l1 t288 _ ?side1 ?side2 A9.out).mono ?_); (case side1 => repeat (first | exact (Kd.C_below HR1.out HB.out) | (with_reducible refine Kd.C_alloc ?_ _) | (with_reducible refine Kd.C_drewN ?_ _) | (with_reducible refine Kd.C_drew ?_))); (case side2 => exact HC1.out); rintro e w17 ⟨rfl, hb⟩; have n0_ := Aside0.mk (Kd.R_below (by (with_reducible repeat (first | apply Kd.R_alloc | apply Kd.R_drewN | apply Kd.R_drew)); exact HO285.out) hb); have n1_ := Aside0.mk (below_step (by repeat (first | (with_reducible first | exact HB.out | apply below_alloc | apply pw_below_drewN | apply below_drew1) | exact HB.out)) hb); clear HO285; clear HB; have HO285 := n0_; have HB := n1_; clear n0_ n1_; (try clear hb); (try clear hb2); (try clear hk); (try clear hi)))
    (try simp only [Act.put, List.setIfInBounds_toArray, List.set_cons_zero, List.set_cons_succ])
    go_cut [40] (fun v40 wc => ∃ (kq : Nat) (x40_9 : Bool), v40 = .bool x40_9 ∧ Aside0 (linhaylaw07_PackCuts.j0 kq a2 t281 t286 t287 t288 x40_9 = some r) ∧ Aside0 (kq ≤ k) ∧ Aside0 (Below w.heap.size w wc))
    case first =>
      have H := HC10.out
      clear HC10
      by_cases c18 : t286.toList = ([] : List UInt8)
      · rw [if_pos c18] at H
        have c18b0 : (t286.toList == ([] : List UInt8)) = true := beq_iff_eq.mpr c18
        have c18b1 : (t286.toList != ([] : List UInt8)) = false := bne_eq_false_iff_eq.mpr c18
        clear c18
        (first | rw [c18b0] | (simp only [i64_w, i32_w]; rw [c18b0]) | skip)
        have H' := Aside0.mk H
        clear H
        go_wp2
        go_meet
        case rel => exact ⟨_, (true), (by first | rfl | (simp; done) | (simp [*]; done)), H', ⟨by first | omega | exact Nat.le_refl _⟩, ⟨by repeat (first | (with_reducible first | exact HB.out | apply below_alloc | apply pw_below_drewN | apply below_drew1) | exact HB.out)⟩⟩
      · rw [if_neg c18] at H
        have c18b0 : (t286.toList == ([] : List UInt8)) = false := beq_eq_false_iff_ne.mpr c18
        have c18b1 : (t286.toList != ([] : List UInt8)) = true := bne_iff_ne.mpr c18
        (first | rw [c18b0] | (simp only [i64_w, i32_w]; rw [c18b0]) | skip)
        by_cases c19 : t287.toList = ([] : List UInt8)
        · rw [if_pos c19] at H
          have c19b0 : (t287.toList == ([] : List UInt8)) = true := beq_iff_eq.mpr c19
          have c19b1 : (t287.toList != ([] : List UInt8)) = false := bne_eq_false_iff_eq.mpr c19
          clear c19
          have H' := Aside0.mk H
          clear H
          go_wp2
          go_meet
          case rel => exact ⟨_, (true), (by first | rfl | (simp; done) | (simp [*]; done)), H', ⟨by first | omega | exact Nat.le_refl _⟩, ⟨by repeat (first | (with_reducible first | exact HB.out | apply below_alloc | apply pw_below_drewN | apply below_drew1) | exact HB.out)⟩⟩
        · rw [if_neg c19] at H
          have c19b0 : (t287.toList == ([] : List UInt8)) = false := beq_eq_false_iff_ne.mpr c19
          have c19b1 : (t287.toList != ([] : List UInt8)) = true := bne_iff_ne.mpr c19
          have H' := Aside0.mk H
          clear H
          go_wp2
          go_meet
          case rel => exact ⟨_, ((t288.toList == ([] : List UInt8))), (by first | rfl | (simp; done) | (simp [*]; done)), H', ⟨by first | omega | exact Nat.le_refl _⟩, ⟨by repeat (first | (with_reducible first | exact HB.out | apply below_alloc | apply pw_below_drewN | apply below_drew1) | exact HB.out)⟩⟩
    case rest =>
      clear HC10
      try clear c1
      try clear c2
      try clear p2
      try clear c6
      try clear c9
      try clear c10
      try clear c18
      try clear c18b0
      try clear c18b1
      try clear c19
      try clear c19b0
      try clear c19b1
      obtain ⟨kq, x40_9, rfl, HA, HJ9, HB⟩ := hcut
      cases kq with
      | zero => exact absurd HA.out (by simp [linhaylaw07_PackCuts.j0])
      | succ kj9 =>
        have H := HA.out
        clear HA
        simp only [linhaylaw07_PackCuts.j0] at H
        by_cases c20 : x40_9 = true
        · subst c20
          have H1 : (none) = some r := by rw [if_pos rfl] at H; exact H
          clear H
          have H := H1
          clear H1
          exact absurd H (by simp)
        · replace c20 := Bool.eq_false_iff.mpr c20
          subst c20
          have H1 : (if (t286.size : Int) = 0 then (none) else (if 0 ≤ (Int.tmod (wrap64 (a2)) (t286.size : Int)) then (if (Int.tmod (wrap64 (a2)) (t286.size : Int)) ≤ (t286.size : Int) then ((pack_Take.f kj9 (t286.extract 0 ((Int.tmod (wrap64 (a2)) (t286.size : Int)) : Int).toNat)).bind fun bt289 => (if (t287.size : Int) = 0 then (none) else (if 0 ≤ (Int.tmod (wrap64 (a2)) (t287.size : Int)) then (if (Int.tmod (wrap64 (a2)) (t287.size : Int)) ≤ (t287.size : Int) then ((pack_TakeText.f kj9 (t287.extract 0 ((Int.tmod (wrap64 (a2)) (t287.size : Int)) : Int).toNat)).bind fun bt292 => (if (t288.size : Int) = 0 then (none) else (if 0 ≤ (Int.tmod (wrap64 (a2)) (t288.size : Int)) then (if (Int.tmod (wrap64 (a2)) (t288.size : Int)) ≤ (t288.size : Int) then ((pack_TakeTexts.f kj9 (t288.extract 0 ((Int.tmod (wrap64 (a2)) (t288.size : Int)) : Int).toNat)).bind fun bt295 => (if t281 = true then (if bt289.2.2 = 70 then (if bt292.2.2 = 70 then (some (bt295.2.2 == 70)) else (none)) else (none)) else (none))) else (none)) else (none)))) else (none)) else (none)))) else (none)) else (none))) = some r := by rw [if_neg (show ¬ (false = true) by decide)] at H; exact H
          clear H
          have H := H1
          clear H1
          by_cases c21 : (t286.size : Int) = 0
          · rw [if_pos c21] at H
            exact absurd H (by simp)
          · rw [if_neg c21] at H
            have c21b0 : ((t286.size : Int) == 0) = false := beq_eq_false_iff_ne.mpr c21
            have c21b1 : ((t286.size : Int) != 0) = true := bne_iff_ne.mpr c21
            obtain ⟨ji22, hji22⟩ : ∃ j_ : Int, (Int.tmod (wrap64 (a2)) (t286.size : Int)) = j_ := ⟨_, rfl⟩
            replace H : (if 0 ≤ (ji22) then (if (ji22) ≤ (t286.size : Int) then ((pack_Take.f kj9 (t286.extract 0 ((ji22) : Int).toNat)).bind fun bt289 => (if (t287.size : Int) = 0 then (none) else (if 0 ≤ (Int.tmod (wrap64 (a2)) (t287.size : Int)) then (if (Int.tmod (wrap64 (a2)) (t287.size : Int)) ≤ (t287.size : Int) then ((pack_TakeText.f kj9 (t287.extract 0 ((Int.tmod (wrap64 (a2)) (t287.size : Int)) : Int).toNat)).bind fun bt292 => (if (t288.size : Int) = 0 then (none) else (if 0 ≤ (Int.tmod (wrap64 (a2)) (t288.size : Int)) then (if (Int.tmod (wrap64 (a2)) (t288.size : Int)) ≤ (t288.size : Int) then ((pack_TakeTexts.f kj9 (t288.extract 0 ((Int.tmod (wrap64 (a2)) (t288.size : Int)) : Int).toNat)).bind fun bt295 => (if t281 = true then (if bt289.2.2 = 70 then (if bt292.2.2 = 70 then (some (bt295.2.2 == 70)) else (none)) else (none)) else (none))) else (none)) else (none)))) else (none)) else (none)))) else (none)) else (none)) = some r := by first | (rw [hji22] at H; exact H) | (simp only [hji22] at H ⊢; exact H)
            by_cases c23 : 0 ≤ (ji22)
            · rw [if_pos c23] at H
              have c23b0 := eq_true c23
              have c23b1 : decide (0 ≤ (ji22)) = true := decide_eq_true c23
              clear c23
              by_cases c24 : (ji22) ≤ (t286.size : Int)
              · rw [if_pos c24] at H
                have c24b0 := eq_true c24
                have c24b1 : decide ((ji22) ≤ (t286.size : Int)) = true := decide_eq_true c24
                clear c24
                replace H := Option.bind_eq_some_iff.mp H
                obtain ⟨⟨t289, t290, t291⟩, A250, H⟩ := H
                replace H : (if (t287.size : Int) = 0 then (none) else (if 0 ≤ (Int.tmod (wrap64 (a2)) (t287.size : Int)) then (if (Int.tmod (wrap64 (a2)) (t287.size : Int)) ≤ (t287.size : Int) then ((pack_TakeText.f kj9 (t287.extract 0 ((Int.tmod (wrap64 (a2)) (t287.size : Int)) : Int).toNat)).bind fun bt292 => (if (t288.size : Int) = 0 then (none) else (if 0 ≤ (Int.tmod (wrap64 (a2)) (t288.size : Int)) then (if (Int.tmod (wrap64 (a2)) (t288.size : Int)) ≤ (t288.size : Int) then ((pack_TakeTexts.f kj9 (t288.extract 0 ((Int.tmod (wrap64 (a2)) (t288.size : Int)) : Int).toNat)).bind fun bt295 => (if t281 = true then (if t291 = 70 then (if bt292.2.2 = 70 then (some (bt295.2.2 == 70)) else (none)) else (none)) else (none))) else (none)) else (none)))) else (none)) else (none))) = some r := H
                have A25 := Aside0.mk A250
                clear A250
                by_cases c26 : (t287.size : Int) = 0
                · rw [if_pos c26] at H
                  exact absurd H (by simp)
                · rw [if_neg c26] at H
                  have c26b0 : ((t287.size : Int) == 0) = false := beq_eq_false_iff_ne.mpr c26
                  have c26b1 : ((t287.size : Int) != 0) = true := bne_iff_ne.mpr c26
                  obtain ⟨ji27, hji27⟩ : ∃ j_ : Int, (Int.tmod (wrap64 (a2)) (t287.size : Int)) = j_ := ⟨_, rfl⟩
                  replace H : (if 0 ≤ (ji27) then (if (ji27) ≤ (t287.size : Int) then ((pack_TakeText.f kj9 (t287.extract 0 ((ji27) : Int).toNat)).bind fun bt292 => (if (t288.size : Int) = 0 then (none) else (if 0 ≤ (Int.tmod (wrap64 (a2)) (t288.size : Int)) then (if (Int.tmod (wrap64 (a2)) (t288.size : Int)) ≤ (t288.size : Int) then ((pack_TakeTexts.f kj9 (t288.extract 0 ((Int.tmod (wrap64 (a2)) (t288.size : Int)) : Int).toNat)).bind fun bt295 => (if t281 = true then (if t291 = 70 then (if bt292.2.2 = 70 then (some (bt295.2.2 == 70)) else (none)) else (none)) else (none))) else (none)) else (none)))) else (none)) else (none)) = some r := by first | (rw [hji27] at H; exact H) | (simp only [hji27] at H ⊢; exact H)
                  (try rw [hji27] at A25)
                  by_cases c28 : 0 ≤ (ji27)
                  · rw [if_pos c28] at H
                    have c28b0 := eq_true c28
                    have c28b1 : decide (0 ≤ (ji27)) = true := decide_eq_true c28
                    clear c28
                    by_cases c29 : (ji27) ≤ (t287.size : Int)
                    · rw [if_pos c29] at H
                      have c29b0 := eq_true c29
                      have c29b1 : decide ((ji27) ≤ (t287.size : Int)) = true := decide_eq_true c29
                      clear c29
                      replace H := Option.bind_eq_some_iff.mp H
                      obtain ⟨⟨t292, t293, t294⟩, A300, H⟩ := H
                      replace H : (if (t288.size : Int) = 0 then (none) else (if 0 ≤ (Int.tmod (wrap64 (a2)) (t288.size : Int)) then (if (Int.tmod (wrap64 (a2)) (t288.size : Int)) ≤ (t288.size : Int) then ((pack_TakeTexts.f kj9 (t288.extract 0 ((Int.tmod (wrap64 (a2)) (t288.size : Int)) : Int).toNat)).bind fun bt295 => (if t281 = true then (if t291 = 70 then (if t294 = 70 then (some (bt295.2.2 == 70)) else (none)) else (none)) else (none))) else (none)) else (none))) = some r := H
                      have A30 := Aside0.mk A300
                      clear A300
                      by_cases c31 : (t288.size : Int) = 0
                      · rw [if_pos c31] at H
                        exact absurd H (by simp)
                      · rw [if_neg c31] at H
                        have c31b0 : ((t288.size : Int) == 0) = false := beq_eq_false_iff_ne.mpr c31
                        have c31b1 : ((t288.size : Int) != 0) = true := bne_iff_ne.mpr c31
                        obtain ⟨ji32, hji32⟩ : ∃ j_ : Int, (Int.tmod (wrap64 (a2)) (t288.size : Int)) = j_ := ⟨_, rfl⟩
                        replace H : (if 0 ≤ (ji32) then (if (ji32) ≤ (t288.size : Int) then ((pack_TakeTexts.f kj9 (t288.extract 0 ((ji32) : Int).toNat)).bind fun bt295 => (if t281 = true then (if t291 = 70 then (if t294 = 70 then (some (bt295.2.2 == 70)) else (none)) else (none)) else (none))) else (none)) else (none)) = some r := by first | (rw [hji32] at H; exact H) | (simp only [hji32] at H ⊢; exact H)
                        (try rw [hji32] at A25)
                        (try rw [hji32] at A30)
                        by_cases c33 : 0 ≤ (ji32)
                        · rw [if_pos c33] at H
                          have c33b0 := eq_true c33
                          have c33b1 : decide (0 ≤ (ji32)) = true := decide_eq_true c33
                          clear c33
                          by_cases c34 : (ji32) ≤ (t288.size : Int)
                          · rw [if_pos c34] at H
                            have c34b0 := eq_true c34
                            have c34b1 : decide ((ji32) ≤ (t288.size : Int)) = true := decide_eq_true c34
                            clear c34
                            replace H := Option.bind_eq_some_iff.mp H
                            obtain ⟨⟨t295, t296, t297⟩, A350, H⟩ := H
                            replace H : (if t281 = true then (if t291 = 70 then (if t294 = 70 then (some (t297 == 70)) else (none)) else (none)) else (none)) = some r := H
                            have A35 := Aside0.mk A350
                            clear A350
                            by_cases c36 : t281 = true
                            · subst c36
                              have H1 : (if t291 = 70 then (if t294 = 70 then (some (t297 == 70)) else (none)) else (none)) = some r := by rw [if_pos rfl] at H; exact H
                              clear H
                              have H := H1
                              clear H1
                              by_cases c37 : t291 = 70
                              · rw [if_pos c37] at H
                                have c37b0 : (t291 == 70) = true := beq_iff_eq.mpr c37
                                have c37b1 : (t291 != 70) = false := bne_eq_false_iff_eq.mpr c37
                                clear c37
                                by_cases c38 : t294 = 70
                                · rw [if_pos c38] at H
                                  have c38b0 : (t294 == 70) = true := beq_iff_eq.mpr c38
                                  have c38b1 : (t294 != 70) = false := bne_eq_false_iff_eq.mpr c38
                                  clear c38
                                  obtain rfl := Option.some.inj H
                                  go_wp2_with (first | ((with_reducible refine gate_callee (f := 11) rfl ?_); refine goesL_ (some 49) rfl rfl Try.func11 (by kernel_rfl) rfl #[.string (t286.extract 0 ((ji22) : Int).toNat)] rfl (by (try simp only [List.map_toArray, List.map_cons, List.map_nil]); first | done | (simp only [hji22]; rfl) | rfl | (simp only [List.length_drop, List.length_take]; rfl)) ?_; (with_reducible refine (pack_Take.calls kj9 (t286.extract 0 ((ji22) : Int).toNat) t289 t290 t291 _ A25.out).mono ?_); rintro e w39 ⟨rfl, hb⟩; refine ⟨_, rfl, ?_⟩; have n0_ := Aside0.mk (below_step (by repeat (first | (with_reducible first | exact HB.out | apply below_alloc | apply pw_below_drewN | apply below_drew1) | exact HB.out)) hb); clear HB; have HB := n0_; clear n0_; (try clear hb); (try clear hb2); (try clear hk); (try clear hi)) | ((with_reducible refine gate_callee (f := 13) rfl ?_); refine goesL_ (some 61) rfl rfl Try.func13 (by kernel_rfl) rfl #[.string (t287.extract 0 ((ji27) : Int).toNat)] rfl (by (try simp only [List.map_toArray, List.map_cons, List.map_nil]); first | done | (simp only [hji27]; rfl) | rfl | (simp only [List.length_drop, List.length_take]; rfl)) ?_; (with_reducible refine (pack_TakeText.calls kj9 (t287.extract 0 ((ji27) : Int).toNat) t292 t293 t294 _ A30.out).mono ?_); rintro e w40 ⟨rfl, hb⟩; refine ⟨_, rfl, ?_⟩; have n0_ := Aside0.mk (below_step (by repeat (first | (with_reducible first | exact HB.out | apply below_alloc | apply pw_below_drewN | apply below_drew1) | exact HB.out)) hb); clear HB; have HB := n0_; clear n0_; (try clear hb); (try clear hb2); (try clear hk); (try clear hi)) | ((with_reducible refine gate_callee (f := 15) rfl ?_); refine goesL_ (some 73) rfl rfl Try.func15 (by kernel_rfl) rfl #[.string (t288.extract 0 ((ji32) : Int).toNat)] rfl (by (try simp only [List.map_toArray, List.map_cons, List.map_nil]); first | done | (simp only [hji32]; rfl) | rfl | (simp only [List.length_drop, List.length_take]; rfl)) ?_; (with_reducible refine (pack_TakeTexts.calls kj9 (t288.extract 0 ((ji32) : Int).toNat) t295 t296 t297 _ A35.out).mono ?_); rintro e w41 ⟨v298, rfl, ho0, hb⟩; refine ⟨_, rfl, ?_⟩; have n0_ := Aside0.mk (Kd.R_lower ho0 (below_size (by repeat (first | (with_reducible first | exact HB.out | apply below_alloc | apply pw_below_drewN | apply below_drew1) | exact HB.out)))); have n1_ := Aside0.mk (below_step (by repeat (first | (with_reducible first | exact HB.out | apply below_alloc | apply pw_below_drewN | apply below_drew1) | exact HB.out)) hb); clear HB; have HO299 := n0_; have HB := n1_; clear n0_ n1_; (try clear hb); (try clear hb2); (try clear hk); (try clear hi); (try clear ho0)) | (go_at_call 11; (with_reducible refine (pack_Take.calls kj9 (t286.extract 0 ((ji22) : Int).toNat) t289 t290 t291 _ A25.out).mono ?_); rintro e w39 ⟨rfl, hb⟩; have n0_ := Aside0.mk (below_step (by repeat (first | (with_reducible first | exact HB.out | apply below_alloc | apply pw_below_drewN | apply below_drew1) | exact HB.out)) hb); clear HB; have HB := n0_; clear n0_; (try clear hb); (try clear hb2); (try clear hk); (try clear hi)) | (go_at_call 13; (with_reducible refine (pack_TakeText.calls kj9 (t287.extract 0 ((ji27) : Int).toNat) t292 t293 t294 _ A30.out).mono ?_); rintro e w40 ⟨rfl, hb⟩; have n0_ := Aside0.mk (below_step (by repeat (first | (with_reducible first | exact HB.out | apply below_alloc | apply pw_below_drewN | apply below_drew1) | exact HB.out)) hb); clear HB; have HB := n0_; clear n0_; (try clear hb); (try clear hb2); (try clear hk); (try clear hi)) | (go_at_call 15; (with_reducible refine (pack_TakeTexts.calls kj9 (t288.extract 0 ((ji32) : Int).toNat) t295 t296 t297 _ A35.out).mono ?_); rintro e w41 ⟨v298, rfl, ho0, hb⟩; have n0_ := Aside0.mk (Kd.R_lower ho0 (below_size (by repeat (first | (with_reducible first | exact HB.out | apply below_alloc | apply pw_below_drewN | apply below_drew1) | exact HB.out)))); have n1_ := Aside0.mk (below_step (by repeat (first | (with_reducible first | exact HB.out | apply below_alloc | apply pw_below_drewN | apply below_drew1) | exact HB.out)) hb); clear HB; have HO299 := n0_; have HB := n1_; clear n0_ n1_; (try clear hb); (try clear hb2); (try clear hk); (try clear hi); (try clear ho0)))
                                  go_ret
                                  exact ⟨by first | rfl | (simp [errW_none, errW_some] <;> rfl) | (simp only [← hji22, ← hji27, ← hji32]; first | rfl | (simp [errW_none, errW_some] <;> rfl)) | (simp [*, errW_none, errW_some] <;> rfl), by repeat (first | (with_reducible first | exact HB.out | apply below_alloc | apply pw_below_drewN | apply below_drew1) | exact HB.out)⟩
                                · rw [if_neg c38] at H
                                  exact absurd H (by simp)
                              · rw [if_neg c37] at H
                                exact absurd H (by simp)
                            · replace c36 := Bool.eq_false_iff.mpr c36
                              subst c36
                              have H1 : (none) = some r := by rw [if_neg (show ¬ (false = true) by decide)] at H; exact H
                              clear H
                              have H := H1
                              clear H1
                              exact absurd H (by simp)
                          · rw [if_neg c34] at H
                            exact absurd H (by simp)
                        · rw [if_neg c33] at H
                          exact absurd H (by simp)
                    · rw [if_neg c29] at H
                      exact absurd H (by simp)
                  · rw [if_neg c28] at H
                    exact absurd H (by simp)
              · rw [if_neg c24] at H
                exact absurd H (by simp)
            · rw [if_neg c23] at H
              exact absurd H (by simp)
  · replace c6 := Bool.eq_false_iff.mpr c6
    subst c6
    have H1 : (some t281) = some r := by rw [if_neg (show ¬ (false = true) by decide)] at H; exact H
    clear H
    have H := H1
    clear H1
    obtain rfl := Option.some.inj H
    go_enter Try.func6, Try.ntmps6
    go_wp2_with (first | ((with_reducible refine gate_callee (f := 9) rfl ?_); refine goesL_ (some 20) rfl rfl Try.func9 (by kernel_rfl) rfl #[] rfl (by (try simp only [List.map_toArray, List.map_cons, List.map_nil]); first | done | rfl | (simp only [List.length_drop, List.length_take]; rfl)) ?_; (with_reducible refine (linhaylaw07_awake.calls k  t281 _ A4.out).mono ?_); rintro e w42 ⟨rfl, hb⟩; refine ⟨_, rfl, ?_⟩; have n0_ := Aside0.mk (below_step (by repeat (first | (with_reducible first | exact HB.out | apply below_alloc | apply pw_below_drewN | apply below_drew1) | exact HB.out)) hb); clear HB; have HB := n0_; clear n0_; (try clear hb); (try clear hb2); (try clear hk); (try clear hi)) | ((with_reducible refine gate_callee (f := 10) rfl ?_); refine goesL_ (some 22) rfl rfl Try.func10 (by kernel_rfl) rfl #[.slice A1 l1.length c1, .int .i64 100] rfl (by (try simp only [List.map_toArray, List.map_cons, List.map_nil]); first | done | rfl | (simp only [List.length_drop, List.length_take]; rfl)) ?_; (with_reducible refine (linhayref07_Few.calls k _ _ l1 100 false _ ?side1 ?side2 A5.out).mono ?_); (case side1 => repeat (first | exact (Kd.C_below HR1.out HB.out) | (with_reducible refine Kd.C_alloc ?_ _) | (with_reducible refine Kd.C_drewN ?_ _) | (with_reducible refine Kd.C_drew ?_))); (case side2 => exact HC1.out); rintro e w' ⟨rfl, ⟨nd, rfl⟩⟩; refine ⟨_, rfl, ?_⟩) | (go_at_call 9; (with_reducible refine (linhaylaw07_awake.calls k  t281 _ A4.out).mono ?_); rintro e w42 ⟨rfl, hb⟩; have n0_ := Aside0.mk (below_step (by repeat (first | (with_reducible first | exact HB.out | apply below_alloc | apply pw_below_drewN | apply below_drew1) | exact HB.out)) hb); clear HB; have HB := n0_; clear n0_; (try clear hb); (try clear hb2); (try clear hk); (try clear hi)) | (go_at_call 10; (with_reducible refine (linhayref07_Few.calls k _ _ l1 100 false _ ?side1 ?side2 A5.out).mono ?_); (case side1 => repeat (first | exact (Kd.C_below HR1.out HB.out) | (with_reducible refine Kd.C_alloc ?_ _) | (with_reducible refine Kd.C_drewN ?_ _) | (with_reducible refine Kd.C_drew ?_))); (case side2 => exact HC1.out); rintro e w' ⟨rfl, ⟨nd, rfl⟩⟩))
    go_ret
    exact ⟨by first | rfl | (simp [errW_none, errW_some] <;> rfl) | (simp [*, errW_none, errW_some] <;> rfl), by repeat (first | (with_reducible first | exact HB.out | apply below_alloc | apply pw_below_drewN | apply below_drew1) | exact HB.out)⟩

/-! ### linhaylaw07_PackSizes: function 7 -/
mutual
def linhaylaw07_PackSizes.j0 : Nat → Int → Int → List Int → List Int → Bool → Bool → Option (Bool)
  | 0, _, _, _, _, _, _ => none
  | k + 1, x0, x1, x2, x3, x9, x21 => if x21 = true then (some x9) else (if x0 = 0 then (linhaylaw07_PackSizes.j1 k x2 x3 x9 (mn x0 x1) (mx x0 x1) true) else (if x0 ≥ 144115188075855872 then (linhaylaw07_PackSizes.j1 k x2 x3 x9 (mn x0 x1) (mx x0 x1) true) else ((pack_Size.f (IntKind.u64.wrap (128 * x0))).bind fun t301 => ((pack_Size.f x0).bind fun t302 => (linhaylaw07_PackSizes.j1 k x2 x3 x9 (mn x0 x1) (mx x0 x1) (t301 == (wrap64 (t302 + 1))))))))
def linhaylaw07_PackSizes.j1 : Nat → List Int → List Int → Bool → Int → Int → Bool → Option (Bool)
  | 0, _, _, _, _, _, _ => none
  | k + 1, x2, x3, x9, x10, x11, x12 => if x9 = true then ((pack_Size.f x10).bind fun t303 => ((pack_Size.f x11).bind fun t304 => (if t303 ≤ t304 then ((pack_Size.f x10).bind fun t305 => (if t305 ≥ 1 then ((pack_Size.f x11).bind fun t306 => (if t306 ≤ 10 then (if x12 = true then ((pack_Put.f (⟨#[]⟩ : ByteArray) x2).bind fun t307 => ((pack_Put.f t307 x3).bind fun t308 => ((some (([] : List Int) : List Int)).bind fun y309 => (if y309.length + x2.length < 17592186044416 then ((some (y309 ++ x2 : List Int)).bind fun y312 => (if y312.length + x3.length < 17592186044416 then ((pack_Put.f (⟨#[]⟩ : ByteArray) (y312 ++ x3)).bind fun t318 => (some (t308.toList == t318.toList))) else (none))) else (none))))) else (none)) else (none))) else (none))) else (none)))) else (none)
end
def linhaylaw07_PackSizes.f (k : Nat) (a0 : Int) (a1 : Int) (l2 : List Int) (l3 : List Int) : Option (Bool) := (linhaylaw07_awake.f k).bind fun t300 => (if (l2.length : Int) > 100 then (linhaylaw07_PackSizes.j0 k a0 a1 l2 l3 t300 true) else (linhaylaw07_PackSizes.j0 k a0 a1 l2 l3 t300 (decide ((l3.length : Int) > 100))))
theorem linhaylaw07_PackSizes.mono_l : ∀ k, (∀ y0 y1 y2 y3 y4 y5, LeO (linhaylaw07_PackSizes.j0 k y0 y1 y2 y3 y4 y5) (linhaylaw07_PackSizes.j0 (k + 1) y0 y1 y2 y3 y4 y5)) ∧ (∀ y0 y1 y2 y3 y4 y5, LeO (linhaylaw07_PackSizes.j1 k y0 y1 y2 y3 y4 y5) (linhaylaw07_PackSizes.j1 (k + 1) y0 y1 y2 y3 y4 y5))
  | 0 => ⟨fun _ _ _ _ _ _ r h => by simp [linhaylaw07_PackSizes.j0] at h, fun _ _ _ _ _ _ r h => by simp [linhaylaw07_PackSizes.j1] at h⟩
  | k + 1 => by
    obtain ⟨ih0, ih1⟩ := linhaylaw07_PackSizes.mono_l k
    refine ⟨?_, ?_⟩
    · intro y0 y1 y2 y3 y4 y5
      unfold linhaylaw07_PackSizes.j0
      repeat' first
      | (with_reducible exact ih0 _ _ _ _ _ _)
      | (with_reducible exact ih1 _ _ _ _ _ _)
      | (with_reducible exact linhaylaw07_awake.mono _)
      | (with_reducible exact LeO.refl _)
      | (with_reducible exact LeO.none _)
      | (with_reducible refine LeO.ite ?_ ?_)
      | (with_reducible refine LeO.bind ?_ (fun _ => ?_))
      | exact ih0 _ _ _ _ _ _
      | exact ih1 _ _ _ _ _ _
      | exact linhaylaw07_awake.mono _
      | exact LeO.none _
      | refine LeO.ite ?_ ?_
      | refine LeO.bind ?_ (fun _ => ?_)
    · intro y0 y1 y2 y3 y4 y5
      unfold linhaylaw07_PackSizes.j1
      repeat' first
      | (with_reducible exact ih0 _ _ _ _ _ _)
      | (with_reducible exact ih1 _ _ _ _ _ _)
      | (with_reducible exact linhaylaw07_awake.mono _)
      | (with_reducible exact LeO.refl _)
      | (with_reducible exact LeO.none _)
      | (with_reducible refine LeO.ite ?_ ?_)
      | (with_reducible refine LeO.bind ?_ (fun _ => ?_))
      | exact ih0 _ _ _ _ _ _
      | exact ih1 _ _ _ _ _ _
      | exact linhaylaw07_awake.mono _
      | exact LeO.none _
      | refine LeO.ite ?_ ?_
      | refine LeO.bind ?_ (fun _ => ?_)
theorem linhaylaw07_PackSizes.mono : ∀ a0 a1 a2 a3 k, LeO (linhaylaw07_PackSizes.f k a0 a1 a2 a3) (linhaylaw07_PackSizes.f (k + 1) a0 a1 a2 a3) := by
  intro a0 a1 a2 a3 k
  obtain ⟨ih0, ih1⟩ := linhaylaw07_PackSizes.mono_l k
  unfold linhaylaw07_PackSizes.f
  repeat' first
      | (with_reducible exact ih0 _ _ _ _ _ _)
      | (with_reducible exact ih1 _ _ _ _ _ _)
      | (with_reducible exact linhaylaw07_awake.mono _)
      | (with_reducible exact LeO.refl _)
      | (with_reducible exact LeO.none _)
      | (with_reducible refine LeO.ite ?_ ?_)
      | (with_reducible refine LeO.bind ?_ (fun _ => ?_))
      | exact ih0 _ _ _ _ _ _
      | exact ih1 _ _ _ _ _ _
      | exact linhaylaw07_awake.mono _
      | exact LeO.none _
      | refine LeO.ite ?_ ?_
      | refine LeO.bind ?_ (fun _ => ?_)
set_option maxHeartbeats 8000000 in
set_option maxRecDepth 100000 in
theorem linhaylaw07_PackSizes.calls (k : Nat) (a0 : Int) (a1 : Int) (A2 : Option Addr) (c2 : Nat) (l2 : List Int) (A3 : Option Addr) (c3 : Nat) (l3 : List Int) (r : Bool) (w : World) (hr2 : Kd.C (Kd.int .u64) w A2 l2.length l2) (hc2 : l2.length ≤ c2) (hr3 : Kd.C (Kd.int .u64) w A3 l3.length l3) (hc3 : l3.length ≤ c3) (h : linhaylaw07_PackSizes.f k a0 a1 l2 l3 = some r) :
    Calls Try.prog 7 #[.int .u64 a0, .int .u64 a1, .slice A2 l2.length c2, .slice A3 l3.length c3] w fun e w' => e = .returned (.bool r) ∧ Below w.heap.size w w' := by
  have HR2 := Aside0.mk hr2
  have HC2 := Aside0.mk hc2
  clear hr2 hc2
  have HR3 := Aside0.mk hr3
  have HC3 := Aside0.mk hc3
  clear hr3 hc3
  have HB := Aside0.mk (Below.refl w.heap.size w)
  have H : ((linhaylaw07_awake.f k).bind fun t300 => (if (l2.length : Int) > 100 then (linhaylaw07_PackSizes.j0 k a0 a1 l2 l3 t300 true) else (linhaylaw07_PackSizes.j0 k a0 a1 l2 l3 t300 (decide ((l3.length : Int) > 100))))) = some r := h
  clear h
  replace H := Option.bind_eq_some_iff.mp H
  obtain ⟨t300, A50, H⟩ := H
  replace H : (if (l2.length : Int) > 100 then (linhaylaw07_PackSizes.j0 k a0 a1 l2 l3 t300 true) else (linhaylaw07_PackSizes.j0 k a0 a1 l2 l3 t300 (decide ((l3.length : Int) > 100)))) = some r := H
  have A5 := Aside0.mk A50
  clear A50
  have HC6 := Aside0.mk H
  clear H
  go_enter Try.func7, Try.ntmps7
  go_upto_region 2 with (first | ((with_reducible refine gate_callee (f := 9) rfl ?_); refine goesL_ (some 13) rfl rfl Try.func9 (by kernel_rfl) rfl #[] rfl (by (try simp only [List.map_toArray, List.map_cons, List.map_nil]); first | done | rfl | (simp only [List.length_drop, List.length_take]; rfl)) ?_; (with_reducible refine (linhaylaw07_awake.calls k  t300 _ A5.out).mono ?_); rintro e w7 ⟨rfl, hb⟩; refine ⟨_, rfl, ?_⟩; have n0_ := Aside0.mk (below_step (by repeat (first | (with_reducible first | exact HB.out | apply below_alloc | apply pw_below_drewN | apply below_drew1) | exact HB.out)) hb); clear HB; have HB := n0_; clear n0_; (try clear hb); (try clear hb2); (try clear hk); (try clear hi)) | (go_at_call 9; (with_reducible refine (linhaylaw07_awake.calls k  t300 _ A5.out).mono ?_); rintro e w7 ⟨rfl, hb⟩; have n0_ := Aside0.mk (below_step (by repeat (first | (with_reducible first | exact HB.out | apply below_alloc | apply pw_below_drewN | apply below_drew1) | exact HB.out)) hb); clear HB; have HB := n0_; clear n0_; (try clear hb); (try clear hb2); (try clear hk); (try clear hi)))
  (try simp only [Act.put, List.setIfInBounds_toArray, List.set_cons_zero, List.set_cons_succ])
  go_cut [21] (fun v21 wc => ∃ (kq : Nat) (x21_5 : Bool), v21 = .bool x21_5 ∧ Aside0 (linhaylaw07_PackSizes.j0 kq a0 a1 l2 l3 t300 x21_5 = some r) ∧ Aside0 (kq ≤ k) ∧ Aside0 (Below w.heap.size w wc))
  case first =>
    have H := HC6.out
    clear HC6
    by_cases c8 : (l2.length : Int) > 100
    · rw [if_pos c8] at H
      have c8b0 : decide (100 < (l2.length : Int)) = true := decide_eq_true c8
      have c8b1 : decide (100 < l2.length) = true := decide_eq_true (by omega)
      clear c8
      (first | rw [c8b0] | (simp only [i64_w, i32_w]; rw [c8b0]) | skip)
      have H' := Aside0.mk H
      clear H
      go_wp2
      go_meet
      case rel => exact ⟨_, (true), (by first | rfl | (simp; done) | (simp [*]; done)), H', ⟨by first | omega | exact Nat.le_refl _⟩, ⟨by repeat (first | (with_reducible first | exact HB.out | apply below_alloc | apply pw_below_drewN | apply below_drew1) | exact HB.out)⟩⟩
    · rw [if_neg c8] at H
      have c8b0 : decide (100 < (l2.length : Int)) = false := decide_eq_false c8
      have c8b1 : decide (100 < l2.length) = false := decide_eq_false (by omega)
      clear c8
      (first | rw [c8b0] | (simp only [i64_w, i32_w]; rw [c8b0]) | skip)
      have H' := Aside0.mk H
      clear H
      go_wp2
      go_meet
      case rel => exact ⟨_, (decide ((l3.length : Int) > 100)), (by first | rfl | (simp; done) | (simp [*]; done)), H', ⟨by first | omega | exact Nat.le_refl _⟩, ⟨by repeat (first | (with_reducible first | exact HB.out | apply below_alloc | apply pw_below_drewN | apply below_drew1) | exact HB.out)⟩⟩
  case rest =>
    clear HC6
    try clear c2
    try clear p2
    try clear c3
    try clear c7
    try clear c8
    try clear c8b0
    try clear c8b1
    obtain ⟨kq, x21_5, rfl, HA, HJ5, HB⟩ := hcut
    cases kq with
    | zero => exact absurd HA.out (by simp [linhaylaw07_PackSizes.j0])
    | succ kj5 =>
      have H := HA.out
      clear HA
      simp only [linhaylaw07_PackSizes.j0] at H
      by_cases c9 : x21_5 = true
      · subst c9
        have H1 : (some t300) = some r := by rw [if_pos rfl] at H; exact H
        clear H
        have H := H1
        clear H1
        obtain rfl := Option.some.inj H
        go_wp2
        go_ret
        exact ⟨by first | rfl | (simp [errW_none, errW_some] <;> rfl) | (simp [*, errW_none, errW_some] <;> rfl), by repeat (first | (with_reducible first | exact HB.out | apply below_alloc | apply pw_below_drewN | apply below_drew1) | exact HB.out)⟩
      · replace c9 := Bool.eq_false_iff.mpr c9
        subst c9
        have H1 : (if a0 = 0 then (linhaylaw07_PackSizes.j1 kj5 l2 l3 t300 (mn a0 a1) (mx a0 a1) true) else (if a0 ≥ 144115188075855872 then (linhaylaw07_PackSizes.j1 kj5 l2 l3 t300 (mn a0 a1) (mx a0 a1) true) else ((pack_Size.f (IntKind.u64.wrap (128 * a0))).bind fun t301 => ((pack_Size.f a0).bind fun t302 => (linhaylaw07_PackSizes.j1 kj5 l2 l3 t300 (mn a0 a1) (mx a0 a1) (t301 == (wrap64 (t302 + 1)))))))) = some r := by rw [if_neg (show ¬ (false = true) by decide)] at H; exact H
        clear H
        have H := H1
        clear H1
        obtain ⟨ji10, hji10⟩ : ∃ j_ : Int, (mn a0 a1) = j_ := ⟨_, rfl⟩
        replace H : (if a0 = 0 then (linhaylaw07_PackSizes.j1 kj5 l2 l3 t300 ji10 (mx a0 a1) true) else (if a0 ≥ 144115188075855872 then (linhaylaw07_PackSizes.j1 kj5 l2 l3 t300 ji10 (mx a0 a1) true) else ((pack_Size.f (IntKind.u64.wrap (128 * a0))).bind fun t301 => ((pack_Size.f a0).bind fun t302 => (linhaylaw07_PackSizes.j1 kj5 l2 l3 t300 ji10 (mx a0 a1) (t301 == (wrap64 (t302 + 1)))))))) = some r := by first | (rw [hji10] at H; exact H) | (simp only [hji10] at H ⊢; exact H)
        have hji10_ : (if a1 < a0 then a1 else a0) = ji10 := hji10
        obtain ⟨ji11, hji11⟩ : ∃ j_ : Int, (mx a0 a1) = j_ := ⟨_, rfl⟩
        replace H : (if a0 = 0 then (linhaylaw07_PackSizes.j1 kj5 l2 l3 t300 ji10 ji11 true) else (if a0 ≥ 144115188075855872 then (linhaylaw07_PackSizes.j1 kj5 l2 l3 t300 ji10 ji11 true) else ((pack_Size.f (IntKind.u64.wrap (128 * a0))).bind fun t301 => ((pack_Size.f a0).bind fun t302 => (linhaylaw07_PackSizes.j1 kj5 l2 l3 t300 ji10 ji11 (t301 == (wrap64 (t302 + 1)))))))) = some r := by first | (rw [hji11] at H; exact H) | (simp only [hji11] at H ⊢; exact H)
        have hji11_ : (if a0 < a1 then a1 else a0) = ji11 := hji11
        have HC12 := Aside0.mk H
        clear H
        go_upto_region 6 with (fail)
        go_cut [12] (fun v12 wc => ∃ (kq : Nat) (x12_11 : Bool), v12 = .bool x12_11 ∧ Aside0 (linhaylaw07_PackSizes.j1 kq l2 l3 t300 ji10 ji11 x12_11 = some r) ∧ Aside0 (kq ≤ kj5) ∧ Aside0 (Below w.heap.size w wc))
        case first =>
          have H := HC12.out
          clear HC12
          by_cases c13 : a0 = 0
          · rw [if_pos c13] at H
            have c13b0 : (a0 == 0) = true := beq_iff_eq.mpr c13
            have c13b1 : (a0 != 0) = false := bne_eq_false_iff_eq.mpr c13
            clear c13
            (first | rw [c13b0] | (simp only [i64_w, i32_w]; rw [c13b0]) | skip)
            have H' := Aside0.mk H
            clear H
            go_wp2
            go_meet
            case rel => exact ⟨_, (true), (by first | rfl | (simp; done) | (simp [*]; done)), H', ⟨by have := HJ5.out; first | omega | exact Nat.le_refl _⟩, ⟨by repeat (first | (with_reducible first | exact HB.out | apply below_alloc | apply pw_below_drewN | apply below_drew1) | exact HB.out)⟩⟩
          · rw [if_neg c13] at H
            have c13b0 : (a0 == 0) = false := beq_eq_false_iff_ne.mpr c13
            have c13b1 : (a0 != 0) = true := bne_iff_ne.mpr c13
            (first | rw [c13b0] | (simp only [i64_w, i32_w]; rw [c13b0]) | skip)
            by_cases c14 : a0 ≥ 144115188075855872
            · rw [if_pos c14] at H
              have c14b0 : decide (144115188075855872 ≤ a0) = true := decide_eq_true c14
              clear c14
              have H' := Aside0.mk H
              clear H
              go_wp2
              go_meet
              case rel => exact ⟨_, (true), (by first | rfl | (simp; done) | (simp [*]; done)), H', ⟨by have := HJ5.out; first | omega | exact Nat.le_refl _⟩, ⟨by repeat (first | (with_reducible first | exact HB.out | apply below_alloc | apply pw_below_drewN | apply below_drew1) | exact HB.out)⟩⟩
            · rw [if_neg c14] at H
              have c14b0 : decide (144115188075855872 ≤ a0) = false := decide_eq_false c14
              clear c14
              replace H := Option.bind_eq_some_iff.mp H
              obtain ⟨t301, A150, H⟩ := H
              replace H : ((pack_Size.f a0).bind fun t302 => (linhaylaw07_PackSizes.j1 kj5 l2 l3 t300 ji10 ji11 (t301 == (wrap64 (t302 + 1))))) = some r := H
              have A15 := Aside0.mk A150
              clear A150
              replace H := Option.bind_eq_some_iff.mp H
              obtain ⟨t302, A160, H⟩ := H
              replace H : (linhaylaw07_PackSizes.j1 kj5 l2 l3 t300 ji10 ji11 (t301 == (wrap64 (t302 + 1)))) = some r := H
              have A16 := Aside0.mk A160
              clear A160
              have H' := Aside0.mk H
              clear H
              go_wp2_with (first | (go_at_call 24; (with_reducible refine (pack_Size.calls (IntKind.u64.wrap (128 * a0)) t301 _ A15.out).mono ?_); rintro e w' ⟨rfl, ⟨nd, rfl⟩⟩) | (go_at_call 24; (with_reducible refine (pack_Size.calls a0 t302 _ A16.out).mono ?_); rintro e w' ⟨rfl, ⟨nd, rfl⟩⟩))
              go_meet
              case rel => exact ⟨_, ((t301 == (wrap64 (t302 + 1)))), (by first | rfl | (simp; done) | (simp [*]; done)), H', ⟨by have := HJ5.out; first | omega | exact Nat.le_refl _⟩, ⟨by repeat (first | (with_reducible first | exact HB.out | apply below_alloc | apply pw_below_drewN | apply below_drew1) | exact HB.out)⟩⟩
        case rest =>
          clear HC12
          try clear c1
          try clear c2
          try clear p2
          try clear c3
          try clear p6
          try clear c7
          try clear c8
          try clear c8b0
          try clear c8b1
          try clear c9
          try clear c13
          try clear c13b0
          try clear c13b1
          try clear c14
          try clear c14b0
          try clear p2
          obtain ⟨kq, x12_11, rfl, HA, HJ11, HB⟩ := hcut
          cases kq with
          | zero => exact absurd HA.out (by simp [linhaylaw07_PackSizes.j1])
          | succ kj11 =>
            have H := HA.out
            clear HA
            simp only [linhaylaw07_PackSizes.j1] at H
            by_cases c17 : t300 = true
            · subst c17
              have H1 : ((pack_Size.f ji10).bind fun t303 => ((pack_Size.f ji11).bind fun t304 => (if t303 ≤ t304 then ((pack_Size.f ji10).bind fun t305 => (if t305 ≥ 1 then ((pack_Size.f ji11).bind fun t306 => (if t306 ≤ 10 then (if x12_11 = true then ((pack_Put.f (⟨#[]⟩ : ByteArray) l2).bind fun t307 => ((pack_Put.f t307 l3).bind fun t308 => ((some (([] : List Int) : List Int)).bind fun y309 => (if y309.length + l2.length < 17592186044416 then ((some (y309 ++ l2 : List Int)).bind fun y312 => (if y312.length + l3.length < 17592186044416 then ((pack_Put.f (⟨#[]⟩ : ByteArray) (y312 ++ l3)).bind fun t318 => (some (t308.toList == t318.toList))) else (none))) else (none))))) else (none)) else (none))) else (none))) else (none)))) = some r := by rw [if_pos rfl] at H; exact H
              clear H
              have H := H1
              clear H1
              replace H := Option.bind_eq_some_iff.mp H
              obtain ⟨t303, A180, H⟩ := H
              replace H : ((pack_Size.f ji11).bind fun t304 => (if t303 ≤ t304 then ((pack_Size.f ji10).bind fun t305 => (if t305 ≥ 1 then ((pack_Size.f ji11).bind fun t306 => (if t306 ≤ 10 then (if x12_11 = true then ((pack_Put.f (⟨#[]⟩ : ByteArray) l2).bind fun t307 => ((pack_Put.f t307 l3).bind fun t308 => ((some (([] : List Int) : List Int)).bind fun y309 => (if y309.length + l2.length < 17592186044416 then ((some (y309 ++ l2 : List Int)).bind fun y312 => (if y312.length + l3.length < 17592186044416 then ((pack_Put.f (⟨#[]⟩ : ByteArray) (y312 ++ l3)).bind fun t318 => (some (t308.toList == t318.toList))) else (none))) else (none))))) else (none)) else (none))) else (none))) else (none))) = some r := H
              have A18 := Aside0.mk A180
              clear A180
              replace H := Option.bind_eq_some_iff.mp H
              obtain ⟨t304, A190, H⟩ := H
              replace H : (if t303 ≤ t304 then ((pack_Size.f ji10).bind fun t305 => (if t305 ≥ 1 then ((pack_Size.f ji11).bind fun t306 => (if t306 ≤ 10 then (if x12_11 = true then ((pack_Put.f (⟨#[]⟩ : ByteArray) l2).bind fun t307 => ((pack_Put.f t307 l3).bind fun t308 => ((some (([] : List Int) : List Int)).bind fun y309 => (if y309.length + l2.length < 17592186044416 then ((some (y309 ++ l2 : List Int)).bind fun y312 => (if y312.length + l3.length < 17592186044416 then ((pack_Put.f (⟨#[]⟩ : ByteArray) (y312 ++ l3)).bind fun t318 => (some (t308.toList == t318.toList))) else (none))) else (none))))) else (none)) else (none))) else (none))) else (none)) = some r := H
              have A19 := Aside0.mk A190
              clear A190
              by_cases c20 : t303 ≤ t304
              · rw [if_pos c20] at H
                have c20b0 : decide (t303 ≤ t304) = true := decide_eq_true c20
                clear c20
                replace H := Option.bind_eq_some_iff.mp H
                obtain ⟨t305, A210, H⟩ := H
                obtain rfl := Option.some.inj (A18.out.symm.trans A210)
                replace H : (if t303 ≥ 1 then ((pack_Size.f ji11).bind fun t306 => (if t306 ≤ 10 then (if x12_11 = true then ((pack_Put.f (⟨#[]⟩ : ByteArray) l2).bind fun t307 => ((pack_Put.f t307 l3).bind fun t308 => ((some (([] : List Int) : List Int)).bind fun y309 => (if y309.length + l2.length < 17592186044416 then ((some (y309 ++ l2 : List Int)).bind fun y312 => (if y312.length + l3.length < 17592186044416 then ((pack_Put.f (⟨#[]⟩ : ByteArray) (y312 ++ l3)).bind fun t318 => (some (t308.toList == t318.toList))) else (none))) else (none))))) else (none)) else (none))) else (none)) = some r := H
                have A21 := Aside0.mk A210
                clear A210
                by_cases c22 : t303 ≥ 1
                · rw [if_pos c22] at H
                  have c22b0 : decide (1 ≤ t303) = true := decide_eq_true c22
                  clear c22
                  replace H := Option.bind_eq_some_iff.mp H
                  obtain ⟨t306, A230, H⟩ := H
                  obtain rfl := Option.some.inj (A19.out.symm.trans A230)
                  replace H : (if t304 ≤ 10 then (if x12_11 = true then ((pack_Put.f (⟨#[]⟩ : ByteArray) l2).bind fun t307 => ((pack_Put.f t307 l3).bind fun t308 => ((some (([] : List Int) : List Int)).bind fun y309 => (if y309.length + l2.length < 17592186044416 then ((some (y309 ++ l2 : List Int)).bind fun y312 => (if y312.length + l3.length < 17592186044416 then ((pack_Put.f (⟨#[]⟩ : ByteArray) (y312 ++ l3)).bind fun t318 => (some (t308.toList == t318.toList))) else (none))) else (none))))) else (none)) else (none)) = some r := H
                  have A23 := Aside0.mk A230
                  clear A230
                  by_cases c24 : t304 ≤ 10
                  · rw [if_pos c24] at H
                    have c24b0 : decide (t304 ≤ 10) = true := decide_eq_true c24
                    clear c24
                    by_cases c25 : x12_11 = true
                    · subst c25
                      have H1 : ((pack_Put.f (⟨#[]⟩ : ByteArray) l2).bind fun t307 => ((pack_Put.f t307 l3).bind fun t308 => ((some (([] : List Int) : List Int)).bind fun y309 => (if y309.length + l2.length < 17592186044416 then ((some (y309 ++ l2 : List Int)).bind fun y312 => (if y312.length + l3.length < 17592186044416 then ((pack_Put.f (⟨#[]⟩ : ByteArray) (y312 ++ l3)).bind fun t318 => (some (t308.toList == t318.toList))) else (none))) else (none))))) = some r := by rw [if_pos rfl] at H; exact H
                      clear H
                      have H := H1
                      clear H1
                      replace H := Option.bind_eq_some_iff.mp H
                      obtain ⟨t307, A260, H⟩ := H
                      replace H : ((pack_Put.f t307 l3).bind fun t308 => ((some (([] : List Int) : List Int)).bind fun y309 => (if y309.length + l2.length < 17592186044416 then ((some (y309 ++ l2 : List Int)).bind fun y312 => (if y312.length + l3.length < 17592186044416 then ((pack_Put.f (⟨#[]⟩ : ByteArray) (y312 ++ l3)).bind fun t318 => (some (t308.toList == t318.toList))) else (none))) else (none)))) = some r := H
                      have A26 := Aside0.mk A260
                      clear A260
                      replace H := Option.bind_eq_some_iff.mp H
                      obtain ⟨t308, A270, H⟩ := H
                      replace H : ((some (([] : List Int) : List Int)).bind fun y309 => (if y309.length + l2.length < 17592186044416 then ((some (y309 ++ l2 : List Int)).bind fun y312 => (if y312.length + l3.length < 17592186044416 then ((pack_Put.f (⟨#[]⟩ : ByteArray) (y312 ++ l3)).bind fun t318 => (some (t308.toList == t318.toList))) else (none))) else (none))) = some r := H
                      have A27 := Aside0.mk A270
                      clear A270
                      obtain ⟨y309, hy309⟩ : ∃ y_ : List Int, y_ = (([] : List Int)) := ⟨_, rfl⟩
                      replace H : (if y309.length + l2.length < 17592186044416 then ((some (y309 ++ l2 : List Int)).bind fun y312 => (if y312.length + l3.length < 17592186044416 then ((pack_Put.f (⟨#[]⟩ : ByteArray) (y312 ++ l3)).bind fun t318 => (some (t308.toList == t318.toList))) else (none))) else (none)) = some r := by first | (rw [hy309]; with_reducible exact H) | (have H2_ := (Option.bind_some _ _).symm.trans H; rw [hy309]; with_reducible exact H2_) | (have H2_ := (Option.bind_some _ _).symm.trans H; with_reducible exact H2_) | with_reducible exact H | (rw [hy309]; exact H) | exact H
                      have Ny309 := Aside0.mk hy309
                      clear hy309
                      by_cases c28 : y309.length + l2.length < 17592186044416
                      · rw [if_pos c28] at H
                        have LMc28 := Aside0.mk c28
                        clear c28
                        obtain ⟨y312, hy312⟩ : ∃ y_ : List Int, y_ = (y309 ++ l2) := ⟨_, rfl⟩
                        replace H : (if y312.length + l3.length < 17592186044416 then ((pack_Put.f (⟨#[]⟩ : ByteArray) (y312 ++ l3)).bind fun t318 => (some (t308.toList == t318.toList))) else (none)) = some r := by first | (rw [hy312]; with_reducible exact H) | (have H2_ := (Option.bind_some _ _).symm.trans H; rw [hy312]; with_reducible exact H2_) | (have H2_ := (Option.bind_some _ _).symm.trans H; with_reducible exact H2_) | with_reducible exact H | (rw [hy312]; exact H) | exact H
                        have Ny312 := Aside0.mk hy312
                        clear hy312
                        by_cases c29 : y312.length + l3.length < 17592186044416
                        · rw [if_pos c29] at H
                          have LMc29 := Aside0.mk c29
                          clear c29
                          obtain ⟨y315, hy315⟩ : ∃ y_ : List Int, y_ = (y312 ++ l3) := ⟨_, rfl⟩
                          replace H : ((pack_Put.f (⟨#[]⟩ : ByteArray) y315).bind fun t318 => (some (t308.toList == t318.toList))) = some r := by first | (rw [hy315]; with_reducible exact H) | (have H2_ := (Option.bind_some _ _).symm.trans H; rw [hy315]; with_reducible exact H2_) | (have H2_ := (Option.bind_some _ _).symm.trans H; with_reducible exact H2_) | with_reducible exact H | (rw [hy315]; exact H) | exact H
                          have Ny315 := Aside0.mk hy315
                          clear hy315
                          replace H := Option.bind_eq_some_iff.mp H
                          obtain ⟨t318, A300, H⟩ := H
                          replace H : (some (t308.toList == t318.toList)) = some r := H
                          have A30 := Aside0.mk A300
                          clear A300
                          obtain rfl := Option.some.inj H
                          go_wp2_with (first | (go_at_call 24; (with_reducible refine (pack_Size.calls ji10 t303 _ A18.out).mono ?_); rintro e w' ⟨rfl, ⟨nd, rfl⟩⟩) | (go_at_call 24; (with_reducible refine (pack_Size.calls ji11 t304 _ A19.out).mono ?_); rintro e w' ⟨rfl, ⟨nd, rfl⟩⟩) | (go_at_call 24; (with_reducible refine (pack_Size.calls ji10 t303 _ A21.out).mono ?_); rintro e w' ⟨rfl, ⟨nd, rfl⟩⟩) | (go_at_call 24; (with_reducible refine (pack_Size.calls ji11 t304 _ A23.out).mono ?_); rintro e w' ⟨rfl, ⟨nd, rfl⟩⟩) | (go_at_call 18; (with_reducible refine (pack_Put.calls (⟨#[]⟩ : ByteArray) _ _ l2 t307 _ ?side1 ?side2 A26.out).mono ?_); (case side1 => repeat (first | exact (Kd.C_below HR2.out (by repeat (first | (with_reducible first | exact HB.out | apply below_alloc | apply pw_below_drewN | apply below_drew1) | exact HB.out))) | (with_reducible refine Kd.C_alloc ?_ _) | (with_reducible refine Kd.C_drewN ?_ _) | (with_reducible refine Kd.C_drew ?_))); (case side2 => exact HC2.out); rintro e w31 ⟨rfl, hb⟩; have n0_ := Aside0.mk (below_step (by repeat (first | (with_reducible first | exact HB.out | apply below_alloc | apply pw_below_drewN | apply below_drew1) | exact HB.out)) hb); clear HB; have HB := n0_; clear n0_; (try clear hb); (try clear hb2); (try clear hk); (try clear hi)) | (go_at_call 18; (with_reducible refine (pack_Put.calls t307 _ _ l3 t308 _ ?side1 ?side2 A27.out).mono ?_); (case side1 => repeat (first | exact (Kd.C_below HR3.out HB.out) | (with_reducible refine Kd.C_alloc ?_ _) | (with_reducible refine Kd.C_drewN ?_ _) | (with_reducible refine Kd.C_drew ?_))); (case side2 => exact HC3.out); rintro e w32 ⟨rfl, hb⟩; have n0_ := Aside0.mk (below_step (by repeat (first | (with_reducible first | exact HB.out | apply below_alloc | apply pw_below_drewN | apply below_drew1) | exact HB.out)) hb); clear HB; have HB := n0_; clear n0_; (try clear hb); (try clear hb2); (try clear hk); (try clear hi)) | ((with_reducible refine gate_dst (N := 70) rfl ?_); (try (refine gate_guard (by rfl) ?_; dsimp only)); refine Kd.R_lit (Kd.int .u64) _ 24 ?hg (N := 70) ?hd (xs := ([] : List Int)) (inner := []) (ok := fun _ => True) (okp := fun _ => True) ?hr ?hp (fun _ hk => hk) trivial (Below.refl _ _) (Nat.le_refl _) (by simp) ?_; (case hd => rfl); (case hg => rfl); (case hr => first | (go_simp; done) | (go_simp; rfl)); (case hp => exact (Reps.none _ _)); intro v310 w33 ho34 hb hg_ hnew_; clear hg_ hnew_; (first | rw [← Ny309.out] at ho34 | (simp only [Int.reduceToNat] at ho34; rw [← Ny309.out] at ho34)); have n0_ := Aside0.mk (Kd.R_lower ho34 (below_size (by repeat (first | (with_reducible first | exact HB.out | apply below_alloc | apply pw_below_drewN | apply below_drew1) | exact HB.out)))); have n1_ := Aside0.mk (below_step (by repeat (first | (with_reducible first | exact HB.out | apply below_alloc | apply pw_below_drewN | apply below_drew1) | exact HB.out)) hb); clear HB; have HO311 := n0_; have HB := n1_; clear n0_ n1_; clear hb ho34) | ((with_reducible refine gate_builtin (b := .append) (xs := #[.tmp 70, .tmp 71]) rfl ?_); (try (refine gate_guard (by rfl) ?_; dsimp only)); at_builtin; refine Kd.R_append_rows (Kd.int .u64) (w0 := w) w.heap.size rfl (.tmp 70) (.tmp 71) 22 24 (.int .u64 0) 8 rfl Try.underlying22 info24 rfl (by decide) (by omega) v310 y309 l2 _ _ _ (fun _ => True) (fun _ => False) rfl rfl ?aO ?aR (fun _ _ h => h) (fun _ h => h.elim) ?aF ?aB ?aS ?aL ?_; (case aR => repeat (first | exact (Kd.C_below HR2.out HB.out) | (with_reducible refine Kd.C_alloc ?_ _) | (with_reducible refine Kd.C_drewN ?_ _) | (with_reducible refine Kd.C_drew ?_))); (case aB => exact (by repeat (first | (with_reducible first | exact HB.out | apply below_alloc | apply pw_below_drewN | apply below_drew1) | exact HB.out))); (case aF => exact (fun _ _ => trivial)); (case aO => exact (by (with_reducible repeat (first | apply Kd.R_alloc | apply Kd.R_drewN | apply Kd.R_drew)); exact HO311.out)); (case aS => exact (below_size (by repeat (first | (with_reducible first | exact HB.out | apply below_alloc | apply pw_below_drewN | apply below_drew1) | exact HB.out)))); (case aL => have := LMc28.out; omega); intro v313 w35 ho hb hg hat; rw [← Ny312.out] at ho; have n0_ := Aside0.mk (hb); have n1_ := Aside0.mk (ho); clear HB; clear HO311; have HB := n0_; have HO314 := n1_; clear n0_ n1_; clear ho hb hg hat) | ((with_reducible refine gate_builtin (b := .append) (xs := #[.tmp 72, .tmp 73]) rfl ?_); (try (refine gate_guard (by rfl) ?_; dsimp only)); at_builtin; refine Kd.R_append_rows (Kd.int .u64) (w0 := w) w.heap.size rfl (.tmp 72) (.tmp 73) 22 24 (.int .u64 0) 8 rfl Try.underlying22 info24 rfl (by decide) (by omega) v313 y312 l3 _ _ _ (fun _ => True) (fun _ => False) rfl rfl ?aO ?aR (fun _ _ h => h) (fun _ h => h.elim) ?aF ?aB ?aS ?aL ?_; (case aR => repeat (first | exact (Kd.C_below HR3.out HB.out) | (with_reducible refine Kd.C_alloc ?_ _) | (with_reducible refine Kd.C_drewN ?_ _) | (with_reducible refine Kd.C_drew ?_))); (case aB => exact (by repeat (first | (with_reducible first | exact HB.out | apply below_alloc | apply pw_below_drewN | apply below_drew1) | exact HB.out))); (case aF => exact (fun _ _ => trivial)); (case aO => exact (by (with_reducible repeat (first | apply Kd.R_alloc | apply Kd.R_drewN | apply Kd.R_drew)); exact HO314.out)); (case aS => exact (below_size (by repeat (first | (with_reducible first | exact HB.out | apply below_alloc | apply pw_below_drewN | apply below_drew1) | exact HB.out)))); (case aL => have := LMc29.out; omega); intro v316 w36 ho hb hg hat; rw [← Ny315.out] at ho; have n0_ := Aside0.mk (hb); have n1_ := Aside0.mk (ho); clear HB; clear HO314; have HB := n0_; have HO317 := n1_; clear n0_ n1_; clear ho hb hg hat; obtain ⟨Ao37, co37, eo37⟩ := Kd.R_slice HO317.out; subst eo37) | (go_at_call 18; (with_reducible refine (pack_Put.calls (⟨#[]⟩ : ByteArray) _ _ y315 t318 _ ?side1 ?side2 A30.out).mono ?_); (case side1 => repeat (first | exact (Kd.R_reads' HO317.out).2.2 | (with_reducible refine Kd.C_alloc ?_ _) | (with_reducible refine Kd.C_drewN ?_ _) | (with_reducible refine Kd.C_drew ?_))); (case side2 => exact (Kd.R_reads' HO317.out).2.1); rintro e w38 ⟨rfl, hb⟩; have n0_ := Aside0.mk (Kd.R_below (by (with_reducible repeat (first | apply Kd.R_alloc | apply Kd.R_drewN | apply Kd.R_drew)); exact HO317.out) hb); have n1_ := Aside0.mk (below_step (by repeat (first | (with_reducible first | exact HB.out | apply below_alloc | apply pw_below_drewN | apply below_drew1) | exact HB.out)) hb); clear HO317; clear HB; have HO317 := n0_; have HB := n1_; clear n0_ n1_; (try clear hb); (try clear hb2); (try clear hk); (try clear hi)))
                          go_ret
                          exact ⟨by first | rfl | (simp [errW_none, errW_some] <;> rfl) | (simp only [← hji10, ← hji11]; first | rfl | (simp [errW_none, errW_some] <;> rfl)) | (simp [*, errW_none, errW_some] <;> rfl), by repeat (first | (with_reducible first | exact HB.out | apply below_alloc | apply pw_below_drewN | apply below_drew1) | exact HB.out)⟩
                        · rw [if_neg c29] at H
                          exact absurd H (by simp)
                      · rw [if_neg c28] at H
                        exact absurd H (by simp)
                    · replace c25 := Bool.eq_false_iff.mpr c25
                      subst c25
                      have H1 : (none) = some r := by rw [if_neg (show ¬ (false = true) by decide)] at H; exact H
                      clear H
                      have H := H1
                      clear H1
                      exact absurd H (by simp)
                  · rw [if_neg c24] at H
                    exact absurd H (by simp)
                · rw [if_neg c22] at H
                  exact absurd H (by simp)
              · rw [if_neg c20] at H
                exact absurd H (by simp)
            · replace c17 := Bool.eq_false_iff.mpr c17
              subst c17
              have H1 : (none) = some r := by rw [if_neg (show ¬ (false = true) by decide)] at H; exact H
              clear H
              have H := H1
              clear H1
              exact absurd H (by simp)

/-- THE ONE PURE STATEMENT of linhaylaw07_PackSizes: yours. -/
def linhaylaw07_PackSizes.Pure : Prop := ∀ (a0 : Int) (a1 : Int) (l2 : List Int) (l3 : List Int), (Lit.int .u64 a0).wf = true → (Lit.int .u64 a1).wf = true → l2.length ≤ maxLen → l2.length * 8 ≤ 140737488351232 → (∀ x ∈ l2, (Lit.int .u64 x).wf = true) → l3.length ≤ maxLen → l3.length * 8 ≤ 140737488351232 → (∀ x ∈ l3, (Lit.int .u64 x).wf = true) → ∃ k, linhaylaw07_PackSizes.f k a0 a1 l2 l3 = some true
theorem linhaylaw07_PackSizes.walk (P : linhaylaw07_PackSizes.Pure) (a0 : Int) (a1 : Int) (a2 : Option Addr) (len2 cap2 : Nat) (z2 : List Int) (a3 : Option Addr) (len3 cap3 : Nat) (z3 : List Int) (w : World) (w0 : (Lit.int .u64 a0).wf = true) (w1 : (Lit.int .u64 a1).wf = true) (w2 : (a2 = none ∧ len2 = 0 ∧ cap2 = 0 ∧ z2 = []) ∨ ∃ x, a2 = some x ∧ len2 ≤ cap2 ∧ cap2 ≤ maxLen ∧ z2.length = cap2 ∧ (∀ i, i < z2.length → w.cell? (x.add i) = some (.int .u64 (z2.getD i 0))) ∧ ∀ n ∈ z2, (Lit.int .u64 n).wf = true) (y2 : len2 * 8 ≤ 140737488351232) (w3 : (a3 = none ∧ len3 = 0 ∧ cap3 = 0 ∧ z3 = []) ∨ ∃ x, a3 = some x ∧ len3 ≤ cap3 ∧ cap3 ≤ maxLen ∧ z3.length = cap3 ∧ (∀ i, i < z3.length → w.cell? (x.add i) = some (.int .u64 (z3.getD i 0))) ∧ ∀ n ∈ z3, (Lit.int .u64 n).wf = true) (y3 : len3 * 8 ≤ 140737488351232) :
    Calls Try.prog 7 #[.int .u64 a0, .int .u64 a1, .slice a2 len2 cap2, .slice a3 len3 cap3] w fun e w' => e = .returned (.bool true) ∧ Below w.heap.size w w' := by
  obtain ⟨l2, rfl, hr2, hm2, hw2, hc2⟩ := ReadsInt.ofRowC w2
  obtain ⟨l3, rfl, hr3, hm3, hw3, hc3⟩ := ReadsInt.ofRowC w3
  obtain ⟨k, h⟩ := P a0 a1 l2 l3 w0 w1 hm2 y2 hw2 hm3 y3 hw3
  refine (linhaylaw07_PackSizes.calls k a0 a1 _ _ l2 _ _ l3 true w (Kd.C_of_reads (d := (0 : Int)) (h1 := fun _ => rfl) hr2) hc2 (Kd.C_of_reads (d := (0 : Int)) (h1 := fun _ => rfl) hr3) hc3 h).mono ?_
  rintro e w' ⟨rfl, hd⟩
  exact ⟨rfl, hd⟩

end Go.Proofs.Ytkfahdccacefiaa.Print
