/- The law ExpoRatio: for every input that its row lets in the Go function returns true, and its arguments read afterwards as before; the row's listed table is tied to the program's text. No condition but the row's. Written by a program of this session (wip/tools/cardrow.py) out of the pure statement's proof and the printed walk. -/
import Derived.Test.YthpkiacaemhkkaaDoorRows
import Derived.Test.YthpkiacaemhkkaaDoorCards
import Derived.Test.YthpkiacaemhkkaaDoorTie
import Derived.Test.YthpkiacaemhkkaaDoorStTab
import Derived.Test.YthpkiacaemhkkaaDoorStExpoRatio
import Derived.Test.YthpkiacaemhkkaaDoorPureExpoRatio
import Derived.WalkKit
import Derived.ProofKit
import Derived.LaidMore
import Derived.OpenShut
import Derived.ShutString
import Derived.ChangeOld
import Derived.Below
import Derived.SizedLaws
import Derived.Lib.SmallJoins
import Derived.Stop.Joined
import Derived.SevenTiedAt
namespace Go.Proofs.YthpkiacaemhkkaaDoor.expoRatio
open Go.ChangeShapes Go.WideShapes Go.ChangeAt Go.RowKit Go.Joins
set_option linter.unusedVariables false
set_option linter.unusedSimpArgs false
theorem own : ownKnob Tryd.prog.godebug = none := by kernel_rfl
def laidL {H : Type} : List (String × DataW H) := [("linhay/expo.powers", Rows.laid_linhay_expo_powers)]
set_option maxRecDepth 100000
theorem door_met (os : Os) (args : Array Value) : laidMetH Tryd.prog laidL ((World.doorLaid Tryd.prog 14 os).forCall (fun _ _ => 0) ⟨#[], args, []⟩).memory :=
  laidMetH_of_parts3 (fuel := 8) (laidMet_of_run' 8 (by kernel_rfl) (by kernel_rfl)) (by kernel_rfl) (by kernel_rfl)
theorem lifted (os : Os) (started : os.Started) (H : Type) (enc : TypeId × Value → H) :
    ReturnsInHanded {} Tryd.checked os 6 .any (fun w args => (Rows.expoRatioSpec.pre enc Tryd.prog Tryd.f6 [] false w args ∧ laidMetH Tryd.prog laidL w) ∧ sizedMet enc Tryd.prog Tryd.f6 (OpenSpec.ofChange Rows.expoRatioSpec) false w args)
      (Rows.expoRatioSpec.post enc Tryd.prog Tryd.f6 false true false false) := by
  refine returnsInHanded_of_change_and (C := Tryd.checked) (X := fun w _ => laidMetH Tryd.prog laidL w) (fun _ _ _ hh h => h.of_heap hh) own started (by kernel_rfl) Tryd.func6
    (ChangeSpec.witness_shaped (enc := enc) (C := Tryd.checked) (os := os) (X := fun w _ => laidMetH Tryd.prog laidL w) false (World.doorLaid Tryd.prog 14 os) #[.int .u32 0, .int .u32 0, .int .u32 0, .int .u32 0, .int .u32 0] 8 rfl (World.shaped_of_RefB (by kernel_rfl) (by kernel_rfl)) (by kernel_rfl) (by kernel_rfl) (by kernel_rfl) (door_met os _)) ?_
  intro W base args ds gs before hval0 hW _ _ hL _
  have hval : ∀ (j : Nat) t v, Tryd.f6.params[j]? = some t → args[j]? = some v → Value.okWide Tryd.prog W .any base t v := hval0
  have hW' := hW
  obtain ⟨p, q, hA0, hV, rfl, hfz, hnd⟩ := hW
  have hA : DataW.TrodAll enc Tryd.prog W 0 (fun _ => true) true Tryd.f6.params.toList args.toList ds p := hA0
  rw [Tryd.params6] at hA hval
  obtain ⟨v0, vs0, d0, ds0, p0, q0, hargs, rfl, rfl, h0, r0⟩ := trodAll_cons hA
  obtain ⟨v1, vs1, d1, ds1, p1, q1, rfl, rfl, rfl, h1, r1⟩ := trodAll_cons r0
  obtain ⟨v2, vs2, d2, ds2, p2, q2, rfl, rfl, rfl, h2, r2⟩ := trodAll_cons r1
  obtain ⟨v3, vs3, d3, ds3, p3, q3, rfl, rfl, rfl, h3, r3⟩ := trodAll_cons r2
  obtain ⟨v4, vs4, d4, ds4, p4, q4, rfl, rfl, rfl, h4, r4⟩ := trodAll_cons r3
  obtain ⟨rfl, rfl, rfl⟩ := trodAll_nil r4
  obtain rfl : args = #[v0, v1, v2, v3, v4] := by cases args; simp_all
  obtain ⟨rfl, rfl⟩ := trodVars_none hV
  obtain ⟨a0, rfl, rfl, rfl, w_a0⟩ := open_int Tryd.underlying23 (hval 0 23 v0 rfl rfl) h0
  obtain ⟨a1, rfl, rfl, rfl, w_a1⟩ := open_int Tryd.underlying23 (hval 1 23 v1 rfl rfl) h1
  obtain ⟨a2, rfl, rfl, rfl, w_a2⟩ := open_int Tryd.underlying23 (hval 2 23 v2 rfl rfl) h2
  obtain ⟨a3, rfl, rfl, rfl, w_a3⟩ := open_int Tryd.underlying23 (hval 3 23 v3 rfl rfl) h3
  obtain ⟨a4, rfl, rfl, rfl, w_a4⟩ := open_int Tryd.underlying23 (hval 4 23 v4 rfl rfl) h4
  have hT := Print.tab_of_laid hL
  clear hA0 hval0
  refine (Print.linhaylaw05_ExpoRatio.walk Pure.ExpoRatio a0 a1 a2 a3 a4 W hT w_a0 w_a1 w_a2 w_a3 w_a4).mono fun e W' ⟨he, bel⟩ => ?_
  subst he
  exact ⟨_, rfl, _, _, _, [], _, [], hW', trodAll_mk1 (shut_bool Tryd.underlying4 _), (trodAll_cons_mk (shut_int Tryd.underlying23 w_a0) (trodAll_cons_mk (shut_int Tryd.underlying23 w_a1) (trodAll_cons_mk (shut_int Tryd.underlying23 w_a2) (trodAll_cons_mk (shut_int Tryd.underlying23 w_a3) (trodAll_cons_mk (shut_int Tryd.underlying23 w_a4) trodAll_mk0))))), rfl, bel.frame _, fun h => by cases h⟩
theorem over : Rows.expoRatioRow.holds Tryd.pinned (OpenSpec.ofChange Rows.expoRatioSpec) :=
  OpenClaim.holds_of_wide 6 Tryd.f6 rfl rfl rfl rfl rfl rfl rfl ⟨rfl, rfl, rfl, rfl, rfl⟩ rfl rfl rfl rfl rfl (by kernel_rfl) Tryd.func6 (by kernel_rfl)
    (of_decide_eq_true (by kernel_rfl)) (by unfold Func.isWrapper; first | (rw [if_pos (by decide +kernel)]; kernel_rfl) | (rw [if_neg (by decide +kernel)]; exact ⟨rfl, rfl⟩))
    (fun os started H enc _ => lifted os started H enc)
theorem proved : Rows.ExpoRatioCardSaid :=
  Claim7.holds_tied_plain_at .later [] [.data] true (true, "57db0d89b5e67523e8c9d089991eabd87eb22bf1e6e0e53c79619da342ece87d") false
    over (fun _ h => by cases h) (by kernel_rfl) (fun _ h => by cases h) expoRatio_row_tie rfl ⟨rfl, rfl⟩ (by kernel_rfl) rfl
    (fun f fn hf hfn => by
      obtain rfl : f = 6 := Option.some.inj ((show Tryd.prog.funcNamed "linhay/linhaylaw05.ExpoRatio" = some 6 by kernel_rfl).symm.trans hf) |>.symm
      obtain rfl : fn = Tryd.f6 := (Option.some.inj (Tryd.func6.symm.trans hfn)).symm
      exact ⟨by kernel_rfl, fun j t ht => by
        rw [Tryd.params6] at ht
        have hm : t ∈ [23, 23, 23, 23, 23] := by simpa using Array.mem_of_getElem? ht
        have hall : ([23, 23, 23, 23, 23].all fun u => !Tryd.prog.wantsStandIn u) = true := by kernel_rfl
        exact (show Tryd.prog.wantsStandIn t = false by simpa using List.all_eq_true.1 hall t hm)⟩)
    (by kernel_rfl)
#print axioms proved
end Go.Proofs.YthpkiacaemhkkaaDoor.expoRatio
namespace Go.Proofs.YthpkiacaemhkkaaDoor
/-- The card, under a short name, for the claim. -/
theorem expoRatio_holds : Rows.ExpoRatioCardSaid := expoRatio.proved
end Go.Proofs.YthpkiacaemhkkaaDoor
