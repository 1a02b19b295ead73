
/- What a run of gds does, call by call: who is in, who goes out; and that the given Lean function of Run answers so. -/
import Derived.Test.YtmacngkgokibeaaFactsNum
import Derived.Test.YtmacngkgokibeaaFactsWide
import Derived.Test.YtmacngkgokibeaaFactsWord
import Derived.Test.YtmacngkgokibeaaFactsGds
import Derived.Test.YtmacngkgokibeaaFactsGdsRun
import Derived.Test.YtmacngkgokibeaaPrint0
import Derived.Test.YtmacngkgokibeaaPrint4
import Derived.Test.YtmacngkgokibeaaPrint5
import Derived.Test.YtmacngkgokibeaaPrint7
namespace Go.Proofs.Ytmacngkgokibeaa.Facts
set_option linter.unusedVariables false
set_option linter.unusedSimpArgs false
open Go.RowKit Go.Proofs.Ytmacngkgokibeaa.Print Go.Proofs.YtmacngkgokibeaaW.PrintWords Go.Proofs.YtmacngkgokibeaaW.PrintLast Go.Proofs.YtmacngkgokibeaaW.PrintMore
/-- One call: who was in, whether it was a hit, who went out, who is in. -/
inductive Step (l1 : List Int) (most : Int) (i : Nat) : List Bool → Bool → List Int → List Bool → Prop
  | hit (ins) (h : ins.getD i false = true) : Step l1 most i ins true [] ins
  | big (ins) (h : ins.getD i false = false) (hb : most < rd l1 i) : Step l1 most i ins false [] ins
  | room (ins os ins1) (h : ins.getD i false = false) (hb : rd l1 i ≤ most) (hc : Chain l1 most (rd l1 i) ins os ins1) (hm : gsum ins1 l1 + rd l1 i ≤ most) : Step l1 most i ins false os (ins1.set i true)
theorem gserve_spec (k : Nat) (hk : 70 ≤ k) {l1 l2 : List Int} (h : wOK l1 l2) (most : Int) (ins : List Bool) (rk : List Int) (lv : Int) (i : Nat) (hi : i < l1.length) (hl : ins.length = l1.length) (hr : rk.length = l1.length) :
    ∃ ins' rk' lv' hit outs, gserve k l1 l2 most ins rk lv (gsum ins l1) i = some (ins', rk', lv', gsum ins' l1, hit, outs) ∧ ins'.length = l1.length ∧ rk'.length = l1.length ∧ Step l1 most i ins hit outs ins' := by
  have hsz : ∀ j : Nat, j < l1.length → 0 ≤ rd l1 j ∧ rd l1 j ≤ 4096 := fun j hj => by have := h.2.2 j hj; unfold goodAt at this; omega
  have h64 := h.2.1
  unfold gserve
  by_cases c : ins.getD i false = true
  · rw [if_pos c, things_weight_eq k (by omega) h i hi, Option.bind_some, set_same c]
    exact ⟨_, _, _, _, _, rfl, hl, by rw [List.length_set]; exact hr, .hit _ c⟩
  · rw [if_neg c]
    have c' : ins.getD i false = false := Bool.eq_false_iff.mpr c
    by_cases d : most < rd l1 i
    · rw [if_pos d]
      exact ⟨_, _, _, _, _, rfl, hl, hr, .big _ c' d⟩
    · rw [if_neg d]
      obtain ⟨ins', lv', os, h1, h2, h3⟩ := groom_spec l1 rk most (rd l1 i) hsz (by omega) 64 k ins lv [] hl (by omega) (by have := gcnt_le ins; omega) (by omega) (by simp)
      rw [h1, Option.bind_some, things_weight_eq k (by omega) h i hi, Option.bind_some, List.nil_append]
      have hl' := h2.len
      refine ⟨ins'.set i true, rk.set i (IntKind.u64.wrap (lv' + gwt l1 l2 i)), lv', false, os, ?_, by rw [List.length_set]; omega, by rw [List.length_set]; exact hr, .room ins os ins' c' (by omega) h2 h3⟩
      rw [gsum_set_in ins' l1 i (by omega) (h2.out i c')]
/-- Calls, one behind the other. -/
inductive Runs (l1 : List Int) (most : Int) : List Int → List Bool → List S40 → Prop
  | nil (ins) : Runs l1 most [] ins []
  | cons (i : Nat) (cs ins hit outs ins' out) (hi : i < l1.length) (h : Step l1 most i ins hit outs ins') (hr : Runs l1 most cs ins' out) : Runs l1 most ((i : Int) :: cs) ins (⟨hit, outs⟩ :: out)
theorem Runs.len {l1 : List Int} {most : Int} {cs : List Int} {ins : List Bool} {out : List S40} (h : Runs l1 most cs ins out) : out.length = cs.length := by
  induction h with
  | nil => rfl
  | cons i cs ins hit outs ins' out hi h hr ih => simp [ih]
theorem Step.len {l1 : List Int} {most : Int} {i : Nat} {ins ins' : List Bool} {hit : Bool} {outs : List Int} (h : Step l1 most i ins hit outs ins') : ins'.length = ins.length := by
  cases h with
  | hit => rfl
  | big => rfl
  | room os ins1 h hb hc hm => rw [List.length_set, hc.len]
theorem grun_spec (k : Nat) (hk : 70 ≤ k) {l1 l2 : List Int} (h : wOK l1 l2) (most : Int) : ∀ (cs : List Int), (∀ x ∈ cs, 0 ≤ x ∧ x < (l1.length : Int)) → ∀ (ins : List Bool) (rk : List Int) (lv : Int) (out : List S40), ins.length = l1.length → rk.length = l1.length →
    ∃ os, grun k l1 l2 most cs ins rk lv (gsum ins l1) out = some (out ++ os) ∧ Runs l1 most cs ins os ∧ ∀ j, grun k l1 l2 most (cs.take j) ins rk lv (gsum ins l1) out = some (out ++ os.take j)
  | [], _, ins, rk, lv, out, hl, hr => ⟨[], by rw [grun, List.append_nil], .nil _, fun j => by simp [grun]⟩
  | x :: cs, hx, ins, rk, lv, out, hl, hr => by
    obtain ⟨i, rfl⟩ : ∃ i : Nat, x = i := ⟨x.toNat, by have := hx x (by simp); omega⟩
    have hi : i < l1.length := by have := (hx i (by simp)).2; omega
    obtain ⟨ins', rk', lv', hit, outs, h1, h2, h3, h4⟩ := gserve_spec k hk h most ins rk lv i hi hl hr
    obtain ⟨os, h5, h6, h7⟩ := grun_spec k hk h most cs (fun y hy => hx y (by simp [hy])) ins' rk' lv' (out ++ [⟨hit, outs⟩]) h2 h3
    refine ⟨⟨hit, outs⟩ :: os, ?_, .cons i cs ins hit outs ins' os hi h4 h6, fun j => ?_⟩
    · rw [grun, Int.toNat_natCast, h1, Option.bind_some, if_pos ⟨h2, h3⟩, h5]; simp
    · cases j with
      | zero => simp [grun]
      | succ j => rw [List.take_succ_cons, grun, Int.toNat_natCast, h1, Option.bind_some, if_pos ⟨h2, h3⟩, h7 j]; simp
def callsOK (n : Nat) (cs : List Int) : Prop := ∀ x ∈ cs, 0 ≤ x ∧ x < (n : Int)
theorem gsum_replicate : ∀ (n : Nat) (ss : List Int), gsum (List.replicate n false) ss = 0
  | 0, _ => rfl
  | n + 1, ss => by
    rw [List.replicate_succ]
    unfold gsum
    rw [gsum_replicate n ss.tail]; simp
theorem gcalls_iff (n : Nat) (cs : List Int) : gcalls n n cs = true ↔ callsOK n cs := by
  unfold gcalls callsOK
  rw [List.all_eq_true]
  refine ⟨fun h x hx => ?_, fun h x hx => ?_⟩
  · have := h x hx
    simp only [Bool.and_eq_true, decide_eq_true_eq] at this
    omega
  · have := h x hx
    simp only [Bool.and_eq_true, decide_eq_true_eq]
    omega
theorem gok_of {l1 l2 : List Int} (h : wOK l1 l2) : gok l1 l2 := ⟨h.1, h.2.1, fun j hj => by have := h.2.2 j hj; unfold goodAt at this; omega⟩
/-- Run: a configuration that may not be. -/
theorem gds_Run_config (k : Nat) (hk : 1010 ≤ k) (a0 : Int) (l1 l2 l3 : List Int) (hn : l1.length ≤ 1000) (h : ¬ ((1 ≤ a0 ∧ a0 ≤ 65536) ∧ wOK l1 l2)) : gds_Run.f k a0 l1 l2 l3 = some ([], 220) := by
  unfold gds_Run.f
  by_cases c : a0 < 1 ∨ 65536 < a0
  · rw [if_pos c]
  · rw [if_neg c]
    obtain ⟨b, hb, hb2⟩ := gds_wrong_spec k hk l1 l2 hn
    rw [hb, Option.bind_some]
    have : b = true := by
      cases b with
      | true => rfl
      | false => exact absurd ⟨⟨by omega, by omega⟩, hb2.mp rfl⟩ h
    rw [if_pos this]
theorem gds_Run_ok (k : Nat) (hk : 1010 ≤ k) (a0 : Int) (l1 l2 l3 : List Int) (hn : l1.length ≤ 1000) (ha : 1 ≤ a0 ∧ a0 ≤ 65536) (h : wOK l1 l2) (h3 : l3.length ≤ 1000000) :
    gds_Run.f k a0 l1 l2 l3 = (if gcalls l1.length l1.length l3 = true then (grun k l1 l2 a0 l3 (List.replicate l1.length false) (List.replicate l1.length 0) 0 0 []).bind fun out => some (out, 0) else some ([], 221)) := by
  unfold gds_Run.f
  rw [if_neg (by omega)]
  obtain ⟨b, hb, hb2⟩ := gds_wrong_spec k hk l1 l2 hn
  rw [hb, Option.bind_some, hb2.mpr h, if_neg (by decide), if_pos ⟨gok_of h, h3⟩, ← h.1]
theorem gds_Run_call (k : Nat) (hk : 1010 ≤ k) (a0 : Int) (l1 l2 l3 : List Int) (hn : l1.length ≤ 1000) (ha : 1 ≤ a0 ∧ a0 ≤ 65536) (h : wOK l1 l2) (h3 : l3.length ≤ 1000000) (hc : ¬ callsOK l1.length l3) : gds_Run.f k a0 l1 l2 l3 = some ([], 221) := by
  rw [gds_Run_ok k hk a0 l1 l2 l3 hn ha h h3, if_neg (fun x => hc ((gcalls_iff _ _).mp x))]
theorem gds_Run_runs (k : Nat) (hk : 1010 ≤ k) (a0 : Int) (l1 l2 l3 : List Int) (hn : l1.length ≤ 1000) (ha : 1 ≤ a0 ∧ a0 ≤ 65536) (h : wOK l1 l2) (h3 : l3.length ≤ 1000000) (hc : callsOK l1.length l3) :
    ∃ os, gds_Run.f k a0 l1 l2 l3 = some (os, 0) ∧ Runs l1 a0 l3 (List.replicate l1.length false) os ∧ ∀ j, gds_Run.f k a0 l1 l2 (l3.take j) = some (os.take j, 0) := by
  obtain ⟨os, h1, h2, h4⟩ := grun_spec k (by omega) h a0 l3 hc (List.replicate l1.length false) (List.replicate l1.length 0) 0 [] (by simp) (by simp)
  rw [gsum_replicate] at h1 h4
  refine ⟨os, ?_, h2, fun j => ?_⟩
  · rw [gds_Run_ok k hk a0 l1 l2 l3 hn ha h h3, if_pos ((gcalls_iff _ _).mpr hc), h1]; rfl
  · rw [gds_Run_ok k hk a0 l1 l2 (l3.take j) hn ha h (by rw [List.length_take]; omega), if_pos ((gcalls_iff _ _).mpr (fun x hx => hc x (List.mem_of_mem_take hx))), h4 j]; rfl
theorem few_yes {l1 l2 l3 : List Int} (h : l1.length ≤ 100 ∧ l2.length ≤ 100 ∧ l3.length ≤ 60) : linhaylaw18_few.f l1 l2 l3 = some true := by
  unfold linhaylaw18_few.f
  rw [if_pos (by omega), if_pos (by omega), decide_eq_true (by omega)]
theorem few_no {l1 l2 l3 : List Int} (h : ¬ (l1.length ≤ 100 ∧ l2.length ≤ 100 ∧ l3.length ≤ 60)) : linhaylaw18_few.f l1 l2 l3 = some false := by
  unfold linhaylaw18_few.f
  by_cases a : (l1.length : Int) ≤ 100
  · rw [if_pos a]
    by_cases b : (l2.length : Int) ≤ 100
    · rw [if_pos b, decide_eq_false (by omega)]
    · rw [if_neg b]
  · rw [if_neg a]
end Go.Proofs.Ytmacngkgokibeaa.Facts
