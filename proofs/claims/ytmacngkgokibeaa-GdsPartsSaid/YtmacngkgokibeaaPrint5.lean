/- Lean functions that answer what Go functions of the translation answer, and the proofs of it. Written by a program of this session (wip/tools/seatprint.py), over contracts that it proved by hand. Conditions: those that each theorem says. -/
import Derived.Test.YtmacngkgokibeaaPrint0
import Derived.Test.YtmacngkgokibeaaPrint1
import Derived.Test.YtmacngkgokibeaaPrint4
namespace Go.Proofs.Ytmacngkgokibeaa.Print
open Go.RowKit Go.Proofs.YtmacngkgokibeaaW.PrintWords Go.Proofs.YtmacngkgokibeaaW.PrintLast Go.Proofs.YtmacngkgokibeaaW.PrintMore
attribute [local go_sem] max2_int min2_int max_two min_two max_three min_three max_four min_four   -- for this text's walks alone
set_option linter.unusedVariables false
set_option linter.unusedSimpArgs false

/-! ### gds_Run: function 10 -/
def gok (sizes costs : List Int) : Prop := sizes.length = costs.length ∧ sizes.length ≤ 64 ∧ ∀ j : Nat, j < sizes.length → 0 ≤ rd sizes j ∧ rd sizes j ≤ 4096
instance (sizes costs : List Int) : Decidable (gok sizes costs) := by
  unfold gok
  refine @instDecidableAnd _ _ _ (@instDecidableAnd _ _ _ (Nat.decidableBallLT _ _))
def gcalls (n m : Nat) (calls : List Int) : Bool := calls.all fun i => decide (0 ≤ i) && decide (i < (n : Int)) && decide (i < (m : Int))
def grun (k : Nat) (sizes costs : List Int) (most : Int) : List Int → List Bool → List Int → Int → Int → List S40 → Option (List S40)
  | [], _, _, _, _, out => some out
  | i :: cs, ins, rk, lv, tk, out =>
    (gserve k sizes costs most ins rk lv tk i.toNat).bind fun r =>
      if r.1.length = sizes.length ∧ r.2.1.length = sizes.length then grun k sizes costs most cs r.1 r.2.1 r.2.2.1 r.2.2.2.1 (out ++ [⟨r.2.2.2.2.1, r.2.2.2.2.2⟩]) else none
def gds_Run.f (k : Nat) (a0 : Int) (l1 l2 l3 : List Int) : Option (List S40 × Int) :=
  if a0 < 1 ∨ 65536 < a0 then some ([], 220)
  else (gds_wrong.f k l1 l2).bind fun b =>
    if b = true then some ([], 220)
    else if gok l1 l2 ∧ l3.length ≤ 1000000 then
      (if gcalls l1.length l2.length l3 = true then (grun k l1 l2 a0 l3 (List.replicate l1.length false) (List.replicate l1.length 0) 0 0 []).bind fun out => some (out, 0)
       else some ([], 221))
    else none
theorem grun_mono (k : Nat) (sizes costs : List Int) (most : Int) : ∀ cs ins rk lv tk out, LeO (grun k sizes costs most cs ins rk lv tk out) (grun (k + 1) sizes costs most cs ins rk lv tk out)
  | [], _, _, _, _, _ => LeO.refl _
  | i :: cs, ins, rk, lv, tk, out => by
    rw [grun, grun]
    exact LeO.bind (gserve_mono _ _ _ _ _ _ _ _ _) (fun r => LeO.ite (grun_mono k sizes costs most cs _ _ _ _ _) (LeO.refl _))
theorem gds_Run.mono : ∀ a0 a1 a2 a3 k, LeO (gds_Run.f k a0 a1 a2 a3) (gds_Run.f (k + 1) a0 a1 a2 a3) := by
  intro a0 a1 a2 a3 k
  unfold gds_Run.f
  exact LeO.ite (LeO.refl _) (LeO.bind (gds_wrong.mono _ _ _) (fun b => LeO.ite (LeO.refl _) (LeO.ite (LeO.ite (LeO.bind (grun_mono _ _ _ _ _ _ _ _ _ _) (fun _ => LeO.refl _)) (LeO.refl _)) (LeO.refl _))))
/-- The box of the objects. -/
def TH (w W : World) (bt : Nat) (A1 A2 : Option Addr) (n1 n2 c1 c2 : Nat) : Prop := W.heap[bt]? = some (.cells #[.slice A1 n1 c1, .slice A2 n2 c2] 48 (0, 0)) ∧ Below w.heap.size w W ∧ w.heap.size ≤ bt
theorem TH.step {w W W1 : World} {bt : Nat} {A1 A2 : Option Addr} {n1 n2 c1 c2 : Nat} (h : TH w W bt A1 A2 n1 n2 c1 c2) (hb : Below W.heap.size W W1) : TH w W1 bt A1 A2 n1 n2 c1 c2 := ⟨(hb.block _ (blk_lt h.1)).trans h.1, below_step h.2.1 hb, h.2.2⟩
theorem TH.cells {w W : World} {bt : Nat} {A1 A2 : Option Addr} {n1 n2 c1 c2 : Nat} (h : TH w W bt A1 A2 n1 n2 c1 c2) : W.cell? ⟨bt, 0, none⟩ = some (.slice A1 n1 c1) ∧ W.cell? ⟨bt, 1, none⟩ = some (.slice A2 n2 c2) := ⟨(blk_cell h.1 0).trans rfl, (blk_cell h.1 1).trans rfl⟩
theorem TH.base {w W : World} {bt : Nat} {A1 A2 : Option Addr} {n1 n2 c1 c2 : Nat} (h : TH w W bt A1 A2 n1 n2 c1 c2) : Below w.heap.size w W := h.2.1
theorem TH.alloc {w W : World} {bt : Nat} {A1 A2 : Option Addr} {n1 n2 c1 c2 : Nat} (h : TH w W bt A1 A2 n1 n2 c1 c2) (o : Obj) : TH w (W.alloc o) bt A1 A2 n1 n2 c1 c2 := h.step (below_alloc (Below.refl _ _) o)
theorem TH.drew {w W : World} {bt : Nat} {A1 A2 : Option Addr} {n1 n2 c1 c2 : Nat} (h : TH w W bt A1 A2 n1 n2 c1 c2) : TH w W.drew bt A1 A2 n1 n2 c1 c2 := h.step (below_drew (Below.refl _ _))
set_option maxHeartbeats 8000000 in
set_option maxRecDepth 100000 in
theorem gds_run_cap (a0 : Int) (l1 l2 l3 : List Int) (A1 A2 A3 : Option Addr) (c1 c2 c3 : Nat) (w : World) (hc : a0 < 1 ∨ 65536 < a0) :
    Calls Try.prog 10 #[.int .i64 a0, .slice A1 l1.length c1, .slice A2 l2.length c2, .slice A3 l3.length c3] w fun e w' => ∃ v, e = .returned (.tuple #[v, .int .i64 220]) ∧ Kd.S k40 40 w' w.heap.size (fun _ => True) v [] ∧ Below w.heap.size w w' := by
  have hcc : decide (a0 < 1) = true ∨ (decide (a0 < 1) = false ∧ decide (65536 < a0) = true) := by
    by_cases x : a0 < 1
    · exact .inl (decide_eq_true x)
    · exact .inr ⟨decide_eq_false x, decide_eq_true (by omega)⟩
  clear hc
  rcases hcc with h | ⟨h, h'⟩
  all_goals
    go_enter Try.func10, Try.ntmps10
    go_wp2
    go_ret2
    exact ⟨_, rfl, Kd.S_nil _ _ _ _ _, below_alloc (Below.refl _ _) _⟩
theorem gis_eq (l1 l2 : List Int) (x : Int) : gds_things_is.f l1 l2 x = some (decide (0 ≤ x) && decide (x < (l1.length : Int)) && decide (x < (l2.length : Int))) := by
  unfold gds_things_is.f
  by_cases a : 0 ≤ x
  · rw [if_pos (show x ≥ 0 from a), decide_eq_true a]
    by_cases b : x < (l1.length : Int)
    · rw [if_pos b, decide_eq_true b]; rfl
    · rw [if_neg b, decide_eq_false b]; rfl
  · rw [if_neg (show ¬ x ≥ 0 from a), decide_eq_false a]; rfl
theorem gcalls_no {n m : Nat} {l : List Int} {j : Nat} (hj : j < l.length) (h : (decide (0 ≤ rd l j) && decide (rd l j < (n : Int)) && decide (rd l j < (m : Int))) = false) : gcalls n m l = false := by
  unfold gcalls
  rw [List.all_eq_false]
  refine ⟨rd l j, ?_, by rw [h]; decide⟩
  unfold rd
  rw [Int.toNat_natCast, List.getD_eq_getElem?_getD, List.getElem?_eq_getElem hj]
  exact List.getElem_mem hj
theorem gcalls_yes {n m : Nat} {l : List Int} (h : ∀ j, j < l.length → (decide (0 ≤ rd l j) && decide (rd l j < (n : Int)) && decide (rd l j < (m : Int))) = true) : gcalls n m l = true := by
  unfold gcalls
  rw [List.all_eq_true]
  intro x hx
  obtain ⟨j, hj, rfl⟩ := List.getElem_of_mem hx
  have := h j hj
  unfold rd at this
  rw [Int.toNat_natCast, List.getD_eq_getElem?_getD, List.getElem?_eq_getElem hj] at this
  exact this
theorem drop_rd {l : List Int} {j : Nat} (hj : j < l.length) : l.drop j = rd l j :: l.drop (j + 1) := by
  unfold rd
  rw [List.drop_eq_getElem_cons hj, Int.toNat_natCast, List.getD_eq_getElem?_getD, List.getElem?_eq_getElem hj]; rfl
theorem made_B (n : Nat) : madeCells #[Value.bool false] n = gcB (List.replicate n false) := by
  unfold madeCells gcB
  apply Array.ext
  · simp
  · intro i h1 h2
    simp [Nat.mod_one]
theorem made_N (n : Nat) : madeCells #[Value.int .u64 0] n = gcN (List.replicate n 0) := by
  unfold madeCells gcN
  apply Array.ext
  · simp
  · intro i h1 h2
    simp [Nat.mod_one]
theorem gds_mkB (n : Nat) (hn : n ≤ 64) (w : World) : (Instr.makeSlice 38 (.int .i64 n) (.int .i64 n)).run Try.prog w = .ok (.slice (some ⟨w.heap.size, 0, none⟩) n n) (w.alloc (.cells (gcB (List.replicate n false)) 4)) := by
  obtain ⟨i0, hi, hz0, hz1, hz2⟩ := info_parts (show (Try.prog.info? 4).map (fun i => (i.zero, i.size, i.bytes)) = some (some (.bool false), 1, 1) by kernel_rfl)
  have h := run_make (P := Try.prog) w 38 4 i0 (.bool false) Try.underlying38 hi hz0 .i64 .i64 (n : Int) (n : Int) (by omega) (by omega) (by rw [hz2]; omega) (by omega)
  rw [h, hz1, Int.toNat_natCast, Nat.mul_one]
  show Result.ok _ (w.alloc (.cells (madeCells #[Value.bool false] n) _)) = _
  rw [made_B]
theorem gds_mkN (n : Nat) (hn : n ≤ 64) (w : World) : (Instr.makeSlice 25 (.int .i64 n) (.int .i64 n)).run Try.prog w = .ok (.slice (some ⟨w.heap.size, 0, none⟩) n n) (w.alloc (.cells (gcN (List.replicate n 0)) 23)) := by
  obtain ⟨i0, hi, hz0, hz1, hz2⟩ := info_parts (show (Try.prog.info? 23).map (fun i => (i.zero, i.size, i.bytes)) = some (some (.int .u64 0), 1, 8) by kernel_rfl)
  have h := run_make (P := Try.prog) w 25 23 i0 (.int .u64 0) Try.underlying25 hi hz0 .i64 .i64 (n : Int) (n : Int) (by omega) (by omega) (by rw [hz2]; omega) (by omega)
  rw [h, hz1, Int.toNat_natCast, Nat.mul_one]
  show Result.ok _ (w.alloc (.cells (madeCells #[Value.int .u64 0] n) _)) = _
  rw [made_N]
theorem GC.make1 {w W : World} {A1 A2 : Option Addr} {n1 n2 c1 c2 n : Nat} {a0 : Int} (h : Below w.heap.size w W) :
    GC w (((W.alloc (.cells (gcB (List.replicate n false)) 4)).alloc (.cells (gcN (List.replicate n 0)) 23)).alloc (.cells #[.slice A1 n1 c1, .slice A2 n2 c2, .slice (some ⟨W.heap.size, 0, none⟩) n n, .slice (some ⟨(W.heap.size + 1), 0, none⟩) n n, .int .u64 0, .int .i64 0, .int .i64 a0] 53)).drew (W.heap.size + 1 + 1) W.heap.size (W.heap.size + 1) A1 A2 n1 n2 c1 c2 (List.replicate n false) (List.replicate n 0) 0 0 a0 := by
  have hs := h.size
  exact ⟨blk_drew (by rw [List.length_replicate, List.length_replicate]; exact blk_new2 (by simp)), blk_drew (blk_alloc (blk_alloc (blk_new W _) _) _), blk_drew (blk_alloc (blk_new2 (by simp)) _), ⟨by omega, by omega, by omega⟩, below_drew (below_alloc (below_alloc (below_alloc h _) _) _)⟩
theorem GC.make2 {w W : World} {A1 A2 : Option Addr} {n1 n2 c1 c2 n : Nat} {a0 : Int} (h : Below w.heap.size w W) :
    GC w (((W.alloc (.cells (gcN (List.replicate n 0)) 23)).alloc (.cells (gcB (List.replicate n false)) 4)).alloc (.cells #[.slice A1 n1 c1, .slice A2 n2 c2, .slice (some ⟨(W.heap.size + 1), 0, none⟩) n n, .slice (some ⟨W.heap.size, 0, none⟩) n n, .int .u64 0, .int .i64 0, .int .i64 a0] 53)).drew (W.heap.size + 1 + 1) (W.heap.size + 1) W.heap.size A1 A2 n1 n2 c1 c2 (List.replicate n false) (List.replicate n 0) 0 0 a0 := by
  have hs := h.size
  exact ⟨blk_drew (by rw [List.length_replicate, List.length_replicate]; exact blk_new2 (by simp)), blk_drew (blk_alloc (blk_new2 (by simp)) _), blk_drew (blk_alloc (blk_alloc (blk_new W _) _) _), ⟨by omega, by omega, by omega⟩, below_drew (below_alloc (below_alloc (below_alloc h _) _) _)⟩
theorem GC.grown {w0 W W1 : World} {g gi gr : Nat} {A0 A1 : Option Addr} {n0 n1 c0 c1 : Nat} {ins : List Bool} {rk : List Int} {lv tk most : Int} {row : Option Nat} (h : GC w0 W g gi gr A0 A1 n0 n1 c0 c1 ins rk lv tk most) (hg : W.grownBy W1 row) (h1 : some g ≠ row) (h2 : some gi ≠ row) (h3 : some gr ≠ row) (hb : Below w0.heap.size w0 W1) : GC w0 W1 g gi gr A0 A1 n0 n1 c0 c1 ins rk lv tk most :=
  ⟨blk_grown h.hg hg h1, blk_grown h.hgi hg h2, blk_grown h.hgr hg h3, h.2.2.2.1, hb⟩
theorem grun_cons {k : Nat} {l1 l2 : List Int} {a0 x : Int} {cs : List Int} {ins : List Bool} {rk : List Int} {lv tk : Int} {out r : List S40} (h : grun k l1 l2 a0 (x :: cs) ins rk lv tk out = some r) :
    ∃ ins1 rk1 lv1 tk1 hit outs, gserve k l1 l2 a0 ins rk lv tk x.toNat = some (ins1, rk1, lv1, tk1, hit, outs) ∧ ins1.length = l1.length ∧ rk1.length = l1.length ∧ grun k l1 l2 a0 cs ins1 rk1 lv1 tk1 (out ++ [⟨hit, outs⟩]) = some r := by
  rw [grun] at h
  obtain ⟨⟨ins1, rk1, lv1, tk1, hit, outs⟩, hs, h⟩ := Option.bind_eq_some_iff.mp h
  by_cases c : ins1.length = l1.length ∧ rk1.length = l1.length
  · rw [if_pos c] at h
    exact ⟨ins1, rk1, lv1, tk1, hit, outs, hs, c.1, c.2, h⟩
  · rw [if_neg c] at h; cases h
set_option maxHeartbeats 8000000 in
set_option maxRecDepth 100000 in
theorem gds_run_wrong (k : Nat) (a0 : Int) (l1 l2 l3 : List Int) (A1 A2 A3 : Option Addr) (c1 c2 c3 : Nat) (w : World) (hr1 : Kd.C (Kd.int .i64) w A1 l1.length l1) (hc1 : l1.length ≤ c1) (hr2 : Kd.C (Kd.int .i64) w A2 l2.length l2) (hc2 : l2.length ≤ c2)
    (hc : ¬ (a0 < 1 ∨ 65536 < a0)) (hw : gds_wrong.f k l1 l2 = some true) :
    Calls Try.prog 10 #[.int .i64 a0, .slice A1 l1.length c1, .slice A2 l2.length c2, .slice A3 l3.length c3] w fun e w' => ∃ v, e = .returned (.tuple #[v, .int .i64 220]) ∧ Kd.S k40 40 w' w.heap.size (fun _ => True) v [] ∧ Below w.heap.size w w' := by
  have HC1 := Aside0.mk hr1
  have HC2 := Aside0.mk hr2
  have HW := Aside0.mk hw
  have d1 : decide (a0 < 1) = false := decide_eq_false (by omega)
  have d2 : decide (65536 < a0) = false := decide_eq_false (by omega)
  clear hr1 hr2 hw hc
  go_enter Try.func10, Try.ntmps10
  go_wp2_with (go_at_call 20; (with_reducible refine (gds_wrong.calls k A1 c1 l1 A2 c2 l2 true _ (by exact Kd.C_below HC1.out (below_alloc (Below.refl _ _) _)) hc1 (by exact Kd.C_below HC2.out (below_alloc (Below.refl _ _) _)) hc2 HW.out).mono ?_); rintro e w9 ⟨rfl, hbl⟩; have HT := Aside0.mk (show TH w w9 w.heap.size A1 A2 l1.length l2.length c1 c2 from TH.step ⟨blk_new _ _, below_alloc (Below.refl _ _) _, Nat.le_refl _⟩ hbl); clear hbl; obtain ⟨t0, t1⟩ := HT.out.cells)
  go_ret2
  exact ⟨_, rfl, Kd.S_nil _ _ _ _ _, HT.out.base⟩
set_option maxHeartbeats 8000000 in
set_option maxRecDepth 100000 in
theorem gds_run_main (k : Nat) (a0 : Int) (l1 l2 l3 : List Int) (A1 A2 A3 : Option Addr) (c1 c2 c3 : Nat) (r1 : List S40) (r2 : Int) (w : World) (hr1 : Kd.C (Kd.int .i64) w A1 l1.length l1) (hc1 : l1.length ≤ c1) (hr2 : Kd.C (Kd.int .i64) w A2 l2.length l2) (hc2 : l2.length ≤ c2) (hr3 : Kd.C (Kd.int .i64) w A3 l3.length l3) (hc3 : l3.length ≤ c3)
    (hc : ¬ (a0 < 1 ∨ 65536 < a0)) (hw : gds_wrong.f k l1 l2 = some false) (hk : gok l1 l2) (h3 : l3.length ≤ 1000000)
    (hr : (if gcalls l1.length l2.length l3 = true then (grun k l1 l2 a0 l3 (List.replicate l1.length false) (List.replicate l1.length 0) 0 0 []).bind fun out => some (out, 0) else some ([], 221)) = some (r1, r2)) :
    Calls Try.prog 10 #[.int .i64 a0, .slice A1 l1.length c1, .slice A2 l2.length c2, .slice A3 l3.length c3] w fun e w' => ∃ v, e = .returned (.tuple #[v, .int .i64 r2]) ∧ Kd.S k40 40 w' w.heap.size (fun _ => True) v r1 ∧ Below w.heap.size w w' := by
  have HC1 := Aside0.mk hr1
  have HC2 := Aside0.mk hr2
  have HC3 := Aside0.mk hr3
  have HW := Aside0.mk hw
  have HR := Aside0.mk hr
  have HK2 := Aside0.mk hk.2.2
  have d1 : decide (a0 < 1) = false := decide_eq_false (by omega)
  have d2 : decide (65536 < a0) = false := decide_eq_false (by omega)
  have a1 : 1 ≤ a0 := by omega
  have a2 : a0 ≤ 65536 := by omega
  have n1 : l1.length ≤ 64 := hk.2.1
  have n2 : l2.length ≤ 64 := by have := hk.1; omega
  clear hr1 hr2 hr3 hw hc hr hk
  go_enter Try.func10, Try.ntmps10
  go_wp2_with (go_at_call 20; (with_reducible refine (gds_wrong.calls k A1 c1 l1 A2 c2 l2 false _ (by exact Kd.C_below HC1.out (below_alloc (Below.refl _ _) _)) hc1 (by exact Kd.C_below HC2.out (below_alloc (Below.refl _ _) _)) hc2 HW.out).mono ?_); rintro e w9 ⟨rfl, hbl⟩; have HT := Aside0.mk (show TH w w9 w.heap.size A1 A2 l1.length l2.length c1 c2 from TH.step ⟨blk_new _ _, below_alloc (Below.refl _ _) _, Nat.le_refl _⟩ hbl); clear hbl)
  generalize w.heap.size = bt at HT
  go_loopg [8, 9, 12, 31] l3.length (fun kq v8 v9 v12 v31 W => ∃ j : Nat, v8 = .slice none 0 0 ∧ v9 = .int .i64 0 ∧ v31 = .int .i64 j ∧ Aside0 (j + kq = l3.length) ∧ Aside0 (∀ i, i < j → (decide (0 ≤ rd l3 i) && decide (rd l3 i < (l1.length : Int)) && decide (rd l3 i < (l2.length : Int))) = true) ∧ Aside0 (TH w W bt A1 A2 l1.length l2.length c1 c2))
  case atStart => exact ⟨0, rfl, rfl, rfl, ⟨by omega⟩, ⟨fun i hi => absurd hi (Nat.not_lt_zero _)⟩, HT⟩
  case round =>
    clear HT
    obtain ⟨j, rfl, rfl, rfl, hj, HA, HT⟩ := hrel
    obtain ⟨t0, t1⟩ := HT.out.cells
    by_cases hlt : j < l3.length
    · have p0 : (0 : Int) ≤ (j : Int) := Int.natCast_nonneg _
      have p1 : (j : Int) < (l3.length : Int) := by omega
      obtain ⟨ad, ea, hx⟩ := Kd.at_int HC3.out j p0 p1
      cases ea
      rw [Int.toNat_natCast] at hx
      replace hx := pw_cell_below HT.out.base hx
      obtain ⟨b, hb⟩ : ∃ b, b = (decide (0 ≤ rd l3 j) && decide (rd l3 j < (l1.length : Int)) && decide (rd l3 j < (l2.length : Int))) := ⟨_, rfl⟩
      have HI := Aside0.mk (show gds_things_is.f l1 l2 (rd l3 j) = some b by rw [gis_eq, hb])
      have HB := Aside0.mk hb
      clear hb
      obtain ⟨x, hx0⟩ : ∃ x, x = rd l3 j := ⟨_, rfl⟩
      rw [← hx0] at hx HI HB
      have HX0 := Aside0.mk hx0
      clear hx0
      cases b
      all_goals go_wp2_with (go_at_call 21; (with_reducible refine (gds_things_is.calls A1 c1 l1 A2 c2 l2 x _ _ (by exact Kd.C_below HC1.out HT.out.base) hc1 (by exact Kd.C_below HC2.out HT.out.base) hc2 HI.out).mono ?_); rintro e w9 ⟨rfl, hbl⟩; have n9 := Aside0.mk (HT.out.step hbl); clear HT t0 t1 hbl hx; have HT := n9; clear n9)
      · go_ret2
        have hn : gcalls l1.length l2.length l3 = false := gcalls_no hlt (by rw [← HX0.out]; exact HB.out.symm)
        have hr := HR.out
        rw [if_neg (by rw [hn]; decide)] at hr
        simp only [Option.some.injEq, Prod.mk.injEq] at hr
        obtain ⟨rfl, rfl⟩ := hr
        exact ⟨_, rfl, Kd.S_nil _ _ _ _ _, HT.out.base⟩
      · obtain ⟨k1, rfl⟩ : ∃ k1, gk = k1 + 1 := ⟨gk - 1, by have := hj.out; omega⟩
        go_roundg k1
        case measure => omega
        case rel => exact ⟨j + 1, rfl, rfl, by go_num, ⟨by have := hj.out; omega⟩, ⟨fun i hi => by rcases Nat.lt_succ_iff_lt_or_eq.mp hi with c | c; exact HA.out i c; rw [c, ← HX0.out]; exact HB.out.symm⟩, HT⟩
    · have hy : gcalls l1.length l2.length l3 = true := gcalls_yes (fun i hi => HA.out i (by have := hj.out; omega))
      have hr := HR.out
      rw [if_pos hy] at hr
      obtain ⟨out1, hg, hr⟩ := Option.bind_eq_some_iff.mp hr
      have HG1 := Aside0.mk hg
      have HE := Aside0.mk (show out1 = r1 ∧ 0 = r2 by simpa using hr)
      clear hg hr hy HR
      have hmk1 := gds_mkB l1.length n1
      have hmk2 := gds_mkN l1.length n1
      have T1 := fun o1 o2 o3 : Obj => (((((HT.out.alloc o1).alloc o2).alloc o3).drew).cells).1
      have T2 := fun o1 o2 o3 : Obj => (((((HT.out.alloc o1).alloc o2).alloc o3).drew).cells).2
      go_wp2
      go_region_held3 (fun W => W.cell? ⟨bt, 0, none⟩ = some (.slice A1 l1.length c1) ∧ W.cell? ⟨bt, 1, none⟩ = some (.slice A2 l2.length c2)) (go_keep) (fail)
      all_goals clear hmk1 hmk2 T1 T2
      rotate_left
      all_goals refine abs1 (fun W => ∃ gi gr, GC w W (wr.heap.size + 1 + 1) gi gr A1 A2 l1.length l2.length c1 c2 (List.replicate l1.length false) (List.replicate l1.length 0) 0 0 a0) ?_ ?_
      · exact ⟨_, _, GC.make2 HT.out.base⟩
      rotate_left
      · exact ⟨_, _, GC.make1 HT.out.base⟩
      all_goals
        generalize wr.heap.size + 1 + 1 = g
        clear t0 t1 HT
        rintro W1 ⟨gi, gr, hG⟩
        have HG := Aside0.mk hG
        clear hG
        go_wp2
        clear d1 d2 HW
        go_loopg [8, 15, 52] l3.length (fun kq v8 v15 v52 W => ∃ (q : Nat) (out : List S40) (ins : List Bool) (rk : List Int) (lv tk : Int), v52 = .int .i64 q ∧ Aside0 (q + kq = l3.length) ∧ Aside0 (GC w W g gi gr A1 A2 l1.length l2.length c1 c2 ins rk lv tk a0) ∧ Aside0 (Kd.S k40 40 W w.heap.size (fun x => x ≠ g ∧ x ≠ gi ∧ x ≠ gr) v8 out) ∧ Aside0 (grun k l1 l2 a0 (l3.drop q) ins rk lv tk out = some out1) ∧ Aside0 (ins.length = l1.length ∧ rk.length = l1.length) ∧ Aside0 (out.length ≤ q))
        case atStart => exact ⟨0, [], _, _, 0, 0, rfl, ⟨by omega⟩, HG, ⟨Kd.S_nil _ _ _ _ _⟩, ⟨by rw [List.drop_zero]; exact HG1.out⟩, ⟨by simp⟩, ⟨Nat.le_refl _⟩⟩
        case round =>
          clear HG HG1
          obtain ⟨q, out, ins, rk, lv, tk, rfl, hq, HG, HS, HN, HL, HO⟩ := hrel
          by_cases hqt : q < l3.length
          · have p0 : (0 : Int) ≤ (q : Int) := Int.natCast_nonneg _
            have p1 : (q : Int) < (l3.length : Int) := by omega
            obtain ⟨ad, ea, hx⟩ := Kd.at_int HC3.out q p0 p1
            cases ea
            rw [Int.toNat_natCast] at hx
            replace hx := pw_cell_below HG.out.base hx
            have hv := HA.out q (by have := hj.out; omega)
            have hn := HN.out
            rw [drop_rd hqt] at hn
            obtain ⟨x, hx0⟩ : ∃ x, x = rd l3 q := ⟨_, rfl⟩
            rw [← hx0] at hx hv hn
            clear hx0
            simp only [Bool.and_eq_true, decide_eq_true_eq] at hv
            obtain ⟨i, rfl⟩ : ∃ i : Nat, x = i := ⟨x.toNat, by omega⟩
            obtain ⟨ins1, rk1, lv1, tk1, hit, outs, hs, hl1, hl2, hn⟩ := grun_cons hn
            rw [Int.toNat_natCast] at hs
            have HSV := Aside0.mk hs
            have HN1 := Aside0.mk hn
            have HL1 := Aside0.mk (And.intro hl1 hl2)
            have i1 : i < ins.length := by have := HL.out; omega
            have i2 : ins.length = l1.length := HL.out.1
            have I2 := Aside0.mk i2
            have i3 : rk.length = ins.length := by have := HL.out; omega
            have I3 := Aside0.mk i3
            have i4 : ins.length ≤ 64 := by omega
            have HB1 := Aside0.mk (show ∀ y, wr.heap.size ≤ y → (y ≠ g ∧ y ≠ gi ∧ y ≠ gr) ∧ some y ≠ u8.ownBlock from fun y hy => ⟨⟨fun e => by have := blk_lt HG.out.hg; omega, fun e => by have := blk_lt HG.out.hgi; omega, fun e => by have := blk_lt HG.out.hgr; omega⟩, fun e => by have := Kd.S_lt HS.out y e.symm; omega⟩)
            clear hs hn hl1 hl2 hv i2 i3 HN
            go_wp2_with (first | (go_at_call 22; (with_reducible refine (gds_serve_calls k w _ g gi gr A1 A2 c1 c2 l1 l2 ins rk lv tk a0 i _ _ _ _ _ _ (by exact HG.out) HC1.out hc1 HC2.out hc2 i1 I2.out I3.out i4 HK2.out ⟨by omega, a2⟩ HSV.out).mono ?_); rintro e w8 ⟨vv, rfl, hrr, hg8, hk8⟩; have HR8 := Aside0.mk (Kd.R_lower hrr HG.out.base.size); have HG8 := Aside0.mk hg8; have HS8 := Aside0.mk (Kd.S_mono (ok' := fun x => (x ≠ g ∧ x ≠ gi ∧ x ≠ gr) ∧ ¬ wr.heap.size ≤ x) (Kd.S_step (Kd.S_bound HS.out) (fun y hy hlt => hk8.2 y hlt hy.1.1 hy.1.2.1 hy.1.2.2)) (fun y hy => ⟨hy.1, by have := hy.2.2.1; omega⟩)); clear hrr hg8 hk8) | ((with_reducible refine gate_builtin (b := .append) (xs := #[.tmp 56, .tmp 60]) rfl ?_); at_builtin; refine Kd.S_append k40 (w0 := w) w.heap.size rfl (.tmp 56) (.tmp 60) 28 40 (.agg #[(.bool false), (.slice none 0 0)]) 32 rfl Try.underlying28 gds_infoS rfl (by decide) (by omega) u8 out ⟨hit, outs⟩ [.bool hit, vv] (fun x => x ≠ g ∧ x ≠ gi ∧ x ≠ gr) (fun x => wr.heap.size ≤ x) rfl rfl ?aP (fun y hy => HB1.out y hy) ?aF ?aO ?aB ?aS ?aL ?_; (case aP => exact k40_mkM w8 _ _ ⟨hit, outs⟩ HR8.out); (case aB => exact HG8.out.base); (case aF => exact (fun y hy => ⟨fun e => by have := blk_lt HG8.out.hg; omega, fun e => by have := blk_lt HG8.out.hgi; omega, fun e => by have := blk_lt HG8.out.hgr; omega⟩)); (case aO => exact HS8.out); (case aS => exact HG8.out.base.size); (case aL => have := HO.out; have := hq.out; omega); intro v9 w9 ho hb hg hat; have HS9 := Aside0.mk ho; have HG9 := Aside0.mk (HG8.out.grown hg (fun e => (Kd.S_away HS8.out (fun y hy => hy.1.1)) e) (fun e => (Kd.S_away HS8.out (fun y hy => hy.1.2.1)) e) (fun e => (Kd.S_away HS8.out (fun y hy => hy.1.2.2)) e) hb); clear ho hb hg hat))
            obtain ⟨k1, rfl⟩ : ∃ k1, gk = k1 + 1 := ⟨gk - 1, by have := hq.out; omega⟩
            go_roundg k1
            case measure => omega
            case rel => exact ⟨q + 1, _, _, _, _, _, by go_num, ⟨by have := hq.out; omega⟩, HG9, HS9, HN1, HL1, ⟨by have := HO.out; simp; omega⟩⟩
          · have hn := HN.out
            rw [List.drop_of_length_le (by omega)] at hn
            have HN1 := Aside0.mk (show out = out1 from Option.some.inj (by rw [grun] at hn; exact hn))
            clear hn HN
            go_wp2
            go_ret2
            obtain ⟨e1, e2⟩ := HE.out
            exact ⟨_, by rw [← e2]; rfl, by rw [← e1, ← HN1.out]; exact Kd.S_mono HS.out (fun _ _ => trivial), HG.out.base⟩
theorem gds_Run.calls (k : Nat) (a0 : Int) (A1 : Option Addr) (c1 : Nat) (l1 : List Int) (A2 : Option Addr) (c2 : Nat) (l2 : List Int) (A3 : Option Addr) (c3 : Nat) (l3 : List Int) (r1 : List (S40)) (r2 : Int) (w : World) (hr1 : Kd.C (Kd.int .i64) w A1 l1.length l1) (hc1 : l1.length ≤ c1) (hr2 : Kd.C (Kd.int .i64) w A2 l2.length l2) (hc2 : l2.length ≤ c2) (hr3 : Kd.C (Kd.int .i64) w A3 l3.length l3) (hc3 : l3.length ≤ c3) (h : gds_Run.f k a0 l1 l2 l3 = some (r1, r2)) :
    Calls Try.prog 10 #[.int .i64 a0, .slice A1 l1.length c1, .slice A2 l2.length c2, .slice A3 l3.length c3] w fun e w' => ∃ v0_ : Value, e = .returned (.tuple #[v0_, .int .i64 r2]) ∧ Kd.S k40 40 w' w.heap.size (fun _ => True) v0_ r1 ∧ Below w.heap.size w w' := by
  unfold gds_Run.f at h
  by_cases c : a0 < 1 ∨ 65536 < a0
  · rw [if_pos c] at h
    simp only [Option.some.injEq, Prod.mk.injEq] at h
    obtain ⟨rfl, rfl⟩ := h
    exact gds_run_cap a0 l1 l2 l3 A1 A2 A3 c1 c2 c3 w c
  · rw [if_neg c] at h
    obtain ⟨b, hw, h⟩ := Option.bind_eq_some_iff.mp h
    cases b with
    | true =>
      rw [if_pos rfl] at h
      simp only [Option.some.injEq, Prod.mk.injEq] at h
      obtain ⟨rfl, rfl⟩ := h
      exact gds_run_wrong k a0 l1 l2 l3 A1 A2 A3 c1 c2 c3 w hr1 hc1 hr2 hc2 c hw
    | false =>
      rw [if_neg (by decide)] at h
      by_cases d : gok l1 l2 ∧ l3.length ≤ 1000000
      · rw [if_pos d] at h
        exact gds_run_main k a0 l1 l2 l3 A1 A2 A3 c1 c2 c3 r1 r2 w hr1 hc1 hr2 hc2 hr3 hc3 c hw d.1 d.2 h
      · rw [if_neg d] at h; cases h

/-! ### linhayref08_Same: function 24 -/
def linhayref08_Same.l0 : Nat → List Int → List Int → Int → Option (Bool)
  | 0, _, _, _ => none
  | k + 1, x0, x1, x5 => if x5 < (x0.length : Int) then (if 0 ≤ x5 then (if x5 < (x1.length : Int) then (if (rd x0 x5) = (rd x1 x5) then (linhayref08_Same.l0 k x0 x1 (wrap64 (x5 + 1))) else (some false)) else (none)) else (none)) else (some true)
def linhayref08_Same.f (k : Nat) (l0 : List Int) (l1 : List Int) : Option (Bool) := if (l0.length : Int) = (l1.length : Int) then (linhayref08_Same.l0 k l0 l1 0) else (some false)
theorem linhayref08_Same.mono_l : ∀ k, (∀ y0 y1 y2, LeO (linhayref08_Same.l0 k y0 y1 y2) (linhayref08_Same.l0 (k + 1) y0 y1 y2))
  | 0 => fun _ _ _ r h => by simp [linhayref08_Same.l0] at h
  | k + 1 => by
    have ih0 := linhayref08_Same.mono_l k
    · intro y0 y1 y2
      unfold linhayref08_Same.l0
      repeat' first
      | (with_reducible exact ih0 _ _ _)
      | (with_reducible exact LeO.refl _)
      | (with_reducible exact LeO.none _)
      | (with_reducible refine LeO.ite ?_ ?_)
      | (with_reducible refine LeO.bind ?_ (fun _ => ?_))
      | exact ih0 _ _ _
      | exact LeO.none _
      | refine LeO.ite ?_ ?_
      | refine LeO.bind ?_ (fun _ => ?_)
theorem linhayref08_Same.mono : ∀ a0 a1 k, LeO (linhayref08_Same.f k a0 a1) (linhayref08_Same.f (k + 1) a0 a1) := by
  intro a0 a1 k
  have ih0 := linhayref08_Same.mono_l k
  unfold linhayref08_Same.f
  repeat' first
      | (with_reducible exact ih0 _ _ _)
      | (with_reducible exact LeO.refl _)
      | (with_reducible exact LeO.none _)
      | (with_reducible refine LeO.ite ?_ ?_)
      | (with_reducible refine LeO.bind ?_ (fun _ => ?_))
      | exact ih0 _ _ _
      | exact LeO.none _
      | refine LeO.ite ?_ ?_
      | refine LeO.bind ?_ (fun _ => ?_)
set_option maxHeartbeats 8000000 in
set_option maxRecDepth 100000 in
theorem linhayref08_Same.calls (k : Nat) (A0 : Option Addr) (c0 : Nat) (l0 : List Int) (A1 : Option Addr) (c1 : Nat) (l1 : List Int) (r : Bool) (w : World) (hr0 : Kd.C (Kd.int .i64) w A0 l0.length l0) (hc0 : l0.length ≤ c0) (hr1 : Kd.C (Kd.int .i64) w A1 l1.length l1) (hc1 : l1.length ≤ c1) (h : linhayref08_Same.f k l0 l1 = some r) :
    Calls Try.prog 24 #[.slice A0 l0.length c0, .slice A1 l1.length c1] w fun e w' => e = .returned (.bool r) ∧ Drawn0 w w' := by
  have HR0 := Aside0.mk hr0
  have HC0 := Aside0.mk hc0
  clear hr0 hc0
  have HR1 := Aside0.mk hr1
  have HC1 := Aside0.mk hc1
  clear hr1 hc1
  have H : (if (l0.length : Int) = (l1.length : Int) then (linhayref08_Same.l0 k l0 l1 0) else (some false)) = some r := h
  clear h
  by_cases c3 : (l0.length : Int) = (l1.length : Int)
  · rw [if_pos c3] at H
    have c3b0 : ((l0.length : Int) == (l1.length : Int)) = true := beq_iff_eq.mpr c3
    have c3b1 : ((l0.length : Int) != (l1.length : Int)) = false := bne_eq_false_iff_eq.mpr c3
    have c3b2 : (l0.length == l1.length) = true := by first | simpa using c3 | (simp at c3 ⊢; omega)
    clear c3
    have H' := Aside0.mk H
    clear H
    go_enter Try.func24, Try.ntmps24
    go_wp2
    repeat (go_quiet (fail); try go_wp2)
    go_loopg [5] k (fun kq v5 w' => ∃ (x5_1 : Int), v5 = .int .i64 x5_1 ∧ Aside0 (linhayref08_Same.l0 kq l0 l1 x5_1 = some r) ∧ Aside0 (kq ≤ k) ∧ Drawn0 w w')
    case atStart => exact ⟨(0), (by first | rfl | (simp; done) | (simp [*]; done)), H', ⟨Nat.le_refl _⟩, by repeat (first | exact Drawn0.refl _ | apply Drawn0.step)⟩
    case round =>
      clear H'
      try clear c1
      try clear c2
      try clear p2
      try clear c3
      try clear c3b0
      try clear c3b1
      try clear c3b2
      obtain ⟨x5_1, rfl, HA, HK1, ⟨m1, rfl⟩⟩ := hrel
      cases gk with
      | zero => exact absurd HA.out (by simp [linhayref08_Same.l0])
      | succ k1 =>
        have H := HA.out
        clear HA
        simp only [linhayref08_Same.l0] at H
        by_cases c4 : x5_1 < (l0.length : Int)
        · rw [if_pos c4] at H
          have c4b0 : decide (x5_1 < (l0.length : Int)) = true := decide_eq_true c4
          clear c4
          by_cases c5 : 0 ≤ x5_1
          · rw [if_pos c5] at H
            have c5b0 : decide (0 ≤ x5_1) = true := decide_eq_true c5
            clear c5
            by_cases c6 : x5_1 < (l1.length : Int)
            · rw [if_pos c6] at H
              have c6b0 : decide (x5_1 < (l1.length : Int)) = true := decide_eq_true c6
              clear c6
              by_cases c7 : (rd l0 x5_1) = (rd l1 x5_1)
              · rw [if_pos c7] at H
                have c7b0 : ((rd l0 x5_1) == (rd l1 x5_1)) = true := beq_iff_eq.mpr c7
                have c7b1 : ((rd l0 x5_1) != (rd l1 x5_1)) = false := bne_eq_false_iff_eq.mpr c7
                clear c7
                have H' := Aside0.mk H
                clear H
                have p144 : 0 ≤ (x5_1 : Int) := of_decide_eq_true (by first | (with_reducible assumption) | assumption)
                have q144 : x5_1 < (l0.length : Int) := of_decide_eq_true (by first | (with_reducible assumption) | assumption)
                obtain ⟨ad144, e144, hx144_0⟩ := Kd.at_int HR0.out x5_1 p144 q144
                cases e144
                replace p144 := eq_true p144
                replace q144 := eq_true q144
                have p145 : 0 ≤ (x5_1 : Int) := of_decide_eq_true (by first | (with_reducible assumption) | assumption)
                have q145 : x5_1 < (l1.length : Int) := of_decide_eq_true (by first | (with_reducible assumption) | assumption)
                obtain ⟨ad145, e145, hx145_0⟩ := Kd.at_int HR1.out x5_1 p145 q145
                cases e145
                replace p145 := eq_true p145
                replace q145 := eq_true q145
                go_wp2
                repeat (go_quiet (fail); try go_wp2)
                go_roundg k1
                case measure => have := HK1.out; omega
                case rel => exact ⟨(wrap64 (x5_1 + 1)), (by first | rfl | (simp; done) | (simp [*]; done)), H', ⟨by have := HK1.out; omega⟩, by repeat (first | exact Drawn0.refl _ | apply Drawn0.step)⟩
              · rw [if_neg c7] at H
                have c7b0 : ((rd l0 x5_1) == (rd l1 x5_1)) = false := beq_eq_false_iff_ne.mpr c7
                have c7b1 : ((rd l0 x5_1) != (rd l1 x5_1)) = true := bne_iff_ne.mpr c7
                obtain rfl := Option.some.inj H
                have p144 : 0 ≤ (x5_1 : Int) := of_decide_eq_true (by first | (with_reducible assumption) | assumption)
                have q144 : x5_1 < (l0.length : Int) := of_decide_eq_true (by first | (with_reducible assumption) | assumption)
                obtain ⟨ad144, e144, hx144_0⟩ := Kd.at_int HR0.out x5_1 p144 q144
                cases e144
                replace p144 := eq_true p144
                replace q144 := eq_true q144
                have p145 : 0 ≤ (x5_1 : Int) := of_decide_eq_true (by first | (with_reducible assumption) | assumption)
                have q145 : x5_1 < (l1.length : Int) := of_decide_eq_true (by first | (with_reducible assumption) | assumption)
                obtain ⟨ad145, e145, hx145_0⟩ := Kd.at_int HR1.out x5_1 p145 q145
                cases e145
                replace p145 := eq_true p145
                replace q145 := eq_true q145
                go_wp2
                repeat (go_quiet (fail); try go_wp2)
                go_ret
                exact ⟨by first | rfl | (simp; done) | (simp [*]; done), by repeat (first | exact Drawn0.refl _ | apply Drawn0.step)⟩
            · rw [if_neg c6] at H
              exact absurd H (by simp)
          · rw [if_neg c5] at H
            exact absurd H (by simp)
        · rw [if_neg c4] at H
          have c4b0 : decide (x5_1 < (l0.length : Int)) = false := decide_eq_false c4
          clear c4
          obtain rfl := Option.some.inj H
          go_wp2
          repeat (go_quiet (fail); try go_wp2)
          go_ret
          exact ⟨by first | rfl | (simp; done) | (simp [*]; done), by repeat (first | exact Drawn0.refl _ | apply Drawn0.step)⟩
  · rw [if_neg c3] at H
    have c3b0 : ((l0.length : Int) == (l1.length : Int)) = false := beq_eq_false_iff_ne.mpr c3
    have c3b1 : ((l0.length : Int) != (l1.length : Int)) = true := bne_iff_ne.mpr c3
    have c3b2 : (l0.length == l1.length) = false := by first | simpa using c3 | (simp at c3 ⊢; omega)
    obtain rfl := Option.some.inj H
    go_enter Try.func24, Try.ntmps24
    go_wp2
    repeat (go_quiet (fail); try go_wp2)
    go_ret
    exact ⟨by first | rfl | (simp; done) | (simp [*]; done), by repeat (first | exact Drawn0.refl _ | apply Drawn0.step)⟩

/-! ### linhayref18_Same: function 12 -/
def linhayref18_Same.l0 : Nat → List (S40) → List (S40) → Int → Option (Bool)
  | 0, _, _, _ => none
  | k + 1, x0, x1, x5 => if x5 < (x0.length : Int) then (if 0 ≤ x5 then (if x5 < (x1.length : Int) then ((linhayref08_Same.f k ((rd_T40 x0 x5).f1) ((rd_T40 x1 x5).f1)).bind fun t148 => (if t148 = true then (if (((rd_T40 x0 x5).f0) != ((rd_T40 x1 x5).f0)) = true then (some false) else (linhayref18_Same.l0 k x0 x1 (wrap64 (x5 + 1)))) else (some false))) else (none)) else (none)) else (some true)
def linhayref18_Same.f (k : Nat) (l0 : List (S40)) (l1 : List (S40)) : Option (Bool) := if (l0.length : Int) = (l1.length : Int) then (linhayref18_Same.l0 k l0 l1 0) else (some false)
theorem linhayref18_Same.mono_l : ∀ k, (∀ y0 y1 y2, LeO (linhayref18_Same.l0 k y0 y1 y2) (linhayref18_Same.l0 (k + 1) y0 y1 y2))
  | 0 => fun _ _ _ r h => by simp [linhayref18_Same.l0] at h
  | k + 1 => by
    have ih0 := linhayref18_Same.mono_l k
    · intro y0 y1 y2
      unfold linhayref18_Same.l0
      repeat' first
      | (with_reducible exact ih0 _ _ _)
      | (with_reducible exact linhayref08_Same.mono _ _ _)
      | (with_reducible exact LeO.refl _)
      | (with_reducible exact LeO.none _)
      | (with_reducible refine LeO.ite ?_ ?_)
      | (with_reducible refine LeO.bind ?_ (fun _ => ?_))
      | exact ih0 _ _ _
      | exact linhayref08_Same.mono _ _ _
      | exact LeO.none _
      | refine LeO.ite ?_ ?_
      | refine LeO.bind ?_ (fun _ => ?_)
theorem linhayref18_Same.mono : ∀ a0 a1 k, LeO (linhayref18_Same.f k a0 a1) (linhayref18_Same.f (k + 1) a0 a1) := by
  intro a0 a1 k
  have ih0 := linhayref18_Same.mono_l k
  unfold linhayref18_Same.f
  repeat' first
      | (with_reducible exact ih0 _ _ _)
      | (with_reducible exact linhayref08_Same.mono _ _ _)
      | (with_reducible exact LeO.refl _)
      | (with_reducible exact LeO.none _)
      | (with_reducible refine LeO.ite ?_ ?_)
      | (with_reducible refine LeO.bind ?_ (fun _ => ?_))
      | exact ih0 _ _ _
      | exact linhayref08_Same.mono _ _ _
      | exact LeO.none _
      | refine LeO.ite ?_ ?_
      | refine LeO.bind ?_ (fun _ => ?_)
set_option maxHeartbeats 8000000 in
set_option maxRecDepth 100000 in
theorem linhayref18_Same.calls (k : Nat) (A0 : Option Addr) (c0 : Nat) (l0 : List (S40)) (A1 : Option Addr) (c1 : Nat) (l1 : List (S40)) (r : Bool) (w : World) (hr0 : Kd.C k40 w A0 l0.length l0) (hc0 : l0.length ≤ c0) (hr1 : Kd.C k40 w A1 l1.length l1) (hc1 : l1.length ≤ c1) (h : linhayref18_Same.f k l0 l1 = some r) :
    Calls Try.prog 12 #[.slice A0 l0.length c0, .slice A1 l1.length c1] w fun e w' => e = .returned (.bool r) ∧ Drawn0 w w' := by
  have HR0 := Aside0.mk hr0
  have HC0 := Aside0.mk hc0
  clear hr0 hc0
  have HR1 := Aside0.mk hr1
  have HC1 := Aside0.mk hc1
  clear hr1 hc1
  have H : (if (l0.length : Int) = (l1.length : Int) then (linhayref18_Same.l0 k l0 l1 0) else (some false)) = some r := h
  clear h
  by_cases c3 : (l0.length : Int) = (l1.length : Int)
  · rw [if_pos c3] at H
    have c3b0 : ((l0.length : Int) == (l1.length : Int)) = true := beq_iff_eq.mpr c3
    have c3b1 : ((l0.length : Int) != (l1.length : Int)) = false := bne_eq_false_iff_eq.mpr c3
    have c3b2 : (l0.length == l1.length) = true := by first | simpa using c3 | (simp at c3 ⊢; omega)
    clear c3
    have H' := Aside0.mk H
    clear H
    go_enter Try.func12, Try.ntmps12
    go_wp2
    repeat (go_quiet (fail); try go_wp2)
    go_loopg [5] k (fun kq v5 w' => ∃ (x5_1 : Int), v5 = .int .i64 x5_1 ∧ Aside0 (linhayref18_Same.l0 kq l0 l1 x5_1 = some r) ∧ Aside0 (kq ≤ k) ∧ Drawn0 w w')
    case atStart => exact ⟨(0), (by first | rfl | (simp; done) | (simp [*]; done)), H', ⟨Nat.le_refl _⟩, by repeat (first | exact Drawn0.refl _ | apply Drawn0.step)⟩
    case round =>
      clear H'
      try clear c1
      try clear p2
      try clear c3
      try clear c3b0
      try clear c3b1
      try clear c3b2
      obtain ⟨x5_1, rfl, HA, HK1, ⟨m1, rfl⟩⟩ := hrel
      cases gk with
      | zero => exact absurd HA.out (by simp [linhayref18_Same.l0])
      | succ k1 =>
        have H := HA.out
        clear HA
        simp only [linhayref18_Same.l0] at H
        by_cases c4 : x5_1 < (l0.length : Int)
        · rw [if_pos c4] at H
          have c4b0 : decide (x5_1 < (l0.length : Int)) = true := decide_eq_true c4
          clear c4
          by_cases c5 : 0 ≤ x5_1
          · rw [if_pos c5] at H
            have c5b0 : decide (0 ≤ x5_1) = true := decide_eq_true c5
            clear c5
            by_cases c6 : x5_1 < (l1.length : Int)
            · rw [if_pos c6] at H
              have c6b0 : decide (x5_1 < (l1.length : Int)) = true := decide_eq_true c6
              clear c6
              replace H := Option.bind_eq_some_iff.mp H
              obtain ⟨t148, A70, H⟩ := H
              replace H : (if t148 = true then (if (((rd_T40 l0 x5_1).f0) != ((rd_T40 l1 x5_1).f0)) = true then (some false) else (linhayref18_Same.l0 k1 l0 l1 (wrap64 (x5_1 + 1)))) else (some false)) = some r := H
              have A7 := Aside0.mk A70
              clear A70
              by_cases c8 : t148 = true
              · subst c8
                have H1 : (if (((rd_T40 l0 x5_1).f0) != ((rd_T40 l1 x5_1).f0)) = true then (some false) else (linhayref18_Same.l0 k1 l0 l1 (wrap64 (x5_1 + 1)))) = some r := by rw [if_pos rfl] at H; exact H
                clear H
                have H := H1
                clear H1
                by_cases c9 : (((rd_T40 l0 x5_1).f0) != ((rd_T40 l1 x5_1).f0)) = true
                · rw [if_pos c9] at H
                  have c9b0 : (((rd_T40 l0 x5_1).f0) != ((rd_T40 l1 x5_1).f0)) = true := c9
                  (try (have c9b1 : decide (((rd_T40 l0 x5_1).f0) = ((rd_T40 l1 x5_1).f0)) = false := by simpa using c9))
                  (try (have c9b2 : (((rd_T40 l0 x5_1).f0) == ((rd_T40 l1 x5_1).f0)) = false := by simpa using c9))
                  (try (have c9b3 : ¬ (((rd_T40 l0 x5_1).f0) = ((rd_T40 l1 x5_1).f0)) := by simpa using c9))
                  clear c9
                  obtain rfl := Option.some.inj H
                  have p146 : 0 ≤ (x5_1 : Int) := of_decide_eq_true (by first | (with_reducible assumption) | assumption)
                  have q146 : x5_1 < (l0.length : Int) := of_decide_eq_true (by first | (with_reducible assumption) | assumption)
                  obtain ⟨ad146, A146_1, c146_1, e146, hx146_0, hx146_1, hl146_1, hi146_1⟩ := at_T40 HR0.out x5_1 p146 q146
                  cases e146
                  have HR146_1 := Aside0.mk hi146_1
                  have HC146_1 := Aside0.mk hl146_1
                  clear hi146_1 hl146_1
                  replace p146 := eq_true p146
                  replace q146 := eq_true q146
                  have p147 : 0 ≤ (x5_1 : Int) := of_decide_eq_true (by first | (with_reducible assumption) | assumption)
                  have q147 : x5_1 < (l1.length : Int) := of_decide_eq_true (by first | (with_reducible assumption) | assumption)
                  obtain ⟨ad147, A147_1, c147_1, e147, hx147_0, hx147_1, hl147_1, hi147_1⟩ := at_T40 HR1.out x5_1 p147 q147
                  cases e147
                  have HR147_1 := Aside0.mk hi147_1
                  have HC147_1 := Aside0.mk hl147_1
                  clear hi147_1 hl147_1
                  replace p147 := eq_true p147
                  replace q147 := eq_true q147
                  go_wp2_with (first | (go_at_call 24; (with_reducible refine (linhayref08_Same.calls k1 _ _ ((rd_T40 l0 x5_1).f1) _ _ ((rd_T40 l1 x5_1).f1) true _ ?side1 ?side2 ?side3 ?side4 A7.out).mono ?_); (case side1 => repeat (first | exact HR146_1.out | (with_reducible refine Kd.C_alloc ?_ _) | (with_reducible refine Kd.C_drewN ?_ _) | (with_reducible refine Kd.C_drew ?_))); (case side2 => exact HC146_1.out); (case side3 => repeat (first | exact HR147_1.out | (with_reducible refine Kd.C_alloc ?_ _) | (with_reducible refine Kd.C_drewN ?_ _) | (with_reducible refine Kd.C_drew ?_))); (case side4 => exact HC147_1.out); rintro e w' ⟨rfl, ⟨nd, rfl⟩⟩; (try first | exact ⟨rfl, _, World.drewN_drewN _ _ _⟩ | exact ⟨rfl, _, Eq.trans (World.drewN_drewN _ _ _) (congrArg (World.drewN _) (Nat.add_assoc _ _ _))⟩); have p149 : 0 ≤ (x5_1 : Int) := of_decide_eq_true (by first | (with_reducible assumption) | assumption); have q149 : x5_1 < (l0.length : Int) := of_decide_eq_true (by first | (with_reducible assumption) | assumption); obtain ⟨ad149, A149_1, c149_1, e149, hx149_0, hx149_1, hl149_1, hi149_1⟩ := at_T40 HR0.out x5_1 p149 q149; obtain rfl : ad146 = ad149 := (by injection e149); have HR149_1 := Aside0.mk hi149_1; have HC149_1 := Aside0.mk hl149_1; clear hi149_1 hl149_1; replace p149 := eq_true p149; replace q149 := eq_true q149; have ea_ := Option.some.inj (hx146_1.symm.trans hx149_1); injection ea_ with ea_ en_ ec_; subst ea_; subst ec_; clear en_; have p150 : 0 ≤ (x5_1 : Int) := of_decide_eq_true (by first | (with_reducible assumption) | assumption); have q150 : x5_1 < (l1.length : Int) := of_decide_eq_true (by first | (with_reducible assumption) | assumption); obtain ⟨ad150, A150_1, c150_1, e150, hx150_0, hx150_1, hl150_1, hi150_1⟩ := at_T40 HR1.out x5_1 p150 q150; obtain rfl : ad147 = ad150 := (by injection e150); have HR150_1 := Aside0.mk hi150_1; have HC150_1 := Aside0.mk hl150_1; clear hi150_1 hl150_1; replace p150 := eq_true p150; replace q150 := eq_true q150; have ea_ := Option.some.inj (hx147_1.symm.trans hx150_1); injection ea_ with ea_ en_ ec_; subst ea_; subst ec_; clear en_))
                  repeat (go_quiet (first | (go_at_call 24; (with_reducible refine (linhayref08_Same.calls k1 _ _ ((rd_T40 l0 x5_1).f1) _ _ ((rd_T40 l1 x5_1).f1) true _ ?side1 ?side2 ?side3 ?side4 A7.out).mono ?_); (case side1 => repeat (first | exact HR146_1.out | (with_reducible refine Kd.C_alloc ?_ _) | (with_reducible refine Kd.C_drewN ?_ _) | (with_reducible refine Kd.C_drew ?_))); (case side2 => exact HC146_1.out); (case side3 => repeat (first | exact HR147_1.out | (with_reducible refine Kd.C_alloc ?_ _) | (with_reducible refine Kd.C_drewN ?_ _) | (with_reducible refine Kd.C_drew ?_))); (case side4 => exact HC147_1.out); rintro e w' ⟨rfl, ⟨nd, rfl⟩⟩; (try first | exact ⟨rfl, _, World.drewN_drewN _ _ _⟩ | exact ⟨rfl, _, Eq.trans (World.drewN_drewN _ _ _) (congrArg (World.drewN _) (Nat.add_assoc _ _ _))⟩); have p149 : 0 ≤ (x5_1 : Int) := of_decide_eq_true (by first | (with_reducible assumption) | assumption); have q149 : x5_1 < (l0.length : Int) := of_decide_eq_true (by first | (with_reducible assumption) | assumption); obtain ⟨ad149, A149_1, c149_1, e149, hx149_0, hx149_1, hl149_1, hi149_1⟩ := at_T40 HR0.out x5_1 p149 q149; obtain rfl : ad146 = ad149 := (by injection e149); have HR149_1 := Aside0.mk hi149_1; have HC149_1 := Aside0.mk hl149_1; clear hi149_1 hl149_1; replace p149 := eq_true p149; replace q149 := eq_true q149; have ea_ := Option.some.inj (hx146_1.symm.trans hx149_1); injection ea_ with ea_ en_ ec_; subst ea_; subst ec_; clear en_; have p150 : 0 ≤ (x5_1 : Int) := of_decide_eq_true (by first | (with_reducible assumption) | assumption); have q150 : x5_1 < (l1.length : Int) := of_decide_eq_true (by first | (with_reducible assumption) | assumption); obtain ⟨ad150, A150_1, c150_1, e150, hx150_0, hx150_1, hl150_1, hi150_1⟩ := at_T40 HR1.out x5_1 p150 q150; obtain rfl : ad147 = ad150 := (by injection e150); have HR150_1 := Aside0.mk hi150_1; have HC150_1 := Aside0.mk hl150_1; clear hi150_1 hl150_1; replace p150 := eq_true p150; replace q150 := eq_true q150; have ea_ := Option.some.inj (hx147_1.symm.trans hx150_1); injection ea_ with ea_ en_ ec_; subst ea_; subst ec_; clear en_)); try go_wp2_with (first | (go_at_call 24; (with_reducible refine (linhayref08_Same.calls k1 _ _ ((rd_T40 l0 x5_1).f1) _ _ ((rd_T40 l1 x5_1).f1) true _ ?side1 ?side2 ?side3 ?side4 A7.out).mono ?_); (case side1 => repeat (first | exact HR146_1.out | (with_reducible refine Kd.C_alloc ?_ _) | (with_reducible refine Kd.C_drewN ?_ _) | (with_reducible refine Kd.C_drew ?_))); (case side2 => exact HC146_1.out); (case side3 => repeat (first | exact HR147_1.out | (with_reducible refine Kd.C_alloc ?_ _) | (with_reducible refine Kd.C_drewN ?_ _) | (with_reducible refine Kd.C_drew ?_))); (case side4 => exact HC147_1.out); rintro e w' ⟨rfl, ⟨nd, rfl⟩⟩; (try first | exact ⟨rfl, _, World.drewN_drewN _ _ _⟩ | exact ⟨rfl, _, Eq.trans (World.drewN_drewN _ _ _) (congrArg (World.drewN _) (Nat.add_assoc _ _ _))⟩); have p149 : 0 ≤ (x5_1 : Int) := of_decide_eq_true (by first | (with_reducible assumption) | assumption); have q149 : x5_1 < (l0.length : Int) := of_decide_eq_true (by first | (with_reducible assumption) | assumption); obtain ⟨ad149, A149_1, c149_1, e149, hx149_0, hx149_1, hl149_1, hi149_1⟩ := at_T40 HR0.out x5_1 p149 q149; obtain rfl : ad146 = ad149 := (by injection e149); have HR149_1 := Aside0.mk hi149_1; have HC149_1 := Aside0.mk hl149_1; clear hi149_1 hl149_1; replace p149 := eq_true p149; replace q149 := eq_true q149; have ea_ := Option.some.inj (hx146_1.symm.trans hx149_1); injection ea_ with ea_ en_ ec_; subst ea_; subst ec_; clear en_; have p150 : 0 ≤ (x5_1 : Int) := of_decide_eq_true (by first | (with_reducible assumption) | assumption); have q150 : x5_1 < (l1.length : Int) := of_decide_eq_true (by first | (with_reducible assumption) | assumption); obtain ⟨ad150, A150_1, c150_1, e150, hx150_0, hx150_1, hl150_1, hi150_1⟩ := at_T40 HR1.out x5_1 p150 q150; obtain rfl : ad147 = ad150 := (by injection e150); have HR150_1 := Aside0.mk hi150_1; have HC150_1 := Aside0.mk hl150_1; clear hi150_1 hl150_1; replace p150 := eq_true p150; replace q150 := eq_true q150; have ea_ := Option.some.inj (hx147_1.symm.trans hx150_1); injection ea_ with ea_ en_ ec_; subst ea_; subst ec_; clear en_)))
                  go_ret
                  exact ⟨by first | rfl | (simp; done) | (simp [*]; done), by repeat (first | exact Drawn0.refl _ | apply Drawn0.step)⟩
                · rw [if_neg c9] at H
                  have c9b0 : (((rd_T40 l0 x5_1).f0) != ((rd_T40 l1 x5_1).f0)) = false := by simpa using c9
                  (try (have c9b1 : decide (((rd_T40 l0 x5_1).f0) = ((rd_T40 l1 x5_1).f0)) = true := by simpa using c9))
                  (try (have c9b2 : (((rd_T40 l0 x5_1).f0) == ((rd_T40 l1 x5_1).f0)) = true := by simpa using c9))
                  clear c9
                  have H' := Aside0.mk H
                  clear H
                  have p146 : 0 ≤ (x5_1 : Int) := of_decide_eq_true (by first | (with_reducible assumption) | assumption)
                  have q146 : x5_1 < (l0.length : Int) := of_decide_eq_true (by first | (with_reducible assumption) | assumption)
                  obtain ⟨ad146, A146_1, c146_1, e146, hx146_0, hx146_1, hl146_1, hi146_1⟩ := at_T40 HR0.out x5_1 p146 q146
                  cases e146
                  have HR146_1 := Aside0.mk hi146_1
                  have HC146_1 := Aside0.mk hl146_1
                  clear hi146_1 hl146_1
                  replace p146 := eq_true p146
                  replace q146 := eq_true q146
                  have p147 : 0 ≤ (x5_1 : Int) := of_decide_eq_true (by first | (with_reducible assumption) | assumption)
                  have q147 : x5_1 < (l1.length : Int) := of_decide_eq_true (by first | (with_reducible assumption) | assumption)
                  obtain ⟨ad147, A147_1, c147_1, e147, hx147_0, hx147_1, hl147_1, hi147_1⟩ := at_T40 HR1.out x5_1 p147 q147
                  cases e147
                  have HR147_1 := Aside0.mk hi147_1
                  have HC147_1 := Aside0.mk hl147_1
                  clear hi147_1 hl147_1
                  replace p147 := eq_true p147
                  replace q147 := eq_true q147
                  go_wp2_with (first | (go_at_call 24; (with_reducible refine (linhayref08_Same.calls k1 _ _ ((rd_T40 l0 x5_1).f1) _ _ ((rd_T40 l1 x5_1).f1) true _ ?side1 ?side2 ?side3 ?side4 A7.out).mono ?_); (case side1 => repeat (first | exact HR146_1.out | (with_reducible refine Kd.C_alloc ?_ _) | (with_reducible refine Kd.C_drewN ?_ _) | (with_reducible refine Kd.C_drew ?_))); (case side2 => exact HC146_1.out); (case side3 => repeat (first | exact HR147_1.out | (with_reducible refine Kd.C_alloc ?_ _) | (with_reducible refine Kd.C_drewN ?_ _) | (with_reducible refine Kd.C_drew ?_))); (case side4 => exact HC147_1.out); rintro e w' ⟨rfl, ⟨nd, rfl⟩⟩; (try first | exact ⟨rfl, _, World.drewN_drewN _ _ _⟩ | exact ⟨rfl, _, Eq.trans (World.drewN_drewN _ _ _) (congrArg (World.drewN _) (Nat.add_assoc _ _ _))⟩); have p149 : 0 ≤ (x5_1 : Int) := of_decide_eq_true (by first | (with_reducible assumption) | assumption); have q149 : x5_1 < (l0.length : Int) := of_decide_eq_true (by first | (with_reducible assumption) | assumption); obtain ⟨ad149, A149_1, c149_1, e149, hx149_0, hx149_1, hl149_1, hi149_1⟩ := at_T40 HR0.out x5_1 p149 q149; obtain rfl : ad146 = ad149 := (by injection e149); have HR149_1 := Aside0.mk hi149_1; have HC149_1 := Aside0.mk hl149_1; clear hi149_1 hl149_1; replace p149 := eq_true p149; replace q149 := eq_true q149; have ea_ := Option.some.inj (hx146_1.symm.trans hx149_1); injection ea_ with ea_ en_ ec_; subst ea_; subst ec_; clear en_; have p150 : 0 ≤ (x5_1 : Int) := of_decide_eq_true (by first | (with_reducible assumption) | assumption); have q150 : x5_1 < (l1.length : Int) := of_decide_eq_true (by first | (with_reducible assumption) | assumption); obtain ⟨ad150, A150_1, c150_1, e150, hx150_0, hx150_1, hl150_1, hi150_1⟩ := at_T40 HR1.out x5_1 p150 q150; obtain rfl : ad147 = ad150 := (by injection e150); have HR150_1 := Aside0.mk hi150_1; have HC150_1 := Aside0.mk hl150_1; clear hi150_1 hl150_1; replace p150 := eq_true p150; replace q150 := eq_true q150; have ea_ := Option.some.inj (hx147_1.symm.trans hx150_1); injection ea_ with ea_ en_ ec_; subst ea_; subst ec_; clear en_))
                  repeat (go_quiet (first | (go_at_call 24; (with_reducible refine (linhayref08_Same.calls k1 _ _ ((rd_T40 l0 x5_1).f1) _ _ ((rd_T40 l1 x5_1).f1) true _ ?side1 ?side2 ?side3 ?side4 A7.out).mono ?_); (case side1 => repeat (first | exact HR146_1.out | (with_reducible refine Kd.C_alloc ?_ _) | (with_reducible refine Kd.C_drewN ?_ _) | (with_reducible refine Kd.C_drew ?_))); (case side2 => exact HC146_1.out); (case side3 => repeat (first | exact HR147_1.out | (with_reducible refine Kd.C_alloc ?_ _) | (with_reducible refine Kd.C_drewN ?_ _) | (with_reducible refine Kd.C_drew ?_))); (case side4 => exact HC147_1.out); rintro e w' ⟨rfl, ⟨nd, rfl⟩⟩; (try first | exact ⟨rfl, _, World.drewN_drewN _ _ _⟩ | exact ⟨rfl, _, Eq.trans (World.drewN_drewN _ _ _) (congrArg (World.drewN _) (Nat.add_assoc _ _ _))⟩); have p149 : 0 ≤ (x5_1 : Int) := of_decide_eq_true (by first | (with_reducible assumption) | assumption); have q149 : x5_1 < (l0.length : Int) := of_decide_eq_true (by first | (with_reducible assumption) | assumption); obtain ⟨ad149, A149_1, c149_1, e149, hx149_0, hx149_1, hl149_1, hi149_1⟩ := at_T40 HR0.out x5_1 p149 q149; obtain rfl : ad146 = ad149 := (by injection e149); have HR149_1 := Aside0.mk hi149_1; have HC149_1 := Aside0.mk hl149_1; clear hi149_1 hl149_1; replace p149 := eq_true p149; replace q149 := eq_true q149; have ea_ := Option.some.inj (hx146_1.symm.trans hx149_1); injection ea_ with ea_ en_ ec_; subst ea_; subst ec_; clear en_; have p150 : 0 ≤ (x5_1 : Int) := of_decide_eq_true (by first | (with_reducible assumption) | assumption); have q150 : x5_1 < (l1.length : Int) := of_decide_eq_true (by first | (with_reducible assumption) | assumption); obtain ⟨ad150, A150_1, c150_1, e150, hx150_0, hx150_1, hl150_1, hi150_1⟩ := at_T40 HR1.out x5_1 p150 q150; obtain rfl : ad147 = ad150 := (by injection e150); have HR150_1 := Aside0.mk hi150_1; have HC150_1 := Aside0.mk hl150_1; clear hi150_1 hl150_1; replace p150 := eq_true p150; replace q150 := eq_true q150; have ea_ := Option.some.inj (hx147_1.symm.trans hx150_1); injection ea_ with ea_ en_ ec_; subst ea_; subst ec_; clear en_)); try go_wp2_with (first | (go_at_call 24; (with_reducible refine (linhayref08_Same.calls k1 _ _ ((rd_T40 l0 x5_1).f1) _ _ ((rd_T40 l1 x5_1).f1) true _ ?side1 ?side2 ?side3 ?side4 A7.out).mono ?_); (case side1 => repeat (first | exact HR146_1.out | (with_reducible refine Kd.C_alloc ?_ _) | (with_reducible refine Kd.C_drewN ?_ _) | (with_reducible refine Kd.C_drew ?_))); (case side2 => exact HC146_1.out); (case side3 => repeat (first | exact HR147_1.out | (with_reducible refine Kd.C_alloc ?_ _) | (with_reducible refine Kd.C_drewN ?_ _) | (with_reducible refine Kd.C_drew ?_))); (case side4 => exact HC147_1.out); rintro e w' ⟨rfl, ⟨nd, rfl⟩⟩; (try first | exact ⟨rfl, _, World.drewN_drewN _ _ _⟩ | exact ⟨rfl, _, Eq.trans (World.drewN_drewN _ _ _) (congrArg (World.drewN _) (Nat.add_assoc _ _ _))⟩); have p149 : 0 ≤ (x5_1 : Int) := of_decide_eq_true (by first | (with_reducible assumption) | assumption); have q149 : x5_1 < (l0.length : Int) := of_decide_eq_true (by first | (with_reducible assumption) | assumption); obtain ⟨ad149, A149_1, c149_1, e149, hx149_0, hx149_1, hl149_1, hi149_1⟩ := at_T40 HR0.out x5_1 p149 q149; obtain rfl : ad146 = ad149 := (by injection e149); have HR149_1 := Aside0.mk hi149_1; have HC149_1 := Aside0.mk hl149_1; clear hi149_1 hl149_1; replace p149 := eq_true p149; replace q149 := eq_true q149; have ea_ := Option.some.inj (hx146_1.symm.trans hx149_1); injection ea_ with ea_ en_ ec_; subst ea_; subst ec_; clear en_; have p150 : 0 ≤ (x5_1 : Int) := of_decide_eq_true (by first | (with_reducible assumption) | assumption); have q150 : x5_1 < (l1.length : Int) := of_decide_eq_true (by first | (with_reducible assumption) | assumption); obtain ⟨ad150, A150_1, c150_1, e150, hx150_0, hx150_1, hl150_1, hi150_1⟩ := at_T40 HR1.out x5_1 p150 q150; obtain rfl : ad147 = ad150 := (by injection e150); have HR150_1 := Aside0.mk hi150_1; have HC150_1 := Aside0.mk hl150_1; clear hi150_1 hl150_1; replace p150 := eq_true p150; replace q150 := eq_true q150; have ea_ := Option.some.inj (hx147_1.symm.trans hx150_1); injection ea_ with ea_ en_ ec_; subst ea_; subst ec_; clear en_)))
                  go_roundg k1
                  case measure => have := HK1.out; omega
                  case rel => exact ⟨(wrap64 (x5_1 + 1)), (by first | rfl | (simp; done) | (simp [*]; done)), H', ⟨by have := HK1.out; omega⟩, by repeat (first | exact Drawn0.refl _ | apply Drawn0.step)⟩
              · replace c8 := Bool.eq_false_iff.mpr c8
                subst c8
                have H1 : (some false) = some r := by rw [if_neg (show ¬ (false = true) by decide)] at H; exact H
                clear H
                have H := H1
                clear H1
                obtain rfl := Option.some.inj H
                have p146 : 0 ≤ (x5_1 : Int) := of_decide_eq_true (by first | (with_reducible assumption) | assumption)
                have q146 : x5_1 < (l0.length : Int) := of_decide_eq_true (by first | (with_reducible assumption) | assumption)
                obtain ⟨ad146, A146_1, c146_1, e146, hx146_0, hx146_1, hl146_1, hi146_1⟩ := at_T40 HR0.out x5_1 p146 q146
                cases e146
                have HR146_1 := Aside0.mk hi146_1
                have HC146_1 := Aside0.mk hl146_1
                clear hi146_1 hl146_1
                replace p146 := eq_true p146
                replace q146 := eq_true q146
                have p147 : 0 ≤ (x5_1 : Int) := of_decide_eq_true (by first | (with_reducible assumption) | assumption)
                have q147 : x5_1 < (l1.length : Int) := of_decide_eq_true (by first | (with_reducible assumption) | assumption)
                obtain ⟨ad147, A147_1, c147_1, e147, hx147_0, hx147_1, hl147_1, hi147_1⟩ := at_T40 HR1.out x5_1 p147 q147
                cases e147
                have HR147_1 := Aside0.mk hi147_1
                have HC147_1 := Aside0.mk hl147_1
                clear hi147_1 hl147_1
                replace p147 := eq_true p147
                replace q147 := eq_true q147
                go_wp2_with (first | (go_at_call 24; (with_reducible refine (linhayref08_Same.calls k1 _ _ ((rd_T40 l0 x5_1).f1) _ _ ((rd_T40 l1 x5_1).f1) false _ ?side1 ?side2 ?side3 ?side4 A7.out).mono ?_); (case side1 => repeat (first | exact HR146_1.out | (with_reducible refine Kd.C_alloc ?_ _) | (with_reducible refine Kd.C_drewN ?_ _) | (with_reducible refine Kd.C_drew ?_))); (case side2 => exact HC146_1.out); (case side3 => repeat (first | exact HR147_1.out | (with_reducible refine Kd.C_alloc ?_ _) | (with_reducible refine Kd.C_drewN ?_ _) | (with_reducible refine Kd.C_drew ?_))); (case side4 => exact HC147_1.out); rintro e w' ⟨rfl, ⟨nd, rfl⟩⟩; (try first | exact ⟨rfl, _, World.drewN_drewN _ _ _⟩ | exact ⟨rfl, _, Eq.trans (World.drewN_drewN _ _ _) (congrArg (World.drewN _) (Nat.add_assoc _ _ _))⟩)))
                repeat (go_quiet (first | (go_at_call 24; (with_reducible refine (linhayref08_Same.calls k1 _ _ ((rd_T40 l0 x5_1).f1) _ _ ((rd_T40 l1 x5_1).f1) false _ ?side1 ?side2 ?side3 ?side4 A7.out).mono ?_); (case side1 => repeat (first | exact HR146_1.out | (with_reducible refine Kd.C_alloc ?_ _) | (with_reducible refine Kd.C_drewN ?_ _) | (with_reducible refine Kd.C_drew ?_))); (case side2 => exact HC146_1.out); (case side3 => repeat (first | exact HR147_1.out | (with_reducible refine Kd.C_alloc ?_ _) | (with_reducible refine Kd.C_drewN ?_ _) | (with_reducible refine Kd.C_drew ?_))); (case side4 => exact HC147_1.out); rintro e w' ⟨rfl, ⟨nd, rfl⟩⟩; (try first | exact ⟨rfl, _, World.drewN_drewN _ _ _⟩ | exact ⟨rfl, _, Eq.trans (World.drewN_drewN _ _ _) (congrArg (World.drewN _) (Nat.add_assoc _ _ _))⟩))); try go_wp2_with (first | (go_at_call 24; (with_reducible refine (linhayref08_Same.calls k1 _ _ ((rd_T40 l0 x5_1).f1) _ _ ((rd_T40 l1 x5_1).f1) false _ ?side1 ?side2 ?side3 ?side4 A7.out).mono ?_); (case side1 => repeat (first | exact HR146_1.out | (with_reducible refine Kd.C_alloc ?_ _) | (with_reducible refine Kd.C_drewN ?_ _) | (with_reducible refine Kd.C_drew ?_))); (case side2 => exact HC146_1.out); (case side3 => repeat (first | exact HR147_1.out | (with_reducible refine Kd.C_alloc ?_ _) | (with_reducible refine Kd.C_drewN ?_ _) | (with_reducible refine Kd.C_drew ?_))); (case side4 => exact HC147_1.out); rintro e w' ⟨rfl, ⟨nd, rfl⟩⟩; (try first | exact ⟨rfl, _, World.drewN_drewN _ _ _⟩ | exact ⟨rfl, _, Eq.trans (World.drewN_drewN _ _ _) (congrArg (World.drewN _) (Nat.add_assoc _ _ _))⟩))))
                go_ret
                exact ⟨by first | rfl | (simp; done) | (simp [*]; done), by repeat (first | exact Drawn0.refl _ | apply Drawn0.step)⟩
            · rw [if_neg c6] at H
              exact absurd H (by simp)
          · rw [if_neg c5] at H
            exact absurd H (by simp)
        · rw [if_neg c4] at H
          have c4b0 : decide (x5_1 < (l0.length : Int)) = false := decide_eq_false c4
          clear c4
          obtain rfl := Option.some.inj H
          go_wp2
          repeat (go_quiet (fail); try go_wp2)
          go_ret
          exact ⟨by first | rfl | (simp; done) | (simp [*]; done), by repeat (first | exact Drawn0.refl _ | apply Drawn0.step)⟩
  · rw [if_neg c3] at H
    have c3b0 : ((l0.length : Int) == (l1.length : Int)) = false := beq_eq_false_iff_ne.mpr c3
    have c3b1 : ((l0.length : Int) != (l1.length : Int)) = true := bne_iff_ne.mpr c3
    have c3b2 : (l0.length == l1.length) = false := by first | simpa using c3 | (simp at c3 ⊢; omega)
    obtain rfl := Option.some.inj H
    go_enter Try.func12, Try.ntmps12
    go_wp2
    repeat (go_quiet (fail); try go_wp2)
    go_ret
    exact ⟨by first | rfl | (simp; done) | (simp [*]; done), by repeat (first | exact Drawn0.refl _ | apply Drawn0.step)⟩

/-! ### word_Plus: function 46 -/
theorem add64_zero (x y : Int) (hx : 0 ≤ x) (hy : 0 ≤ y) (w : World) : (callFunc 54 #[.int .u64 x, .int .u64 y, .int .u64 0]).run Try.prog w =
    .ok (.value (.tuple #[.int .u64 ((x + y) % 18446744073709551616), .int .u64 ((x + y) / 18446744073709551616)])) w := by
  rw [run_callFunc_extern Try.func54 (by kernel_rfl) (by kernel_rfl) (by kernel_rfl) (e := add64Entry) (by kernel_rfl), run_add64 x y 0 hx hy (Int.le_refl 0) (by decide)]
  simp only [Result.andThen, Int.add_zero]
def word_Plus.f (a0 a1 : Int) : Option (Int × Int) := if 0 ≤ a0 then (if 0 ≤ a1 then (if a0 + a1 < 18446744073709551616 then some (a0 + a1, 0) else some (0, 10)) else none) else none
set_option maxHeartbeats 1000000 in
theorem word_Plus.calls (a0 : Int) (a1 : Int) (r1 : Int) (r2 : Int) (w : World) (h : word_Plus.f a0 a1 = some (r1, r2)) :
    Calls Try.prog 46 #[.int .u64 a0, .int .u64 a1] w fun e w' => e = .returned (.tuple #[.int .u64 r1, .int .i64 r2]) ∧ Drawn0 w w' := by
  unfold word_Plus.f at h
  by_cases h0 : 0 ≤ a0
  · by_cases h1 : 0 ≤ a1
    · rw [if_pos h0, if_pos h1] at h
      by_cases hc : a0 + a1 < 18446744073709551616
      · rw [if_pos hc] at h
        simp only [Option.some.injEq, Prod.mk.injEq] at h
        obtain ⟨rfl, rfl⟩ := h
        have e1 : (a0 + a1) % 18446744073709551616 = a0 + a1 := by omega
        have e2 : (a0 + a1) / 18446744073709551616 = 0 := by omega
        have hz := add64_zero a0 a1 h0 h1
        rw [e1, e2] at hz
        clear e1 e2 hc
        go_enter Try.func46, Try.ntmps46
        go_wp2_with (first | simp only [hz])
        go_ret2
        exact ⟨rfl, Drawn0.refl _⟩
      · rw [if_neg hc] at h
        simp only [Option.some.injEq, Prod.mk.injEq] at h
        obtain ⟨rfl, rfl⟩ := h
        have hz := add64_zero a0 a1 h0 h1
        have e2 : 0 < (a0 + a1) / 18446744073709551616 := by omega
        obtain ⟨c, hc'⟩ : ∃ c, c = (a0 + a1) / 18446744073709551616 := ⟨_, rfl⟩
        rw [← hc'] at hz e2
        obtain ⟨s, hs'⟩ : ∃ s, s = (a0 + a1) % 18446744073709551616 := ⟨_, rfl⟩
        rw [← hs'] at hz
        clear hc hc' hs'
        go_enter Try.func46, Try.ntmps46
        go_wp2_with (first | simp only [hz])
        go_ret2
        exact ⟨rfl, Drawn0.refl _⟩
    · rw [if_pos h0, if_neg h1] at h; cases h
  · rw [if_neg h0] at h; cases h

/-! ### word_held_uint64: function 47 -/
def word_held_uint64.f (a0 : Int) (a1 : Int) (a2 : Bool) : Option (Int) := if a2 = true then (some a1) else (some a0)
set_option maxHeartbeats 8000000 in
set_option maxRecDepth 100000 in
theorem word_held_uint64.calls (a0 : Int) (a1 : Int) (a2 : Bool) (r : Int) (w : World) (h : word_held_uint64.f a0 a1 a2 = some r) :
    Calls Try.prog 47 #[.int .u64 a0, .int .u64 a1, .bool a2] w fun e w' => e = .returned (.int .u64 r) ∧ Drawn0 w w' := by
  have H : (if a2 = true then (some a1) else (some a0)) = some r := h
  clear h
  by_cases c4 : a2 = true
  · subst c4
    have H1 : (some a1) = some r := by rw [if_pos rfl] at H; exact H
    clear H
    have H := H1
    clear H1
    obtain rfl := Option.some.inj H
    go_enter Try.func47, Try.ntmps47
    go_wp2
    go_ret
    exact ⟨by first | rfl | (simp; done) | (simp [*]; done), by repeat (first | exact Drawn0.refl _ | apply Drawn0.step)⟩
  · replace c4 := Bool.eq_false_iff.mpr c4
    subst c4
    have H1 : (some a0) = some r := by rw [if_neg (show ¬ (false = true) by decide)] at H; exact H
    clear H
    have H := H1
    clear H1
    obtain rfl := Option.some.inj H
    go_enter Try.func47, Try.ntmps47
    go_wp2
    go_ret
    exact ⟨by first | rfl | (simp; done) | (simp [*]; done), by repeat (first | exact Drawn0.refl _ | apply Drawn0.step)⟩

/-! ### word_Add: function 25 -/
def word_Add.f (a0 : Int) (a1 : Int) : Option (Int) := (word_Plus.f a0 a1).bind fun bt151 => ((word_held_uint64.f bt151.1 18446744073709551615 (bt151.2 != 0)).bind fun t153 => (some t153))
set_option maxHeartbeats 8000000 in
set_option maxRecDepth 100000 in
theorem word_Add.calls (a0 : Int) (a1 : Int) (r : Int) (w : World) (h : word_Add.f a0 a1 = some r) :
    Calls Try.prog 25 #[.int .u64 a0, .int .u64 a1] w fun e w' => e = .returned (.int .u64 r) ∧ Drawn0 w w' := by
  have H : ((word_Plus.f a0 a1).bind fun bt151 => ((word_held_uint64.f bt151.1 18446744073709551615 (bt151.2 != 0)).bind fun t153 => (some t153))) = some r := h
  clear h
  replace H := Option.bind_eq_some_iff.mp H
  obtain ⟨⟨t151, t152⟩, A30, H⟩ := H
  replace H : ((word_held_uint64.f t151 18446744073709551615 (t152 != 0)).bind fun t153 => (some t153)) = some r := H
  have A3 := Aside0.mk A30
  clear A30
  replace H := Option.bind_eq_some_iff.mp H
  obtain ⟨t153, A40, H⟩ := H
  replace H : (some t153) = some r := H
  have A4 := Aside0.mk A40
  clear A40
  obtain rfl := Option.some.inj H
  go_enter Try.func25, Try.ntmps25
  go_wp2_with (first | ((with_reducible refine gate_callee (f := 46) rfl ?_); refine goesL_ (some 10) rfl rfl Try.func46 (by kernel_rfl) rfl #[.int .u64 a0, .int .u64 a1] rfl (by (try simp only [List.map_toArray, List.map_cons, List.map_nil]); first | done | rfl | (simp only [List.length_drop, List.length_take]; rfl)) ?_; (with_reducible refine (word_Plus.calls a0 a1 t151 t152 _ A3.out).mono ?_); rintro e w' ⟨rfl, ⟨nd, rfl⟩⟩; refine ⟨_, rfl, ?_⟩) | ((with_reducible refine gate_callee (f := 47) rfl ?_); refine goesL_ (some 16) rfl rfl Try.func47 (by kernel_rfl) rfl #[.int .u64 t151, .int .u64 18446744073709551615, .bool (t152 != 0)] rfl (by (try simp only [List.map_toArray, List.map_cons, List.map_nil]); first | done | rfl | (simp only [List.length_drop, List.length_take]; rfl)) ?_; (with_reducible refine (word_held_uint64.calls t151 18446744073709551615 (t152 != 0) t153 _ A4.out).mono ?_); rintro e w' ⟨rfl, ⟨nd, rfl⟩⟩; refine ⟨_, rfl, ?_⟩) | (go_at_call 46; (with_reducible refine (word_Plus.calls a0 a1 t151 t152 _ A3.out).mono ?_); rintro e w' ⟨rfl, ⟨nd, rfl⟩⟩) | (go_at_call 47; (with_reducible refine (word_held_uint64.calls t151 18446744073709551615 (t152 != 0) t153 _ A4.out).mono ?_); rintro e w' ⟨rfl, ⟨nd, rfl⟩⟩))
  go_ret
  exact ⟨by first | rfl | (simp; done) | (simp [*]; done), by repeat (first | exact Drawn0.refl _ | apply Drawn0.step)⟩

/-! ### word_Mul: function 26 -/
def word_Mul.f (a0 : Int) (a1 : Int) : Option (Int) := (word_Times.f a0 a1).bind fun bt154 => ((word_held_uint64.f bt154.1 18446744073709551615 (bt154.2 != 0)).bind fun t156 => (some t156))
set_option maxHeartbeats 8000000 in
set_option maxRecDepth 100000 in
theorem word_Mul.calls (a0 : Int) (a1 : Int) (r : Int) (w : World) (h : word_Mul.f a0 a1 = some r) :
    Calls Try.prog 26 #[.int .u64 a0, .int .u64 a1] w fun e w' => e = .returned (.int .u64 r) ∧ Drawn0 w w' := by
  have H : ((word_Times.f a0 a1).bind fun bt154 => ((word_held_uint64.f bt154.1 18446744073709551615 (bt154.2 != 0)).bind fun t156 => (some t156))) = some r := h
  clear h
  replace H := Option.bind_eq_some_iff.mp H
  obtain ⟨⟨t154, t155⟩, A30, H⟩ := H
  replace H : ((word_held_uint64.f t154 18446744073709551615 (t155 != 0)).bind fun t156 => (some t156)) = some r := H
  have A3 := Aside0.mk A30
  clear A30
  replace H := Option.bind_eq_some_iff.mp H
  obtain ⟨t156, A40, H⟩ := H
  replace H : (some t156) = some r := H
  have A4 := Aside0.mk A40
  clear A40
  obtain rfl := Option.some.inj H
  go_enter Try.func26, Try.ntmps26
  go_wp2_with (first | ((with_reducible refine gate_callee (f := 33) rfl ?_); refine goesL_ (some 10) rfl rfl Try.func33 (by kernel_rfl) rfl #[.int .u64 a0, .int .u64 a1] rfl (by (try simp only [List.map_toArray, List.map_cons, List.map_nil]); first | done | rfl | (simp only [List.length_drop, List.length_take]; rfl)) ?_; (with_reducible refine (word_Times.calls a0 a1 t154 t155 _ A3.out).mono ?_); rintro e w' ⟨rfl, ⟨nd, rfl⟩⟩; refine ⟨_, rfl, ?_⟩) | ((with_reducible refine gate_callee (f := 47) rfl ?_); refine goesL_ (some 16) rfl rfl Try.func47 (by kernel_rfl) rfl #[.int .u64 t154, .int .u64 18446744073709551615, .bool (t155 != 0)] rfl (by (try simp only [List.map_toArray, List.map_cons, List.map_nil]); first | done | rfl | (simp only [List.length_drop, List.length_take]; rfl)) ?_; (with_reducible refine (word_held_uint64.calls t154 18446744073709551615 (t155 != 0) t156 _ A4.out).mono ?_); rintro e w' ⟨rfl, ⟨nd, rfl⟩⟩; refine ⟨_, rfl, ?_⟩) | (go_at_call 33; (with_reducible refine (word_Times.calls a0 a1 t154 t155 _ A3.out).mono ?_); rintro e w' ⟨rfl, ⟨nd, rfl⟩⟩) | (go_at_call 47; (with_reducible refine (word_held_uint64.calls t154 18446744073709551615 (t155 != 0) t156 _ A4.out).mono ?_); rintro e w' ⟨rfl, ⟨nd, rfl⟩⟩))
  go_ret
  exact ⟨by first | rfl | (simp; done) | (simp [*]; done), by repeat (first | exact Drawn0.refl _ | apply Drawn0.step)⟩

end Go.Proofs.Ytmacngkgokibeaa.Print
