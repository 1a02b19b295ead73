/- Lean functions that answer what Go functions of the translation answer, and the proofs of it. Written by a program of this session (wip/tools/seatprint.py), over contracts that it proved by hand. Conditions: those that each theorem says. -/
import Derived.Test.YtmacngkgokibeaaPrint0
import Derived.Test.YtmacngkgokibeaaPrint3
namespace Go.Proofs.Ytmacngkgokibeaa.Print
open Go.RowKit Go.Proofs.YtmacngkgokibeaaW.PrintWords Go.Proofs.YtmacngkgokibeaaW.PrintLast Go.Proofs.YtmacngkgokibeaaW.PrintMore
attribute [local go_sem] max2_int min2_int max_two min_two max_three min_three max_four min_four   -- for this text's walks alone
set_option linter.unusedVariables false
set_option linter.unusedSimpArgs false

/-! ### gds_cache_least: function 40 -/
theorem gds_infoI : (Try.prog.info? 3).map (fun i => (i.zero, i.size, i.bytes)) = some (some (.int .i64 0), 1, 8) := by kernel_rfl
theorem gds_infoS : (Try.prog.info? 40).map (fun i => (i.zero, i.size, i.bytes)) = some (some (.agg #[(.bool false), (.slice none 0 0)]), 2, 32) := by kernel_rfl
def gcB (xs : List Bool) : Array Value := (xs.map Value.bool).toArray
def gcN (xs : List Int) : Array Value := (xs.map (Value.int .u64)).toArray
theorem gcB_get (xs : List Bool) (i : Nat) (h : i < xs.length) : (gcB xs)[i]? = some (.bool (xs.getD i false)) := by
  unfold gcB
  rw [List.getElem?_toArray, List.getElem?_map, List.getElem?_eq_getElem h, List.getD_eq_getElem?_getD, List.getElem?_eq_getElem h]; rfl
theorem gcN_get (xs : List Int) (i : Nat) (h : i < xs.length) : (gcN xs)[i]? = some (.int .u64 (xs.getD i 0)) := by
  unfold gcN
  rw [List.getElem?_toArray, List.getElem?_map, List.getElem?_eq_getElem h, List.getD_eq_getElem?_getD, List.getElem?_eq_getElem h]; rfl
theorem gcB_set (xs : List Bool) (i : Nat) (b : Bool) : (gcB xs).setIfInBounds i (.bool b) = gcB (xs.set i b) := by
  unfold gcB
  apply Array.toList_inj.1
  simp [List.map_set]
theorem gcN_set (xs : List Int) (i : Nat) (q : Int) : (gcN xs).setIfInBounds i (.int .u64 q) = gcN (xs.set i q) := by
  unfold gcN
  apply Array.toList_inj.1
  simp [List.map_set]
def gstep (ins : List Bool) (rk : List Int) (b : Int) (j : Nat) : Int := if ins.getD j false = true then (if b < 0 then (j : Int) else if rd rk j < rd rk b then (j : Int) else b) else b
def gto (ins : List Bool) (rk : List Int) : Nat → Int
  | 0 => -1
  | j + 1 => gstep ins rk (gto ins rk j) j
def gleast (ins : List Bool) (rk : List Int) : Int := gto ins rk ins.length
theorem gto_range (ins : List Bool) (rk : List Int) : ∀ j, -1 ≤ gto ins rk j ∧ gto ins rk j < j
  | 0 => by simp [gto]
  | j + 1 => by
    have := gto_range ins rk j
    unfold gto gstep
    (repeat split) <;> omega
theorem dr_heap {w w' : World} (h : Drawn0 w w') : w'.heap = w.heap := by obtain ⟨n, rfl⟩ := h; rfl
theorem dr_cell {w w' : World} (h : Drawn0 w w') (a : Addr) : w'.cell? a = w.cell? a := by unfold World.cell?; rw [dr_heap h]
theorem cf {W : World} {b j c k : Nat} {v : Value} (h : b ≠ c) : (W.setCell ⟨c, k, none⟩ v).cell? ⟨b, j, none⟩ = W.cell? ⟨b, j, none⟩ := by unfold World.cell?; rw [Below.heap_setCell W ⟨c, k, none⟩ v b h]
theorem cfd {W : World} {b j c k : Nat} {v : Value} (h : b ≠ c) : (W.setCell ⟨c, k, none⟩ v).drew.cell? ⟨b, j, none⟩ = W.cell? ⟨b, j, none⟩ := cf h
/-- A cache of gds in memory: its block, the row of who is in, the row of ranks; all of them made by the call. -/
def GC (w0 W : World) (g gi gr : Nat) (A0 A1 : Option Addr) (n0 n1 c0 c1 : Nat) (ins : List Bool) (rk : List Int) (lv tk most : Int) : Prop :=
  W.heap[g]? = some (.cells #[.slice A0 n0 c0, .slice A1 n1 c1, .slice (some ⟨gi, 0, none⟩) ins.length ins.length, .slice (some ⟨gr, 0, none⟩) rk.length rk.length, .int .u64 lv, .int .i64 tk, .int .i64 most] 53 (0, 0)) ∧
  W.heap[gi]? = some (.cells (gcB ins) 4 (0, 0)) ∧ W.heap[gr]? = some (.cells (gcN rk) 23 (0, 0)) ∧ (w0.heap.size ≤ g ∧ w0.heap.size ≤ gi ∧ w0.heap.size ≤ gr) ∧ Below w0.heap.size w0 W
/-- All but the blocks of one cache. -/
def Keep3 (g gi gr : Nat) (w w' : World) : Prop := w.heap.size ≤ w'.heap.size ∧ ∀ i, i < w.heap.size → i ≠ g → i ≠ gi → i ≠ gr → w'.heap[i]? = w.heap[i]?
section
variable {w0 W : World} {g gi gr : Nat} {A0 A1 : Option Addr} {n0 n1 c0 c1 : Nat} {ins : List Bool} {rk : List Int} {lv tk most : Int}
theorem GC.ne (h : GC w0 W g gi gr A0 A1 n0 n1 c0 c1 ins rk lv tk most) : g ≠ gi ∧ g ≠ gr ∧ gi ≠ gr := ⟨blk_ne h.1 h.2.1 (by decide), blk_ne h.1 h.2.2.1 (by decide), blk_ne h.2.1 h.2.2.1 (by decide)⟩
theorem GC.step (h : GC w0 W g gi gr A0 A1 n0 n1 c0 c1 ins rk lv tk most) {W1 : World} (hb : Below W.heap.size W W1) : GC w0 W1 g gi gr A0 A1 n0 n1 c0 c1 ins rk lv tk most := by
  obtain ⟨a, b, c, d, e⟩ := h
  exact ⟨(hb.block g (blk_lt a)).trans a, (hb.block gi (blk_lt b)).trans b, (hb.block gr (blk_lt c)).trans c, d, below_step e hb⟩
theorem GC.drewN (h : GC w0 W g gi gr A0 A1 n0 n1 c0 c1 ins rk lv tk most) (n : Nat) : GC w0 (W.drewN n) g gi gr A0 A1 n0 n1 c0 c1 ins rk lv tk most := h.step (pw_below_drewN (Below.refl _ _) n)
theorem GC.drew (h : GC w0 W g gi gr A0 A1 n0 n1 c0 c1 ins rk lv tk most) : GC w0 W.drew g gi gr A0 A1 n0 n1 c0 c1 ins rk lv tk most := h.step (below_drew (Below.refl _ _))
theorem GC.alloc (h : GC w0 W g gi gr A0 A1 n0 n1 c0 c1 ins rk lv tk most) (o : Obj) : GC w0 (W.alloc o) g gi gr A0 A1 n0 n1 c0 c1 ins rk lv tk most := h.step (below_alloc (Below.refl _ _) o)
theorem GC.setIn (h : GC w0 W g gi gr A0 A1 n0 n1 c0 c1 ins rk lv tk most) (k : Nat) (b : Bool) : GC w0 (W.setCell ⟨gi, k, none⟩ (.bool b)) g gi gr A0 A1 n0 n1 c0 c1 (ins.set k b) rk lv tk most := by
  obtain ⟨h1, h2, h3⟩ := h.ne
  obtain ⟨a, b_, c, d, e⟩ := h
  exact ⟨by rw [List.length_set]; exact blk_far a h1 _, by rw [← gcB_set]; exact blk_set b_ k _, blk_far c (fun x => h3 x.symm) _, d, below_set e d.2.1⟩
theorem GC.setRk (h : GC w0 W g gi gr A0 A1 n0 n1 c0 c1 ins rk lv tk most) (k : Nat) (v : Int) : GC w0 (W.setCell ⟨gr, k, none⟩ (.int .u64 v)) g gi gr A0 A1 n0 n1 c0 c1 ins (rk.set k v) lv tk most := by
  obtain ⟨h1, h2, h3⟩ := h.ne
  obtain ⟨a, b_, c, d, e⟩ := h
  exact ⟨by rw [List.length_set]; exact blk_far a h2 _, blk_far b_ h3 _, by rw [← gcN_set]; exact blk_set c k _, d, below_set e d.2.2⟩
theorem GC.setLv (h : GC w0 W g gi gr A0 A1 n0 n1 c0 c1 ins rk lv tk most) (v : Int) : GC w0 (W.setCell ⟨g, 4, none⟩ (.int .u64 v)) g gi gr A0 A1 n0 n1 c0 c1 ins rk v tk most := by
  obtain ⟨h1, h2, h3⟩ := h.ne
  obtain ⟨a, b_, c, d, e⟩ := h
  exact ⟨blk_set a 4 _, blk_far b_ (fun x => h1 x.symm) _, blk_far c (fun x => h2 x.symm) _, d, below_set e d.1⟩
theorem GC.setTk (h : GC w0 W g gi gr A0 A1 n0 n1 c0 c1 ins rk lv tk most) (v : Int) : GC w0 (W.setCell ⟨g, 5, none⟩ (.int .i64 v)) g gi gr A0 A1 n0 n1 c0 c1 ins rk lv v most := by
  obtain ⟨h1, h2, h3⟩ := h.ne
  obtain ⟨a, b_, c, d, e⟩ := h
  exact ⟨blk_set a 5 _, blk_far b_ (fun x => h1 x.symm) _, blk_far c (fun x => h2 x.symm) _, d, below_set e d.1⟩
theorem GC.far (h : GC w0 W g gi gr A0 A1 n0 n1 c0 c1 ins rk lv tk most) {p : Addr} (hp : w0.heap.size ≤ p.block) (h1 : g ≠ p.block) (h2 : gi ≠ p.block) (h3 : gr ≠ p.block) (v : Value) : GC w0 (W.setCell p v) g gi gr A0 A1 n0 n1 c0 c1 ins rk lv tk most := by
  obtain ⟨a, b_, c, d, e⟩ := h
  exact ⟨blk_far a h1 _, blk_far b_ h2 _, blk_far c h3 _, d, e.setCell hp _⟩
theorem GC.base (h : GC w0 W g gi gr A0 A1 n0 n1 c0 c1 ins rk lv tk most) : Below w0.heap.size w0 W := h.2.2.2.2
theorem GC.hg (h : GC w0 W g gi gr A0 A1 n0 n1 c0 c1 ins rk lv tk most) : W.heap[g]? = some (.cells #[.slice A0 n0 c0, .slice A1 n1 c1, .slice (some ⟨gi, 0, none⟩) ins.length ins.length, .slice (some ⟨gr, 0, none⟩) rk.length rk.length, .int .u64 lv, .int .i64 tk, .int .i64 most] 53 (0, 0)) := h.1
theorem GC.hgi (h : GC w0 W g gi gr A0 A1 n0 n1 c0 c1 ins rk lv tk most) : W.heap[gi]? = some (.cells (gcB ins) 4 (0, 0)) := h.2.1
theorem GC.hgr (h : GC w0 W g gi gr A0 A1 n0 n1 c0 c1 ins rk lv tk most) : W.heap[gr]? = some (.cells (gcN rk) 23 (0, 0)) := h.2.2.1
theorem GC.cells (h : GC w0 W g gi gr A0 A1 n0 n1 c0 c1 ins rk lv tk most) : W.cell? ⟨g, 0, none⟩ = some (.slice A0 n0 c0) ∧ W.cell? ⟨g, 1, none⟩ = some (.slice A1 n1 c1) ∧ W.cell? ⟨g, 2, none⟩ = some (.slice (some ⟨gi, 0, none⟩) ins.length ins.length) ∧ W.cell? ⟨g, 3, none⟩ = some (.slice (some ⟨gr, 0, none⟩) rk.length rk.length) ∧ W.cell? ⟨g, 4, none⟩ = some (.int .u64 lv) ∧ W.cell? ⟨g, 5, none⟩ = some (.int .i64 tk) ∧ W.cell? ⟨g, 6, none⟩ = some (.int .i64 most) :=
  ⟨(blk_cell h.1 0).trans rfl, (blk_cell h.1 1).trans rfl, (blk_cell h.1 2).trans rfl, (blk_cell h.1 3).trans rfl, (blk_cell h.1 4).trans rfl, (blk_cell h.1 5).trans rfl, (blk_cell h.1 6).trans rfl⟩
theorem GC.cellI (h : GC w0 W g gi gr A0 A1 n0 n1 c0 c1 ins rk lv tk most) (k : Nat) (hk : k < ins.length) : W.cell? ⟨gi, k, none⟩ = some (.bool (ins.getD k false)) := (blk_cell h.2.1 k).trans (gcB_get ins k hk)
theorem GC.cellR (h : GC w0 W g gi gr A0 A1 n0 n1 c0 c1 ins rk lv tk most) (k : Nat) (hk : k < rk.length) : W.cell? ⟨gr, k, none⟩ = some (.int .u64 (rd rk k)) := (blk_cell h.2.2.1 k).trans (gcN_get rk k hk)
end
theorem Keep3.refl (g gi gr : Nat) (w : World) : Keep3 g gi gr w w := ⟨Nat.le_refl _, fun _ _ _ _ _ => rfl⟩
theorem Keep3.set {g gi gr : Nat} {w W : World} (h : Keep3 g gi gr w W) {p : Addr} (hp : p.block = g ∨ p.block = gi ∨ p.block = gr ∨ w.heap.size ≤ p.block) (v : Value) : Keep3 g gi gr w (W.setCell p v) :=
  ⟨by simpa [World.setCell] using h.1, fun i hi h1 h2 h3 => (Below.heap_setCell W p v i (by rcases hp with r | r | r | r <;> (try rw [r]; assumption) <;> omega)).trans (h.2 i hi h1 h2 h3)⟩
theorem Keep3.step {g gi gr : Nat} {w W W1 : World} (h : Keep3 g gi gr w W) (hb : Below W.heap.size W W1) : Keep3 g gi gr w W1 :=
  ⟨Nat.le_trans h.1 hb.size, fun i hi h1 h2 h3 => (hb.block i (Nat.lt_of_lt_of_le hi h.1)).trans (h.2 i hi h1 h2 h3)⟩
theorem Keep3.trans {g gi gr : Nat} {w W W1 : World} (h : Keep3 g gi gr w W) (k : Keep3 g gi gr W W1) : Keep3 g gi gr w W1 :=
  ⟨Nat.le_trans h.1 k.1, fun i hi h1 h2 h3 => (k.2 i (Nat.lt_of_lt_of_le hi h.1) h1 h2 h3).trans (h.2 i hi h1 h2 h3)⟩
theorem Keep3.blk {g gi gr : Nat} {w W : World} (h : Keep3 g gi gr w W) {b : Nat} {o : Obj} (hb : w.heap[b]? = some o) (h1 : b ≠ g) (h2 : b ≠ gi) (h3 : b ≠ gr) : W.heap[b]? = some o := (h.2 b (blk_lt hb) h1 h2 h3).trans hb
set_option maxHeartbeats 8000000 in
set_option maxRecDepth 100000 in
theorem gds_least_calls (w : World) (g gi gr : Nat) (cs : Array Value) (ins : List Bool) (rk : List Int) (hg : w.heap[g]? = some (.cells cs 53 (0, 0)))
    (h2 : cs[2]? = some (.slice (some ⟨gi, 0, none⟩) ins.length ins.length)) (h3 : cs[3]? = some (.slice (some ⟨gr, 0, none⟩) rk.length rk.length))
    (hi : w.heap[gi]? = some (.cells (gcB ins) 4 (0, 0))) (hr : w.heap[gr]? = some (.cells (gcN rk) 23 (0, 0))) (hl : rk.length = ins.length) (hm : ins.length ≤ 64) :
    Calls Try.prog 40 #[.pointer (some ⟨g, 0, none⟩)] w fun e w' => e = .returned (.int .i64 (gleast ins rk)) ∧ Drawn0 w w' := by
  have F2 := (blk_cell hg 2).trans h2
  have F3 := (blk_cell hg 3).trans h3
  have FI : ∀ j, j < ins.length → w.cell? ⟨gi, j, none⟩ = some (.bool (ins.getD j false)) := fun j hj => (blk_cell hi j).trans (gcB_get ins j hj)
  have FR : ∀ j, j < ins.length → w.cell? ⟨gr, j, none⟩ = some (.int .u64 (rd rk j)) := fun j hj => (blk_cell hr j).trans (gcN_get rk j (by omega))
  have HF2 := Aside0.mk F2
  have HF3 := Aside0.mk F3
  have HFI := Aside0.mk FI
  have HFR := Aside0.mk FR
  have HL := Aside0.mk hl
  clear F3 FI FR hg h2 h3 hi hr hl
  have hn0 : (0 : Int) ≤ ins.length := Int.natCast_nonneg _
  go_enter Try.func40, Try.ntmps40
  go_wp2
  go_loopg [3, 11] ins.length (fun kq v3 v11 w' => ∃ j : Nat, Aside0 (j + kq = ins.length) ∧ v3 = .int .i64 (gto ins rk j) ∧ v11 = .int .i64 j ∧ Drawn0 w w')
  case atStart => exact ⟨0, ⟨by omega⟩, rfl, rfl, Drawn0.refl w⟩
  case round =>
    clear F2
    obtain ⟨j, hj, rfl, rfl, hD⟩ := hrel
    have F2 := (dr_cell hD _).trans HF2.out
    have F3 := (dr_cell hD _).trans HF3.out
    by_cases hlt : j < ins.length
    · have gr0 := gto_range ins rk j
      have p0 : (0 : Int) ≤ (j : Int) := Int.natCast_nonneg _
      have p1 : (j : Int) < (ins.length : Int) := by omega
      have p2 : (j : Int) < (rk.length : Int) := by have := HL.out; omega
      have F4 := (dr_cell hD _).trans (HFI.out j hlt)
      have F5 := (dr_cell hD _).trans (HFR.out j hlt)
      have hs : gto ins rk (j + 1) = gstep ins rk (gto ins rk j) j := rfl
      unfold gstep at hs
      generalize hb : gto ins rk j = b at *
      have hb' := Aside0.mk hb
      clear hb
      obtain ⟨x, hx⟩ : ∃ x, x = ins.getD j false := ⟨_, rfl⟩
      rw [← hx] at F4 hs
      clear hx
      cases x with
      | false =>
        rw [if_neg (by simp)] at hs
        have HS := Aside0.mk hs
        clear hs
        go_wp2
        repeat (go_quiet (fail); try go_wp2)
        obtain ⟨k1, rfl⟩ : ∃ k1, gk = k1 + 1 := ⟨gk - 1, by have := hj.out; omega⟩
        go_roundg k1
        case measure => omega
        case rel => exact ⟨j + 1, ⟨by have := hj.out; omega⟩, by rw [HS.out], by go_num, hD.step _⟩
      | true =>
        rw [if_pos rfl] at hs
        by_cases c : b < 0
        · rw [if_pos c] at hs
          have HS := Aside0.mk hs
          clear hs
          have c' : decide (b < 0) = true := decide_eq_true c
          go_wp2
          repeat (go_quiet (fail); try go_wp2)
          obtain ⟨k1, rfl⟩ : ∃ k1, gk = k1 + 1 := ⟨gk - 1, by have := hj.out; omega⟩
          go_roundg k1
          case measure => omega
          case rel => exact ⟨j + 1, ⟨by have := hj.out; omega⟩, by rw [HS.out], by go_num, hD.step _⟩
        · rw [if_neg c] at hs
          have c' : decide (b < 0) = false := decide_eq_false c
          have q0 : 0 ≤ b := by omega
          have q1 : b < (rk.length : Int) := by have := HL.out; omega
          have q2 : b.toNat < ins.length := by have := HL.out; omega
          have F6 := (dr_cell hD _).trans (HFR.out b.toNat q2)
          rw [Int.toNat_of_nonneg q0] at F6
          clear c
          by_cases d : rd rk j < rd rk b
          · rw [if_pos d] at hs
            have d' : decide (rd rk j < rd rk b) = true := decide_eq_true d
            have HS := Aside0.mk hs
            clear hs
            go_wp2
            repeat (go_quiet (fail); try go_wp2)
            obtain ⟨k1, rfl⟩ : ∃ k1, gk = k1 + 1 := ⟨gk - 1, by have := hj.out; omega⟩
            go_roundg k1
            case measure => omega
            case rel => exact ⟨j + 1, ⟨by have := hj.out; omega⟩, by rw [HS.out], by go_num, hD.step _⟩
          · rw [if_neg d] at hs
            have d' : decide (rd rk j < rd rk b) = false := decide_eq_false d
            have HS := Aside0.mk hs
            clear hs
            go_wp2
            repeat (go_quiet (fail); try go_wp2)
            obtain ⟨k1, rfl⟩ : ∃ k1, gk = k1 + 1 := ⟨gk - 1, by have := hj.out; omega⟩
            go_roundg k1
            case measure => omega
            case rel => exact ⟨j + 1, ⟨by have := hj.out; omega⟩, by rw [HS.out], by go_num, hD.step _⟩
    · go_wp2
      go_ret
      exact ⟨by have : j = ins.length := by have := hj.out; omega
                subst this; rfl, hD⟩

/-! ### gds_cache_serve_1: function 39 -/
set_option maxHeartbeats 8000000 in
set_option maxRecDepth 100000 in
theorem gds_rank_calls (k : Nat) (w0 w : World) (g gi gr bc bi : Nat) (A0 A1 : Option Addr) (c0 c1 : Nat) (sizes costs : List Int) (ins : List Bool) (rk : List Int) (lv tk most wt : Int) (i : Nat)
    (hG : GC w0 w g gi gr A0 A1 sizes.length costs.length c0 c1 ins rk lv tk most) (hS : Kd.C (Kd.int .i64) w0 A0 sizes.length sizes) (hSc : sizes.length ≤ c0) (hC : Kd.C (Kd.int .i64) w0 A1 costs.length costs) (hCc : costs.length ≤ c1)
    (hbc : w.heap[bc]? = some (.cells #[.pointer (some ⟨g, 0, none⟩)] 51 (0, 0))) (hbi : w.heap[bi]? = some (.cells #[.int .i64 i] 3 (0, 0)))
    (hi : i < ins.length) (hir : i < rk.length) (hm : ins.length ≤ 64) (hw : gds_things_weight.f k sizes costs i = some wt) :
    Calls Try.prog 39 #[.pointer (some ⟨bc, 0, none⟩), .pointer (some ⟨bi, 0, none⟩)] w fun e w' => e = .returned (.tuple #[]) ∧ GC w0 w' g gi gr A0 A1 sizes.length costs.length c0 c1 (ins.set i true) (rk.set i (IntKind.u64.wrap (lv + wt))) lv tk most ∧ Keep3 g gi gr w w' := by
  have HG := Aside0.mk hG
  obtain ⟨f0, f1, f2, f3, f4, -, -⟩ := hG.cells
  have fi := hG.cellI i hi
  have fr := hG.cellR i hir
  have fbc : w.cell? ⟨bc, 0, none⟩ = some (.pointer (some ⟨g, 0, none⟩)) := (blk_cell hbc 0).trans rfl
  have fbi : w.cell? ⟨bi, 0, none⟩ = some (.int .i64 i) := (blk_cell hbi 0).trans rfl
  have zi := blk_frozen hG.2.1 i
  have zr := blk_frozen hG.2.2.1 i
  have n1 := blk_ne hbc hG.1 (by decide)
  have n2 := blk_ne hbc hG.2.1 (by decide)
  have n3 := blk_ne hbc hG.2.2.1 (by decide)
  have n4 := blk_ne hbi hG.1 (by decide)
  have n5 := blk_ne hbi hG.2.1 (by decide)
  have n6 := blk_ne hbi hG.2.2.1 (by decide)
  obtain ⟨m1, m2, m3⟩ := hG.ne
  have Hbc := Aside0.mk hbc
  have Hbi := Aside0.mk hbi
  have HS := Aside0.mk hS
  have HC := Aside0.mk hC
  have HW := Aside0.mk hw
  clear hG hbc hbi hS hC hw
  have p0 : (0 : Int) ≤ (i : Int) := Int.natCast_nonneg _
  have p1 : (i : Int) < (ins.length : Int) := by omega
  have p2 : (i : Int) < (rk.length : Int) := by omega
  go_enter Try.func39, Try.ntmps39
  go_wp2_with fail
  go_region_held3 (fun W => W.cell? ⟨g, 0, none⟩ = some (.slice A0 sizes.length c0) ∧ W.cell? ⟨g, 1, none⟩ = some (.slice A1 costs.length c1) ∧ W.cell? ⟨g, 2, none⟩ = some (.slice (some ⟨gi, 0, none⟩) ins.length ins.length) ∧ W.cell? ⟨g, 3, none⟩ = some (.slice (some ⟨gr, 0, none⟩) rk.length rk.length) ∧ W.cell? ⟨g, 4, none⟩ = some (.int .u64 lv) ∧ W.cell? ⟨bc, 0, none⟩ = some (.pointer (some ⟨g, 0, none⟩)) ∧ W.cell? ⟨bi, 0, none⟩ = some (.int .i64 i)) (first | go_keep | exact ⟨(cf m1).trans (e0), (cf m1).trans (e1), (cf m1).trans (e2), (cf m1).trans (e3), (cf m1).trans (e4), (cf n2).trans (fbc9), (cf n5).trans (fbi9)⟩ | exact ⟨(cf m2).trans (e0), (cf m2).trans (e1), (cf m2).trans (e2), (cf m2).trans (e3), (cf m2).trans (e4), (cf n3).trans (fbc9), (cf n6).trans (fbi9)⟩ | exact ⟨(cf m2).trans ((cf m1).trans (e0)), (cf m2).trans ((cf m1).trans (e1)), (cf m2).trans ((cf m1).trans (e2)), (cf m2).trans ((cf m1).trans (e3)), (cf m2).trans ((cf m1).trans (e4)), (cf n3).trans ((cf n2).trans (fbc9)), (cf n6).trans ((cf n5).trans (fbi9))⟩ | exact ⟨(cf m1).trans ((cf m2).trans (e0)), (cf m1).trans ((cf m2).trans (e1)), (cf m1).trans ((cf m2).trans (e2)), (cf m1).trans ((cf m2).trans (e3)), (cf m1).trans ((cf m2).trans (e4)), (cf n2).trans ((cf n3).trans (fbc9)), (cf n5).trans ((cf n6).trans (fbi9))⟩) (first | (go_at_call 28; (with_reducible refine (gds_things_weight.calls k A0 c0 sizes A1 c1 costs i wt _ (by exact Kd.C_below HS.out (GC.base HG.out.drew)) hSc (by exact Kd.C_below HC.out (GC.base HG.out.drew)) hCc HW.out).mono ?_); rintro e w9 ⟨rfl, hbl⟩; have HG9 := Aside0.mk (HG.out.drew.step hbl); have HB9 := Aside0.mk hbl; have hbc9 := (hbl.block bc (blk_lt Hbc.out)).trans Hbc.out; have hbi9 := (hbl.block bi (blk_lt Hbi.out)).trans Hbi.out; have fbc9 := (blk_cell hbc9 0).trans (show _ = some (Value.pointer (some ⟨g, 0, none⟩)) from rfl); have fbi9 := (blk_cell hbi9 0).trans (show _ = some (Value.int .i64 (i : Int)) from rfl); clear hbc9 hbi9 hbl; obtain ⟨e0, e1, e2, e3, e4, e5, e6⟩ := HG9.out.cells; have ei := HG9.out.cellI i hi; have er := HG9.out.cellR i hir; have zi9 := blk_frozen HG9.out.2.1 i; have zr9 := blk_frozen HG9.out.2.2.1 i))
  go_end0
  exact ⟨rfl, (HG9.out.setIn i true).setRk i _, ((Keep3.step (w := w) (W := w.drew) (Keep3.refl g gi gr w) HB9.out).set (.inr (.inl rfl)) _).set (.inr (.inr (.inl rfl))) _⟩

/-! ### gds_cache_serve: function 22 -/
theorem blk_new2 {w : World} {o : Obj} {n : Nat} (hn : n = w.heap.size) : (w.alloc o).heap[n]? = some o := by subst hn; exact blk_new w o
def groom : Nat → List Int → List Int → Int → Int → List Bool → Int → Int → List Int → Option (List Bool × Int × Int × List Int)
  | 0, _, _, _, _, _, _, _, _ => none
  | k + 1, sizes, rk, most, sz, ins, lv, tk, outs =>
    if 0 ≤ tk ∧ tk ≤ 1000000 ∧ outs.length ≤ 1000 then
      (if most < tk + sz then
        (if gleast ins rk < 0 then some (ins, lv, tk, outs)
         else groom k sizes rk most sz (ins.set (gleast ins rk).toNat false) (rd rk (gleast ins rk)) (tk - rd sizes (gleast ins rk)) (outs ++ [gleast ins rk]))
      else some (ins, lv, tk, outs))
    else none
theorem abs1 {K : Act → World → Prop} {a : Act} {W : World} (F : World → Prop) (hF : F W) (h : ∀ W', F W' → K a W') : K a W := h W hF
/-- What a call of serve has made: its boxes of the cache and of the number, its answer, and the cache. -/
def SV (w0 wb W : World) (g gi gr bc bi bo : Nat) (A0 A1 : Option Addr) (n0 n1 c0 c1 : Nat) (ins : List Bool) (rk : List Int) (lv tk most : Int) (i : Nat) (hit : Bool) (ov : Value) (outs : List Int) : Prop :=
  GC w0 W g gi gr A0 A1 n0 n1 c0 c1 ins rk lv tk most ∧ W.heap[bc]? = some (.cells #[.pointer (some ⟨g, 0, none⟩)] 51 (0, 0)) ∧ W.heap[bi]? = some (.cells #[.int .i64 i] 3 (0, 0)) ∧
  W.heap[bo]? = some (.cells #[.bool hit, ov] 40 (0, 0)) ∧ (Kd.int .i64).R 3 W wb.heap.size (fun k => bo < k) ov outs ∧ Keep3 g gi gr wb W ∧ (wb.heap.size ≤ bc ∧ bc < bi ∧ bi < bo ∧ w0.heap.size ≤ wb.heap.size ∧ g < wb.heap.size ∧ gi < wb.heap.size ∧ gr < wb.heap.size)
section
variable {w0 wb W : World} {g gi gr bc bi bo : Nat} {A0 A1 : Option Addr} {n0 n1 c0 c1 : Nat} {ins : List Bool} {rk : List Int} {lv tk most : Int} {i : Nat} {hit : Bool} {ov : Value} {outs : List Int}
theorem SV.step (h : SV w0 wb W g gi gr bc bi bo A0 A1 n0 n1 c0 c1 ins rk lv tk most i hit ov outs) {W1 : World} (hb : Below W.heap.size W W1) : SV w0 wb W1 g gi gr bc bi bo A0 A1 n0 n1 c0 c1 ins rk lv tk most i hit ov outs := by
  obtain ⟨a, b, c, d, e, f, z⟩ := h
  exact ⟨a.step hb, (hb.block _ (blk_lt b)).trans b, (hb.block _ (blk_lt c)).trans c, (hb.block _ (blk_lt d)).trans d, Kd.R_below e hb, f.step hb, z⟩
theorem SV.drew (h : SV w0 wb W g gi gr bc bi bo A0 A1 n0 n1 c0 c1 ins rk lv tk most i hit ov outs) : SV w0 wb W.drew g gi gr bc bi bo A0 A1 n0 n1 c0 c1 ins rk lv tk most i hit ov outs := h.step (below_drew (Below.refl _ _))
theorem SV.drewN (h : SV w0 wb W g gi gr bc bi bo A0 A1 n0 n1 c0 c1 ins rk lv tk most i hit ov outs) (n : Nat) : SV w0 wb (W.drewN n) g gi gr bc bi bo A0 A1 n0 n1 c0 c1 ins rk lv tk most i hit ov outs := h.step (pw_below_drewN (Below.refl _ _) n)
theorem SV.nes (h : SV w0 wb W g gi gr bc bi bo A0 A1 n0 n1 c0 c1 ins rk lv tk most i hit ov outs) : bc ≠ g ∧ bc ≠ gi ∧ bc ≠ gr ∧ bi ≠ g ∧ bi ≠ gi ∧ bi ≠ gr ∧ bo ≠ g ∧ bo ≠ gi ∧ bo ≠ gr := by
  obtain ⟨a, b, c, d, e, f, z⟩ := h
  exact ⟨blk_ne b a.1 (by decide), blk_ne b a.2.1 (by decide), blk_ne b a.2.2.1 (by decide), blk_ne c a.1 (by decide), blk_ne c a.2.1 (by decide), blk_ne c a.2.2.1 (by decide), blk_ne d a.1 (by decide), blk_ne d a.2.1 (by decide), blk_ne d a.2.2.1 (by decide)⟩
theorem SV.setHit (h : SV w0 wb W g gi gr bc bi bo A0 A1 n0 n1 c0 c1 ins rk lv tk most i hit ov outs) (b : Bool) : SV w0 wb (W.setCell ⟨bo, 0, none⟩ (.bool b)) g gi gr bc bi bo A0 A1 n0 n1 c0 c1 ins rk lv tk most i b ov outs := by
  obtain ⟨-, -, -, -, -, -, q1, q2, q3⟩ := h.nes
  obtain ⟨a, b_, c, d, e, f, z⟩ := h
  exact ⟨a.far (p := ⟨bo, 0, none⟩) (by show w0.heap.size ≤ bo; omega) (Ne.symm q1) (Ne.symm q2) (Ne.symm q3) _, blk_far b_ (show bc ≠ bo by omega) _, blk_far c (show bi ≠ bo by omega) _, blk_set d 0 _, Kd.R_set e d (by decide) 0 _, f.set (.inr (.inr (.inr (by show wb.heap.size ≤ bo; omega)))) _, z⟩
theorem SV.setOv (h : SV w0 wb W g gi gr bc bi bo A0 A1 n0 n1 c0 c1 ins rk lv tk most i hit ov outs) {ov' : Value} {outs' : List Int} (hr : (Kd.int .i64).R 3 W wb.heap.size (fun k => bo < k) ov' outs') : SV w0 wb (W.setCell ⟨bo, 1, none⟩ ov') g gi gr bc bi bo A0 A1 n0 n1 c0 c1 ins rk lv tk most i hit ov' outs' := by
  obtain ⟨-, -, -, -, -, -, q1, q2, q3⟩ := h.nes
  obtain ⟨a, b_, c, d, e, f, z⟩ := h
  exact ⟨a.far (p := ⟨bo, 1, none⟩) (by show w0.heap.size ≤ bo; omega) (Ne.symm q1) (Ne.symm q2) (Ne.symm q3) _, blk_far b_ (show bc ≠ bo by omega) _, blk_far c (show bi ≠ bo by omega) _, blk_set d 1 _, Kd.R_set hr d (by decide) 1 _, f.set (.inr (.inr (.inr (by show wb.heap.size ≤ bo; omega)))) _, z⟩
theorem SV.setSame (h : SV w0 wb W g gi gr bc bi bo A0 A1 n0 n1 c0 c1 ins rk lv tk most i hit ov outs) : SV w0 wb ((W.setCell ⟨bo, 0, none⟩ (.bool hit)).setCell ⟨bo, 1, none⟩ ov) g gi gr bc bi bo A0 A1 n0 n1 c0 c1 ins rk lv tk most i hit ov outs := (h.setHit hit).setOv (h.setHit hit).2.2.2.2.1
theorem SV.gc (h : SV w0 wb W g gi gr bc bi bo A0 A1 n0 n1 c0 c1 ins rk lv tk most i hit ov outs) : GC w0 W g gi gr A0 A1 n0 n1 c0 c1 ins rk lv tk most := h.1
theorem SV.hbc (h : SV w0 wb W g gi gr bc bi bo A0 A1 n0 n1 c0 c1 ins rk lv tk most i hit ov outs) : W.heap[bc]? = some (.cells #[.pointer (some ⟨g, 0, none⟩)] 51 (0, 0)) := h.2.1
theorem SV.hbi (h : SV w0 wb W g gi gr bc bi bo A0 A1 n0 n1 c0 c1 ins rk lv tk most i hit ov outs) : W.heap[bi]? = some (.cells #[.int .i64 i] 3 (0, 0)) := h.2.2.1
theorem SV.hbo (h : SV w0 wb W g gi gr bc bi bo A0 A1 n0 n1 c0 c1 ins rk lv tk most i hit ov outs) : W.heap[bo]? = some (.cells #[.bool hit, ov] 40 (0, 0)) := h.2.2.2.1
theorem SV.own (h : SV w0 wb W g gi gr bc bi bo A0 A1 n0 n1 c0 c1 ins rk lv tk most i hit ov outs) : (Kd.int .i64).R 3 W wb.heap.size (fun k => bo < k) ov outs := h.2.2.2.2.1
theorem SV.keep (h : SV w0 wb W g gi gr bc bi bo A0 A1 n0 n1 c0 c1 ins rk lv tk most i hit ov outs) : Keep3 g gi gr wb W := h.2.2.2.2.2.1
theorem SV.ord (h : SV w0 wb W g gi gr bc bi bo A0 A1 n0 n1 c0 c1 ins rk lv tk most i hit ov outs) : wb.heap.size ≤ bc ∧ bc < bi ∧ bi < bo ∧ w0.heap.size ≤ wb.heap.size ∧ g < wb.heap.size ∧ gi < wb.heap.size ∧ gr < wb.heap.size := h.2.2.2.2.2.2
theorem SV.turn (h : SV w0 wb W g gi gr bc bi bo A0 A1 n0 n1 c0 c1 ins rk lv tk most i hit ov outs) {W1 : World} {ins' : List Bool} {rk' : List Int} {lv' tk' : Int} (hg : GC w0 W1 g gi gr A0 A1 n0 n1 c0 c1 ins' rk' lv' tk' most) (hk : Keep3 g gi gr W W1) : SV w0 wb W1 g gi gr bc bi bo A0 A1 n0 n1 c0 c1 ins' rk' lv' tk' most i hit ov outs := by
  obtain ⟨q1, q2, q3, q4, q5, q6, q7, q8, q9⟩ := h.nes
  obtain ⟨a, b, c, d, e, f, z⟩ := h
  refine ⟨hg, hk.blk b q1 q2 q3, hk.blk c q4 q5 q6, hk.blk d q7 q8 q9, ?_, f.trans hk, z⟩
  have e1 := Kd.R_types (Kd.R_types (Kd.R_types e a.1 (by decide)) a.2.1 (by decide)) a.2.2.1 (by decide)
  exact Kd.R_mono (Kd.R_step e1 (fun k hk1 hlt => hk.2 k hlt hk1.1.1.2 hk1.1.2 hk1.2)) (fun k hk1 => hk1.1.1.1)
theorem SV.cells (h : SV w0 wb W g gi gr bc bi bo A0 A1 n0 n1 c0 c1 ins rk lv tk most i hit ov outs) : W.cell? ⟨bc, 0, none⟩ = some (.pointer (some ⟨g, 0, none⟩)) ∧ W.cell? ⟨bi, 0, none⟩ = some (.int .i64 i) ∧ W.cell? ⟨bo, 0, none⟩ = some (.bool hit) ∧ W.cell? ⟨bo, 1, none⟩ = some ov ∧ W.frozen? ⟨bo, 0, none⟩ = false ∧ W.frozen? ⟨bo, 1, none⟩ = false := by
  obtain ⟨a, b, c, d, e, f, z⟩ := h
  exact ⟨(blk_cell b 0).trans rfl, (blk_cell c 0).trans rfl, (blk_cell d 0).trans rfl, (blk_cell d 1).trans rfl, blk_frozen d 0, blk_frozen d 1⟩
theorem SV.setIn (h : SV w0 wb W g gi gr bc bi bo A0 A1 n0 n1 c0 c1 ins rk lv tk most i hit ov outs) (k : Nat) (b : Bool) : SV w0 wb (W.setCell ⟨gi, k, none⟩ (.bool b)) g gi gr bc bi bo A0 A1 n0 n1 c0 c1 (ins.set k b) rk lv tk most i hit ov outs := h.turn (h.gc.setIn k b) ((Keep3.refl g gi gr W).set (.inr (.inl rfl)) _)
theorem SV.setLv (h : SV w0 wb W g gi gr bc bi bo A0 A1 n0 n1 c0 c1 ins rk lv tk most i hit ov outs) (v : Int) : SV w0 wb (W.setCell ⟨g, 4, none⟩ (.int .u64 v)) g gi gr bc bi bo A0 A1 n0 n1 c0 c1 ins rk v tk most i hit ov outs := h.turn (h.gc.setLv v) ((Keep3.refl g gi gr W).set (.inl rfl) _)
theorem SV.setTk (h : SV w0 wb W g gi gr bc bi bo A0 A1 n0 n1 c0 c1 ins rk lv tk most i hit ov outs) (v : Int) : SV w0 wb (W.setCell ⟨g, 5, none⟩ (.int .i64 v)) g gi gr bc bi bo A0 A1 n0 n1 c0 c1 ins rk lv v most i hit ov outs := h.turn (h.gc.setTk v) ((Keep3.refl g gi gr W).set (.inl rfl) _)
theorem SV.ownB (h : SV w0 wb W g gi gr bc bi bo A0 A1 n0 n1 c0 c1 ins rk lv tk most i hit ov outs) {k : Nat} (hk : ov.ownBlock = some k) : bo < k := h.own.1 k hk
theorem SV.app0 (h : SV w0 wb W g gi gr bc bi bo A0 A1 n0 n1 c0 c1 ins rk lv tk most i hit ov outs) {w1 : World} (hb : Below wb.heap.size W w1) (hg : W.grownBy w1 ov.ownBlock) : GC w0 w1 g gi gr A0 A1 n0 n1 c0 c1 ins rk lv tk most ∧ w1.heap[bc]? = some (.cells #[.pointer (some ⟨g, 0, none⟩)] 51 (0, 0)) ∧ w1.heap[bi]? = some (.cells #[.int .i64 i] 3 (0, 0)) ∧ w1.heap[bo]? = some (.cells #[.bool hit, ov] 40 (0, 0)) ∧ Keep3 g gi gr wb w1 := by
  have q : ∀ x, x ≤ bo → some x ≠ ov.ownBlock := fun x hx e => by have := h.ownB e.symm; omega
  obtain ⟨a, b, c, d, e, f, z⟩ := h
  have z1 := z.2.2.2.2
  refine ⟨⟨blk_grown a.1 hg (q _ (by omega)), blk_grown a.2.1 hg (q _ (by omega)), blk_grown a.2.2.1 hg (q _ (by omega)), a.2.2.2.1, ?_⟩, blk_grown b hg (q _ (by omega)), blk_grown c hg (q _ (by omega)), blk_grown d hg (q _ (by omega)), ⟨Nat.le_trans f.1 hg.size, fun x hx h1 h2 h3 => (hg.block x (Nat.lt_of_lt_of_le hx f.1) (q _ (by omega))).trans (f.2 x hx h1 h2 h3)⟩⟩
  exact a.base.trans (hb.mono z.2.2.2.1)
theorem SV.app (h : SV w0 wb W g gi gr bc bi bo A0 A1 n0 n1 c0 c1 ins rk lv tk most i hit ov outs) {w1 : World} {v1 : Value} {outs1 : List Int} (hr : (Kd.int .i64).R 3 w1 wb.heap.size (fun k => bo < k) v1 outs1) (hb : Below wb.heap.size W w1) (hg : W.grownBy w1 ov.ownBlock) : SV w0 wb (w1.setCell ⟨bo, 1, none⟩ v1) g gi gr bc bi bo A0 A1 n0 n1 c0 c1 ins rk lv tk most i hit v1 outs1 := by
  obtain ⟨a, b_, c, d, f⟩ := h.app0 hb hg
  obtain ⟨-, -, -, -, -, -, q1, q2, q3⟩ := h.nes
  have z := h.ord
  exact ⟨a.far (p := ⟨bo, 1, none⟩) (by show w0.heap.size ≤ bo; omega) (Ne.symm q1) (Ne.symm q2) (Ne.symm q3) _, blk_far b_ (show bc ≠ bo by omega) _, blk_far c (show bi ≠ bo by omega) _, blk_set d 1 _, Kd.R_set hr d (by decide) 1 _, f.set (.inr (.inr (.inr (by show wb.heap.size ≤ bo; omega)))) _, z⟩
theorem SV.drawn (h : SV w0 wb W g gi gr bc bi bo A0 A1 n0 n1 c0 c1 ins rk lv tk most i hit ov outs) {W1 : World} (hd : Drawn0 W W1) : SV w0 wb W1 g gi gr bc bi bo A0 A1 n0 n1 c0 c1 ins rk lv tk most i hit ov outs := h.step hd.below
theorem SV.post (h : SV w0 wb W g gi gr bc bi bo A0 A1 n0 n1 c0 c1 ins rk lv tk most i hit ov outs) : ∃ v, Ending.returned (.agg #[.bool hit, ov]) = Ending.returned (.agg #[.bool hit, v]) ∧ (Kd.int .i64).R 3 W wb.heap.size (fun k => wb.heap.size ≤ k) v outs ∧ GC w0 W g gi gr A0 A1 n0 n1 c0 c1 ins rk lv tk most ∧ Keep3 g gi gr wb W :=
  ⟨ov, rfl, Kd.R_mono h.own (fun k hk => by have := h.ord; omega), h.gc, h.keep⟩
end
set_option maxHeartbeats 8000000 in
set_option maxRecDepth 100000 in
theorem gds_serve_hit (k : Nat) (w0 w : World) (g gi gr : Nat) (A0 A1 : Option Addr) (c0 c1 : Nat) (sizes costs : List Int) (ins : List Bool) (rk : List Int) (lv tk most wt : Int) (i : Nat)
    (hG : GC w0 w g gi gr A0 A1 sizes.length costs.length c0 c1 ins rk lv tk most) (hS : Kd.C (Kd.int .i64) w0 A0 sizes.length sizes) (hSc : sizes.length ≤ c0) (hC : Kd.C (Kd.int .i64) w0 A1 costs.length costs) (hCc : costs.length ≤ c1)
    (hi : i < ins.length) (hir : i < rk.length) (hm : ins.length ≤ 64) (hw : gds_things_weight.f k sizes costs i = some wt) (hh : ins.getD i false = true) :
    Calls Try.prog 22 #[.pointer (some ⟨g, 0, none⟩), .int .i64 i] w fun e w' => ∃ v, e = .returned (.agg #[.bool true, v]) ∧ (Kd.int .i64).R 3 w' w.heap.size (fun k => w.heap.size ≤ k) v [] ∧ GC w0 w' g gi gr A0 A1 sizes.length costs.length c0 c1 (ins.set i true) (rk.set i (IntKind.u64.wrap (lv + wt))) lv tk most ∧ Keep3 g gi gr w w' := by
  have HG := Aside0.mk hG
  have HS := Aside0.mk hS
  have HC := Aside0.mk hC
  have HW := Aside0.mk hw
  have HI := Aside0.mk hh
  clear hG hS hC hw hh
  have p0 : (0 : Int) ≤ (i : Int) := Int.natCast_nonneg _
  have p1 : (i : Int) < (ins.length : Int) := by omega
  have p2 : (i : Int) < (rk.length : Int) := by omega
  go_enter Try.func22, Try.ntmps22
  have hmf : ∀ (fn : Fn) (first cap : Array Value) (w : World), (Instr.makeFunc fn first cap).run Try.prog w = .ok (.func fn first cap) w := fun _ _ _ _ => rfl
  go_wp2
  go_step3
  go_wp2
  refine abs1 (fun W => SV w0 w W g gi gr w.heap.size (w.heap.size + 1) (w.heap.size + 1 + 1) A0 A1 sizes.length costs.length c0 c1 ins rk lv tk most i false (.slice none 0 0) []) ?_ ?_
  · exact ⟨((HG.out.alloc _).alloc _).alloc _, blk_alloc (blk_alloc (blk_new w _) _) _, blk_alloc (blk_new2 (by simp)) _, blk_new2 (by simp), Kd.R_nil _ _ _ _ _, (((Keep3.refl g gi gr w).step (below_alloc (Below.refl _ _) _)).step (below_alloc (Below.refl _ _) _)).step (below_alloc (Below.refl _ _) _), by omega, by omega, by omega, HG.out.base.size, blk_lt HG.out.1, blk_lt HG.out.2.1, blk_lt HG.out.2.2.1⟩
  generalize w.heap.size + 1 + 1 = bo
  generalize w.heap.size + 1 = bi
  generalize w.heap.size = bc
  intro W1 hV
  have HV := Aside0.mk hV
  obtain ⟨e0, e1, e2, e3, e4, e5⟩ := hV.cells
  obtain ⟨-, -, f2, -, -, -, -⟩ := hV.1.cells
  have f7 := (hV.1.cellI i hi).trans (by rw [HI.out])
  obtain ⟨-, -, -, -, -, -, q1, q2, q3⟩ := hV.nes
  have q4 : bc ≠ bo := by have := hV.2.2.2.2.2.2; omega
  have q5 : bi ≠ bo := by have := hV.2.2.2.2.2.2; omega
  clear hV
  have T : ∀ v, (W1.setCell ⟨bo, 0, none⟩ v).drew.cell? ⟨g, 2, none⟩ = some (.slice (some ⟨gi, 0, none⟩) ins.length ins.length) ∧ (W1.setCell ⟨bo, 0, none⟩ v).drew.cell? ⟨bc, 0, none⟩ = some (.pointer (some ⟨g, 0, none⟩)) ∧ (W1.setCell ⟨bo, 0, none⟩ v).drew.cell? ⟨bi, 0, none⟩ = some (.int .i64 i) ∧ (W1.setCell ⟨bo, 0, none⟩ v).drew.cell? ⟨gi, i, none⟩ = some (.bool true) := fun v => ⟨(cfd (Ne.symm q1)).trans f2, (cfd q4).trans e0, (cfd q5).trans e1, (cfd (Ne.symm q2)).trans f7⟩
  go_wp2
  go_region_held3 (fun W => W.cell? ⟨g, 2, none⟩ = some (.slice (some ⟨gi, 0, none⟩) ins.length ins.length) ∧ W.cell? ⟨bc, 0, none⟩ = some (.pointer (some ⟨g, 0, none⟩)) ∧ W.cell? ⟨bi, 0, none⟩ = some (.int .i64 i) ∧ W.cell? ⟨gi, i, none⟩ = some (.bool true)) (first | go_keep | exact ⟨(cfd (Ne.symm q1)).trans f2, (cfd q4).trans e0, (cfd q5).trans e1, (cfd (Ne.symm q2)).trans f7⟩) (fail)
  refine abs1 (fun W => SV w0 w W g gi gr bc bi bo A0 A1 sizes.length costs.length c0 c1 ins rk lv tk most i true (.slice none 0 0) []) (HV.out.drew.setHit true) ?_
  clear HV e0 e1 e2 e3 e4 e5 f2 f7
  intro W2 hV
  have HV := Aside0.mk hV
  obtain ⟨e0, e1, e2, e3, e4, e5⟩ := hV.cells
  clear hV
  go_wp2_with (go_at_call 39; (with_reducible refine (gds_rank_calls k w0 _ g gi gr bc bi A0 A1 c0 c1 sizes costs ins rk lv tk most wt i (by exact HV.out.gc) HS.out hSc HC.out hCc (by exact HV.out.hbc) (by exact HV.out.hbi) hi hir hm HW.out).mono ?_); rintro e w9 ⟨rfl, hg9, hk9⟩; have n9 := Aside0.mk (HV.out.turn hg9 hk9); clear hg9 hk9 HV e0 e1 e2 e3 e4 e5; have HV := n9; clear n9; obtain ⟨e0, e1, e2, e3, e4, e5⟩ := HV.out.cells)
  rw [Exit.noGoto_ret]
  have HF := HV.out.setSame
  obtain ⟨y0, y1, y2, y3, y4, y5⟩ := HF.cells
  exact bodyPost_ret (v := .agg #[.bool true, .slice none 0 0]) (by simp [results, Try.results22, go_sem, y2, y3]) rfl HF.post
set_option maxHeartbeats 8000000 in
set_option maxRecDepth 100000 in
theorem gds_serve_big (w0 w : World) (g gi gr : Nat) (A0 A1 : Option Addr) (c0 c1 : Nat) (sizes costs : List Int) (ins : List Bool) (rk : List Int) (lv tk most : Int) (i : Nat)
    (hG : GC w0 w g gi gr A0 A1 sizes.length costs.length c0 c1 ins rk lv tk most) (hS : Kd.C (Kd.int .i64) w0 A0 sizes.length sizes) (hSc : sizes.length ≤ c0) (hC : Kd.C (Kd.int .i64) w0 A1 costs.length costs) (hCc : costs.length ≤ c1)
    (hi : i < ins.length) (hir : i < rk.length) (hm : ins.length ≤ 64) (his : i < sizes.length) (hb : most < rd sizes i) (hh : ins.getD i false = false) :
    Calls Try.prog 22 #[.pointer (some ⟨g, 0, none⟩), .int .i64 i] w fun e w' => ∃ v, e = .returned (.agg #[.bool false, v]) ∧ (Kd.int .i64).R 3 w' w.heap.size (fun k => w.heap.size ≤ k) v [] ∧ GC w0 w' g gi gr A0 A1 sizes.length costs.length c0 c1 ins rk lv tk most ∧ Keep3 g gi gr w w' := by
  have HG := Aside0.mk hG
  have HS := Aside0.mk hS
  have HC := Aside0.mk hC
  have HI := Aside0.mk hh
  have hd : decide (most < rd sizes i) = true := decide_eq_true hb
  have p3 : (i : Int) < (sizes.length : Int) := by omega
  obtain ⟨ad, ea, hx⟩ := Kd.at_int hS i (Int.natCast_nonneg _) p3
  cases ea
  rw [Int.toNat_natCast] at hx
  have HX := Aside0.mk hx
  clear hb hx
  clear hG hS hC hh
  have p0 : (0 : Int) ≤ (i : Int) := Int.natCast_nonneg _
  have p1 : (i : Int) < (ins.length : Int) := by omega
  have p2 : (i : Int) < (rk.length : Int) := by omega
  go_enter Try.func22, Try.ntmps22
  have hmf : ∀ (fn : Fn) (first cap : Array Value) (w : World), (Instr.makeFunc fn first cap).run Try.prog w = .ok (.func fn first cap) w := fun _ _ _ _ => rfl
  go_wp2
  go_step3
  go_wp2
  refine abs1 (fun W => SV w0 w W g gi gr w.heap.size (w.heap.size + 1) (w.heap.size + 1 + 1) (some ad) A1 sizes.length costs.length c0 c1 ins rk lv tk most i false (.slice none 0 0) []) ?_ ?_
  · exact ⟨((HG.out.alloc _).alloc _).alloc _, blk_alloc (blk_alloc (blk_new w _) _) _, blk_alloc (blk_new2 (by simp)) _, blk_new2 (by simp), Kd.R_nil _ _ _ _ _, (((Keep3.refl g gi gr w).step (below_alloc (Below.refl _ _) _)).step (below_alloc (Below.refl _ _) _)).step (below_alloc (Below.refl _ _) _), by omega, by omega, by omega, HG.out.base.size, blk_lt HG.out.1, blk_lt HG.out.2.1, blk_lt HG.out.2.2.1⟩
  generalize w.heap.size + 1 + 1 = bo
  generalize w.heap.size + 1 = bi
  generalize w.heap.size = bc
  intro W1 hV
  have HV := Aside0.mk hV
  obtain ⟨e0, e1, e2, e3, e4, e5⟩ := hV.cells
  obtain ⟨-, -, f2, -, -, -, -⟩ := hV.1.cells
  have f7 := (hV.1.cellI i hi).trans (by rw [HI.out])
  obtain ⟨-, -, -, -, -, -, q1, q2, q3⟩ := hV.nes
  have q4 : bc ≠ bo := by have := hV.2.2.2.2.2.2; omega
  have q5 : bi ≠ bo := by have := hV.2.2.2.2.2.2; omega
  clear hV
  have T : ∀ v, (W1.setCell ⟨bo, 0, none⟩ v).drew.cell? ⟨g, 2, none⟩ = some (.slice (some ⟨gi, 0, none⟩) ins.length ins.length) ∧ (W1.setCell ⟨bo, 0, none⟩ v).drew.cell? ⟨bc, 0, none⟩ = some (.pointer (some ⟨g, 0, none⟩)) ∧ (W1.setCell ⟨bo, 0, none⟩ v).drew.cell? ⟨bi, 0, none⟩ = some (.int .i64 i) ∧ (W1.setCell ⟨bo, 0, none⟩ v).drew.cell? ⟨gi, i, none⟩ = some (.bool false) := fun v => ⟨(cfd (Ne.symm q1)).trans f2, (cfd q4).trans e0, (cfd q5).trans e1, (cfd (Ne.symm q2)).trans f7⟩
  go_wp2
  go_region_held3 (fun W => W.cell? ⟨g, 2, none⟩ = some (.slice (some ⟨gi, 0, none⟩) ins.length ins.length) ∧ W.cell? ⟨bc, 0, none⟩ = some (.pointer (some ⟨g, 0, none⟩)) ∧ W.cell? ⟨bi, 0, none⟩ = some (.int .i64 i) ∧ W.cell? ⟨gi, i, none⟩ = some (.bool false)) (first | go_keep | exact ⟨(cfd (Ne.symm q1)).trans f2, (cfd q4).trans e0, (cfd q5).trans e1, (cfd (Ne.symm q2)).trans f7⟩) (fail)
  refine abs1 (fun W => SV w0 w W g gi gr bc bi bo (some ad) A1 sizes.length costs.length c0 c1 ins rk lv tk most i false (.slice none 0 0) []) (HV.out.drew.setHit false) ?_
  clear HV e0 e1 e2 e3 e4 e5 f2 f7
  intro W2 hV
  have HV := Aside0.mk hV
  obtain ⟨e0, e1, e2, e3, e4, e5⟩ := hV.cells
  clear hV
  obtain ⟨f0, -, -, -, -, -, f6⟩ := HV.out.gc.cells
  have fx := pw_cell_below HV.out.gc.base HX.out
  go_wp2
  go_quiet (fail)
  go_wp2
  rw [Exit.noGoto_ret]
  have HF := (HV.out.drewN nq).setSame
  obtain ⟨y0, y1, y2, y3, y4, y5⟩ := HF.cells
  exact bodyPost_ret (v := .agg #[.bool false, .slice none 0 0]) (by simp [results, Try.results22, go_sem, y2, y3]) rfl HF.post
set_option maxHeartbeats 8000000 in
set_option maxRecDepth 100000 in
theorem gds_serve_room (fuel k : Nat) (w0 w : World) (g gi gr : Nat) (A0 A1 : Option Addr) (c0 c1 : Nat) (sizes costs : List Int) (ins : List Bool) (rk : List Int) (lv tk most : Int) (i : Nat) (ins1 : List Bool) (lv1 tk1 wt : Int) (outs1 : List Int)
    (hG : GC w0 w g gi gr A0 A1 sizes.length costs.length c0 c1 ins rk lv tk most) (hS : Kd.C (Kd.int .i64) w0 A0 sizes.length sizes) (hSc : sizes.length ≤ c0) (hC : Kd.C (Kd.int .i64) w0 A1 costs.length costs) (hCc : costs.length ≤ c1)
    (hi : i < ins.length) (hir : i < rk.length) (hm : ins.length ≤ 64) (his : ins.length = sizes.length) (hirk : rk.length = ins.length) (hsz : ∀ j : Nat, j < sizes.length → 0 ≤ rd sizes j ∧ rd sizes j ≤ 4096) (hmo : 0 ≤ most ∧ most ≤ 65536) (hb : ¬ most < rd sizes i) (hh : ins.getD i false = false) (hw : gds_things_weight.f k sizes costs i = some wt) (hgr : groom fuel sizes rk most (rd sizes i) ins lv tk [] = some (ins1, lv1, tk1, outs1)) :
    Calls Try.prog 22 #[.pointer (some ⟨g, 0, none⟩), .int .i64 i] w fun e w' => ∃ v, e = .returned (.agg #[.bool false, v]) ∧ (Kd.int .i64).R 3 w' w.heap.size (fun k => w.heap.size ≤ k) v outs1 ∧ GC w0 w' g gi gr A0 A1 sizes.length costs.length c0 c1 (ins1.set i true) (rk.set i (IntKind.u64.wrap (lv1 + wt))) lv1 (tk1 + rd sizes i) most ∧ Keep3 g gi gr w w' := by
  have HG := Aside0.mk hG
  have HS := Aside0.mk hS
  have HC := Aside0.mk hC
  have HI := Aside0.mk hh
  have hd : decide (most < rd sizes i) = false := decide_eq_false hb
  have HW := Aside0.mk hw
  have HGR := Aside0.mk hgr
  have HSZ := Aside0.mk hsz
  have HIS := Aside0.mk his
  have HIR := Aside0.mk hirk
  have hs1 := hsz i (by omega)
  have p3 : (i : Int) < (sizes.length : Int) := by omega
  obtain ⟨ad, ea, hx⟩ := Kd.at_int hS i (Int.natCast_nonneg _) p3
  cases ea
  rw [Int.toNat_natCast] at hx
  have HX := Aside0.mk hx
  clear hb hx hw hgr hsz hirk his
  clear hG hS hC hh
  have p0 : (0 : Int) ≤ (i : Int) := Int.natCast_nonneg _
  have p1 : (i : Int) < (ins.length : Int) := by omega
  have p2 : (i : Int) < (rk.length : Int) := by omega
  go_enter Try.func22, Try.ntmps22
  have hmf : ∀ (fn : Fn) (first cap : Array Value) (w : World), (Instr.makeFunc fn first cap).run Try.prog w = .ok (.func fn first cap) w := fun _ _ _ _ => rfl
  go_wp2
  go_step3
  go_wp2
  refine abs1 (fun W => SV w0 w W g gi gr w.heap.size (w.heap.size + 1) (w.heap.size + 1 + 1) (some ad) A1 sizes.length costs.length c0 c1 ins rk lv tk most i false (.slice none 0 0) []) ?_ ?_
  · exact ⟨((HG.out.alloc _).alloc _).alloc _, blk_alloc (blk_alloc (blk_new w _) _) _, blk_alloc (blk_new2 (by simp)) _, blk_new2 (by simp), Kd.R_nil _ _ _ _ _, (((Keep3.refl g gi gr w).step (below_alloc (Below.refl _ _) _)).step (below_alloc (Below.refl _ _) _)).step (below_alloc (Below.refl _ _) _), by omega, by omega, by omega, HG.out.base.size, blk_lt HG.out.1, blk_lt HG.out.2.1, blk_lt HG.out.2.2.1⟩
  generalize w.heap.size + 1 + 1 = bo
  generalize w.heap.size + 1 = bi
  generalize w.heap.size = bc
  intro W1 hV
  have HV := Aside0.mk hV
  obtain ⟨e0, e1, e2, e3, e4, e5⟩ := hV.cells
  obtain ⟨-, -, f2, -, -, -, -⟩ := hV.1.cells
  have f7 := (hV.1.cellI i hi).trans (by rw [HI.out])
  obtain ⟨-, -, -, -, -, -, q1, q2, q3⟩ := hV.nes
  have q4 : bc ≠ bo := by have := hV.2.2.2.2.2.2; omega
  have q5 : bi ≠ bo := by have := hV.2.2.2.2.2.2; omega
  clear hV
  have T : ∀ v, (W1.setCell ⟨bo, 0, none⟩ v).drew.cell? ⟨g, 2, none⟩ = some (.slice (some ⟨gi, 0, none⟩) ins.length ins.length) ∧ (W1.setCell ⟨bo, 0, none⟩ v).drew.cell? ⟨bc, 0, none⟩ = some (.pointer (some ⟨g, 0, none⟩)) ∧ (W1.setCell ⟨bo, 0, none⟩ v).drew.cell? ⟨bi, 0, none⟩ = some (.int .i64 i) ∧ (W1.setCell ⟨bo, 0, none⟩ v).drew.cell? ⟨gi, i, none⟩ = some (.bool false) := fun v => ⟨(cfd (Ne.symm q1)).trans f2, (cfd q4).trans e0, (cfd q5).trans e1, (cfd (Ne.symm q2)).trans f7⟩
  go_wp2
  go_region_held3 (fun W => W.cell? ⟨g, 2, none⟩ = some (.slice (some ⟨gi, 0, none⟩) ins.length ins.length) ∧ W.cell? ⟨bc, 0, none⟩ = some (.pointer (some ⟨g, 0, none⟩)) ∧ W.cell? ⟨bi, 0, none⟩ = some (.int .i64 i) ∧ W.cell? ⟨gi, i, none⟩ = some (.bool false)) (first | go_keep | exact ⟨(cfd (Ne.symm q1)).trans f2, (cfd q4).trans e0, (cfd q5).trans e1, (cfd (Ne.symm q2)).trans f7⟩) (fail)
  refine abs1 (fun W => SV w0 w W g gi gr bc bi bo (some ad) A1 sizes.length costs.length c0 c1 ins rk lv tk most i false (.slice none 0 0) []) (HV.out.drew.setHit false) ?_
  clear HV e0 e1 e2 e3 e4 e5 f2 f7
  intro W2 hV
  have HV := Aside0.mk hV
  obtain ⟨e0, e1, e2, e3, e4, e5⟩ := hV.cells
  clear hV
  obtain ⟨f0, -, -, -, -, f5, f6⟩ := HV.out.gc.cells
  have fx := pw_cell_below HV.out.gc.base HX.out
  go_wp2
  go_quiet (fail)
  go_wp2
  repeat (go_step3; (try go_wp2))
  refine abs1 (fun W => SV w0 w W g gi gr bc bi bo (some ad) A1 sizes.length costs.length c0 c1 ins rk lv tk most i false (.slice none 0 0) []) (HV.out.drewN _) ?_
  clear HV e0 e1 e2 e3 e4 e5 f0 f5 f6 fx hd
  intro W3 hV
  have HV := Aside0.mk hV
  clear hV
  go_loopg [6] fuel (fun kq v6 W => ∃ (ins2 : List Bool) (lv2 tk2 : Int) (outs2 : List Int) (ov : Value), Aside0 (groom kq sizes rk most (rd sizes i) ins2 lv2 tk2 outs2 = some (ins1, lv1, tk1, outs1)) ∧ Aside0 (SV w0 w W g gi gr bc bi bo (some ad) A1 sizes.length costs.length c0 c1 ins2 rk lv2 tk2 most i false ov outs2) ∧ Aside0 (ins2.length = ins.length))
  case atStart => exact ⟨ins, lv, tk, [], .slice none 0 0, HGR, HV, ⟨rfl⟩⟩
  case round =>
    clear HV HGR
    obtain ⟨ins2, lv2, tk2, outs2, ov, HGR, HV, HL2⟩ := hrel
    obtain ⟨A9, c9, hov, -, -⟩ := Kd.R_reads HV.out.own
    subst hov
    obtain ⟨e0, e1, e2, e3, e4, e5⟩ := HV.out.cells
    obtain ⟨f0, -, f2, f3, f4, f5, f6⟩ := HV.out.gc.cells
    have fx := pw_cell_below HV.out.gc.base HX.out
    cases gk with
    | zero => exact absurd HGR.out (by simp [groom])
    | succ k1 =>
    have hgr := HGR.out
    clear HGR
    unfold groom at hgr
    by_cases c1 : 0 ≤ tk2 ∧ tk2 ≤ 1000000 ∧ outs2.length ≤ 1000
    case neg => rw [if_neg c1] at hgr; cases hgr
    rw [if_pos c1] at hgr
    obtain ⟨t0, t1, t2⟩ := c1
    by_cases c2 : most < tk2 + rd sizes i
    case neg =>
      rw [if_neg c2] at hgr
      have HE : Aside0 (ins2 = ins1 ∧ lv2 = lv1 ∧ tk2 = tk1 ∧ outs2 = outs1) := ⟨by simpa using hgr⟩
      clear hgr
      have d2 : decide (most < tk2 + rd sizes i) = false := decide_eq_false c2
      go_wp2
      go_quiet (fail)
      go_wp2
      refine abs1 (fun W => SV w0 w W g gi gr bc bi bo (some ad) A1 sizes.length costs.length c0 c1 ins2 rk lv2 tk2 most i false (.slice A9 outs2.length c9) outs2) (HV.out.drewN _) ?_
      clear HV e0 e1 e2 e3 e4 e5 f0 f2 f3 f4 f5 f6 fx d2
      intro W4 hV
      have HV := Aside0.mk hV
      clear hV
      obtain ⟨e0, e1, e2, e3, e4, e5⟩ := HV.out.cells
      obtain ⟨f0, -, -, -, -, f5, f6⟩ := HV.out.gc.cells
      have fx := pw_cell_below HV.out.gc.base HX.out
      have z5 := blk_frozen HV.out.gc.1 5
      go_still_tail 15, (by kernel_rfl)
      go_wp2_with fail
      have n9 := Aside0.mk (HV.out.setTk (tk2 + rd sizes i)).drew
      clear HV e0 e1 e2 e3 e4 e5 f0 f5 f6 fx z5
      have HV := n9
      clear n9
      have hl2 : i < ins2.length := by have := HL2.out; omega
      have hl3 : ins2.length ≤ 64 := by have := HL2.out; omega
      go_wp2_with (go_at_call 39; (with_reducible refine (gds_rank_calls k w0 _ g gi gr bc bi (some ad) A1 c0 c1 sizes costs ins2 rk lv2 (tk2 + rd sizes i) most wt i (by exact HV.out.gc) HS.out hSc HC.out hCc (by exact HV.out.hbc) (by exact HV.out.hbi) hl2 hir hl3 HW.out).mono ?_); rintro e w9 ⟨rfl, hg9, hk9⟩; have n9 := Aside0.mk (HV.out.turn hg9 hk9); clear hg9 hk9 HV; have HV := n9; clear n9; obtain ⟨e0, e1, e2, e3, e4, e5⟩ := HV.out.cells)
      rw [Exit.noGoto_ret]
      obtain ⟨rfl, rfl, rfl, rfl⟩ := HE.out
      have HF := HV.out.setSame
      obtain ⟨y0, y1, y2, y3, y4, y5⟩ := HF.cells
      exact bodyPost_ret (v := .agg #[.bool false, .slice A9 outs2.length c9]) (by simp [results, Try.results22, go_sem, y2, y3]) rfl HF.post
    case pos =>
      rw [if_pos c2] at hgr
      have d2 : decide (most < tk2 + rd sizes i) = true := decide_eq_true c2
      obtain ⟨x, hx⟩ : ∃ x, x = gleast ins2 rk := ⟨_, rfl⟩
      rw [← hx] at hgr
      have hx2 : -1 ≤ x ∧ x < ins2.length := by rw [hx]; exact gto_range ins2 rk ins2.length
      have HXL := Aside0.mk hx
      clear hx
      by_cases c3 : x < 0
      · rw [if_pos c3] at hgr
        have HE : Aside0 (ins2 = ins1 ∧ lv2 = lv1 ∧ tk2 = tk1 ∧ outs2 = outs1) := ⟨by simpa using hgr⟩
        clear hgr
        have d3 : decide (x < 0) = true := decide_eq_true c3
        go_wp2
        go_quiet (fail)
        refine abs1 (fun W => SV w0 w W g gi gr bc bi bo (some ad) A1 sizes.length costs.length c0 c1 ins2 rk lv2 tk2 most i false (.slice A9 outs2.length c9) outs2) (HV.out.drewN _) ?_
        clear HV e0 e1 e2 e3 e4 e5 f0 f2 f3 f4 f5 f6 fx
        intro W4 hV
        have HV := Aside0.mk hV
        obtain ⟨e0, -, -, -, -, -⟩ := hV.cells
        clear hV
        go_wp2_with (go_at_call 40; (with_reducible refine (gds_least_calls _ g gi gr _ ins2 rk (by exact HV.out.gc.hg) rfl rfl (by exact HV.out.gc.hgi) (by exact HV.out.gc.hgr) (by have := HIR.out; have := HL2.out; omega) (by have := HL2.out; omega)).mono ?_); rintro e w9 ⟨rfl, hD⟩; rw [← HXL.out]; have n9 := Aside0.mk (HV.out.drawn hD); clear hD HV e0; have HV := n9; clear n9)
        obtain ⟨e0, e1, e2, e3, e4, e5⟩ := HV.out.cells
        obtain ⟨f0, -, -, -, -, f5, f6⟩ := HV.out.gc.cells
        have fx := pw_cell_below HV.out.gc.base HX.out
        have z5 := blk_frozen HV.out.gc.1 5
        go_still_tail 15, (by kernel_rfl)
        go_wp2_with fail
        have n9 := Aside0.mk (HV.out.setTk (tk2 + rd sizes i)).drew
        clear HV e0 e1 e2 e3 e4 e5 f0 f5 f6 fx z5
        have HV := n9
        clear n9
        have hl2 : i < ins2.length := by have := HL2.out; omega
        have hl3 : ins2.length ≤ 64 := by have := HL2.out; omega
        go_wp2_with (go_at_call 39; (with_reducible refine (gds_rank_calls k w0 _ g gi gr bc bi (some ad) A1 c0 c1 sizes costs ins2 rk lv2 (tk2 + rd sizes i) most wt i (by exact HV.out.gc) HS.out hSc HC.out hCc (by exact HV.out.hbc) (by exact HV.out.hbi) hl2 hir hl3 HW.out).mono ?_); rintro e w9 ⟨rfl, hg9, hk9⟩; have n9 := Aside0.mk (HV.out.turn hg9 hk9); clear hg9 hk9 HV; have HV := n9; clear n9; obtain ⟨e0, e1, e2, e3, e4, e5⟩ := HV.out.cells)
        rw [Exit.noGoto_ret]
        obtain ⟨rfl, rfl, rfl, rfl⟩ := HE.out
        have HF := HV.out.setSame
        obtain ⟨y0, y1, y2, y3, y4, y5⟩ := HF.cells
        exact bodyPost_ret (v := .agg #[.bool false, .slice A9 outs2.length c9]) (by simp [results, Try.results22, go_sem, y2, y3]) rfl HF.post
      · rw [if_neg c3] at hgr
        obtain ⟨b, rfl⟩ : ∃ b : Nat, x = b := ⟨x.toNat, by omega⟩
        rw [Int.toNat_natCast] at hgr
        have HGR := Aside0.mk hgr
        clear hgr c3
        have d3 : decide ((b : Int) < 0) = false := decide_eq_false (by omega)
        have b1 : b < ins2.length := by omega
        have b2 : (b : Int) < (ins2.length : Int) := by omega
        have b3 : (b : Int) < (rk.length : Int) := by have := HIR.out; have := HL2.out; omega
        have b4 : (b : Int) < (sizes.length : Int) := by have := HIS.out; have := HL2.out; omega
        have b5 : b < rk.length := by omega
        have b6 := HSZ.out b (by omega)
        go_wp2
        go_quiet (fail)
        refine abs1 (fun W => SV w0 w W g gi gr bc bi bo (some ad) A1 sizes.length costs.length c0 c1 ins2 rk lv2 tk2 most i false (.slice A9 outs2.length c9) outs2) (HV.out.drewN _) ?_
        clear HV e0 e1 e2 e3 e4 e5 f0 f2 f3 f4 f5 f6 fx
        intro W4 hV
        have HV := Aside0.mk hV
        obtain ⟨e0, -, -, -, -, -⟩ := hV.cells
        clear hV
        go_wp2_with (go_at_call 40; (with_reducible refine (gds_least_calls _ g gi gr _ ins2 rk (by exact HV.out.gc.hg) rfl rfl (by exact HV.out.gc.hgi) (by exact HV.out.gc.hgr) (by have := HIR.out; have := HL2.out; omega) (by have := HL2.out; omega)).mono ?_); rintro e w9 ⟨rfl, hD⟩; rw [← HXL.out]; have n9 := Aside0.mk (HV.out.drawn hD); clear hD HV e0; have HV := n9; clear n9)
        obtain ⟨e0, e1, e2, e3, e4, e5⟩ := HV.out.cells
        obtain ⟨f0, -, f2, f3, f4, f5, f6⟩ := HV.out.gc.cells
        have f7 := HV.out.gc.cellI b b1
        have f8 := HV.out.gc.cellR b b5
        have z1 := blk_frozen HV.out.gc.hgi b
        have z2 := blk_frozen HV.out.gc.hg 4
        have m := HV.out.gc.ne
        have T1 := ((HV.out.setIn b false).drew).cells
        have T2 := ((HV.out.setIn b false).drew).gc.cells
        have T3 := ((HV.out.setIn b false).drew).gc.cellR b b5
        have T4 := (((HV.out.setIn b false).setLv (rd rk b)).drew).cells
        have T5 := (((HV.out.setIn b false).setLv (rd rk b)).drew).gc.cells
        have T6 := (((HV.out.setIn b false).setLv (rd rk b)).drew).gc.cellR b b5
        rw [List.length_set] at T2 T5
        go_region_held3 (fun W => W.cell? ⟨g, 2, none⟩ = some (.slice (some ⟨gi, 0, none⟩) ins2.length ins2.length) ∧ W.cell? ⟨g, 3, none⟩ = some (.slice (some ⟨gr, 0, none⟩) rk.length rk.length) ∧ W.cell? ⟨bc, 0, none⟩ = some (.pointer (some ⟨g, 0, none⟩)) ∧ W.cell? ⟨gr, b, none⟩ = some (.int .u64 (rd rk b))) (first | go_keep | exact ⟨T2.2.2.1, T2.2.2.2.1, T1.1, T3⟩ | exact ⟨T5.2.2.1, T5.2.2.2.1, T4.1, T6⟩) (fail)
        refine abs1 (fun W => SV w0 w W g gi gr bc bi bo (some ad) A1 sizes.length costs.length c0 c1 (ins2.set b false) rk (rd rk b) tk2 most i false (.slice A9 outs2.length c9) outs2) ((HV.out.setIn b false).setLv (rd rk b)).drew ?_
        clear HV e0 e1 e2 e3 e4 e5 f0 f2 f3 f4 f5 f6 f7 f8 z1 z2 T1 T2 T3 T4 T5 T6 d2 d3
        intro W5 hV
        have HV := Aside0.mk hV
        clear hV
        obtain ⟨e0, e1, e2, e3, e4, e5⟩ := HV.out.cells
        obtain ⟨f0, -, f2, f3, f4, f5, f6⟩ := HV.out.gc.cells
        obtain ⟨ad2, ea, fy⟩ := Kd.at_int HS.out b (Int.natCast_nonneg _) b4
        obtain rfl : ad = ad2 := by injection ea
        rw [Int.toNat_natCast] at fy
        replace fy := pw_cell_below HV.out.gc.base fy
        have z5 := blk_frozen HV.out.gc.hg 5
        have b7 := b6.1
        have b8 := b6.2
        have HV5 := Aside0.mk (HV.out.setTk (tk2 - rd sizes b)).drew
        go_wp2
        go_still_tail 15, (by kernel_rfl)
        go_wp2_with (first | ((with_reducible refine gate_dst (N := 88) rfl ?_); refine abs1 (fun W => SV w0 w W g gi gr bc bi bo (some ad) A1 sizes.length costs.length c0 c1 (ins2.set b false) rk (rd rk b) (tk2 - rd sizes b) most i false (.slice A9 outs2.length c9) outs2) (by exact HV5.out) ?_; clear HV HV5 e0 e1 e2 e3 e4 e5 f0 f2 f3 f4 f5 f6 fy z5; intro W6 hV; have HV := Aside0.mk hV; clear hV; have e3 := HV.out.cells.2.2.2.1) | ((with_reducible refine gate_builtin (b := .append) (xs := #[.tmp 89, .tmp 91]) rfl ?_); at_builtin; refine Kd.R_append (Kd.int .i64) (w0 := W6) w.heap.size rfl (.tmp 89) (.tmp 91) 22 3 (.int .i64 0) 8 rfl Try.underlying22 gds_infoI rfl (by decide) (by omega) (.slice A9 outs2.length c9) outs2 (b : Int) [.int .i64 b] (fun k => bo < k) (fun _ => False) rfl rfl ?aP (fun _ hk => hk.elim) ?aF ?aO ?aB ?aS ?aL ?_; (case aP => exact rfl); (case aB => exact Below.refl _ _); (case aF => exact (fun x hx => Nat.lt_of_lt_of_le (blk_lt HV.out.hbo) hx)); (case aO => exact HV.out.own); (case aS => exact HV.out.keep.1); (case aL => omega); intro v9 w9 ho hb hg hat; obtain ⟨A8, c8, hv8, -, -⟩ := Kd.R_reads ho; obtain ⟨n8, hn8⟩ : ∃ n8, n8 = (outs2 ++ [(b : Int)]).length := ⟨_, rfl⟩; rw [← hn8] at hv8; subst hv8; have HN8 := Aside0.mk hn8; clear hn8; have HA := Aside0.mk (HV.out.app ho hb hg); have HA0 := HV.out.app0 hb hg; have y3 := (blk_cell HA0.2.2.2.1 1).trans (show _ = some (Value.slice A9 outs2.length c9) from rfl); have y5 := blk_frozen HA0.2.2.2.1 1; clear HA0 ho hb hg hat))
        go_roundg k1
        case measure => omega
        case rel => exact ⟨_, _, _, _, _, HGR, HA, ⟨by rw [List.length_set]; exact HL2.out⟩⟩
def gserve (k : Nat) (sizes costs : List Int) (most : Int) (ins : List Bool) (rk : List Int) (lv tk : Int) (i : Nat) : Option (List Bool × List Int × Int × Int × Bool × List Int) :=
  if ins.getD i false = true then (gds_things_weight.f k sizes costs i).bind fun wt => some (ins.set i true, rk.set i (IntKind.u64.wrap (lv + wt)), lv, tk, true, [])
  else if most < rd sizes i then some (ins, rk, lv, tk, false, [])
  else (groom k sizes rk most (rd sizes i) ins lv tk []).bind fun r => (gds_things_weight.f k sizes costs i).bind fun wt => some (r.1.set i true, rk.set i (IntKind.u64.wrap (r.2.1 + wt)), r.2.1, r.2.2.1 + rd sizes i, false, r.2.2.2)
theorem groom_mono : ∀ k sizes rk most sz ins lv tk outs, LeO (groom k sizes rk most sz ins lv tk outs) (groom (k + 1) sizes rk most sz ins lv tk outs)
  | 0 => fun _ _ _ _ _ _ _ _ r h => by simp [groom] at h
  | k + 1 => fun sizes rk most sz ins lv tk outs => by
    have ih := groom_mono k
    rw [groom, groom]
    exact LeO.ite (LeO.ite (LeO.ite (LeO.refl _) (ih _ _ _ _ _ _ _ _)) (LeO.refl _)) (LeO.refl _)
theorem gserve_mono (k sizes costs most ins rk lv tk i) : LeO (gserve k sizes costs most ins rk lv tk i) (gserve (k + 1) sizes costs most ins rk lv tk i) := by
  unfold gserve
  exact LeO.ite (LeO.bind (gds_things_weight.mono _ _ _ _) (fun _ => LeO.refl _)) (LeO.ite (LeO.refl _) (LeO.bind (groom_mono _ _ _ _ _ _ _ _ _) (fun _ => LeO.bind (gds_things_weight.mono _ _ _ _) (fun _ => LeO.refl _))))
theorem gds_serve_calls (k : Nat) (w0 w : World) (g gi gr : Nat) (A0 A1 : Option Addr) (c0 c1 : Nat) (sizes costs : List Int) (ins : List Bool) (rk : List Int) (lv tk most : Int) (i : Nat) (ins1 : List Bool) (rk1 : List Int) (lv1 tk1 : Int) (hit : Bool) (outs : List Int)
    (hG : GC w0 w g gi gr A0 A1 sizes.length costs.length c0 c1 ins rk lv tk most) (hS : Kd.C (Kd.int .i64) w0 A0 sizes.length sizes) (hSc : sizes.length ≤ c0) (hC : Kd.C (Kd.int .i64) w0 A1 costs.length costs) (hCc : costs.length ≤ c1)
    (hi : i < ins.length) (his : ins.length = sizes.length) (hirk : rk.length = ins.length) (hm : ins.length ≤ 64) (hsz : ∀ j : Nat, j < sizes.length → 0 ≤ rd sizes j ∧ rd sizes j ≤ 4096) (hmo : 0 ≤ most ∧ most ≤ 65536)
    (h : gserve k sizes costs most ins rk lv tk i = some (ins1, rk1, lv1, tk1, hit, outs)) :
    Calls Try.prog 22 #[.pointer (some ⟨g, 0, none⟩), .int .i64 i] w fun e w' => ∃ v, e = .returned (.agg #[.bool hit, v]) ∧ (Kd.int .i64).R 3 w' w.heap.size (fun k => w.heap.size ≤ k) v outs ∧ GC w0 w' g gi gr A0 A1 sizes.length costs.length c0 c1 ins1 rk1 lv1 tk1 most ∧ Keep3 g gi gr w w' := by
  unfold gserve at h
  have hir : i < rk.length := by omega
  by_cases c : ins.getD i false = true
  · rw [if_pos c] at h
    obtain ⟨wt, hw, h⟩ := Option.bind_eq_some_iff.mp h
    simp only [Option.some.injEq, Prod.mk.injEq] at h
    obtain ⟨rfl, rfl, rfl, rfl, rfl, rfl⟩ := h
    exact gds_serve_hit k w0 w g gi gr A0 A1 c0 c1 sizes costs ins rk lv tk most wt i hG hS hSc hC hCc hi hir hm hw c
  · rw [if_neg c] at h
    have c' : ins.getD i false = false := Bool.eq_false_iff.mpr c
    by_cases d : most < rd sizes i
    · rw [if_pos d] at h
      simp only [Option.some.injEq, Prod.mk.injEq] at h
      obtain ⟨rfl, rfl, rfl, rfl, rfl, rfl⟩ := h
      exact gds_serve_big w0 w g gi gr A0 A1 c0 c1 sizes costs ins rk lv tk most i hG hS hSc hC hCc hi hir hm (by omega) d c'
    · rw [if_neg d] at h
      obtain ⟨⟨i1, l1, t1, o1⟩, hg, h⟩ := Option.bind_eq_some_iff.mp h
      obtain ⟨wt, hw, h⟩ := Option.bind_eq_some_iff.mp h
      simp only [Option.some.injEq, Prod.mk.injEq] at h
      obtain ⟨rfl, rfl, rfl, rfl, rfl, rfl⟩ := h
      exact gds_serve_room k k w0 w g gi gr A0 A1 c0 c1 sizes costs ins rk lv tk most i i1 l1 t1 wt o1 hG hS hSc hC hCc hi hir hm his hirk hsz hmo d c' hw hg

end Go.Proofs.Ytmacngkgokibeaa.Print
