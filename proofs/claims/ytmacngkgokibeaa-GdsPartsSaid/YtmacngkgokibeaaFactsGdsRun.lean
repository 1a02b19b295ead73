
/- What a run of gds does, call by call: plain facts about the Lean functions that answer as the printed and the given ones do. -/
import Derived.Test.YtmacngkgokibeaaFactsNum
import Derived.Test.YtmacngkgokibeaaFactsWide
import Derived.Test.YtmacngkgokibeaaFactsWord
import Derived.Test.YtmacngkgokibeaaFactsGds
import Derived.Test.YtmacngkgokibeaaPrint1
import Derived.Test.YtmacngkgokibeaaPrint3
import Derived.Test.YtmacngkgokibeaaPrint4
namespace Go.Proofs.Ytmacngkgokibeaa.Facts
set_option linter.unusedVariables false
set_option linter.unusedSimpArgs false
open Go.RowKit Go.Proofs.Ytmacngkgokibeaa.Print Go.Proofs.YtmacngkgokibeaaW.PrintWords Go.Proofs.YtmacngkgokibeaaW.PrintLast Go.Proofs.YtmacngkgokibeaaW.PrintMore
def goodAt (l1 l2 : List Int) (j : Nat) : Prop := (1 ≤ rd l1 j ∧ rd l1 j ≤ 4096) ∧ (0 ≤ rd l2 j ∧ rd l2 j ≤ 1048576)
def wOK (l1 l2 : List Int) : Prop := l1.length = l2.length ∧ l1.length ≤ 64 ∧ ∀ j : Nat, j < l1.length → goodAt l1 l2 j
theorem nw64s (i : Nat) (h : i ≤ 1000000) : wrap64 ((i : Int) + 1) = ((i + 1 : Nat) : Int) := by unfold wrap64; omega
theorem gds_wrong_l0 (l1 l2 : List Int) (hl : l1.length = l2.length) (hn : l1.length ≤ 1000) : ∀ (d k j : Nat), j + d = l1.length → d < k → ∃ b, gds_wrong.l0 k l1 l1.length j l1 l2 = some b ∧ (b = false ↔ ∀ i, j ≤ i → i < l1.length → goodAt l1 l2 i)
  | 0, k, j, hj, hk => by
    obtain ⟨k, rfl⟩ : ∃ m, k = m + 1 := ⟨k - 1, by omega⟩
    rw [gds_wrong.l0, if_neg (by omega)]
    exact ⟨false, rfl, fun _ i h1 h2 => by omega, fun _ => rfl⟩
  | d + 1, k, j, hj, hk => by
    obtain ⟨k, rfl⟩ : ∃ m, k = m + 1 := ⟨k - 1, by omega⟩
    obtain ⟨b, hb, hb2⟩ := gds_wrong_l0 l1 l2 hl hn d k (j + 1) (by omega) (by omega)
    rw [gds_wrong.l0, if_pos (by omega), if_pos (by omega), if_pos (by omega), nw64s j (by omega), hb]
    by_cases c1 : rd l1 j < 1
    · rw [if_pos c1]; exact ⟨true, rfl, fun h => (nomatch h), fun h => by have := h j (Nat.le_refl _) (by omega); unfold goodAt at this; omega⟩
    rw [if_neg c1]
    by_cases c2 : rd l1 j > 4096
    · rw [if_pos c2]; exact ⟨true, rfl, fun h => (nomatch h), fun h => by have := h j (Nat.le_refl _) (by omega); unfold goodAt at this; omega⟩
    rw [if_neg c2, if_pos (by omega)]
    by_cases c3 : rd l2 j < 0
    · rw [if_pos c3]; exact ⟨true, rfl, fun h => (nomatch h), fun h => by have := h j (Nat.le_refl _) (by omega); unfold goodAt at this; omega⟩
    rw [if_neg c3]
    by_cases c4 : rd l2 j > 1048576
    · rw [if_pos c4]; exact ⟨true, rfl, fun h => (nomatch h), fun h => by have := h j (Nat.le_refl _) (by omega); unfold goodAt at this; omega⟩
    rw [if_neg c4]
    refine ⟨b, rfl, fun h i h1 h2 => ?_, fun h => hb2.mpr (fun i h1 h2 => h i (by omega) h2)⟩
    rcases Nat.lt_or_ge j i with q | q
    · exact hb2.mp h i q h2
    · obtain rfl : i = j := by omega
      unfold goodAt; omega
theorem gds_wrong_spec (k : Nat) (hk : 1010 ≤ k) (l1 l2 : List Int) (hn : l1.length ≤ 1000) : ∃ b, gds_wrong.f k l1 l2 = some b ∧ (b = false ↔ wOK l1 l2) := by
  unfold gds_wrong.f
  obtain ⟨k, rfl⟩ : ∃ m, k = m + 1 := ⟨k - 1, by omega⟩
  by_cases c : (l1.length : Int) = (l2.length : Int)
  · rw [if_pos c, gds_wrong.j0]
    by_cases d : (l1.length : Int) > 64
    · rw [decide_eq_true d, if_pos rfl]
      exact ⟨true, rfl, fun h => (nomatch h), fun h => by have := h.2.1; omega⟩
    · rw [decide_eq_false d, if_neg (by decide)]
      obtain ⟨b, hb, hb2⟩ := gds_wrong_l0 l1 l2 (by omega) hn l1.length k 0 (by omega) (by omega)
      refine ⟨b, hb, fun h => ⟨by omega, by omega, fun j hj => hb2.mp h j (Nat.zero_le _) hj⟩, fun h => hb2.mpr (fun i _ hi => h.2.2 i hi)⟩
  · rw [if_neg c, gds_wrong.j0, if_pos rfl]
    exact ⟨true, rfl, fun h => (nomatch h), fun h => absurd h.1 (by omega)⟩
/-- An object's weight. -/
def gwt (l1 l2 : List Int) (i : Nat) : Int := wS (rd l2 i) (rd l1 i)
theorem things_weight_eq (k : Nat) (hk : 21 ≤ k) {l1 l2 : List Int} (h : wOK l1 l2) (i : Nat) (hi : i < l1.length) : gds_things_weight.f k l1 l2 i = some (gwt l1 l2 i) := by
  have g := h.2.2 i hi
  unfold goodAt at g
  unfold gds_things_weight.f
  have hl := h.1
  rw [if_pos (by omega), if_pos (by omega), word_Of_eq (by omega), Option.bind_some, if_pos (by omega), word_Of_eq (by omega), Option.bind_some,
    gds_Weight_1 k hk 1 (c := max (rd l2 i) 0) (s := max (rd l1 i) 0) ⟨by omega, by omega⟩ ⟨by omega, by omega⟩, Option.bind_some]
  unfold gwt
  rw [show max (rd l2 i) 0 = rd l2 i by omega, show max (rd l1 i) 0 = rd l1 i by omega]
theorem gwt_range {l1 l2 : List Int} (h : wOK l1 l2) (i : Nat) (hi : i < l1.length) : 0 ≤ gwt l1 l2 i ∧ gwt l1 l2 i ≤ 1099511627776 := by
  have g := h.2.2 i hi
  unfold goodAt at g
  unfold gwt wS
  have h1 : rd l2 i * 1048576 / rd l1 i ≤ 1099511627776 := by
    apply Int.ediv_le_of_le_mul (by omega)
    have := Int.mul_le_mul_of_nonneg_left g.1.1 (show (0 : Int) ≤ 1099511627776 by decide)
    omega
  have h0 : 0 ≤ rd l2 i * 1048576 / rd l1 i := Int.ediv_nonneg (by omega) (by omega)
  rw [if_neg (by omega), if_pos ⟨by omega, by omega⟩]
  exact ⟨h0, h1⟩
/-! ### who is in, and what they take -/
def bn (b : Bool) : Nat := if b then 1 else 0
def gcnt (ins : List Bool) : Nat := ins.countP (fun b => b)
def gsum : List Bool → List Int → Int
  | [], _ => 0
  | b :: bs, ss => (if b then ss.headD 0 else 0) + gsum bs ss.tail
theorem rd_zero (ss : List Int) : rd ss (0 : Nat) = ss.headD 0 := by cases ss <;> rfl
theorem rd_tail (ss : List Int) (j : Nat) : rd ss.tail j = rd ss (j + 1 : Nat) := by
  unfold rd
  rw [Int.toNat_natCast, Int.toNat_natCast]
  cases ss <;> simp
theorem gsum_set_out : ∀ (ins : List Bool) (ss : List Int) (b : Nat), ins.getD b false = true → gsum (ins.set b false) ss = gsum ins ss - rd ss b
  | [], ss, b, h => by simp at h
  | x :: xs, ss, 0, h => by
    have hx : x = true := by simpa using h
    subst hx
    simp only [List.set_cons_zero, gsum, rd_zero]
    simp
    omega
  | x :: xs, ss, b + 1, h => by
    simp only [List.set_cons_succ, gsum]
    rw [gsum_set_out xs ss.tail b (by simpa using h), rd_tail]
    omega
theorem gsum_set_in : ∀ (ins : List Bool) (ss : List Int) (b : Nat), b < ins.length → ins.getD b false = false → gsum (ins.set b true) ss = gsum ins ss + rd ss b
  | [], ss, b, h0, h => by simp at h0
  | x :: xs, ss, 0, h0, h => by
    have hx : x = false := by simpa using h
    subst hx
    simp only [List.set_cons_zero, gsum, rd_zero]
    simp
    omega
  | x :: xs, ss, b + 1, h0, h => by
    simp only [List.set_cons_succ, gsum]
    rw [gsum_set_in xs ss.tail b (by simpa using h0) (by simpa using h), rd_tail]
    omega
theorem gsum_bounds : ∀ (ins : List Bool) (ss : List Int), (∀ j : Nat, j < ins.length → 0 ≤ rd ss j ∧ rd ss j ≤ 4096) → 0 ≤ gsum ins ss ∧ gsum ins ss ≤ 4096 * gcnt ins
  | [], ss, _ => by simp [gsum, gcnt]
  | x :: xs, ss, h => by
    have ih := gsum_bounds xs ss.tail (fun j hj => by rw [rd_tail]; exact h (j + 1) (by simp; omega))
    have h0 := h 0 (by simp)
    rw [rd_zero] at h0
    have hg : gsum (x :: xs) ss = (if x then ss.headD 0 else 0) + gsum xs ss.tail := rfl
    have hc : gcnt (x :: xs) = gcnt xs + (if x then 1 else 0) := by unfold gcnt; cases x <;> simp
    rw [hg, hc]
    generalize gsum xs ss.tail = u at *
    generalize ss.headD 0 = v at *
    cases x <;> simp <;> omega
theorem gcnt_le (ins : List Bool) : gcnt ins ≤ ins.length := List.countP_le_length
theorem gcnt_set_out : ∀ (ins : List Bool) (b : Nat), ins.getD b false = true → gcnt (ins.set b false) + 1 = gcnt ins
  | [], b, h => by simp at h
  | x :: xs, 0, h => by
    have hx : x = true := by simpa using h
    subst hx
    simp [gcnt]
  | x :: xs, b + 1, h => by
    have ih := gcnt_set_out xs b (by simpa using h)
    unfold gcnt at *
    cases x <;> simp <;> omega
theorem gcnt_set_in : ∀ (ins : List Bool) (b : Nat), b < ins.length → ins.getD b false = false → gcnt (ins.set b true) = gcnt ins + 1
  | [], b, h0, h => by simp at h0
  | x :: xs, 0, h0, h => by
    have hx : x = false := by simpa using h
    subst hx
    simp [gcnt]
  | x :: xs, b + 1, h0, h => by
    have ih := gcnt_set_in xs b (by simpa using h0) (by simpa using h)
    unfold gcnt at *
    cases x <;> simp <;> omega
theorem set_same {ins : List Bool} {b : Nat} (h : ins.getD b false = true) : ins.set b true = ins := by
  apply List.ext_getElem?
  intro i
  rw [List.getElem?_set]
  by_cases c : b = i
  · subst c
    rw [if_pos rfl]
    have hb : b < ins.length := by
      rcases Nat.lt_or_ge b ins.length with q | q
      · exact q
      · rw [List.getD_eq_getElem?_getD, List.getElem?_eq_none q] at h; simp at h
    rw [if_pos hb, List.getElem?_eq_getElem hb]
    rw [List.getD_eq_getElem?_getD, List.getElem?_eq_getElem hb] at h
    simpa using h.symm
  · rw [if_neg c]
/-- The least of those who are in: none, or one of them. -/
theorem gto_in (ins : List Bool) (rk : List Int) : ∀ j, (gto ins rk j < 0 → ∀ i, i < j → ins.getD i false = false) ∧ (0 ≤ gto ins rk j → ins.getD (gto ins rk j).toNat false = true)
  | 0 => ⟨fun _ i hi => absurd hi (Nat.not_lt_zero _), fun h => absurd h (by simp [gto])⟩
  | j + 1 => by
    obtain ⟨h1, h2⟩ := gto_in ins rk j
    unfold gto gstep
    by_cases c : ins.getD j false = true
    · rw [if_pos c]
      have hj : ((j : Int)).toNat = j := Int.toNat_natCast j
      by_cases d : gto ins rk j < 0
      · rw [if_pos d]; exact ⟨fun h => by omega, fun _ => by rw [hj]; exact c⟩
      · rw [if_neg d]
        split
        · exact ⟨fun h => by omega, fun _ => by rw [hj]; exact c⟩
        · exact ⟨fun h => absurd h d, h2⟩
    · rw [if_neg c]
      refine ⟨fun h i hi => ?_, h2⟩
      rcases Nat.lt_or_ge i j with q | q
      · exact h1 h i q
      · obtain rfl : i = j := by omega
        exact Bool.eq_false_iff.mpr c
theorem gleast_none {ins : List Bool} {rk : List Int} (h : gleast ins rk < 0) : ∀ i, ins.getD i false = false := fun i => by
  rcases Nat.lt_or_ge i ins.length with q | q
  · exact (gto_in ins rk ins.length).1 h i q
  · rw [List.getD_eq_getElem?_getD, List.getElem?_eq_none q]; rfl
theorem gleast_some {ins : List Bool} {rk : List Int} (h : ¬ gleast ins rk < 0) : ∃ b : Nat, gleast ins rk = b ∧ b < ins.length ∧ ins.getD b false = true := by
  have r := gto_range ins rk ins.length
  refine ⟨(gleast ins rk).toNat, by omega, by unfold gleast at *; omega, (gto_in ins rk ins.length).2 (by unfold gleast at h; omega)⟩
theorem gsum_none : ∀ (ins : List Bool) (ss : List Int), (∀ i, ins.getD i false = false) → gsum ins ss = 0
  | [], ss, _ => rfl
  | x :: xs, ss, h => by
    have hx : x = false := by simpa using h 0
    subst hx
    unfold gsum
    rw [gsum_none xs ss.tail (fun i => by simpa using h (i + 1))]
    simp
/-- Who goes out, one behind the other: each was in, and had to. -/
inductive Chain (sizes : List Int) (most sz : Int) : List Bool → List Int → List Bool → Prop
  | nil (ins) : Chain sizes most sz ins [] ins
  | cons (ins : List Bool) (b : Nat) (os : List Int) (ins' : List Bool) (hb : b < ins.length) (hi : ins.getD b false = true) (hm : most < gsum ins sizes + sz) (h : Chain sizes most sz (ins.set b false) os ins') : Chain sizes most sz ins ((b : Int) :: os) ins'
theorem Chain.len {sizes : List Int} {most sz : Int} {ins ins' : List Bool} {os : List Int} (h : Chain sizes most sz ins os ins') : ins'.length = ins.length := by
  induction h with
  | nil => rfl
  | cons ins b os ins' hb hi hm h ih => rw [ih, List.length_set]
theorem Chain.out {sizes : List Int} {most sz : Int} {ins ins' : List Bool} {os : List Int} (h : Chain sizes most sz ins os ins') (i : Nat) (hi : ins.getD i false = false) : ins'.getD i false = false := by
  induction h with
  | nil => exact hi
  | cons ins b os ins' hb hi2 hm h ih =>
    apply ih
    rw [List.getD_eq_getElem?_getD, List.getElem?_set]
    by_cases c : b = i
    · rw [if_pos c]; split <;> rfl
    · rw [if_neg c, ← List.getD_eq_getElem?_getD]; exact hi
theorem Chain.lenLe {sizes : List Int} {most sz : Int} {ins ins' : List Bool} {os : List Int} (h : Chain sizes most sz ins os ins') : os.length + gcnt ins' = gcnt ins := by
  induction h with
  | nil => simp
  | cons ins b os ins' hb hi hm h ih => have := gcnt_set_out ins b hi; simp; omega
theorem groom_spec (sizes rk : List Int) (most sz : Int) (hsz : ∀ j : Nat, j < sizes.length → 0 ≤ rd sizes j ∧ rd sizes j ≤ 4096) (hle : sz ≤ most) : ∀ (d k : Nat) (ins : List Bool) (lv : Int) (outs : List Int), ins.length = sizes.length → ins.length ≤ 64 → gcnt ins ≤ d → d < k → outs.length + d ≤ 1000 →
    ∃ ins' lv' os, groom k sizes rk most sz ins lv (gsum ins sizes) outs = some (ins', lv', gsum ins' sizes, outs ++ os) ∧ Chain sizes most sz ins os ins' ∧ gsum ins' sizes + sz ≤ most := by
  intro d
  induction d with
  | zero =>
    intro k ins lv outs hl h64 hc hk ho
    obtain ⟨k, rfl⟩ : ∃ m, k = m + 1 := ⟨k - 1, by omega⟩
    have hb := gsum_bounds ins sizes (fun j hj => hsz j (by omega))
    rw [groom, if_pos ⟨hb.1, by have := gcnt_le ins; omega, by omega⟩]
    have hs0 : gsum ins sizes = 0 := by omega
    rw [if_neg (by omega)]
    exact ⟨ins, lv, [], by simp, .nil _, by omega⟩
  | succ d ih =>
    intro k ins lv outs hl h64 hc hk ho
    obtain ⟨k, rfl⟩ : ∃ m, k = m + 1 := ⟨k - 1, by omega⟩
    have hb := gsum_bounds ins sizes (fun j hj => hsz j (by omega))
    rw [groom, if_pos ⟨hb.1, by have := gcnt_le ins; omega, by omega⟩]
    by_cases c : most < gsum ins sizes + sz
    · rw [if_pos c]
      by_cases e : gleast ins rk < 0
      · have := gsum_none ins sizes (gleast_none e)
        omega
      · rw [if_neg e]
        obtain ⟨b, hb1, hb2, hb3⟩ := gleast_some e
        rw [hb1, Int.toNat_natCast, ← gsum_set_out ins sizes b hb3]
        obtain ⟨ins', lv', os, h1, h2, h3⟩ := ih k (ins.set b false) (rd rk b) (outs ++ [(b : Int)]) (by rw [List.length_set]; exact hl) (by rw [List.length_set]; exact h64) (by have := gcnt_set_out ins b hb3; omega) (by omega) (by simp; omega)
        exact ⟨ins', lv', (b : Int) :: os, by rw [h1]; simp, .cons ins b os ins' hb2 hb3 c h2, h3⟩
    · rw [if_neg c]
      exact ⟨ins, lv, [], by simp, .nil _, by omega⟩
end Go.Proofs.Ytmacngkgokibeaa.Facts
