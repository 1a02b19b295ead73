
/- Two lists of what became of calls that are one list; and what misses cost: plain facts. -/
import Derived.Test.YtmacngkgokibeaaFactsNum
import Derived.Test.YtmacngkgokibeaaFactsWide
import Derived.Test.YtmacngkgokibeaaFactsWord
import Derived.Test.YtmacngkgokibeaaFactsGds
import Derived.Test.YtmacngkgokibeaaFactsGdsRun
import Derived.Test.YtmacngkgokibeaaFactsGdsRuns
import Derived.Test.YtmacngkgokibeaaPrint0
import Derived.Test.YtmacngkgokibeaaPrint1
import Derived.Test.YtmacngkgokibeaaPrint5
import Derived.Test.YtmacngkgokibeaaPrint6
namespace Go.Proofs.Ytmacngkgokibeaa.Facts
set_option linter.unusedVariables false
set_option linter.unusedSimpArgs false
open Go.RowKit Go.Proofs.Ytmacngkgokibeaa.Print Go.Proofs.YtmacngkgokibeaaW.PrintWords Go.Proofs.YtmacngkgokibeaaW.PrintLast Go.Proofs.YtmacngkgokibeaaW.PrintMore
theorem same08_l0 (l : List Int) (hn : l.length ≤ 1000000) : ∀ (d k j : Nat), j + d = l.length → d < k → linhayref08_Same.l0 k l l j = some true
  | 0, k, j, hj, hk => by
    obtain ⟨k, rfl⟩ : ∃ m, k = m + 1 := ⟨k - 1, by omega⟩
    rw [linhayref08_Same.l0, if_neg (by omega)]
  | d + 1, k, j, hj, hk => by
    obtain ⟨k, rfl⟩ : ∃ m, k = m + 1 := ⟨k - 1, by omega⟩
    have ih := same08_l0 l hn d k (j + 1) (by omega) (by omega)
    rw [linhayref08_Same.l0, if_pos (by omega), if_pos (by omega), if_pos (by omega), if_pos rfl, nw64s j (by omega)]
    exact ih
theorem same08 (k : Nat) (l : List Int) (hn : l.length < k) (hm : l.length ≤ 1000000) : linhayref08_Same.f k l l = some true := by
  unfold linhayref08_Same.f
  rw [if_pos rfl]
  exact same08_l0 l hm l.length k 0 (by omega) hn
theorem rd_T_mem (os : List S40) (j : Nat) (h : j < os.length) : rd_T40 os j ∈ os := by
  unfold rd_T40
  rw [Int.toNat_natCast, List.getD_eq_getElem?_getD, List.getElem?_eq_getElem h]
  exact List.getElem_mem h
theorem same18_l0 (os : List S40) (hn : os.length ≤ 1000) (ho : ∀ x ∈ os, x.f1.length ≤ 1000) : ∀ (d k j : Nat), j + d = os.length → d + 1100 < k → linhayref18_Same.l0 k os os j = some true
  | 0, k, j, hj, hk => by
    obtain ⟨k, rfl⟩ : ∃ m, k = m + 1 := ⟨k - 1, by omega⟩
    rw [linhayref18_Same.l0, if_neg (by omega)]
  | d + 1, k, j, hj, hk => by
    obtain ⟨k, rfl⟩ : ∃ m, k = m + 1 := ⟨k - 1, by omega⟩
    have ih := same18_l0 os hn ho d k (j + 1) (by omega) (by omega)
    have hm := ho _ (rd_T_mem os j (by omega))
    rw [linhayref18_Same.l0, if_pos (by omega), if_pos (by omega), if_pos (by omega), same08 k _ (by omega) (by omega), Option.bind_some, if_pos rfl, if_neg (by simp), nw64s j (by omega)]
    exact ih
theorem same18 (k : Nat) (os : List S40) (hn : os.length ≤ 1000) (ho : ∀ x ∈ os, x.f1.length ≤ 1000) (hk : 2200 ≤ k) : linhayref18_Same.f k os os = some true := by
  unfold linhayref18_Same.f
  rw [if_pos rfl]
  exact same18_l0 os hn ho os.length k 0 (by omega) (by omega)
theorem runs_outs64 {l1 : List Int} {most : Int} {cs : List Int} {ins : List Bool} {os : List S40} (h : Runs l1 most cs ins os) (hl : ins.length ≤ 64) : ∀ x ∈ os, x.f1.length ≤ 64 := by
  induction h with
  | nil => intro x hx; cases hx
  | cons i cs ins hit outs ins' out hi hst hr ih =>
    intro x hx
    rcases List.mem_cons.mp hx with rfl | hx
    · cases hst with
      | hit => simp
      | big => simp
      | room _ ins1 h1 h2 hch hm => have := hch.lenLe; have := gcnt_le ins; show outs.length ≤ 64; omega
    · exact ih (by rw [hst.len]; exact hl) x hx
def paidL (l1 l2 : List Int) : List Int → List S40 → Int
  | i :: cs, e :: os => (if e.f0 = true then 0 else rd l1 i * gwt l1 l2 i.toNat) + paidL l1 l2 cs os
  | _, _ => 0
theorem paidL_split (l1 l2 : List Int) : ∀ (j : Nat) (cs : List Int) (os : List S40), cs.length = os.length → paidL l1 l2 cs os = paidL l1 l2 (cs.take j) (os.take j) + paidL l1 l2 (cs.drop j) (os.drop j)
  | 0, cs, os, h => by simp [paidL]
  | j + 1, [], [], h => by simp [paidL]
  | j + 1, i :: cs, e :: os, h => by
    have := paidL_split l1 l2 j cs os (by simpa using h)
    simp only [List.take_succ_cons, List.drop_succ_cons, paidL]
    omega
theorem paid_term {l1 l2 : List Int} (h : wOK l1 l2) {x : Int} (hx : 0 ≤ x ∧ x < (l1.length : Int)) : 0 ≤ rd l1 x * gwt l1 l2 x.toNat ∧ rd l1 x * gwt l1 l2 x.toNat ≤ 4503599627370496 := by
  obtain ⟨i, rfl⟩ : ∃ i : Nat, x = i := ⟨x.toNat, by omega⟩
  rw [Int.toNat_natCast]
  have hi : i < l1.length := by omega
  have g := h.2.2 i hi
  unfold goodAt at g
  have r := gwt_range h i hi
  refine ⟨Int.mul_nonneg (by omega) r.1, ?_⟩
  have := Int.mul_le_mul g.1.2 r.2 r.1 (by decide)
  omega
theorem paidL_bound {l1 l2 : List Int} (h : wOK l1 l2) : ∀ (cs : List Int) (os : List S40), callsOK l1.length cs → 0 ≤ paidL l1 l2 cs os ∧ paidL l1 l2 cs os ≤ 4503599627370496 * cs.length
  | [], os, hc => by cases os <;> simp [paidL]
  | i :: cs, [], hc => by simp [paidL]; omega
  | i :: cs, e :: os, hc => by
    have ih := paidL_bound h cs os (fun x hx => hc x (by simp [hx]))
    have t := paid_term h (hc i (by simp))
    unfold paidL
    rw [List.length_cons]
    split <;> omega
theorem paid_l0 {l1 l2 : List Int} (h : wOK l1 l2) (cs : List Int) (os : List S40) (hl : cs.length = os.length) (hn : cs.length ≤ 1000) (hc : callsOK l1.length cs) : ∀ (d k j : Nat) (n : Int), j + d = cs.length → 2 * d + 30 < k → 0 ≤ n → n + 4503599627370496 * d ≤ 18446744073709551615 →
    gds_Paid.l0 k l1 os n cs cs.length j l1 l2 = some (n + paidL l1 l2 (cs.drop j) (os.drop j))
  | 0, k, j, n, hj, hk, h0, hb => by
    obtain ⟨k, rfl⟩ : ∃ m, k = m + 1 := ⟨k - 1, by omega⟩
    rw [gds_Paid.l0, if_neg (by omega), List.drop_of_length_le (by omega)]
    simp [paidL]
  | d + 1, k, j, n, hj, hk, h0, hb => by
    obtain ⟨k, rfl⟩ : ∃ m, k = m + 2 := ⟨k - 2, by omega⟩
    have hj1 : j < cs.length := by omega
    have hj2 : j < os.length := by omega
    have hx : 0 ≤ rd cs j ∧ rd cs j < (l1.length : Int) := hc _ (by unfold rd; rw [Int.toNat_natCast, List.getD_eq_getElem?_getD, List.getElem?_eq_getElem hj1]; exact List.getElem_mem _)
    have e1 : cs.drop j = rd cs j :: cs.drop (j + 1) := by
      rw [List.drop_eq_getElem_cons hj1]; unfold rd; rw [Int.toNat_natCast, List.getD_eq_getElem?_getD, List.getElem?_eq_getElem hj1]; rfl
    have e2 : os.drop j = rd_T40 os j :: os.drop (j + 1) := by
      rw [List.drop_eq_getElem_cons hj2]; unfold rd_T40; rw [Int.toNat_natCast, List.getD_eq_getElem?_getD, List.getElem?_eq_getElem hj2]; rfl
    have t := paid_term h hx
    have hlen := h.1
    rw [gds_Paid.l0, if_pos (by omega), if_pos (by omega), if_pos (by omega), if_pos (by omega), e1, e2]
    unfold paidL
    by_cases c : (rd_T40 os j).f0 = true
    · rw [if_pos c, if_pos c, gds_Paid.j1, if_neg (by decide), nw64s j (by omega), paid_l0 h cs os hl hn hc d k (j + 1) n (by omega) (by omega) h0 (by omega)]
      congr 1; omega
    · rw [if_neg c, if_neg c]
      obtain ⟨i, hi⟩ : ∃ i : Nat, rd cs j = i := ⟨(rd cs j).toNat, by omega⟩
      rw [hi] at hx t ⊢
      rw [Int.toNat_natCast] at t ⊢
      have hi2 : i < l1.length := by omega
      have g := h.2.2 i hi2
      unfold goodAt at g
      have r := gwt_range h i hi2
      have his : gds_things_is.f l1 l2 i = some true := by
        unfold gds_things_is.f
        rw [if_pos (by omega), if_pos (by omega), decide_eq_true (by omega)]
      rw [his, Option.bind_some, gds_Paid.j1, if_pos rfl, if_pos (by omega), if_pos (by omega), word_Of_eq (by omega), Option.bind_some, things_weight_eq k (by omega) h i hi2, Option.bind_some, show max (rd l1 i) 0 = rd l1 i by omega,
        word_Mul_eq (by omega) (by omega) r.1 (by omega), Option.bind_some, show min (rd l1 i * gwt l1 l2 i) 18446744073709551615 = rd l1 i * gwt l1 l2 i by omega, word_Add_eq h0 t.1, Option.bind_some,
        show min (n + rd l1 i * gwt l1 l2 i) 18446744073709551615 = n + rd l1 i * gwt l1 l2 i by omega, nw64s j (by omega), paid_l0 h cs os hl hn hc d k (j + 1) _ (by omega) (by omega) (by omega) (by omega)]
      congr 1; omega
theorem gds_Paid_eq {l1 l2 : List Int} (h : wOK l1 l2) (cs : List Int) (os : List S40) (hl : cs.length = os.length) (hn : cs.length ≤ 60) (hc : callsOK l1.length cs) (k : Nat) (hk : 200 ≤ k) : gds_Paid.f k l1 l2 cs os = some (paidL l1 l2 cs os) := by
  unfold gds_Paid.f
  have := paid_l0 h cs os hl (by omega) hc cs.length k 0 0 (by omega) (by omega) (Int.le_refl _) (by omega)
  rw [Int.natCast_zero, List.drop_zero, List.drop_zero, Int.zero_add] at this
  exact this
end Go.Proofs.Ytmacngkgokibeaa.Facts
