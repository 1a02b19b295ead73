
/- Plain facts about the printed functions of the package gds: an object's weight. No condition beyond the numbers' own range. -/
import Derived.Test.YtmacngkgokibeaaFactsNum
import Derived.Test.YtmacngkgokibeaaFactsWide
import Derived.Test.YtmacngkgokibeaaFactsFloor
import Derived.Test.YtmacngkgokibeaaFactsWord
import Derived.Test.YtmacngkgokibeaaPrint3
namespace Go.Proofs.Ytmacngkgokibeaa.Facts
set_option linter.unusedVariables false
set_option linter.unusedSimpArgs false
open Go.RowKit Go.Proofs.Ytmacngkgokibeaa.Print Go.Proofs.YtmacngkgokibeaaW.PrintWords Go.Proofs.YtmacngkgokibeaaW.PrintLast Go.Proofs.YtmacngkgokibeaaW.PrintMore
/-- A weight out of what an object is worth. -/
def wS (w size : Int) : Int := if size = 0 then 0 else if w < 18446744073709551616 ∧ w * 1048576 / size < 18446744073709551616 then w * 1048576 / size else 18446744073709551615
theorem gds_Weight_j0 (k : Nat) (hk : 21 ≤ k) {c s f : Int} (hc : W64 c) (hs : W64 s) (hf : W64 f) : gds_Weight.j0 k c s f = some (wS (c * f) s) := by
  obtain ⟨k, rfl⟩ : ∃ m, k = m + 1 := ⟨k - 1, by omega⟩
  rw [gds_Weight.j0]
  unfold wS
  by_cases z : s = 0
  · rw [if_pos z, if_pos z]
  · rw [if_neg z, if_neg z, word_Times_eq hc.1 hc.2 hf.1 hf.2]
    have h0 := Int.mul_nonneg hc.1 hf.1
    by_cases o : c * f < 18446744073709551616
    · rw [if_pos o]
      simp only [Option.bind_some]
      rw [ratio_Floor_eq k (by omega) (a := c * f) (b := 1048576) (c := s) ⟨h0, o⟩ ⟨by decide, by decide⟩ hs]
      simp only [Option.bind_some]
      unfold floorR
      rw [if_neg z]
      by_cases q : c * f * 1048576 / s < 18446744073709551616
      · have e : (if c * f < 18446744073709551616 ∧ c * f * 1048576 / s < 18446744073709551616 then c * f * 1048576 / s else 18446744073709551615) = c * f * 1048576 / s := if_pos ⟨o, q⟩
        rw [e, if_pos q]; rfl
      · have e : (if c * f < 18446744073709551616 ∧ c * f * 1048576 / s < 18446744073709551616 then c * f * 1048576 / s else 18446744073709551615) = 18446744073709551615 := if_neg (fun x => q x.2)
        rw [e, if_neg q]; rfl
    · rw [if_neg o]
      simp only [Option.bind_some]
      rw [ratio_Floor_eq k (by omega) (a := 0) (b := 1048576) (c := s) ⟨by decide, by decide⟩ ⟨by decide, by decide⟩ hs]
      simp only [Option.bind_some]
      rw [if_neg (by decide), if_neg (fun x => o x.1)]
theorem gds_Weight_1 (k : Nat) (hk : 21 ≤ k) {c s : Int} (f : Int) (hc : W64 c) (hs : W64 s) : gds_Weight.f k 1 c s f = some (wS c s) := by
  unfold gds_Weight.f
  rw [if_pos rfl, gds_Weight_j0 k hk hc hs ⟨by decide, by decide⟩, Int.mul_one]
theorem gds_Weight_2 (k : Nat) (hk : 21 ≤ k) {c s f : Int} (hc : W64 c) (hs : W64 s) (hf : W64 f) : gds_Weight.f k 2 c s f = some (wS (c * f) s) := by
  unfold gds_Weight.f
  rw [if_neg (by decide), if_pos rfl, gds_Weight_j0 k hk hc hs hf]
theorem gds_Weight_0 (k : Nat) {n c s f : Int} (h1 : n ≠ 1) (h2 : n ≠ 2) : gds_Weight.f k n c s f = some 0 := by
  unfold gds_Weight.f
  rw [if_neg h1, if_neg h2]
theorem wS_W64 {w s : Int} (hw : 0 ≤ w) (hs : 0 ≤ s) : W64 (wS w s) := by
  unfold wS
  by_cases a : s = 0
  · rw [if_pos a]; exact ⟨by decide, by decide⟩
  · rw [if_neg a]
    by_cases b : w < 18446744073709551616 ∧ w * 1048576 / s < 18446744073709551616
    · rw [if_pos b]; exact ⟨Int.ediv_nonneg (by omega) hs, b.2⟩
    · rw [if_neg b]; exact ⟨by decide, by decide⟩
def capS (w q : Int) : Int := if w < 18446744073709551616 ∧ q < 18446744073709551616 then q else 18446744073709551615
theorem capS_le {w v q r : Int} (h : w ≤ v) (h2 : q ≤ r) : capS w q ≤ capS v r := by
  unfold capS
  by_cases a : w < 18446744073709551616 ∧ q < 18446744073709551616
  · rw [if_pos a]
    by_cases b : v < 18446744073709551616 ∧ r < 18446744073709551616
    · rw [if_pos b]; omega
    · rw [if_neg b]; omega
  · rw [if_neg a, if_neg (by omega)]; omega
theorem wS_cap {w s : Int} (h : s ≠ 0) : wS w s = capS w (w * 1048576 / s) := by
  unfold wS capS
  rw [if_neg h]
theorem wS_rises {a b s : Int} (h0 : 0 ≤ a) (h : a ≤ b) (hs : 0 < s) : wS a s ≤ wS b s := by
  rw [wS_cap (by omega), wS_cap (by omega)]
  exact capS_le h (Int.ediv_le_ediv hs (by omega))
theorem wS_falls {w s t : Int} (h0 : 0 ≤ w) (hs : 0 < s) (h : s ≤ t) : wS w t ≤ wS w s := by
  rw [wS_cap (by omega), wS_cap (by omega)]
  apply capS_le (Int.le_refl _)
  apply Int.le_of_lt_add_one
  rw [Int.ediv_lt_iff_lt_mul (by omega)]
  have e := Int.lt_ediv_add_one_mul_self (w * 1048576) hs
  have q0 : 0 ≤ w * 1048576 / s := Int.ediv_nonneg (by omega) (by omega)
  generalize w * 1048576 / s = q at *
  have m := Int.mul_le_mul_of_nonneg_left h (show 0 ≤ q + 1 by omega)
  omega
end Go.Proofs.Ytmacngkgokibeaa.Facts
