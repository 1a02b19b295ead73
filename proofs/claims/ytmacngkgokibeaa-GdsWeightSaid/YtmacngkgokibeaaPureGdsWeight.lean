/- GdsWeight: a weight rises with the cost, and the frequency, and falls with the size; GDSF at a frequency of 1 is GDS. For all numbers, no condition. -/
import Derived.Test.YtmacngkgokibeaaFactsNum
import Derived.Test.YtmacngkgokibeaaFactsWide
import Derived.Test.YtmacngkgokibeaaFactsGds
import Derived.Test.YtmacngkgokibeaaFactsAwake18
import Derived.Test.YtmacngkgokibeaaPrint9
namespace Go.Proofs.Ytmacngkgokibeaa.Pure
set_option linter.unusedVariables false
set_option linter.unusedSimpArgs false
open Go.RowKit Go.Proofs.Ytmacngkgokibeaa.Print Go.Proofs.Ytmacngkgokibeaa.Facts Go.Proofs.YtmacngkgokibeaaW.PrintWords Go.Proofs.YtmacngkgokibeaaW.PrintLast Go.Proofs.YtmacngkgokibeaaW.PrintMore
theorem mn_W64 {a b : Int} (ha : W64 a) (hb : W64 b) : W64 (mn a b) := by unfold mn; split <;> assumption
theorem mx_W64 {a b : Int} (ha : W64 a) (hb : W64 b) : W64 (mx a b) := by unfold mx; split <;> assumption
theorem GdsWeight : linhaylaw18_GdsWeight.Pure := by
  intro a b s f l ha hb hs hf hl
  have ha : W64 a := nwf_u64 ha
  have hb : W64 b := nwf_u64 hb
  have hs : W64 s := nwf_u64 hs
  have hf : W64 f := nwf_u64 hf
  have hl : W64 l := nwf_u64 hl
  have h1 : W64 1 := ⟨by decide, by decide⟩
  refine ⟨3000, ?_⟩
  have hlo := mn_W64 ha hb
  have hhi := mx_W64 ha hb
  have hg := mx_W64 (mx_W64 hs hl) h1
  have hsm := mx_W64 (mn_W64 hs hl) h1
  have hfl := mn_W64 hf hl
  have hfh := mx_W64 hf hl
  have e1 : mn a b ≤ mx a b := by unfold mn mx; (repeat split) <;> omega
  have e2 : mn f l ≤ mx f l := by unfold mn mx; (repeat split) <;> omega
  have e3 : 1 ≤ mx (mx s l) 1 := by unfold mx; (repeat split) <;> omega
  have e4 : 1 ≤ mx (mn s l) 1 := by unfold mx; (repeat split) <;> omega
  have e5 : mx (mn s l) 1 ≤ mx (mx s l) 1 := by unfold mn mx; (repeat split) <;> omega
  unfold linhaylaw18_GdsWeight.f
  generalize mn a b = lo at *
  generalize mx a b = hi at *
  generalize mx (mx s l) 1 = g at *
  generalize mx (mn s l) 1 = sm at *
  generalize mn f l = f1 at *
  generalize mx f l = f2 at *
  rw [awake18 _ (by omega), Option.bind_some, if_pos rfl, gds_Weight_1 _ (by omega) _ hlo hg, Option.bind_some, gds_Weight_1 _ (by omega) _ hhi hg, Option.bind_some,
    if_pos (wS_rises hlo.1 e1 (by omega)), gds_Weight_2 _ (by omega) hlo hg hf, Option.bind_some, gds_Weight_2 _ (by omega) hhi hg hf, Option.bind_some,
    if_pos (wS_rises (Int.mul_nonneg hlo.1 hf.1) (Int.mul_le_mul_of_nonneg_right e1 hf.1) (by omega)), gds_Weight_1 _ (by omega) _ ha hg, Option.bind_some, gds_Weight_1 _ (by omega) _ ha hsm, Option.bind_some,
    if_pos (wS_falls ha.1 (by omega) e5), gds_Weight_2 _ (by omega) ha hg h1, Option.bind_some, gds_Weight_1 _ (by omega) _ ha hg, Option.bind_some, Int.mul_one, if_pos rfl,
    gds_Weight_2 _ (by omega) ha hg hfl, Option.bind_some, gds_Weight_2 _ (by omega) ha hg hfh, Option.bind_some,
    decide_eq_true (wS_rises (Int.mul_nonneg ha.1 hfl.1) (Int.mul_le_mul_of_nonneg_left e2 ha.1) (by omega))]
end Go.Proofs.Ytmacngkgokibeaa.Pure
