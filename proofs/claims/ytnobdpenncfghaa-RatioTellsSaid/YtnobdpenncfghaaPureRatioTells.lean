/- RatioTells: each answer of ratio is the answer of the slow reference, and awake holds. For all numbers and rows, no condition. -/
import Derived.Test.YtnobdpenncfghaaStRatioTells
import Derived.Test.YtnobdpenncfghaaFactsNum
import Derived.Test.YtnobdpenncfghaaFactsWide
import Derived.Test.YtnobdpenncfghaaFactsFloor
import Derived.Test.YtnobdpenncfghaaFactsRef03
import Derived.Test.YtnobdpenncfghaaFactsNear
import Derived.Test.YtnobdpenncfghaaFactsNear03
import Derived.Test.YtnobdpenncfghaaFactsLeast
import Derived.Test.YtnobdpenncfghaaFactsAwake03
import Derived.Test.YtnobdpenncfghaaPrint4
namespace Go.Proofs.Ytnobdpenncfghaa.Pure
set_option linter.unusedVariables false
set_option linter.unusedSimpArgs false
open Go.RowKit Go.Proofs.Ytnobdpenncfghaa.Print Go.Proofs.Ytnobdpenncfghaa.Facts Go.Proofs.YtnobdpenncfghaaW.PrintWords Go.Proofs.YtnobdpenncfghaaW.PrintLast Go.Proofs.YtnobdpenncfghaaW.PrintMore
theorem RatioTells : linhaylaw03_RatioTells.Pure := by
  intro x0 x1 y0 y1 l a b c hx0 hx1 hy0 hy1 hl hz ha hb hc
  have hx0 : W64 x0 := nwf_u64 hx0
  have hx1 : W64 x1 := nwf_u64 hx1
  have hy0 : W64 y0 := nwf_u64 hy0
  have hy1 : W64 y1 := nwf_u64 hy1
  have ha : W64 a := nwf_u64 ha
  have hb : W64 b := nwf_u64 hb
  have hc : W64 c := nwf_u64 hc
  have hw : ∀ x ∈ l, okR x := fun x hx => ⟨nwf_u64 (hz x hx).1, nwf_u64 (hz x hx).2⟩
  refine ⟨200 + l.length + l.length * (l.length + 20), ?_⟩
  unfold linhaylaw03_RatioTells.f
  rw [awake03_le _ (by omega)]
  simp only [Option.bind_some]
  by_cases hn : (l.length : Int) > 100
  · rw [if_pos hn]
  · rw [if_neg hn]
    have hl' : l.length ≤ 9000000000000000000 := by omega
    obtain ⟨b', e1, hbest⟩ := ratio_Least_eq l hl' hw (200 + l.length + l.length * (l.length + 20)) (by omega)
    have e2 : linhayref03_Least.f (200 + l.length + l.length * (l.length + 20)) l = some (mx b' 0, decide (b' ≥ 0)) := by
      unfold linhayref03_Least.f
      exact ref03_Least_loop l hl' hw b' hbest l.length _ 0 (by omega) (by omega) (fun h => h) (by omega)
    rw [e1, e2]
    generalize l.length * (l.length + 20) = z
    rw [ratio_Cmp_eq _ (by omega) hx0 hx1 hy0 hy1, ref03_Cmp_eq _ (by omega) hx0 hx1 hy0 hy1, ratio_Floor_eq _ (by omega) ha hb hc, ref03_Floor_eq _ (by omega) ha hb hc,
      ratio_Ceil_eq _ (by omega) ha hb hc, ref03_Ceil_eq _ (by omega) ha hb hc, ratio_Near_eq _ (by omega) ha hb hc, ref03_Near_eq _ (by omega) ha hb hc]
    simp
end Go.Proofs.Ytnobdpenncfghaa.Pure
