/- WideTells: for all numbers, products, sums, differences, comparisons, quotients and shifts of the package wide are what the reference answers. No condition. -/
import Derived.Test.YtkicianajhnpkaaStWideTells
import Derived.Test.YtkicianajhnpkaaFactsNum
import Derived.Test.YtkicianajhnpkaaFactsWide
import Derived.Test.YtkicianajhnpkaaFactsRef02
import Derived.Test.YtkicianajhnpkaaFactsSub
import Derived.Test.YtkicianajhnpkaaFactsAwake02
import Derived.Test.YtkicianajhnpkaaPrint12
import Derived.Test.YtkicianajhnpkaaPrint15
import Derived.Test.YtkicianajhnpkaaPrint2
import Derived.Test.YtkicianajhnpkaaPrint4
import Derived.Test.YtkicianajhnpkaaPrint7
import Derived.Test.YtkicianajhnpkaaPrint9
namespace Go.Proofs.Ytkicianajhnpkaa.Pure
set_option linter.unusedVariables false
set_option linter.unusedSimpArgs false
open Go.RowKit Go.Proofs.Ytkicianajhnpkaa.Print Go.Proofs.Ytkicianajhnpkaa.Facts Go.Proofs.YtkicianajhnpkaaW.PrintWords Go.Proofs.YtkicianajhnpkaaW.PrintLast Go.Proofs.YtkicianajhnpkaaW.PrintMore
theorem WideTells : linhaylaw02_WideTells.Pure := by
  intro a b c d e f n ha hb hc hd he hf hn
  have ha := nwf_u64 ha
  have hb := nwf_u64 hb
  have hc := nwf_u64 hc
  have hd := nwf_u64 hd
  have he := nwf_u64 he
  have hf := nwf_u64 hf
  have hn := nwf_u64 hn
  refine ⟨200, ?_⟩
  unfold linhaylaw02_WideTells.f
  have hdiv : wide_Div.f 200 a b e = linhayref02_Div.f 200 a b e := by
    by_cases hz : e = 0
    · subst hz; rw [wide_Div_zero, ref02_Div_zero]
    · rw [wide_Div_eq 200 (by decide) ha.1 ha.2 (by omega) he.2 hb.1 hb.2, ref02_Div_eq 200 (by decide) ha.1 ha.2 (by omega) he.2 hb.1 hb.2]
  have hsome : ∃ v, linhayref02_Div.f 200 a b e = some v := by
    by_cases hz : e = 0
    · subst hz; exact ⟨_, ref02_Div_zero _ _ _⟩
    · exact ⟨_, ref02_Div_eq 200 (by decide) ha.1 ha.2 (by omega) he.2 hb.1 hb.2⟩
  obtain ⟨v, hv⟩ := hsome
  have hadd : wide_Add.f a b c d = linhayref02_Add.f a b c d := by
    rw [ref02_Add_eq ha.1 ha.2 hb.1 hb.2 hc.1 hc.2 hd.1 hd.2]
    unfold wide_Add.f; rw [if_pos ⟨⟨ha, hb⟩, ⟨hc, hd⟩⟩]
  rw [awake02_le 200 (by decide), hadd, ref02_Add_eq ha.1 ha.2 hb.1 hb.2 hc.1 hc.2 hd.1 hd.2, wide_Sub_big ha hb hc hd, ref02_Sub_big 200 (by decide) ha hb hc hd, hdiv, hv,
    wide_Mul_eq he.1 he.2 hf.1 hf.2, ref02_Mul_eq he.1 he.2 hf.1 hf.2, wide_Cmp_eq 200 (by decide) hb.1 hb.2 hd.1 hd.2, ref02_Cmp_eq 200 (by decide) hb.1 hb.2 hd.1 hd.2,
    wide_Shr_eq 200 (by decide) ha.1 ha.2 hb.1 hb.2 hn.1 hn.2, ref02_Shr_eq 200 (by decide) ha.1 ha.2 hb.1 hb.2 hn.1 hn.2]
  simp [wide_Of.f]
end Go.Proofs.Ytkicianajhnpkaa.Pure
