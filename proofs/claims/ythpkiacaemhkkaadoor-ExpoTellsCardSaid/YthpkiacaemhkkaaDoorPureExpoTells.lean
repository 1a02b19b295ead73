/- ExpoTells: what its row says of expo, and awake holds. For all inputs, no condition but the row's own (the table lies as the text lays it). -/
import Derived.Test.YthpkiacaemhkkaaDoorStExpoTells
import Derived.Test.YthpkiacaemhkkaaDoorFactsExpo
import Derived.Test.YthpkiacaemhkkaaDoorPrint5
namespace Go.Proofs.YthpkiacaemhkkaaDoor.Pure
set_option linter.unusedVariables false
set_option linter.unusedSimpArgs false
open Go.RowKit Go.Proofs.YthpkiacaemhkkaaDoor.Print Go.Proofs.YthpkiacaemhkkaaDoor.Facts Go.Proofs.YthpkiacaemhkkaaDoorW.PrintWords Go.Proofs.YthpkiacaemhkkaaDoorW.PrintLast Go.Proofs.YthpkiacaemhkkaaDoorW.PrintMore
theorem ExpoTells : linhaylaw05_ExpoTells.Pure := by
  intro x a b d hx ha hb hd
  have hx : W64 x := nwf_u64 hx
  have ha : W64 a := nwf_u64 ha
  have hb : W64 b := nwf_u64 hb
  have hd := nwf_u32 hd
  have hd : W64 d := ⟨hd.1, by omega⟩
  refine ⟨300, ?_⟩
  unfold linhaylaw05_ExpoTells.f
  rw [awake05_le 300 (by decide), expo_Of_eq 300 (by decide) hx, ref05_Of_eq 300 (by decide) hx, expo_Ratio_eq 300 (by decide) ha hb, ref05_Ratio_eq 300 (by decide) ha hb, expo_Below_eq 300 (by decide) hd ha hb, nwr hd.1 hd.2]
  simp
end Go.Proofs.YthpkiacaemhkkaaDoor.Pure
