/- That the Go function of the law ExpoNear answers true where its pure statement holds, and the table lies. Written by a program of this session (wip/tools/cardrow.py). -/
import Derived.Test.YthpkiacaemhkkaaDoorPrint5
import Derived.Test.YthpkiacaemhkkaaDoorPrint1
namespace Go.Proofs.YthpkiacaemhkkaaDoor.Print
open Go.RowKit Go.Proofs.YthpkiacaemhkkaaDoorW.PrintWords Go.Proofs.YthpkiacaemhkkaaDoorW.PrintLast Go.Proofs.YthpkiacaemhkkaaDoorW.PrintMore
set_option linter.unusedVariables false
theorem linhaylaw05_ExpoNear.walk (P : linhaylaw05_ExpoNear.Pure) (a0 : Int) (w : World) (hT : Tab w) (w_a0 : (Lit.int .u64 a0).wf = true) :
    Calls Tryd.prog 4 #[.int .u64 a0] w fun e w' => e = .returned (.bool true) ∧ Below w.heap.size w w' := by
  obtain ⟨k, h⟩ := P a0 w_a0
  refine (linhaylaw05_ExpoNear.calls k a0 true w hT h).mono ?_
  rintro e w' ⟨rfl, hd⟩
  exact ⟨rfl, hd⟩
end Go.Proofs.YthpkiacaemhkkaaDoor.Print
