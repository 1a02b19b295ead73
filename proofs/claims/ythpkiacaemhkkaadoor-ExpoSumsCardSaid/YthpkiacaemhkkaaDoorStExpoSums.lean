/- That the Go function of the law ExpoSums answers true where its pure statement holds, and the table lies. Written by a program of this session (wip/tools/cardrow.py). -/
import Derived.Test.YthpkiacaemhkkaaDoorPrint6
import Derived.Test.YthpkiacaemhkkaaDoorPrint1
namespace Go.Proofs.YthpkiacaemhkkaaDoor.Print
open Go.RowKit Go.Proofs.YthpkiacaemhkkaaDoorW.PrintWords Go.Proofs.YthpkiacaemhkkaaDoorW.PrintLast Go.Proofs.YthpkiacaemhkkaaDoorW.PrintMore
set_option linter.unusedVariables false
theorem linhaylaw05_ExpoSums.walk (P : linhaylaw05_ExpoSums.Pure) (a0 : Int) (a1 : Int) (w : World) (hT : Tab w) (w_a0 : (Lit.int .u64 a0).wf = true) (w_a1 : (Lit.int .u64 a1).wf = true) :
    Calls Tryd.prog 7 #[.int .u64 a0, .int .u64 a1] w fun e w' => e = .returned (.bool true) ∧ Below w.heap.size w w' := by
  obtain ⟨k, h⟩ := P a0 a1 w_a0 w_a1
  refine (linhaylaw05_ExpoSums.calls k a0 a1 true w hT h).mono ?_
  rintro e w' ⟨rfl, hd⟩
  exact ⟨rfl, hd⟩
end Go.Proofs.YthpkiacaemhkkaaDoor.Print
