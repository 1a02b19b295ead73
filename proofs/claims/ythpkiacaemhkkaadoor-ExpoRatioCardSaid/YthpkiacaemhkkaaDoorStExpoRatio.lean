/- That the Go function of the law ExpoRatio answers true where its pure statement holds, and the table lies. Written by a program of this session (wip/tools/cardrow.py). -/
import Derived.Test.YthpkiacaemhkkaaDoorPrint6
import Derived.Test.YthpkiacaemhkkaaDoorPrint1
namespace Go.Proofs.YthpkiacaemhkkaaDoor.Print
open Go.RowKit Go.Proofs.YthpkiacaemhkkaaDoorW.PrintWords Go.Proofs.YthpkiacaemhkkaaDoorW.PrintLast Go.Proofs.YthpkiacaemhkkaaDoorW.PrintMore
set_option linter.unusedVariables false
theorem linhaylaw05_ExpoRatio.walk (P : linhaylaw05_ExpoRatio.Pure) (a0 : Int) (a1 : Int) (a2 : Int) (a3 : Int) (a4 : Int) (w : World) (hT : Tab w) (w_a0 : (Lit.int .u32 a0).wf = true) (w_a1 : (Lit.int .u32 a1).wf = true) (w_a2 : (Lit.int .u32 a2).wf = true) (w_a3 : (Lit.int .u32 a3).wf = true) (w_a4 : (Lit.int .u32 a4).wf = true) :
    Calls Tryd.prog 6 #[.int .u32 a0, .int .u32 a1, .int .u32 a2, .int .u32 a3, .int .u32 a4] w fun e w' => e = .returned (.bool true) ∧ Below w.heap.size w w' := by
  obtain ⟨k, h⟩ := P a0 a1 a2 a3 a4 w_a0 w_a1 w_a2 w_a3 w_a4
  refine (linhaylaw05_ExpoRatio.calls k a0 a1 a2 a3 a4 true w hT h).mono ?_
  rintro e w' ⟨rfl, hd⟩
  exact ⟨rfl, hd⟩
end Go.Proofs.YthpkiacaemhkkaaDoor.Print
