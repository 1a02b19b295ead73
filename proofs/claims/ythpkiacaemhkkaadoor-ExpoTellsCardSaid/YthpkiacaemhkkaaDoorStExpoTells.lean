/- That the Go function of the law ExpoTells answers true where its pure statement holds, and the table lies. Written by a program of this session (wip/tools/cardrow.py). -/
import Derived.Test.YthpkiacaemhkkaaDoorPrint5
import Derived.Test.YthpkiacaemhkkaaDoorPrint1
namespace Go.Proofs.YthpkiacaemhkkaaDoor.Print
open Go.RowKit Go.Proofs.YthpkiacaemhkkaaDoorW.PrintWords Go.Proofs.YthpkiacaemhkkaaDoorW.PrintLast Go.Proofs.YthpkiacaemhkkaaDoorW.PrintMore
set_option linter.unusedVariables false
theorem linhaylaw05_ExpoTells.walk (P : linhaylaw05_ExpoTells.Pure) (a0 : Int) (a1 : Int) (a2 : Int) (a3 : Int) (w : World) (hT : Tab w) (w_a0 : (Lit.int .u64 a0).wf = true) (w_a1 : (Lit.int .u64 a1).wf = true) (w_a2 : (Lit.int .u64 a2).wf = true) (w_a3 : (Lit.int .u32 a3).wf = true) :
    Calls Tryd.prog 3 #[.int .u64 a0, .int .u64 a1, .int .u64 a2, .int .u32 a3] w fun e w' => e = .returned (.bool true) ∧ Below w.heap.size w w' := by
  obtain ⟨k, h⟩ := P a0 a1 a2 a3 w_a0 w_a1 w_a2 w_a3
  refine (linhaylaw05_ExpoTells.calls k a0 a1 a2 a3 true w hT h).mono ?_
  rintro e w' ⟨rfl, hd⟩
  exact ⟨rfl, hd⟩
end Go.Proofs.YthpkiacaemhkkaaDoor.Print
