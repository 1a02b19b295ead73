/- The pure statement of the law WideTells, and that its Go function answers true if it holds. Written by a program of this session (wip/tools/row.py). -/
import Derived.Test.YtkicianajhnpkaaPrint15
namespace Go.Proofs.Ytkicianajhnpkaa.Print
open Go.RowKit Go.Proofs.YtkicianajhnpkaaW.PrintWords Go.Proofs.YtkicianajhnpkaaW.PrintLast Go.Proofs.YtkicianajhnpkaaW.PrintMore
set_option linter.unusedVariables false
def linhaylaw02_WideTells.Pure : Prop := ∀ (a0_0 : Int) (a0_1 : Int) (a1_0 : Int) (a1_1 : Int) (a2 : Int) (a3 : Int) (a4 : Int), (Lit.int .u64 a0_0).wf = true → (Lit.int .u64 a0_1).wf = true → (Lit.int .u64 a1_0).wf = true → (Lit.int .u64 a1_1).wf = true → (Lit.int .u64 a2).wf = true → (Lit.int .u64 a3).wf = true → (Lit.int .u64 a4).wf = true → ∃ k, linhaylaw02_WideTells.f k a0_0 a0_1 a1_0 a1_1 a2 a3 a4 = some true
theorem linhaylaw02_WideTells.walk (P : linhaylaw02_WideTells.Pure) (a0_0 : Int) (a0_1 : Int) (a1_0 : Int) (a1_1 : Int) (a2 : Int) (a3 : Int) (a4 : Int) (w : World) (w_a0_0 : (Lit.int .u64 a0_0).wf = true) (w_a0_1 : (Lit.int .u64 a0_1).wf = true) (w_a1_0 : (Lit.int .u64 a1_0).wf = true) (w_a1_1 : (Lit.int .u64 a1_1).wf = true) (w_a2 : (Lit.int .u64 a2).wf = true) (w_a3 : (Lit.int .u64 a3).wf = true) (w_a4 : (Lit.int .u64 a4).wf = true) :
    Calls Try.prog 3 #[.agg #[.int .u64 a0_0, .int .u64 a0_1], .agg #[.int .u64 a1_0, .int .u64 a1_1], .int .u64 a2, .int .u64 a3, .int .u64 a4] w fun e w' => e = .returned (.bool true) ∧ Below w.heap.size w w' := by
  obtain ⟨k, h⟩ := P a0_0 a0_1 a1_0 a1_1 a2 a3 a4 w_a0_0 w_a0_1 w_a1_0 w_a1_1 w_a2 w_a3 w_a4
  refine (linhaylaw02_WideTells.calls k a0_0 a0_1 a1_0 a1_1 a2 a3 a4 true w h).mono ?_
  rintro e w' ⟨rfl, hd⟩
  exact ⟨rfl, hd⟩
end Go.Proofs.Ytkicianajhnpkaa.Print
