/- The pure statement of the law WideDivides, and that its Go function answers true if it holds. Written by a program of this session (wip/tools/row.py). -/
import Derived.Test.YtkicianajhnpkaaPrint17
namespace Go.Proofs.Ytkicianajhnpkaa.Print
open Go.RowKit Go.Proofs.YtkicianajhnpkaaW.PrintWords Go.Proofs.YtkicianajhnpkaaW.PrintLast Go.Proofs.YtkicianajhnpkaaW.PrintMore
set_option linter.unusedVariables false
def linhaylaw02_WideDivides.Pure : Prop := ∀ (a0_0 : Int) (a0_1 : Int) (a1 : Int), (Lit.int .u64 a0_0).wf = true → (Lit.int .u64 a0_1).wf = true → (Lit.int .u64 a1).wf = true → ∃ k, linhaylaw02_WideDivides.f k a0_0 a0_1 a1 = some true
theorem linhaylaw02_WideDivides.walk (P : linhaylaw02_WideDivides.Pure) (a0_0 : Int) (a0_1 : Int) (a1 : Int) (w : World) (w_a0_0 : (Lit.int .u64 a0_0).wf = true) (w_a0_1 : (Lit.int .u64 a0_1).wf = true) (w_a1 : (Lit.int .u64 a1).wf = true) :
    Calls Try.prog 5 #[.agg #[.int .u64 a0_0, .int .u64 a0_1], .int .u64 a1] w fun e w' => e = .returned (.bool true) ∧ Below w.heap.size w w' := by
  obtain ⟨k, h⟩ := P a0_0 a0_1 a1 w_a0_0 w_a0_1 w_a1
  refine (linhaylaw02_WideDivides.calls k a0_0 a0_1 a1 true w h).mono ?_
  rintro e w' ⟨rfl, hd⟩
  exact ⟨rfl, hd⟩
end Go.Proofs.Ytkicianajhnpkaa.Print
