/- The pure statement of the law RatioOrder, and that its Go function answers true if it holds. Written by a program of this session (wip/tools/row.py). -/
import Derived.Test.YtnobdpenncfghaaPrint6
namespace Go.Proofs.Ytnobdpenncfghaa.Print
open Go.RowKit Go.Proofs.YtnobdpenncfghaaW.PrintWords Go.Proofs.YtnobdpenncfghaaW.PrintLast Go.Proofs.YtnobdpenncfghaaW.PrintMore
set_option linter.unusedVariables false
def linhaylaw03_RatioOrder.Pure : Prop := ∀ (a0_0 : Int) (a0_1 : Int) (a1_0 : Int) (a1_1 : Int) (a2_0 : Int) (a2_1 : Int), (Lit.int .u64 a0_0).wf = true → (Lit.int .u64 a0_1).wf = true → (Lit.int .u64 a1_0).wf = true → (Lit.int .u64 a1_1).wf = true → (Lit.int .u64 a2_0).wf = true → (Lit.int .u64 a2_1).wf = true → ∃ k, linhaylaw03_RatioOrder.f k a0_0 a0_1 a1_0 a1_1 a2_0 a2_1 = some true
theorem linhaylaw03_RatioOrder.walk (P : linhaylaw03_RatioOrder.Pure) (a0_0 : Int) (a0_1 : Int) (a1_0 : Int) (a1_1 : Int) (a2_0 : Int) (a2_1 : Int) (w : World) (w_a0_0 : (Lit.int .u64 a0_0).wf = true) (w_a0_1 : (Lit.int .u64 a0_1).wf = true) (w_a1_0 : (Lit.int .u64 a1_0).wf = true) (w_a1_1 : (Lit.int .u64 a1_1).wf = true) (w_a2_0 : (Lit.int .u64 a2_0).wf = true) (w_a2_1 : (Lit.int .u64 a2_1).wf = true)  :
    Calls Try.prog 4 #[.agg #[.int .u64 a0_0, .int .u64 a0_1], .agg #[.int .u64 a1_0, .int .u64 a1_1], .agg #[.int .u64 a2_0, .int .u64 a2_1]] w fun e w' => e = .returned (.bool true) ∧ Below w.heap.size w w' := by
  obtain ⟨k, h⟩ := P a0_0 a0_1 a1_0 a1_1 a2_0 a2_1 w_a0_0 w_a0_1 w_a1_0 w_a1_1 w_a2_0 w_a2_1
  refine (linhaylaw03_RatioOrder.calls k a0_0 a0_1 a1_0 a1_1 a2_0 a2_1 true w  h).mono ?_
  rintro e w' ⟨rfl, hd⟩
  exact ⟨rfl, hd⟩
end Go.Proofs.Ytnobdpenncfghaa.Print
