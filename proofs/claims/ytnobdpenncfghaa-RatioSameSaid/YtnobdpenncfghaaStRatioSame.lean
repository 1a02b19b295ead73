/- The pure statement of the law RatioSame, and that its Go function answers true if it holds. Written by a program of this session (wip/tools/row.py). -/
import Derived.Test.YtnobdpenncfghaaPrint25
namespace Go.Proofs.Ytnobdpenncfghaa.Print
open Go.RowKit Go.Proofs.YtnobdpenncfghaaW.PrintWords Go.Proofs.YtnobdpenncfghaaW.PrintLast Go.Proofs.YtnobdpenncfghaaW.PrintMore
set_option linter.unusedVariables false
def linhaylaw03_RatioSame.Pure : Prop := ∀ (a0 : Int) (a1 : Int) (a2 : Int) (a3_0 : Int) (a3_1 : Int), (Lit.int .u32 a0).wf = true → (Lit.int .u32 a1).wf = true → (Lit.int .u32 a2).wf = true → (Lit.int .u64 a3_0).wf = true → (Lit.int .u64 a3_1).wf = true → ∃ k, linhaylaw03_RatioSame.f k a0 a1 a2 a3_0 a3_1 = some true
theorem linhaylaw03_RatioSame.walk (P : linhaylaw03_RatioSame.Pure) (a0 : Int) (a1 : Int) (a2 : Int) (a3_0 : Int) (a3_1 : Int) (w : World) (w_a0 : (Lit.int .u32 a0).wf = true) (w_a1 : (Lit.int .u32 a1).wf = true) (w_a2 : (Lit.int .u32 a2).wf = true) (w_a3_0 : (Lit.int .u64 a3_0).wf = true) (w_a3_1 : (Lit.int .u64 a3_1).wf = true) :
    Calls Try.prog 5 #[.int .u32 a0, .int .u32 a1, .int .u32 a2, .agg #[.int .u64 a3_0, .int .u64 a3_1]] w fun e w' => e = .returned (.bool true) ∧ Below w.heap.size w w' := by
  obtain ⟨k, h⟩ := P a0 a1 a2 a3_0 a3_1 w_a0 w_a1 w_a2 w_a3_0 w_a3_1
  refine (linhaylaw03_RatioSame.calls k a0 a1 a2 a3_0 a3_1 true w h).mono ?_
  rintro e w' ⟨rfl, hd⟩
  exact ⟨rfl, hd⟩
end Go.Proofs.Ytnobdpenncfghaa.Print
