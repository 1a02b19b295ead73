/- The pure statement of the law LhdAges, and that its Go function answers true if it holds. Written by a program of this session (wip/tools/row.py). -/
import Derived.Test.YtiokopkglmaffaaPrint7
namespace Go.Proofs.Ytiokopkglmaffaa.Print
open Go.RowKit Go.Proofs.YtiokopkglmaffaaW.PrintWords Go.Proofs.YtiokopkglmaffaaW.PrintLast Go.Proofs.YtiokopkglmaffaaW.PrintMore
set_option linter.unusedVariables false
def linhaylaw19_LhdAges.Pure : Prop := ∀ (a0 : Int) (a1 : Int), (Lit.int .u64 a0).wf = true → (Lit.int .u64 a1).wf = true → linhaylaw19_LhdAges.f a0 a1 = some true
theorem linhaylaw19_LhdAges.walk (P : linhaylaw19_LhdAges.Pure) (a0 : Int) (a1 : Int) (w : World) (w_a0 : (Lit.int .u64 a0).wf = true) (w_a1 : (Lit.int .u64 a1).wf = true)  :
    Calls Try.prog 4 #[.int .u64 a0, .int .u64 a1] w fun e w' => e = .returned (.bool true) ∧ Below w.heap.size w w' := by
  have h := P a0 a1 w_a0 w_a1
  refine (linhaylaw19_LhdAges.calls a0 a1 true w  h).mono ?_
  rintro e w' ⟨rfl, hd⟩
  exact ⟨rfl, hd⟩
end Go.Proofs.Ytiokopkglmaffaa.Print
