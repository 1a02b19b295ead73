/- The pure statement of the law PackOwn, and that its Go function answers true if it holds. Written by a program of this session (wip/tools/row.py). -/
import Derived.Test.YtkfahdccacefiaaPrint6
namespace Go.Proofs.Ytkfahdccacefiaa.Print
open Go.RowKit Go.Proofs.YtkfahdccacefiaaW.PrintWords Go.Proofs.YtkfahdccacefiaaW.PrintLast Go.Proofs.YtkfahdccacefiaaW.PrintMore
set_option linter.unusedVariables false
def linhaylaw07_PackOwn.Pure : Prop := ∀ (a0 : ByteArray), a0.size ≤ 140737488351232 → ∃ k, linhaylaw07_PackOwn.f k a0 = some true
theorem linhaylaw07_PackOwn.walk (P : linhaylaw07_PackOwn.Pure) (a0 : ByteArray) (w : World) (w_a0 : a0.size ≤ 140737488351232)  :
    Calls Try.prog 5 #[.string a0] w fun e w' => e = .returned (.bool true) ∧ Below w.heap.size w w' := by
  obtain ⟨k, h⟩ := P a0 w_a0
  refine (linhaylaw07_PackOwn.calls k a0 true w  h).mono ?_
  rintro e w' ⟨rfl, hd⟩
  exact ⟨rfl, hd⟩
end Go.Proofs.Ytkfahdccacefiaa.Print
