/- A rank in a block of the call's own. Conditions: those that each theorem says. -/
import Derived.Test.YtiokopkglmaffaaPrint7
import Derived.Deep.RegionHeld3
import Derived.Deep.MidRow
import Derived.IntWalk
namespace Go.Proofs.Ytiokopkglmaffaa.Print
open Go.RowKit Go.Proofs.YtiokopkglmaffaaW.PrintWords Go.Proofs.YtiokopkglmaffaaW.PrintLast Go.Proofs.YtiokopkglmaffaaW.PrintMore
attribute [local go_sem] max2_int min2_int max_two min_two max_three min_three max_four min_four
set_option linter.unusedVariables false
set_option linter.unusedSimpArgs false
theorem abs2 {K : Act → World → Prop} {a : Act} {W : World} (F : World → Prop) (hF : F W) (h : ∀ W', F W' → K a W') : K a W := h W hF
/-- A rank in a block of the call's own. -/
def RB (w W : World) (g : Nat) (xs : List Int) : Prop := W.heap[g]? = some (.cells (rkV xs) 25 (0, 0)) ∧ Below w.heap.size w W ∧ w.heap.size ≤ g
theorem RB.blk {w W : World} {g : Nat} {xs : List Int} (h : RB w W g xs) : W.heap[g]? = some (.cells (rkV xs) 25 (0, 0)) := h.1
theorem RB.base {w W : World} {g : Nat} {xs : List Int} (h : RB w W g xs) : Below w.heap.size w W := h.2.1
theorem RB.step {w W W1 : World} {g : Nat} {xs : List Int} (h : RB w W g xs) (hb : Below W.heap.size W W1) : RB w W1 g xs := ⟨(hb.block g (blk_lt h.1)).trans h.1, below_step h.2.1 hb, h.2.2⟩
theorem RB.cell {w W : World} {g : Nat} {xs : List Int} (h : RB w W g xs) (i : Nat) (hi : i < xs.length) : W.cell? ⟨g, i, none⟩ = some (.int .u64 (rkG xs i)) := (blk_cell h.1 i).trans (rkV_get xs i hi)
end Go.Proofs.Ytiokopkglmaffaa.Print
