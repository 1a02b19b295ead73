/- Lean functions that answer what Go functions of the translation answer, and the proofs of it. Written by a program of this session (wip/tools/seatprint.py), over contracts that it proved by hand. Conditions: those that each theorem says. -/
import Derived.Test.YtkicianajhnpkaaProg
import Derived.Below
import Derived.Deep.Draws
import Derived.Deep.AppendLies
import Derived.Maps.AppendAt
import Derived.OwnWalk
import Derived.Laws.BytesArg
import Derived.Laws.MakeOwn
import Derived.Laws.OwnMore
import Derived.Deep.OwnRows
import Derived.Tactics
import Derived.Lib.ConvBytes
import Derived.Laws.Slices
import Derived.WalkKit
import Derived.KernelRfl
import Derived.RowKit3
import Derived.Deep.LoopGhost
import Derived.Deep.QuietTactic
import Derived.BigQuiet
import Derived.WideLaws
import Derived.Deep.DeepCutAuto
import Derived.Deep.CutBlock
import Derived.Deep.RegionHeld3
import Derived.Laws.Rows
import Derived.Lib.AppendStr
import Derived.ArgAppend
import Derived.Laws.IdiomCopy
import Derived.OrdersHeld
import Derived.Laws.BitsLemmas
import Derived.RowKit
import Derived.WalkMore
import Derived.Shelf.Small.Bits
import Derived.Shelf.Strconv.Itoa0
import Derived.Laws.Externs
import Derived.Shelf.Bits.Mul64
import Derived.Lib.Hide
import Derived.LoopN
import Derived.Shelf.Spec.BitsCarry
import Derived.Test.YtkicianajhnpkaaWWords
import Derived.Test.YtkicianajhnpkaaWLast
import Derived.Test.YtkicianajhnpkaaWTab
import Derived.Test.YtkicianajhnpkaaWFour
import Derived.Test.YtkicianajhnpkaaWQPut
import Derived.Test.YtkicianajhnpkaaWApart
import Derived.Test.YtkicianajhnpkaaWArr
import Derived.Test.YtkicianajhnpkaaWZeros
import Derived.Test.YtkicianajhnpkaaWFoot
import Derived.Test.YtkicianajhnpkaaWKept
import Derived.Test.YtkicianajhnpkaaWShare
import Derived.Test.YtkicianajhnpkaaWN
import Derived.Test.YtkicianajhnpkaaWFootNe
import Derived.Test.YtkicianajhnpkaaWAt
import Derived.Test.YtkicianajhnpkaaWEqStruct
import Derived.Test.YtkicianajhnpkaaWRepsOne
import Derived.Test.YtkicianajhnpkaaWInv
import Derived.Test.YtkicianajhnpkaaWInvWords
import Derived.Test.YtkicianajhnpkaaWGuard
import Derived.Test.YtkicianajhnpkaaWNEv
import Derived.Test.YtkicianajhnpkaaWMore
namespace Go.Proofs.Ytkicianajhnpkaa.Print
open Go.RowKit Go.Proofs.YtkicianajhnpkaaW.PrintWords Go.Proofs.YtkicianajhnpkaaW.PrintLast Go.Proofs.YtkicianajhnpkaaW.PrintMore
attribute [local go_sem] max2_int min2_int max_two min_two max_three min_three max_four min_four   -- for this text's walks alone
set_option linter.unusedVariables false
set_option linter.unusedSimpArgs false



def errW : Option Int → Value
  | none => .nilIface
  | some c => .iface 0 (.int .i64 c)
theorem errW_none : errW none = .nilIface := rfl
theorem errW_some (c : Int) : errW (some c) = .iface 0 (.int .i64 c) := rfl

theorem info3 : (Try.prog.info? 3).map (fun i => (i.zero, i.size, i.bytes)) = some (some (.int .i64 0), 1, 8) := by kernel_rfl
-- the values' own types

end Go.Proofs.Ytkicianajhnpkaa.Print
