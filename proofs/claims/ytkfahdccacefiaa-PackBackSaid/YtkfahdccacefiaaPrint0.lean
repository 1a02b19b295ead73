/- Lean functions that answer what Go functions of the translation answer, and the proofs of it. Written by a program of this session (wip/tools/seatprint.py), over contracts that it proved by hand. Conditions: those that each theorem says. -/
import Derived.Test.YtkfahdccacefiaaProg
import Derived.Below
import Derived.Deep.Draws
import Derived.Deep.AppendLies
import Derived.Maps.AppendAt
import Derived.OwnWalk
import Derived.Laws.BytesArg
import Derived.Laws.MakeOwn
import Derived.Laws.OwnMore
import Derived.Deep.OwnRows
import Derived.Tactics
import Derived.Lib.ConvBytes
import Derived.Laws.Slices
import Derived.WalkKit
import Derived.KernelRfl
import Derived.RowKit3
import Derived.Deep.LoopGhost
import Derived.Deep.QuietTactic
import Derived.BigQuiet
import Derived.WideLaws
import Derived.Deep.DeepCutAuto
import Derived.Deep.CutBlock
import Derived.Deep.RegionHeld3
import Derived.Laws.Rows
import Derived.Lib.AppendStr
import Derived.ArgAppend
import Derived.Laws.IdiomCopy
import Derived.OrdersHeld
import Derived.Laws.BitsLemmas
import Derived.RowKit
import Derived.WalkMore
import Derived.Shelf.Small.Bits
import Derived.Shelf.Strconv.Itoa0
import Derived.Laws.Externs
import Derived.Shelf.Bits.Mul64
import Derived.Laws.IdiomStrings
import Derived.Laws.IdiomCopy
import Derived.ArgAppend
import Derived.Lib.Hide
import Derived.LoopN
import Derived.Shelf.Spec.BitsCarry
import Derived.Test.YtkfahdccacefiaaWWords
import Derived.Test.YtkfahdccacefiaaWLast
import Derived.Test.YtkfahdccacefiaaWTab
import Derived.Test.YtkfahdccacefiaaWFour
import Derived.Test.YtkfahdccacefiaaWQPut
import Derived.Test.YtkfahdccacefiaaWApart
import Derived.Test.YtkfahdccacefiaaWArr
import Derived.Test.YtkfahdccacefiaaWZeros
import Derived.Test.YtkfahdccacefiaaWFoot
import Derived.Test.YtkfahdccacefiaaWKept
import Derived.Test.YtkfahdccacefiaaWShare
import Derived.Test.YtkfahdccacefiaaWN
import Derived.Test.YtkfahdccacefiaaWFootNe
import Derived.Test.YtkfahdccacefiaaWAt
import Derived.Test.YtkfahdccacefiaaWEqStruct
import Derived.Test.YtkfahdccacefiaaWRepsOne
import Derived.Test.YtkfahdccacefiaaWInv
import Derived.Test.YtkfahdccacefiaaWInvWords
import Derived.Test.YtkfahdccacefiaaWGuard
import Derived.Test.YtkfahdccacefiaaWNEv
import Derived.Test.YtkfahdccacefiaaWMore
namespace Go.Proofs.Ytkfahdccacefiaa.Print
open Go.RowKit Go.Proofs.YtkfahdccacefiaaW.PrintWords Go.Proofs.YtkfahdccacefiaaW.PrintLast Go.Proofs.YtkfahdccacefiaaW.PrintMore
attribute [local go_sem] max2_int min2_int max_two min_two max_three min_three max_four min_four   -- for this text's walks alone
set_option linter.unusedVariables false
set_option linter.unusedSimpArgs false



def errW : Option Int → Value
  | none => .nilIface
  | some c => .iface 0 (.int .i64 c)
theorem errW_none : errW none = .nilIface := rfl
theorem errW_some (c : Int) : errW (some c) = .iface 0 (.int .i64 c) := rfl

theorem info5 : (Try.prog.info? 5).map (fun i => (i.zero, i.size, i.bytes)) = some (some (.int .u8 0), 1, 1) := by kernel_rfl
theorem info9 : (Try.prog.info? 9).map (fun i => (i.zero, i.size, i.bytes)) = some (some (.string ⟨#[]⟩), 1, 16) := by kernel_rfl
theorem info24 : (Try.prog.info? 24).map (fun i => (i.zero, i.size, i.bytes)) = some (some (.int .u64 0), 1, 8) := by kernel_rfl
-- the values' own types

end Go.Proofs.Ytkfahdccacefiaa.Print
