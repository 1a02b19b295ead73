/- Lean functions that answer what Go functions of the translation answer, and the proofs of it. Written by a program of this session (wip/tools/seatprint.py), over contracts that it proved by hand. Conditions: those that each theorem says. -/
import Derived.Test.YthpkiacaemhkkaaDoorProg
import Derived.Below
import Derived.Deep.Draws
import Derived.Deep.AppendLies
import Derived.Maps.AppendAt
import Derived.OwnWalk
import Derived.Laws.BytesArg
import Derived.Laws.MakeOwn
import Derived.Laws.OwnMore
import Derived.Deep.OwnRows
import Derived.Tactics
import Derived.Lib.ConvBytes
import Derived.Laws.Slices
import Derived.WalkKit
import Derived.KernelRfl
import Derived.RowKit3
import Derived.Deep.LoopGhost
import Derived.Deep.QuietTactic
import Derived.BigQuiet
import Derived.WideLaws
import Derived.Deep.DeepCutAuto
import Derived.Deep.CutBlock
import Derived.Deep.RegionHeld3
import Derived.Laws.Rows
import Derived.Lib.AppendStr
import Derived.ArgAppend
import Derived.Laws.IdiomCopy
import Derived.OrdersHeld
import Derived.Laws.BitsLemmas
import Derived.RowKit
import Derived.WalkMore
import Derived.Shelf.Small.Bits
import Derived.Shelf.Strconv.Itoa0
import Derived.Laws.Externs
import Derived.Shelf.Bits.Mul64
import Derived.Laws.IdiomStrings
import Derived.Laws.IdiomCopy
import Derived.ArgAppend
import Derived.Lib.Hide
import Derived.LoopN
import Derived.Deep.MidRow
import Derived.Shelf.Spec.BitsCarry
import Derived.Test.YthpkiacaemhkkaaDoorWWords
import Derived.Test.YthpkiacaemhkkaaDoorWLast
import Derived.Test.YthpkiacaemhkkaaDoorWTab
import Derived.Test.YthpkiacaemhkkaaDoorWFour
import Derived.Test.YthpkiacaemhkkaaDoorWQPut
import Derived.Test.YthpkiacaemhkkaaDoorWApart
import Derived.Test.YthpkiacaemhkkaaDoorWArr
import Derived.Test.YthpkiacaemhkkaaDoorWZeros
import Derived.Test.YthpkiacaemhkkaaDoorWFoot
import Derived.Test.YthpkiacaemhkkaaDoorWKept
import Derived.Test.YthpkiacaemhkkaaDoorWShare
import Derived.Test.YthpkiacaemhkkaaDoorWN
import Derived.Test.YthpkiacaemhkkaaDoorWFootNe
import Derived.Test.YthpkiacaemhkkaaDoorWAt
import Derived.Test.YthpkiacaemhkkaaDoorWEqStruct
import Derived.Test.YthpkiacaemhkkaaDoorWRepsOne
import Derived.Test.YthpkiacaemhkkaaDoorWInv
import Derived.Test.YthpkiacaemhkkaaDoorWInvWords
import Derived.Test.YthpkiacaemhkkaaDoorWGuard
import Derived.Test.YthpkiacaemhkkaaDoorWNEv
import Derived.Test.YthpkiacaemhkkaaDoorWMore
namespace Go.Proofs.YthpkiacaemhkkaaDoor.Print
open Go.RowKit Go.Proofs.YthpkiacaemhkkaaDoorW.PrintWords Go.Proofs.YthpkiacaemhkkaaDoorW.PrintLast Go.Proofs.YthpkiacaemhkkaaDoorW.PrintMore
attribute [local go_sem] max2_int min2_int max_two min_two max_three min_three max_four min_four   -- for this text's walks alone
set_option linter.unusedVariables false
set_option linter.unusedSimpArgs false



def errW : Option Int → Value
  | none => .nilIface
  | some c => .iface 0 (.int .i64 c)
theorem errW_none : errW none = .nilIface := rfl
theorem errW_some (c : Int) : errW (some c) = .iface 0 (.int .i64 c) := rfl

-- the values' own types

end Go.Proofs.YthpkiacaemhkkaaDoor.Print
