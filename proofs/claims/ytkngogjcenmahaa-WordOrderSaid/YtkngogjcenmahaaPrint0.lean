/- Lean functions that answer what Go functions of the translation answer, and the proofs of it. Written by a program of this session (wip/tools/seatprint.py), over contracts that it proved by hand. Conditions: those that each theorem says. -/
import Derived.Test.YtkngogjcenmahaaProg
import Derived.Below
import Derived.Deep.Draws
import Derived.Deep.AppendLies
import Derived.Maps.AppendAt
import Derived.OwnWalk
import Derived.Laws.BytesArg
import Derived.Laws.MakeOwn
import Derived.Laws.OwnMore
import Derived.Deep.OwnRows
import Derived.Tactics
import Derived.Lib.ConvBytes
import Derived.Laws.Slices
import Derived.WalkKit
import Derived.KernelRfl
import Derived.RowKit3
import Derived.Deep.LoopGhost
import Derived.Deep.QuietTactic
import Derived.BigQuiet
import Derived.WideLaws
import Derived.Deep.DeepCutAuto
import Derived.Deep.CutBlock
import Derived.Deep.RegionHeld3
import Derived.Laws.Rows
import Derived.Lib.AppendStr
import Derived.ArgAppend
import Derived.Laws.IdiomCopy
import Derived.OrdersHeld
import Derived.Laws.BitsLemmas
import Derived.RowKit
import Derived.Laws.Externs
import Derived.Shelf.Bits.Mul64
import Derived.Lib.Hide
import Derived.Test.YtkngogjcenmahaaWWords
import Derived.Test.YtkngogjcenmahaaWLast
import Derived.Test.YtkngogjcenmahaaWTab
import Derived.Test.YtkngogjcenmahaaWFour
import Derived.Test.YtkngogjcenmahaaWQPut
import Derived.Test.YtkngogjcenmahaaWApart
import Derived.Test.YtkngogjcenmahaaWArr
import Derived.Test.YtkngogjcenmahaaWZeros
import Derived.Test.YtkngogjcenmahaaWFoot
import Derived.Test.YtkngogjcenmahaaWKept
import Derived.Test.YtkngogjcenmahaaWShare
import Derived.Test.YtkngogjcenmahaaWN
import Derived.Test.YtkngogjcenmahaaWFootNe
import Derived.Test.YtkngogjcenmahaaWAt
import Derived.Test.YtkngogjcenmahaaWEqStruct
import Derived.Test.YtkngogjcenmahaaWRepsOne
import Derived.Test.YtkngogjcenmahaaWInv
import Derived.Test.YtkngogjcenmahaaWInvWords
import Derived.Test.YtkngogjcenmahaaWGuard
import Derived.Test.YtkngogjcenmahaaWNEv
import Derived.Test.YtkngogjcenmahaaWMore
namespace Go.Proofs.Ytkngogjcenmahaa.Print
open Go.RowKit Go.Proofs.YtkngogjcenmahaaW.PrintWords Go.Proofs.YtkngogjcenmahaaW.PrintLast Go.Proofs.YtkngogjcenmahaaW.PrintMore
attribute [local go_sem] max2_int min2_int max_two min_two max_three min_three max_four min_four   -- for this text's walks alone
set_option linter.unusedVariables false
set_option linter.unusedSimpArgs false



def errW : Option Int → Value
  | none => .nilIface
  | some c => .iface 0 (.int .i64 c)
theorem errW_none : errW none = .nilIface := rfl
theorem errW_some (c : Int) : errW (some c) = .iface 0 (.int .i64 c) := rfl

-- the values' own types

end Go.Proofs.Ytkngogjcenmahaa.Print
