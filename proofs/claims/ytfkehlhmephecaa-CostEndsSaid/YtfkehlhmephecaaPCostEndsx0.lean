-- Written by a program of this session (see NOTES.md), which reads the translation's print; Lean checks it.
import Derived.Test.YtfkehlhmephecaaProg
import Derived.Below
import Derived.Deep.Draws
import Derived.Deep.AppendLies
import Derived.Maps.AppendAt
import Derived.OwnWalk
import Derived.Laws.BytesArg
import Derived.Laws.MakeOwn
import Derived.Laws.OwnMore
import Derived.Deep.OwnRows
import Derived.Tactics
import Derived.Lib.ConvBytes
import Derived.Laws.Slices
import Derived.WalkKit
import Derived.KernelRfl
import Derived.RowKit3
import Derived.Deep.LoopGhost
import Derived.Deep.QuietTactic
import Derived.BigQuiet
import Derived.WideLaws
import Derived.Deep.DeepCutAuto
import Derived.Deep.CutBlock
import Derived.Deep.RegionHeld3
import Derived.Laws.Rows
import Derived.Lib.AppendStr
import Derived.ArgAppend
import Derived.Laws.IdiomCopy
import Derived.OrdersHeld
import Derived.Laws.BitsLemmas
import Derived.RowKit
import Derived.WalkMore
import Derived.Laws.BitsAllLaws
import Derived.Test.YtfkehlhmephecaaFlt
import Derived.Test.YtfkehlhmephecaaSpd
import Derived.Test.YtfkehlhmephecaaEnds
import Derived.Test.YtfkehlhmephecaaWWords
import Derived.Test.YtfkehlhmephecaaWLast
import Derived.Test.YtfkehlhmephecaaWTab
import Derived.Test.YtfkehlhmephecaaWFour
import Derived.Test.YtfkehlhmephecaaWQPut
import Derived.Test.YtfkehlhmephecaaWApart
import Derived.Test.YtfkehlhmephecaaWArr
import Derived.Test.YtfkehlhmephecaaWZeros
import Derived.Test.YtfkehlhmephecaaWFoot
import Derived.Test.YtfkehlhmephecaaWKept
import Derived.Test.YtfkehlhmephecaaWShare
import Derived.Test.YtfkehlhmephecaaWN
import Derived.Test.YtfkehlhmephecaaWFootNe
import Derived.Test.YtfkehlhmephecaaWAt
import Derived.Test.YtfkehlhmephecaaWEqStruct
import Derived.Test.YtfkehlhmephecaaWRepsOne
import Derived.Test.YtfkehlhmephecaaWInv
import Derived.Test.YtfkehlhmephecaaWInvWords
import Derived.Test.YtfkehlhmephecaaWGuard
import Derived.Test.YtfkehlhmephecaaWNEv
import Derived.Test.YtfkehlhmephecaaWMore
namespace Go.Proofs.Ytfkehlhmephecaa.PCostEnds
open Go.RowKit Go.Proofs.YtfkehlhmephecaaW.PrintWords Go.Proofs.YtfkehlhmephecaaW.PrintLast Go.Proofs.YtfkehlhmephecaaW.PrintMore
attribute [local go_sem] max2_int min2_int max_two min_two max_three min_three max_four min_four   -- for this text's walks alone
set_option linter.unusedVariables false
set_option linter.unusedSimpArgs false



def errW : Option Int → Value
  | none => .nilIface
  | some c => .iface 0 (.int .i64 c)
theorem errW_none : errW none = .nilIface := rfl
theorem errW_some (c : Int) : errW (some c) = .iface 0 (.int .i64 c) := rfl

-- the values' own types

end Go.Proofs.Ytfkehlhmephecaa.PCostEnds
