-- Written by a program of this session (see NOTES.md), which reads the translation's print; Lean checks it.
import Derived.Test.YtffhepaldaoleaaDoorProg
import Derived.Below
import Derived.Deep.Draws
import Derived.Deep.AppendLies
import Derived.Maps.AppendAt
import Derived.OwnWalk
import Derived.Laws.BytesArg
import Derived.Laws.MakeOwn
import Derived.Laws.OwnMore
import Derived.Deep.OwnRows
import Derived.Tactics
import Derived.Lib.ConvBytes
import Derived.Laws.Slices
import Derived.WalkKit
import Derived.KernelRfl
import Derived.RowKit3
import Derived.Deep.LoopGhost
import Derived.Deep.QuietTactic
import Derived.BigQuiet
import Derived.WideLaws
import Derived.Deep.DeepCutAuto
import Derived.Deep.CutBlock
import Derived.Deep.RegionHeld3
import Derived.Laws.Rows
import Derived.Lib.AppendStr
import Derived.ArgAppend
import Derived.Laws.IdiomCopy
import Derived.OrdersHeld
import Derived.Laws.BitsLemmas
import Derived.RowKit
import Derived.WalkMore
import Derived.Laws.BitsAllLaws
import Derived.Test.YtffhepaldaoleaaDoorBb
import Derived.Test.YtffhepaldaoleaaDoorCrc
import Derived.Test.YtffhepaldaoleaaDoorWWords
import Derived.Test.YtffhepaldaoleaaDoorWLast
import Derived.Test.YtffhepaldaoleaaDoorWTab
import Derived.Test.YtffhepaldaoleaaDoorWFour
import Derived.Test.YtffhepaldaoleaaDoorWQPut
import Derived.Test.YtffhepaldaoleaaDoorWApart
import Derived.Test.YtffhepaldaoleaaDoorWArr
import Derived.Test.YtffhepaldaoleaaDoorWZeros
import Derived.Test.YtffhepaldaoleaaDoorWFoot
import Derived.Test.YtffhepaldaoleaaDoorWKept
import Derived.Test.YtffhepaldaoleaaDoorWShare
import Derived.Test.YtffhepaldaoleaaDoorWN
import Derived.Test.YtffhepaldaoleaaDoorWFootNe
import Derived.Test.YtffhepaldaoleaaDoorWAt
import Derived.Test.YtffhepaldaoleaaDoorWEqStruct
import Derived.Test.YtffhepaldaoleaaDoorWRepsOne
import Derived.Test.YtffhepaldaoleaaDoorWInv
import Derived.Test.YtffhepaldaoleaaDoorWInvWords
import Derived.Test.YtffhepaldaoleaaDoorWGuard
import Derived.Test.YtffhepaldaoleaaDoorWNEv
import Derived.Test.YtffhepaldaoleaaDoorWMore
namespace Go.Proofs.YtffhepaldaoleaaDoor.PCheckOdd
open Go.RowKit Go.Proofs.YtffhepaldaoleaaDoorW.PrintWords Go.Proofs.YtffhepaldaoleaaDoorW.PrintLast Go.Proofs.YtffhepaldaoleaaDoorW.PrintMore
attribute [local go_sem] max2_int min2_int max_two min_two max_three min_three max_four min_four   -- for this text's walks alone
set_option linter.unusedVariables false
set_option linter.unusedSimpArgs false



def errW : Option Int → Value
  | none => .nilIface
  | some c => .iface 0 (.int .i64 c)
theorem errW_none : errW none = .nilIface := rfl
theorem errW_some (c : Int) : errW (some c) = .iface 0 (.int .i64 c) := rfl

-- the values' own types

end Go.Proofs.YtffhepaldaoleaaDoor.PCheckOdd
