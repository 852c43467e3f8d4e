-- Written by a program of this session (see NOTES.md), which reads the translation's print; Lean checks it.
import Derived.Test.YtibeijfgjcakiaaProg
import Derived.Below
import Derived.Deep.Draws
import Derived.Deep.AppendLies
import Derived.Maps.AppendAt
import Derived.OwnWalk
import Derived.Laws.BytesArg
import Derived.Laws.MakeOwn
import Derived.Laws.OwnMore
import Derived.Deep.OwnRows
import Derived.Tactics
import Derived.Lib.ConvBytes
import Derived.Laws.Slices
import Derived.WalkKit
import Derived.KernelRfl
import Derived.RowKit3
import Derived.Deep.LoopGhost
import Derived.Deep.QuietTactic
import Derived.BigQuiet
import Derived.WideLaws
import Derived.Deep.DeepCutAuto
import Derived.Deep.CutBlock
import Derived.Deep.RegionHeld3
import Derived.Laws.Rows
import Derived.Lib.AppendStr
import Derived.ArgAppend
import Derived.Laws.IdiomCopy
import Derived.OrdersHeld
import Derived.Laws.BitsLemmas
import Derived.RowKit
import Derived.WalkMore
import Derived.Laws.BitsAllLaws
import Derived.Test.YtibeijfgjcakiaaShelf
import Derived.Test.YtibeijfgjcakiaaOth
import Derived.Test.YtibeijfgjcakiaaDec
import Derived.Test.YtibeijfgjcakiaaWWords
import Derived.Test.YtibeijfgjcakiaaWLast
import Derived.Test.YtibeijfgjcakiaaWTab
import Derived.Test.YtibeijfgjcakiaaWFour
import Derived.Test.YtibeijfgjcakiaaWQPut
import Derived.Test.YtibeijfgjcakiaaWApart
import Derived.Test.YtibeijfgjcakiaaWArr
import Derived.Test.YtibeijfgjcakiaaWZeros
import Derived.Test.YtibeijfgjcakiaaWFoot
import Derived.Test.YtibeijfgjcakiaaWKept
import Derived.Test.YtibeijfgjcakiaaWShare
import Derived.Test.YtibeijfgjcakiaaWN
import Derived.Test.YtibeijfgjcakiaaWFootNe
import Derived.Test.YtibeijfgjcakiaaWAt
import Derived.Test.YtibeijfgjcakiaaWEqStruct
import Derived.Test.YtibeijfgjcakiaaWRepsOne
import Derived.Test.YtibeijfgjcakiaaWInv
import Derived.Test.YtibeijfgjcakiaaWInvWords
import Derived.Test.YtibeijfgjcakiaaWGuard
import Derived.Test.YtibeijfgjcakiaaWNEv
import Derived.Test.YtibeijfgjcakiaaWMore
namespace Go.Proofs.Ytibeijfgjcakiaa.PAddrParses
open Go.RowKit Go.Proofs.YtibeijfgjcakiaaW.PrintWords Go.Proofs.YtibeijfgjcakiaaW.PrintLast Go.Proofs.YtibeijfgjcakiaaW.PrintMore
attribute [local go_sem] max2_int min2_int max_two min_two max_three min_three max_four min_four   -- for this text's walks alone
set_option linter.unusedVariables false
set_option linter.unusedSimpArgs false



def errW : Option Int → Value
  | none => .nilIface
  | some c => .iface 0 (.int .i64 c)
theorem errW_none : errW none = .nilIface := rfl
theorem errW_some (c : Int) : errW (some c) = .iface 0 (.int .i64 c) := rfl

-- the values' own types

end Go.Proofs.Ytibeijfgjcakiaa.PAddrParses
