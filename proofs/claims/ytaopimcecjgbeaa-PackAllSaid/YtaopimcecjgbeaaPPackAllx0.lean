-- Written by a program of this session (see NOTES.md), which reads the translation's print; Lean checks it.
import Derived.Test.YtaopimcecjgbeaaProg
import Derived.Below
import Derived.Deep.Draws
import Derived.Deep.AppendLies
import Derived.Maps.AppendAt
import Derived.OwnWalk
import Derived.Laws.BytesArg
import Derived.Laws.MakeOwn
import Derived.Laws.OwnMore
import Derived.Deep.OwnRows
import Derived.Tactics
import Derived.Lib.ConvBytes
import Derived.Laws.Slices
import Derived.WalkKit
import Derived.KernelRfl
import Derived.RowKit3
import Derived.Deep.LoopGhost
import Derived.Deep.QuietTactic
import Derived.BigQuiet
import Derived.WideLaws
import Derived.Deep.DeepCutAuto
import Derived.Deep.CutBlock
import Derived.Deep.RegionHeld3
import Derived.Laws.Rows
import Derived.Lib.AppendStr
import Derived.ArgAppend
import Derived.Laws.IdiomCopy
import Derived.OrdersHeld
import Derived.Laws.BitsLemmas
import Derived.RowKit
import Derived.WalkMore
import Derived.Test.YtaopimcecjgbeaaWWords
import Derived.Test.YtaopimcecjgbeaaWLast
import Derived.Test.YtaopimcecjgbeaaWTab
import Derived.Test.YtaopimcecjgbeaaWFour
import Derived.Test.YtaopimcecjgbeaaWQPut
import Derived.Test.YtaopimcecjgbeaaWApart
import Derived.Test.YtaopimcecjgbeaaWArr
import Derived.Test.YtaopimcecjgbeaaWZeros
import Derived.Test.YtaopimcecjgbeaaWFoot
import Derived.Test.YtaopimcecjgbeaaWKept
import Derived.Test.YtaopimcecjgbeaaWShare
import Derived.Test.YtaopimcecjgbeaaWN
import Derived.Test.YtaopimcecjgbeaaWFootNe
import Derived.Test.YtaopimcecjgbeaaWAt
import Derived.Test.YtaopimcecjgbeaaWEqStruct
import Derived.Test.YtaopimcecjgbeaaWRepsOne
import Derived.Test.YtaopimcecjgbeaaWInv
import Derived.Test.YtaopimcecjgbeaaWInvWords
import Derived.Test.YtaopimcecjgbeaaWGuard
import Derived.Test.YtaopimcecjgbeaaWNEv
import Derived.Test.YtaopimcecjgbeaaWMore
namespace Go.Proofs.Ytaopimcecjgbeaa.PPackAll
open Go.RowKit Go.Proofs.YtaopimcecjgbeaaW.PrintWords Go.Proofs.YtaopimcecjgbeaaW.PrintLast Go.Proofs.YtaopimcecjgbeaaW.PrintMore
attribute [local go_sem] max2_int min2_int max_two min_two max_three min_three max_four min_four   -- for this text's walks alone
set_option linter.unusedVariables false
set_option linter.unusedSimpArgs false



def errW : Option Int → Value
  | none => .nilIface
  | some c => .iface 0 (.int .i64 c)
theorem errW_none : errW none = .nilIface := rfl
theorem errW_some (c : Int) : errW (some c) = .iface 0 (.int .i64 c) := rfl

theorem info3 : (Try.prog.info? 3).map (fun i => (i.zero, i.size, i.bytes)) = some (some (.int .i64 0), 1, 8) := by kernel_rfl
theorem info5 : (Try.prog.info? 5).map (fun i => (i.zero, i.size, i.bytes)) = some (some (.int .u8 0), 1, 1) := by kernel_rfl
-- the values' own types

end Go.Proofs.Ytaopimcecjgbeaa.PPackAll
