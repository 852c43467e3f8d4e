-- Written by a program of this session (see NOTES.md), which reads the translation's print; Lean checks it.
import Derived.Test.YtjebdmfhnfbomaaProg
import Derived.Below
import Derived.Deep.Draws
import Derived.Deep.AppendLies
import Derived.Maps.AppendAt
import Derived.OwnWalk
import Derived.Laws.BytesArg
import Derived.Laws.MakeOwn
import Derived.Laws.OwnMore
import Derived.Deep.OwnRows
import Derived.Tactics
import Derived.Lib.ConvBytes
import Derived.Laws.Slices
import Derived.WalkKit
import Derived.KernelRfl
import Derived.RowKit3
import Derived.Deep.LoopGhost
import Derived.Deep.QuietTactic
import Derived.BigQuiet
import Derived.WideLaws
import Derived.Deep.DeepCutAuto
import Derived.Deep.CutBlock
import Derived.Deep.RegionHeld3
import Derived.Laws.Rows
import Derived.Lib.AppendStr
import Derived.ArgAppend
import Derived.Laws.IdiomCopy
import Derived.OrdersHeld
import Derived.Laws.BitsLemmas
import Derived.RowKit
import Derived.WalkMore
import Derived.Test.YtjebdmfhnfbomaaWr
import Derived.Test.YtjebdmfhnfbomaaWWords
import Derived.Test.YtjebdmfhnfbomaaWLast
import Derived.Test.YtjebdmfhnfbomaaWTab
import Derived.Test.YtjebdmfhnfbomaaWFour
import Derived.Test.YtjebdmfhnfbomaaWQPut
import Derived.Test.YtjebdmfhnfbomaaWApart
import Derived.Test.YtjebdmfhnfbomaaWArr
import Derived.Test.YtjebdmfhnfbomaaWZeros
import Derived.Test.YtjebdmfhnfbomaaWFoot
import Derived.Test.YtjebdmfhnfbomaaWKept
import Derived.Test.YtjebdmfhnfbomaaWShare
import Derived.Test.YtjebdmfhnfbomaaWN
import Derived.Test.YtjebdmfhnfbomaaWFootNe
import Derived.Test.YtjebdmfhnfbomaaWAt
import Derived.Test.YtjebdmfhnfbomaaWEqStruct
import Derived.Test.YtjebdmfhnfbomaaWRepsOne
import Derived.Test.YtjebdmfhnfbomaaWInv
import Derived.Test.YtjebdmfhnfbomaaWInvWords
import Derived.Test.YtjebdmfhnfbomaaWGuard
import Derived.Test.YtjebdmfhnfbomaaWNEv
import Derived.Test.YtjebdmfhnfbomaaWMore
namespace Go.Proofs.Ytjebdmfhnfbomaa.PBpduBytes
open Go.RowKit Go.Proofs.YtjebdmfhnfbomaaW.PrintWords Go.Proofs.YtjebdmfhnfbomaaW.PrintLast Go.Proofs.YtjebdmfhnfbomaaW.PrintMore
attribute [local go_sem] max2_int min2_int max_two min_two max_three min_three max_four min_four   -- for this text's walks alone
set_option linter.unusedVariables false
set_option linter.unusedSimpArgs false



def errW : Option Int → Value
  | none => .nilIface
  | some c => .iface 0 (.int .i64 c)
theorem errW_none : errW none = .nilIface := rfl
theorem errW_some (c : Int) : errW (some c) = .iface 0 (.int .i64 c) := rfl

theorem info3 : (Try.prog.info? 3).map (fun i => (i.zero, i.size, i.bytes)) = some (some (.int .i64 0), 1, 8) := by kernel_rfl
theorem info5 : (Try.prog.info? 5).map (fun i => (i.zero, i.size, i.bytes)) = some (some (.int .u8 0), 1, 1) := by kernel_rfl
-- the values' own types

end Go.Proofs.Ytjebdmfhnfbomaa.PBpduBytes
