-- Written by a program of this session (see NOTES.md), which reads the translation's print; Lean checks it.
import Derived.Test.YtkjkcmcfbnamaaaProg
import Derived.Below
import Derived.Deep.Draws
import Derived.Deep.AppendLies
import Derived.Maps.AppendAt
import Derived.OwnWalk
import Derived.Laws.BytesArg
import Derived.Laws.MakeOwn
import Derived.Laws.OwnMore
import Derived.Deep.OwnRows
import Derived.Tactics
import Derived.Lib.ConvBytes
import Derived.Laws.Slices
import Derived.WalkKit
import Derived.KernelRfl
import Derived.RowKit3
import Derived.Deep.LoopGhost
import Derived.Deep.QuietTactic
import Derived.BigQuiet
import Derived.WideLaws
import Derived.Deep.DeepCutAuto
import Derived.Deep.CutBlock
import Derived.Deep.RegionHeld3
import Derived.Laws.Rows
import Derived.Lib.AppendStr
import Derived.ArgAppend
import Derived.Laws.IdiomCopy
import Derived.OrdersHeld
import Derived.Laws.BitsLemmas
import Derived.RowKit
import Derived.WalkMore
import Derived.Laws.BitsAllLaws
import Derived.Test.YtkjkcmcfbnamaaaWr
import Derived.Test.YtkjkcmcfbnamaaaWWords
import Derived.Test.YtkjkcmcfbnamaaaWLast
import Derived.Test.YtkjkcmcfbnamaaaWTab
import Derived.Test.YtkjkcmcfbnamaaaWFour
import Derived.Test.YtkjkcmcfbnamaaaWQPut
import Derived.Test.YtkjkcmcfbnamaaaWApart
import Derived.Test.YtkjkcmcfbnamaaaWArr
import Derived.Test.YtkjkcmcfbnamaaaWZeros
import Derived.Test.YtkjkcmcfbnamaaaWFoot
import Derived.Test.YtkjkcmcfbnamaaaWKept
import Derived.Test.YtkjkcmcfbnamaaaWShare
import Derived.Test.YtkjkcmcfbnamaaaWN
import Derived.Test.YtkjkcmcfbnamaaaWFootNe
import Derived.Test.YtkjkcmcfbnamaaaWAt
import Derived.Test.YtkjkcmcfbnamaaaWEqStruct
import Derived.Test.YtkjkcmcfbnamaaaWRepsOne
import Derived.Test.YtkjkcmcfbnamaaaWInv
import Derived.Test.YtkjkcmcfbnamaaaWInvWords
import Derived.Test.YtkjkcmcfbnamaaaWGuard
import Derived.Test.YtkjkcmcfbnamaaaWNEv
import Derived.Test.YtkjkcmcfbnamaaaWMore
namespace Go.Proofs.Ytkjkcmcfbnamaaa.POctetParts
open Go.RowKit Go.Proofs.YtkjkcmcfbnamaaaW.PrintWords Go.Proofs.YtkjkcmcfbnamaaaW.PrintLast Go.Proofs.YtkjkcmcfbnamaaaW.PrintMore
attribute [local go_sem] max2_int min2_int max_two min_two max_three min_three max_four min_four   -- for this text's walks alone
set_option linter.unusedVariables false
set_option linter.unusedSimpArgs false



def errW : Option Int → Value
  | none => .nilIface
  | some c => .iface 0 (.int .i64 c)
theorem errW_none : errW none = .nilIface := rfl
theorem errW_some (c : Int) : errW (some c) = .iface 0 (.int .i64 c) := rfl

-- the values' own types

end Go.Proofs.Ytkjkcmcfbnamaaa.POctetParts
