/-
  NARROWER THAN 'FOR EVERY INPUT', by the rows' own cells (each row's printed sentence says how): CheckOdd: laid · CheckIs: laid · CheckGoes: laid · CheckStrips: laid · CheckRow: laid · CheckBits: laid.
  DERIVED. THE GIVEN ROWS OF THIS SEAT. 6 by the template 'for every input the law returns true; each argument reads behind the call as it read before'; 0 by the template 'total and deterministic' (their statements: YtffhepaldaoleaaDoorTotals.lean).
  GIVEN WITH THE SEED: the statements are not yours to turn. If you find one false, say at which input.
  Laid BY PROGRAM, IN A SANDBOX (cutbox-rows.mjs): the forced cells as the released guide's own fill.sh prints them over the translation 15b609af9bb8b2bd… (all of the seat's roots in one cut). By AI agents, Wed Nov 11 2026. No macro, syntax, notation, axiom, sorry.
-/
import Derived.Test.YtffhepaldaoleaaDoorChecked
import GoSem.Claim
import GoSem.ClaimJoined
import GoSem.ClaimMapViews
import Derived.JoinedTies
import Derived.KernelRfl
namespace Go.Proofs.YtffhepaldaoleaaDoor
/- THE CELL 'sum', in the pinned program and in every row, IS THE sha256 OF THE DUMP (.gsa) THAT YtffhepaldaoleaaDoorProg.lean LOADS. Nothing in Lean hashes anything: it is a label: what it is worth is what the hold of that sum in a sandbox is worth. -/
noncomputable def Tryd.pinned : Pinned := { name := "ytffhepaldaoleaadoor", sum := "15b609af9bb8b2bd636e305becd716dd534c6e929e4fe99a4dd4b915ee217fc4", checked := Tryd.checked }
namespace Rows
def none {H : Type} : Left H := { results := [], args := [] }

/- WHAT THE LISTED PACKAGE-LEVEL VARIABLES READ AS WHEN THE CALL BEGINS. Each datum BY PROGRAM (the guide's laid-datum.mjs) off the statement by which the dump's own 'gosem.cut.vars' lays the variable. In a bare row this is a premise. The card (YtffhepaldaoleaaDoorCards.lean) ties it to the program's text. -/
def laid_kissgate_check_turns {H : Type} : DataW H := .agg [.lit (.int .u16 0), .lit (.int .u16 4129), .lit (.int .u16 8258), .lit (.int .u16 12387), .lit (.int .u16 16516), .lit (.int .u16 20645), .lit (.int .u16 24774), .lit (.int .u16 28903), .lit (.int .u16 33032), .lit (.int .u16 37161), .lit (.int .u16 41290), .lit (.int .u16 45419), .lit (.int .u16 49548), .lit (.int .u16 53677), .lit (.int .u16 57806), .lit (.int .u16 61935)]

/-- 'kissgatelaw04.CheckOdd': WHATEVER THE INPUT: true; the input reads as it did. -/
def checkOddSpec : ChangeSpec := { name := "checkOdd", fn := fun _ => fun
  | [d1, d2, d3] => { results := [.lit (.bool true)], args := [d1, d2, d3] }
  | _ => none }
def checkOddRow : OpenClaim := { program := "ytffhepaldaoleaadoor", sum := "15b609af9bb8b2bd636e305becd716dd534c6e929e4fe99a4dd4b915ee217fc4", func := "kissgate/kissgatelaw04.CheckOdd", spec := "checkOdd", named := ["kissgate/check.turns"], apart := false, laid := [("kissgate/check.turns", laid_kissgate_check_turns)] }
def CheckOddSaid : Prop := checkOddRow.holds Tryd.pinned (OpenSpec.ofChange checkOddSpec)

/-- ITS FALSE NEIGHBOUR: 'it returns false'. Refute it at one input. -/
def checkOddWrong : ChangeSpec := { name := "checkOdd", fn := fun _ => fun
  | [d1, d2, d3] => { results := [.lit (.bool false)], args := [d1, d2, d3] }
  | _ => none }
def CheckOddWrongFalsely : Prop := checkOddRow.holds Tryd.pinned (OpenSpec.ofChange checkOddWrong)

/-- 'kissgatelaw04.CheckIs': WHATEVER THE INPUT: true; the input reads as it did. -/
def checkIsSpec : ChangeSpec := { name := "checkIs", fn := fun _ => fun
  | [d] => { results := [.lit (.bool true)], args := [d] }
  | _ => none }
def checkIsRow : OpenClaim := { program := "ytffhepaldaoleaadoor", sum := "15b609af9bb8b2bd636e305becd716dd534c6e929e4fe99a4dd4b915ee217fc4", func := "kissgate/kissgatelaw04.CheckIs", spec := "checkIs", named := ["kissgate/check.turns"], apart := false, laid := [("kissgate/check.turns", laid_kissgate_check_turns)] }
def CheckIsSaid : Prop := checkIsRow.holds Tryd.pinned (OpenSpec.ofChange checkIsSpec)

/-- ITS FALSE NEIGHBOUR: 'it returns false'. Refute it at one input. -/
def checkIsWrong : ChangeSpec := { name := "checkIs", fn := fun _ => fun
  | [d] => { results := [.lit (.bool false)], args := [d] }
  | _ => none }
def CheckIsWrongFalsely : Prop := checkIsRow.holds Tryd.pinned (OpenSpec.ofChange checkIsWrong)

/-- 'kissgatelaw04.CheckGoes': WHATEVER THE INPUT: true; the input reads as it did. -/
def checkGoesSpec : ChangeSpec := { name := "checkGoes", fn := fun _ => fun
  | [d1, d2] => { results := [.lit (.bool true)], args := [d1, d2] }
  | _ => none }
def checkGoesRow : OpenClaim := { program := "ytffhepaldaoleaadoor", sum := "15b609af9bb8b2bd636e305becd716dd534c6e929e4fe99a4dd4b915ee217fc4", func := "kissgate/kissgatelaw04.CheckGoes", spec := "checkGoes", named := ["kissgate/check.turns"], apart := false, laid := [("kissgate/check.turns", laid_kissgate_check_turns)] }
def CheckGoesSaid : Prop := checkGoesRow.holds Tryd.pinned (OpenSpec.ofChange checkGoesSpec)

/-- ITS FALSE NEIGHBOUR: 'it returns false'. Refute it at one input. -/
def checkGoesWrong : ChangeSpec := { name := "checkGoes", fn := fun _ => fun
  | [d1, d2] => { results := [.lit (.bool false)], args := [d1, d2] }
  | _ => none }
def CheckGoesWrongFalsely : Prop := checkGoesRow.holds Tryd.pinned (OpenSpec.ofChange checkGoesWrong)

/-- 'kissgatelaw04.CheckStrips': WHATEVER THE INPUT: true; the input reads as it did. -/
def checkStripsSpec : ChangeSpec := { name := "checkStrips", fn := fun _ => fun
  | [d] => { results := [.lit (.bool true)], args := [d] }
  | _ => none }
def checkStripsRow : OpenClaim := { program := "ytffhepaldaoleaadoor", sum := "15b609af9bb8b2bd636e305becd716dd534c6e929e4fe99a4dd4b915ee217fc4", func := "kissgate/kissgatelaw04.CheckStrips", spec := "checkStrips", named := ["kissgate/check.turns"], apart := false, laid := [("kissgate/check.turns", laid_kissgate_check_turns)] }
def CheckStripsSaid : Prop := checkStripsRow.holds Tryd.pinned (OpenSpec.ofChange checkStripsSpec)

/-- ITS FALSE NEIGHBOUR: 'it returns false'. Refute it at one input. -/
def checkStripsWrong : ChangeSpec := { name := "checkStrips", fn := fun _ => fun
  | [d] => { results := [.lit (.bool false)], args := [d] }
  | _ => none }
def CheckStripsWrongFalsely : Prop := checkStripsRow.holds Tryd.pinned (OpenSpec.ofChange checkStripsWrong)

/-- 'kissgatelaw04.CheckRow': WHATEVER THE INPUT: true; the input reads as it did. -/
def checkRowSpec : ChangeSpec := { name := "checkRow", fn := fun _ => fun
  | [d1, d2, d3] => { results := [.lit (.bool true)], args := [d1, d2, d3] }
  | _ => none }
def checkRowRow : OpenClaim := { program := "ytffhepaldaoleaadoor", sum := "15b609af9bb8b2bd636e305becd716dd534c6e929e4fe99a4dd4b915ee217fc4", func := "kissgate/kissgatelaw04.CheckRow", spec := "checkRow", named := ["kissgate/check.turns"], apart := false, laid := [("kissgate/check.turns", laid_kissgate_check_turns)] }
def CheckRowSaid : Prop := checkRowRow.holds Tryd.pinned (OpenSpec.ofChange checkRowSpec)

/-- ITS FALSE NEIGHBOUR: 'it returns false'. Refute it at one input. -/
def checkRowWrong : ChangeSpec := { name := "checkRow", fn := fun _ => fun
  | [d1, d2, d3] => { results := [.lit (.bool false)], args := [d1, d2, d3] }
  | _ => none }
def CheckRowWrongFalsely : Prop := checkRowRow.holds Tryd.pinned (OpenSpec.ofChange checkRowWrong)

/-- 'kissgatelaw04.CheckBits': WHATEVER THE INPUT: true; the input reads as it did. -/
def checkBitsSpec : ChangeSpec := { name := "checkBits", fn := fun _ => fun
  | [d1, d2, d3] => { results := [.lit (.bool true)], args := [d1, d2, d3] }
  | _ => none }
def checkBitsRow : OpenClaim := { program := "ytffhepaldaoleaadoor", sum := "15b609af9bb8b2bd636e305becd716dd534c6e929e4fe99a4dd4b915ee217fc4", func := "kissgate/kissgatelaw04.CheckBits", spec := "checkBits", named := ["kissgate/check.turns"], apart := false, laid := [("kissgate/check.turns", laid_kissgate_check_turns)] }
def CheckBitsSaid : Prop := checkBitsRow.holds Tryd.pinned (OpenSpec.ofChange checkBitsSpec)

/-- ITS FALSE NEIGHBOUR: 'it returns false'. Refute it at one input. -/
def checkBitsWrong : ChangeSpec := { name := "checkBits", fn := fun _ => fun
  | [d1, d2, d3] => { results := [.lit (.bool false)], args := [d1, d2, d3] }
  | _ => none }
def CheckBitsWrongFalsely : Prop := checkBitsRow.holds Tryd.pinned (OpenSpec.ofChange checkBitsWrong)

/- THE SECOND FORM. 'bulk': how many values and letters a reading holds, each counted each time it is reached (what is shared counts as often as it is met; a slice's spare places count too). A statement '..UptoSaid' is the law's where the arguments, and the package variables that the reading takes, are together of bulk at most 1048576: NARROWER than '..Said'. Prove '..Said' where nothing that the law and all that it calls make is longer than what came in: it says more and counts as full. Else prove '..UptoSaid'. A law counts once. -/
mutual
def uptoBulk {H : Type} : DataW H → Nat
  | .lit (.string bytes) => bytes.length + 1
  | .lit _ => 1
  | .nil => 1
  | .ptr d => uptoBulk d + 1
  | .slice elems spare => uptoBulkAll elems + uptoBulkAll spare + 1
  | .agg parts => uptoBulkAll parts + 1
  | .iface _ d => uptoBulk d + 1
  | .map entries => uptoBulkEntries entries + 1
  | .held _ => 1
def uptoBulkAll {H : Type} : List (DataW H) → Nat
  | [] => 0
  | d :: r => uptoBulk d + uptoBulkAll r
def uptoBulkEntries {H : Type} : List (Lit × DataW H) → Nat
  | [] => 0
  | x :: r => uptoBulkEntry x + uptoBulkEntries r
def uptoBulkEntry {H : Type} : Lit × DataW H → Nat
  | (.string bytes, d) => bytes.length + uptoBulk d + 1
  | (_, d) => uptoBulk d + 1
 end
def uptoSmall : (H : Type) → List (DataW H) → Bool := fun _ ds => decide (uptoBulkAll ds ≤ 1048576)
def OpenSpec.upto (s : _root_.Go.ChangeSpec) : _root_.Go.OpenSpec := { _root_.Go.OpenSpec.ofChange s with cond := some uptoSmall }

/-- 'kissgatelaw04.CheckOdd', WHERE WHAT IT READS IS OF BULK AT MOST 1048576: true; the input reads as it did. -/
def checkOddUptoRow : OpenClaim := { program := "ytffhepaldaoleaadoor", sum := "15b609af9bb8b2bd636e305becd716dd534c6e929e4fe99a4dd4b915ee217fc4", func := "kissgate/kissgatelaw04.CheckOdd", spec := "checkOdd", named := ["kissgate/check.turns"], apart := false, laid := [("kissgate/check.turns", laid_kissgate_check_turns)], narrowed := true }
def CheckOddUptoSaid : Prop := checkOddUptoRow.holds Tryd.pinned (OpenSpec.upto checkOddSpec)

/-- 'kissgatelaw04.CheckIs', WHERE WHAT IT READS IS OF BULK AT MOST 1048576: true; the input reads as it did. -/
def checkIsUptoRow : OpenClaim := { program := "ytffhepaldaoleaadoor", sum := "15b609af9bb8b2bd636e305becd716dd534c6e929e4fe99a4dd4b915ee217fc4", func := "kissgate/kissgatelaw04.CheckIs", spec := "checkIs", named := ["kissgate/check.turns"], apart := false, laid := [("kissgate/check.turns", laid_kissgate_check_turns)], narrowed := true }
def CheckIsUptoSaid : Prop := checkIsUptoRow.holds Tryd.pinned (OpenSpec.upto checkIsSpec)

/-- 'kissgatelaw04.CheckGoes', WHERE WHAT IT READS IS OF BULK AT MOST 1048576: true; the input reads as it did. -/
def checkGoesUptoRow : OpenClaim := { program := "ytffhepaldaoleaadoor", sum := "15b609af9bb8b2bd636e305becd716dd534c6e929e4fe99a4dd4b915ee217fc4", func := "kissgate/kissgatelaw04.CheckGoes", spec := "checkGoes", named := ["kissgate/check.turns"], apart := false, laid := [("kissgate/check.turns", laid_kissgate_check_turns)], narrowed := true }
def CheckGoesUptoSaid : Prop := checkGoesUptoRow.holds Tryd.pinned (OpenSpec.upto checkGoesSpec)

/-- 'kissgatelaw04.CheckStrips', WHERE WHAT IT READS IS OF BULK AT MOST 1048576: true; the input reads as it did. -/
def checkStripsUptoRow : OpenClaim := { program := "ytffhepaldaoleaadoor", sum := "15b609af9bb8b2bd636e305becd716dd534c6e929e4fe99a4dd4b915ee217fc4", func := "kissgate/kissgatelaw04.CheckStrips", spec := "checkStrips", named := ["kissgate/check.turns"], apart := false, laid := [("kissgate/check.turns", laid_kissgate_check_turns)], narrowed := true }
def CheckStripsUptoSaid : Prop := checkStripsUptoRow.holds Tryd.pinned (OpenSpec.upto checkStripsSpec)

/-- 'kissgatelaw04.CheckRow', WHERE WHAT IT READS IS OF BULK AT MOST 1048576: true; the input reads as it did. -/
def checkRowUptoRow : OpenClaim := { program := "ytffhepaldaoleaadoor", sum := "15b609af9bb8b2bd636e305becd716dd534c6e929e4fe99a4dd4b915ee217fc4", func := "kissgate/kissgatelaw04.CheckRow", spec := "checkRow", named := ["kissgate/check.turns"], apart := false, laid := [("kissgate/check.turns", laid_kissgate_check_turns)], narrowed := true }
def CheckRowUptoSaid : Prop := checkRowUptoRow.holds Tryd.pinned (OpenSpec.upto checkRowSpec)

/-- 'kissgatelaw04.CheckBits', WHERE WHAT IT READS IS OF BULK AT MOST 1048576: true; the input reads as it did. -/
def checkBitsUptoRow : OpenClaim := { program := "ytffhepaldaoleaadoor", sum := "15b609af9bb8b2bd636e305becd716dd534c6e929e4fe99a4dd4b915ee217fc4", func := "kissgate/kissgatelaw04.CheckBits", spec := "checkBits", named := ["kissgate/check.turns"], apart := false, laid := [("kissgate/check.turns", laid_kissgate_check_turns)], narrowed := true }
def CheckBitsUptoSaid : Prop := checkBitsUptoRow.holds Tryd.pinned (OpenSpec.upto checkBitsSpec)

end Rows
end Go.Proofs.YtffhepaldaoleaaDoor
