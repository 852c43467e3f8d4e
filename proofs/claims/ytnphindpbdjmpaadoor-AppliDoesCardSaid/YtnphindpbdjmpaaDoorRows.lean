/-
  NARROWER THAN 'FOR EVERY INPUT', by the rows' own cells (each row's printed sentence says how): AppliQuiet: laid · AppliPairs: laid · AppliSays: laid · AppliDoes: laid.
  DERIVED. THE GIVEN ROWS OF THIS SEAT. 4 by the template 'for every input the law returns true; each argument reads behind the call as it read before'; 0 by the template 'total and deterministic' (their statements: YtnphindpbdjmpaaDoorTotals.lean).
  GIVEN WITH THE SEED: the statements are not yours to turn. If you find one false, say at which input.
  Laid BY PROGRAM, IN A SANDBOX (cutbox-rows.mjs): the forced cells as the released guide's own fill.sh prints them over the translation 390010ec0d884db2… (all of the seat's roots in one cut). By AI agents, Wed Nov 11 2026. No macro, syntax, notation, axiom, sorry.
-/
import Derived.Test.YtnphindpbdjmpaaDoorChecked
import GoSem.Claim
import GoSem.ClaimJoined
import GoSem.ClaimMapViews
import Derived.JoinedTies
import Derived.KernelRfl
namespace Go.Proofs.YtnphindpbdjmpaaDoor
/- THE CELL 'sum', in the pinned program and in every row, IS THE sha256 OF THE DUMP (.gsa) THAT YtnphindpbdjmpaaDoorProg.lean LOADS. Nothing in Lean hashes anything: it is a label: what it is worth is what the hold of that sum in a sandbox is worth. -/
noncomputable def Tryd.pinned : Pinned := { name := "ytnphindpbdjmpaadoor", sum := "390010ec0d884db2476d10e5ca4fac5747b94fc83fe218f3fdd6627583914029", checked := Tryd.checked }
namespace Rows
def none {H : Type} : Left H := { results := [], args := [] }

/- WHAT THE LISTED PACKAGE-LEVEL VARIABLES READ AS WHEN THE CALL BEGINS. Each datum BY PROGRAM (the guide's laid-datum.mjs) off the statement by which the dump's own 'gosem.cut.vars' lays the variable. In a bare row this is a premise. The card (YtnphindpbdjmpaaDoorCards.lean) ties it to the program's text. -/
def laid_kissgate_appli_events {H : Type} : DataW H := .agg [.lit (.int .i64 0), .lit (.int .i64 0), .lit (.int .i64 1), .lit (.int .i64 5)]

/-- 'kissgatelaw15.AppliQuiet': WHATEVER THE INPUT: true; the input reads as it did. -/
def appliQuietSpec : ChangeSpec := { name := "appliQuiet", fn := fun _ => fun
  | [d] => { results := [.lit (.bool true)], args := [d] }
  | _ => none }
def appliQuietRow : OpenClaim := { program := "ytnphindpbdjmpaadoor", sum := "390010ec0d884db2476d10e5ca4fac5747b94fc83fe218f3fdd6627583914029", func := "kissgate/kissgatelaw15.AppliQuiet", spec := "appliQuiet", named := ["kissgate/appli.events"], apart := false, laid := [("kissgate/appli.events", laid_kissgate_appli_events)] }
def AppliQuietSaid : Prop := appliQuietRow.holds Tryd.pinned (OpenSpec.ofChange appliQuietSpec)

/-- ITS FALSE NEIGHBOUR: 'it returns false'. Refute it at one input. -/
def appliQuietWrong : ChangeSpec := { name := "appliQuiet", fn := fun _ => fun
  | [d] => { results := [.lit (.bool false)], args := [d] }
  | _ => none }
def AppliQuietWrongFalsely : Prop := appliQuietRow.holds Tryd.pinned (OpenSpec.ofChange appliQuietWrong)

/-- 'kissgatelaw15.AppliPairs': WHATEVER THE INPUT: true; the input reads as it did. -/
def appliPairsSpec : ChangeSpec := { name := "appliPairs", fn := fun _ => fun
  | [d] => { results := [.lit (.bool true)], args := [d] }
  | _ => none }
def appliPairsRow : OpenClaim := { program := "ytnphindpbdjmpaadoor", sum := "390010ec0d884db2476d10e5ca4fac5747b94fc83fe218f3fdd6627583914029", func := "kissgate/kissgatelaw15.AppliPairs", spec := "appliPairs", named := ["kissgate/appli.events"], apart := false, laid := [("kissgate/appli.events", laid_kissgate_appli_events)] }
def AppliPairsSaid : Prop := appliPairsRow.holds Tryd.pinned (OpenSpec.ofChange appliPairsSpec)

/-- ITS FALSE NEIGHBOUR: 'it returns false'. Refute it at one input. -/
def appliPairsWrong : ChangeSpec := { name := "appliPairs", fn := fun _ => fun
  | [d] => { results := [.lit (.bool false)], args := [d] }
  | _ => none }
def AppliPairsWrongFalsely : Prop := appliPairsRow.holds Tryd.pinned (OpenSpec.ofChange appliPairsWrong)

/-- 'kissgatelaw15.AppliSays': WHATEVER THE INPUT: true; the input reads as it did. -/
def appliSaysSpec : ChangeSpec := { name := "appliSays", fn := fun _ => fun
  | [d1, d2] => { results := [.lit (.bool true)], args := [d1, d2] }
  | _ => none }
def appliSaysRow : OpenClaim := { program := "ytnphindpbdjmpaadoor", sum := "390010ec0d884db2476d10e5ca4fac5747b94fc83fe218f3fdd6627583914029", func := "kissgate/kissgatelaw15.AppliSays", spec := "appliSays", named := ["kissgate/appli.events"], apart := false, laid := [("kissgate/appli.events", laid_kissgate_appli_events)] }
def AppliSaysSaid : Prop := appliSaysRow.holds Tryd.pinned (OpenSpec.ofChange appliSaysSpec)

/-- ITS FALSE NEIGHBOUR: 'it returns false'. Refute it at one input. -/
def appliSaysWrong : ChangeSpec := { name := "appliSays", fn := fun _ => fun
  | [d1, d2] => { results := [.lit (.bool false)], args := [d1, d2] }
  | _ => none }
def AppliSaysWrongFalsely : Prop := appliSaysRow.holds Tryd.pinned (OpenSpec.ofChange appliSaysWrong)

/-- 'kissgatelaw15.AppliDoes': WHATEVER THE INPUT: true; the input reads as it did. -/
def appliDoesSpec : ChangeSpec := { name := "appliDoes", fn := fun _ => fun
  | [d] => { results := [.lit (.bool true)], args := [d] }
  | _ => none }
def appliDoesRow : OpenClaim := { program := "ytnphindpbdjmpaadoor", sum := "390010ec0d884db2476d10e5ca4fac5747b94fc83fe218f3fdd6627583914029", func := "kissgate/kissgatelaw15.AppliDoes", spec := "appliDoes", named := ["kissgate/appli.events"], apart := false, laid := [("kissgate/appli.events", laid_kissgate_appli_events)] }
def AppliDoesSaid : Prop := appliDoesRow.holds Tryd.pinned (OpenSpec.ofChange appliDoesSpec)

/-- ITS FALSE NEIGHBOUR: 'it returns false'. Refute it at one input. -/
def appliDoesWrong : ChangeSpec := { name := "appliDoes", fn := fun _ => fun
  | [d] => { results := [.lit (.bool false)], args := [d] }
  | _ => none }
def AppliDoesWrongFalsely : Prop := appliDoesRow.holds Tryd.pinned (OpenSpec.ofChange appliDoesWrong)

/- THE SECOND FORM. 'bulk': how many values and letters a reading holds, each counted each time it is reached (what is shared counts as often as it is met; a slice's spare places count too). A statement '..UptoSaid' is the law's where the arguments, and the package variables that the reading takes, are together of bulk at most 1048576: NARROWER than '..Said'. Prove '..Said' where nothing that the law and all that it calls make is longer than what came in: it says more and counts as full. Else prove '..UptoSaid'. A law counts once. -/
mutual
def uptoBulk {H : Type} : DataW H → Nat
  | .lit (.string bytes) => bytes.length + 1
  | .lit _ => 1
  | .nil => 1
  | .ptr d => uptoBulk d + 1
  | .slice elems spare => uptoBulkAll elems + uptoBulkAll spare + 1
  | .agg parts => uptoBulkAll parts + 1
  | .iface _ d => uptoBulk d + 1
  | .map entries => uptoBulkEntries entries + 1
  | .held _ => 1
def uptoBulkAll {H : Type} : List (DataW H) → Nat
  | [] => 0
  | d :: r => uptoBulk d + uptoBulkAll r
def uptoBulkEntries {H : Type} : List (Lit × DataW H) → Nat
  | [] => 0
  | x :: r => uptoBulkEntry x + uptoBulkEntries r
def uptoBulkEntry {H : Type} : Lit × DataW H → Nat
  | (.string bytes, d) => bytes.length + uptoBulk d + 1
  | (_, d) => uptoBulk d + 1
 end
def uptoSmall : (H : Type) → List (DataW H) → Bool := fun _ ds => decide (uptoBulkAll ds ≤ 1048576)
def OpenSpec.upto (s : _root_.Go.ChangeSpec) : _root_.Go.OpenSpec := { _root_.Go.OpenSpec.ofChange s with cond := some uptoSmall }

/-- 'kissgatelaw15.AppliQuiet', WHERE WHAT IT READS IS OF BULK AT MOST 1048576: true; the input reads as it did. -/
def appliQuietUptoRow : OpenClaim := { program := "ytnphindpbdjmpaadoor", sum := "390010ec0d884db2476d10e5ca4fac5747b94fc83fe218f3fdd6627583914029", func := "kissgate/kissgatelaw15.AppliQuiet", spec := "appliQuiet", named := ["kissgate/appli.events"], apart := false, laid := [("kissgate/appli.events", laid_kissgate_appli_events)], narrowed := true }
def AppliQuietUptoSaid : Prop := appliQuietUptoRow.holds Tryd.pinned (OpenSpec.upto appliQuietSpec)

/-- 'kissgatelaw15.AppliPairs', WHERE WHAT IT READS IS OF BULK AT MOST 1048576: true; the input reads as it did. -/
def appliPairsUptoRow : OpenClaim := { program := "ytnphindpbdjmpaadoor", sum := "390010ec0d884db2476d10e5ca4fac5747b94fc83fe218f3fdd6627583914029", func := "kissgate/kissgatelaw15.AppliPairs", spec := "appliPairs", named := ["kissgate/appli.events"], apart := false, laid := [("kissgate/appli.events", laid_kissgate_appli_events)], narrowed := true }
def AppliPairsUptoSaid : Prop := appliPairsUptoRow.holds Tryd.pinned (OpenSpec.upto appliPairsSpec)

/-- 'kissgatelaw15.AppliSays', WHERE WHAT IT READS IS OF BULK AT MOST 1048576: true; the input reads as it did. -/
def appliSaysUptoRow : OpenClaim := { program := "ytnphindpbdjmpaadoor", sum := "390010ec0d884db2476d10e5ca4fac5747b94fc83fe218f3fdd6627583914029", func := "kissgate/kissgatelaw15.AppliSays", spec := "appliSays", named := ["kissgate/appli.events"], apart := false, laid := [("kissgate/appli.events", laid_kissgate_appli_events)], narrowed := true }
def AppliSaysUptoSaid : Prop := appliSaysUptoRow.holds Tryd.pinned (OpenSpec.upto appliSaysSpec)

/-- 'kissgatelaw15.AppliDoes', WHERE WHAT IT READS IS OF BULK AT MOST 1048576: true; the input reads as it did. -/
def appliDoesUptoRow : OpenClaim := { program := "ytnphindpbdjmpaadoor", sum := "390010ec0d884db2476d10e5ca4fac5747b94fc83fe218f3fdd6627583914029", func := "kissgate/kissgatelaw15.AppliDoes", spec := "appliDoes", named := ["kissgate/appli.events"], apart := false, laid := [("kissgate/appli.events", laid_kissgate_appli_events)], narrowed := true }
def AppliDoesUptoSaid : Prop := appliDoesUptoRow.holds Tryd.pinned (OpenSpec.upto appliDoesSpec)

end Rows
end Go.Proofs.YtnphindpbdjmpaaDoor
