/-
  No cell of these rows narrows 'for every input' (looked for: loops, veiled, ifaces, maps, wideKeys, modest, calm, conditions, laid).
  DERIVED. THE GIVEN ROWS OF THIS SEAT. 5 by the template 'for every input the law returns true; each argument reads behind the call as it read before'; 0 by the template 'total and deterministic' (their statements: YtgmnkilnajkidaaTotals.lean).
  GIVEN WITH THE SEED: the statements are not yours to turn. If you find one false, say at which input.
  Laid BY PROGRAM, IN A SANDBOX (cutbox-rows.mjs): the forced cells as the released guide's own fill.sh prints them over the translation 9664a6116f9bdf8e… (all of the seat's roots in one cut). By AI agents, Wed Nov 11 2026. No macro, syntax, notation, axiom, sorry.
-/
import Derived.Test.YtgmnkilnajkidaaChecked
import GoSem.Claim
import GoSem.ClaimJoined
import GoSem.ClaimMapViews
import Derived.JoinedTies
import Derived.KernelRfl
namespace Go.Proofs.Ytgmnkilnajkidaa
/- THE CELL 'sum', in the pinned program and in every row, IS THE sha256 OF THE DUMP (.gsa) THAT YtgmnkilnajkidaaProg.lean LOADS. Nothing in Lean hashes anything: it is a label: what it is worth is what the hold of that sum in a sandbox is worth. -/
noncomputable def Try.pinned : Pinned := { name := "ytgmnkilnajkidaa", sum := "9664a6116f9bdf8ede2d1d1676af406afd595ddf16340488b17e6ab521264680", checked := Try.checked }
namespace Rows
def none {H : Type} : Left H := { results := [], args := [] }

/-- 'kissgatelaw14.RegisLeaves': WHATEVER THE INPUT: true; the input reads as it did. -/
def regisLeavesSpec : ChangeSpec := { name := "regisLeaves", fn := fun _ => fun
  | [d1, d2] => { results := [.lit (.bool true)], args := [d1, d2] }
  | _ => none }
def regisLeavesRow : OpenClaim := { program := "ytgmnkilnajkidaa", sum := "9664a6116f9bdf8ede2d1d1676af406afd595ddf16340488b17e6ab521264680", func := "kissgate/kissgatelaw14.RegisLeaves", spec := "regisLeaves", apart := false }
def RegisLeavesSaid : Prop := regisLeavesRow.holds Try.pinned (OpenSpec.ofChange regisLeavesSpec)

/-- ITS FALSE NEIGHBOUR: 'it returns false'. Refute it at one input. -/
def regisLeavesWrong : ChangeSpec := { name := "regisLeaves", fn := fun _ => fun
  | [d1, d2] => { results := [.lit (.bool false)], args := [d1, d2] }
  | _ => none }
def RegisLeavesWrongFalsely : Prop := regisLeavesRow.holds Try.pinned (OpenSpec.ofChange regisLeavesWrong)

/-- 'kissgatelaw14.RegisStays': WHATEVER THE INPUT: true; the input reads as it did. -/
def regisStaysSpec : ChangeSpec := { name := "regisStays", fn := fun _ => fun
  | [d1, d2] => { results := [.lit (.bool true)], args := [d1, d2] }
  | _ => none }
def regisStaysRow : OpenClaim := { program := "ytgmnkilnajkidaa", sum := "9664a6116f9bdf8ede2d1d1676af406afd595ddf16340488b17e6ab521264680", func := "kissgate/kissgatelaw14.RegisStays", spec := "regisStays", apart := false }
def RegisStaysSaid : Prop := regisStaysRow.holds Try.pinned (OpenSpec.ofChange regisStaysSpec)

/-- ITS FALSE NEIGHBOUR: 'it returns false'. Refute it at one input. -/
def regisStaysWrong : ChangeSpec := { name := "regisStays", fn := fun _ => fun
  | [d1, d2] => { results := [.lit (.bool false)], args := [d1, d2] }
  | _ => none }
def RegisStaysWrongFalsely : Prop := regisStaysRow.holds Try.pinned (OpenSpec.ofChange regisStaysWrong)

/-- 'kissgatelaw14.RegisKeeps': WHATEVER THE INPUT: true; the input reads as it did. -/
def regisKeepsSpec : ChangeSpec := { name := "regisKeeps", fn := fun _ => fun
  | [d1, d2] => { results := [.lit (.bool true)], args := [d1, d2] }
  | _ => none }
def regisKeepsRow : OpenClaim := { program := "ytgmnkilnajkidaa", sum := "9664a6116f9bdf8ede2d1d1676af406afd595ddf16340488b17e6ab521264680", func := "kissgate/kissgatelaw14.RegisKeeps", spec := "regisKeeps", apart := false }
def RegisKeepsSaid : Prop := regisKeepsRow.holds Try.pinned (OpenSpec.ofChange regisKeepsSpec)

/-- ITS FALSE NEIGHBOUR: 'it returns false'. Refute it at one input. -/
def regisKeepsWrong : ChangeSpec := { name := "regisKeeps", fn := fun _ => fun
  | [d1, d2] => { results := [.lit (.bool false)], args := [d1, d2] }
  | _ => none }
def RegisKeepsWrongFalsely : Prop := regisKeepsRow.holds Try.pinned (OpenSpec.ofChange regisKeepsWrong)

/-- 'kissgatelaw14.RegisModes': WHATEVER THE INPUT: true; the input reads as it did. -/
def regisModesSpec : ChangeSpec := { name := "regisModes", fn := fun _ => fun
  | [d1, d2] => { results := [.lit (.bool true)], args := [d1, d2] }
  | _ => none }
def regisModesRow : OpenClaim := { program := "ytgmnkilnajkidaa", sum := "9664a6116f9bdf8ede2d1d1676af406afd595ddf16340488b17e6ab521264680", func := "kissgate/kissgatelaw14.RegisModes", spec := "regisModes", apart := false }
def RegisModesSaid : Prop := regisModesRow.holds Try.pinned (OpenSpec.ofChange regisModesSpec)

/-- ITS FALSE NEIGHBOUR: 'it returns false'. Refute it at one input. -/
def regisModesWrong : ChangeSpec := { name := "regisModes", fn := fun _ => fun
  | [d1, d2] => { results := [.lit (.bool false)], args := [d1, d2] }
  | _ => none }
def RegisModesWrongFalsely : Prop := regisModesRow.holds Try.pinned (OpenSpec.ofChange regisModesWrong)

/-- 'kissgatelaw14.RegisDoes': WHATEVER THE INPUT: true; the input reads as it did. -/
def regisDoesSpec : ChangeSpec := { name := "regisDoes", fn := fun _ => fun
  | [d1, d2] => { results := [.lit (.bool true)], args := [d1, d2] }
  | _ => none }
def regisDoesRow : OpenClaim := { program := "ytgmnkilnajkidaa", sum := "9664a6116f9bdf8ede2d1d1676af406afd595ddf16340488b17e6ab521264680", func := "kissgate/kissgatelaw14.RegisDoes", spec := "regisDoes", apart := false }
def RegisDoesSaid : Prop := regisDoesRow.holds Try.pinned (OpenSpec.ofChange regisDoesSpec)

/-- ITS FALSE NEIGHBOUR: 'it returns false'. Refute it at one input. -/
def regisDoesWrong : ChangeSpec := { name := "regisDoes", fn := fun _ => fun
  | [d1, d2] => { results := [.lit (.bool false)], args := [d1, d2] }
  | _ => none }
def RegisDoesWrongFalsely : Prop := regisDoesRow.holds Try.pinned (OpenSpec.ofChange regisDoesWrong)

/- THE SECOND FORM. 'bulk': how many values and letters a reading holds, each counted each time it is reached (what is shared counts as often as it is met; a slice's spare places count too). A statement '..UptoSaid' is the law's where the arguments, and the package variables that the reading takes, are together of bulk at most 1048576: NARROWER than '..Said'. Prove '..Said' where nothing that the law and all that it calls make is longer than what came in: it says more and counts as full. Else prove '..UptoSaid'. A law counts once. -/
mutual
def uptoBulk {H : Type} : DataW H → Nat
  | .lit (.string bytes) => bytes.length + 1
  | .lit _ => 1
  | .nil => 1
  | .ptr d => uptoBulk d + 1
  | .slice elems spare => uptoBulkAll elems + uptoBulkAll spare + 1
  | .agg parts => uptoBulkAll parts + 1
  | .iface _ d => uptoBulk d + 1
  | .map entries => uptoBulkEntries entries + 1
  | .held _ => 1
def uptoBulkAll {H : Type} : List (DataW H) → Nat
  | [] => 0
  | d :: r => uptoBulk d + uptoBulkAll r
def uptoBulkEntries {H : Type} : List (Lit × DataW H) → Nat
  | [] => 0
  | x :: r => uptoBulkEntry x + uptoBulkEntries r
def uptoBulkEntry {H : Type} : Lit × DataW H → Nat
  | (.string bytes, d) => bytes.length + uptoBulk d + 1
  | (_, d) => uptoBulk d + 1
 end
def uptoSmall : (H : Type) → List (DataW H) → Bool := fun _ ds => decide (uptoBulkAll ds ≤ 1048576)
def OpenSpec.upto (s : _root_.Go.ChangeSpec) : _root_.Go.OpenSpec := { _root_.Go.OpenSpec.ofChange s with cond := some uptoSmall }

/-- 'kissgatelaw14.RegisLeaves', WHERE WHAT IT READS IS OF BULK AT MOST 1048576: true; the input reads as it did. -/
def regisLeavesUptoRow : OpenClaim := { program := "ytgmnkilnajkidaa", sum := "9664a6116f9bdf8ede2d1d1676af406afd595ddf16340488b17e6ab521264680", func := "kissgate/kissgatelaw14.RegisLeaves", spec := "regisLeaves", apart := false, narrowed := true }
def RegisLeavesUptoSaid : Prop := regisLeavesUptoRow.holds Try.pinned (OpenSpec.upto regisLeavesSpec)

/-- 'kissgatelaw14.RegisStays', WHERE WHAT IT READS IS OF BULK AT MOST 1048576: true; the input reads as it did. -/
def regisStaysUptoRow : OpenClaim := { program := "ytgmnkilnajkidaa", sum := "9664a6116f9bdf8ede2d1d1676af406afd595ddf16340488b17e6ab521264680", func := "kissgate/kissgatelaw14.RegisStays", spec := "regisStays", apart := false, narrowed := true }
def RegisStaysUptoSaid : Prop := regisStaysUptoRow.holds Try.pinned (OpenSpec.upto regisStaysSpec)

/-- 'kissgatelaw14.RegisKeeps', WHERE WHAT IT READS IS OF BULK AT MOST 1048576: true; the input reads as it did. -/
def regisKeepsUptoRow : OpenClaim := { program := "ytgmnkilnajkidaa", sum := "9664a6116f9bdf8ede2d1d1676af406afd595ddf16340488b17e6ab521264680", func := "kissgate/kissgatelaw14.RegisKeeps", spec := "regisKeeps", apart := false, narrowed := true }
def RegisKeepsUptoSaid : Prop := regisKeepsUptoRow.holds Try.pinned (OpenSpec.upto regisKeepsSpec)

/-- 'kissgatelaw14.RegisModes', WHERE WHAT IT READS IS OF BULK AT MOST 1048576: true; the input reads as it did. -/
def regisModesUptoRow : OpenClaim := { program := "ytgmnkilnajkidaa", sum := "9664a6116f9bdf8ede2d1d1676af406afd595ddf16340488b17e6ab521264680", func := "kissgate/kissgatelaw14.RegisModes", spec := "regisModes", apart := false, narrowed := true }
def RegisModesUptoSaid : Prop := regisModesUptoRow.holds Try.pinned (OpenSpec.upto regisModesSpec)

/-- 'kissgatelaw14.RegisDoes', WHERE WHAT IT READS IS OF BULK AT MOST 1048576: true; the input reads as it did. -/
def regisDoesUptoRow : OpenClaim := { program := "ytgmnkilnajkidaa", sum := "9664a6116f9bdf8ede2d1d1676af406afd595ddf16340488b17e6ab521264680", func := "kissgate/kissgatelaw14.RegisDoes", spec := "regisDoes", apart := false, narrowed := true }
def RegisDoesUptoSaid : Prop := regisDoesUptoRow.holds Try.pinned (OpenSpec.upto regisDoesSpec)

end Rows
end Go.Proofs.Ytgmnkilnajkidaa
