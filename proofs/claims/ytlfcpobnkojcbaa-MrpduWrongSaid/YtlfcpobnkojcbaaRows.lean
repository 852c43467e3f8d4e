/-
  No cell of these rows narrows 'for every input' (looked for: loops, veiled, ifaces, maps, wideKeys, modest, calm, conditions, laid).
  DERIVED. THE GIVEN ROWS OF THIS SEAT. 6 by the template 'for every input the law returns true; each argument reads behind the call as it read before'; 0 by the template 'total and deterministic' (their statements: YtlfcpobnkojcbaaTotals.lean).
  GIVEN WITH THE SEED: the statements are not yours to turn. If you find one false, say at which input.
  Laid BY PROGRAM, IN A SANDBOX (cutbox-rows.mjs): the forced cells as the released guide's own fill.sh prints them over the translation e1e1e714e15b553c… (all of the seat's roots in one cut). By AI agents, Wed Nov 11 2026. No macro, syntax, notation, axiom, sorry.
-/
import Derived.Test.YtlfcpobnkojcbaaChecked
import GoSem.Claim
import GoSem.ClaimJoined
import GoSem.ClaimMapViews
import Derived.JoinedTies
import Derived.KernelRfl
namespace Go.Proofs.Ytlfcpobnkojcbaa
/- THE CELL 'sum', in the pinned program and in every row, IS THE sha256 OF THE DUMP (.gsa) THAT YtlfcpobnkojcbaaProg.lean LOADS. Nothing in Lean hashes anything: it is a label: what it is worth is what the hold of that sum in a sandbox is worth. -/
noncomputable def Try.pinned : Pinned := { name := "ytlfcpobnkojcbaa", sum := "e1e1e714e15b553cec0efd13a395ee205415e7d4db739bb555cb143ab22aef41", checked := Try.checked }
namespace Rows
def none {H : Type} : Left H := { results := [], args := [] }

/-- 'kissgatelaw07.MrpduBytes': WHATEVER THE INPUT: true; the input reads as it did. -/
def mrpduBytesSpec : ChangeSpec := { name := "mrpduBytes", fn := fun _ => fun
  | [d] => { results := [.lit (.bool true)], args := [d] }
  | _ => none }
def mrpduBytesRow : OpenClaim := { program := "ytlfcpobnkojcbaa", sum := "e1e1e714e15b553cec0efd13a395ee205415e7d4db739bb555cb143ab22aef41", func := "kissgate/kissgatelaw07.MrpduBytes", spec := "mrpduBytes", apart := false }
def MrpduBytesSaid : Prop := mrpduBytesRow.holds Try.pinned (OpenSpec.ofChange mrpduBytesSpec)

/-- ITS FALSE NEIGHBOUR: 'it returns false'. Refute it at one input. -/
def mrpduBytesWrong : ChangeSpec := { name := "mrpduBytes", fn := fun _ => fun
  | [d] => { results := [.lit (.bool false)], args := [d] }
  | _ => none }
def MrpduBytesWrongFalsely : Prop := mrpduBytesRow.holds Try.pinned (OpenSpec.ofChange mrpduBytesWrong)

/-- 'kissgatelaw07.MrpduAttrs': WHATEVER THE INPUT: true; the input reads as it did. -/
def mrpduAttrsSpec : ChangeSpec := { name := "mrpduAttrs", fn := fun _ => fun
  | [d1, d2] => { results := [.lit (.bool true)], args := [d1, d2] }
  | _ => none }
def mrpduAttrsRow : OpenClaim := { program := "ytlfcpobnkojcbaa", sum := "e1e1e714e15b553cec0efd13a395ee205415e7d4db739bb555cb143ab22aef41", func := "kissgate/kissgatelaw07.MrpduAttrs", spec := "mrpduAttrs", apart := false }
def MrpduAttrsSaid : Prop := mrpduAttrsRow.holds Try.pinned (OpenSpec.ofChange mrpduAttrsSpec)

/-- ITS FALSE NEIGHBOUR: 'it returns false'. Refute it at one input. -/
def mrpduAttrsWrong : ChangeSpec := { name := "mrpduAttrs", fn := fun _ => fun
  | [d1, d2] => { results := [.lit (.bool false)], args := [d1, d2] }
  | _ => none }
def MrpduAttrsWrongFalsely : Prop := mrpduAttrsRow.holds Try.pinned (OpenSpec.ofChange mrpduAttrsWrong)

/-- 'kissgatelaw07.MrpduReads': WHATEVER THE INPUT: true; the input reads as it did. -/
def mrpduReadsSpec : ChangeSpec := { name := "mrpduReads", fn := fun _ => fun
  | [d] => { results := [.lit (.bool true)], args := [d] }
  | _ => none }
def mrpduReadsRow : OpenClaim := { program := "ytlfcpobnkojcbaa", sum := "e1e1e714e15b553cec0efd13a395ee205415e7d4db739bb555cb143ab22aef41", func := "kissgate/kissgatelaw07.MrpduReads", spec := "mrpduReads", apart := false }
def MrpduReadsSaid : Prop := mrpduReadsRow.holds Try.pinned (OpenSpec.ofChange mrpduReadsSpec)

/-- ITS FALSE NEIGHBOUR: 'it returns false'. Refute it at one input. -/
def mrpduReadsWrong : ChangeSpec := { name := "mrpduReads", fn := fun _ => fun
  | [d] => { results := [.lit (.bool false)], args := [d] }
  | _ => none }
def MrpduReadsWrongFalsely : Prop := mrpduReadsRow.holds Try.pinned (OpenSpec.ofChange mrpduReadsWrong)

/-- 'kissgatelaw07.MrpduWrong': WHATEVER THE INPUT: true; the input reads as it did. -/
def mrpduWrongSpec : ChangeSpec := { name := "mrpduWrong", fn := fun _ => fun
  | [d1, d2] => { results := [.lit (.bool true)], args := [d1, d2] }
  | _ => none }
def mrpduWrongRow : OpenClaim := { program := "ytlfcpobnkojcbaa", sum := "e1e1e714e15b553cec0efd13a395ee205415e7d4db739bb555cb143ab22aef41", func := "kissgate/kissgatelaw07.MrpduWrong", spec := "mrpduWrong", apart := false }
def MrpduWrongSaid : Prop := mrpduWrongRow.holds Try.pinned (OpenSpec.ofChange mrpduWrongSpec)

/-- ITS FALSE NEIGHBOUR: 'it returns false'. Refute it at one input. -/
def mrpduWrongWrong : ChangeSpec := { name := "mrpduWrong", fn := fun _ => fun
  | [d1, d2] => { results := [.lit (.bool false)], args := [d1, d2] }
  | _ => none }
def MrpduWrongWrongFalsely : Prop := mrpduWrongRow.holds Try.pinned (OpenSpec.ofChange mrpduWrongWrong)

/-- 'kissgatelaw07.MrpduEnds': WHATEVER THE INPUT: true; the input reads as it did. -/
def mrpduEndsSpec : ChangeSpec := { name := "mrpduEnds", fn := fun _ => fun
  | [d1, d2, d3] => { results := [.lit (.bool true)], args := [d1, d2, d3] }
  | _ => none }
def mrpduEndsRow : OpenClaim := { program := "ytlfcpobnkojcbaa", sum := "e1e1e714e15b553cec0efd13a395ee205415e7d4db739bb555cb143ab22aef41", func := "kissgate/kissgatelaw07.MrpduEnds", spec := "mrpduEnds", apart := false }
def MrpduEndsSaid : Prop := mrpduEndsRow.holds Try.pinned (OpenSpec.ofChange mrpduEndsSpec)

/-- ITS FALSE NEIGHBOUR: 'it returns false'. Refute it at one input. -/
def mrpduEndsWrong : ChangeSpec := { name := "mrpduEnds", fn := fun _ => fun
  | [d1, d2, d3] => { results := [.lit (.bool false)], args := [d1, d2, d3] }
  | _ => none }
def MrpduEndsWrongFalsely : Prop := mrpduEndsRow.holds Try.pinned (OpenSpec.ofChange mrpduEndsWrong)

/-- 'kissgatelaw07.MrpduOne': WHATEVER THE INPUT: true; the input reads as it did. -/
def mrpduOneSpec : ChangeSpec := { name := "mrpduOne", fn := fun _ => fun
  | [d1, d2] => { results := [.lit (.bool true)], args := [d1, d2] }
  | _ => none }
def mrpduOneRow : OpenClaim := { program := "ytlfcpobnkojcbaa", sum := "e1e1e714e15b553cec0efd13a395ee205415e7d4db739bb555cb143ab22aef41", func := "kissgate/kissgatelaw07.MrpduOne", spec := "mrpduOne", apart := false }
def MrpduOneSaid : Prop := mrpduOneRow.holds Try.pinned (OpenSpec.ofChange mrpduOneSpec)

/-- ITS FALSE NEIGHBOUR: 'it returns false'. Refute it at one input. -/
def mrpduOneWrong : ChangeSpec := { name := "mrpduOne", fn := fun _ => fun
  | [d1, d2] => { results := [.lit (.bool false)], args := [d1, d2] }
  | _ => none }
def MrpduOneWrongFalsely : Prop := mrpduOneRow.holds Try.pinned (OpenSpec.ofChange mrpduOneWrong)

/- THE SECOND FORM. 'bulk': how many values and letters a reading holds, each counted each time it is reached (what is shared counts as often as it is met; a slice's spare places count too). A statement '..UptoSaid' is the law's where the arguments, and the package variables that the reading takes, are together of bulk at most 1048576: NARROWER than '..Said'. Prove '..Said' where nothing that the law and all that it calls make is longer than what came in: it says more and counts as full. Else prove '..UptoSaid'. A law counts once. -/
mutual
def uptoBulk {H : Type} : DataW H → Nat
  | .lit (.string bytes) => bytes.length + 1
  | .lit _ => 1
  | .nil => 1
  | .ptr d => uptoBulk d + 1
  | .slice elems spare => uptoBulkAll elems + uptoBulkAll spare + 1
  | .agg parts => uptoBulkAll parts + 1
  | .iface _ d => uptoBulk d + 1
  | .map entries => uptoBulkEntries entries + 1
  | .held _ => 1
def uptoBulkAll {H : Type} : List (DataW H) → Nat
  | [] => 0
  | d :: r => uptoBulk d + uptoBulkAll r
def uptoBulkEntries {H : Type} : List (Lit × DataW H) → Nat
  | [] => 0
  | x :: r => uptoBulkEntry x + uptoBulkEntries r
def uptoBulkEntry {H : Type} : Lit × DataW H → Nat
  | (.string bytes, d) => bytes.length + uptoBulk d + 1
  | (_, d) => uptoBulk d + 1
 end
def uptoSmall : (H : Type) → List (DataW H) → Bool := fun _ ds => decide (uptoBulkAll ds ≤ 1048576)
def OpenSpec.upto (s : _root_.Go.ChangeSpec) : _root_.Go.OpenSpec := { _root_.Go.OpenSpec.ofChange s with cond := some uptoSmall }

/-- 'kissgatelaw07.MrpduBytes', WHERE WHAT IT READS IS OF BULK AT MOST 1048576: true; the input reads as it did. -/
def mrpduBytesUptoRow : OpenClaim := { program := "ytlfcpobnkojcbaa", sum := "e1e1e714e15b553cec0efd13a395ee205415e7d4db739bb555cb143ab22aef41", func := "kissgate/kissgatelaw07.MrpduBytes", spec := "mrpduBytes", apart := false, narrowed := true }
def MrpduBytesUptoSaid : Prop := mrpduBytesUptoRow.holds Try.pinned (OpenSpec.upto mrpduBytesSpec)

/-- 'kissgatelaw07.MrpduAttrs', WHERE WHAT IT READS IS OF BULK AT MOST 1048576: true; the input reads as it did. -/
def mrpduAttrsUptoRow : OpenClaim := { program := "ytlfcpobnkojcbaa", sum := "e1e1e714e15b553cec0efd13a395ee205415e7d4db739bb555cb143ab22aef41", func := "kissgate/kissgatelaw07.MrpduAttrs", spec := "mrpduAttrs", apart := false, narrowed := true }
def MrpduAttrsUptoSaid : Prop := mrpduAttrsUptoRow.holds Try.pinned (OpenSpec.upto mrpduAttrsSpec)

/-- 'kissgatelaw07.MrpduReads', WHERE WHAT IT READS IS OF BULK AT MOST 1048576: true; the input reads as it did. -/
def mrpduReadsUptoRow : OpenClaim := { program := "ytlfcpobnkojcbaa", sum := "e1e1e714e15b553cec0efd13a395ee205415e7d4db739bb555cb143ab22aef41", func := "kissgate/kissgatelaw07.MrpduReads", spec := "mrpduReads", apart := false, narrowed := true }
def MrpduReadsUptoSaid : Prop := mrpduReadsUptoRow.holds Try.pinned (OpenSpec.upto mrpduReadsSpec)

/-- 'kissgatelaw07.MrpduWrong', WHERE WHAT IT READS IS OF BULK AT MOST 1048576: true; the input reads as it did. -/
def mrpduWrongUptoRow : OpenClaim := { program := "ytlfcpobnkojcbaa", sum := "e1e1e714e15b553cec0efd13a395ee205415e7d4db739bb555cb143ab22aef41", func := "kissgate/kissgatelaw07.MrpduWrong", spec := "mrpduWrong", apart := false, narrowed := true }
def MrpduWrongUptoSaid : Prop := mrpduWrongUptoRow.holds Try.pinned (OpenSpec.upto mrpduWrongSpec)

/-- 'kissgatelaw07.MrpduEnds', WHERE WHAT IT READS IS OF BULK AT MOST 1048576: true; the input reads as it did. -/
def mrpduEndsUptoRow : OpenClaim := { program := "ytlfcpobnkojcbaa", sum := "e1e1e714e15b553cec0efd13a395ee205415e7d4db739bb555cb143ab22aef41", func := "kissgate/kissgatelaw07.MrpduEnds", spec := "mrpduEnds", apart := false, narrowed := true }
def MrpduEndsUptoSaid : Prop := mrpduEndsUptoRow.holds Try.pinned (OpenSpec.upto mrpduEndsSpec)

/-- 'kissgatelaw07.MrpduOne', WHERE WHAT IT READS IS OF BULK AT MOST 1048576: true; the input reads as it did. -/
def mrpduOneUptoRow : OpenClaim := { program := "ytlfcpobnkojcbaa", sum := "e1e1e714e15b553cec0efd13a395ee205415e7d4db739bb555cb143ab22aef41", func := "kissgate/kissgatelaw07.MrpduOne", spec := "mrpduOne", apart := false, narrowed := true }
def MrpduOneUptoSaid : Prop := mrpduOneUptoRow.holds Try.pinned (OpenSpec.upto mrpduOneSpec)

end Rows
end Go.Proofs.Ytlfcpobnkojcbaa
