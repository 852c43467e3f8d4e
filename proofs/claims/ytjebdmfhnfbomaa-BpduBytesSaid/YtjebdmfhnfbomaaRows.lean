/-
  No cell of these rows narrows 'for every input' (looked for: loops, veiled, ifaces, maps, wideKeys, modest, calm, conditions, laid).
  DERIVED. THE GIVEN ROWS OF THIS SEAT. 5 by the template 'for every input the law returns true; each argument reads behind the call as it read before'; 0 by the template 'total and deterministic' (their statements: YtjebdmfhnfbomaaTotals.lean).
  GIVEN WITH THE SEED: the statements are not yours to turn. If you find one false, say at which input.
  Laid BY PROGRAM, IN A SANDBOX (cutbox-rows.mjs): the forced cells as the released guide's own fill.sh prints them over the translation c31d5ebb11d51d80… (all of the seat's roots in one cut). By AI agents, Wed Nov 11 2026. No macro, syntax, notation, axiom, sorry.
-/
import Derived.Test.YtjebdmfhnfbomaaChecked
import GoSem.Claim
import GoSem.ClaimJoined
import GoSem.ClaimMapViews
import Derived.JoinedTies
import Derived.KernelRfl
namespace Go.Proofs.Ytjebdmfhnfbomaa
/- THE CELL 'sum', in the pinned program and in every row, IS THE sha256 OF THE DUMP (.gsa) THAT YtjebdmfhnfbomaaProg.lean LOADS. Nothing in Lean hashes anything: it is a label: what it is worth is what the hold of that sum in a sandbox is worth. -/
noncomputable def Try.pinned : Pinned := { name := "ytjebdmfhnfbomaa", sum := "c31d5ebb11d51d80759b4783e21509c9d9ac66261efe9a5e7f27f85015c3e490", checked := Try.checked }
namespace Rows
def none {H : Type} : Left H := { results := [], args := [] }

/-- 'kissgatelaw08.BpduNames': WHATEVER THE INPUT: true; the input reads as it did. -/
def bpduNamesSpec : ChangeSpec := { name := "bpduNames", fn := fun _ => fun
  | [d1, d2, d3, d4] => { results := [.lit (.bool true)], args := [d1, d2, d3, d4] }
  | _ => none }
def bpduNamesRow : OpenClaim := { program := "ytjebdmfhnfbomaa", sum := "c31d5ebb11d51d80759b4783e21509c9d9ac66261efe9a5e7f27f85015c3e490", func := "kissgate/kissgatelaw08.BpduNames", spec := "bpduNames", apart := false }
def BpduNamesSaid : Prop := bpduNamesRow.holds Try.pinned (OpenSpec.ofChange bpduNamesSpec)

/-- ITS FALSE NEIGHBOUR: 'it returns false'. Refute it at one input. -/
def bpduNamesWrong : ChangeSpec := { name := "bpduNames", fn := fun _ => fun
  | [d1, d2, d3, d4] => { results := [.lit (.bool false)], args := [d1, d2, d3, d4] }
  | _ => none }
def BpduNamesWrongFalsely : Prop := bpduNamesRow.holds Try.pinned (OpenSpec.ofChange bpduNamesWrong)

/-- 'kissgatelaw08.BpduOne': WHATEVER THE INPUT: true; the input reads as it did. -/
def bpduOneSpec : ChangeSpec := { name := "bpduOne", fn := fun _ => fun
  | [d1, d2] => { results := [.lit (.bool true)], args := [d1, d2] }
  | _ => none }
def bpduOneRow : OpenClaim := { program := "ytjebdmfhnfbomaa", sum := "c31d5ebb11d51d80759b4783e21509c9d9ac66261efe9a5e7f27f85015c3e490", func := "kissgate/kissgatelaw08.BpduOne", spec := "bpduOne", apart := false }
def BpduOneSaid : Prop := bpduOneRow.holds Try.pinned (OpenSpec.ofChange bpduOneSpec)

/-- ITS FALSE NEIGHBOUR: 'it returns false'. Refute it at one input. -/
def bpduOneWrong : ChangeSpec := { name := "bpduOne", fn := fun _ => fun
  | [d1, d2] => { results := [.lit (.bool false)], args := [d1, d2] }
  | _ => none }
def BpduOneWrongFalsely : Prop := bpduOneRow.holds Try.pinned (OpenSpec.ofChange bpduOneWrong)

/-- 'kissgatelaw08.BpduReads': WHATEVER THE INPUT: true; the input reads as it did. -/
def bpduReadsSpec : ChangeSpec := { name := "bpduReads", fn := fun _ => fun
  | [d] => { results := [.lit (.bool true)], args := [d] }
  | _ => none }
def bpduReadsRow : OpenClaim := { program := "ytjebdmfhnfbomaa", sum := "c31d5ebb11d51d80759b4783e21509c9d9ac66261efe9a5e7f27f85015c3e490", func := "kissgate/kissgatelaw08.BpduReads", spec := "bpduReads", apart := false }
def BpduReadsSaid : Prop := bpduReadsRow.holds Try.pinned (OpenSpec.ofChange bpduReadsSpec)

/-- ITS FALSE NEIGHBOUR: 'it returns false'. Refute it at one input. -/
def bpduReadsWrong : ChangeSpec := { name := "bpduReads", fn := fun _ => fun
  | [d] => { results := [.lit (.bool false)], args := [d] }
  | _ => none }
def BpduReadsWrongFalsely : Prop := bpduReadsRow.holds Try.pinned (OpenSpec.ofChange bpduReadsWrong)

/-- 'kissgatelaw08.BpduCuts': WHATEVER THE INPUT: true; the input reads as it did. -/
def bpduCutsSpec : ChangeSpec := { name := "bpduCuts", fn := fun _ => fun
  | [d1, d2, d3] => { results := [.lit (.bool true)], args := [d1, d2, d3] }
  | _ => none }
def bpduCutsRow : OpenClaim := { program := "ytjebdmfhnfbomaa", sum := "c31d5ebb11d51d80759b4783e21509c9d9ac66261efe9a5e7f27f85015c3e490", func := "kissgate/kissgatelaw08.BpduCuts", spec := "bpduCuts", apart := false }
def BpduCutsSaid : Prop := bpduCutsRow.holds Try.pinned (OpenSpec.ofChange bpduCutsSpec)

/-- ITS FALSE NEIGHBOUR: 'it returns false'. Refute it at one input. -/
def bpduCutsWrong : ChangeSpec := { name := "bpduCuts", fn := fun _ => fun
  | [d1, d2, d3] => { results := [.lit (.bool false)], args := [d1, d2, d3] }
  | _ => none }
def BpduCutsWrongFalsely : Prop := bpduCutsRow.holds Try.pinned (OpenSpec.ofChange bpduCutsWrong)

/-- 'kissgatelaw08.BpduBytes': WHATEVER THE INPUT: true; the input reads as it did. -/
def bpduBytesSpec : ChangeSpec := { name := "bpduBytes", fn := fun _ => fun
  | [d] => { results := [.lit (.bool true)], args := [d] }
  | _ => none }
def bpduBytesRow : OpenClaim := { program := "ytjebdmfhnfbomaa", sum := "c31d5ebb11d51d80759b4783e21509c9d9ac66261efe9a5e7f27f85015c3e490", func := "kissgate/kissgatelaw08.BpduBytes", spec := "bpduBytes", apart := false }
def BpduBytesSaid : Prop := bpduBytesRow.holds Try.pinned (OpenSpec.ofChange bpduBytesSpec)

/-- ITS FALSE NEIGHBOUR: 'it returns false'. Refute it at one input. -/
def bpduBytesWrong : ChangeSpec := { name := "bpduBytes", fn := fun _ => fun
  | [d] => { results := [.lit (.bool false)], args := [d] }
  | _ => none }
def BpduBytesWrongFalsely : Prop := bpduBytesRow.holds Try.pinned (OpenSpec.ofChange bpduBytesWrong)

/- THE SECOND FORM. 'bulk': how many values and letters a reading holds, each counted each time it is reached (what is shared counts as often as it is met; a slice's spare places count too). A statement '..UptoSaid' is the law's where the arguments, and the package variables that the reading takes, are together of bulk at most 1048576: NARROWER than '..Said'. Prove '..Said' where nothing that the law and all that it calls make is longer than what came in: it says more and counts as full. Else prove '..UptoSaid'. A law counts once. -/
mutual
def uptoBulk {H : Type} : DataW H → Nat
  | .lit (.string bytes) => bytes.length + 1
  | .lit _ => 1
  | .nil => 1
  | .ptr d => uptoBulk d + 1
  | .slice elems spare => uptoBulkAll elems + uptoBulkAll spare + 1
  | .agg parts => uptoBulkAll parts + 1
  | .iface _ d => uptoBulk d + 1
  | .map entries => uptoBulkEntries entries + 1
  | .held _ => 1
def uptoBulkAll {H : Type} : List (DataW H) → Nat
  | [] => 0
  | d :: r => uptoBulk d + uptoBulkAll r
def uptoBulkEntries {H : Type} : List (Lit × DataW H) → Nat
  | [] => 0
  | x :: r => uptoBulkEntry x + uptoBulkEntries r
def uptoBulkEntry {H : Type} : Lit × DataW H → Nat
  | (.string bytes, d) => bytes.length + uptoBulk d + 1
  | (_, d) => uptoBulk d + 1
 end
def uptoSmall : (H : Type) → List (DataW H) → Bool := fun _ ds => decide (uptoBulkAll ds ≤ 1048576)
def OpenSpec.upto (s : _root_.Go.ChangeSpec) : _root_.Go.OpenSpec := { _root_.Go.OpenSpec.ofChange s with cond := some uptoSmall }

/-- 'kissgatelaw08.BpduNames', WHERE WHAT IT READS IS OF BULK AT MOST 1048576: true; the input reads as it did. -/
def bpduNamesUptoRow : OpenClaim := { program := "ytjebdmfhnfbomaa", sum := "c31d5ebb11d51d80759b4783e21509c9d9ac66261efe9a5e7f27f85015c3e490", func := "kissgate/kissgatelaw08.BpduNames", spec := "bpduNames", apart := false, narrowed := true }
def BpduNamesUptoSaid : Prop := bpduNamesUptoRow.holds Try.pinned (OpenSpec.upto bpduNamesSpec)

/-- 'kissgatelaw08.BpduOne', WHERE WHAT IT READS IS OF BULK AT MOST 1048576: true; the input reads as it did. -/
def bpduOneUptoRow : OpenClaim := { program := "ytjebdmfhnfbomaa", sum := "c31d5ebb11d51d80759b4783e21509c9d9ac66261efe9a5e7f27f85015c3e490", func := "kissgate/kissgatelaw08.BpduOne", spec := "bpduOne", apart := false, narrowed := true }
def BpduOneUptoSaid : Prop := bpduOneUptoRow.holds Try.pinned (OpenSpec.upto bpduOneSpec)

/-- 'kissgatelaw08.BpduReads', WHERE WHAT IT READS IS OF BULK AT MOST 1048576: true; the input reads as it did. -/
def bpduReadsUptoRow : OpenClaim := { program := "ytjebdmfhnfbomaa", sum := "c31d5ebb11d51d80759b4783e21509c9d9ac66261efe9a5e7f27f85015c3e490", func := "kissgate/kissgatelaw08.BpduReads", spec := "bpduReads", apart := false, narrowed := true }
def BpduReadsUptoSaid : Prop := bpduReadsUptoRow.holds Try.pinned (OpenSpec.upto bpduReadsSpec)

/-- 'kissgatelaw08.BpduCuts', WHERE WHAT IT READS IS OF BULK AT MOST 1048576: true; the input reads as it did. -/
def bpduCutsUptoRow : OpenClaim := { program := "ytjebdmfhnfbomaa", sum := "c31d5ebb11d51d80759b4783e21509c9d9ac66261efe9a5e7f27f85015c3e490", func := "kissgate/kissgatelaw08.BpduCuts", spec := "bpduCuts", apart := false, narrowed := true }
def BpduCutsUptoSaid : Prop := bpduCutsUptoRow.holds Try.pinned (OpenSpec.upto bpduCutsSpec)

/-- 'kissgatelaw08.BpduBytes', WHERE WHAT IT READS IS OF BULK AT MOST 1048576: true; the input reads as it did. -/
def bpduBytesUptoRow : OpenClaim := { program := "ytjebdmfhnfbomaa", sum := "c31d5ebb11d51d80759b4783e21509c9d9ac66261efe9a5e7f27f85015c3e490", func := "kissgate/kissgatelaw08.BpduBytes", spec := "bpduBytes", apart := false, narrowed := true }
def BpduBytesUptoSaid : Prop := bpduBytesUptoRow.holds Try.pinned (OpenSpec.upto bpduBytesSpec)

end Rows
end Go.Proofs.Ytjebdmfhnfbomaa
