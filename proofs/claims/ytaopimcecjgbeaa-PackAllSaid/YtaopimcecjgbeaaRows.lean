/-
  No cell of these rows narrows 'for every input' (looked for: loops, veiled, ifaces, maps, wideKeys, modest, calm, conditions, laid).
  DERIVED. THE GIVEN ROWS OF THIS SEAT. 5 by the template 'for every input the law returns true; each argument reads behind the call as it read before'; 0 by the template 'total and deterministic' (their statements: YtaopimcecjgbeaaTotals.lean).
  GIVEN WITH THE SEED: the statements are not yours to turn. If you find one false, say at which input.
  Laid BY PROGRAM, IN A SANDBOX (cutbox-rows.mjs): the forced cells as the released guide's own fill.sh prints them over the translation de44c5b7e7661c47… (all of the seat's roots in one cut). By AI agents, Wed Nov 11 2026. No macro, syntax, notation, axiom, sorry.
-/
import Derived.Test.YtaopimcecjgbeaaChecked
import GoSem.Claim
import GoSem.ClaimJoined
import GoSem.ClaimMapViews
import Derived.JoinedTies
import Derived.KernelRfl
namespace Go.Proofs.Ytaopimcecjgbeaa
/- THE CELL 'sum', in the pinned program and in every row, IS THE sha256 OF THE DUMP (.gsa) THAT YtaopimcecjgbeaaProg.lean LOADS. Nothing in Lean hashes anything: it is a label: what it is worth is what the hold of that sum in a sandbox is worth. -/
noncomputable def Try.pinned : Pinned := { name := "ytaopimcecjgbeaa", sum := "de44c5b7e7661c47ad226aaf2333ab62438c5592d4cfd52e92bea62f90cb76fa", checked := Try.checked }
namespace Rows
def none {H : Type} : Left H := { results := [], args := [] }

/-- 'kissgatelaw06.PackOne': WHATEVER THE INPUT: true; the input reads as it did. -/
def packOneSpec : ChangeSpec := { name := "packOne", fn := fun _ => fun
  | [d1, d2] => { results := [.lit (.bool true)], args := [d1, d2] }
  | _ => none }
def packOneRow : OpenClaim := { program := "ytaopimcecjgbeaa", sum := "de44c5b7e7661c47ad226aaf2333ab62438c5592d4cfd52e92bea62f90cb76fa", func := "kissgate/kissgatelaw06.PackOne", spec := "packOne", apart := false }
def PackOneSaid : Prop := packOneRow.holds Try.pinned (OpenSpec.ofChange packOneSpec)

/-- ITS FALSE NEIGHBOUR: 'it returns false'. Refute it at one input. -/
def packOneWrong : ChangeSpec := { name := "packOne", fn := fun _ => fun
  | [d1, d2] => { results := [.lit (.bool false)], args := [d1, d2] }
  | _ => none }
def PackOneWrongFalsely : Prop := packOneRow.holds Try.pinned (OpenSpec.ofChange packOneWrong)

/-- 'kissgatelaw06.PackFew': WHATEVER THE INPUT: true; the input reads as it did. -/
def packFewSpec : ChangeSpec := { name := "packFew", fn := fun _ => fun
  | [d1, d2] => { results := [.lit (.bool true)], args := [d1, d2] }
  | _ => none }
def packFewRow : OpenClaim := { program := "ytaopimcecjgbeaa", sum := "de44c5b7e7661c47ad226aaf2333ab62438c5592d4cfd52e92bea62f90cb76fa", func := "kissgate/kissgatelaw06.PackFew", spec := "packFew", apart := false }
def PackFewSaid : Prop := packFewRow.holds Try.pinned (OpenSpec.ofChange packFewSpec)

/-- ITS FALSE NEIGHBOUR: 'it returns false'. Refute it at one input. -/
def packFewWrong : ChangeSpec := { name := "packFew", fn := fun _ => fun
  | [d1, d2] => { results := [.lit (.bool false)], args := [d1, d2] }
  | _ => none }
def PackFewWrongFalsely : Prop := packFewRow.holds Try.pinned (OpenSpec.ofChange packFewWrong)

/-- 'kissgatelaw06.PackThrees': WHATEVER THE INPUT: true; the input reads as it did. -/
def packThreesSpec : ChangeSpec := { name := "packThrees", fn := fun _ => fun
  | [d] => { results := [.lit (.bool true)], args := [d] }
  | _ => none }
def packThreesRow : OpenClaim := { program := "ytaopimcecjgbeaa", sum := "de44c5b7e7661c47ad226aaf2333ab62438c5592d4cfd52e92bea62f90cb76fa", func := "kissgate/kissgatelaw06.PackThrees", spec := "packThrees", apart := false }
def PackThreesSaid : Prop := packThreesRow.holds Try.pinned (OpenSpec.ofChange packThreesSpec)

/-- ITS FALSE NEIGHBOUR: 'it returns false'. Refute it at one input. -/
def packThreesWrong : ChangeSpec := { name := "packThrees", fn := fun _ => fun
  | [d] => { results := [.lit (.bool false)], args := [d] }
  | _ => none }
def PackThreesWrongFalsely : Prop := packThreesRow.holds Try.pinned (OpenSpec.ofChange packThreesWrong)

/-- 'kissgatelaw06.PackFours': WHATEVER THE INPUT: true; the input reads as it did. -/
def packFoursSpec : ChangeSpec := { name := "packFours", fn := fun _ => fun
  | [d] => { results := [.lit (.bool true)], args := [d] }
  | _ => none }
def packFoursRow : OpenClaim := { program := "ytaopimcecjgbeaa", sum := "de44c5b7e7661c47ad226aaf2333ab62438c5592d4cfd52e92bea62f90cb76fa", func := "kissgate/kissgatelaw06.PackFours", spec := "packFours", apart := false }
def PackFoursSaid : Prop := packFoursRow.holds Try.pinned (OpenSpec.ofChange packFoursSpec)

/-- ITS FALSE NEIGHBOUR: 'it returns false'. Refute it at one input. -/
def packFoursWrong : ChangeSpec := { name := "packFours", fn := fun _ => fun
  | [d] => { results := [.lit (.bool false)], args := [d] }
  | _ => none }
def PackFoursWrongFalsely : Prop := packFoursRow.holds Try.pinned (OpenSpec.ofChange packFoursWrong)

/-- 'kissgatelaw06.PackAll': WHATEVER THE INPUT: true; the input reads as it did. -/
def packAllSpec : ChangeSpec := { name := "packAll", fn := fun _ => fun
  | [d] => { results := [.lit (.bool true)], args := [d] }
  | _ => none }
def packAllRow : OpenClaim := { program := "ytaopimcecjgbeaa", sum := "de44c5b7e7661c47ad226aaf2333ab62438c5592d4cfd52e92bea62f90cb76fa", func := "kissgate/kissgatelaw06.PackAll", spec := "packAll", apart := false }
def PackAllSaid : Prop := packAllRow.holds Try.pinned (OpenSpec.ofChange packAllSpec)

/-- ITS FALSE NEIGHBOUR: 'it returns false'. Refute it at one input. -/
def packAllWrong : ChangeSpec := { name := "packAll", fn := fun _ => fun
  | [d] => { results := [.lit (.bool false)], args := [d] }
  | _ => none }
def PackAllWrongFalsely : Prop := packAllRow.holds Try.pinned (OpenSpec.ofChange packAllWrong)

/- THE SECOND FORM. 'bulk': how many values and letters a reading holds, each counted each time it is reached (what is shared counts as often as it is met; a slice's spare places count too). A statement '..UptoSaid' is the law's where the arguments, and the package variables that the reading takes, are together of bulk at most 1048576: NARROWER than '..Said'. Prove '..Said' where nothing that the law and all that it calls make is longer than what came in: it says more and counts as full. Else prove '..UptoSaid'. A law counts once. -/
mutual
def uptoBulk {H : Type} : DataW H → Nat
  | .lit (.string bytes) => bytes.length + 1
  | .lit _ => 1
  | .nil => 1
  | .ptr d => uptoBulk d + 1
  | .slice elems spare => uptoBulkAll elems + uptoBulkAll spare + 1
  | .agg parts => uptoBulkAll parts + 1
  | .iface _ d => uptoBulk d + 1
  | .map entries => uptoBulkEntries entries + 1
  | .held _ => 1
def uptoBulkAll {H : Type} : List (DataW H) → Nat
  | [] => 0
  | d :: r => uptoBulk d + uptoBulkAll r
def uptoBulkEntries {H : Type} : List (Lit × DataW H) → Nat
  | [] => 0
  | x :: r => uptoBulkEntry x + uptoBulkEntries r
def uptoBulkEntry {H : Type} : Lit × DataW H → Nat
  | (.string bytes, d) => bytes.length + uptoBulk d + 1
  | (_, d) => uptoBulk d + 1
 end
def uptoSmall : (H : Type) → List (DataW H) → Bool := fun _ ds => decide (uptoBulkAll ds ≤ 1048576)
def OpenSpec.upto (s : _root_.Go.ChangeSpec) : _root_.Go.OpenSpec := { _root_.Go.OpenSpec.ofChange s with cond := some uptoSmall }

/-- 'kissgatelaw06.PackOne', WHERE WHAT IT READS IS OF BULK AT MOST 1048576: true; the input reads as it did. -/
def packOneUptoRow : OpenClaim := { program := "ytaopimcecjgbeaa", sum := "de44c5b7e7661c47ad226aaf2333ab62438c5592d4cfd52e92bea62f90cb76fa", func := "kissgate/kissgatelaw06.PackOne", spec := "packOne", apart := false, narrowed := true }
def PackOneUptoSaid : Prop := packOneUptoRow.holds Try.pinned (OpenSpec.upto packOneSpec)

/-- 'kissgatelaw06.PackFew', WHERE WHAT IT READS IS OF BULK AT MOST 1048576: true; the input reads as it did. -/
def packFewUptoRow : OpenClaim := { program := "ytaopimcecjgbeaa", sum := "de44c5b7e7661c47ad226aaf2333ab62438c5592d4cfd52e92bea62f90cb76fa", func := "kissgate/kissgatelaw06.PackFew", spec := "packFew", apart := false, narrowed := true }
def PackFewUptoSaid : Prop := packFewUptoRow.holds Try.pinned (OpenSpec.upto packFewSpec)

/-- 'kissgatelaw06.PackThrees', WHERE WHAT IT READS IS OF BULK AT MOST 1048576: true; the input reads as it did. -/
def packThreesUptoRow : OpenClaim := { program := "ytaopimcecjgbeaa", sum := "de44c5b7e7661c47ad226aaf2333ab62438c5592d4cfd52e92bea62f90cb76fa", func := "kissgate/kissgatelaw06.PackThrees", spec := "packThrees", apart := false, narrowed := true }
def PackThreesUptoSaid : Prop := packThreesUptoRow.holds Try.pinned (OpenSpec.upto packThreesSpec)

/-- 'kissgatelaw06.PackFours', WHERE WHAT IT READS IS OF BULK AT MOST 1048576: true; the input reads as it did. -/
def packFoursUptoRow : OpenClaim := { program := "ytaopimcecjgbeaa", sum := "de44c5b7e7661c47ad226aaf2333ab62438c5592d4cfd52e92bea62f90cb76fa", func := "kissgate/kissgatelaw06.PackFours", spec := "packFours", apart := false, narrowed := true }
def PackFoursUptoSaid : Prop := packFoursUptoRow.holds Try.pinned (OpenSpec.upto packFoursSpec)

/-- 'kissgatelaw06.PackAll', WHERE WHAT IT READS IS OF BULK AT MOST 1048576: true; the input reads as it did. -/
def packAllUptoRow : OpenClaim := { program := "ytaopimcecjgbeaa", sum := "de44c5b7e7661c47ad226aaf2333ab62438c5592d4cfd52e92bea62f90cb76fa", func := "kissgate/kissgatelaw06.PackAll", spec := "packAll", apart := false, narrowed := true }
def PackAllUptoSaid : Prop := packAllUptoRow.holds Try.pinned (OpenSpec.upto packAllSpec)

end Rows
end Go.Proofs.Ytaopimcecjgbeaa
