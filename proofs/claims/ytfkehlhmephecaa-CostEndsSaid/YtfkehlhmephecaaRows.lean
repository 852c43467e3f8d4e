/-
  No cell of these rows narrows 'for every input' (looked for: loops, veiled, ifaces, maps, wideKeys, modest, calm, conditions, laid).
  DERIVED. THE GIVEN ROWS OF THIS SEAT. 6 by the template 'for every input the law returns true; each argument reads behind the call as it read before'; 0 by the template 'total and deterministic' (their statements: YtfkehlhmephecaaTotals.lean).
  GIVEN WITH THE SEED: the statements are not yours to turn. If you find one false, say at which input.
  Laid BY PROGRAM, IN A SANDBOX (cutbox-rows.mjs): the forced cells as the released guide's own fill.sh prints them over the translation db7802d037978b86… (all of the seat's roots in one cut). By AI agents, Wed Nov 11 2026. No macro, syntax, notation, axiom, sorry.
-/
import Derived.Test.YtfkehlhmephecaaChecked
import GoSem.Claim
import GoSem.ClaimJoined
import GoSem.ClaimMapViews
import Derived.JoinedTies
import Derived.KernelRfl
namespace Go.Proofs.Ytfkehlhmephecaa
/- THE CELL 'sum', in the pinned program and in every row, IS THE sha256 OF THE DUMP (.gsa) THAT YtfkehlhmephecaaProg.lean LOADS. Nothing in Lean hashes anything: it is a label: what it is worth is what the hold of that sum in a sandbox is worth. -/
noncomputable def Try.pinned : Pinned := { name := "ytfkehlhmephecaa", sum := "db7802d037978b86b284ac4e8688192aa536abccec44e078dbf3909b14a9096a", checked := Try.checked }
namespace Rows
def none {H : Type} : Left H := { results := [], args := [] }

/-- 'kissgatelaw03.CostFalls': WHATEVER THE INPUT: true; the input reads as it did. -/
def costFallsSpec : ChangeSpec := { name := "costFalls", fn := fun _ => fun
  | [d1, d2] => { results := [.lit (.bool true)], args := [d1, d2] }
  | _ => none }
def costFallsRow : OpenClaim := { program := "ytfkehlhmephecaa", sum := "db7802d037978b86b284ac4e8688192aa536abccec44e078dbf3909b14a9096a", func := "kissgate/kissgatelaw03.CostFalls", spec := "costFalls", inPlace := ["math.archFloor", "math.Float64bits", "math.Float64frombits", "math.archTrunc"], apart := false }
def CostFallsSaid : Prop := costFallsRow.holds Try.pinned (OpenSpec.ofChange costFallsSpec)

/-- ITS FALSE NEIGHBOUR: 'it returns false'. Refute it at one input. -/
def costFallsWrong : ChangeSpec := { name := "costFalls", fn := fun _ => fun
  | [d1, d2] => { results := [.lit (.bool false)], args := [d1, d2] }
  | _ => none }
def CostFallsWrongFalsely : Prop := costFallsRow.holds Try.pinned (OpenSpec.ofChange costFallsWrong)

/-- 'kissgatelaw03.CostIs': WHATEVER THE INPUT: true; the input reads as it did. -/
def costIsSpec : ChangeSpec := { name := "costIs", fn := fun _ => fun
  | [d1, d2] => { results := [.lit (.bool true)], args := [d1, d2] }
  | _ => none }
def costIsRow : OpenClaim := { program := "ytfkehlhmephecaa", sum := "db7802d037978b86b284ac4e8688192aa536abccec44e078dbf3909b14a9096a", func := "kissgate/kissgatelaw03.CostIs", spec := "costIs", inPlace := ["math.archFloor", "math.Float64bits", "math.Float64frombits", "math.archTrunc"], apart := false }
def CostIsSaid : Prop := costIsRow.holds Try.pinned (OpenSpec.ofChange costIsSpec)

/-- ITS FALSE NEIGHBOUR: 'it returns false'. Refute it at one input. -/
def costIsWrong : ChangeSpec := { name := "costIs", fn := fun _ => fun
  | [d1, d2] => { results := [.lit (.bool false)], args := [d1, d2] }
  | _ => none }
def CostIsWrongFalsely : Prop := costIsRow.holds Try.pinned (OpenSpec.ofChange costIsWrong)

/-- 'kissgatelaw03.CostOrder': WHATEVER THE INPUT: true; the input reads as it did. -/
def costOrderSpec : ChangeSpec := { name := "costOrder", fn := fun _ => fun
  | [d1, d2, d3] => { results := [.lit (.bool true)], args := [d1, d2, d3] }
  | _ => none }
def costOrderRow : OpenClaim := { program := "ytfkehlhmephecaa", sum := "db7802d037978b86b284ac4e8688192aa536abccec44e078dbf3909b14a9096a", func := "kissgate/kissgatelaw03.CostOrder", spec := "costOrder", inPlace := ["math.archFloor", "math.Float64bits", "math.Float64frombits", "math.archTrunc"], apart := false }
def CostOrderSaid : Prop := costOrderRow.holds Try.pinned (OpenSpec.ofChange costOrderSpec)

/-- ITS FALSE NEIGHBOUR: 'it returns false'. Refute it at one input. -/
def costOrderWrong : ChangeSpec := { name := "costOrder", fn := fun _ => fun
  | [d1, d2, d3] => { results := [.lit (.bool false)], args := [d1, d2, d3] }
  | _ => none }
def CostOrderWrongFalsely : Prop := costOrderRow.holds Try.pinned (OpenSpec.ofChange costOrderWrong)

/-- 'kissgatelaw03.CostSums': WHATEVER THE INPUT: true; the input reads as it did. -/
def costSumsSpec : ChangeSpec := { name := "costSums", fn := fun _ => fun
  | [d1, d2] => { results := [.lit (.bool true)], args := [d1, d2] }
  | _ => none }
def costSumsRow : OpenClaim := { program := "ytfkehlhmephecaa", sum := "db7802d037978b86b284ac4e8688192aa536abccec44e078dbf3909b14a9096a", func := "kissgate/kissgatelaw03.CostSums", spec := "costSums", inPlace := ["math.archFloor", "math.Float64bits", "math.Float64frombits", "math.archTrunc"], apart := false }
def CostSumsSaid : Prop := costSumsRow.holds Try.pinned (OpenSpec.ofChange costSumsSpec)

/-- ITS FALSE NEIGHBOUR: 'it returns false'. Refute it at one input. -/
def costSumsWrong : ChangeSpec := { name := "costSums", fn := fun _ => fun
  | [d1, d2] => { results := [.lit (.bool false)], args := [d1, d2] }
  | _ => none }
def CostSumsWrongFalsely : Prop := costSumsRow.holds Try.pinned (OpenSpec.ofChange costSumsWrong)

/-- 'kissgatelaw03.CostEnds': WHATEVER THE INPUT: true; the input reads as it did. -/
def costEndsSpec : ChangeSpec := { name := "costEnds", fn := fun _ => fun
  | [d] => { results := [.lit (.bool true)], args := [d] }
  | _ => none }
def costEndsRow : OpenClaim := { program := "ytfkehlhmephecaa", sum := "db7802d037978b86b284ac4e8688192aa536abccec44e078dbf3909b14a9096a", func := "kissgate/kissgatelaw03.CostEnds", spec := "costEnds", inPlace := ["math.archFloor", "math.Float64bits", "math.Float64frombits", "math.archTrunc"], apart := false }
def CostEndsSaid : Prop := costEndsRow.holds Try.pinned (OpenSpec.ofChange costEndsSpec)

/-- ITS FALSE NEIGHBOUR: 'it returns false'. Refute it at one input. -/
def costEndsWrong : ChangeSpec := { name := "costEnds", fn := fun _ => fun
  | [d] => { results := [.lit (.bool false)], args := [d] }
  | _ => none }
def CostEndsWrongFalsely : Prop := costEndsRow.holds Try.pinned (OpenSpec.ofChange costEndsWrong)

/-- 'kissgatelaw03.CostSpeeds': WHATEVER THE INPUT: true; the input reads as it did. -/
def costSpeedsSpec : ChangeSpec := { name := "costSpeeds", fn := fun _ => fun
  | [d] => { results := [.lit (.bool true)], args := [d] }
  | _ => none }
def costSpeedsRow : OpenClaim := { program := "ytfkehlhmephecaa", sum := "db7802d037978b86b284ac4e8688192aa536abccec44e078dbf3909b14a9096a", func := "kissgate/kissgatelaw03.CostSpeeds", spec := "costSpeeds", inPlace := ["math.archFloor", "math.Float64bits", "math.Float64frombits", "math.archTrunc"], apart := false }
def CostSpeedsSaid : Prop := costSpeedsRow.holds Try.pinned (OpenSpec.ofChange costSpeedsSpec)

/-- ITS FALSE NEIGHBOUR: 'it returns false'. Refute it at one input. -/
def costSpeedsWrong : ChangeSpec := { name := "costSpeeds", fn := fun _ => fun
  | [d] => { results := [.lit (.bool false)], args := [d] }
  | _ => none }
def CostSpeedsWrongFalsely : Prop := costSpeedsRow.holds Try.pinned (OpenSpec.ofChange costSpeedsWrong)

/- THE SECOND FORM. 'bulk': how many values and letters a reading holds, each counted each time it is reached (what is shared counts as often as it is met; a slice's spare places count too). A statement '..UptoSaid' is the law's where the arguments, and the package variables that the reading takes, are together of bulk at most 1048576: NARROWER than '..Said'. Prove '..Said' where nothing that the law and all that it calls make is longer than what came in: it says more and counts as full. Else prove '..UptoSaid'. A law counts once. -/
mutual
def uptoBulk {H : Type} : DataW H → Nat
  | .lit (.string bytes) => bytes.length + 1
  | .lit _ => 1
  | .nil => 1
  | .ptr d => uptoBulk d + 1
  | .slice elems spare => uptoBulkAll elems + uptoBulkAll spare + 1
  | .agg parts => uptoBulkAll parts + 1
  | .iface _ d => uptoBulk d + 1
  | .map entries => uptoBulkEntries entries + 1
  | .held _ => 1
def uptoBulkAll {H : Type} : List (DataW H) → Nat
  | [] => 0
  | d :: r => uptoBulk d + uptoBulkAll r
def uptoBulkEntries {H : Type} : List (Lit × DataW H) → Nat
  | [] => 0
  | x :: r => uptoBulkEntry x + uptoBulkEntries r
def uptoBulkEntry {H : Type} : Lit × DataW H → Nat
  | (.string bytes, d) => bytes.length + uptoBulk d + 1
  | (_, d) => uptoBulk d + 1
 end
def uptoSmall : (H : Type) → List (DataW H) → Bool := fun _ ds => decide (uptoBulkAll ds ≤ 1048576)
def OpenSpec.upto (s : _root_.Go.ChangeSpec) : _root_.Go.OpenSpec := { _root_.Go.OpenSpec.ofChange s with cond := some uptoSmall }

/-- 'kissgatelaw03.CostFalls', WHERE WHAT IT READS IS OF BULK AT MOST 1048576: true; the input reads as it did. -/
def costFallsUptoRow : OpenClaim := { program := "ytfkehlhmephecaa", sum := "db7802d037978b86b284ac4e8688192aa536abccec44e078dbf3909b14a9096a", func := "kissgate/kissgatelaw03.CostFalls", spec := "costFalls", inPlace := ["math.archFloor", "math.Float64bits", "math.Float64frombits", "math.archTrunc"], apart := false, narrowed := true }
def CostFallsUptoSaid : Prop := costFallsUptoRow.holds Try.pinned (OpenSpec.upto costFallsSpec)

/-- 'kissgatelaw03.CostIs', WHERE WHAT IT READS IS OF BULK AT MOST 1048576: true; the input reads as it did. -/
def costIsUptoRow : OpenClaim := { program := "ytfkehlhmephecaa", sum := "db7802d037978b86b284ac4e8688192aa536abccec44e078dbf3909b14a9096a", func := "kissgate/kissgatelaw03.CostIs", spec := "costIs", inPlace := ["math.archFloor", "math.Float64bits", "math.Float64frombits", "math.archTrunc"], apart := false, narrowed := true }
def CostIsUptoSaid : Prop := costIsUptoRow.holds Try.pinned (OpenSpec.upto costIsSpec)

/-- 'kissgatelaw03.CostOrder', WHERE WHAT IT READS IS OF BULK AT MOST 1048576: true; the input reads as it did. -/
def costOrderUptoRow : OpenClaim := { program := "ytfkehlhmephecaa", sum := "db7802d037978b86b284ac4e8688192aa536abccec44e078dbf3909b14a9096a", func := "kissgate/kissgatelaw03.CostOrder", spec := "costOrder", inPlace := ["math.archFloor", "math.Float64bits", "math.Float64frombits", "math.archTrunc"], apart := false, narrowed := true }
def CostOrderUptoSaid : Prop := costOrderUptoRow.holds Try.pinned (OpenSpec.upto costOrderSpec)

/-- 'kissgatelaw03.CostSums', WHERE WHAT IT READS IS OF BULK AT MOST 1048576: true; the input reads as it did. -/
def costSumsUptoRow : OpenClaim := { program := "ytfkehlhmephecaa", sum := "db7802d037978b86b284ac4e8688192aa536abccec44e078dbf3909b14a9096a", func := "kissgate/kissgatelaw03.CostSums", spec := "costSums", inPlace := ["math.archFloor", "math.Float64bits", "math.Float64frombits", "math.archTrunc"], apart := false, narrowed := true }
def CostSumsUptoSaid : Prop := costSumsUptoRow.holds Try.pinned (OpenSpec.upto costSumsSpec)

/-- 'kissgatelaw03.CostEnds', WHERE WHAT IT READS IS OF BULK AT MOST 1048576: true; the input reads as it did. -/
def costEndsUptoRow : OpenClaim := { program := "ytfkehlhmephecaa", sum := "db7802d037978b86b284ac4e8688192aa536abccec44e078dbf3909b14a9096a", func := "kissgate/kissgatelaw03.CostEnds", spec := "costEnds", inPlace := ["math.archFloor", "math.Float64bits", "math.Float64frombits", "math.archTrunc"], apart := false, narrowed := true }
def CostEndsUptoSaid : Prop := costEndsUptoRow.holds Try.pinned (OpenSpec.upto costEndsSpec)

/-- 'kissgatelaw03.CostSpeeds', WHERE WHAT IT READS IS OF BULK AT MOST 1048576: true; the input reads as it did. -/
def costSpeedsUptoRow : OpenClaim := { program := "ytfkehlhmephecaa", sum := "db7802d037978b86b284ac4e8688192aa536abccec44e078dbf3909b14a9096a", func := "kissgate/kissgatelaw03.CostSpeeds", spec := "costSpeeds", inPlace := ["math.archFloor", "math.Float64bits", "math.Float64frombits", "math.archTrunc"], apart := false, narrowed := true }
def CostSpeedsUptoSaid : Prop := costSpeedsUptoRow.holds Try.pinned (OpenSpec.upto costSpeedsSpec)

end Rows
end Go.Proofs.Ytfkehlhmephecaa
