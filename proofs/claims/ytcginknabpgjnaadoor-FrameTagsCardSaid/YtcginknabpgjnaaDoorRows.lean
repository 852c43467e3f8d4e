/-
  NARROWER THAN 'FOR EVERY INPUT', by the rows' own cells (each row's printed sentence says how): FrameBytes: laid · FrameReads: laid · FrameTurned: laid · FrameOne: laid · FrameTags: laid.
  DERIVED. THE GIVEN ROWS OF THIS SEAT. 5 by the template 'for every input the law returns true; each argument reads behind the call as it read before'; 0 by the template 'total and deterministic' (their statements: YtcginknabpgjnaaDoorTotals.lean).
  GIVEN WITH THE SEED: the statements are not yours to turn. If you find one false, say at which input.
  Laid BY PROGRAM, IN A SANDBOX (cutbox-rows.mjs): the forced cells as the released guide's own fill.sh prints them over the translation f74e1faf966ea0cb… (all of the seat's roots in one cut). By AI agents, Wed Nov 11 2026. No macro, syntax, notation, axiom, sorry.
-/
import Derived.Test.YtcginknabpgjnaaDoorChecked
import GoSem.Claim
import GoSem.ClaimJoined
import GoSem.ClaimMapViews
import Derived.JoinedTies
import Derived.KernelRfl
namespace Go.Proofs.YtcginknabpgjnaaDoor
/- THE CELL 'sum', in the pinned program and in every row, IS THE sha256 OF THE DUMP (.gsa) THAT YtcginknabpgjnaaDoorProg.lean LOADS. Nothing in Lean hashes anything: it is a label: what it is worth is what the hold of that sum in a sandbox is worth. -/
noncomputable def Tryd.pinned : Pinned := { name := "ytcginknabpgjnaadoor", sum := "f74e1faf966ea0cb67e7599b5704bf165ea42696146b0b69b2de61a033da1a0a", checked := Tryd.checked }
namespace Rows
def none {H : Type} : Left H := { results := [], args := [] }

/- WHAT THE LISTED PACKAGE-LEVEL VARIABLES READ AS WHEN THE CALL BEGINS. Each datum BY PROGRAM (the guide's laid-datum.mjs) off the statement by which the dump's own 'gosem.cut.vars' lays the variable. In a bare row this is a premise. The card (YtcginknabpgjnaaDoorCards.lean) ties it to the program's text. -/
def laid_kissgate_check_turns {H : Type} : DataW H := .agg [.lit (.int .u16 0), .lit (.int .u16 4129), .lit (.int .u16 8258), .lit (.int .u16 12387), .lit (.int .u16 16516), .lit (.int .u16 20645), .lit (.int .u16 24774), .lit (.int .u16 28903), .lit (.int .u16 33032), .lit (.int .u16 37161), .lit (.int .u16 41290), .lit (.int .u16 45419), .lit (.int .u16 49548), .lit (.int .u16 53677), .lit (.int .u16 57806), .lit (.int .u16 61935)]

/-- 'kissgatelaw05.FrameBytes': WHATEVER THE INPUT: true; the input reads as it did. -/
def frameBytesSpec : ChangeSpec := { name := "frameBytes", fn := fun _ => fun
  | [d] => { results := [.lit (.bool true)], args := [d] }
  | _ => none }
def frameBytesRow : OpenClaim := { program := "ytcginknabpgjnaadoor", sum := "f74e1faf966ea0cb67e7599b5704bf165ea42696146b0b69b2de61a033da1a0a", func := "kissgate/kissgatelaw05.FrameBytes", spec := "frameBytes", named := ["kissgate/check.turns"], apart := false, laid := [("kissgate/check.turns", laid_kissgate_check_turns)] }
def FrameBytesSaid : Prop := frameBytesRow.holds Tryd.pinned (OpenSpec.ofChange frameBytesSpec)

/-- ITS FALSE NEIGHBOUR: 'it returns false'. Refute it at one input. -/
def frameBytesWrong : ChangeSpec := { name := "frameBytes", fn := fun _ => fun
  | [d] => { results := [.lit (.bool false)], args := [d] }
  | _ => none }
def FrameBytesWrongFalsely : Prop := frameBytesRow.holds Tryd.pinned (OpenSpec.ofChange frameBytesWrong)

/-- 'kissgatelaw05.FrameReads': WHATEVER THE INPUT: true; the input reads as it did. -/
def frameReadsSpec : ChangeSpec := { name := "frameReads", fn := fun _ => fun
  | [d] => { results := [.lit (.bool true)], args := [d] }
  | _ => none }
def frameReadsRow : OpenClaim := { program := "ytcginknabpgjnaadoor", sum := "f74e1faf966ea0cb67e7599b5704bf165ea42696146b0b69b2de61a033da1a0a", func := "kissgate/kissgatelaw05.FrameReads", spec := "frameReads", named := ["kissgate/check.turns"], apart := false, laid := [("kissgate/check.turns", laid_kissgate_check_turns)] }
def FrameReadsSaid : Prop := frameReadsRow.holds Tryd.pinned (OpenSpec.ofChange frameReadsSpec)

/-- ITS FALSE NEIGHBOUR: 'it returns false'. Refute it at one input. -/
def frameReadsWrong : ChangeSpec := { name := "frameReads", fn := fun _ => fun
  | [d] => { results := [.lit (.bool false)], args := [d] }
  | _ => none }
def FrameReadsWrongFalsely : Prop := frameReadsRow.holds Tryd.pinned (OpenSpec.ofChange frameReadsWrong)

/-- 'kissgatelaw05.FrameTurned': WHATEVER THE INPUT: true; the input reads as it did. -/
def frameTurnedSpec : ChangeSpec := { name := "frameTurned", fn := fun _ => fun
  | [d1, d2, d3, d4, d5] => { results := [.lit (.bool true)], args := [d1, d2, d3, d4, d5] }
  | _ => none }
def frameTurnedRow : OpenClaim := { program := "ytcginknabpgjnaadoor", sum := "f74e1faf966ea0cb67e7599b5704bf165ea42696146b0b69b2de61a033da1a0a", func := "kissgate/kissgatelaw05.FrameTurned", spec := "frameTurned", named := ["kissgate/check.turns"], apart := false, laid := [("kissgate/check.turns", laid_kissgate_check_turns)] }
def FrameTurnedSaid : Prop := frameTurnedRow.holds Tryd.pinned (OpenSpec.ofChange frameTurnedSpec)

/-- ITS FALSE NEIGHBOUR: 'it returns false'. Refute it at one input. -/
def frameTurnedWrong : ChangeSpec := { name := "frameTurned", fn := fun _ => fun
  | [d1, d2, d3, d4, d5] => { results := [.lit (.bool false)], args := [d1, d2, d3, d4, d5] }
  | _ => none }
def FrameTurnedWrongFalsely : Prop := frameTurnedRow.holds Tryd.pinned (OpenSpec.ofChange frameTurnedWrong)

/-- 'kissgatelaw05.FrameOne': WHATEVER THE INPUT: true; the input reads as it did. -/
def frameOneSpec : ChangeSpec := { name := "frameOne", fn := fun _ => fun
  | [d1, d2] => { results := [.lit (.bool true)], args := [d1, d2] }
  | _ => none }
def frameOneRow : OpenClaim := { program := "ytcginknabpgjnaadoor", sum := "f74e1faf966ea0cb67e7599b5704bf165ea42696146b0b69b2de61a033da1a0a", func := "kissgate/kissgatelaw05.FrameOne", spec := "frameOne", named := ["kissgate/check.turns"], apart := false, laid := [("kissgate/check.turns", laid_kissgate_check_turns)] }
def FrameOneSaid : Prop := frameOneRow.holds Tryd.pinned (OpenSpec.ofChange frameOneSpec)

/-- ITS FALSE NEIGHBOUR: 'it returns false'. Refute it at one input. -/
def frameOneWrong : ChangeSpec := { name := "frameOne", fn := fun _ => fun
  | [d1, d2] => { results := [.lit (.bool false)], args := [d1, d2] }
  | _ => none }
def FrameOneWrongFalsely : Prop := frameOneRow.holds Tryd.pinned (OpenSpec.ofChange frameOneWrong)

/-- 'kissgatelaw05.FrameTags': WHATEVER THE INPUT: true; the input reads as it did. -/
def frameTagsSpec : ChangeSpec := { name := "frameTags", fn := fun _ => fun
  | [d1, d2, d3] => { results := [.lit (.bool true)], args := [d1, d2, d3] }
  | _ => none }
def frameTagsRow : OpenClaim := { program := "ytcginknabpgjnaadoor", sum := "f74e1faf966ea0cb67e7599b5704bf165ea42696146b0b69b2de61a033da1a0a", func := "kissgate/kissgatelaw05.FrameTags", spec := "frameTags", named := ["kissgate/check.turns"], apart := false, laid := [("kissgate/check.turns", laid_kissgate_check_turns)] }
def FrameTagsSaid : Prop := frameTagsRow.holds Tryd.pinned (OpenSpec.ofChange frameTagsSpec)

/-- ITS FALSE NEIGHBOUR: 'it returns false'. Refute it at one input. -/
def frameTagsWrong : ChangeSpec := { name := "frameTags", fn := fun _ => fun
  | [d1, d2, d3] => { results := [.lit (.bool false)], args := [d1, d2, d3] }
  | _ => none }
def FrameTagsWrongFalsely : Prop := frameTagsRow.holds Tryd.pinned (OpenSpec.ofChange frameTagsWrong)

/- THE SECOND FORM. 'bulk': how many values and letters a reading holds, each counted each time it is reached (what is shared counts as often as it is met; a slice's spare places count too). A statement '..UptoSaid' is the law's where the arguments, and the package variables that the reading takes, are together of bulk at most 1048576: NARROWER than '..Said'. Prove '..Said' where nothing that the law and all that it calls make is longer than what came in: it says more and counts as full. Else prove '..UptoSaid'. A law counts once. -/
mutual
def uptoBulk {H : Type} : DataW H → Nat
  | .lit (.string bytes) => bytes.length + 1
  | .lit _ => 1
  | .nil => 1
  | .ptr d => uptoBulk d + 1
  | .slice elems spare => uptoBulkAll elems + uptoBulkAll spare + 1
  | .agg parts => uptoBulkAll parts + 1
  | .iface _ d => uptoBulk d + 1
  | .map entries => uptoBulkEntries entries + 1
  | .held _ => 1
def uptoBulkAll {H : Type} : List (DataW H) → Nat
  | [] => 0
  | d :: r => uptoBulk d + uptoBulkAll r
def uptoBulkEntries {H : Type} : List (Lit × DataW H) → Nat
  | [] => 0
  | x :: r => uptoBulkEntry x + uptoBulkEntries r
def uptoBulkEntry {H : Type} : Lit × DataW H → Nat
  | (.string bytes, d) => bytes.length + uptoBulk d + 1
  | (_, d) => uptoBulk d + 1
 end
def uptoSmall : (H : Type) → List (DataW H) → Bool := fun _ ds => decide (uptoBulkAll ds ≤ 1048576)
def OpenSpec.upto (s : _root_.Go.ChangeSpec) : _root_.Go.OpenSpec := { _root_.Go.OpenSpec.ofChange s with cond := some uptoSmall }

/-- 'kissgatelaw05.FrameBytes', WHERE WHAT IT READS IS OF BULK AT MOST 1048576: true; the input reads as it did. -/
def frameBytesUptoRow : OpenClaim := { program := "ytcginknabpgjnaadoor", sum := "f74e1faf966ea0cb67e7599b5704bf165ea42696146b0b69b2de61a033da1a0a", func := "kissgate/kissgatelaw05.FrameBytes", spec := "frameBytes", named := ["kissgate/check.turns"], apart := false, laid := [("kissgate/check.turns", laid_kissgate_check_turns)], narrowed := true }
def FrameBytesUptoSaid : Prop := frameBytesUptoRow.holds Tryd.pinned (OpenSpec.upto frameBytesSpec)

/-- 'kissgatelaw05.FrameReads', WHERE WHAT IT READS IS OF BULK AT MOST 1048576: true; the input reads as it did. -/
def frameReadsUptoRow : OpenClaim := { program := "ytcginknabpgjnaadoor", sum := "f74e1faf966ea0cb67e7599b5704bf165ea42696146b0b69b2de61a033da1a0a", func := "kissgate/kissgatelaw05.FrameReads", spec := "frameReads", named := ["kissgate/check.turns"], apart := false, laid := [("kissgate/check.turns", laid_kissgate_check_turns)], narrowed := true }
def FrameReadsUptoSaid : Prop := frameReadsUptoRow.holds Tryd.pinned (OpenSpec.upto frameReadsSpec)

/-- 'kissgatelaw05.FrameTurned', WHERE WHAT IT READS IS OF BULK AT MOST 1048576: true; the input reads as it did. -/
def frameTurnedUptoRow : OpenClaim := { program := "ytcginknabpgjnaadoor", sum := "f74e1faf966ea0cb67e7599b5704bf165ea42696146b0b69b2de61a033da1a0a", func := "kissgate/kissgatelaw05.FrameTurned", spec := "frameTurned", named := ["kissgate/check.turns"], apart := false, laid := [("kissgate/check.turns", laid_kissgate_check_turns)], narrowed := true }
def FrameTurnedUptoSaid : Prop := frameTurnedUptoRow.holds Tryd.pinned (OpenSpec.upto frameTurnedSpec)

/-- 'kissgatelaw05.FrameOne', WHERE WHAT IT READS IS OF BULK AT MOST 1048576: true; the input reads as it did. -/
def frameOneUptoRow : OpenClaim := { program := "ytcginknabpgjnaadoor", sum := "f74e1faf966ea0cb67e7599b5704bf165ea42696146b0b69b2de61a033da1a0a", func := "kissgate/kissgatelaw05.FrameOne", spec := "frameOne", named := ["kissgate/check.turns"], apart := false, laid := [("kissgate/check.turns", laid_kissgate_check_turns)], narrowed := true }
def FrameOneUptoSaid : Prop := frameOneUptoRow.holds Tryd.pinned (OpenSpec.upto frameOneSpec)

/-- 'kissgatelaw05.FrameTags', WHERE WHAT IT READS IS OF BULK AT MOST 1048576: true; the input reads as it did. -/
def frameTagsUptoRow : OpenClaim := { program := "ytcginknabpgjnaadoor", sum := "f74e1faf966ea0cb67e7599b5704bf165ea42696146b0b69b2de61a033da1a0a", func := "kissgate/kissgatelaw05.FrameTags", spec := "frameTags", named := ["kissgate/check.turns"], apart := false, laid := [("kissgate/check.turns", laid_kissgate_check_turns)], narrowed := true }
def FrameTagsUptoSaid : Prop := frameTagsUptoRow.holds Tryd.pinned (OpenSpec.upto frameTagsSpec)

end Rows
end Go.Proofs.YtcginknabpgjnaaDoor
