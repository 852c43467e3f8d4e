/-
  No cell of these rows narrows 'for every input' (looked for: loops, veiled, ifaces, maps, wideKeys, modest, calm, conditions, laid).
  DERIVED. THE GIVEN ROWS OF THIS SEAT. 5 by the template 'for every input the law returns true; each argument reads behind the call as it read before'; 0 by the template 'total and deterministic' (their statements: YtibeijfgjcakiaaTotals.lean).
  GIVEN WITH THE SEED: the statements are not yours to turn. If you find one false, say at which input.
  Laid BY PROGRAM, IN A SANDBOX (cutbox-rows.mjs): the forced cells as the released guide's own fill.sh prints them over the translation bd46ee0e2a7b3706… (all of the seat's roots in one cut). By AI agents, Wed Nov 11 2026. No macro, syntax, notation, axiom, sorry.
-/
import Derived.Test.YtibeijfgjcakiaaChecked
import GoSem.Claim
import GoSem.ClaimJoined
import GoSem.ClaimMapViews
import Derived.JoinedTies
import Derived.KernelRfl
namespace Go.Proofs.Ytibeijfgjcakiaa
/- THE CELL 'sum', in the pinned program and in every row, IS THE sha256 OF THE DUMP (.gsa) THAT YtibeijfgjcakiaaProg.lean LOADS. Nothing in Lean hashes anything: it is a label: what it is worth is what the hold of that sum in a sandbox is worth. -/
noncomputable def Try.pinned : Pinned := { name := "ytibeijfgjcakiaa", sum := "bd46ee0e2a7b3706db26e01eaa808671387b2ddf32ceb5692a1497045c0b98f7", checked := Try.checked }
namespace Rows
def none {H : Type} : Left H := { results := [], args := [] }

/-- 'kissgatelaw02.AddrKinds': WHATEVER THE INPUT: true; the input reads as it did. -/
def addrKindsSpec : ChangeSpec := { name := "addrKinds", fn := fun _ => fun
  | [d] => { results := [.lit (.bool true)], args := [d] }
  | _ => none }
def addrKindsRow : OpenClaim := { program := "ytibeijfgjcakiaa", sum := "bd46ee0e2a7b3706db26e01eaa808671387b2ddf32ceb5692a1497045c0b98f7", func := "kissgate/kissgatelaw02.AddrKinds", spec := "addrKinds", inPlace := ["internal/abi.NoEscape"], apart := false }
def AddrKindsSaid : Prop := addrKindsRow.holds Try.pinned (OpenSpec.ofChange addrKindsSpec)

/-- ITS FALSE NEIGHBOUR: 'it returns false'. Refute it at one input. -/
def addrKindsWrong : ChangeSpec := { name := "addrKinds", fn := fun _ => fun
  | [d] => { results := [.lit (.bool false)], args := [d] }
  | _ => none }
def AddrKindsWrongFalsely : Prop := addrKindsRow.holds Try.pinned (OpenSpec.ofChange addrKindsWrong)

/-- 'kissgatelaw02.AddrUnlike': WHATEVER THE INPUT: true; the input reads as it did. -/
def addrUnlikeSpec : ChangeSpec := { name := "addrUnlike", fn := fun _ => fun
  | [d1, d2] => { results := [.lit (.bool true)], args := [d1, d2] }
  | _ => none }
def addrUnlikeRow : OpenClaim := { program := "ytibeijfgjcakiaa", sum := "bd46ee0e2a7b3706db26e01eaa808671387b2ddf32ceb5692a1497045c0b98f7", func := "kissgate/kissgatelaw02.AddrUnlike", spec := "addrUnlike", inPlace := ["internal/abi.NoEscape"], apart := false }
def AddrUnlikeSaid : Prop := addrUnlikeRow.holds Try.pinned (OpenSpec.ofChange addrUnlikeSpec)

/-- ITS FALSE NEIGHBOUR: 'it returns false'. Refute it at one input. -/
def addrUnlikeWrong : ChangeSpec := { name := "addrUnlike", fn := fun _ => fun
  | [d1, d2] => { results := [.lit (.bool false)], args := [d1, d2] }
  | _ => none }
def AddrUnlikeWrongFalsely : Prop := addrUnlikeRow.holds Try.pinned (OpenSpec.ofChange addrUnlikeWrong)

/-- 'kissgatelaw02.AddrNumbers': WHATEVER THE INPUT: true; the input reads as it did. -/
def addrNumbersSpec : ChangeSpec := { name := "addrNumbers", fn := fun _ => fun
  | [d] => { results := [.lit (.bool true)], args := [d] }
  | _ => none }
def addrNumbersRow : OpenClaim := { program := "ytibeijfgjcakiaa", sum := "bd46ee0e2a7b3706db26e01eaa808671387b2ddf32ceb5692a1497045c0b98f7", func := "kissgate/kissgatelaw02.AddrNumbers", spec := "addrNumbers", inPlace := ["internal/abi.NoEscape"], apart := false }
def AddrNumbersSaid : Prop := addrNumbersRow.holds Try.pinned (OpenSpec.ofChange addrNumbersSpec)

/-- ITS FALSE NEIGHBOUR: 'it returns false'. Refute it at one input. -/
def addrNumbersWrong : ChangeSpec := { name := "addrNumbers", fn := fun _ => fun
  | [d] => { results := [.lit (.bool false)], args := [d] }
  | _ => none }
def AddrNumbersWrongFalsely : Prop := addrNumbersRow.holds Try.pinned (OpenSpec.ofChange addrNumbersWrong)

/-- 'kissgatelaw02.AddrShows': WHATEVER THE INPUT: true; the input reads as it did. -/
def addrShowsSpec : ChangeSpec := { name := "addrShows", fn := fun _ => fun
  | [d] => { results := [.lit (.bool true)], args := [d] }
  | _ => none }
def addrShowsRow : OpenClaim := { program := "ytibeijfgjcakiaa", sum := "bd46ee0e2a7b3706db26e01eaa808671387b2ddf32ceb5692a1497045c0b98f7", func := "kissgate/kissgatelaw02.AddrShows", spec := "addrShows", inPlace := ["internal/abi.NoEscape", "internal/bytealg.IndexByteString", "internal/bytealg.IndexString"], named := ["internal/bytealg.MaxLen"], apart := false }
def AddrShowsSaid : Prop := addrShowsRow.holds Try.pinned (OpenSpec.ofChange addrShowsSpec)

/-- ITS FALSE NEIGHBOUR: 'it returns false'. Refute it at one input. -/
def addrShowsWrong : ChangeSpec := { name := "addrShows", fn := fun _ => fun
  | [d] => { results := [.lit (.bool false)], args := [d] }
  | _ => none }
def AddrShowsWrongFalsely : Prop := addrShowsRow.holds Try.pinned (OpenSpec.ofChange addrShowsWrong)

/-- 'kissgatelaw02.AddrParses': WHATEVER THE INPUT: true; the input reads as it did. -/
def addrParsesSpec : ChangeSpec := { name := "addrParses", fn := fun _ => fun
  | [d] => { results := [.lit (.bool true)], args := [d] }
  | _ => none }
def addrParsesRow : OpenClaim := { program := "ytibeijfgjcakiaa", sum := "bd46ee0e2a7b3706db26e01eaa808671387b2ddf32ceb5692a1497045c0b98f7", func := "kissgate/kissgatelaw02.AddrParses", spec := "addrParses", inPlace := ["internal/abi.NoEscape", "internal/bytealg.IndexByteString", "internal/bytealg.IndexString"], named := ["internal/bytealg.MaxLen"], apart := false }
def AddrParsesSaid : Prop := addrParsesRow.holds Try.pinned (OpenSpec.ofChange addrParsesSpec)

/-- ITS FALSE NEIGHBOUR: 'it returns false'. Refute it at one input. -/
def addrParsesWrong : ChangeSpec := { name := "addrParses", fn := fun _ => fun
  | [d] => { results := [.lit (.bool false)], args := [d] }
  | _ => none }
def AddrParsesWrongFalsely : Prop := addrParsesRow.holds Try.pinned (OpenSpec.ofChange addrParsesWrong)

/- THE SECOND FORM. 'bulk': how many values and letters a reading holds, each counted each time it is reached (what is shared counts as often as it is met; a slice's spare places count too). A statement '..UptoSaid' is the law's where the arguments, and the package variables that the reading takes, are together of bulk at most 1048576: NARROWER than '..Said'. Prove '..Said' where nothing that the law and all that it calls make is longer than what came in: it says more and counts as full. Else prove '..UptoSaid'. A law counts once. -/
mutual
def uptoBulk {H : Type} : DataW H → Nat
  | .lit (.string bytes) => bytes.length + 1
  | .lit _ => 1
  | .nil => 1
  | .ptr d => uptoBulk d + 1
  | .slice elems spare => uptoBulkAll elems + uptoBulkAll spare + 1
  | .agg parts => uptoBulkAll parts + 1
  | .iface _ d => uptoBulk d + 1
  | .map entries => uptoBulkEntries entries + 1
  | .held _ => 1
def uptoBulkAll {H : Type} : List (DataW H) → Nat
  | [] => 0
  | d :: r => uptoBulk d + uptoBulkAll r
def uptoBulkEntries {H : Type} : List (Lit × DataW H) → Nat
  | [] => 0
  | x :: r => uptoBulkEntry x + uptoBulkEntries r
def uptoBulkEntry {H : Type} : Lit × DataW H → Nat
  | (.string bytes, d) => bytes.length + uptoBulk d + 1
  | (_, d) => uptoBulk d + 1
 end
def uptoSmall : (H : Type) → List (DataW H) → Bool := fun _ ds => decide (uptoBulkAll ds ≤ 1048576)
def OpenSpec.upto (s : _root_.Go.ChangeSpec) : _root_.Go.OpenSpec := { _root_.Go.OpenSpec.ofChange s with cond := some uptoSmall }

/-- 'kissgatelaw02.AddrKinds', WHERE WHAT IT READS IS OF BULK AT MOST 1048576: true; the input reads as it did. -/
def addrKindsUptoRow : OpenClaim := { program := "ytibeijfgjcakiaa", sum := "bd46ee0e2a7b3706db26e01eaa808671387b2ddf32ceb5692a1497045c0b98f7", func := "kissgate/kissgatelaw02.AddrKinds", spec := "addrKinds", inPlace := ["internal/abi.NoEscape"], apart := false, narrowed := true }
def AddrKindsUptoSaid : Prop := addrKindsUptoRow.holds Try.pinned (OpenSpec.upto addrKindsSpec)

/-- 'kissgatelaw02.AddrUnlike', WHERE WHAT IT READS IS OF BULK AT MOST 1048576: true; the input reads as it did. -/
def addrUnlikeUptoRow : OpenClaim := { program := "ytibeijfgjcakiaa", sum := "bd46ee0e2a7b3706db26e01eaa808671387b2ddf32ceb5692a1497045c0b98f7", func := "kissgate/kissgatelaw02.AddrUnlike", spec := "addrUnlike", inPlace := ["internal/abi.NoEscape"], apart := false, narrowed := true }
def AddrUnlikeUptoSaid : Prop := addrUnlikeUptoRow.holds Try.pinned (OpenSpec.upto addrUnlikeSpec)

/-- 'kissgatelaw02.AddrNumbers', WHERE WHAT IT READS IS OF BULK AT MOST 1048576: true; the input reads as it did. -/
def addrNumbersUptoRow : OpenClaim := { program := "ytibeijfgjcakiaa", sum := "bd46ee0e2a7b3706db26e01eaa808671387b2ddf32ceb5692a1497045c0b98f7", func := "kissgate/kissgatelaw02.AddrNumbers", spec := "addrNumbers", inPlace := ["internal/abi.NoEscape"], apart := false, narrowed := true }
def AddrNumbersUptoSaid : Prop := addrNumbersUptoRow.holds Try.pinned (OpenSpec.upto addrNumbersSpec)

/-- 'kissgatelaw02.AddrShows', WHERE WHAT IT READS IS OF BULK AT MOST 1048576: true; the input reads as it did. -/
def addrShowsUptoRow : OpenClaim := { program := "ytibeijfgjcakiaa", sum := "bd46ee0e2a7b3706db26e01eaa808671387b2ddf32ceb5692a1497045c0b98f7", func := "kissgate/kissgatelaw02.AddrShows", spec := "addrShows", inPlace := ["internal/abi.NoEscape", "internal/bytealg.IndexByteString", "internal/bytealg.IndexString"], named := ["internal/bytealg.MaxLen"], apart := false, narrowed := true }
def AddrShowsUptoSaid : Prop := addrShowsUptoRow.holds Try.pinned (OpenSpec.upto addrShowsSpec)

/-- 'kissgatelaw02.AddrParses', WHERE WHAT IT READS IS OF BULK AT MOST 1048576: true; the input reads as it did. -/
def addrParsesUptoRow : OpenClaim := { program := "ytibeijfgjcakiaa", sum := "bd46ee0e2a7b3706db26e01eaa808671387b2ddf32ceb5692a1497045c0b98f7", func := "kissgate/kissgatelaw02.AddrParses", spec := "addrParses", inPlace := ["internal/abi.NoEscape", "internal/bytealg.IndexByteString", "internal/bytealg.IndexString"], named := ["internal/bytealg.MaxLen"], apart := false, narrowed := true }
def AddrParsesUptoSaid : Prop := addrParsesUptoRow.holds Try.pinned (OpenSpec.upto addrParsesSpec)

end Rows
end Go.Proofs.Ytibeijfgjcakiaa
