/-
  DERIVED. GIVEN WITH THE SEED: THE CARDS: each row of YtcginknabpgjnaaDoorRows.lean that lists a variable, with what it lists TIED to the program's text (the seventh form; the later family's looks); each row that meets fmt, with fmt's text TOLD by the authors' own Lean function (tested against real Go, not proved from fmt's source: count such statements apart). THE CARD IS WHAT COUNTS. Prove the row's statement (the work); the ties are given (YtcginknabpgjnaaDoorTie.lean); close each card by the builder's one call (the guide's Derived/Test/ToyasCard.lean, 'card_holds'). Laid BY PROGRAM, IN A SANDBOX (cutbox-door.mjs). By AI agents, Wed Nov 11 2026. No macro, syntax, notation, axiom, sorry.
-/
import Derived.Test.YtcginknabpgjnaaDoorRows
import GoSem.ClaimSeven
namespace Go.Proofs.YtcginknabpgjnaaDoor
namespace Rows

/-- THE TIED CARD OF 'kissgatelaw05.FrameBytes'. -/
def frameBytesCard : Claim7 := { stood := { row := frameBytesRow, standIns := [], harness := (true, "c16a9398399c487479e7a12ee323d9ae9d8d89483d90930419c7a271dc758783"), looks := false }, kinds := [], alts := [], laidByText := true, laidKinds := [.data], laidTests := true, laidLooks := .later }
def FrameBytesCardSaid : Prop := Claim7.holds Tryd.pinned (.plain (OpenSpec.ofChange frameBytesSpec)) frameBytesCard

/-- THE TIED CARD OF 'kissgatelaw05.FrameReads'. -/
def frameReadsCard : Claim7 := { stood := { row := frameReadsRow, standIns := [], harness := (true, "c16a9398399c487479e7a12ee323d9ae9d8d89483d90930419c7a271dc758783"), looks := false }, kinds := [], alts := [], laidByText := true, laidKinds := [.data], laidTests := true, laidLooks := .later }
def FrameReadsCardSaid : Prop := Claim7.holds Tryd.pinned (.plain (OpenSpec.ofChange frameReadsSpec)) frameReadsCard

/-- THE TIED CARD OF 'kissgatelaw05.FrameTurned'. -/
def frameTurnedCard : Claim7 := { stood := { row := frameTurnedRow, standIns := [], harness := (true, "c16a9398399c487479e7a12ee323d9ae9d8d89483d90930419c7a271dc758783"), looks := false }, kinds := [], alts := [], laidByText := true, laidKinds := [.data], laidTests := true, laidLooks := .later }
def FrameTurnedCardSaid : Prop := Claim7.holds Tryd.pinned (.plain (OpenSpec.ofChange frameTurnedSpec)) frameTurnedCard

/-- THE TIED CARD OF 'kissgatelaw05.FrameOne'. -/
def frameOneCard : Claim7 := { stood := { row := frameOneRow, standIns := [], harness := (true, "c16a9398399c487479e7a12ee323d9ae9d8d89483d90930419c7a271dc758783"), looks := false }, kinds := [], alts := [], laidByText := true, laidKinds := [.data], laidTests := true, laidLooks := .later }
def FrameOneCardSaid : Prop := Claim7.holds Tryd.pinned (.plain (OpenSpec.ofChange frameOneSpec)) frameOneCard

/-- THE TIED CARD OF 'kissgatelaw05.FrameTags'. -/
def frameTagsCard : Claim7 := { stood := { row := frameTagsRow, standIns := [], harness := (true, "c16a9398399c487479e7a12ee323d9ae9d8d89483d90930419c7a271dc758783"), looks := false }, kinds := [], alts := [], laidByText := true, laidKinds := [.data], laidTests := true, laidLooks := .later }
def FrameTagsCardSaid : Prop := Claim7.holds Tryd.pinned (.plain (OpenSpec.ofChange frameTagsSpec)) frameTagsCard

/-- THE SECOND FORM's CARD OF 'kissgatelaw05.FrameBytes'. -/
def frameBytesUptoCard : Claim7 := { stood := { row := frameBytesUptoRow, standIns := [], harness := (true, "c16a9398399c487479e7a12ee323d9ae9d8d89483d90930419c7a271dc758783"), looks := false }, kinds := [], alts := [], laidByText := true, laidKinds := [.data], laidTests := true, laidLooks := .later }
def FrameBytesUptoCardSaid : Prop := Claim7.holds Tryd.pinned (.plain (OpenSpec.upto frameBytesSpec)) frameBytesUptoCard

/-- THE SECOND FORM's CARD OF 'kissgatelaw05.FrameReads'. -/
def frameReadsUptoCard : Claim7 := { stood := { row := frameReadsUptoRow, standIns := [], harness := (true, "c16a9398399c487479e7a12ee323d9ae9d8d89483d90930419c7a271dc758783"), looks := false }, kinds := [], alts := [], laidByText := true, laidKinds := [.data], laidTests := true, laidLooks := .later }
def FrameReadsUptoCardSaid : Prop := Claim7.holds Tryd.pinned (.plain (OpenSpec.upto frameReadsSpec)) frameReadsUptoCard

/-- THE SECOND FORM's CARD OF 'kissgatelaw05.FrameTurned'. -/
def frameTurnedUptoCard : Claim7 := { stood := { row := frameTurnedUptoRow, standIns := [], harness := (true, "c16a9398399c487479e7a12ee323d9ae9d8d89483d90930419c7a271dc758783"), looks := false }, kinds := [], alts := [], laidByText := true, laidKinds := [.data], laidTests := true, laidLooks := .later }
def FrameTurnedUptoCardSaid : Prop := Claim7.holds Tryd.pinned (.plain (OpenSpec.upto frameTurnedSpec)) frameTurnedUptoCard

/-- THE SECOND FORM's CARD OF 'kissgatelaw05.FrameOne'. -/
def frameOneUptoCard : Claim7 := { stood := { row := frameOneUptoRow, standIns := [], harness := (true, "c16a9398399c487479e7a12ee323d9ae9d8d89483d90930419c7a271dc758783"), looks := false }, kinds := [], alts := [], laidByText := true, laidKinds := [.data], laidTests := true, laidLooks := .later }
def FrameOneUptoCardSaid : Prop := Claim7.holds Tryd.pinned (.plain (OpenSpec.upto frameOneSpec)) frameOneUptoCard

/-- THE SECOND FORM's CARD OF 'kissgatelaw05.FrameTags'. -/
def frameTagsUptoCard : Claim7 := { stood := { row := frameTagsUptoRow, standIns := [], harness := (true, "c16a9398399c487479e7a12ee323d9ae9d8d89483d90930419c7a271dc758783"), looks := false }, kinds := [], alts := [], laidByText := true, laidKinds := [.data], laidTests := true, laidLooks := .later }
def FrameTagsUptoCardSaid : Prop := Claim7.holds Tryd.pinned (.plain (OpenSpec.upto frameTagsSpec)) frameTagsUptoCard
end Rows
end Go.Proofs.YtcginknabpgjnaaDoor
