/-
  DERIVED. GIVEN WITH THE SEED: THE CARDS: each row of YtffhepaldaoleaaDoorRows.lean that lists a variable, with what it lists TIED to the program's text (the seventh form; the later family's looks); each row that meets fmt, with fmt's text TOLD by the authors' own Lean function (tested against real Go, not proved from fmt's source: count such statements apart). THE CARD IS WHAT COUNTS. Prove the row's statement (the work); the ties are given (YtffhepaldaoleaaDoorTie.lean); close each card by the builder's one call (the guide's Derived/Test/ToyasCard.lean, 'card_holds'). Laid BY PROGRAM, IN A SANDBOX (cutbox-door.mjs). By AI agents, Wed Nov 11 2026. No macro, syntax, notation, axiom, sorry.
-/
import Derived.Test.YtffhepaldaoleaaDoorRows
import GoSem.ClaimSeven
namespace Go.Proofs.YtffhepaldaoleaaDoor
namespace Rows

/-- THE TIED CARD OF 'kissgatelaw04.CheckOdd'. -/
def checkOddCard : Claim7 := { stood := { row := checkOddRow, standIns := [], harness := (true, "90b4c9ddcb3edfa045ceba667aa13511b16485f9d93afa26279f76aecca0fe5e"), looks := false }, kinds := [], alts := [], laidByText := true, laidKinds := [.data], laidTests := true, laidLooks := .later }
def CheckOddCardSaid : Prop := Claim7.holds Tryd.pinned (.plain (OpenSpec.ofChange checkOddSpec)) checkOddCard

/-- THE TIED CARD OF 'kissgatelaw04.CheckIs'. -/
def checkIsCard : Claim7 := { stood := { row := checkIsRow, standIns := [], harness := (true, "90b4c9ddcb3edfa045ceba667aa13511b16485f9d93afa26279f76aecca0fe5e"), looks := false }, kinds := [], alts := [], laidByText := true, laidKinds := [.data], laidTests := true, laidLooks := .later }
def CheckIsCardSaid : Prop := Claim7.holds Tryd.pinned (.plain (OpenSpec.ofChange checkIsSpec)) checkIsCard

/-- THE TIED CARD OF 'kissgatelaw04.CheckGoes'. -/
def checkGoesCard : Claim7 := { stood := { row := checkGoesRow, standIns := [], harness := (true, "90b4c9ddcb3edfa045ceba667aa13511b16485f9d93afa26279f76aecca0fe5e"), looks := false }, kinds := [], alts := [], laidByText := true, laidKinds := [.data], laidTests := true, laidLooks := .later }
def CheckGoesCardSaid : Prop := Claim7.holds Tryd.pinned (.plain (OpenSpec.ofChange checkGoesSpec)) checkGoesCard

/-- THE TIED CARD OF 'kissgatelaw04.CheckStrips'. -/
def checkStripsCard : Claim7 := { stood := { row := checkStripsRow, standIns := [], harness := (true, "90b4c9ddcb3edfa045ceba667aa13511b16485f9d93afa26279f76aecca0fe5e"), looks := false }, kinds := [], alts := [], laidByText := true, laidKinds := [.data], laidTests := true, laidLooks := .later }
def CheckStripsCardSaid : Prop := Claim7.holds Tryd.pinned (.plain (OpenSpec.ofChange checkStripsSpec)) checkStripsCard

/-- THE TIED CARD OF 'kissgatelaw04.CheckRow'. -/
def checkRowCard : Claim7 := { stood := { row := checkRowRow, standIns := [], harness := (true, "90b4c9ddcb3edfa045ceba667aa13511b16485f9d93afa26279f76aecca0fe5e"), looks := false }, kinds := [], alts := [], laidByText := true, laidKinds := [.data], laidTests := true, laidLooks := .later }
def CheckRowCardSaid : Prop := Claim7.holds Tryd.pinned (.plain (OpenSpec.ofChange checkRowSpec)) checkRowCard

/-- THE TIED CARD OF 'kissgatelaw04.CheckBits'. -/
def checkBitsCard : Claim7 := { stood := { row := checkBitsRow, standIns := [], harness := (true, "90b4c9ddcb3edfa045ceba667aa13511b16485f9d93afa26279f76aecca0fe5e"), looks := false }, kinds := [], alts := [], laidByText := true, laidKinds := [.data], laidTests := true, laidLooks := .later }
def CheckBitsCardSaid : Prop := Claim7.holds Tryd.pinned (.plain (OpenSpec.ofChange checkBitsSpec)) checkBitsCard

/-- THE SECOND FORM's CARD OF 'kissgatelaw04.CheckOdd'. -/
def checkOddUptoCard : Claim7 := { stood := { row := checkOddUptoRow, standIns := [], harness := (true, "90b4c9ddcb3edfa045ceba667aa13511b16485f9d93afa26279f76aecca0fe5e"), looks := false }, kinds := [], alts := [], laidByText := true, laidKinds := [.data], laidTests := true, laidLooks := .later }
def CheckOddUptoCardSaid : Prop := Claim7.holds Tryd.pinned (.plain (OpenSpec.upto checkOddSpec)) checkOddUptoCard

/-- THE SECOND FORM's CARD OF 'kissgatelaw04.CheckIs'. -/
def checkIsUptoCard : Claim7 := { stood := { row := checkIsUptoRow, standIns := [], harness := (true, "90b4c9ddcb3edfa045ceba667aa13511b16485f9d93afa26279f76aecca0fe5e"), looks := false }, kinds := [], alts := [], laidByText := true, laidKinds := [.data], laidTests := true, laidLooks := .later }
def CheckIsUptoCardSaid : Prop := Claim7.holds Tryd.pinned (.plain (OpenSpec.upto checkIsSpec)) checkIsUptoCard

/-- THE SECOND FORM's CARD OF 'kissgatelaw04.CheckGoes'. -/
def checkGoesUptoCard : Claim7 := { stood := { row := checkGoesUptoRow, standIns := [], harness := (true, "90b4c9ddcb3edfa045ceba667aa13511b16485f9d93afa26279f76aecca0fe5e"), looks := false }, kinds := [], alts := [], laidByText := true, laidKinds := [.data], laidTests := true, laidLooks := .later }
def CheckGoesUptoCardSaid : Prop := Claim7.holds Tryd.pinned (.plain (OpenSpec.upto checkGoesSpec)) checkGoesUptoCard

/-- THE SECOND FORM's CARD OF 'kissgatelaw04.CheckStrips'. -/
def checkStripsUptoCard : Claim7 := { stood := { row := checkStripsUptoRow, standIns := [], harness := (true, "90b4c9ddcb3edfa045ceba667aa13511b16485f9d93afa26279f76aecca0fe5e"), looks := false }, kinds := [], alts := [], laidByText := true, laidKinds := [.data], laidTests := true, laidLooks := .later }
def CheckStripsUptoCardSaid : Prop := Claim7.holds Tryd.pinned (.plain (OpenSpec.upto checkStripsSpec)) checkStripsUptoCard

/-- THE SECOND FORM's CARD OF 'kissgatelaw04.CheckRow'. -/
def checkRowUptoCard : Claim7 := { stood := { row := checkRowUptoRow, standIns := [], harness := (true, "90b4c9ddcb3edfa045ceba667aa13511b16485f9d93afa26279f76aecca0fe5e"), looks := false }, kinds := [], alts := [], laidByText := true, laidKinds := [.data], laidTests := true, laidLooks := .later }
def CheckRowUptoCardSaid : Prop := Claim7.holds Tryd.pinned (.plain (OpenSpec.upto checkRowSpec)) checkRowUptoCard

/-- THE SECOND FORM's CARD OF 'kissgatelaw04.CheckBits'. -/
def checkBitsUptoCard : Claim7 := { stood := { row := checkBitsUptoRow, standIns := [], harness := (true, "90b4c9ddcb3edfa045ceba667aa13511b16485f9d93afa26279f76aecca0fe5e"), looks := false }, kinds := [], alts := [], laidByText := true, laidKinds := [.data], laidTests := true, laidLooks := .later }
def CheckBitsUptoCardSaid : Prop := Claim7.holds Tryd.pinned (.plain (OpenSpec.upto checkBitsSpec)) checkBitsUptoCard
end Rows
end Go.Proofs.YtffhepaldaoleaaDoor
