/-
  DERIVED. GIVEN WITH THE SEED: THE CARDS: each row of YtnphindpbdjmpaaDoorRows.lean that lists a variable, with what it lists TIED to the program's text (the seventh form; the later family's looks); each row that meets fmt, with fmt's text TOLD by the authors' own Lean function (tested against real Go, not proved from fmt's source: count such statements apart). THE CARD IS WHAT COUNTS. Prove the row's statement (the work); the ties are given (YtnphindpbdjmpaaDoorTie.lean); close each card by the builder's one call (the guide's Derived/Test/ToyasCard.lean, 'card_holds'). Laid BY PROGRAM, IN A SANDBOX (cutbox-door.mjs). By AI agents, Wed Nov 11 2026. No macro, syntax, notation, axiom, sorry.
-/
import Derived.Test.YtnphindpbdjmpaaDoorRows
import GoSem.ClaimSeven
namespace Go.Proofs.YtnphindpbdjmpaaDoor
namespace Rows

/-- THE TIED CARD OF 'kissgatelaw15.AppliQuiet'. -/
def appliQuietCard : Claim7 := { stood := { row := appliQuietRow, standIns := [], harness := (true, "0a03289b18d98c344b1055165ee693f3a785c6935ffb827813bf959347a5eab3"), looks := false }, kinds := [], alts := [], laidByText := true, laidKinds := [.data], laidTests := true, laidLooks := .later }
def AppliQuietCardSaid : Prop := Claim7.holds Tryd.pinned (.plain (OpenSpec.ofChange appliQuietSpec)) appliQuietCard

/-- THE TIED CARD OF 'kissgatelaw15.AppliPairs'. -/
def appliPairsCard : Claim7 := { stood := { row := appliPairsRow, standIns := [], harness := (true, "0a03289b18d98c344b1055165ee693f3a785c6935ffb827813bf959347a5eab3"), looks := false }, kinds := [], alts := [], laidByText := true, laidKinds := [.data], laidTests := true, laidLooks := .later }
def AppliPairsCardSaid : Prop := Claim7.holds Tryd.pinned (.plain (OpenSpec.ofChange appliPairsSpec)) appliPairsCard

/-- THE TIED CARD OF 'kissgatelaw15.AppliSays'. -/
def appliSaysCard : Claim7 := { stood := { row := appliSaysRow, standIns := [], harness := (true, "0a03289b18d98c344b1055165ee693f3a785c6935ffb827813bf959347a5eab3"), looks := false }, kinds := [], alts := [], laidByText := true, laidKinds := [.data], laidTests := true, laidLooks := .later }
def AppliSaysCardSaid : Prop := Claim7.holds Tryd.pinned (.plain (OpenSpec.ofChange appliSaysSpec)) appliSaysCard

/-- THE TIED CARD OF 'kissgatelaw15.AppliDoes'. -/
def appliDoesCard : Claim7 := { stood := { row := appliDoesRow, standIns := [], harness := (true, "0a03289b18d98c344b1055165ee693f3a785c6935ffb827813bf959347a5eab3"), looks := false }, kinds := [], alts := [], laidByText := true, laidKinds := [.data], laidTests := true, laidLooks := .later }
def AppliDoesCardSaid : Prop := Claim7.holds Tryd.pinned (.plain (OpenSpec.ofChange appliDoesSpec)) appliDoesCard

/-- THE SECOND FORM's CARD OF 'kissgatelaw15.AppliQuiet'. -/
def appliQuietUptoCard : Claim7 := { stood := { row := appliQuietUptoRow, standIns := [], harness := (true, "0a03289b18d98c344b1055165ee693f3a785c6935ffb827813bf959347a5eab3"), looks := false }, kinds := [], alts := [], laidByText := true, laidKinds := [.data], laidTests := true, laidLooks := .later }
def AppliQuietUptoCardSaid : Prop := Claim7.holds Tryd.pinned (.plain (OpenSpec.upto appliQuietSpec)) appliQuietUptoCard

/-- THE SECOND FORM's CARD OF 'kissgatelaw15.AppliPairs'. -/
def appliPairsUptoCard : Claim7 := { stood := { row := appliPairsUptoRow, standIns := [], harness := (true, "0a03289b18d98c344b1055165ee693f3a785c6935ffb827813bf959347a5eab3"), looks := false }, kinds := [], alts := [], laidByText := true, laidKinds := [.data], laidTests := true, laidLooks := .later }
def AppliPairsUptoCardSaid : Prop := Claim7.holds Tryd.pinned (.plain (OpenSpec.upto appliPairsSpec)) appliPairsUptoCard

/-- THE SECOND FORM's CARD OF 'kissgatelaw15.AppliSays'. -/
def appliSaysUptoCard : Claim7 := { stood := { row := appliSaysUptoRow, standIns := [], harness := (true, "0a03289b18d98c344b1055165ee693f3a785c6935ffb827813bf959347a5eab3"), looks := false }, kinds := [], alts := [], laidByText := true, laidKinds := [.data], laidTests := true, laidLooks := .later }
def AppliSaysUptoCardSaid : Prop := Claim7.holds Tryd.pinned (.plain (OpenSpec.upto appliSaysSpec)) appliSaysUptoCard

/-- THE SECOND FORM's CARD OF 'kissgatelaw15.AppliDoes'. -/
def appliDoesUptoCard : Claim7 := { stood := { row := appliDoesUptoRow, standIns := [], harness := (true, "0a03289b18d98c344b1055165ee693f3a785c6935ffb827813bf959347a5eab3"), looks := false }, kinds := [], alts := [], laidByText := true, laidKinds := [.data], laidTests := true, laidLooks := .later }
def AppliDoesUptoCardSaid : Prop := Claim7.holds Tryd.pinned (.plain (OpenSpec.upto appliDoesSpec)) appliDoesUptoCard
end Rows
end Go.Proofs.YtnphindpbdjmpaaDoor
