/-
  DERIVED. GIVEN WITH THE SEED: THE CARDS: each row of YtplnhjmomomphaaGreatDoorRows.lean that lists a variable, with what it lists TIED to the program's text (the seventh form; the later family's looks); each row that meets fmt, with fmt's text TOLD by the authors' own Lean function (tested against real Go, not proved from fmt's source: count such statements apart). THE CARD IS WHAT COUNTS. Prove the row's statement (the work); the ties are given (YtplnhjmomomphaaGreatDoorTie.lean); close each card by the builder's one call (the guide's Derived/Test/ToyasCard.lean, 'card_holds'). Laid BY PROGRAM, IN A SANDBOX (cutbox-door.mjs). By AI agents, Wed Nov 11 2026. No macro, syntax, notation, axiom, sorry.
-/
import Derived.Test.YtplnhjmomomphaaGreatDoorRows
import GoSem.ClaimSeven
namespace Go.Proofs.YtplnhjmomomphaaGreatDoor
namespace Rows

/-- THE TIED CARD OF 'jalousielaw11.CalcBack'. -/
def calcBackCard : Claim7 := { stood := { row := calcBackRow, standIns := [], harness := (true, "467b76ec7b1546c74b7e262f3c044527999462393acc16251ad0c8f54b9269ca"), looks := false }, kinds := [], alts := [], laidByText := true, laidKinds := [.data, .data, .data, .pinned], laidTests := true, laidLooks := .later }
def CalcBackCardSaid : Prop := Claim7.holds Tryz.pinned (.plain (OpenSpec.ofChange calcBackSpec)) calcBackCard

/-- THE TIED CARD OF 'jalousielaw11.CalcTexts'. -/
def calcTextsCard : Claim7 := { stood := { row := calcTextsRow, standIns := [], harness := (true, "467b76ec7b1546c74b7e262f3c044527999462393acc16251ad0c8f54b9269ca"), looks := false }, kinds := [], alts := [], laidByText := true, laidKinds := [.data, .data, .data, .data, .data, .pinned], laidTests := true, laidLooks := .later }
def CalcTextsCardSaid : Prop := Claim7.holds Tryz.pinned (.plain (OpenSpec.ofChange calcTextsSpec)) calcTextsCard

/-- THE SECOND FORM's CARD OF 'jalousielaw11.CalcBack'. -/
def calcBackUptoCard : Claim7 := { stood := { row := calcBackUptoRow, standIns := [], harness := (true, "467b76ec7b1546c74b7e262f3c044527999462393acc16251ad0c8f54b9269ca"), looks := false }, kinds := [], alts := [], laidByText := true, laidKinds := [.data, .data, .data, .pinned], laidTests := true, laidLooks := .later }
def CalcBackUptoCardSaid : Prop := Claim7.holds Tryz.pinned (.plain (OpenSpec.upto calcBackSpec)) calcBackUptoCard

/-- THE SECOND FORM's CARD OF 'jalousielaw11.CalcTexts'. -/
def calcTextsUptoCard : Claim7 := { stood := { row := calcTextsUptoRow, standIns := [], harness := (true, "467b76ec7b1546c74b7e262f3c044527999462393acc16251ad0c8f54b9269ca"), looks := false }, kinds := [], alts := [], laidByText := true, laidKinds := [.data, .data, .data, .data, .data, .pinned], laidTests := true, laidLooks := .later }
def CalcTextsUptoCardSaid : Prop := Claim7.holds Tryz.pinned (.plain (OpenSpec.upto calcTextsSpec)) calcTextsUptoCard
end Rows
end Go.Proofs.YtplnhjmomomphaaGreatDoor
