/-
  DERIVED. GIVEN WITH THE SEED: THE CARDS: each row of YtplnhjmomomphaaDoorRows.lean that lists a variable, with what it lists TIED to the program's text (the seventh form; the later family's looks); each row that meets fmt, with fmt's text TOLD by the authors' own Lean function (tested against real Go, not proved from fmt's source: count such statements apart). THE CARD IS WHAT COUNTS. Prove the row's statement (the work); the ties are given (YtplnhjmomomphaaDoorTie.lean); close each card by the builder's one call (the guide's Derived/Test/ToyasCard.lean, 'card_holds'). Laid BY PROGRAM, IN A SANDBOX (cutbox-door.mjs). By AI agents, Wed Nov 11 2026. No macro, syntax, notation, axiom, sorry.
-/
import Derived.Test.YtplnhjmomomphaaDoorRows
import GoSem.ClaimSeven
namespace Go.Proofs.YtplnhjmomomphaaDoor
namespace Rows

/-- THE TIED CARD OF 'jalousielaw11.CalcParses'. -/
def calcParsesCard : Claim7 := { stood := { row := calcParsesRow, standIns := [], harness := (true, "75b93c60ffb4f519c6f8b7c159190b62ed4b85b16a24a4b8cb347ab1928298ac"), looks := false }, kinds := [], alts := [], laidByText := true, laidKinds := [.data], laidTests := true, laidLooks := .later }
def CalcParsesCardSaid : Prop := Claim7.holds Tryd.pinned (.plain (OpenSpec.ofChange calcParsesSpec)) calcParsesCard

/-- THE TIED CARD OF 'jalousielaw11.CalcReads'. -/
def calcReadsCard : Claim7 := { stood := { row := calcReadsRow, standIns := [], harness := (true, "75b93c60ffb4f519c6f8b7c159190b62ed4b85b16a24a4b8cb347ab1928298ac"), looks := false }, kinds := [], alts := [], laidByText := true, laidKinds := [.data], laidTests := true, laidLooks := .later }
def CalcReadsCardSaid : Prop := Claim7.holds Tryd.pinned (.plain (OpenSpec.ofChange calcReadsSpec)) calcReadsCard

/-- THE TIED CARD OF 'jalousielaw11.CalcMay'. -/
def calcMayCard : Claim7 := { stood := { row := calcMayRow, standIns := [], harness := (true, "75b93c60ffb4f519c6f8b7c159190b62ed4b85b16a24a4b8cb347ab1928298ac"), looks := false }, kinds := [], alts := [], laidByText := true, laidKinds := [.data], laidTests := true, laidLooks := .later }
def CalcMayCardSaid : Prop := Claim7.holds Tryd.pinned (.plain (OpenSpec.ofChange calcMaySpec)) calcMayCard

/-- THE TIED CARD OF 'jalousielaw11.CalcKinds'. -/
def calcKindsCard : Claim7 := { stood := { row := calcKindsRow, standIns := [], harness := (true, "75b93c60ffb4f519c6f8b7c159190b62ed4b85b16a24a4b8cb347ab1928298ac"), looks := false }, kinds := [], alts := [], laidByText := true, laidKinds := [.data], laidTests := true, laidLooks := .later }
def CalcKindsCardSaid : Prop := Claim7.holds Tryd.pinned (.plain (OpenSpec.ofChange calcKindsSpec)) calcKindsCard

/-- THE TIED CARD OF 'jalousielaw11.CalcTurned'. -/
def calcTurnedCard : Claim7 := { stood := { row := calcTurnedRow, standIns := [], harness := (true, "75b93c60ffb4f519c6f8b7c159190b62ed4b85b16a24a4b8cb347ab1928298ac"), looks := false }, kinds := [], alts := [], laidByText := true, laidKinds := [.data], laidTests := true, laidLooks := .later }
def CalcTurnedCardSaid : Prop := Claim7.holds Tryd.pinned (.plain (OpenSpec.ofChange calcTurnedSpec)) calcTurnedCard

/-- THE TIED CARD OF 'jalousielaw11.CalcParts'. -/
def calcPartsCard : Claim7 := { stood := { row := calcPartsRow, standIns := [], harness := (true, "75b93c60ffb4f519c6f8b7c159190b62ed4b85b16a24a4b8cb347ab1928298ac"), looks := false }, kinds := [], alts := [], laidByText := true, laidKinds := [.data], laidTests := true, laidLooks := .later }
def CalcPartsCardSaid : Prop := Claim7.holds Tryd.pinned (.plain (OpenSpec.ofChange calcPartsSpec)) calcPartsCard

/-- THE SECOND FORM's CARD OF 'jalousielaw11.CalcParses'. -/
def calcParsesUptoCard : Claim7 := { stood := { row := calcParsesUptoRow, standIns := [], harness := (true, "75b93c60ffb4f519c6f8b7c159190b62ed4b85b16a24a4b8cb347ab1928298ac"), looks := false }, kinds := [], alts := [], laidByText := true, laidKinds := [.data], laidTests := true, laidLooks := .later }
def CalcParsesUptoCardSaid : Prop := Claim7.holds Tryd.pinned (.plain (OpenSpec.upto calcParsesSpec)) calcParsesUptoCard

/-- THE SECOND FORM's CARD OF 'jalousielaw11.CalcReads'. -/
def calcReadsUptoCard : Claim7 := { stood := { row := calcReadsUptoRow, standIns := [], harness := (true, "75b93c60ffb4f519c6f8b7c159190b62ed4b85b16a24a4b8cb347ab1928298ac"), looks := false }, kinds := [], alts := [], laidByText := true, laidKinds := [.data], laidTests := true, laidLooks := .later }
def CalcReadsUptoCardSaid : Prop := Claim7.holds Tryd.pinned (.plain (OpenSpec.upto calcReadsSpec)) calcReadsUptoCard

/-- THE SECOND FORM's CARD OF 'jalousielaw11.CalcMay'. -/
def calcMayUptoCard : Claim7 := { stood := { row := calcMayUptoRow, standIns := [], harness := (true, "75b93c60ffb4f519c6f8b7c159190b62ed4b85b16a24a4b8cb347ab1928298ac"), looks := false }, kinds := [], alts := [], laidByText := true, laidKinds := [.data], laidTests := true, laidLooks := .later }
def CalcMayUptoCardSaid : Prop := Claim7.holds Tryd.pinned (.plain (OpenSpec.upto calcMaySpec)) calcMayUptoCard

/-- THE SECOND FORM's CARD OF 'jalousielaw11.CalcKinds'. -/
def calcKindsUptoCard : Claim7 := { stood := { row := calcKindsUptoRow, standIns := [], harness := (true, "75b93c60ffb4f519c6f8b7c159190b62ed4b85b16a24a4b8cb347ab1928298ac"), looks := false }, kinds := [], alts := [], laidByText := true, laidKinds := [.data], laidTests := true, laidLooks := .later }
def CalcKindsUptoCardSaid : Prop := Claim7.holds Tryd.pinned (.plain (OpenSpec.upto calcKindsSpec)) calcKindsUptoCard

/-- THE SECOND FORM's CARD OF 'jalousielaw11.CalcTurned'. -/
def calcTurnedUptoCard : Claim7 := { stood := { row := calcTurnedUptoRow, standIns := [], harness := (true, "75b93c60ffb4f519c6f8b7c159190b62ed4b85b16a24a4b8cb347ab1928298ac"), looks := false }, kinds := [], alts := [], laidByText := true, laidKinds := [.data], laidTests := true, laidLooks := .later }
def CalcTurnedUptoCardSaid : Prop := Claim7.holds Tryd.pinned (.plain (OpenSpec.upto calcTurnedSpec)) calcTurnedUptoCard

/-- THE SECOND FORM's CARD OF 'jalousielaw11.CalcParts'. -/
def calcPartsUptoCard : Claim7 := { stood := { row := calcPartsUptoRow, standIns := [], harness := (true, "75b93c60ffb4f519c6f8b7c159190b62ed4b85b16a24a4b8cb347ab1928298ac"), looks := false }, kinds := [], alts := [], laidByText := true, laidKinds := [.data], laidTests := true, laidLooks := .later }
def CalcPartsUptoCardSaid : Prop := Claim7.holds Tryd.pinned (.plain (OpenSpec.upto calcPartsSpec)) calcPartsUptoCard
end Rows
end Go.Proofs.YtplnhjmomomphaaDoor
