/-
  DERIVED. GIVEN WITH THE SEED: THE CARDS: each row of YtnanffmhbjdpaaaGreatDoorRows.lean that lists a variable, with what it lists TIED to the program's text (the seventh form; the later family's looks); each row that meets fmt, with fmt's text TOLD by the authors' own Lean function (tested against real Go, not proved from fmt's source: count such statements apart). THE CARD IS WHAT COUNTS. Prove the row's statement (the work); the ties are given (YtnanffmhbjdpaaaGreatDoorTie.lean); close each card by the builder's one call (the guide's Derived/Test/ToyasCard.lean, 'card_holds'). Laid BY PROGRAM, IN A SANDBOX (cutbox-door.mjs). By AI agents, Wed Nov 11 2026. No macro, syntax, notation, axiom, sorry.
-/
import Derived.Test.YtnanffmhbjdpaaaGreatDoorRows
import GoSem.ClaimSeven
namespace Go.Proofs.YtnanffmhbjdpaaaGreatDoor
namespace Rows

/-- THE TIED CARD OF 'jalousielaw17.MediaFeature'. -/
def mediaFeatureCard : Claim7 := { stood := { row := mediaFeatureRow, standIns := [], harness := (true, "40cbf53dcc7d4aeda43821847668739276d6dcbd2ac0972668b98ee64cc97142"), looks := true }, kinds := [], alts := [], laidByText := true, laidKinds := [.data], laidTests := true, laidLooks := .later }
def MediaFeatureCardSaid : Prop := Claim7.holds Tryz.pinned (.plain (OpenSpec.ofChange mediaFeatureSpec)) mediaFeatureCard

/-- THE TIED CARD OF 'jalousielaw17.MediaParses'. -/
def mediaParsesCard : Claim7 := { stood := { row := mediaParsesRow, standIns := [], harness := (true, "40cbf53dcc7d4aeda43821847668739276d6dcbd2ac0972668b98ee64cc97142"), looks := true }, kinds := [], alts := [], laidByText := true, laidKinds := [.data], laidTests := true, laidLooks := .later }
def MediaParsesCardSaid : Prop := Claim7.holds Tryz.pinned (.plain (OpenSpec.ofChange mediaParsesSpec)) mediaParsesCard

/-- THE TIED CARD OF 'jalousielaw17.MediaReads'. -/
def mediaReadsCard : Claim7 := { stood := { row := mediaReadsRow, standIns := [], harness := (true, "40cbf53dcc7d4aeda43821847668739276d6dcbd2ac0972668b98ee64cc97142"), looks := true }, kinds := [], alts := [], laidByText := true, laidKinds := [.data], laidTests := true, laidLooks := .later }
def MediaReadsCardSaid : Prop := Claim7.holds Tryz.pinned (.plain (OpenSpec.ofChange mediaReadsSpec)) mediaReadsCard

/-- THE SECOND FORM's CARD OF 'jalousielaw17.MediaFeature'. -/
def mediaFeatureUptoCard : Claim7 := { stood := { row := mediaFeatureUptoRow, standIns := [], harness := (true, "40cbf53dcc7d4aeda43821847668739276d6dcbd2ac0972668b98ee64cc97142"), looks := true }, kinds := [], alts := [], laidByText := true, laidKinds := [.data], laidTests := true, laidLooks := .later }
def MediaFeatureUptoCardSaid : Prop := Claim7.holds Tryz.pinned (.plain (OpenSpec.upto mediaFeatureSpec)) mediaFeatureUptoCard

/-- THE SECOND FORM's CARD OF 'jalousielaw17.MediaParses'. -/
def mediaParsesUptoCard : Claim7 := { stood := { row := mediaParsesUptoRow, standIns := [], harness := (true, "40cbf53dcc7d4aeda43821847668739276d6dcbd2ac0972668b98ee64cc97142"), looks := true }, kinds := [], alts := [], laidByText := true, laidKinds := [.data], laidTests := true, laidLooks := .later }
def MediaParsesUptoCardSaid : Prop := Claim7.holds Tryz.pinned (.plain (OpenSpec.upto mediaParsesSpec)) mediaParsesUptoCard

/-- THE SECOND FORM's CARD OF 'jalousielaw17.MediaReads'. -/
def mediaReadsUptoCard : Claim7 := { stood := { row := mediaReadsUptoRow, standIns := [], harness := (true, "40cbf53dcc7d4aeda43821847668739276d6dcbd2ac0972668b98ee64cc97142"), looks := true }, kinds := [], alts := [], laidByText := true, laidKinds := [.data], laidTests := true, laidLooks := .later }
def MediaReadsUptoCardSaid : Prop := Claim7.holds Tryz.pinned (.plain (OpenSpec.upto mediaReadsSpec)) mediaReadsUptoCard
end Rows
end Go.Proofs.YtnanffmhbjdpaaaGreatDoor
