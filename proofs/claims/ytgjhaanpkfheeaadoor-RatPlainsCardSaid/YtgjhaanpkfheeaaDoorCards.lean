/-
  DERIVED. GIVEN WITH THE SEED: THE CARDS: each row of YtgjhaanpkfheeaaDoorRows.lean that lists a variable, with what it lists TIED to the program's text (the seventh form; the later family's looks); each row that meets fmt, with fmt's text TOLD by the authors' own Lean function (tested against real Go, not proved from fmt's source: count such statements apart). THE CARD IS WHAT COUNTS. Prove the row's statement (the work); the ties are given (YtgjhaanpkfheeaaDoorTie.lean); close each card by the builder's one call (the guide's Derived/Test/ToyasCard.lean, 'card_holds'). Laid BY PROGRAM, IN A SANDBOX (cutbox-door.mjs). By AI agents, Wed Nov 11 2026. No macro, syntax, notation, axiom, sorry.
-/
import Derived.Test.YtgjhaanpkfheeaaDoorRows
import GoSem.ClaimSeven
namespace Go.Proofs.YtgjhaanpkfheeaaDoor
namespace Rows

/-- THE TIED CARD OF 'jalousielaw1.RatField'. -/
def ratFieldCard : Claim7 := { stood := { row := ratFieldRow, standIns := [], harness := (true, "4353c48328ab43452b16f8596149b0f23b06b6ae117c8a885c18fcd76111345f"), looks := false }, kinds := [], alts := [], laidByText := true, laidKinds := [.data], laidTests := true, laidLooks := .later }
def RatFieldCardSaid : Prop := Claim7.holds Tryd.pinned (.plain (OpenSpec.ofChange ratFieldSpec)) ratFieldCard

/-- THE TIED CARD OF 'jalousielaw1.RatTexts'. -/
def ratTextsCard : Claim7 := { stood := { row := ratTextsRow, standIns := [], harness := (true, "4353c48328ab43452b16f8596149b0f23b06b6ae117c8a885c18fcd76111345f"), looks := false }, kinds := [], alts := [], laidByText := true, laidKinds := [.data, .data, .data], laidTests := true, laidLooks := .later }
def RatTextsCardSaid : Prop := Claim7.holds Tryd.pinned (.plain (OpenSpec.ofChange ratTextsSpec)) ratTextsCard

/-- THE TIED CARD OF 'jalousielaw1.RatDecimals'. -/
def ratDecimalsCard : Claim7 := { stood := { row := ratDecimalsRow, standIns := [], harness := (true, "4353c48328ab43452b16f8596149b0f23b06b6ae117c8a885c18fcd76111345f"), looks := false }, kinds := [], alts := [], laidByText := true, laidKinds := [.data, .pinned], laidTests := true, laidLooks := .later }
def RatDecimalsCardSaid : Prop := Claim7.holds Tryd.pinned (.plain (OpenSpec.ofChange ratDecimalsSpec)) ratDecimalsCard

/-- THE TIED CARD OF 'jalousielaw1.RatPlains'. -/
def ratPlainsCard : Claim7 := { stood := { row := ratPlainsRow, standIns := [], harness := (true, "4353c48328ab43452b16f8596149b0f23b06b6ae117c8a885c18fcd76111345f"), looks := false }, kinds := [], alts := [], laidByText := true, laidKinds := [.data, .data, .data, .data, .pinned], laidTests := true, laidLooks := .later }
def RatPlainsCardSaid : Prop := Claim7.holds Tryd.pinned (.plain (OpenSpec.ofChange ratPlainsSpec)) ratPlainsCard

/-- THE SECOND FORM's CARD OF 'jalousielaw1.RatField'. -/
def ratFieldUptoCard : Claim7 := { stood := { row := ratFieldUptoRow, standIns := [], harness := (true, "4353c48328ab43452b16f8596149b0f23b06b6ae117c8a885c18fcd76111345f"), looks := false }, kinds := [], alts := [], laidByText := true, laidKinds := [.data], laidTests := true, laidLooks := .later }
def RatFieldUptoCardSaid : Prop := Claim7.holds Tryd.pinned (.plain (OpenSpec.upto ratFieldSpec)) ratFieldUptoCard

/-- THE SECOND FORM's CARD OF 'jalousielaw1.RatTexts'. -/
def ratTextsUptoCard : Claim7 := { stood := { row := ratTextsUptoRow, standIns := [], harness := (true, "4353c48328ab43452b16f8596149b0f23b06b6ae117c8a885c18fcd76111345f"), looks := false }, kinds := [], alts := [], laidByText := true, laidKinds := [.data, .data, .data], laidTests := true, laidLooks := .later }
def RatTextsUptoCardSaid : Prop := Claim7.holds Tryd.pinned (.plain (OpenSpec.upto ratTextsSpec)) ratTextsUptoCard

/-- THE SECOND FORM's CARD OF 'jalousielaw1.RatDecimals'. -/
def ratDecimalsUptoCard : Claim7 := { stood := { row := ratDecimalsUptoRow, standIns := [], harness := (true, "4353c48328ab43452b16f8596149b0f23b06b6ae117c8a885c18fcd76111345f"), looks := false }, kinds := [], alts := [], laidByText := true, laidKinds := [.data, .pinned], laidTests := true, laidLooks := .later }
def RatDecimalsUptoCardSaid : Prop := Claim7.holds Tryd.pinned (.plain (OpenSpec.upto ratDecimalsSpec)) ratDecimalsUptoCard

/-- THE SECOND FORM's CARD OF 'jalousielaw1.RatPlains'. -/
def ratPlainsUptoCard : Claim7 := { stood := { row := ratPlainsUptoRow, standIns := [], harness := (true, "4353c48328ab43452b16f8596149b0f23b06b6ae117c8a885c18fcd76111345f"), looks := false }, kinds := [], alts := [], laidByText := true, laidKinds := [.data, .data, .data, .data, .pinned], laidTests := true, laidLooks := .later }
def RatPlainsUptoCardSaid : Prop := Claim7.holds Tryd.pinned (.plain (OpenSpec.upto ratPlainsSpec)) ratPlainsUptoCard
end Rows
end Go.Proofs.YtgjhaanpkfheeaaDoor
