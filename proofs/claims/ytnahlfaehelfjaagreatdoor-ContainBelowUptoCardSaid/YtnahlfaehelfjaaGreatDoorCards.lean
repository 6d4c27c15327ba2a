/-
  DERIVED. GIVEN WITH THE SEED: THE CARDS: each row of YtnahlfaehelfjaaGreatDoorRows.lean that lists a variable, with what it lists TIED to the program's text (the seventh form; the later family's looks); each row that meets fmt, with fmt's text TOLD by the authors' own Lean function (tested against real Go, not proved from fmt's source: count such statements apart). THE CARD IS WHAT COUNTS. Prove the row's statement (the work); the ties are given (YtnahlfaehelfjaaGreatDoorTie.lean); close each card by the builder's one call (the guide's Derived/Test/ToyasCard.lean, 'card_holds'). Laid BY PROGRAM, IN A SANDBOX (cutbox-door.mjs). By AI agents, Wed Nov 11 2026. No macro, syntax, notation, axiom, sorry.
-/
import Derived.Test.YtnahlfaehelfjaaGreatDoorRows
import GoSem.ClaimSeven
namespace Go.Proofs.YtnahlfaehelfjaaGreatDoor
namespace Rows

/-- THE TIED CARD OF 'jalousielaw19.ContainNearest'. -/
def containNearestCard : Claim7 := { stood := { row := containNearestRow, standIns := [], harness := (true, "5468bb30c743986b30c5dfede270a4355ea5211476327a46022d8efc2556463f"), looks := true }, kinds := [], alts := [], laidByText := true, laidKinds := [.data, .data, .data, .pinned], laidTests := true, laidLooks := .later }
def ContainNearestCardSaid : Prop := Claim7.holds Tryz.pinned (.plain (OpenSpec.ofChange containNearestSpec)) containNearestCard

/-- THE TIED CARD OF 'jalousielaw19.ContainBelow'. -/
def containBelowCard : Claim7 := { stood := { row := containBelowRow, standIns := [], harness := (true, "5468bb30c743986b30c5dfede270a4355ea5211476327a46022d8efc2556463f"), looks := true }, kinds := [], alts := [], laidByText := true, laidKinds := [.data, .data, .data, .pinned], laidTests := true, laidLooks := .later }
def ContainBelowCardSaid : Prop := Claim7.holds Tryz.pinned (.plain (OpenSpec.ofChange containBelowSpec)) containBelowCard

/-- THE SECOND FORM's CARD OF 'jalousielaw19.ContainNearest'. -/
def containNearestUptoCard : Claim7 := { stood := { row := containNearestUptoRow, standIns := [], harness := (true, "5468bb30c743986b30c5dfede270a4355ea5211476327a46022d8efc2556463f"), looks := true }, kinds := [], alts := [], laidByText := true, laidKinds := [.data, .data, .data, .pinned], laidTests := true, laidLooks := .later }
def ContainNearestUptoCardSaid : Prop := Claim7.holds Tryz.pinned (.plain (OpenSpec.upto containNearestSpec)) containNearestUptoCard

/-- THE SECOND FORM's CARD OF 'jalousielaw19.ContainBelow'. -/
def containBelowUptoCard : Claim7 := { stood := { row := containBelowUptoRow, standIns := [], harness := (true, "5468bb30c743986b30c5dfede270a4355ea5211476327a46022d8efc2556463f"), looks := true }, kinds := [], alts := [], laidByText := true, laidKinds := [.data, .data, .data, .pinned], laidTests := true, laidLooks := .later }
def ContainBelowUptoCardSaid : Prop := Claim7.holds Tryz.pinned (.plain (OpenSpec.upto containBelowSpec)) containBelowUptoCard
end Rows
end Go.Proofs.YtnahlfaehelfjaaGreatDoor
