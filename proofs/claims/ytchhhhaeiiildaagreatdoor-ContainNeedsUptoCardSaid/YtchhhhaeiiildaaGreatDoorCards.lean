/-
  DERIVED. GIVEN WITH THE SEED: THE CARDS: each row of YtchhhhaeiiildaaGreatDoorRows.lean that lists a variable, with what it lists TIED to the program's text (the seventh form; the later family's looks); each row that meets fmt, with fmt's text TOLD by the authors' own Lean function (tested against real Go, not proved from fmt's source: count such statements apart). THE CARD IS WHAT COUNTS. Prove the row's statement (the work); the ties are given (YtchhhhaeiiildaaGreatDoorTie.lean); close each card by the builder's one call (the guide's Derived/Test/ToyasCard.lean, 'card_holds'). Laid BY PROGRAM, IN A SANDBOX (cutbox-door.mjs). By AI agents, Wed Nov 11 2026. No macro, syntax, notation, axiom, sorry.
-/
import Derived.Test.YtchhhhaeiiildaaGreatDoorRows
import GoSem.ClaimSeven
namespace Go.Proofs.YtchhhhaeiiildaaGreatDoor
namespace Rows

/-- THE TIED CARD OF 'jalousielaw19.ContainNeeds'. -/
def containNeedsCard : Claim7 := { stood := { row := containNeedsRow, standIns := [], harness := (true, "3cc6d25c6dfd126fd12bd0a9ac8803046baef178309638077da7b42862fced44"), looks := true }, kinds := [], alts := [], laidByText := true, laidKinds := [.data, .data, .data, .pinned], laidTests := true, laidLooks := .later }
def ContainNeedsCardSaid : Prop := Claim7.holds Tryz.pinned (.plain (OpenSpec.ofChange containNeedsSpec)) containNeedsCard

/-- THE SECOND FORM's CARD OF 'jalousielaw19.ContainNeeds'. -/
def containNeedsUptoCard : Claim7 := { stood := { row := containNeedsUptoRow, standIns := [], harness := (true, "3cc6d25c6dfd126fd12bd0a9ac8803046baef178309638077da7b42862fced44"), looks := true }, kinds := [], alts := [], laidByText := true, laidKinds := [.data, .data, .data, .pinned], laidTests := true, laidLooks := .later }
def ContainNeedsUptoCardSaid : Prop := Claim7.holds Tryz.pinned (.plain (OpenSpec.upto containNeedsSpec)) containNeedsUptoCard
end Rows
end Go.Proofs.YtchhhhaeiiildaaGreatDoor
