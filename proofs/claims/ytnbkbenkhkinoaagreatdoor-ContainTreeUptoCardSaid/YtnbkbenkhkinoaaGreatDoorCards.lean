/-
  DERIVED. GIVEN WITH THE SEED: THE CARDS: each row of YtnbkbenkhkinoaaGreatDoorRows.lean that lists a variable, with what it lists TIED to the program's text (the seventh form; the later family's looks); each row that meets fmt, with fmt's text TOLD by the authors' own Lean function (tested against real Go, not proved from fmt's source: count such statements apart). THE CARD IS WHAT COUNTS. Prove the row's statement (the work); the ties are given (YtnbkbenkhkinoaaGreatDoorTie.lean); close each card by the builder's one call (the guide's Derived/Test/ToyasCard.lean, 'card_holds'). Laid BY PROGRAM, IN A SANDBOX (cutbox-door.mjs). By AI agents, Wed Nov 11 2026. No macro, syntax, notation, axiom, sorry.
-/
import Derived.Test.YtnbkbenkhkinoaaGreatDoorRows
import GoSem.ClaimSeven
namespace Go.Proofs.YtnbkbenkhkinoaaGreatDoor
namespace Rows

/-- THE TIED CARD OF 'jalousielaw19.ContainFinds'. -/
def containFindsCard : Claim7 := { stood := { row := containFindsRow, standIns := [], harness := (true, "6319795e63abdbe9a1b33bac6fe9aec8e02932cd37967e6b53dd7570331b5126"), looks := true }, kinds := [], alts := [], laidByText := true, laidKinds := [.data, .data, .data, .pinned], laidTests := true, laidLooks := .later }
def ContainFindsCardSaid : Prop := Claim7.holds Tryz.pinned (.plain (OpenSpec.ofChange containFindsSpec)) containFindsCard

/-- THE TIED CARD OF 'jalousielaw19.ContainTree'. -/
def containTreeCard : Claim7 := { stood := { row := containTreeRow, standIns := [], harness := (true, "6319795e63abdbe9a1b33bac6fe9aec8e02932cd37967e6b53dd7570331b5126"), looks := true }, kinds := [], alts := [], laidByText := true, laidKinds := [.data, .data, .data, .pinned], laidTests := true, laidLooks := .later }
def ContainTreeCardSaid : Prop := Claim7.holds Tryz.pinned (.plain (OpenSpec.ofChange containTreeSpec)) containTreeCard

/-- THE SECOND FORM's CARD OF 'jalousielaw19.ContainFinds'. -/
def containFindsUptoCard : Claim7 := { stood := { row := containFindsUptoRow, standIns := [], harness := (true, "6319795e63abdbe9a1b33bac6fe9aec8e02932cd37967e6b53dd7570331b5126"), looks := true }, kinds := [], alts := [], laidByText := true, laidKinds := [.data, .data, .data, .pinned], laidTests := true, laidLooks := .later }
def ContainFindsUptoCardSaid : Prop := Claim7.holds Tryz.pinned (.plain (OpenSpec.upto containFindsSpec)) containFindsUptoCard

/-- THE SECOND FORM's CARD OF 'jalousielaw19.ContainTree'. -/
def containTreeUptoCard : Claim7 := { stood := { row := containTreeUptoRow, standIns := [], harness := (true, "6319795e63abdbe9a1b33bac6fe9aec8e02932cd37967e6b53dd7570331b5126"), looks := true }, kinds := [], alts := [], laidByText := true, laidKinds := [.data, .data, .data, .pinned], laidTests := true, laidLooks := .later }
def ContainTreeUptoCardSaid : Prop := Claim7.holds Tryz.pinned (.plain (OpenSpec.upto containTreeSpec)) containTreeUptoCard
end Rows
end Go.Proofs.YtnbkbenkhkinoaaGreatDoor
