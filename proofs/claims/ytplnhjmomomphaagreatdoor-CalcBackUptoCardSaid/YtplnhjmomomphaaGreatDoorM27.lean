/- Of my texts: Shift. -/
import Derived.Test.YtplnhjmomomphaaGreatDoorM02
import Derived.Test.YtplnhjmomomphaaGreatDoorM03
import Derived.Shelf.Lays
import Derived.Shelf.Small.Bits
import Derived.Lib.ItoaNum
namespace Go.Proofs.YtplnhjmomomphaaGreatDoor
set_option linter.unusedVariables false
set_option linter.unusedSimpArgs false
open Go.RowKit
theorem cast_shr (x s : Nat) : (x : Int) / 2 ^ s = ((x / 2 ^ s : Nat) : Int) := by
 rw [Int.natCast_ediv, Int.natCast_pow]; rfl
end Go.Proofs.YtplnhjmomomphaaGreatDoor
