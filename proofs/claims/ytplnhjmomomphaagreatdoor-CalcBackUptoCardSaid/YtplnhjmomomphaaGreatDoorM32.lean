/- Of my texts: PlainR. -/
import Derived.Test.YtplnhjmomomphaaGreatDoorM26
import Derived.Test.YtplnhjmomomphaaGreatDoorM31
import Derived.Shelf.Strconv.Itoa3
namespace Go.Proofs.YtplnhjmomomphaaGreatDoor
set_option linter.unusedVariables false
set_option linter.unusedSimpArgs false
open Go.RowKit Go.Lib
theorem refL_bound {d n num q : Nat} (h0 : d ≤ 9223372036854775807) (hn : n ≤ 9223372036854775807) (hd : 1 ≤ d) (h : refL n d 0 = some (num, q)) : num ≤ 9223372036854775807 ∧ q ≤ 62 :=
 ⟨(refL_le d n 0 num q hn h).1, refL_62 hd h0 h⟩
end Go.Proofs.YtplnhjmomomphaaGreatDoor
