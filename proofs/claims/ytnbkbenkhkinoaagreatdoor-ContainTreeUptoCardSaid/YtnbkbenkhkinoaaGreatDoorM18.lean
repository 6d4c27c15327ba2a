/- Of my texts: LiftD. -/
import Derived.Test.YtnbkbenkhkinoaaGreatDoorM06
import Derived.Test.YtnbkbenkhkinoaaGreatDoorM16
import Derived.ChangeSlices
namespace Go.Proofs.YtnbkbenkhkinoaaGreatDoor
set_option linter.unusedVariables false
set_option linter.unusedSimpArgs false
open Go.ChangeShapes Go.WideShapes Go.ChangeAt Go.RowKit
theorem int_of_wf {n:Int} (h1:(Lit.int .i64 n).wf=true):-9223372036854775808≤n∧n≤9223372036854775807:=by
 simp[Lit.wf,IntKind.min,IntKind.max,IntKind.signed,IntKind.bits]at h1;exact⟨by omega,by omega⟩
end Go.Proofs.YtnbkbenkhkinoaaGreatDoor
