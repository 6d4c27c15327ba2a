/- Of my texts: LiftB. -/
import Derived.Test.YtnbkbenkhkinoaaGreatDoorM03
import Derived.Test.YtnbkbenkhkinoaaGreatDoorM06
namespace Go.Proofs.YtnbkbenkhkinoaaGreatDoor
set_option linter.unusedVariables false
set_option linter.unusedSimpArgs false
open Go.ChangeShapes Go.WideShapes Go.ChangeAt Go.RowKit
theorem is64_of_wf {n d:Int} (h1:(Lit.int .i64 n).wf=true) (h2:(Lit.int .i64 d).wf=true):Is64 (n,d):=by
 simp[Lit.wf,IntKind.min,IntKind.max,IntKind.signed,IntKind.bits]at h1 h2;exact⟨by omega,by omega,by omega,by omega⟩
end Go.Proofs.YtnbkbenkhkinoaaGreatDoor
