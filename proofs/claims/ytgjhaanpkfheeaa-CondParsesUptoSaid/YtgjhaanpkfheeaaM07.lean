/- Of my texts: Fold. -/
import Derived.Test.YtgjhaanpkfheeaaM03
import Derived.Test.YtgjhaanpkfheeaaM04
import Derived.Test.YtgjhaanpkfheeaaM06
namespace Go.Proofs.Ytgjhaanpkfheeaa
set_option linter.unusedVariables false
set_option linter.unusedSimpArgs false
open Go.RowKit

/-- two by two, the first being told -/
def opG (op : Rt → Rt → Rt) : Rt → List Rt → Rt
  | out, [] => out
  | out, r :: l => if sureB out && sureB r then opG op (op out r) l else (0, 0)
end Go.Proofs.Ytgjhaanpkfheeaa
