/- The sum of some, in the reference. -/
import Derived.Test.YtgjhaanpkfheeaaDoorRMul
import Derived.Test.YtgjhaanpkfheeaaDoorAddR
namespace Go.Proofs.YtgjhaanpkfheeaaDoor
set_option linter.unusedVariables false
set_option linter.unusedSimpArgs false
open Go.RowKit

end Go.Proofs.YtgjhaanpkfheeaaDoor
