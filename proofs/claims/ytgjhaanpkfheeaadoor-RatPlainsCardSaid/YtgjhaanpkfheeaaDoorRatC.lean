/- The fraction of two numbers; which fractions may be. -/
import Derived.Test.YtgjhaanpkfheeaaDoorRatB
namespace Go.Proofs.YtgjhaanpkfheeaaDoor
set_option linter.unusedVariables false
set_option linter.unusedSimpArgs false
open Go.RowKit

/-- the sign of a quotient -/
def neg2 (a b : Int) : Bool := decide (a < 0) != decide (b < 0)
/-- the fraction of two numbers -/
def ofF (n d : Int) : Rt := fracOf (neg2 n d) n.natAbs d.natAbs

end Go.Proofs.YtgjhaanpkfheeaaDoor
