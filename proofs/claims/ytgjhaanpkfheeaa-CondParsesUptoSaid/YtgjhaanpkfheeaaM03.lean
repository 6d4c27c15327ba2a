/- Of my texts: RatA, RatB, WideA. -/
import Derived.Test.YtgjhaanpkfheeaaM01
import Derived.Test.YtgjhaanpkfheeaaM02
import Derived.Test.YtgjhaanpkfheeaaProg
namespace Go.Proofs.Ytgjhaanpkfheeaa
set_option linter.unusedVariables false
set_option linter.unusedSimpArgs false
open Go.RowKit

theorem ret_int {k : IntKind} {a b : Int} (h : a = b) : Ending.returned (.int k a) = .returned (.int k b) := by rw [h]

theorem ret_bool {a b : Bool} (h : a = b) : Ending.returned (.bool a) = .returned (.bool b) := by rw [h]

end Go.Proofs.Ytgjhaanpkfheeaa

namespace Go.Proofs.Ytgjhaanpkfheeaa
set_option linter.unusedVariables false
set_option linter.unusedSimpArgs false
open Go.RowKit



/-- whether it may be and is not over -/
def sureB (r : Rt) : Bool := decide (1 ≤ r.2) && (r.1 != -9223372036854775808) && (Nat.gcd r.1.natAbs r.2.toNat == 1)

end Go.Proofs.Ytgjhaanpkfheeaa

namespace Go.Proofs.Ytgjhaanpkfheeaa
set_option linter.unusedVariables false
set_option linter.unusedSimpArgs false
open Go.RowKit

/-- a number of 128 bits as a value -/
abbrev wv (hi lo : Nat) : Value := .agg #[.int .u64 hi, .int .u64 lo]

/-- the two words of a number as one -/
def wn (hi lo : Nat) : Nat := hi * 18446744073709551616 + lo

end Go.Proofs.Ytgjhaanpkfheeaa
