/- Numbers of 128 bits, as the reference has them. -/
import Derived.Test.YtgjhaanpkfheeaaDoorRatA
namespace Go.Proofs.YtgjhaanpkfheeaaDoor
set_option linter.unusedVariables false
set_option linter.unusedSimpArgs false
open Go.RowKit

/-- a number of 128 bits as a value -/
abbrev wv (hi lo : Nat) : Value := .agg #[.int .u64 hi, .int .u64 lo]

theorem or_half (hi lo : Nat) (h2 : lo < 18446744073709551616) :
    bits BinOp.or IntKind.u64 ((lo : Int) / 2) (IntKind.u64.wrap ((hi : Int) * 9223372036854775808)) = ((lo / 2 + hi % 2 * 9223372036854775808 : Nat) : Int) := by
  have e1 : IntKind.u64.wrap ((hi : Int) * 9223372036854775808) = ((hi % 2 * 9223372036854775808 : Nat) : Int) := by rw [IntKind.wrap_u64]; omega
  have e2 : (lo : Int) / 2 = ((lo / 2 : Nat) : Int) := by omega
  rw [e1, e2, u64_or_nat _ _ (by omega) (by omega), Nat.or_comm, nat_join 63 _ _ (by omega) (by omega)]
  omega

theorem or_twice (hi lo : Nat) (h2 : lo < 18446744073709551616) :
    bits BinOp.or IntKind.u64 (IntKind.u64.wrap ((hi : Int) * 2)) ((lo : Int) / 9223372036854775808) = ((hi * 2 % 18446744073709551616 + lo / 9223372036854775808 : Nat) : Int) := by
  have e1 : IntKind.u64.wrap ((hi : Int) * 2) = ((hi * 2 % 18446744073709551616 : Nat) : Int) := by rw [IntKind.wrap_u64]; omega
  have e2 : (lo : Int) / 9223372036854775808 = ((lo / 9223372036854775808 : Nat) : Int) := by omega
  rw [e1, e2, u64_or_nat _ _ (by omega) (by omega), nat_join 1 _ _ (by omega) (by omega)]

/-- the two words of a number as one -/
def wn (hi lo : Nat) : Nat := hi * 18446744073709551616 + lo

end Go.Proofs.YtgjhaanpkfheeaaDoor
