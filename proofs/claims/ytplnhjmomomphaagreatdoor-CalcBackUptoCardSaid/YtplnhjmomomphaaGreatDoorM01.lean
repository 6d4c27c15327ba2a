/- Of my texts: RatMath. -/

namespace Go.Proofs.YtplnhjmomomphaaGreatDoor
set_option linter.unusedVariables false
set_option linter.unusedSimpArgs false
theorem gcd_less (a b : Nat) (h : a ≤ b) : Nat.gcd a (b - a) = Nat.gcd a b := by
 rw [Nat.gcd_sub_self_right h]
abbrev Rt := Int × Int
/-- both numbers are int64 -/
def Is64 (r : Rt) : Prop := -9223372036854775808 ≤ r.1 ∧ r.1 ≤ 9223372036854775807 ∧ -9223372036854775808 ≤ r.2 ∧ r.2 ≤ 9223372036854775807
/-- which of two is less: -1, 0, 1 -/
def cmpI (a b : Rt) : Int := if a.1 * b.2 < b.1 * a.2 then -1 else if b.1 * a.2 < a.1 * b.2 then 1 else 0
end Go.Proofs.YtplnhjmomomphaaGreatDoor
