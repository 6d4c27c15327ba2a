/- Comparisons as truths, in the program and in the reference. -/
import Derived.Test.YtgjhaanpkfheeaaDoorRatF
namespace Go.Proofs.YtgjhaanpkfheeaaDoor
set_option linter.unusedVariables false
set_option linter.unusedSimpArgs false
open Go.RowKit

/-- the truth of a comparison by how two stand -/
def cmpT (op x : Int) (ok : Bool) : Int :=
  if !ok || decide (op < 1) || decide (5 < op) then 1
  else if (op == 1 && decide (x < 0)) || (op == 2 && decide (x ≤ 0)) || (op == 3 && x == 0) || (op == 4 && decide (0 ≤ x)) || (op == 5 && decide (0 < x)) then 2 else 0

theorem cmpR_three (a b : Rt) : cmpR a b = -1 ∨ cmpR a b = 0 ∨ cmpR a b = 1 := by
  unfold cmpR cmpI
  split
  · split
    · exact Or.inl rfl
    · split
      · exact Or.inr (Or.inr rfl)
      · exact Or.inr (Or.inl rfl)
  · exact Or.inr (Or.inl rfl)

theorem five (op : Int) : op = 1 ∨ op = 2 ∨ op = 3 ∨ op = 4 ∨ op = 5 ∨ op < 1 ∨ 5 < op := by omega

end Go.Proofs.YtgjhaanpkfheeaaDoor
