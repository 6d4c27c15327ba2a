/- Of my texts: LiftE. -/
import Derived.Test.YtgjhaanpkfheeaaM14
import Derived.Test.YtgjhaanpkfheeaaM38
import Derived.Deep.Strs
import Derived.SizedLaws
namespace Go.Proofs.Ytgjhaanpkfheeaa
set_option linter.unusedVariables false
set_option linter.unusedSimpArgs false
open Go.ChangeShapes Go.WideShapes Go.ChangeAt Go.RowKit Go.Deep

section
variable {H : Type} {enc : TypeId × Value → H} {w : World} {base : Nat} {spare : Nat → Bool} {held : Bool}

end

theorem reach_le {n : Nat} (h : n ≤ reachBytes) : n ≤ 140737488355328 := Nat.le_trans h (by decide)
theorem reach_of {H : Type} {P : Program} {ts : List TypeId} {ds : List (DataW H)} (h : (DataW.weightsEach P ts ds).all (· ≤ reachBytes) = true) {j : Nat} {t : TypeId} {d : DataW H} (ht : ts[j]? = some t) (hd : ds[j]? = some d) : ∀ n ∈ d.weights P t, n ≤ 140737488355328 := fun n hn =>
  reach_le (by simpa using List.all_eq_true.1 h n (DataW.weights_mem_each ht hd n hn))

end Go.Proofs.Ytgjhaanpkfheeaa
