/- The product of some, in the program. -/
import Derived.Test.YtgjhaanpkfheeaaDoorFoldT
namespace Go.Proofs.YtgjhaanpkfheeaaDoor
set_option linter.unusedVariables false
set_option linter.unusedSimpArgs false
open Go.RowKit

theorem joins_times : Joins 26 mulF := ⟨is64_mulF, times_any⟩

theorem rats_nil (w : World) : Rats w none 0 0 0 0 [] := ⟨rfl, Nat.le_refl _, Nat.zero_le _, fun h => absurd h (by decide), fun h => absurd h (by decide), fun _ _ h => by simp at h, fun _ _ h => by simp at h, fun _ _ h => by simp at h⟩

set_option maxHeartbeats 1000000 in
theorem mul_any {oa : Option Addr} {len cap b o : Nat} {l : List Rt} (w : World) (h : Rats w oa len cap b o l) :
    Calls Tryd.prog 10 #[.slice oa len cap] w fun e w' => e = .returned (rv (foldR mulF (1, 1) l)) ∧ Below w.heap.size w w' := by
  have hc := folded_times mulF joins_times (1, 1) oa len cap b o l (w.alloc (.cells #[.int .i64 0, .int .i64 0] 23)) (h.below (below_box _ _))
  obtain ⟨⟨p, q⟩, hr⟩ : ∃ r, foldR mulF (1, 1) l = r := ⟨_, rfl⟩
  rw [hr] at hc ⊢
  have HC := Lib.hid hc
  clear hc h hr
  go_enter Tryd.func10, Tryd.ntmps10
  go_wp2_with fail
  ((with_reducible refine (HC.out).mono ?_); rintro e w' ⟨rfl, hbw⟩)
  obtain ⟨m, rfl⟩ := grow_mk hbw
  clear hbw
  go_wp2_with fail
  exact bodyPost_ret (v := .agg #[.int .i64 p, .int .i64 q]) (by simp [results, Tryd.results10, go_sem]) rfl ⟨rfl, (((below_grow (below_box _ _) m).setCell (Nat.le_refl _) _).setCell (Nat.le_refl _) _)⟩

end Go.Proofs.YtgjhaanpkfheeaaDoor
