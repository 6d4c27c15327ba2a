/- The sum of some, in the program; that every program knows one. -/
import Derived.Test.YtgjhaanpkfheeaaDoorFoldP
import Derived.Test.YtgjhaanpkfheeaaDoorRatsC
import Derived.Test.YtgjhaanpkfheeaaDoorMulP
namespace Go.Proofs.YtgjhaanpkfheeaaDoor
set_option linter.unusedVariables false
set_option linter.unusedSimpArgs false
open Go.RowKit

theorem joins_plus : Joins 25 addF := ⟨is64_addF, plus_any⟩

set_option maxHeartbeats 1000000 in
theorem add_any {oa : Option Addr} {len cap b o : Nat} {l : List Rt} (w : World) (h : Rats w oa len cap b o l) :
    Calls Tryd.prog 9 #[.slice oa len cap] w fun e w' => e = .returned (rv (foldR addF (0, 1) l)) ∧ Below w.heap.size w w' := by
  have hc := folded_plus addF joins_plus (0, 1) oa len cap b o l (w.alloc (.cells #[.int .i64 0, .int .i64 0] 23)) (h.below (below_box _ _))
  obtain ⟨⟨p, q⟩, hr⟩ : ∃ r, foldR addF (0, 1) l = r := ⟨_, rfl⟩
  rw [hr] at hc ⊢
  have HC := Lib.hid hc
  clear hc h hr
  go_enter Tryd.func9, Tryd.ntmps9
  go_wp2_with fail
  ((with_reducible refine (HC.out).mono ?_); rintro e w' ⟨rfl, hbw⟩)
  obtain ⟨m, rfl⟩ := grow_mk hbw
  clear hbw
  go_wp2_with fail
  exact bodyPost_ret (v := .agg #[.int .i64 p, .int .i64 q]) (by simp [results, Tryd.results9, go_sem]) rfl ⟨rfl, (((below_grow (below_box _ _) m).setCell (Nat.le_refl _) _).setCell (Nat.le_refl _) _)⟩

theorem add_two (W : World) (t : TypeId) (k : Nat) (hk : W.heap.size = k) (x y : Rt) (hx : Is64 x) (hy : Is64 y) :
    Calls Tryd.prog 9 #[.slice (some ⟨k, 0, none⟩) 2 2] (W.alloc (.cells #[.int .i64 x.1, .int .i64 x.2, .int .i64 y.1, .int .i64 y.2] t)) fun e w' => e = .returned (rv (foldR addF (0, 1) [x, y])) ∧ Below (W.alloc (.cells #[.int .i64 x.1, .int .i64 x.2, .int .i64 y.1, .int .i64 y.2] t)).heap.size (W.alloc (.cells #[.int .i64 x.1, .int .i64 x.2, .int .i64 y.1, .int .i64 y.2] t)) w' := by
  subst hk; exact add_any _ (rats_two W t x y hx hy)

theorem five_sixths : foldR addF (0, 1) [(1, 2), (1, 3)] = (5, 6) := by decide

theorem is64_small {n d : Int} (h : decide (-9223372036854775808 ≤ n ∧ n ≤ 9223372036854775807 ∧ -9223372036854775808 ≤ d ∧ d ≤ 9223372036854775807) = true) : Is64 (n, d) := by simpa [Is64] using h

set_option maxHeartbeats 1000000 in
theorem awakeR_any (w : World) : Calls Tryd.prog 7 #[] w fun e w' => e = .returned (.bool true) ∧ Below w.heap.size w w' := by
  have ha := fun W k hk => add_two W 23 k hk (1, 2) (1, 3) (is64_small (by decide)) (is64_small (by decide))
  rw [five_sixths] at ha
  have HA := Lib.hid ha
  clear ha
  go_enter Tryd.func7, Tryd.ntmps7
  go_wp2_with fail
  ((with_reducible refine (HA.out _ _ rfl).mono ?_); rintro e w' ⟨rfl, hbw⟩)
  obtain ⟨m, rfl⟩ := grow_mk hbw
  clear hbw
  go_wp2_with fail
  go_ret
  exact ⟨rfl, below_grow (below_box _ _) _⟩

end Go.Proofs.YtgjhaanpkfheeaaDoor
