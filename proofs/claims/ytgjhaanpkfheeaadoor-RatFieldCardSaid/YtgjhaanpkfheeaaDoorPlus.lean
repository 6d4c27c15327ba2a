/- The sum of two fractions, in the program. -/
import Derived.Test.YtgjhaanpkfheeaaDoorDiv64
import Derived.Test.YtgjhaanpkfheeaaDoorTimes
namespace Go.Proofs.YtgjhaanpkfheeaaDoor
set_option linter.unusedVariables false
set_option linter.unusedSimpArgs false
open Go.RowKit

set_option maxHeartbeats 1000000 in
theorem rem64_any (hi lo y : Nat) (w : World) (gy : 0 < y) (h1 : hi < 18446744073709551616) (h2 : lo < 18446744073709551616) (h3 : y < 18446744073709551616) :
    Calls Tryd.prog 51 #[.int .u64 hi, .int .u64 lo, .int .u64 y] w fun e w' => e = .returned (.int .u64 (((hi * 18446744073709551616 + lo) % y : Nat) : Int)) ∧ Below w.heap.size w w' := by
  have hlt : hi % y < y := Nat.mod_lt _ gy
  have hd := fun w => div64_any (hi % y) lo y w hlt h2 h3
  have e : (hi % y * 18446744073709551616 + lo) % y = (hi * 18446744073709551616 + lo) % y := by
    have h := Nat.div_add_mod hi y
    conv => rhs; rw [← h]
    rw [Nat.add_mul, Nat.mul_assoc, Nat.add_assoc, Nat.mul_add_mod]
  rw [e] at hd
  obtain ⟨M, hM⟩ : ∃ v, v = (hi * 18446744073709551616 + lo) % y := ⟨_, rfl⟩
  obtain ⟨N, hN⟩ : ∃ v, v = (hi % y * 18446744073709551616 + lo) / y := ⟨_, rfl⟩
  obtain ⟨R, hR⟩ : ∃ v, v = hi % y := ⟨_, rfl⟩
  rw [← hM]
  rw [← hM, ← hN, ← hR] at hd
  have f1 : (hi : Int) % (y : Int) = (R : Int) := by rw [hR, Int.natCast_emod]
  have f2 : IntKind.u64.wrap (R : Int) = (R : Int) := wrap_nat _ (by omega)
  have HD := Lib.hid hd
  clear hd hM hN hR e hlt
  go_enter Tryd.func51, Tryd.ntmps51
  go_wp2_with fail
  ((with_reducible refine (HD.out _).mono ?_); rintro e w' ⟨rfl, hbw⟩)
  obtain ⟨m, rfl⟩ := grow_mk hbw
  clear hbw
  go_wp2_with fail
  go_ret
  exact ⟨rfl, grow_below _⟩

/-- the sum of two that are not over -/
def addF (a b : Rt) : Rt := fracOf (plusParts a b).1 (plusParts a b).2 (a.2.toNat * b.2.toNat)
theorem is64_addF (a b : Rt) : Is64 (addF a b) := is64_fracOf _ _ _

end Go.Proofs.YtgjhaanpkfheeaaDoor
