/- The small functions of fractions: sizes, divisors, what is made of a sign and two sizes. -/
import Derived.Test.YtgjhaanpkfheeaaDoorProg
import Derived.Test.YtgjhaanpkfheeaaDoorRatMath
import Derived.Test.YtgjhaanpkfheeaaDoorGrow
namespace Go.Proofs.YtgjhaanpkfheeaaDoor
set_option linter.unusedVariables false
set_option linter.unusedSimpArgs false
open Go.RowKit

theorem ret_int {k : IntKind} {a b : Int} (h : a = b) : Ending.returned (.int k a) = .returned (.int k b) := by rw [h]

theorem ret_agg2 {k : IntKind} {a b c d : Int} (h1 : a = c) (h2 : b = d) : Ending.returned (.agg #[.int k a, .int k b]) = .returned (.agg #[.int k c, .int k d]) := by rw [h1, h2]

theorem wrap_nat (a : Nat) (h : a < 18446744073709551616) : IntKind.u64.wrap (a : Int) = (a : Int) := by rw [IntKind.wrap_u64]; omega

theorem ret_bool {a b : Bool} (h : a = b) : Ending.returned (.bool a) = .returned (.bool b) := by rw [h]

theorem ret_tup2 {k : IntKind} {a b c d : Int} (h1 : a = c) (h2 : b = d) : Ending.returned (.tuple #[.int k a, .int k b]) = .returned (.tuple #[.int k c, .int k d]) := by rw [h1, h2]

/-- a fraction as a value -/
abbrev rv (r : Rt) : Value := .agg #[.int .i64 r.1, .int .i64 r.2]

set_option maxHeartbeats 400000 in
theorem size_any (x : Int) (w : World) (h1 : -9223372036854775808 ≤ x) (h2 : x ≤ 9223372036854775807) :
    Calls Tryd.prog 29 #[.int .i64 x] w fun e w' => e = .returned (.int .u64 (x.natAbs : Int)) ∧ w = w' := by
  by_cases h : x < 0
  · go_enter Tryd.func29, Tryd.ntmps29
    go_wp2
    go_ret
    exact ⟨ret_int (by rw [IntKind.wrap_u64, IntKind.wrap_u64]; omega), rfl⟩
  · go_enter Tryd.func29, Tryd.ntmps29
    go_wp2
    go_ret
    exact ⟨ret_int (by omega), rfl⟩

set_option maxHeartbeats 400000 in
theorem mag_any (x : Int) (w : World) (h1 : -9223372036854775808 ≤ x) (h2 : x ≤ 9223372036854775807) :
    Calls Tryd.prog 45 #[.int .i64 x] w fun e w' => e = .returned (.int .u64 (x.natAbs : Int)) ∧ w = w' := by
  by_cases h : x < 0
  · go_enter Tryd.func45, Tryd.ntmps45
    go_wp2
    go_ret
    exact ⟨ret_int (by omega), rfl⟩
  · go_enter Tryd.func45, Tryd.ntmps45
    go_wp2
    go_ret
    exact ⟨ret_int (by omega), rfl⟩

set_option maxHeartbeats 400000 in
theorem gcd_any (a b : Nat) (w : World) (h1 : a < 18446744073709551616) (h2 : b < 18446744073709551616) :
    Calls Tryd.prog 47 #[.int .u64 a, .int .u64 b] w fun e w' => e = .returned (.int .u64 (Nat.gcd a b : Int)) ∧ w = w' := by
  go_enter Tryd.func47, Tryd.ntmps47
  go_wp2
  go_loop [0, 1] (fun s t => ∃ x y : Nat, s = .int .u64 x ∧ t = .int .u64 y ∧ x < 18446744073709551616 ∧ y < 18446744073709551616 ∧ Hid (Nat.gcd x y = Nat.gcd a b)) (fun s _ => (intOf s).toNat)
  case atStart => exact ⟨a, b, rfl, rfl, h1, h2, Lib.hid rfl⟩
  case round =>
    obtain ⟨x, y, rfl, rfl, b1, b2, hg⟩ := hrel
    by_cases hx : 0 < x
    · have hm := Nat.mod_lt y hx
      go_wp2
      go_round
      case rel => exact ⟨y % x, x, by go_num, rfl, by omega, b1, Lib.hid (by rw [← hg.out, Nat.gcd_rec x y])⟩
      case measure => simp [intOf]; omega
    · obtain rfl : x = 0 := by omega
      go_wp2
      go_ret
      exact ⟨ret_int (by rw [← hg.out, Nat.gcd_zero_left]), rfl⟩

set_option maxHeartbeats 400000 in
theorem small_any (a b : Nat) (w : World) (h1 : a < 18446744073709551616) (h2 : b < 18446744073709551616) :
    Calls Tryd.prog 58 #[.int .u64 a, .int .u64 b] w fun e w' => e = .returned (.int .u64 (Nat.gcd a b : Int)) ∧ Below w.heap.size w w' := by
  go_enter Tryd.func58, Tryd.ntmps58
  go_wp2
  go_loopw [0, 1] (fun s t wr => ∃ x y : Nat, s = .int .u64 x ∧ t = .int .u64 y ∧ x < 18446744073709551616 ∧ y < 18446744073709551616 ∧ Hid (Nat.gcd x y = Nat.gcd a b) ∧ Below w.heap.size w wr) (fun _ t _ => (intOf t).toNat)
  case atStart => exact ⟨a, b, rfl, rfl, h1, h2, Lib.hid rfl, Below.refl _ _⟩
  case round =>
    obtain ⟨x, y, rfl, rfl, b1, b2, hg, hb⟩ := hrel
    by_cases hy : 0 < y
    · have hm := Nat.mod_lt x hy
      go_wp2
      go_quiet (fail)
      go_wp2
      go_roundw
      case rel => exact ⟨y, x % y, rfl, by go_num, b2, by omega, Lib.hid (by rw [← hg.out, Nat.gcd_comm x y, Nat.gcd_rec y x, Nat.gcd_comm]), below_drewN hb _⟩
      case measure => simp [intOf]; omega
    · obtain rfl : y = 0 := by omega
      go_wp2
      go_ret
      exact ⟨ret_int (by rw [← hg.out, Nat.gcd_zero_right]), hb⟩

end Go.Proofs.YtgjhaanpkfheeaaDoor
