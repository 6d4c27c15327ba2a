/- How many digits of two a number has: the library's contract, at this program. -/
import Derived.Test.YtgjhaanpkfheeaaKnuth
import Derived.Test.YtgjhaanpkfheeaaRatA
import Derived.Shelf.Lays
import Derived.Shelf.Small.Bits
import Derived.Lib.ItoaNum
namespace Go.Proofs.Ytgjhaanpkfheeaa
set_option linter.unusedVariables false
set_option linter.unusedSimpArgs false
open Go.RowKit Go.Shelf

def Try.renB : Ren := ⟨fun x => if x = 129 then 132 else 123, fun x => if x = 3 then 3 else if x = 4 then 4 else if x = 5 then 5 else if x = 9 then 9 else if x = 46 then 109 else 75, fun x => x⟩
theorem Try.laysB : Lays.n134 Try.prog Try.renB := {
  mixed := (by kernel_rfl),
  f129 := Try.func132.trans (congrArg some (by kernel_rfl)),
  f134 := Try.func123.trans (congrArg some (by kernel_rfl)),
  t3 := Try.underlying3,
  a3 := Try.isAgg3,
  z3 := Try.sizeOf3,
  v3 := Try.zeroValue3,
  t4 := Try.underlying4,
  a4 := Try.isAgg4,
  z4 := Try.sizeOf4,
  v4 := Try.zeroValue4,
  t5 := Try.underlying5,
  a5 := Try.isAgg5,
  z5 := Try.sizeOf5,
  v5 := Try.zeroValue5,
  t9 := Try.underlying9,
  a9 := Try.isAgg9,
  z9 := Try.sizeOf9,
  v9 := Try.zeroValue9,
  t46 := Try.underlying109,
  a46 := Try.isAgg109,
  z46 := Try.sizeOf109,
  v46 := Try.zeroValue109,
  t53 := Try.underlying75,
  a53 := Try.isAgg75,
  z53 := Try.sizeOf75,
  v53 := Try.zeroValue75 }

theorem lead_any (x : Nat) (h : x < 18446744073709551616) (w : World) :
    Calls Try.prog 123 #[.int .u64 x] w fun e w' => e = .returned (.int .i64 (64 - (Lib.bitLen x : Int))) ∧ w = w' :=
  (Any.bits_LeadingZeros64 Try.laysB x w (by omega) (by omega)).mono fun _ _ ⟨h1, h2⟩ => ⟨by rw [h1, Int.toNat_natCast], h2.symm⟩

theorem lead_spec (x : Nat) (h0 : 0 < x) (h : x < 18446744073709551616) :
    ∃ s : Nat, s ≤ 63 ∧ (64 - (Lib.bitLen x : Int)) = (s : Int) ∧ 9223372036854775808 ≤ x * 2 ^ s ∧ x * 2 ^ s < 18446744073709551616 := by
  obtain ⟨b1, b2, b3⟩ := Lib.bitLenAux_bounds 64 x (by show x < 18446744073709551616; exact h) (by omega)
  have hle : Lib.bitLenAux 64 x ≤ 64 := Lib.bitLen_le x 64 (by omega) (by show x < 18446744073709551616; exact h)
  change 1 ≤ Lib.bitLen x at b1
  change 2 ^ (Lib.bitLen x - 1) ≤ x at b2
  change x < 2 ^ Lib.bitLen x at b3
  change Lib.bitLen x ≤ 64 at hle
  generalize Lib.bitLen x = n at *
  refine ⟨64 - n, by omega, by omega, ?_, ?_⟩
  · have := Nat.mul_le_mul_right (2 ^ (64 - n)) b2
    rw [← Nat.pow_add, show n - 1 + (64 - n) = 63 by omega] at this
    exact this
  · have := (Nat.mul_lt_mul_right (Nat.two_pow_pos (64 - n))).2 b3
    rw [← Nat.pow_add, show n + (64 - n) = 64 by omega] at this
    exact this

end Go.Proofs.Ytgjhaanpkfheeaa
