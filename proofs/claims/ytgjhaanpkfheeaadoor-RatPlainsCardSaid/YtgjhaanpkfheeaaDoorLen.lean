/- How many digits of two a number has: the library's contract, at this program. -/
import Derived.Test.YtgjhaanpkfheeaaDoorKnuth
import Derived.Test.YtgjhaanpkfheeaaDoorRatA
import Derived.Shelf.Lays
import Derived.Shelf.Small.Bits
import Derived.Lib.ItoaNum
namespace Go.Proofs.YtgjhaanpkfheeaaDoor
set_option linter.unusedVariables false
set_option linter.unusedSimpArgs false
open Go.RowKit Go.Shelf

def Tryd.renB : Ren := ⟨fun x => if x = 129 then 88 else 75, fun x => if x = 3 then 3 else if x = 4 then 4 else if x = 5 then 5 else if x = 9 then 9 else if x = 46 then 87 else 44, fun x => x⟩
theorem Tryd.laysB : Lays.n134 Tryd.prog Tryd.renB := {
  mixed := (by kernel_rfl),
  f129 := Tryd.func88.trans (congrArg some (by kernel_rfl)),
  f134 := Tryd.func75.trans (congrArg some (by kernel_rfl)),
  t3 := Tryd.underlying3,
  a3 := Tryd.isAgg3,
  z3 := Tryd.sizeOf3,
  v3 := Tryd.zeroValue3,
  t4 := Tryd.underlying4,
  a4 := Tryd.isAgg4,
  z4 := Tryd.sizeOf4,
  v4 := Tryd.zeroValue4,
  t5 := Tryd.underlying5,
  a5 := Tryd.isAgg5,
  z5 := Tryd.sizeOf5,
  v5 := Tryd.zeroValue5,
  t9 := Tryd.underlying9,
  a9 := Tryd.isAgg9,
  z9 := Tryd.sizeOf9,
  v9 := Tryd.zeroValue9,
  t46 := Tryd.underlying87,
  a46 := Tryd.isAgg87,
  z46 := Tryd.sizeOf87,
  v46 := Tryd.zeroValue87,
  t53 := Tryd.underlying44,
  a53 := Tryd.isAgg44,
  z53 := Tryd.sizeOf44,
  v53 := Tryd.zeroValue44 }

theorem lead_any (x : Nat) (h : x < 18446744073709551616) (w : World) :
    Calls Tryd.prog 75 #[.int .u64 x] w fun e w' => e = .returned (.int .i64 (64 - (Lib.bitLen x : Int))) ∧ w = w' :=
  (Any.bits_LeadingZeros64 Tryd.laysB x w (by omega) (by omega)).mono fun _ _ ⟨h1, h2⟩ => ⟨by rw [h1, Int.toNat_natCast], h2.symm⟩

theorem lead_spec (x : Nat) (h0 : 0 < x) (h : x < 18446744073709551616) :
    ∃ s : Nat, s ≤ 63 ∧ (64 - (Lib.bitLen x : Int)) = (s : Int) ∧ 9223372036854775808 ≤ x * 2 ^ s ∧ x * 2 ^ s < 18446744073709551616 := by
  obtain ⟨b1, b2, b3⟩ := Lib.bitLenAux_bounds 64 x (by show x < 18446744073709551616; exact h) (by omega)
  have hle : Lib.bitLenAux 64 x ≤ 64 := Lib.bitLen_le x 64 (by omega) (by show x < 18446744073709551616; exact h)
  change 1 ≤ Lib.bitLen x at b1
  change 2 ^ (Lib.bitLen x - 1) ≤ x at b2
  change x < 2 ^ Lib.bitLen x at b3
  change Lib.bitLen x ≤ 64 at hle
  generalize Lib.bitLen x = n at *
  refine ⟨64 - n, by omega, by omega, ?_, ?_⟩
  · have := Nat.mul_le_mul_right (2 ^ (64 - n)) b2
    rw [← Nat.pow_add, show n - 1 + (64 - n) = 63 by omega] at this
    exact this
  · have := (Nat.mul_lt_mul_right (Nat.two_pow_pos (64 - n))).2 b3
    rw [← Nat.pow_add, show n + (64 - n) = 64 by omega] at this
    exact this

end Go.Proofs.YtgjhaanpkfheeaaDoor
