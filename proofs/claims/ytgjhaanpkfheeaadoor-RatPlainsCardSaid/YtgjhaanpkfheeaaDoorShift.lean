/- The library's long division: what its shifts make of the numbers. -/
import Derived.Test.YtgjhaanpkfheeaaDoorLen
namespace Go.Proofs.YtgjhaanpkfheeaaDoor
set_option linter.unusedVariables false
set_option linter.unusedSimpArgs false
open Go.RowKit

structure Sh (hi lo y s Y u32 u10 : Nat) : Prop where
  a1 : IntKind.u64.wrap ((y : Int) * 2 ^ s) = (Y : Int)
  a4 : bits BinOp.or IntKind.u64 (IntKind.u64.wrap ((hi : Int) * 2 ^ s)) ((lo : Int) / 2 ^ (64 - s)) = (u32 : Int)
  a5 : IntKind.u64.wrap ((lo : Int) * 2 ^ s) = (u10 : Int)
  a6 : (hi * 18446744073709551616 + lo) * 2 ^ s = u32 * 18446744073709551616 + u10
  a7 : u32 < Y
  a8 : u10 < 18446744073709551616
  a9 : Y = y * 2 ^ s

theorem cast_shl (x s : Nat) : (x : Int) * 2 ^ s = ((x * 2 ^ s : Nat) : Int) := by
  rw [Int.natCast_mul, Int.natCast_pow]; rfl
theorem cast_shr (x s : Nat) : (x : Int) / 2 ^ s = ((x / 2 ^ s : Nat) : Int) := by
  rw [Int.natCast_ediv, Int.natCast_pow]; rfl

theorem shifts (hi lo y s : Nat) (h1 : hi < y) (h2 : lo < 18446744073709551616) (hs : s ≤ 63) (n2 : y * 2 ^ s < 18446744073709551616) :
    Sh hi lo y s (y * 2 ^ s) (hi * 2 ^ s + lo / 2 ^ (64 - s)) (lo * 2 ^ s % 18446744073709551616) := by
  have hp : 0 < 2 ^ s := Nat.two_pow_pos s
  have hq : 0 < 2 ^ (64 - s) := Nat.two_pow_pos _
  have e64 : 2 ^ (64 - s) * 2 ^ s = 18446744073709551616 := by rw [← Nat.pow_add, show 64 - s + s = 64 by omega]
  have hh : hi * 2 ^ s < y * 2 ^ s := (Nat.mul_lt_mul_right hp).2 h1
  have hl : lo / 2 ^ (64 - s) < 2 ^ s := by
    rw [Nat.div_lt_iff_lt_mul hq, Nat.mul_comm, e64]; exact h2
  have e6 : lo * 2 ^ s / 18446744073709551616 = lo / 2 ^ (64 - s) := by
    rw [← e64, Nat.mul_div_mul_right _ _ hp]
  have hd := Nat.div_add_mod (lo * 2 ^ s) 18446744073709551616
  rw [e6] at hd
  have hm : lo * 2 ^ s % 18446744073709551616 < 18446744073709551616 := Nat.mod_lt _ (by omega)
  have hy2 : (hi + 1) * 2 ^ s ≤ y * 2 ^ s := Nat.mul_le_mul_right _ h1
  rw [Nat.succ_mul] at hy2
  refine ⟨?_, ?_, ?_, ?_, by omega, hm, rfl⟩
  · rw [cast_shl, wrap_nat _ n2]
  · rw [cast_shl, cast_shr, wrap_nat _ (by omega), u64_or_nat _ _ (by omega) (by omega), nat_join s _ _ (Nat.mul_mod_left _ _) hl]
  · rw [cast_shl, IntKind.wrap_u64]; omega
  · rw [Nat.add_mul, Nat.add_mul, Nat.mul_right_comm]; omega

end Go.Proofs.YtgjhaanpkfheeaaDoor
