/- Numbers of 128 bits, as the reference has them. -/
import Derived.Test.YtgjhaanpkfheeaaRatA
namespace Go.Proofs.Ytgjhaanpkfheeaa
set_option linter.unusedVariables false
set_option linter.unusedSimpArgs false
open Go.RowKit

/-- a number of 128 bits as a value -/
abbrev wv (hi lo : Nat) : Value := .agg #[.int .u64 hi, .int .u64 lo]

set_option maxHeartbeats 400000 in
theorem none_any (hi lo : Nat) (w : World) : Calls Try.prog 97 #[wv hi lo] w fun e w' => e = .returned (.bool (decide (hi = 0 ∧ lo = 0))) ∧ Below w.heap.size w w' := by
  unfold wv
  by_cases c1 : hi = 0
  · subst c1
    go_enter Try.func97, Try.ntmps97
    go_wp2
    go_ret
    exact ⟨ret_bool (by rw [Bool.eq_iff_iff]; simp), below_box _ _⟩
  · have g1 : ((hi : Int) == 0) = false := by simp; omega
    have HF := Lib.hid (show decide (hi = 0 ∧ lo = 0) = false from by simp; omega)
    go_enter Try.func97, Try.ntmps97
    go_wp2
    go_ret
    exact ⟨ret_bool HF.out.symm, below_box _ _⟩

theorem or_half (hi lo : Nat) (h2 : lo < 18446744073709551616) :
    bits BinOp.or IntKind.u64 ((lo : Int) / 2) (IntKind.u64.wrap ((hi : Int) * 9223372036854775808)) = ((lo / 2 + hi % 2 * 9223372036854775808 : Nat) : Int) := by
  have e1 : IntKind.u64.wrap ((hi : Int) * 9223372036854775808) = ((hi % 2 * 9223372036854775808 : Nat) : Int) := by rw [IntKind.wrap_u64]; omega
  have e2 : (lo : Int) / 2 = ((lo / 2 : Nat) : Int) := by omega
  rw [e1, e2, u64_or_nat _ _ (by omega) (by omega), Nat.or_comm, nat_join 63 _ _ (by omega) (by omega)]
  omega

theorem or_twice (hi lo : Nat) (h2 : lo < 18446744073709551616) :
    bits BinOp.or IntKind.u64 (IntKind.u64.wrap ((hi : Int) * 2)) ((lo : Int) / 9223372036854775808) = ((hi * 2 % 18446744073709551616 + lo / 9223372036854775808 : Nat) : Int) := by
  have e1 : IntKind.u64.wrap ((hi : Int) * 2) = ((hi * 2 % 18446744073709551616 : Nat) : Int) := by rw [IntKind.wrap_u64]; omega
  have e2 : (lo : Int) / 9223372036854775808 = ((lo / 9223372036854775808 : Nat) : Int) := by omega
  rw [e1, e2, u64_or_nat _ _ (by omega) (by omega), nat_join 1 _ _ (by omega) (by omega)]

set_option maxHeartbeats 400000 in
theorem half_any (hi lo : Nat) (w : World) (h1 : hi < 18446744073709551616) (h2 : lo < 18446744073709551616) : Calls Try.prog 118 #[wv hi lo] w fun e w' => e = .returned (wv (hi / 2) (lo / 2 + hi % 2 * 9223372036854775808)) ∧ Below w.heap.size w w' := by
  unfold wv
  go_enter Try.func118, Try.ntmps118
  go_wp2
  exact bodyPost_ret (v := .agg #[.int .u64 ((hi : Int) / 2), .int .u64 (bits BinOp.or IntKind.u64 ((lo : Int) / 2) (IntKind.u64.wrap ((hi : Int) * 9223372036854775808)))]) (by simp [results, Try.results118, go_sem]) rfl
    ⟨ret_agg2 (by omega) (or_half hi lo h2), (below_box _ _).alloc (by simp) _⟩

set_option maxHeartbeats 400000 in
theorem twice_any (hi lo : Nat) (w : World) (h2 : lo < 18446744073709551616) : Calls Try.prog 119 #[wv hi lo] w fun e w' => e = .returned (wv (hi * 2 % 18446744073709551616 + lo / 9223372036854775808) (lo * 2 % 18446744073709551616)) ∧ Below w.heap.size w w' := by
  unfold wv
  go_enter Try.func119, Try.ntmps119
  go_wp2
  exact bodyPost_ret (v := .agg #[.int .u64 (bits BinOp.or IntKind.u64 (IntKind.u64.wrap ((hi : Int) * 2)) ((lo : Int) / 9223372036854775808)), .int .u64 (IntKind.u64.wrap ((lo : Int) * 2))]) (by simp [results, Try.results119, go_sem]) rfl
    ⟨ret_agg2 (or_twice hi lo h2) (by rw [IntKind.wrap_u64]; omega), (below_box _ _).alloc (by simp) _⟩

/-- the two words of a number as one -/
def wn (hi lo : Nat) : Nat := hi * 18446744073709551616 + lo

set_option maxHeartbeats 400000 in
theorem less_any (ah al bh bl : Nat) (w : World) (h1 : al < 18446744073709551616) (h2 : bl < 18446744073709551616) : Calls Try.prog 71 #[wv ah al, wv bh bl] w fun e w' => e = .returned (.bool (decide (wn ah al < wn bh bl))) ∧ Below w.heap.size w w' := by
  unfold wv wn
  by_cases c1 : ah < bh
  · have g1 : decide ((ah : Int) < (bh : Int)) = true := by simp; omega
    have HF := Lib.hid (show decide (ah * 18446744073709551616 + al < bh * 18446744073709551616 + bl) = true from by simp; omega)
    go_enter Try.func71, Try.ntmps71
    go_wp2
    go_ret
    exact ⟨ret_bool HF.out.symm, (below_box _ _).alloc (by simp) _⟩
  · by_cases c2 : ah = bh
    · subst c2
      have g1 : decide ((ah : Int) < (ah : Int)) = false := by simp
      have g2 : ((ah : Int) == (ah : Int)) = true := by simp
      go_enter Try.func71, Try.ntmps71
      go_wp2
      go_ret
      exact ⟨ret_bool (by rw [Bool.eq_iff_iff]; simp), (below_box _ _).alloc (by simp) _⟩
    · have g1 : decide ((ah : Int) < (bh : Int)) = false := by simp; omega
      have g2 : ((ah : Int) == (bh : Int)) = false := by simp; omega
      have HF := Lib.hid (show decide (ah * 18446744073709551616 + al < bh * 18446744073709551616 + bl) = false from by simp; omega)
      clear c2
      go_enter Try.func71, Try.ntmps71
      go_wp2
      go_ret
      exact ⟨ret_bool HF.out.symm, (below_box _ _).alloc (by simp) _⟩

end Go.Proofs.Ytgjhaanpkfheeaa
