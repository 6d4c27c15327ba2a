/- Long division by digits of 32 bits: the plain law. -/
import Derived.Test.YtgjhaanpkfheeaaDoorGrow
namespace Go.Proofs.YtgjhaanpkfheeaaDoor
set_option linter.unusedVariables false
set_option linter.unusedSimpArgs false

/-- where the guess of a digit stands -/
structure Kn (U d y1 y0 q r : Nat) : Prop where
  eq : q * y1 + r = U
  small : r < 4294967296
  over : (U * 4294967296 + d) / (y1 * 4294967296 + y0) ≤ q
  near : q ≤ 4294967297

section
set_option linter.unusedSectionVars false
variable {U d y1 y0 q r : Nat} (hU : U < y1 * 4294967296 + y0) (hd : d < 4294967296) (h1 : 2147483648 ≤ y1) (h0 : y0 < 4294967296)
include hU hd h1 h0
theorem Kn.start (h2 : y1 < 4294967296) : Kn U d y1 y0 (U / y1) (U % y1) := by
  have hp : 0 < y1 := by omega
  refine ⟨by rw [Nat.mul_comm]; exact Nat.div_add_mod U y1, Nat.lt_trans (Nat.mod_lt _ hp) h2, ?_, ?_⟩
  · have e : (U * 4294967296 + d) / (y1 * 4294967296) = U / y1 := by
      rw [Nat.mul_comm y1, ← Nat.div_div_eq_div_mul]
      congr 1; omega
    rw [← e]
    exact Nat.div_le_div_left (by omega) (by omega)
  · have : U / y1 < 4294967298 := (Nat.div_lt_iff_lt_mul hp).2 (by omega)
    omega
theorem Kn.done (h : Kn U d y1 y0 q r) (hx : q * y0 ≤ r * 4294967296 + d) : q = (U * 4294967296 + d) / (y1 * 4294967296 + y0) := by
  refine Nat.le_antisymm ?_ h.over
  rw [Nat.le_div_iff_mul_le (by omega), Nat.mul_add, ← Nat.mul_assoc]
  have := h.eq
  omega
theorem Kn.less (h : Kn U d y1 y0 q r) (hx : 4294967296 ≤ q ∨ r * 4294967296 + d < q * y0) : (U * 4294967296 + d) / (y1 * 4294967296 + y0) ≤ q - 1 ∧ 1 ≤ q ∧ (q - 1) * y1 + (r + y1) = U := by
  have hlt : (U * 4294967296 + d) / (y1 * 4294967296 + y0) < q := by
    rcases hx with hx | hx
    · refine Nat.lt_of_lt_of_le ((Nat.div_lt_iff_lt_mul (by omega)).2 ?_) hx
      omega
    · refine (Nat.div_lt_iff_lt_mul (by omega)).2 ?_
      have e : q * (y1 * 4294967296 + y0) = q * y1 * 4294967296 + q * y0 := by rw [Nat.mul_add, Nat.mul_assoc]
      rw [e, ← h.eq, Nat.add_mul, Nat.add_assoc]
      exact Nat.add_lt_add_left hx _
  have he := h.eq
  have hq : 0 < q := Nat.lt_of_le_of_lt (Nat.zero_le _) hlt
  obtain ⟨p, rfl⟩ : ∃ p, q = p + 1 := ⟨q - 1, by omega⟩
  rw [Nat.succ_mul] at he
  exact ⟨by omega, by omega, by rw [Nat.add_sub_cancel]; omega⟩
theorem Kn.next (h : Kn U d y1 y0 q r) (hx : 4294967296 ≤ q ∨ r * 4294967296 + d < q * y0) (hr : r + y1 < 4294967296) : Kn U d y1 y0 (q - 1) (r + y1) := by
  obtain ⟨a, b, c⟩ := h.less hU hd h1 h0 hx
  have := h.near
  exact ⟨c, hr, a, by omega⟩
theorem Kn.stop (h : Kn U d y1 y0 q r) (hx : 4294967296 ≤ q ∨ r * 4294967296 + d < q * y0) (hr : 4294967296 ≤ r + y1) : q - 1 = (U * 4294967296 + d) / (y1 * 4294967296 + y0) := by
  obtain ⟨a, b, c⟩ := h.less hU hd h1 h0 hx
  have hn := h.near
  refine Nat.le_antisymm ?_ a
  have hq : q - 1 ≤ 4294967296 := by omega
  clear h a hx hn
  generalize q - 1 = p at *
  have e : p * (y1 * 4294967296 + y0) = p * y1 * 4294967296 + p * y0 := by rw [Nat.mul_add, Nat.mul_assoc]
  rw [Nat.le_div_iff_mul_le (by omega), e]
  have hp : p * y0 ≤ 4294967296 * y0 := Nat.mul_le_mul_right _ hq
  have hp2 : 4294967296 * y0 ≤ 4294967296 * (r + y1) := Nat.mul_le_mul_left _ (by omega)
  rw [← c, Nat.add_mul, Nat.add_assoc]
  refine Nat.add_le_add_left (Nat.le_trans (Nat.le_trans hp hp2) ?_) _
  rw [Nat.mul_comm]
  exact Nat.le_add_right _ _
end

/-- the two digits make the quotient -/
theorem knuth (hi lo y s u32 u1 u0 Y q1 r1 q0 r0 : Nat) (hy : 0 < y) (hs : Y = y * 2 ^ s)
    (hn : (hi * 18446744073709551616 + lo) * 2 ^ s = (u32 * 4294967296 + u1) * 4294967296 + u0)
    (h1 : u32 * 4294967296 + u1 = q1 * Y + r1) (h2 : r1 * 4294967296 + u0 = q0 * Y + r0) (hr : r0 < Y) :
    (hi * 18446744073709551616 + lo) / y = q1 * 4294967296 + q0 ∧ r0 = (hi * 18446744073709551616 + lo) % y * 2 ^ s := by
  obtain ⟨N, hN⟩ : ∃ N, N = hi * 18446744073709551616 + lo := ⟨_, rfl⟩
  rw [← hN] at hn ⊢
  have hp : 0 < 2 ^ s := Nat.two_pow_pos s
  have e : N * 2 ^ s = (q1 * 4294967296 + q0) * Y + r0 := by
    rw [hn, h1, Nat.add_mul, Nat.add_mul, Nat.mul_right_comm q1 Y, Nat.add_assoc, Nat.add_assoc, ← h2]
  have hYp : 0 < Y := by omega
  have d1 : N * 2 ^ s / Y = q1 * 4294967296 + q0 := by
    rw [e, Nat.mul_comm, Nat.mul_add_div hYp, Nat.div_eq_of_lt hr, Nat.add_zero]
  have d2 : N * 2 ^ s % Y = r0 := by
    rw [e, Nat.mul_comm, Nat.mul_add_mod, Nat.mod_eq_of_lt hr]
  rw [hs, Nat.mul_div_mul_right _ _ hp] at d1
  rw [hs, Nat.mul_mod_mul_right] at d2
  exact ⟨d1, d2.symm⟩

end Go.Proofs.YtgjhaanpkfheeaaDoor
