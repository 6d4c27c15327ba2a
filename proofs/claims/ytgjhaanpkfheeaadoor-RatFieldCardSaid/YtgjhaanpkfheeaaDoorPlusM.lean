/- The sum of two fractions: the plain law of the program's way. -/
import Derived.Test.YtgjhaanpkfheeaaDoorPlus
namespace Go.Proofs.YtgjhaanpkfheeaaDoor
set_option linter.unusedVariables false
set_option linter.unusedSimpArgs false

/-- the sizes of two over a common denominator, less what both denominators share -/
def sA (a b : Rt) : Nat := a.1.natAbs * (b.2.toNat / Nat.gcd a.2.toNat b.2.toNat)
def sB (a b : Rt) : Nat := b.1.natAbs * (a.2.toNat / Nat.gcd a.2.toNat b.2.toNat)
/-- the sum's sign and size so -/
def tPart (a b : Rt) : Bool × Nat :=
  if decide (a.1 < 0) = decide (b.1 < 0) then (decide (a.1 < 0), sA a b + sB a b)
  else if sA a b < sB a b then (!decide (a.1 < 0), sB a b - sA a b) else (decide (a.1 < 0), sA a b - sB a b)

theorem plusParts_t {a b : Rt} (ha : 1 ≤ a.2) (hb : 1 ≤ b.2) : plusParts a b = ((tPart a b).1, Nat.gcd a.2.toNat b.2.toNat * (tPart a b).2) := by
  have gp : 0 < Nat.gcd a.2.toNat b.2.toNat := Nat.gcd_pos_of_pos_right _ (by omega)
  have h1 : a.1.natAbs * b.2.toNat = Nat.gcd a.2.toNat b.2.toNat * sA a b := by
    unfold sA
    rw [Nat.mul_left_comm, Nat.mul_div_cancel' (Nat.gcd_dvd_right _ _)]
  have h2 : b.1.natAbs * a.2.toNat = Nat.gcd a.2.toNat b.2.toNat * sB a b := by
    unfold sB
    rw [Nat.mul_left_comm, Nat.mul_div_cancel' (Nat.gcd_dvd_left _ _)]
  unfold plusParts tPart
  rw [h1, h2]
  generalize sA a b = x at *
  generalize sB a b = y at *
  generalize Nat.gcd a.2.toNat b.2.toNat = g at *
  have hlt : (g * x < g * y) = (x < y) := propext ⟨fun h => Nat.lt_of_mul_lt_mul_left h, fun h => (Nat.mul_lt_mul_left gp).2 h⟩
  simp only [hlt]
  by_cases s : decide (a.1 < 0) = decide (b.1 < 0)
  · rw [if_pos s, if_pos s]; exact Prod.ext rfl (Nat.mul_add _ _ _).symm
  · rw [if_neg s, if_neg s]
    have hn : decide (b.1 < 0) = !decide (a.1 < 0) := by
      cases h : decide (a.1 < 0) <;> cases h' : decide (b.1 < 0) <;> simp_all
    by_cases c : x < y
    · rw [if_pos c, if_pos c]; exact Prod.ext hn (Nat.mul_sub _ _ _).symm
    · rw [if_neg c, if_neg c]; exact Prod.ext rfl (Nat.mul_sub _ _ _).symm

theorem dvd_three {e t x y : Nat} (h : t = x + y ∨ t + x = y ∨ t + y = x) (ht : e ∣ t) (hy : e ∣ y) : e ∣ x := by
  rcases h with h | h | h
  · rw [h] at ht; exact (Nat.dvd_add_left hy).1 ht
  · rw [← h] at hy; exact (Nat.dvd_add_right ht).1 hy
  · rw [← h]; exact Nat.dvd_add ht hy

theorem tPart_three (a b : Rt) : (tPart a b).2 = sA a b + sB a b ∨ (tPart a b).2 + sA a b = sB a b ∨ (tPart a b).2 + sB a b = sA a b := by
  unfold tPart
  split
  · exact Or.inl rfl
  · split
    · right; left; show sB a b - sA a b + sA a b = _; omega
    · right; right; show sA a b - sB a b + sB a b = _; omega

theorem tPart_le (a b : Rt) : (tPart a b).2 ≤ sA a b + sB a b := by have := tPart_three a b; omega

theorem addF_t {a b : Rt} (sa : sureB a = true) (sb : sureB b = true) :
    addF a b = madeF (tPart a b).1 ((tPart a b).2 / Nat.gcd ((tPart a b).2 % Nat.gcd a.2.toNat b.2.toNat) (Nat.gcd a.2.toNat b.2.toNat))
      (a.2.toNat / Nat.gcd a.2.toNat b.2.toNat * (b.2.toNat / Nat.gcd ((tPart a b).2 % Nat.gcd a.2.toNat b.2.toNat) (Nat.gcd a.2.toNat b.2.toNat))) := by
  have ha := sureB_den sa
  have hb := sureB_den sb
  unfold addF
  rw [plusParts_t ha hb]
  have h3 := tPart_three a b
  refine plus_fin _ a.1.natAbs b.1.natAbs _ _ _ (by omega) (by omega) (sureB_iff.1 sa).2.2 (sureB_iff.1 sb).2.2 (fun e he hd => ?_) (fun e he hd => ?_)
  · exact dvd_three h3 he (Nat.dvd_trans hd (Nat.dvd_mul_left _ _))
  · show e ∣ sB a b
    exact dvd_three (x := sB a b) (y := sA a b) (by omega) he (show e ∣ sA a b from Nat.dvd_trans hd (Nat.dvd_mul_left _ _))

theorem addF_zero {a b : Rt} (sa : sureB a = true) (sb : sureB b = true) (h : (tPart a b).2 = 0) : addF a b = (0, 1) := by
  have ha := sureB_den sa
  have hb := sureB_den sb
  unfold addF
  rw [plusParts_t ha hb, h, Nat.mul_zero]
  exact fracOf_zero _ _ (Nat.mul_pos (by omega) (by omega))

end Go.Proofs.YtgjhaanpkfheeaaDoor
