/- What holds of and, or, not of three truths. -/
import Derived.Test.YtgjhaanpkfheeaaAwakeC
namespace Go.Proofs.Ytgjhaanpkfheeaa
set_option linter.unusedVariables false
set_option linter.unusedSimpArgs false
open Go.RowKit

theorem tr_tr (x : Int) : tr (tr x) = tr x := by rcases tr_three x with h | h | h <;> rw [h] <;> decide
theorem in64_three {x : Int} (h : x = 0 ∨ x = 1 ∨ x = 2) : In64 x := by unfold In64; omega
theorem andG_three : ∀ (l : List Int) (m : Int), (m = 0 ∨ m = 1 ∨ m = 2) → (andG m l = 0 ∨ andG m l = 1 ∨ andG m l = 2)
  | [], _, h => h
  | x :: l, m, h => andG_three l _ (and_step h (tr_three x))
theorem orG_three : ∀ (l : List Int) (m : Int), (m = 0 ∨ m = 1 ∨ m = 2) → (orG m l = 0 ∨ orG m l = 1 ∨ orG m l = 2)
  | [], _, h => h
  | x :: l, m, h => orG_three l _ (or_step h (tr_three x))
theorem aF2_in (x y : Int) : In64 (aF2 x y) := in64_three (andG_three _ _ (by omega))
theorem oF2_in (x y : Int) : In64 (oF2 x y) := in64_three (orG_three _ _ (by omega))
theorem nF_in (x : Int) : In64 (nF x) := in64_three (by have := tr_three x; unfold nF; omega)
theorem aF1_l (x : Int) : aF1 (tr x) = aF1 x := by unfold aF1 andG; rw [tr_tr]
theorem aF2_l (x y : Int) : aF2 (tr x) y = aF2 x y := by unfold aF2 andG; rw [tr_tr]
theorem aF2_r (x y : Int) : aF2 x (tr y) = aF2 x y := by unfold aF2 andG andG; rw [tr_tr]
theorem oF2_l (x y : Int) : oF2 (tr x) y = oF2 x y := by unfold oF2 orG; rw [tr_tr]
theorem oF2_r (x y : Int) : oF2 x (tr y) = oF2 x y := by unfold oF2 orG orG; rw [tr_tr]
theorem aF3_t (x y z : Int) : aF3 (tr x) (tr y) (tr z) = aF3 x y z := by unfold aF3; simp only [andG, tr_tr]
theorem oF3_t (x y z : Int) : oF3 (tr x) (tr y) (tr z) = oF3 x y z := by unfold oF3; simp only [orG, tr_tr]
theorem nF_t (x : Int) : nF (tr x) = nF x := by unfold nF; rw [tr_tr]

theorem three_all {P : Int → Int → Int → Prop} (h : ∀ a b c : Int, (a = 0 ∨ a = 1 ∨ a = 2) → (b = 0 ∨ b = 1 ∨ b = 2) → (c = 0 ∨ c = 1 ∨ c = 2) → P a b c) (x y z : Int) : P (tr x) (tr y) (tr z) := h _ _ _ (tr_three x) (tr_three y) (tr_three z)

theorem m1 (x y : Int) : nF (aF2 x y) = oF2 (nF x) (nF y) := by
  have := three_all (P := fun x y _ => nF (aF2 x y) = oF2 (nF x) (nF y)) (by rintro a b c (rfl | rfl | rfl) (rfl | rfl | rfl) (rfl | rfl | rfl) <;> decide) x y 0
  simpa only [aF2_l, aF2_r, nF_t] using this
theorem m2 (x y : Int) : nF (oF2 x y) = aF2 (nF x) (nF y) := by
  have := three_all (P := fun x y _ => nF (oF2 x y) = aF2 (nF x) (nF y)) (by rintro a b c (rfl | rfl | rfl) (rfl | rfl | rfl) (rfl | rfl | rfl) <;> decide) x y 0
  simpa only [oF2_l, oF2_r, nF_t] using this
theorem m3 (x : Int) : nF (nF x) = aF1 x := by
  have := three_all (P := fun x _ _ => nF (nF x) = aF1 x) (by rintro a b c (rfl | rfl | rfl) (rfl | rfl | rfl) (rfl | rfl | rfl) <;> decide) x 0 0
  simpa only [aF1_l, nF_t] using this
theorem m4 (x y : Int) : aF2 x y = aF2 y x := by
  have := three_all (P := fun x y _ => aF2 x y = aF2 y x) (by rintro a b c (rfl | rfl | rfl) (rfl | rfl | rfl) (rfl | rfl | rfl) <;> decide) x y 0
  simpa only [aF2_l, aF2_r] using this
theorem m5 (x y : Int) : oF2 x y = oF2 y x := by
  have := three_all (P := fun x y _ => oF2 x y = oF2 y x) (by rintro a b c (rfl | rfl | rfl) (rfl | rfl | rfl) (rfl | rfl | rfl) <;> decide) x y 0
  simpa only [oF2_l, oF2_r] using this
theorem m6 (x y z : Int) : aF2 x (aF2 y z) = aF3 x y z := by
  have := three_all (P := fun x y z => aF2 x (aF2 y z) = aF3 x y z) (by rintro a b c (rfl | rfl | rfl) (rfl | rfl | rfl) (rfl | rfl | rfl) <;> decide) x y z
  simpa only [aF2_l, aF2_r, aF3_t] using this
theorem m7 (x y z : Int) : oF2 x (oF2 y z) = oF3 x y z := by
  have := three_all (P := fun x y z => oF2 x (oF2 y z) = oF3 x y z) (by rintro a b c (rfl | rfl | rfl) (rfl | rfl | rfl) (rfl | rfl | rfl) <;> decide) x y z
  simpa only [oF2_l, oF2_r, oF3_t] using this
theorem m8 (x y z : Int) : aF2 x (oF2 y z) = oF2 (aF2 x y) (aF2 x z) := by
  have := three_all (P := fun x y z => aF2 x (oF2 y z) = oF2 (aF2 x y) (aF2 x z)) (by rintro a b c (rfl | rfl | rfl) (rfl | rfl | rfl) (rfl | rfl | rfl) <;> decide) x y z
  simpa only [aF2_l, aF2_r, oF2_l, oF2_r] using this
theorem m9 (x y z : Int) : oF2 x (aF2 y z) = aF2 (oF2 x y) (oF2 x z) := by
  have := three_all (P := fun x y z => oF2 x (aF2 y z) = aF2 (oF2 x y) (oF2 x z)) (by rintro a b c (rfl | rfl | rfl) (rfl | rfl | rfl) (rfl | rfl | rfl) <;> decide) x y z
  simpa only [aF2_l, aF2_r, oF2_l, oF2_r] using this

theorem beq_of {a b : Int} (h : a = b) : (a == b) = true := by rw [h]; simp
theorem bne_of {a b : Int} (h : a = b) : (a != b) = false := by rw [h]; simp

end Go.Proofs.Ytgjhaanpkfheeaa
