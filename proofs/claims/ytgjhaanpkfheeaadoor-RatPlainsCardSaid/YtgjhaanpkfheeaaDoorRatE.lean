/- Which of two is greater, in the program. -/
import Derived.Test.YtgjhaanpkfheeaaDoorRatC
import Derived.Test.YtgjhaanpkfheeaaDoorWideB
namespace Go.Proofs.YtgjhaanpkfheeaaDoor
set_option linter.unusedVariables false
set_option linter.unusedSimpArgs false
open Go.RowKit

/-- how two stand -/
def cmpR (a b : Rt) : Int := if sureB a && sureB b then cmpI a b else 0

theorem sureB_den {r : Rt} (h : sureB r = true) : 1 ≤ r.2 := by
  unfold sureB at h
  simp only [Bool.and_eq_true, decide_eq_true_eq] at h
  exact h.1.1
theorem sureB_num {r : Rt} (h : sureB r = true) : r.1 ≠ -9223372036854775808 := by
  unfold sureB at h
  simp only [Bool.and_eq_true, bne_iff_ne] at h
  exact h.1.2
theorem sureB_iff {r : Rt} : sureB r = true ↔ Sure r := by
  unfold sureB Sure
  simp only [Bool.and_eq_true, decide_eq_true_eq, bne_iff_ne, beq_iff_eq, and_assoc]

def cmpN (a b : Nat) : Int := if a < b then -1 else if b < a then 1 else 0

def cmp4 (ah al bh bl : Nat) : Int := if ah < bh ∨ ah = bh ∧ al < bl then -1 else if bh < ah ∨ bh = ah ∧ bl < al then 1 else 0
theorem cmpN_4 (a b : Nat) : cmpN a b = cmp4 (a / 18446744073709551616) (a % 18446744073709551616) (b / 18446744073709551616) (b % 18446744073709551616) := by
  unfold cmpN cmp4
  have h1 : (a < b) = (a / 18446744073709551616 < b / 18446744073709551616 ∨ a / 18446744073709551616 = b / 18446744073709551616 ∧ a % 18446744073709551616 < b % 18446744073709551616) := propext (by omega)
  have h2 : (b < a) = (b / 18446744073709551616 < a / 18446744073709551616 ∨ b / 18446744073709551616 = a / 18446744073709551616 ∧ b % 18446744073709551616 < a % 18446744073709551616) := propext (by omega)
  simp only [h1, h2]

theorem cmpI_cases {a b : Rt} (d1 : 1 ≤ a.2) (d2 : 1 ≤ b.2) : cmpI a b = (if a.1 < 0 then (if b.1 < 0 then cmpN (crossA b a) (crossA a b) else -1) else if b.1 < 0 then 1 else cmpN (crossA a b) (crossA b a)) := by
  by_cases s1 : a.1 < 0
  · by_cases s2 : b.1 < 0
    · rw [cmpI_neg d1 d2 s1 s2, if_pos s1, if_pos s2]; rfl
    · rw [cmpI_signs d1 d2 s1 s2, if_pos s1, if_neg s2]
  · by_cases s2 : b.1 < 0
    · rw [cmpI_signs' d1 d2 s1 s2, if_neg s1, if_pos s2]
    · rw [cmpI_pos d1 d2 s1 s2, if_neg s1, if_neg s2]; rfl

theorem ret_ib {k : IntKind} {a c : Int} {b d : Bool} (h1 : a = c) (h2 : b = d) : Ending.returned (.tuple #[.int k a, .bool b]) = .returned (.tuple #[.int k c, .bool d]) := by rw [h1, h2]

end Go.Proofs.YtgjhaanpkfheeaaDoor
