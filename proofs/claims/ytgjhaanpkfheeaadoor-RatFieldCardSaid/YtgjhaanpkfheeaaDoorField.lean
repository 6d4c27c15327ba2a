/- Fractions are a field where nothing is over: plain laws. -/
import Derived.Test.YtgjhaanpkfheeaaDoorOrder
import Derived.Test.YtgjhaanpkfheeaaDoorDivP
namespace Go.Proofs.YtgjhaanpkfheeaaDoor
set_option linter.unusedVariables false
set_option linter.unusedSimpArgs false
open Go.RowKit

theorem ofQ_back {a : Rt} (h : sureB a = true) (h64 : Is64 a) : ofQ (toQ a) = a := ofQ_toQ (sureB_iff.1 h) h64
theorem op2_add {a b : Rt} (ha : sureB a = true) (hb : sureB b = true) : op2 addF a b = ofQ (toQ a + toQ b) := by
  unfold op2; rw [ha, hb]; exact addF_toQ ha hb
theorem op2_mul {a b : Rt} (ha : sureB a = true) (hb : sureB b = true) : op2 mulF a b = ofQ (toQ a * toQ b) := by
  unfold op2; rw [ha, hb]; exact mulF_toQ ha hb
theorem op2_sure {op : Rt → Rt → Rt} {a b : Rt} (h : sureB (op2 op a b) = true) : sureB a = true ∧ sureB b = true := by
  unfold op2 at h
  cases ha : sureB a with
  | false => rw [ha, Bool.false_and, if_neg (by decide), sureB_over] at h; cases h
  | true =>
    cases hb : sureB b with
    | false => rw [ha, hb, if_neg (by decide), sureB_over] at h; cases h
    | true => exact ⟨rfl, rfl⟩
theorem add_sure {a b : Rt} (h : sureB (op2 addF a b) = true) : toQ (op2 addF a b) = toQ a + toQ b := by
  obtain ⟨ha, hb⟩ := op2_sure h
  rw [op2_add ha hb] at h ⊢
  exact ofQ_sure h
theorem mul_sure {a b : Rt} (h : sureB (op2 mulF a b) = true) : toQ (op2 mulF a b) = toQ a * toQ b := by
  obtain ⟨ha, hb⟩ := op2_sure h
  rw [op2_mul ha hb] at h ⊢
  exact ofQ_sure h
theorem same_of {x y : Rt} (hx : sureB x = true) (hy : sureB y = true) (h : toQ x = toQ y) : x = y := toQ_inj (sureB_iff.1 hx) (sureB_iff.1 hy) h

theorem f_add_comm {a b : Rt} (ha : sureB a = true) (hb : sureB b = true) : op2 addF a b = op2 addF b a := by
  rw [op2_add ha hb, op2_add hb ha, Rat.add_comm]
theorem f_mul_comm {a b : Rt} (ha : sureB a = true) (hb : sureB b = true) : op2 mulF a b = op2 mulF b a := by
  rw [op2_mul ha hb, op2_mul hb ha, Rat.mul_comm]
theorem ofQ_zero : ofQ 0 = (0, 1) := by decide
theorem ofQ_one : ofQ 1 = (1, 1) := by decide
theorem f_add_neg {a : Rt} (ha : sureB a = true) (h64 : Is64 a) : op2 addF a (negF a) = (0, 1) := by
  obtain ⟨h1, h2⟩ := negF_sure ha h64
  rw [op2_add ha h1, h2, Rat.add_neg_cancel, ofQ_zero]
theorem f_neg_neg {a : Rt} (ha : sureB a = true) (h64 : Is64 a) : negF (negF a) = a := by
  obtain ⟨h1, h2⟩ := negF_sure ha h64
  obtain ⟨h3, h4⟩ := negF_sure h1 (is64_negF h64)
  refine same_of h3 ha ?_
  rw [h4, h2, Rat.neg_neg]
/-- what was added is taken away -/
theorem f_sub {a b : Rt} (ha : sureB a = true) (hb : sureB b = true) (a64 : Is64 a) (b64 : Is64 b) (h : sureB (op2 addF a b) = true) : subF (op2 addF a b) b = a := by
  obtain ⟨h1, h2⟩ := negF_sure hb b64
  unfold subF
  rw [foldR_two, op2_add h h1, add_sure h, h2, Rat.add_assoc, Rat.add_neg_cancel, Rat.add_zero, ofQ_back ha a64]

theorem turn_inv {b : Rt} (hb : sureB b = true) (h0 : b.1 ≠ 0) : toQ b * toQ (turnF b) = 1 := by
  obtain ⟨n, d⟩ := b
  have hd := sureB_den hb
  simp only at hd h0
  unfold toQ turnF
  by_cases hn : n < 0
  · rw [if_pos hn]
    show mkRat n d.toNat * mkRat (-d) (-n).toNat = 1
    rw [Rat.mkRat_mul_mkRat, show (1 : Rat) = mkRat 1 1 by decide, Rat.mkRat_eq_iff (Nat.ne_of_gt (Nat.mul_pos (by omega) (by omega))) (by decide)]
    rw [Int.natCast_mul, show ((d.toNat : Nat) : Int) = d by omega, show (((-n).toNat : Nat) : Int) = -n by omega]
    simp [Int.mul_comm, Int.mul_neg]
  · rw [if_neg hn]
    show mkRat n d.toNat * mkRat d n.toNat = 1
    rw [Rat.mkRat_mul_mkRat, show (1 : Rat) = mkRat 1 1 by decide, Rat.mkRat_eq_iff (Nat.ne_of_gt (Nat.mul_pos (by omega) (by omega))) (by decide)]
    rw [Int.natCast_mul, show ((d.toNat : Nat) : Int) = d by omega, show ((n.toNat : Nat) : Int) = n by omega]
    simp [Int.mul_comm]

/-- what was multiplied by is taken away -/
theorem f_div {a b : Rt} (ha : sureB a = true) (hb : sureB b = true) (a64 : Is64 a) (b64 : Is64 b) (h0 : b.1 ≠ 0) (h : sureB (op2 mulF a b) = true) : divF (op2 mulF a b) b = a := by
  obtain ⟨t1, _⟩ := turn_sure hb b64 h0
  rw [← div_fold _ _ hb b64 h0, foldR_two, op2_mul h t1, mul_sure h, Rat.mul_assoc, turn_inv hb h0, Rat.mul_one, ofQ_back ha a64]
theorem f_div_self {a : Rt} (ha : sureB a = true) (a64 : Is64 a) (h0 : a.1 ≠ 0) : divF a a = (1, 1) := by
  obtain ⟨t1, _⟩ := turn_sure ha a64 h0
  rw [← div_fold _ _ ha a64 h0, foldR_two, op2_mul ha t1, turn_inv ha h0, ofQ_one]

theorem f_over {a b c : Rt} (hx : sureB (op2 mulF a (op2 addF b c)) = true) (hy : sureB (op2 addF (op2 mulF a b) (op2 mulF a c)) = true) : op2 mulF a (op2 addF b c) = op2 addF (op2 mulF a b) (op2 mulF a c) := by
  refine same_of hx hy ?_
  rw [mul_sure hx, add_sure (op2_sure hx).2, add_sure hy, mul_sure (op2_sure hy).1, mul_sure (op2_sure hy).2, Rat.mul_add]
theorem f_add_assoc {a b c : Rt} (hx : sureB (op2 addF (op2 addF a b) c) = true) (hy : sureB (op2 addF a (op2 addF b c)) = true) : op2 addF (op2 addF a b) c = op2 addF a (op2 addF b c) := by
  refine same_of hx hy ?_
  rw [add_sure hx, add_sure (op2_sure hx).1, add_sure hy, add_sure (op2_sure hy).2, Rat.add_assoc]
theorem f_mul_assoc {a b c : Rt} (hx : sureB (op2 mulF (op2 mulF a b) c) = true) (hy : sureB (op2 mulF a (op2 mulF b c)) = true) : op2 mulF (op2 mulF a b) c = op2 mulF a (op2 mulF b c) := by
  refine same_of hx hy ?_
  rw [mul_sure hx, mul_sure (op2_sure hx).1, mul_sure hy, mul_sure (op2_sure hy).2, Rat.mul_assoc]

end Go.Proofs.YtgjhaanpkfheeaaDoor
