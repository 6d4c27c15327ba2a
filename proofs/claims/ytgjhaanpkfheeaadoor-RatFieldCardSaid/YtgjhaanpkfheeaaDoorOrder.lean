/- The order of fractions: plain laws by rationals. -/
import Derived.Test.YtgjhaanpkfheeaaDoorSub
namespace Go.Proofs.YtgjhaanpkfheeaaDoor
set_option linter.unusedVariables false
set_option linter.unusedSimpArgs false
open Go.RowKit

/-- how two rationals stand -/
def cmpQ (p q : Rat) : Int := if p < q then -1 else if q < p then 1 else 0

theorem cmpI_Q {a b : Rt} (ha : Sure a) (hb : Sure b) : cmpI a b = cmpQ (toQ a) (toQ b) := by
  unfold cmpI cmpQ
  simp only [Rat.lt_iff, toQ_num ha, toQ_num hb, toQ_den ha, toQ_den hb]

theorem cmpR_sure {a b : Rt} (ha : sureB a = true) (hb : sureB b = true) : cmpR a b = cmpQ (toQ a) (toQ b) := by
  unfold cmpR
  rw [ha, hb, ← cmpI_Q (sureB_iff.1 ha) (sureB_iff.1 hb)]
  rfl

theorem cmpQ_zero (p q : Rat) : cmpQ p q = 0 ↔ p = q := by
  unfold cmpQ
  constructor
  · intro h
    by_cases h1 : p < q
    · rw [if_pos h1] at h; omega
    · by_cases h2 : q < p
      · rw [if_neg h1, if_pos h2] at h; omega
      · exact Rat.le_antisymm (Rat.not_lt.1 h2) (Rat.not_lt.1 h1)
  · intro h
    subst h
    rw [if_neg Rat.lt_irrefl, if_neg Rat.lt_irrefl]

theorem cmpQ_three (p q : Rat) : cmpQ p q = -1 ∨ cmpQ p q = 0 ∨ cmpQ p q = 1 := by
  unfold cmpQ
  split
  · exact Or.inl rfl
  · split
    · exact Or.inr (Or.inr rfl)
    · exact Or.inr (Or.inl rfl)

theorem cmpQ_turn (p q : Rat) : cmpQ q p = -cmpQ p q := by
  unfold cmpQ
  by_cases h1 : p < q
  · have h2 : ¬ q < p := fun h => (Rat.lt_iff_le_and_not_ge.1 h1).2 (Rat.lt_iff_le_and_not_ge.1 h).1
    rw [if_pos h1, if_neg h2, if_pos h1]; rfl
  · by_cases h2 : q < p
    · rw [if_pos h2, if_neg h1, if_pos h2]
    · rw [if_neg h2, if_neg h1, if_neg h1, if_neg h2]; rfl

theorem cmpQ_neg (p q : Rat) : cmpQ (-p) (-q) = cmpQ q p := by
  unfold cmpQ
  simp only [Rat.neg_lt_neg_iff]

theorem cmpQ_add (p q r : Rat) : cmpQ (p + r) (q + r) = cmpQ p q := by
  unfold cmpQ
  simp only [Rat.add_lt_add_right]

theorem cmpQ_neg1 (p q : Rat) : cmpQ p q = -1 ↔ p < q := by
  unfold cmpQ
  constructor
  · intro h
    by_cases h1 : p < q
    · exact h1
    · rw [if_neg h1] at h; split at h <;> omega
  · intro h; rw [if_pos h]
theorem cmpQ_one (p q : Rat) : cmpQ p q = 1 ↔ q < p := by
  rw [← cmpQ_neg1, cmpQ_turn]; omega

/-- the order goes on -/
theorem cmpQ_trans (p q r : Rat) (h1 : cmpQ p q ≤ 0) (h2 : cmpQ q r ≤ 0) : cmpQ p r ≤ 0 ∧ (cmpQ p q < 0 ∨ cmpQ q r < 0 → cmpQ p r = -1) := by
  have a1 : p ≤ q := Rat.not_lt.1 fun h => by have := (cmpQ_one p q).2 h; omega
  have a2 : q ≤ r := Rat.not_lt.1 fun h => by have := (cmpQ_one q r).2 h; omega
  have a3 : p ≤ r := Rat.le_trans a1 a2
  constructor
  · rcases cmpQ_three p r with h | h | h
    · omega
    · omega
    · exact absurd ((cmpQ_one p r).1 h) (Rat.not_lt.2 a3)
  · intro h
    rw [cmpQ_neg1]
    refine Rat.not_le.1 fun hr => ?_
    have e : p = r := Rat.le_antisymm a3 hr
    subst e
    have e2 : p = q := Rat.le_antisymm a1 a2
    subst e2
    have := (cmpQ_zero p p).2 rfl
    omega

theorem toQ_neg (a : Rt) : toQ (-a.1, a.2) = -toQ a := by
  unfold toQ
  exact (Rat.neg_mkRat _ _).symm

theorem negF_sure {a : Rt} (h : sureB a = true) (h64 : Is64 a) : sureB (negF a) = true ∧ toQ (negF a) = -toQ a := by
  unfold negF
  rw [h, if_pos rfl]
  refine ⟨?_, toQ_neg a⟩
  obtain ⟨s1, s2, s3⟩ := sureB_iff.1 h
  obtain ⟨b1, b2, b3, b4⟩ := h64
  rw [sureB_iff]
  refine ⟨s1, ?_, ?_⟩
  · show -a.1 ≠ _; omega
  · show Nat.gcd (-a.1).natAbs _ = 1
    rw [Int.natAbs_neg]; exact s3

theorem addF_toQ {a b : Rt} (ha : sureB a = true) (hb : sureB b = true) : addF a b = ofQ (toQ a + toQ b) :=
  (toQ_add (sureB_den ha) (sureB_den hb)).symm
theorem mulF_toQ {a b : Rt} (ha : sureB a = true) (hb : sureB b = true) : mulF a b = ofQ (toQ a * toQ b) :=
  (toQ_mul (sureB_den ha) (sureB_den hb)).symm

theorem ofQ_sure {q : Rat} (h : sureB (ofQ q) = true) : toQ (ofQ q) = q := by
  rcases sure_ofQ q with h0 | ⟨_, _, h1⟩
  · rw [h0] at h; exact absurd (sureB_iff.1 h) not_sure_over
  · exact h1

/-- what is added to both does not turn the order -/
theorem cmp_added {a b c : Rt} (ha : sureB a = true) (hb : sureB b = true) (hc : sureB c = true) (hp : sureB (addF a c) = true) (hq : sureB (addF b c) = true) :
    cmpR (addF a c) (addF b c) = cmpR a b := by
  rw [cmpR_sure hp hq, cmpR_sure ha hb]
  rw [addF_toQ ha hc] at hp ⊢
  rw [addF_toQ hb hc] at hq ⊢
  rw [ofQ_sure hp, ofQ_sure hq, cmpQ_add]

theorem cmpR_zero {a b : Rt} (ha : sureB a = true) (hb : sureB b = true) : cmpR a b = 0 ↔ a = b := by
  rw [cmpR_sure ha hb, cmpQ_zero]
  exact ⟨toQ_inj (sureB_iff.1 ha) (sureB_iff.1 hb), fun h => by rw [h]⟩

theorem cmpR_turn {a b : Rt} (ha : sureB a = true) (hb : sureB b = true) : cmpR b a = -cmpR a b := by
  rw [cmpR_sure hb ha, cmpR_sure ha hb, cmpQ_turn]

theorem cmpR_negs {a b : Rt} (ha : sureB a = true) (hb : sureB b = true) (a64 : Is64 a) (b64 : Is64 b) : cmpR (negF a) (negF b) = cmpR b a := by
  obtain ⟨s1, e1⟩ := negF_sure ha a64
  obtain ⟨s2, e2⟩ := negF_sure hb b64
  rw [cmpR_sure s1 s2, cmpR_sure hb ha, e1, e2, cmpQ_neg]

theorem cmpR_trans {a b c : Rt} (ha : sureB a = true) (hb : sureB b = true) (hc : sureB c = true) (h1 : cmpR a b ≤ 0) (h2 : cmpR b c ≤ 0) :
    cmpR a c ≤ 0 ∧ (cmpR a b < 0 ∨ cmpR b c < 0 → cmpR a c = -1) := by
  rw [cmpR_sure ha hb] at h1 ⊢
  rw [cmpR_sure hb hc] at h2 ⊢
  rw [cmpR_sure ha hc]
  exact cmpQ_trans _ _ _ h1 h2

/-- the least or greatest of three is one of them -/
theorem firstG_three (s : Int) {a b c : Rt} (ha : sureB a = true) (hb : sureB b = true) (hc : sureB c = true) :
    firstG s true (0, 0) [a, b, c] = a ∨ firstG s true (0, 0) [a, b, c] = b ∨ firstG s true (0, 0) [a, b, c] = c := by
  simp only [firstG, ha, hb, hc, if_true, Bool.true_or, Bool.false_or]
  (repeat' split) <;> simp

end Go.Proofs.YtgjhaanpkfheeaaDoor
