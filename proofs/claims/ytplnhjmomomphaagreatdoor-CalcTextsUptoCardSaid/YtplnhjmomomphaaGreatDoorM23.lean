/- Of my texts: PlainM. -/
import Derived.Test.YtplnhjmomomphaaGreatDoorM05
import Derived.Test.YtplnhjmomomphaaGreatDoorM06
import Derived.Lib.TrailingZeros
namespace Go.Proofs.YtplnhjmomomphaaGreatDoor
set_option linter.unusedVariables false
set_option linter.unusedSimpArgs false
open Go.Lib
/-- the reference's way down: tens, fives, twos off the denominator; what is written, and how many places behind the point -/
def refL (n d p : Nat) : Option (Nat × Nat) :=
 if _h : d ≤ 1 then some (n, p)
 else if d % 2 ≠ 0 ∧ d % 5 ≠ 0 then none
 else if d % 10 = 0 then refL n (d / 10) (p + 1)
 else if d % 5 = 0 then (if 1000000000000000000 ≤ n then none else refL (n * 2) (d / 5) (p + 1))
 else (if 1000000000000000000 ≤ n then none else refL (n * 5) (d / 2) (p + 1))
termination_by d
decreasing_by all_goals omega
theorem refL_one (n p : Nat) : refL n 1 p = some (n, p) := by rw [refL, dif_pos (by omega)]
theorem refL_none {n d p : Nat} (h1 : 1 < d) (h2 : d % 2 ≠ 0) (h5 : d % 5 ≠ 0) : refL n d p = none := by
 rw [refL, dif_neg (by omega), if_pos ⟨h2, h5⟩]
theorem refL_ten {n d p : Nat} (h1 : 1 < d) (h : d % 10 = 0) : refL n d p = refL n (d / 10) (p + 1) := by
 rw [refL, dif_neg (by omega), if_neg (by omega), if_pos h]
theorem refL_five {n d p : Nat} (h1 : 1 < d) (h2 : d % 10 ≠ 0) (h5 : d % 5 = 0) : refL n d p = if 1000000000000000000 ≤ n then none else refL (n * 2) (d / 5) (p + 1) := by
 rw [refL, dif_neg (by omega), if_neg (by omega), if_neg h2, if_pos h5]
theorem refL_two {n d p : Nat} (h1 : 1 < d) (h2 : d % 2 = 0) (h5 : d % 5 ≠ 0) : refL n d p = if 1000000000000000000 ≤ n then none else refL (n * 5) (d / 2) (p + 1) := by
 rw [refL, dif_neg (by omega), if_neg (by omega), if_neg (by omega), if_neg h5]
/-- what is written stays small -/
theorem refL_le : ∀ (d n p num q : Nat), n ≤ 9223372036854775807 → refL n d p = some (num, q) → num ≤ 9223372036854775807 ∧ q ≤ p + d := by
 intro d
 induction d using Nat.strongRecOn with
 | _ d ih =>
   intro n p num q hd h
   rw [refL] at h
   split at h
   · obtain ⟨rfl, rfl⟩ := Prod.mk.inj (Option.some.inj h)
     exact ⟨hd, by omega⟩
   · split at h
     · cases h
     · split at h
       · have := ih (d / 10) (by omega) _ _ _ _ hd h
         omega
       · split at h
         · split at h
           · cases h
           · have := ih (d / 5) (by omega) _ _ _ _ (by omega) h
             omega
         · split at h
           · cases h
           · have := ih (d / 2) (by omega) _ _ _ _ (by omega) h
             omega
/-- times g, so often, in the reference and in the program -/
def ref18 (g : Nat) : Nat → Nat → Option Nat
 | 0, n => some n
 | k + 1, n => if 1000000000000000000 ≤ n then none else ref18 g k (n * g)
def prg18 (g : Nat) : Nat → Nat → Option Nat
 | 0, n => some n
 | k + 1, n => if 1000000000000000000 < n then none else prg18 g k (n * g)
theorem agree_five : ∀ (k n : Nat), n % 2 ≠ 0 → ref18 5 k n = prg18 5 k n := by
 intro k
 induction k with
 | zero => intro n _; rfl
 | succ k ih =>
   intro n h
   rw [ref18, prg18, ih (n * 5) (by omega)]
   by_cases h1 : 1000000000000000000 < n
   · rw [if_pos h1, if_pos (by omega)]
   · rw [if_neg h1, if_neg (by omega)]
theorem agree_two : ∀ (k n : Nat), n % 5 ≠ 0 → ref18 2 k n = prg18 2 k n := by
 intro k
 induction k with
 | zero => intro n _; rfl
 | succ k ih =>
   intro n h
   rw [ref18, prg18, ih (n * 2) (by omega)]
   by_cases h1 : 1000000000000000000 < n
   · rw [if_pos h1, if_pos (by omega)]
   · rw [if_neg h1, if_neg (by omega)]
theorem two_five : ∀ (t m : Nat), m % 5 ≠ 0 → (2 ^ t * m) % 5 ≠ 0 := by
 intro t
 induction t with
 | zero => intro m h; rw [Nat.pow_zero, Nat.one_mul]; exact h
 | succ t ih =>
   intro m h
   have := ih m h
   rw [Nat.pow_succ, Nat.mul_comm (2 ^ t) 2, Nat.mul_assoc]
   generalize 2 ^ t * m = x at *
   omega
theorem five_two : ∀ (t m : Nat), m % 2 ≠ 0 → (5 ^ t * m) % 2 ≠ 0 := by
 intro t
 induction t with
 | zero => intro m h; rw [Nat.pow_zero, Nat.one_mul]; exact h
 | succ t ih =>
   intro m h
   have := ih m h
   rw [Nat.pow_succ, Nat.mul_comm (5 ^ t) 5, Nat.mul_assoc]
   generalize 5 ^ t * m = x at *
   omega
theorem parts25 (n : Nat) : 1 ≤ n → ∃ t f m, n = 2 ^ t * (5 ^ f * m) ∧ m % 2 ≠ 0 ∧ m % 5 ≠ 0 := by
 induction n using Nat.strongRecOn with
 | _ n ih =>
   intro h
   by_cases h2 : n % 2 = 0
   · obtain ⟨t, f, m, e, h3, h4⟩ := ih (n / 2) (by omega) (by omega)
     refine ⟨t + 1, f, m, ?_, h3, h4⟩
     rw [Nat.pow_succ, Nat.mul_comm (2 ^ t) 2, Nat.mul_assoc, ← e]
     omega
   · by_cases h5 : n % 5 = 0
     · obtain ⟨t, f, m, e, h3, h4⟩ := ih (n / 5) (by omega) (by omega)
       refine ⟨t, f + 1, m, ?_, h3, h4⟩
       rw [Nat.pow_succ, Nat.mul_comm (5 ^ f) 5, Nat.mul_assoc, ← Nat.mul_assoc (2 ^ t) 5, Nat.mul_comm (2 ^ t) 5, Nat.mul_assoc, ← e]
       omega
     · exact ⟨0, 0, n, by simp, h2, h5⟩
theorem bind_none {α β : Type} (o : Option α) : (o.bind fun _ => (none : Option β)) = none := by cases o <;> rfl
/-- the reference's way down by the twos and fives -/
theorem refL_parts : ∀ (t f m n p : Nat), m % 2 ≠ 0 → m % 5 ≠ 0 →
 refL n (2 ^ t * (5 ^ f * m)) p = (ref18 (if f ≤ t then 5 else 2) (if f ≤ t then t - f else f - t) n).bind fun num => if m = 1 then some (num, p + max t f) else none := by
 intro t
 induction t with
 | zero =>
   intro f
   induction f with
   | zero =>
     intro m n p h2 h5
     simp only [Nat.pow_zero, Nat.one_mul, Nat.le_refl, if_true, Nat.sub_self, ref18, Option.bind_some, Nat.max_self, Nat.add_zero]
     by_cases hm : m = 1
     · subst hm; rw [refL_one, if_pos rfl]
     · rw [refL_none (by omega) h2 h5, if_neg hm]
   | succ f ih =>
     intro m n p h2 h5
     have hx := five_two f m h2
     have hm : 1 ≤ m := by omega
     have hy : 1 ≤ 5 ^ f * m := Nat.mul_pos (Nat.pow_pos (by decide)) hm
     rw [Nat.pow_zero, Nat.one_mul, Nat.pow_succ, Nat.mul_comm (5 ^ f) 5, Nat.mul_assoc]
     have hi := ih m (n * 2) (p + 1) h2 h5
     rw [Nat.pow_zero, Nat.one_mul] at hi
     generalize 5 ^ f * m = x at *
     rw [refL_five (by omega) (by omega) (by omega), show 5 * x / 5 = x by omega, hi, if_neg (show ¬ f + 1 ≤ 0 by omega), if_neg (show ¬ f + 1 ≤ 0 by omega), show f + 1 - 0 = f + 1 from rfl, ref18]
     by_cases h : 1000000000000000000 ≤ n
     · rw [if_pos h, if_pos h, Option.bind_none]
     · rw [if_neg h, if_neg h]
       cases f with
       | zero =>
         simp [ref18]
       | succ f =>
         simp only [show ¬ f + 1 ≤ 0 by omega, if_false, Nat.sub_zero, Nat.zero_max, show p + 1 + (f + 1) = p + (f + 1 + 1) by omega]
 | succ t iht =>
   intro f
   cases f with
   | zero =>
     intro m n p h2 h5
     have hx := two_five t m h5
     have hm : 1 ≤ m := by omega
     have hy : 1 ≤ 2 ^ t * m := Nat.mul_pos (Nat.pow_pos (by decide)) hm
     have hi := iht 0 m (n * 5) (p + 1) h2 h5
     rw [Nat.pow_zero, Nat.one_mul] at hi
     rw [Nat.pow_zero, Nat.one_mul, Nat.pow_succ, Nat.mul_comm (2 ^ t) 2, Nat.mul_assoc]
     generalize 2 ^ t * m = x at *
     rw [refL_two (by omega) (by omega) (by omega), show 2 * x / 2 = x by omega, hi, if_pos (Nat.zero_le _), if_pos (Nat.zero_le _), if_pos (Nat.zero_le _), if_pos (Nat.zero_le _), Nat.sub_zero, Nat.sub_zero, ref18]
     by_cases h : 1000000000000000000 ≤ n
     · rw [if_pos h, if_pos h, Option.bind_none]
     · rw [if_neg h, if_neg h, Nat.max_zero, Nat.max_zero, show p + 1 + t = p + (t + 1) by omega]
   | succ f =>
     intro m n p h2 h5
     have hm : 1 ≤ m := by omega
     have hy : 1 ≤ 2 ^ t * (5 ^ f * m) := Nat.mul_pos (Nat.pow_pos (by decide)) (Nat.mul_pos (Nat.pow_pos (by decide)) hm)
     have e : 2 ^ (t + 1) * (5 ^ (f + 1) * m) = 10 * (2 ^ t * (5 ^ f * m)) := by
      rw [Nat.pow_succ, Nat.pow_succ, Nat.mul_comm (5 ^ f) 5, Nat.mul_comm (2 ^ t) 2, Nat.mul_assoc, Nat.mul_assoc, ← Nat.mul_assoc (2 ^ t) 5, Nat.mul_comm (2 ^ t) 5, Nat.mul_assoc 5, ← Nat.mul_assoc 2 5]
     have hi := iht f m n (p + 1) h2 h5
     rw [e]
     generalize 2 ^ t * (5 ^ f * m) = x at *
     rw [refL_ten (by omega) (by omega), show 10 * x / 10 = x by omega, hi, show p + 1 + max t f = p + max (t + 1) (f + 1) by omega]
     by_cases h : f ≤ t
     · rw [if_pos h, if_pos h, if_pos (show f + 1 ≤ t + 1 by omega), if_pos (show f + 1 ≤ t + 1 by omega), show t + 1 - (f + 1) = t - f by omega]
     · rw [if_neg h, if_neg h, if_neg (show ¬ f + 1 ≤ t + 1 by omega), if_neg (show ¬ f + 1 ≤ t + 1 by omega), show f + 1 - (t + 1) = f - t by omega]
/-- as the program multiplies: the twos that are lacking, then the fives -/
theorem refL_prog {t f m n : Nat} (h2 : m % 2 ≠ 0) (h5 : m % 5 ≠ 0) (hg : Nat.gcd n (2 ^ t * (5 ^ f * m)) = 1) :
 refL n (2 ^ t * (5 ^ f * m)) 0 = if m = 1 then ((prg18 2 (max t f - t) n).bind (prg18 5 (max t f - f))).map fun num => (num, max t f) else none := by
 rw [refL_parts t f m n 0 h2 h5, Nat.zero_add]
 have hodd : 0 < t → n % 2 ≠ 0 := by
  intro ht h
  have h3 : 2 ∣ Nat.gcd n (2 ^ t * (5 ^ f * m)) := Nat.dvd_gcd (Nat.dvd_of_mod_eq_zero h) (Nat.dvd_trans (Nat.dvd_trans ⟨2 ^ (t - 1), by rw [Nat.mul_comm, ← Nat.pow_succ, show (t - 1).succ = t by omega]⟩ (Nat.dvd_refl (2 ^ t))) (Nat.dvd_mul_right _ _))
  rw [hg] at h3
  exact absurd (Nat.le_of_dvd (by decide) h3) (by decide)
 have hfive : 0 < f → n % 5 ≠ 0 := by
  intro ht h
  have h3 : 5 ∣ Nat.gcd n (2 ^ t * (5 ^ f * m)) := Nat.dvd_gcd (Nat.dvd_of_mod_eq_zero h) (Nat.dvd_trans (Nat.dvd_trans ⟨5 ^ (f - 1), by rw [Nat.mul_comm, ← Nat.pow_succ, show (f - 1).succ = f by omega]⟩ (Nat.dvd_mul_right (5 ^ f) m)) (Nat.dvd_mul_left _ _))
  rw [hg] at h3
  exact absurd (Nat.le_of_dvd (by decide) h3) (by decide)
 by_cases h : f ≤ t
 · rw [if_pos h, if_pos h, show max t f - t = 0 by omega, show max t f - f = t - f by omega]
   have hp : ref18 5 (t - f) n = prg18 5 (t - f) n := by
    rcases Nat.eq_zero_or_pos (t - f) with h0 | h0
    · rw [h0]; rfl
    · exact agree_five _ _ (hodd (by omega))
   rw [hp, prg18, Option.bind_some]
   by_cases hm : m = 1
   · simp only [hm, if_true]; cases prg18 5 (t - f) n <;> rfl
   · simp only [hm, if_false]; exact bind_none _
 · rw [if_neg h, if_neg h, show max t f - t = f - t by omega, show max t f - f = 0 by omega]
   have hp : ref18 2 (f - t) n = prg18 2 (f - t) n := agree_two _ _ (hfive (by omega))
   rw [hp]
   by_cases hm : m = 1
   · simp only [hm, if_true]; cases prg18 2 (f - t) n <;> rfl
   · simp only [hm, if_false]; exact bind_none _
/-- with noughts ahead, so that one digit stands before the point -/
def padF (D : List UInt8) (k : Nat) : List UInt8 := if D.length ≤ k then List.replicate (k + 1 - D.length) 48 ++ D else D
/-- the text of a number with so many places behind the point -/
def plainT (neg : Bool) (num k : Nat) (whole : Bool) : List UInt8 :=
 (if neg then [45] else []) ++ (padF (decDigits num) k).take ((padF (decDigits num) k).length - k) ++
   (if whole then [] else 46 :: ((padF (decDigits num) k).drop ((padF (decDigits num) k).length - k) ++ if k = 0 then [48] else []))
def ninesT : List UInt8 := List.replicate 20 57
def farT : List UInt8 := [49, 101, 57, 57]
/-- a fraction as a number of a stylesheet; none: it cannot be written -/
def plainF (r : Rt) (whole : Bool) : Option (List UInt8) :=
 if mayB r = false ∨ (whole = true ∧ 1 < r.2) then none else
  if r.2 = 0 then some (if whole then ninesT else farT) else
   match refL r.1.natAbs r.2.toNat 0 with
   | none => none
   | some (num, k) => if 18 < (trimR (decDigits num)).length then none else some (plainT (decide (r.1 < 0)) num k whole)
theorem padF_len (D : List UInt8) (k : Nat) : k < (padF D k).length := by
 unfold padF
 split
 · rw [List.length_append, List.length_replicate]; omega
 · omega
theorem refL_few : ∀ (d n p num q : Nat), 1 ≤ d → refL n d p = some (num, q) → p ≤ q ∧ 2 ^ (q - p) ≤ d := by
 intro d
 induction d using Nat.strongRecOn with
 | _ d ih =>
   intro n p num q hd h
   have key : ∀ e n', e < d → 1 ≤ e → 2 * e ≤ d → refL n' e (p + 1) = some (num, q) → p ≤ q ∧ 2 ^ (q - p) ≤ d := by
    intro e n' h1 h2 h3 h4
    obtain ⟨i1, i2⟩ := ih e h1 _ _ _ _ h2 h4
    refine ⟨by omega, ?_⟩
    rw [show q - p = (q - (p + 1)) + 1 by omega, Nat.pow_succ]
    omega
   rw [refL] at h
   split at h
   · obtain ⟨rfl, rfl⟩ := Prod.mk.inj (Option.some.inj h)
     simp
     omega
   · split at h
     · cases h
     · split at h
       · exact key _ _ (by omega) (by omega) (by omega) h
       · split at h
         · split at h
           · cases h
           · exact key _ _ (by omega) (by omega) (by omega) h
         · split at h
           · cases h
           · exact key _ _ (by omega) (by omega) (by omega) h
theorem refL_62 {d n num q : Nat} (h1 : 1 ≤ d) (h2 : d ≤ 9223372036854775807) (h : refL n d 0 = some (num, q)) : q ≤ 62 := by
 obtain ⟨_, h3⟩ := refL_few d n 0 num q h1 h
 rw [Nat.sub_zero] at h3
 refine Nat.le_of_not_lt fun hlt => ?_
 have h4 : (2 : Nat) ^ 63 ≤ 2 ^ q := Nat.pow_le_pow_right (by decide) (by omega)
 rw [two_63] at h4
 omega
/-- how many twos and fives there can be -/
theorem parts_few {t f m : Nat} (h : 2 ^ t * (5 ^ f * m) ≤ 9223372036854775807) (hm : 1 ≤ m) : t ≤ 62 ∧ f ≤ 62 := by
 have a1 : 2 ^ t ≤ 9223372036854775807 := Nat.le_trans (Nat.le_mul_of_pos_right _ (Nat.mul_pos (Nat.pow_pos (by decide)) hm)) h
 have a2 : 5 ^ f ≤ 9223372036854775807 := Nat.le_trans (Nat.le_trans (Nat.le_mul_of_pos_right _ hm) (Nat.le_mul_of_pos_left _ (Nat.pow_pos (by decide)))) h
 have a3 : (2 : Nat) ^ f ≤ 5 ^ f := Nat.pow_le_pow_left (by decide) f
 constructor
 · refine Nat.le_of_not_lt fun hlt => ?_
   have h4 : (2 : Nat) ^ 63 ≤ 2 ^ t := Nat.pow_le_pow_right (by decide) (by omega)
   rw [two_63] at h4
   omega
 · refine Nat.le_of_not_lt fun hlt => ?_
   have h4 : (2 : Nat) ^ 63 ≤ 2 ^ f := Nat.pow_le_pow_right (by decide) (by omega)
   rw [two_63] at h4
   omega
end Go.Proofs.YtplnhjmomomphaaGreatDoor
