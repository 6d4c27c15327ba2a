/- Of my texts: PlainM. -/
import Derived.Test.YtplnhjmomomphaaGreatDoorM05
import Derived.Test.YtplnhjmomomphaaGreatDoorM06
import Derived.Lib.TrailingZeros
namespace Go.Proofs.YtplnhjmomomphaaGreatDoor
set_option linter.unusedVariables false
set_option linter.unusedSimpArgs false
open Go.Lib
/-- the reference's way down: tens, fives, twos off the denominator; what is written, and how many places behind the point -/
def refL (n d p : Nat) : Option (Nat × Nat) :=
 if _h : d ≤ 1 then some (n, p)
 else if d % 2 ≠ 0 ∧ d % 5 ≠ 0 then none
 else if d % 10 = 0 then refL n (d / 10) (p + 1)
 else if d % 5 = 0 then (if 1000000000000000000 ≤ n then none else refL (n * 2) (d / 5) (p + 1))
 else (if 1000000000000000000 ≤ n then none else refL (n * 5) (d / 2) (p + 1))
termination_by d
decreasing_by all_goals omega
theorem refL_one (n p : Nat) : refL n 1 p = some (n, p) := by rw [refL, dif_pos (by omega)]
theorem refL_none {n d p : Nat} (h1 : 1 < d) (h2 : d % 2 ≠ 0) (h5 : d % 5 ≠ 0) : refL n d p = none := by
 rw [refL, dif_neg (by omega), if_pos ⟨h2, h5⟩]
theorem refL_ten {n d p : Nat} (h1 : 1 < d) (h : d % 10 = 0) : refL n d p = refL n (d / 10) (p + 1) := by
 rw [refL, dif_neg (by omega), if_neg (by omega), if_pos h]
theorem refL_five {n d p : Nat} (h1 : 1 < d) (h2 : d % 10 ≠ 0) (h5 : d % 5 = 0) : refL n d p = if 1000000000000000000 ≤ n then none else refL (n * 2) (d / 5) (p + 1) := by
 rw [refL, dif_neg (by omega), if_neg (by omega), if_neg h2, if_pos h5]
theorem refL_two {n d p : Nat} (h1 : 1 < d) (h2 : d % 2 = 0) (h5 : d % 5 ≠ 0) : refL n d p = if 1000000000000000000 ≤ n then none else refL (n * 5) (d / 2) (p + 1) := by
 rw [refL, dif_neg (by omega), if_neg (by omega), if_neg (by omega), if_neg h5]
theorem refL_val : ∀ (d n p num q : Nat), 1 ≤ d → refL n d p = some (num, q) → p ≤ q ∧ num * d = n * 10 ^ (q - p) := by
 intro d
 induction d using Nat.strongRecOn with
 | _ d ih =>
   intro n p num q hd h
   rw [refL] at h
   split at h
   · obtain ⟨rfl, rfl⟩ := Prod.mk.inj (Option.some.inj h)
     obtain rfl : d = 1 := by omega
     simp
   · split at h
     · cases h
     · split at h
       · obtain ⟨h1, h2⟩ := ih (d / 10) (by omega) _ _ _ _ (by omega) h
         refine ⟨by omega, ?_⟩
         obtain ⟨e, he⟩ : ∃ e, d = 10 * e := ⟨d / 10, by omega⟩
         subst he
         rw [show 10 * e / 10 = e by omega] at h2
         rw [show q - p = (q - (p + 1)) + 1 by omega, Nat.pow_succ, ← Nat.mul_assoc n, ← h2]
         rw [Nat.mul_comm 10 e, ← Nat.mul_assoc]
       · split at h
         · split at h
           · cases h
           · obtain ⟨h1, h2⟩ := ih (d / 5) (by omega) _ _ _ _ (by omega) h
             refine ⟨by omega, ?_⟩
             obtain ⟨e, he⟩ : ∃ e, d = 5 * e := ⟨d / 5, by omega⟩
             subst he
             rw [show 5 * e / 5 = e by omega] at h2
             rw [show q - p = (q - (p + 1)) + 1 by omega, Nat.pow_succ, Nat.mul_comm 5 e, ← Nat.mul_assoc, h2]
             generalize 10 ^ (q - (p + 1)) = T
             rw [Nat.mul_assoc n 2 T, Nat.mul_comm 2 T, Nat.mul_assoc n, Nat.mul_assoc T]
         · split at h
           · cases h
           · obtain ⟨h1, h2⟩ := ih (d / 2) (by omega) _ _ _ _ (by omega) h
             refine ⟨by omega, ?_⟩
             obtain ⟨e, he⟩ : ∃ e, d = 2 * e := ⟨d / 2, by omega⟩
             subst he
             rw [show 2 * e / 2 = e by omega] at h2
             rw [show q - p = (q - (p + 1)) + 1 by omega, Nat.pow_succ, Nat.mul_comm 2 e, ← Nat.mul_assoc, h2]
             generalize 10 ^ (q - (p + 1)) = T
             rw [Nat.mul_assoc n 5 T, Nat.mul_comm 5 T, Nat.mul_assoc n, Nat.mul_assoc T]
/-- what is written stays small -/
theorem refL_le : ∀ (d n p num q : Nat), n ≤ 9223372036854775807 → refL n d p = some (num, q) → num ≤ 9223372036854775807 ∧ q ≤ p + d := by
 intro d
 induction d using Nat.strongRecOn with
 | _ d ih =>
   intro n p num q hd h
   rw [refL] at h
   split at h
   · obtain ⟨rfl, rfl⟩ := Prod.mk.inj (Option.some.inj h)
     exact ⟨hd, by omega⟩
   · split at h
     · cases h
     · split at h
       · have := ih (d / 10) (by omega) _ _ _ _ hd h
         omega
       · split at h
         · split at h
           · cases h
           · have := ih (d / 5) (by omega) _ _ _ _ (by omega) h
             omega
         · split at h
           · cases h
           · have := ih (d / 2) (by omega) _ _ _ _ (by omega) h
             omega
/-- times g, so often, in the reference and in the program -/
def ref18 (g : Nat) : Nat → Nat → Option Nat
 | 0, n => some n
 | k + 1, n => if 1000000000000000000 ≤ n then none else ref18 g k (n * g)
def prg18 (g : Nat) : Nat → Nat → Option Nat
 | 0, n => some n
 | k + 1, n => if 1000000000000000000 < n then none else prg18 g k (n * g)
theorem agree_five : ∀ (k n : Nat), n % 2 ≠ 0 → ref18 5 k n = prg18 5 k n := by
 intro k
 induction k with
 | zero => intro n _; rfl
 | succ k ih =>
   intro n h
   rw [ref18, prg18, ih (n * 5) (by omega)]
   by_cases h1 : 1000000000000000000 < n
   · rw [if_pos h1, if_pos (by omega)]
   · rw [if_neg h1, if_neg (by omega)]
theorem agree_two : ∀ (k n : Nat), n % 5 ≠ 0 → ref18 2 k n = prg18 2 k n := by
 intro k
 induction k with
 | zero => intro n _; rfl
 | succ k ih =>
   intro n h
   rw [ref18, prg18, ih (n * 2) (by omega)]
   by_cases h1 : 1000000000000000000 < n
   · rw [if_pos h1, if_pos (by omega)]
   · rw [if_neg h1, if_neg (by omega)]
theorem two_five : ∀ (t m : Nat), m % 5 ≠ 0 → (2 ^ t * m) % 5 ≠ 0 := by
 intro t
 induction t with
 | zero => intro m h; rw [Nat.pow_zero, Nat.one_mul]; exact h
 | succ t ih =>
   intro m h
   have := ih m h
   rw [Nat.pow_succ, Nat.mul_comm (2 ^ t) 2, Nat.mul_assoc]
   generalize 2 ^ t * m = x at *
   omega
theorem five_two : ∀ (t m : Nat), m % 2 ≠ 0 → (5 ^ t * m) % 2 ≠ 0 := by
 intro t
 induction t with
 | zero => intro m h; rw [Nat.pow_zero, Nat.one_mul]; exact h
 | succ t ih =>
   intro m h
   have := ih m h
   rw [Nat.pow_succ, Nat.mul_comm (5 ^ t) 5, Nat.mul_assoc]
   generalize 5 ^ t * m = x at *
   omega
theorem parts25 (n : Nat) : 1 ≤ n → ∃ t f m, n = 2 ^ t * (5 ^ f * m) ∧ m % 2 ≠ 0 ∧ m % 5 ≠ 0 := by
 induction n using Nat.strongRecOn with
 | _ n ih =>
   intro h
   by_cases h2 : n % 2 = 0
   · obtain ⟨t, f, m, e, h3, h4⟩ := ih (n / 2) (by omega) (by omega)
     refine ⟨t + 1, f, m, ?_, h3, h4⟩
     rw [Nat.pow_succ, Nat.mul_comm (2 ^ t) 2, Nat.mul_assoc, ← e]
     omega
   · by_cases h5 : n % 5 = 0
     · obtain ⟨t, f, m, e, h3, h4⟩ := ih (n / 5) (by omega) (by omega)
       refine ⟨t, f + 1, m, ?_, h3, h4⟩
       rw [Nat.pow_succ, Nat.mul_comm (5 ^ f) 5, Nat.mul_assoc, ← Nat.mul_assoc (2 ^ t) 5, Nat.mul_comm (2 ^ t) 5, Nat.mul_assoc, ← e]
       omega
     · exact ⟨0, 0, n, by simp, h2, h5⟩
theorem bind_none {α β : Type} (o : Option α) : (o.bind fun _ => (none : Option β)) = none := by cases o <;> rfl
/-- the reference's way down by the twos and fives -/
theorem refL_parts : ∀ (t f m n p : Nat), m % 2 ≠ 0 → m % 5 ≠ 0 →
 refL n (2 ^ t * (5 ^ f * m)) p = (ref18 (if f ≤ t then 5 else 2) (if f ≤ t then t - f else f - t) n).bind fun num => if m = 1 then some (num, p + max t f) else none := by
 intro t
 induction t with
 | zero =>
   intro f
   induction f with
   | zero =>
     intro m n p h2 h5
     simp only [Nat.pow_zero, Nat.one_mul, Nat.le_refl, if_true, Nat.sub_self, ref18, Option.bind_some, Nat.max_self, Nat.add_zero]
     by_cases hm : m = 1
     · subst hm; rw [refL_one, if_pos rfl]
     · rw [refL_none (by omega) h2 h5, if_neg hm]
   | succ f ih =>
     intro m n p h2 h5
     have hx := five_two f m h2
     have hm : 1 ≤ m := by omega
     have hy : 1 ≤ 5 ^ f * m := Nat.mul_pos (Nat.pow_pos (by decide)) hm
     rw [Nat.pow_zero, Nat.one_mul, Nat.pow_succ, Nat.mul_comm (5 ^ f) 5, Nat.mul_assoc]
     have hi := ih m (n * 2) (p + 1) h2 h5
     rw [Nat.pow_zero, Nat.one_mul] at hi
     generalize 5 ^ f * m = x at *
     rw [refL_five (by omega) (by omega) (by omega), show 5 * x / 5 = x by omega, hi, if_neg (show ¬ f + 1 ≤ 0 by omega), if_neg (show ¬ f + 1 ≤ 0 by omega), show f + 1 - 0 = f + 1 from rfl, ref18]
     by_cases h : 1000000000000000000 ≤ n
     · rw [if_pos h, if_pos h, Option.bind_none]
     · rw [if_neg h, if_neg h]
       cases f with
       | zero =>
         simp [ref18]
       | succ f =>
         simp only [show ¬ f + 1 ≤ 0 by omega, if_false, Nat.sub_zero, Nat.zero_max, show p + 1 + (f + 1) = p + (f + 1 + 1) by omega]
 | succ t iht =>
   intro f
   cases f with
   | zero =>
     intro m n p h2 h5
     have hx := two_five t m h5
     have hm : 1 ≤ m := by omega
     have hy : 1 ≤ 2 ^ t * m := Nat.mul_pos (Nat.pow_pos (by decide)) hm
     have hi := iht 0 m (n * 5) (p + 1) h2 h5
     rw [Nat.pow_zero, Nat.one_mul] at hi
     rw [Nat.pow_zero, Nat.one_mul, Nat.pow_succ, Nat.mul_comm (2 ^ t) 2, Nat.mul_assoc]
     generalize 2 ^ t * m = x at *
     rw [refL_two (by omega) (by omega) (by omega), show 2 * x / 2 = x by omega, hi, if_pos (Nat.zero_le _), if_pos (Nat.zero_le _), if_pos (Nat.zero_le _), if_pos (Nat.zero_le _), Nat.sub_zero, Nat.sub_zero, ref18]
     by_cases h : 1000000000000000000 ≤ n
     · rw [if_pos h, if_pos h, Option.bind_none]
     · rw [if_neg h, if_neg h, Nat.max_zero, Nat.max_zero, show p + 1 + t = p + (t + 1) by omega]
   | succ f =>
     intro m n p h2 h5
     have hm : 1 ≤ m := by omega
     have hy : 1 ≤ 2 ^ t * (5 ^ f * m) := Nat.mul_pos (Nat.pow_pos (by decide)) (Nat.mul_pos (Nat.pow_pos (by decide)) hm)
     have e : 2 ^ (t + 1) * (5 ^ (f + 1) * m) = 10 * (2 ^ t * (5 ^ f * m)) := by
      rw [Nat.pow_succ, Nat.pow_succ, Nat.mul_comm (5 ^ f) 5, Nat.mul_comm (2 ^ t) 2, Nat.mul_assoc, Nat.mul_assoc, ← Nat.mul_assoc (2 ^ t) 5, Nat.mul_comm (2 ^ t) 5, Nat.mul_assoc 5, ← Nat.mul_assoc 2 5]
     have hi := iht f m n (p + 1) h2 h5
     rw [e]
     generalize 2 ^ t * (5 ^ f * m) = x at *
     rw [refL_ten (by omega) (by omega), show 10 * x / 10 = x by omega, hi, show p + 1 + max t f = p + max (t + 1) (f + 1) by omega]
     by_cases h : f ≤ t
     · rw [if_pos h, if_pos h, if_pos (show f + 1 ≤ t + 1 by omega), if_pos (show f + 1 ≤ t + 1 by omega), show t + 1 - (f + 1) = t - f by omega]
     · rw [if_neg h, if_neg h, if_neg (show ¬ f + 1 ≤ t + 1 by omega), if_neg (show ¬ f + 1 ≤ t + 1 by omega), show f + 1 - (t + 1) = f - t by omega]
/-- as the program multiplies: the twos that are lacking, then the fives -/
theorem refL_prog {t f m n : Nat} (h2 : m % 2 ≠ 0) (h5 : m % 5 ≠ 0) (hg : Nat.gcd n (2 ^ t * (5 ^ f * m)) = 1) :
 refL n (2 ^ t * (5 ^ f * m)) 0 = if m = 1 then ((prg18 2 (max t f - t) n).bind (prg18 5 (max t f - f))).map fun num => (num, max t f) else none := by
 rw [refL_parts t f m n 0 h2 h5, Nat.zero_add]
 have hodd : 0 < t → n % 2 ≠ 0 := by
  intro ht h
  have h3 : 2 ∣ Nat.gcd n (2 ^ t * (5 ^ f * m)) := Nat.dvd_gcd (Nat.dvd_of_mod_eq_zero h) (Nat.dvd_trans (Nat.dvd_trans ⟨2 ^ (t - 1), by rw [Nat.mul_comm, ← Nat.pow_succ, show (t - 1).succ = t by omega]⟩ (Nat.dvd_refl (2 ^ t))) (Nat.dvd_mul_right _ _))
  rw [hg] at h3
  exact absurd (Nat.le_of_dvd (by decide) h3) (by decide)
 have hfive : 0 < f → n % 5 ≠ 0 := by
  intro ht h
  have h3 : 5 ∣ Nat.gcd n (2 ^ t * (5 ^ f * m)) := Nat.dvd_gcd (Nat.dvd_of_mod_eq_zero h) (Nat.dvd_trans (Nat.dvd_trans ⟨5 ^ (f - 1), by rw [Nat.mul_comm, ← Nat.pow_succ, show (f - 1).succ = f by omega]⟩ (Nat.dvd_mul_right (5 ^ f) m)) (Nat.dvd_mul_left _ _))
  rw [hg] at h3
  exact absurd (Nat.le_of_dvd (by decide) h3) (by decide)
 by_cases h : f ≤ t
 · rw [if_pos h, if_pos h, show max t f - t = 0 by omega, show max t f - f = t - f by omega]
   have hp : ref18 5 (t - f) n = prg18 5 (t - f) n := by
    rcases Nat.eq_zero_or_pos (t - f) with h0 | h0
    · rw [h0]; rfl
    · exact agree_five _ _ (hodd (by omega))
   rw [hp, prg18, Option.bind_some]
   by_cases hm : m = 1
   · simp only [hm, if_true]; cases prg18 5 (t - f) n <;> rfl
   · simp only [hm, if_false]; exact bind_none _
 · rw [if_neg h, if_neg h, show max t f - t = f - t by omega, show max t f - f = 0 by omega]
   have hp : ref18 2 (f - t) n = prg18 2 (f - t) n := agree_two _ _ (hfive (by omega))
   rw [hp]
   by_cases hm : m = 1
   · simp only [hm, if_true]; cases prg18 2 (f - t) n <;> rfl
   · simp only [hm, if_false]; exact bind_none _
/-- with noughts ahead, so that one digit stands before the point -/
def padF (D : List UInt8) (k : Nat) : List UInt8 := if D.length ≤ k then List.replicate (k + 1 - D.length) 48 ++ D else D
/-- the text of a number with so many places behind the point -/
def plainT (neg : Bool) (num k : Nat) (whole : Bool) : List UInt8 :=
 (if neg then [45] else []) ++ (padF (decDigits num) k).take ((padF (decDigits num) k).length - k) ++
   (if whole then [] else 46 :: ((padF (decDigits num) k).drop ((padF (decDigits num) k).length - k) ++ if k = 0 then [48] else []))
def ninesT : List UInt8 := List.replicate 20 57
def farT : List UInt8 := [49, 101, 57, 57]
/-- a fraction as a number of a stylesheet; none: it cannot be written -/
def plainF (r : Rt) (whole : Bool) : Option (List UInt8) :=
 if mayB r = false ∨ (whole = true ∧ 1 < r.2) then none else
  if r.2 = 0 then some (if whole then ninesT else farT) else
   match refL r.1.natAbs r.2.toNat 0 with
   | none => none
   | some (num, k) => if 18 < (trimR (decDigits num)).length then none else some (plainT (decide (r.1 < 0)) num k whole)
theorem padF_cat (D : List UInt8) (k : Nat) : ∃ z, padF D k = List.replicate z 48 ++ D := by
 unfold padF
 split
 · exact ⟨_, rfl⟩
 · exact ⟨0, rfl⟩
theorem padF_len (D : List UInt8) (k : Nat) : k < (padF D k).length := by
 unfold padF
 split
 · rw [List.length_append, List.length_replicate]; omega
 · omega
theorem padF_all {D : List UInt8} {k : Nat} (h : D.all isD = true) : (padF D k).all isD = true := by
 obtain ⟨z, e⟩ := padF_cat D k
 rw [e, List.all_append, h, Bool.and_true, List.all_eq_true]
 intro c hc
 rw [List.mem_replicate] at hc
 rw [hc.2]
 decide
/-- a number that is not nought has a digit ahead -/
theorem dec_front {u : Nat} (h : 1 ≤ u) : (decDigits u).head? ≠ some 48 := fun e => by
 have := dec_head u e
 omega
theorem lead_drop (z : Nat) {l : List UInt8} (h : l.head? ≠ some 48) : (List.replicate z 48 ++ l).dropWhile (· == 48) = l := by
 induction z with
 | zero =>
   cases l with
   | nil => rfl
   | cons a l => rw [List.replicate_zero, List.nil_append, List.dropWhile_cons_of_neg (by simpa using h)]
 | succ z ih => rw [List.replicate_succ, List.cons_append, List.dropWhile_cons_of_pos (by decide), ih]
theorem drop_noughts (z : Nat) : (List.replicate z (48 : UInt8)).dropWhile (· == 48) = [] := by
 induction z with
 | zero => rfl
 | succ z ih => rw [List.replicate_succ, List.dropWhile_cons_of_pos (by decide), ih]
theorem trim_noughts (l : List UInt8) (y : Nat) : trimR (l ++ List.replicate y 48) = trimR l := by
 induction y with
 | zero => rw [List.replicate_zero, List.append_nil]
 | succ y ih => rw [List.replicate_succ', ← List.append_assoc, trimR_nought, ih]
theorem val_noughts (l : List UInt8) (y : Nat) : valD (l ++ List.replicate y 48) = valD l * 10 ^ y := by
 induction y with
 | zero => rw [List.replicate_zero, List.append_nil, Nat.pow_zero, Nat.mul_one]
 | succ y ih =>
   rw [List.replicate_succ', ← List.append_assoc, valD_snoc, ih, Nat.pow_succ, ← Nat.mul_assoc]
   rfl
theorem strip_spec (b : Nat) (hb : 2 ≤ b) : ∀ (k n : Nat), n = (stripF b k n).1 * b ^ (k - (stripF b k n).2) ∧ ((stripF b k n).2 = 0 ∨ (stripF b k n).1 % b ≠ 0) := by
 intro k
 induction k with
 | zero => intro n; simp [stripF]
 | succ k ih =>
   intro n
   rw [stripF]
   split
   · rename_i h
     obtain ⟨h1, h2⟩ := ih (n / b)
     have hle := strip_le b k (n / b)
     refine ⟨?_, h2⟩
     rw [show k + 1 - (stripF b k (n / b)).2 = (k - (stripF b k (n / b)).2) + 1 by omega, Nat.pow_succ, ← Nat.mul_assoc, ← h1]
     rw [Nat.mul_comm]
     have := Nat.div_add_mod n b
     omega
   · rename_i h
     rw [Nat.sub_self, Nat.pow_zero, Nat.mul_one]
     exact ⟨rfl, Or.inr h⟩
theorem cop_pow {y b : Nat} (hb : Nat.gcd y b = 1) : ∀ k, Nat.gcd y (b ^ k) = 1 := fun k => Nat.Coprime.pow_right k hb
theorem gcd_two {y : Nat} (h : y % 2 ≠ 0) : Nat.gcd y 2 = 1 := by
 rw [Nat.gcd_comm, Nat.gcd_rec, show y % 2 = 1 by omega]; decide
theorem gcd_five {y : Nat} (h : y % 5 ≠ 0) : Nat.gcd y 5 = 1 := by
 rw [Nat.gcd_comm, Nat.gcd_rec]
 have h1 : y % 5 = 1 ∨ y % 5 = 2 ∨ y % 5 = 3 ∨ y % 5 = 4 := by omega
 rcases h1 with h1 | h1 | h1 | h1 <;> rw [h1] <;> decide
/-- a number in lowest terms, from its digits and the power of ten -/
theorem scale_low {neg : Bool} {c k p n d : Nat} (hc : 1 ≤ c) (hd : 1 ≤ d) (hd2 : d ≤ 9223372036854775807) (hn : n ≤ 9223372036854775807) (hg : Nat.gcd n d = 1) (he : c * 10 ^ k * d = n * 10 ^ p) :
 scaleF neg c ((k : Int) - (p : Int)) = (if neg then -(n : Int) else n, (d : Int)) := by
 by_cases hk : p ≤ k
 · obtain ⟨q, rfl⟩ : ∃ q, k = p + q := ⟨k - p, by omega⟩
   have e1 : c * 10 ^ q * d = n := by
    refine Nat.eq_of_mul_eq_mul_right (Nat.pow_pos (by decide) : 0 < 10 ^ p) ?_
    rw [← he, Nat.pow_add, Nat.mul_assoc, Nat.mul_assoc, Nat.mul_assoc, Nat.mul_assoc, Nat.mul_comm (10 ^ p) (10 ^ q * d), Nat.mul_assoc]
   have e2 : d = 1 := by
    have h1 : d ∣ n := ⟨c * 10 ^ q, by rw [← e1, Nat.mul_comm]⟩
    have h2 := Nat.gcd_eq_right h1
    omega
   subst e2
   rw [Nat.mul_one] at e1
   rcases Nat.eq_zero_or_pos q with h0 | h0
   · subst h0
     rw [Nat.pow_zero, Nat.mul_one] at e1
     subst e1
     rw [show (((p + 0 : Nat) : Int) - (p : Int)) = 0 by omega, scale_nought]
     rfl
   · unfold scaleF
     rw [show (((p + q : Nat) : Int) - (p : Int)) = (q : Int) by omega, if_pos (by omega), Int.toNat_natCast, tenF_eq _ _ h0, e1, if_pos hn]
     rfl
 · obtain ⟨q, rfl⟩ : ∃ q, p = k + q := ⟨p - k, by omega⟩
   have e1 : c * d = n * 10 ^ q := by
    refine Nat.eq_of_mul_eq_mul_right (Nat.pow_pos (by decide) : 0 < 10 ^ k) ?_
    rw [Nat.mul_assoc, Nat.mul_comm d, ← Nat.mul_assoc, he, Nat.pow_add, Nat.mul_assoc, Nat.mul_comm (10 ^ q)]
   unfold scaleF
   rw [show ((k : Int) - ((k + q : Nat) : Int)) = -(q : Int) by omega, if_neg (by omega), Int.neg_neg, Int.toNat_natCast]
   obtain ⟨x, hx⟩ : ∃ x, stripF 2 q c = x := ⟨_, rfl⟩
   obtain ⟨y, hy⟩ : ∃ y, stripF 5 q x.1 = y := ⟨_, rfl⟩
   have sx := strip_spec 2 (by decide) q c
   have sy := strip_spec 5 (by decide) q x.1
   have lx := strip_le 2 q c
   have ly := strip_le 5 q x.1
   rw [hx] at sx lx
   rw [hy] at sy ly
   rw [hx, hy]
   obtain ⟨x1, x2⟩ := x
   obtain ⟨y1, y2⟩ := y
   simp only at *
   obtain ⟨sx1, sx2⟩ := sx
   obtain ⟨sy1, sy2⟩ := sy
   have hy0 : y1 ≠ 0 := by
    rintro rfl
    rw [Nat.zero_mul] at sy1
    rw [sy1, Nat.zero_mul] at sx1
    omega
   -- y1 * d = n * (2 ^ x2 * 5 ^ y2)
   have e2 : y1 * d = n * (2 ^ x2 * 5 ^ y2) := by
    refine Nat.eq_of_mul_eq_mul_right (Nat.mul_pos (Nat.pow_pos (by decide) : 0 < 5 ^ (q - y2)) (Nat.pow_pos (by decide) : 0 < 2 ^ (q - x2))) ?_
    have h10 : 10 ^ q = 2 ^ q * 5 ^ q := by rw [← Nat.mul_pow]
    have h2 : 2 ^ q = 2 ^ x2 * 2 ^ (q - x2) := by rw [← Nat.pow_add]; congr 1; omega
    have h5 : 5 ^ q = 5 ^ y2 * 5 ^ (q - y2) := by rw [← Nat.pow_add]; congr 1; omega
    have hcx : c = y1 * (5 ^ (q - y2) * 2 ^ (q - x2)) := by rw [← Nat.mul_assoc, ← sy1]; exact sx1
    rw [show y1 * d * (5 ^ (q - y2) * 2 ^ (q - x2)) = c * d by rw [hcx, Nat.mul_assoc, Nat.mul_assoc, Nat.mul_comm d], e1, h10, h2, h5]
    generalize 2 ^ x2 = A
    generalize 2 ^ (q - x2) = B
    generalize 5 ^ y2 = C
    generalize 5 ^ (q - y2) = D
    rw [Nat.mul_assoc n, Nat.mul_assoc A, Nat.mul_assoc A, Nat.mul_comm B, Nat.mul_assoc C]
   have hcop : Nat.gcd y1 (2 ^ x2 * 5 ^ y2) = 1 := by
    have c2 : Nat.gcd y1 (2 ^ x2) = 1 := by
     rcases sx2 with h | h
     · rw [h, Nat.pow_zero, Nat.gcd_one_right]
     · refine cop_pow (gcd_two ?_) _
       intro h3
       refine h ?_
       rw [sy1, Nat.mul_mod, h3]
       omega
    have c5 : Nat.gcd y1 (5 ^ y2) = 1 := by
     rcases sy2 with h | h
     · rw [h, Nat.pow_zero, Nat.gcd_one_right]
     · exact cop_pow (gcd_five h) _
    exact Nat.Coprime.mul_right c2 c5
   have hD : 1 ≤ 2 ^ x2 * 5 ^ y2 := Nat.mul_pos (Nat.pow_pos (by decide)) (Nat.pow_pos (by decide))
   have hA : y1 ∣ n := Nat.Coprime.dvd_of_dvd_mul_right (k := y1) (n := 2 ^ x2 * 5 ^ y2) hcop ⟨d, e2.symm⟩
   have hB : n ∣ y1 := Nat.Coprime.dvd_of_dvd_mul_right (k := n) (n := d) hg ⟨2 ^ x2 * 5 ^ y2, e2⟩
   obtain rfl := Nat.dvd_antisymm hA hB
   have e3 : d = 2 ^ x2 * 5 ^ y2 := Nat.eq_of_mul_eq_mul_left (by omega) e2
   have h2le : 2 ^ x2 ≤ d := by rw [e3]; exact Nat.le_mul_of_pos_right _ (Nat.pow_pos (by decide))
   rw [upF_eq 2 (by decide) _ _ (by decide) (by decide), Nat.one_mul, if_pos (by omega), Option.bind_some, upF_eq 5 (by decide) _ _ (Nat.pow_pos (by decide)) (by omega), if_pos (by omega), ← e3]
theorem value_plain {neg : Bool} {num p n d z y : Nat} (hd : 1 ≤ d) (hd2 : d ≤ 9223372036854775807) (hn : n ≤ 9223372036854775807) (hg : Nat.gcd n d = 1) (he : num * d = n * 10 ^ p) (h18 : (trimR (decDigits num)).length ≤ 18) (hneg : n = 0 → neg = false) :
 valueF neg (List.replicate z 48 ++ (decDigits num ++ List.replicate y 48)) (0 - ((p + y : Nat) : Int)) = (if neg then -(n : Int) else n, (d : Int)) := by
 rcases Nat.eq_zero_or_pos num with h0 | h0
 · subst h0
   have hn0 : n = 0 := by
    rw [Nat.zero_mul] at he
    rcases Nat.mul_eq_zero.1 he.symm with h | h
    · exact h
    · have := Nat.pow_pos (n := p) (show 0 < 10 by decide); omega
   subst hn0
   rw [Nat.gcd_zero_left] at hg
   subst hg
   have e0 : decDigits 0 = [48] := by rw [decDigits, dif_pos (by omega)]; rfl
   have e1 : List.replicate z (48 : UInt8) ++ (decDigits 0 ++ List.replicate y 48) = List.replicate (z + (1 + y)) 48 := by
    rw [e0, show ([48] : List UInt8) = List.replicate 1 48 from rfl, List.replicate_append_replicate, List.replicate_append_replicate]
   rw [e1, value_nought (drop_noughts _), hneg rfl]
   rfl
 · have hh := dec_front h0
   have hne := dec_ne num
   have hh2 : (decDigits num ++ List.replicate y 48).head? ≠ some 48 := by
    cases hD : decDigits num with
    | nil => exact absurd hD hne
    | cons a l => rw [hD] at hh; simpa using hh
   obtain ⟨k, hk⟩ := trim_cat (decDigits num)
   have hlen : (decDigits num).length = (trimR (decDigits num)).length + k := by
    have := congrArg List.length hk
    rwa [List.length_append, List.length_replicate] at this
   have hval : num = valD (trimR (decDigits num)) * 10 ^ k := by
    have := val_noughts (trimR (decDigits num)) k
    rw [← hk, val_dec] at this
    exact this
   rw [value_short (lead_drop z hh2) (by simp [hne]) (by rw [trim_noughts]; omega), trim_noughts]
   refine (congrArg (scaleF neg _) (a₂ := (k : Int) - (p : Int)) ?_).trans ?_
   · rw [List.length_append, List.length_replicate]; omega
   refine scale_low ?_ hd hd2 hn hg (by rw [← hval]; exact he)
   rcases Nat.eq_zero_or_pos (valD (trimR (decDigits num))) with h | h
   · rw [h, Nat.zero_mul] at hval; omega
   · exact h
/-- the parts of such a text -/
theorem parts_plain {neg : Bool} {A B : List UInt8} (hA : A.all isD = true) (hA0 : A ≠ []) (hB : B.all isD = true) (hB0 : B ≠ []) :
 partsF ((if neg then [45] else []) ++ A) = some (neg, A, 0, 0, true) ∧
 partsF ((if neg then [45] else []) ++ A ++ 46 :: B) = some (neg, A ++ B, B.length, 0, false) := by
 have hhead : ∀ X, (A ++ X).head? ≠ some 43 ∧ (A ++ X).head? ≠ some 45 := by
  intro X
  cases A with
  | nil => exact absurd rfl hA0
  | cons a l =>
    have := List.all_eq_true.1 hA a (by simp)
    simp only [isD, Bool.and_eq_true, decide_eq_true_eq] at this
    constructor <;> (rw [List.cons_append, List.head?_cons]; intro h; rw [Option.some.inj h] at this; exact absurd this (by decide))
 have hs : ∀ X, signS ((if neg then [45] else []) ++ (A ++ X)) = A ++ X ∧ signN ((if neg then [45] else []) ++ (A ++ X)) = neg := by
  intro X
  cases neg with
  | true => exact ⟨rfl, rfl⟩
  | false =>
    obtain ⟨h1, h2⟩ := hhead X
    have e : (if (false : Bool) = true then [45] else []) ++ (A ++ X) = A ++ X := rfl
    rw [e]
    refine ⟨?_, ?_⟩
    · unfold signS signC
      rw [if_neg]
      simp only [Bool.or_eq_true, beq_iff_eq]
      rintro (h | h)
      · exact h1 h
      · exact h2 h
    · unfold signN
      rw [beq_eq_false_iff_ne]
      exact h2
 constructor
 · obtain ⟨h1, h2⟩ := hs []
   rw [List.append_nil] at h1 h2
   obtain ⟨t1, t2⟩ := take_all (m := []) hA (by simp)
   rw [List.append_nil] at t1 t2
   unfold partsF
   rw [h1, h2, t1, t2]
   simp [pointF, expF, hA0]
 · rw [List.append_assoc]
   obtain ⟨h1, h2⟩ := hs (46 :: B)
   obtain ⟨t1, t2⟩ := take_all (m := 46 :: B) hA (by intro a h; rw [List.head?_cons] at h; rw [← Option.some.inj h]; decide)
   obtain ⟨u1, u2⟩ := take_all (m := []) hB (by simp)
   rw [List.append_nil] at u1 u2
   unfold partsF
   rw [h1, h2, t1, t2]
   unfold pointF
   rw [List.head?_cons, if_pos rfl, List.tail_cons, u1, u2, if_neg hB0]
   simp [expF, hA0]
/-- what is written is read again -/
theorem plain_read {neg : Bool} {num p n d : Nat} {whole : Bool} (hd : 1 ≤ d) (hd2 : d ≤ 9223372036854775807) (hn : n ≤ 9223372036854775807) (hg : Nat.gcd n d = 1) (he : num * d = n * 10 ^ p) (h18 : (trimR (decDigits num)).length ≤ 18) (hneg : n = 0 → neg = false) (hw : whole = true → p = 0) :
 decimalF (plainT neg num p whole) = ((if neg then -(n : Int) else n, (d : Int)), whole, true) := by
 have hT := padF_all (k := p) (dec_all num)
 have hlt := padF_len (decDigits num) p
 obtain ⟨z, hz⟩ := padF_cat (decDigits num) p
 unfold plainT decimalF
 obtain ⟨T, eT⟩ : ∃ T, padF (decDigits num) p = T := ⟨_, rfl⟩
 rw [eT] at hT hlt hz ⊢
 have hA : (T.take (T.length - p)).all isD = true := List.all_eq_true.2 fun c hc => List.all_eq_true.1 hT c (List.mem_of_mem_take hc)
 have hB1 : (T.drop (T.length - p)).all isD = true := List.all_eq_true.2 fun c hc => List.all_eq_true.1 hT c (List.mem_of_mem_drop hc)
 have hA0 : T.take (T.length - p) ≠ [] := by
  intro h
  have := congrArg List.length h
  rw [List.length_take, List.length_nil] at this
  omega
 have hcat := List.take_append_drop (T.length - p) T
 cases whole with
 | true =>
   obtain rfl := hw rfl
   rw [if_pos rfl, List.append_nil, (parts_plain (B := [48]) hA hA0 (by decide) (by decide)).1]
   have e1 : T.take (T.length - 0) = T := List.take_of_length_le (by omega)
   have := value_plain (neg := neg) (z := z) (y := 0) hd hd2 hn hg he h18 hneg
   rw [List.replicate_zero, List.append_nil, ← hz] at this
   simp only [e1]
   exact Prod.ext this rfl
 | false =>
   rw [if_neg (show ¬ ((false : Bool) = true) by decide)]
   by_cases hp : p = 0
   · subst hp
     rw [if_pos rfl]
     have e1 : T.take (T.length - 0) = T := List.take_of_length_le (by omega)
     have e2 : T.drop (T.length - 0) = [] := List.drop_eq_nil_of_le (by omega)
     rw [e1] at hA hA0
     rw [e1, e2, List.nil_append, (parts_plain hA hA0 (B := [48]) (by decide) (by decide)).2]
     have := value_plain (neg := neg) (z := z) (y := 1) hd hd2 hn hg he h18 hneg
     rw [← List.append_assoc, ← hz] at this
     exact Prod.ext this rfl
   · rw [if_neg hp, List.append_nil]
     have hB0 : T.drop (T.length - p) ≠ [] := by
      intro h
      have := congrArg List.length h
      rw [List.length_drop, List.length_nil] at this
      omega
     rw [(parts_plain hA hA0 hB1 hB0).2, hcat]
     have := value_plain (neg := neg) (z := z) (y := 0) hd hd2 hn hg he h18 hneg
     rw [List.replicate_zero, List.append_nil, ← hz] at this
     have e3 : (T.drop (T.length - p)).length = p := by rw [List.length_drop]; omega
     simp only [e3]
     exact Prod.ext this rfl
/-- any fraction that can be written is read again as it was -/
theorem plain_back {r : Rt} {whole : Bool} {t : List UInt8} (h : plainF r whole = some t) (h1 : -9223372036854775808 ≤ r.1) (h2 : r.1 ≤ 9223372036854775807) (h4 : r.2 ≤ 9223372036854775807) : decimalF t = (r, whole, true) := by
 unfold plainF at h
 split at h
 · cases h
 · rename_i hm
   obtain ⟨hm1, hm2⟩ := not_or.1 hm
   have hmay : mayB r = true := by simpa using hm1
   split at h
   · rename_i h0
     have hr : r = (0, 0) := by
      simp only [mayB, Bool.or_eq_true, Bool.and_eq_true, decide_eq_true_eq] at hmay
      rcases hmay with hh | hh
      · exact Prod.ext hh.1 hh.2
      · have := (sure_parts hh).1; omega
     subst hr
     cases whole with
     | true => obtain rfl := Option.some.inj h; decide
     | false => obtain rfl := Option.some.inj h; decide
   · rename_i h0
     split at h
     · cases h
     · rename_i num k hL
       split at h
       · cases h
       · rename_i h18
         obtain rfl := Option.some.inj h
         have hs : sureB r = true := by
          simp only [mayB, Bool.or_eq_true, Bool.and_eq_true, decide_eq_true_eq] at hmay
          rcases hmay with hh | hh
          · exact absurd hh.2 h0
          · exact hh
         obtain ⟨s1, s2⟩ := sure_parts hs
         have hg : Nat.gcd r.1.natAbs r.2.toNat = 1 := by
          simp only [sureB, Bool.and_eq_true, beq_iff_eq] at hs
          exact hs.2
         obtain ⟨_, hv⟩ := refL_val _ _ _ _ _ (by omega) hL
         rw [Nat.sub_zero] at hv
         have hw : whole = true → k = 0 := by
          intro hw
          have : r.2.toNat = 1 := by
           have h5 : ¬ 1 < r.2 := fun h => hm2 ⟨hw, h⟩
           omega
          rw [this, refL_one] at hL
          exact (Prod.mk.inj (Option.some.inj hL)).2.symm
         rw [plain_read (n := r.1.natAbs) (d := r.2.toNat) (by omega) (by omega) (by omega) hg hv (by omega) (by intro h; rw [decide_eq_false_iff_not]; omega) hw]
         refine Prod.ext (Prod.ext ?_ ?_) rfl
         · by_cases hneg : r.1 < 0
           · simp only [hneg, decide_true, if_true]; omega
           · simp only [hneg, decide_false, Bool.false_eq_true, if_false]; omega
         · show ((r.2.toNat : Nat) : Int) = r.2
           omega
theorem refL_few : ∀ (d n p num q : Nat), 1 ≤ d → refL n d p = some (num, q) → p ≤ q ∧ 2 ^ (q - p) ≤ d := by
 intro d
 induction d using Nat.strongRecOn with
 | _ d ih =>
   intro n p num q hd h
   have key : ∀ e n', e < d → 1 ≤ e → 2 * e ≤ d → refL n' e (p + 1) = some (num, q) → p ≤ q ∧ 2 ^ (q - p) ≤ d := by
    intro e n' h1 h2 h3 h4
    obtain ⟨i1, i2⟩ := ih e h1 _ _ _ _ h2 h4
    refine ⟨by omega, ?_⟩
    rw [show q - p = (q - (p + 1)) + 1 by omega, Nat.pow_succ]
    omega
   rw [refL] at h
   split at h
   · obtain ⟨rfl, rfl⟩ := Prod.mk.inj (Option.some.inj h)
     simp
     omega
   · split at h
     · cases h
     · split at h
       · exact key _ _ (by omega) (by omega) (by omega) h
       · split at h
         · split at h
           · cases h
           · exact key _ _ (by omega) (by omega) (by omega) h
         · split at h
           · cases h
           · exact key _ _ (by omega) (by omega) (by omega) h
theorem refL_62 {d n num q : Nat} (h1 : 1 ≤ d) (h2 : d ≤ 9223372036854775807) (h : refL n d 0 = some (num, q)) : q ≤ 62 := by
 obtain ⟨_, h3⟩ := refL_few d n 0 num q h1 h
 rw [Nat.sub_zero] at h3
 refine Nat.le_of_not_lt fun hlt => ?_
 have h4 : (2 : Nat) ^ 63 ≤ 2 ^ q := Nat.pow_le_pow_right (by decide) (by omega)
 rw [two_63] at h4
 omega
/-- how many twos and fives there can be -/
theorem parts_few {t f m : Nat} (h : 2 ^ t * (5 ^ f * m) ≤ 9223372036854775807) (hm : 1 ≤ m) : t ≤ 62 ∧ f ≤ 62 := by
 have a1 : 2 ^ t ≤ 9223372036854775807 := Nat.le_trans (Nat.le_mul_of_pos_right _ (Nat.mul_pos (Nat.pow_pos (by decide)) hm)) h
 have a2 : 5 ^ f ≤ 9223372036854775807 := Nat.le_trans (Nat.le_trans (Nat.le_mul_of_pos_right _ hm) (Nat.le_mul_of_pos_left _ (Nat.pow_pos (by decide)))) h
 have a3 : (2 : Nat) ^ f ≤ 5 ^ f := Nat.pow_le_pow_left (by decide) f
 constructor
 · refine Nat.le_of_not_lt fun hlt => ?_
   have h4 : (2 : Nat) ^ 63 ≤ 2 ^ t := Nat.pow_le_pow_right (by decide) (by omega)
   rw [two_63] at h4
   omega
 · refine Nat.le_of_not_lt fun hlt => ?_
   have h4 : (2 : Nat) ^ 63 ≤ 2 ^ f := Nat.pow_le_pow_right (by decide) (by omega)
   rw [two_63] at h4
   omega
end Go.Proofs.YtplnhjmomomphaaGreatDoor
