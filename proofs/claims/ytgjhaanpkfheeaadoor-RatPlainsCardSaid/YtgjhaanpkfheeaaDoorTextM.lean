/- Fractions as texts, and back: plain. No program here. -/
import Derived.Test.YtgjhaanpkfheeaaDoorRatD
import Derived.Lib.ItoaNum
namespace Go.Proofs.YtgjhaanpkfheeaaDoor
set_option linter.unusedVariables false
set_option linter.unusedSimpArgs false
open Go.Lib

theorem snoc_ind {α : Type} {P : List α → Prop} (h0 : P []) (h1 : ∀ l c, P l → P (l ++ [c])) (l : List α) : P l := by
  have key : ∀ r : List α, P r.reverse := by
    intro r
    induction r with
    | nil => exact h0
    | cons a r ih => rw [List.reverse_cons]; exact h1 _ _ ih
  have := key l.reverse
  rwa [List.reverse_reverse] at this

def isD (c : UInt8) : Bool := decide (48 ≤ c.toNat) && decide (c.toNat ≤ 57)
/-- the number that digits tell -/
def valD (l : List UInt8) : Nat := l.foldl (fun n c => n * 10 + (c.toNat - 48)) 0

theorem valD_snoc (l : List UInt8) (c : UInt8) : valD (l ++ [c]) = valD l * 10 + (c.toNat - 48) := by
  unfold valD
  rw [List.foldl_append]
  rfl
theorem byte_nat {k : Nat} (h : k < 10) : (UInt8.ofNat (48 + k)).toNat = 48 + k := by
  rw [UInt8.toNat_ofNat']
  omega
theorem byte_back (c : UInt8) (h : isD c = true) : UInt8.ofNat (48 + (c.toNat - 48)) = c := by
  simp only [isD, Bool.and_eq_true, decide_eq_true_eq] at h
  rw [show 48 + (c.toNat - 48) = c.toNat by omega]
  simp

theorem dec_all (u : Nat) : (decDigits u).all isD = true := by
  induction u using Nat.strongRecOn with
  | _ u ih =>
    rw [decDigits]
    split
    · rename_i h
      simp only [List.all_cons, List.all_nil, Bool.and_true, isD, byte_nat h, Bool.and_eq_true, decide_eq_true_eq]
      omega
    · rw [List.all_append, ih (u / 10) (by omega)]
      simp only [List.all_cons, List.all_nil, Bool.and_true, Bool.true_and, isD, byte_nat (Nat.mod_lt u (by decide : 0 < 10)), Bool.and_eq_true, decide_eq_true_eq]
      omega
theorem val_dec (u : Nat) : valD (decDigits u) = u := by
  induction u using Nat.strongRecOn with
  | _ u ih =>
    rw [decDigits]
    split
    · rename_i h
      show 0 * 10 + ((UInt8.ofNat (48 + u)).toNat - 48) = u
      rw [byte_nat h]; omega
    · rw [valD_snoc, ih (u / 10) (by omega), byte_nat (Nat.mod_lt u (by decide))]
      omega

theorem dec_ne (u : Nat) : decDigits u ≠ [] := by
  intro h
  have := decDigits_length u
  rw [h] at this
  have := nDigits_pos u
  simp at *
  omega

/-- digits as a number is written: some, and no nought ahead -/
def plainD (l : List UInt8) : Prop := l ≠ [] ∧ l.all isD = true ∧ (l.head? = some 48 → l.length = 1)

theorem val_pos : ∀ (l : List UInt8), l.all isD = true → l ≠ [] → l.head? ≠ some 48 → 1 ≤ valD l := by
  intro l
  refine snoc_ind (P := fun l => l.all isD = true → l ≠ [] → l.head? ≠ some 48 → 1 ≤ valD l) ?_ ?_ l
  · intro _ h; exact absurd rfl h
  · intro l c ih
    intro hall _ hh
    rw [valD_snoc]
    rw [List.all_append] at hall
    simp only [List.all_cons, List.all_nil, Bool.and_true, Bool.and_eq_true] at hall
    cases l with
    | nil =>
      have hc := hall.2
      simp only [isD, Bool.and_eq_true, decide_eq_true_eq] at hc
      simp only [List.nil_append, List.head?_cons, ne_eq, Option.some.injEq] at hh
      have : c.toNat ≠ 48 := fun e => hh (by rw [← UInt8.toNat_inj]; exact e)
      omega
    | cons a l =>
      have := ih hall.1 (by simp) (by simpa using hh)
      omega

theorem dec_val : ∀ (l : List UInt8), plainD l → decDigits (valD l) = l := by
  intro l
  refine snoc_ind (P := fun l => plainD l → decDigits (valD l) = l) ?_ ?_ l
  · intro h; exact absurd rfl h.1
  · intro l c ih
    intro ⟨_, hall, hh⟩
    rw [List.all_append] at hall
    simp only [List.all_cons, List.all_nil, Bool.and_true, Bool.and_eq_true] at hall
    have hc := hall.2
    simp only [isD, Bool.and_eq_true, decide_eq_true_eq] at hc
    rw [valD_snoc]
    cases l with
    | nil =>
      show decDigits (0 * 10 + (c.toNat - 48)) = [c]
      rw [decDigits, dif_pos (by omega), show 48 + (0 * 10 + (c.toNat - 48)) = 48 + (c.toNat - 48) by omega, byte_back c hall.2]
    | cons a l =>
      have hne : (a :: l).head? ≠ some 48 := fun e => by
        have := hh (by simpa using e)
        simp at this
      have hv := val_pos (a :: l) hall.1 (by simp) hne
      have := ih ⟨by simp, hall.1, fun e => absurd e hne⟩
      rw [decDigits, dif_neg (by omega), show (valD (a :: l) * 10 + (c.toNat - 48)) / 10 = valD (a :: l) by omega, show (valD (a :: l) * 10 + (c.toNat - 48)) % 10 = c.toNat - 48 by omega, this, byte_back c hall.2]

theorem dec_head (u : Nat) : (decDigits u).head? = some 48 → u = 0 := by
  induction u using Nat.strongRecOn with
  | _ u ih =>
    intro h
    rw [decDigits] at h
    split at h
    · rename_i hu
      simp only [List.head?_cons, Option.some.injEq] at h
      have := congrArg UInt8.toNat h
      rw [byte_nat hu] at this
      change 48 + u = 48 at this
      omega
    · have h3 : (decDigits (u / 10)).head? = some 48 := by
        cases hd : decDigits (u / 10) with
        | nil => exact absurd hd (dec_ne _)
        | cons a l => rw [hd] at h; simpa using h
      have := ih (u / 10) (by omega) h3
      omega
theorem dec_plain (u : Nat) : plainD (decDigits u) := by
  refine ⟨dec_ne u, dec_all u, fun h => ?_⟩
  obtain rfl := dec_head u h
  rw [decDigits, dif_pos (by omega)]
  rfl
theorem dec_len {u : Nat} (h : u ≤ 9223372036854775807) : (decDigits u).length ≤ 19 := by
  rw [decDigits_length]
  rcases Nat.lt_or_ge 19 (nDigits u) with h2 | h2
  · exfalso
    have key : ∀ (k u : Nat), k < nDigits u → 10 ^ k ≤ u ∨ k = 0 := by
      intro k
      induction k with
      | zero => intro u _; exact Or.inr rfl
      | succ k ih =>
        intro u hu
        left
        by_cases h : u < 10
        · rw [nDigits_small h] at hu; omega
        · rw [nDigits_big h] at hu
          rcases ih (u / 10) (by omega) with h3 | rfl
          · rw [Nat.pow_succ]; omega
          · omega
    rcases key 19 u h2 with h3 | h3
    · have : (10 : Nat) ^ 19 = 10000000000000000000 := by decide
      omega
    · omega
  · exact h2

def overT : List UInt8 := [111, 118, 101, 114]
/-- a fraction as a text -/
def textF (r : Rt) : List UInt8 :=
  if sureB r then (if r.1 < 0 then 45 :: decDigits r.1.natAbs else decDigits r.1.natAbs) ++ (if 1 < r.2 then 47 :: decDigits r.2.toNat else []) else overT

end Go.Proofs.YtgjhaanpkfheeaaDoor
