/- Numbers of a stylesheet: plain. No program here. -/
import Derived.Test.YtgjhaanpkfheeaaDoorTextM
namespace Go.Proofs.YtgjhaanpkfheeaaDoor
set_option linter.unusedVariables false
set_option linter.unusedSimpArgs false
open Go.Lib

/-- a sign stands at the front -/
def signC (s : List UInt8) : Bool := (s.head? == some 43) || (s.head? == some 45)
def signN (s : List UInt8) : Bool := s.head? == some 45
def signS (s : List UInt8) : List UInt8 := if signC s then s.tail else s
def capD (l : List UInt8) : Nat := l.foldl (fun n c => min 1099511627776 (n * 10 + (c.toNat - 48))) 0
theorem capD_snoc (l : List UInt8) (c : UInt8) : capD (l ++ [c]) = min 1099511627776 (capD l * 10 + (c.toNat - 48)) := by
  unfold capD
  rw [List.foldl_append]
  rfl
theorem capD_le (l : List UInt8) : capD l ≤ 1099511627776 := by
  refine snoc_ind (P := fun l => capD l ≤ 1099511627776) (by decide) (fun l c _ => ?_) l
  rw [capD_snoc]
  omega

/-- the exponent behind the digits, and whether a whole number was written -/
def expF (r : List UInt8) (w : Bool) : Option (Int × Bool) :=
  if r = [] then some (0, w) else
    if r.head? = some 101 ∨ r.head? = some 69 then
      if signS r.tail = [] ∨ (signS r.tail).all isD = false then none
      else some (if signN r.tail then -(capD (signS r.tail) : Int) else capD (signS r.tail), false)
    else none
/-- the digits behind the point, whether there is no point, and what is left -/
def pointF (r : List UInt8) : Option (List UInt8 × Bool × List UInt8) :=
  if r.head? = some 46 then
    if r.tail.takeWhile isD = [] then none else some (r.tail.takeWhile isD, false, r.tail.dropWhile isD)
  else some ([], true, r)
/-- the parts of a number's text: below nought; the digits; how many behind the point; the exponent; written whole -/
def partsF (s : List UInt8) : Option (Bool × List UInt8 × Nat × Int × Bool) :=
  match pointF ((signS s).dropWhile isD) with
  | none => none
  | some (f, w0, r) =>
    if (signS s).takeWhile isD ++ f = [] then none else
      match expF r w0 with
      | none => none
      | some (e, w) => some (signN s, (signS s).takeWhile isD ++ f, f.length, e, w)

/-- ten, some times over -/
def tenF : Nat → Nat → Option Nat
  | 0, n => some n
  | k + 1, n => if 922337203685477580 < n then none else tenF k (n * 10)
/-- divided by 'by' as often as it goes, at most so often; what is left of the times -/
def stripF (b : Nat) : Nat → Nat → Nat × Nat
  | 0, n => (n, 0)
  | k + 1, n => if n % b = 0 then stripF b k (n / b) else (n, k + 1)
/-- times 'by', so often -/
def upF (b : Nat) : Nat → Nat → Option Nat
  | 0, d => some d
  | k + 1, d => if 9223372036854775807 / b < d then none else upF b k (d * b)
/-- both in one -/
def downF (b : Nat) : Nat → Nat → Nat → Option (Nat × Nat)
  | 0, n, d => some (n, d)
  | k + 1, n, d => if n % b = 0 then downF b k (n / b) d else if 9223372036854775807 / b < d then none else downF b k n (d * b)

theorem downF_up (b : Nat) : ∀ (k n d : Nat), n % b ≠ 0 → downF b k n d = (upF b k d).map fun d => (n, d) := by
  intro k
  induction k with
  | zero => intro n d _; rfl
  | succ k ih =>
    intro n d h
    rw [downF, if_neg h, upF]
    split
    · rfl
    · exact ih _ _ h
theorem downF_eq (b : Nat) : ∀ (k n d : Nat), downF b k n d = (upF b (stripF b k n).2 d).map fun d => ((stripF b k n).1, d) := by
  intro k
  induction k with
  | zero => intro n d; rfl
  | succ k ih =>
    intro n d
    by_cases h : n % b = 0
    · rw [downF, if_pos h, stripF, if_pos h]
      exact ih _ _
    · rw [stripF, if_neg h]
      exact downF_up b _ _ _ h

theorem tenF_eq : ∀ (k n : Nat), 1 ≤ k → tenF k n = if n * 10 ^ k ≤ 9223372036854775807 then some (n * 10 ^ k) else none := by
  intro k
  induction k with
  | zero => intro n h; omega
  | succ k ih =>
    intro n _
    rw [tenF]
    by_cases h : 922337203685477580 < n
    · rw [if_pos h, if_neg]
      have : 1 ≤ 10 ^ k := Nat.one_le_pow _ _ (by decide)
      have h2 : n * 10 ≤ n * 10 * 10 ^ k := Nat.le_mul_of_pos_right _ this
      rw [Nat.pow_succ, Nat.mul_comm (10 ^ k) 10, ← Nat.mul_assoc]
      omega
    · rw [if_neg h]
      rcases Nat.eq_zero_or_pos k with rfl | hk
      · rw [tenF, if_pos (by omega)]
      · rw [ih _ hk, Nat.pow_succ, Nat.mul_comm (10 ^ k) 10, ← Nat.mul_assoc]
theorem upF_eq (b : Nat) (hb : 2 ≤ b) : ∀ (k d : Nat), 1 ≤ d → d ≤ 9223372036854775807 → upF b k d = if d * b ^ k ≤ 9223372036854775807 then some (d * b ^ k) else none := by
  intro k
  induction k with
  | zero => intro d _ h; rw [upF, Nat.pow_zero, Nat.mul_one, if_pos h]
  | succ k ih =>
    intro d h1 h2
    have hlt : 9223372036854775807 / b < d ↔ ¬ d * b ≤ 9223372036854775807 := by
      rw [Nat.not_le, Nat.div_lt_iff_lt_mul (by omega)]
    rw [upF, Nat.pow_succ, Nat.mul_comm (b ^ k) b, ← Nat.mul_assoc]
    by_cases h : 9223372036854775807 / b < d
    · rw [if_pos h, if_neg]
      have h3 := hlt.1 h
      have : 1 ≤ b ^ k := Nat.one_le_pow _ _ (by omega)
      have h4 : d * b ≤ d * b * b ^ k := Nat.le_mul_of_pos_right _ this
      omega
    · rw [if_neg h]
      have h3 : d * b ≤ 9223372036854775807 := Nat.not_lt.1 (fun h4 => h (hlt.2 (by omega)))
      exact ih _ (Nat.mul_pos h1 (by omega)) h3

theorem strip_le (b : Nat) : ∀ (k n : Nat), (stripF b k n).2 ≤ k := by
  intro k
  induction k with
  | zero => intro n; exact Nat.le_refl _
  | succ k ih =>
    intro n
    rw [stripF]
    split
    · exact Nat.le_succ_of_le (ih _)
    · exact Nat.le_refl _
theorem strip_pow (b : Nat) (hb : 2 ≤ b) : ∀ (k n : Nat), 1 ≤ n → b ^ (k - (stripF b k n).2) ≤ n ∧ 1 ≤ (stripF b k n).1 ∧ (stripF b k n).1 ≤ n := by
  intro k
  induction k with
  | zero => intro n h; simpa [stripF] using h
  | succ k ih =>
    intro n h
    rw [stripF]
    split
    · rename_i h0
      have hd : b * (n / b) = n := by have := Nat.div_add_mod n b; omega
      have h1 : 1 ≤ n / b := by
        rcases Nat.eq_zero_or_pos (n / b) with h2 | h2
        · rw [h2] at hd; omega
        · exact h2
      obtain ⟨i1, i2, i3⟩ := ih (n / b) h1
      have hle := strip_le b k (n / b)
      refine ⟨?_, i2, Nat.le_trans i3 (Nat.div_le_self _ _)⟩
      rw [show k + 1 - (stripF b k (n / b)).2 = (k - (stripF b k (n / b)).2) + 1 by omega, Nat.pow_succ, Nat.mul_comm]
      calc b * b ^ (k - (stripF b k (n / b)).2) ≤ b * (n / b) := Nat.mul_le_mul_left _ i1
        _ = n := hd
    · exact ⟨by rw [Nat.sub_self]; exact h, h, Nat.le_refl _⟩

/-- a number times a power of ten -/
def scaleF (neg : Bool) (num : Nat) (q : Int) : Rt :=
  if 0 < q then
    match tenF q.toNat num with
    | none => (0, 0)
    | some m => (if neg then -(m : Int) else m, 1)
  else
    match (upF 2 (stripF 2 (-q).toNat num).2 1).bind (upF 5 (stripF 5 (-q).toNat (stripF 2 (-q).toNat num).1).2) with
    | none => (0, 0)
    | some d => (if neg then -((stripF 5 (-q).toNat (stripF 2 (-q).toNat num).1).1 : Int) else ((stripF 5 (-q).toNat (stripF 2 (-q).toNat num).1).1 : Int), (d : Int))

theorem five_28 : (5 : Nat) ^ 28 = 37252902984619140625 := by decide
theorem up_five {f d : Nat} (hd : 1 ≤ d) (h : 28 ≤ f) : upF 5 f d = none := by
  rcases Nat.lt_or_ge 9223372036854775807 d with h2 | h2
  · obtain ⟨f', rfl⟩ : ∃ f', f = f' + 1 := ⟨f - 1, by omega⟩
    rw [upF, if_pos (by omega)]
  · rw [upF_eq 5 (by decide) f d hd h2, if_neg]
    have h3 : (5 : Nat) ^ 28 ≤ 5 ^ f := Nat.pow_le_pow_right (by decide) h
    have h4 : 5 ^ f ≤ d * 5 ^ f := Nat.le_mul_of_pos_left _ hd
    rw [five_28] at h3
    omega
theorem two_63 : (2 : Nat) ^ 63 = 9223372036854775808 := by decide
theorem up_two {t : Nat} : upF 2 t 1 = if t ≤ 62 then some (2 ^ t) else none := by
  rw [upF_eq 2 (by decide) t 1 (by decide) (by decide), Nat.one_mul]
  by_cases h : t ≤ 62
  · have h3 : (2 : Nat) ^ t ≤ 2 ^ 62 := Nat.pow_le_pow_right (by decide) h
    have h4 : (2 : Nat) ^ 62 = 4611686018427387904 := by decide
    rw [if_pos h, if_pos (by omega)]
  · have h3 : (2 : Nat) ^ 63 ≤ 2 ^ t := Nat.pow_le_pow_right (by decide) (by omega)
    rw [if_neg h, if_neg (by rw [two_63] at h3; omega)]
theorem scale_big {neg : Bool} {num : Nat} {q : Int} (h1 : 1 ≤ num) (h : 18 < q) : scaleF neg num q = (0, 0) := by
  unfold scaleF
  rw [if_pos (by omega), tenF_eq _ _ (by omega), if_neg]
  have h3 : (10 : Nat) ^ 19 ≤ 10 ^ q.toNat := Nat.pow_le_pow_right (by decide) (by omega)
  have h4 : 10 ^ q.toNat ≤ num * 10 ^ q.toNat := Nat.le_mul_of_pos_left _ h1
  have h5 : (10 : Nat) ^ 19 = 10000000000000000000 := by decide
  omega
theorem strip_far {k n : Nat} (h1 : 1 ≤ n) (h2 : n < 1000000000000000000) (hk : 100 < k) : 28 ≤ (stripF 5 k (stripF 2 k n).1).2 := by
  obtain ⟨_, a2, a3⟩ := strip_pow 2 (by decide) k n h1
  obtain ⟨b1, _, _⟩ := strip_pow 5 (by decide) k (stripF 2 k n).1 a2
  have hle := strip_le 5 k (stripF 2 k n).1
  refine Nat.le_of_not_lt fun hlt => ?_
  have h3 : (5 : Nat) ^ 28 ≤ 5 ^ (k - (stripF 5 k (stripF 2 k n).1).2) := Nat.pow_le_pow_right (by decide) (by omega)
  rw [five_28] at h3
  omega
theorem up_pos {b k d x : Nat} (hb : 1 ≤ b) (hd : 1 ≤ d) (h : upF b k d = some x) : 1 ≤ x := by
  induction k generalizing d with
  | zero => obtain rfl := Option.some.inj h; exact hd
  | succ k ih =>
    rw [upF] at h
    split at h
    · cases h
    · exact ih (Nat.mul_pos hd hb) h
theorem scale_far {neg : Bool} {num : Nat} {q : Int} (h1 : 1 ≤ num) (h2 : num < 1000000000000000000) (h : q < -100) : scaleF neg num q = (0, 0) := by
  unfold scaleF
  rw [if_neg (by omega)]
  have h3 := strip_far h1 h2 (k := (-q).toNat) (by omega)
  cases hu : upF 2 (stripF 2 (-q).toNat num).2 1 with
  | none => rfl
  | some d =>
    have hd := up_pos (by decide) (by decide) hu
    rw [Option.bind_some, up_five hd h3]

/-- without the noughts at the end -/
def trimR (l : List UInt8) : List UInt8 := (l.reverse.dropWhile (· == 48)).reverse
theorem trimR_nought (l : List UInt8) : trimR (l ++ [48]) = trimR l := by simp [trimR]
theorem trimR_stop {l : List UInt8} {c : UInt8} (h : c ≠ 48) : trimR (l ++ [c]) = l ++ [c] := by
  simp [trimR, h]
/-- digits and a power of ten -/
def valueF (neg : Bool) (ds : List UInt8) (p : Int) : Rt :=
  if ds.dropWhile (· == 48) = [] then (0, 1) else
    if 18 < (trimR (ds.dropWhile (· == 48))).length then (0, 0) else
      scaleF neg (valD (trimR (ds.dropWhile (· == 48)))) (p + ((ds.dropWhile (· == 48)).length - (trimR (ds.dropWhile (· == 48))).length : Nat))
/-- any text as a number: its fraction, its form, whether it is one -/
def decimalF (s : List UInt8) : Rt × Bool × Bool :=
  match partsF s with
  | none => ((0, 0), false, false)
  | some (neg, ds, k, e, w) => (valueF neg ds (e - k), w, true)

end Go.Proofs.YtgjhaanpkfheeaaDoor
