/- The plain arithmetic of fractions: no program here. -/
namespace Go.Proofs.YtgjhaanpkfheeaaDoor
set_option linter.unusedVariables false
set_option linter.unusedSimpArgs false

theorem cop_div_left {a b g : Nat} (h : Nat.gcd a b = 1) : Nat.gcd (a / g) b = 1 ∨ ¬ g ∣ a := by
  by_cases hd : g ∣ a
  · left
    have : a / g ∣ a := Nat.div_dvd_of_dvd hd
    exact Nat.Coprime.coprime_dvd_left this h
  · right; exact hd

theorem times_gcd (A B da db : Nat) (ha : 0 < da) (hb : 0 < db) (h1 : Nat.gcd A da = 1) (h2 : Nat.gcd B db = 1) :
    Nat.gcd (A * B) (da * db) = Nat.gcd A db * Nat.gcd B da := by
  have g1 : Nat.gcd A db ∣ A := Nat.gcd_dvd_left _ _
  have g2 : Nat.gcd A db ∣ db := Nat.gcd_dvd_right _ _
  have k1 : Nat.gcd B da ∣ B := Nat.gcd_dvd_left _ _
  have k2 : Nat.gcd B da ∣ da := Nat.gcd_dvd_right _ _
  have gp : 0 < Nat.gcd A db := Nat.gcd_pos_of_pos_right _ hb
  have kp : 0 < Nat.gcd B da := Nat.gcd_pos_of_pos_right _ ha
  have c1 := Nat.coprime_div_gcd_div_gcd gp
  have c2 := Nat.coprime_div_gcd_div_gcd kp
  generalize Nat.gcd A db = g at *
  generalize Nat.gcd B da = k at *
  obtain ⟨a, rfl⟩ := g1
  obtain ⟨b, rfl⟩ := k1
  obtain ⟨e, rfl⟩ := g2
  obtain ⟨f, rfl⟩ := k2
  rw [Nat.mul_div_cancel_left _ gp, Nat.mul_div_cancel_left _ gp] at c1
  rw [Nat.mul_div_cancel_left _ kp, Nat.mul_div_cancel_left _ kp] at c2
  have e1 : g * a * (k * b) = g * k * (a * b) := by
    simp only [Nat.mul_assoc, Nat.mul_left_comm]
  have e2 : k * f * (g * e) = g * k * (e * f) := by
    simp only [Nat.mul_comm, Nat.mul_left_comm]
  rw [e1, e2, Nat.gcd_mul_left]
  have x1 : Nat.Coprime a f := Nat.Coprime.coprime_dvd_left ⟨g, Nat.mul_comm _ _⟩ (Nat.Coprime.coprime_dvd_right ⟨k, Nat.mul_comm _ _⟩ h1)
  have x2 : Nat.Coprime b e := Nat.Coprime.coprime_dvd_left ⟨k, Nat.mul_comm _ _⟩ (Nat.Coprime.coprime_dvd_right ⟨g, Nat.mul_comm _ _⟩ h2)
  have x3 : Nat.gcd (a * b) (e * f) = 1 :=
    Nat.Coprime.mul_left (Nat.Coprime.mul_right c1 x1) (Nat.Coprime.mul_right x2 c2)
  rw [x3, Nat.mul_one]

theorem plus_gcd (A B da db t : Nat) (ha : 0 < da) (hb : 0 < db) (h1 : Nat.gcd A da = 1) (h2 : Nat.gcd B db = 1)
    (t1 : ∀ e, e ∣ t → e ∣ da / Nat.gcd da db → e ∣ A * (db / Nat.gcd da db))
    (t2 : ∀ e, e ∣ t → e ∣ db / Nat.gcd da db → e ∣ B * (da / Nat.gcd da db)) :
    Nat.gcd t (da / Nat.gcd da db * db) = Nat.gcd t (Nat.gcd da db) := by
  have gp : 0 < Nat.gcd da db := Nat.gcd_pos_of_pos_right _ hb
  have c := Nat.coprime_div_gcd_div_gcd gp
  have g1 : Nat.gcd da db ∣ da := Nat.gcd_dvd_left _ _
  have g2 : Nat.gcd da db ∣ db := Nat.gcd_dvd_right _ _
  generalize Nat.gcd da db = g at *
  obtain ⟨u, rfl⟩ := g1
  obtain ⟨o, rfl⟩ := g2
  rw [Nat.mul_div_cancel_left _ gp] at *
  have x1 : Nat.Coprime A u := Nat.Coprime.coprime_dvd_right ⟨g, Nat.mul_comm _ _⟩ h1
  have x2 : Nat.Coprime B o := Nat.Coprime.coprime_dvd_right ⟨g, Nat.mul_comm _ _⟩ h2
  rw [Nat.mul_div_cancel_left _ gp] at *
  have y1 : Nat.Coprime t u := by
    have := t1 _ (Nat.gcd_dvd_left t u) (Nat.gcd_dvd_right t u)
    have z : Nat.Coprime (A * o) u := Nat.Coprime.mul_left x1 c.symm
    have := Nat.dvd_gcd this (Nat.gcd_dvd_right t u)
    rw [z] at this
    exact Nat.eq_one_of_dvd_one this
  have y2 : Nat.Coprime t o := by
    have := t2 _ (Nat.gcd_dvd_left t o) (Nat.gcd_dvd_right t o)
    have z : Nat.Coprime (B * u) o := Nat.Coprime.mul_left x2 c
    have := Nat.dvd_gcd this (Nat.gcd_dvd_right t o)
    rw [z] at this
    exact Nat.eq_one_of_dvd_one this
  rw [Nat.Coprime.gcd_mul_left_cancel_right _ y1.symm, Nat.Coprime.gcd_mul_right_cancel_right _ y2.symm]

/-- 2^63 - 1 -/
def maxI : Nat := 9223372036854775807
/-- the fraction of n over d in lowest terms, over if too great -/
def fracOf (neg : Bool) (n d : Nat) : Int × Int :=
  if d = 0 ∨ maxI < n / Nat.gcd n d ∨ maxI < d / Nat.gcd n d then (0, 0)
  else (if neg then -((n / Nat.gcd n d : Nat) : Int) else ((n / Nat.gcd n d : Nat) : Int), ((d / Nat.gcd n d : Nat) : Int))

theorem fracOf_mul (neg : Bool) (g n d : Nat) (hg : 0 < g) : fracOf neg (g * n) (g * d) = fracOf neg n d := by
  unfold fracOf
  rw [Nat.gcd_mul_left, Nat.mul_div_mul_left _ _ hg, Nat.mul_div_mul_left _ _ hg]
  have : g * d = 0 ↔ d = 0 := by
    rw [Nat.mul_eq_zero]; omega
  simp only [this]

theorem fracOf_red (neg : Bool) (n d : Nat) (hd : 0 < d) : fracOf neg n d = fracOf neg (n / Nat.gcd n d) (d / Nat.gcd n d) := by
  have gp := Nat.gcd_pos_of_pos_right n hd
  have h1 := Nat.mul_div_cancel' (Nat.gcd_dvd_left n d)
  have h2 := Nat.mul_div_cancel' (Nat.gcd_dvd_right n d)
  have e := fracOf_mul neg (n.gcd d) (n / n.gcd d) (d / n.gcd d) gp
  rw [h1, h2] at e
  exact e

theorem fracOf_zero (neg : Bool) (d : Nat) (hd : 0 < d) : fracOf neg 0 d = (0, 1) := by
  unfold fracOf
  rw [Nat.gcd_zero_left, Nat.div_self hd, Nat.zero_div]
  rw [if_neg (by unfold maxI; omega)]
  cases neg <;> rfl

/-- what 'made' tells of a sign and two sizes -/
def madeF (neg : Bool) (n d : Nat) : Int × Int :=
  if d = 0 ∨ maxI < n ∨ maxI < d then (0, 0) else (if neg then -(n : Int) else (n : Int), (d : Int))

theorem fracOf_cop (neg : Bool) (n d : Nat) (h : Nat.gcd n d = 1) : fracOf neg n d = madeF neg n d := by
  unfold fracOf madeF
  rw [h, Nat.div_one, Nat.div_one]

theorem gcd_reduced (n d : Nat) (hd : 0 < d) : Nat.gcd (n / Nat.gcd n d) (d / Nat.gcd n d) = 1 :=
  Nat.coprime_div_gcd_div_gcd (Nat.gcd_pos_of_pos_right n hd)

theorem of_fin (neg : Bool) (n d : Nat) (hd : 0 < d) : fracOf neg n d = madeF neg (n / Nat.gcd n d) (d / Nat.gcd n d) := by
  rw [fracOf_red neg n d hd]
  exact fracOf_cop _ _ _ (gcd_reduced n d hd)

theorem times_fin (neg : Bool) (A B da db : Nat) (ha : 0 < da) (hb : 0 < db) (h1 : Nat.gcd A da = 1) (h2 : Nat.gcd B db = 1) :
    fracOf neg (A * B) (da * db) = madeF neg (A / Nat.gcd A db * (B / Nat.gcd B da)) (da / Nat.gcd B da * (db / Nat.gcd A db)) := by
  rw [of_fin neg _ _ (Nat.mul_pos ha hb), times_gcd A B da db ha hb h1 h2]
  have g1 : Nat.gcd A db ∣ A := Nat.gcd_dvd_left _ _
  have g2 : Nat.gcd A db ∣ db := Nat.gcd_dvd_right _ _
  have k1 : Nat.gcd B da ∣ B := Nat.gcd_dvd_left _ _
  have k2 : Nat.gcd B da ∣ da := Nat.gcd_dvd_right _ _
  rw [Nat.mul_div_mul_comm g1 k1, Nat.mul_comm (Nat.gcd A db) (Nat.gcd B da), Nat.mul_div_mul_comm k2 g2]

theorem plus_fin (neg : Bool) (A B da db t : Nat) (ha : 0 < da) (hb : 0 < db) (h1 : Nat.gcd A da = 1) (h2 : Nat.gcd B db = 1)
    (t1 : ∀ e, e ∣ t → e ∣ da / Nat.gcd da db → e ∣ A * (db / Nat.gcd da db))
    (t2 : ∀ e, e ∣ t → e ∣ db / Nat.gcd da db → e ∣ B * (da / Nat.gcd da db)) :
    fracOf neg (Nat.gcd da db * t) (da * db) =
      madeF neg (t / Nat.gcd (t % Nat.gcd da db) (Nat.gcd da db)) (da / Nat.gcd da db * (db / Nat.gcd (t % Nat.gcd da db) (Nat.gcd da db))) := by
  have gp : 0 < Nat.gcd da db := Nat.gcd_pos_of_pos_right _ hb
  have hg := plus_gcd A B da db t ha hb h1 h2 t1 t2
  have e : da * db = Nat.gcd da db * (da / Nat.gcd da db * db) := by
    rw [← Nat.mul_assoc, Nat.mul_div_cancel' (Nat.gcd_dvd_left da db)]
  have hp : 0 < da / Nat.gcd da db * db := Nat.mul_pos (Nat.div_pos (Nat.gcd_le_left _ ha) gp) hb
  have ek : Nat.gcd (t % Nat.gcd da db) (Nat.gcd da db) = Nat.gcd t (Nat.gcd da db) := by
    rw [Nat.gcd_comm, Nat.gcd_comm t, Nat.gcd_rec (Nat.gcd da db) t, Nat.gcd_comm]
  rw [e, fracOf_mul neg _ _ _ gp, of_fin neg _ _ hp, hg, ek]
  rw [Nat.mul_div_assoc _ (Nat.dvd_trans (Nat.gcd_dvd_right _ _) (Nat.gcd_dvd_right da db))]

theorem madeF_over (neg : Bool) (n d : Nat) (h : maxI < n ∨ maxI < d) : madeF neg n d = (0, 0) := by
  unfold madeF
  rw [if_pos (Or.inr h)]
theorem gcd_even_even (a b : Nat) (ha : a % 2 = 0) (hb : b % 2 = 0) : Nat.gcd a b = 2 * Nat.gcd (a / 2) (b / 2) := by
  have h1 : a = 2 * (a / 2) := by omega
  have h2 : b = 2 * (b / 2) := by omega
  conv => lhs; rw [h1, h2]
  exact Nat.gcd_mul_left 2 _ _

theorem gcd_even_odd (a b : Nat) (ha : a % 2 = 0) (hb : b % 2 = 1) : Nat.gcd (a / 2) b = Nat.gcd a b := by
  have h1 : a = 2 * (a / 2) := by omega
  conv => rhs; rw [h1]
  have hc : Nat.Coprime b 2 := by
    unfold Nat.Coprime
    rw [Nat.gcd_comm, Nat.gcd_rec, hb]
    rfl
  rw [Nat.Coprime.gcd_mul_left_cancel _ hc.symm]

theorem gcd_odd_even (a b : Nat) (ha : a % 2 = 1) (hb : b % 2 = 0) : Nat.gcd a (b / 2) = Nat.gcd a b := by
  rw [Nat.gcd_comm, gcd_even_odd b a hb ha, Nat.gcd_comm]

theorem gcd_less (a b : Nat) (h : a ≤ b) : Nat.gcd a (b - a) = Nat.gcd a b := by
  rw [Nat.gcd_sub_self_right h]

theorem div_more (A b k : Nat) (hb : 0 < b) :
    (A / 2 ^ k) / b = 2 * ((A / 2 ^ (k + 1)) / b) + (if 2 * ((A / 2 ^ (k + 1)) % b) + (A / 2 ^ k) % 2 < b then 0 else 1) ∧
    (A / 2 ^ k) % b = (if 2 * ((A / 2 ^ (k + 1)) % b) + (A / 2 ^ k) % 2 < b then 2 * ((A / 2 ^ (k + 1)) % b) + (A / 2 ^ k) % 2 else 2 * ((A / 2 ^ (k + 1)) % b) + (A / 2 ^ k) % 2 - b) := by
  have e : A / 2 ^ (k + 1) = A / 2 ^ k / 2 := by rw [Nat.pow_succ, Nat.div_div_eq_div_mul]
  rw [e]
  generalize A / 2 ^ k = m
  have h1 : m = 2 * (m / 2) + m % 2 := by omega
  generalize hq : m / 2 = t at *
  have hm := Nat.mod_lt t hb
  have hd := Nat.div_add_mod t b
  generalize hx : t / b = q at *
  generalize hy : t % b = r at *
  have hm2 : m = b * (2 * q) + (2 * r + m % 2) := by
    have : b * (2 * q) = 2 * (b * q) := by simp only [Nat.mul_left_comm]
    omega
  split
  · rename_i hlt
    constructor
    · rw [hm2, Nat.mul_add_div hb, Nat.div_eq_of_lt (by omega)]
    · rw [hm2, Nat.mul_add_mod, Nat.mod_eq_of_lt (by omega)]; omega
  · rename_i hge
    have hm3 : m = b * (2 * q + 1) + (2 * r + m % 2 - b) := by
      rw [Nat.mul_add, Nat.mul_one]; omega
    constructor
    · rw [hm3, Nat.mul_add_div hb, Nat.div_eq_of_lt (by omega)]
    · rw [hm3, Nat.mul_add_mod, Nat.mod_eq_of_lt (by omega)]; omega
abbrev Rt := Int × Int
def sgn (neg : Bool) (n : Nat) : Int := if neg then -(n : Int) else (n : Int)
/-- a rational as a fraction of 64 bits: over, if it is too great -/
def ofQ (q : Rat) : Rt := if maxI < q.num.natAbs ∨ maxI < q.den then (0, 0) else (q.num, (q.den : Int))
def toQ (r : Rt) : Rat := mkRat r.1 r.2.toNat
/-- a fraction that may be and is not over -/
def Sure (r : Rt) : Prop := 1 ≤ r.2 ∧ r.1 ≠ -9223372036854775808 ∧ Nat.gcd r.1.natAbs r.2.toNat = 1
/-- both numbers are int64 -/
def Is64 (r : Rt) : Prop := -9223372036854775808 ≤ r.1 ∧ r.1 ≤ 9223372036854775807 ∧ -9223372036854775808 ≤ r.2 ∧ r.2 ≤ 9223372036854775807

theorem natAbs_sgn (neg : Bool) (n : Nat) : (sgn neg n).natAbs = n := by
  unfold sgn; cases neg <;> simp

theorem sgn_ediv (neg : Bool) (n g : Nat) (h : g ∣ n) : sgn neg n / (g : Int) = sgn neg (n / g) := by
  obtain ⟨m, rfl⟩ := h
  rcases Nat.eq_zero_or_pos g with rfl | hg
  · unfold sgn; cases neg <;> simp
  · have hg' : (g : Int) ≠ 0 := by omega
    rw [Nat.mul_div_cancel_left _ hg]
    unfold sgn
    cases neg
    · simp only [Bool.false_eq_true, if_false]
      rw [Int.natCast_mul, Int.mul_ediv_cancel_left _ hg']
    · simp only [if_true]
      rw [Int.natCast_mul, ← Int.mul_neg, Int.mul_ediv_cancel_left _ hg']

theorem fracOf_ofQ (neg : Bool) (n d : Nat) (hd : 0 < d) : fracOf neg n d = ofQ (mkRat (sgn neg n) d) := by
  unfold fracOf ofQ
  have hd' : d ≠ 0 := by omega
  rw [Rat.num_mkRat, Rat.den_mkRat, if_neg hd', if_neg hd', natAbs_sgn, Nat.gcd_comm d n, sgn_ediv _ _ _ (Nat.gcd_dvd_left n d), natAbs_sgn]
  simp only [hd', false_or]
  rfl

theorem toQ_num {r : Rt} (h : Sure r) : (toQ r).num = r.1 := by
  obtain ⟨h1, h2, h3⟩ := h
  unfold toQ
  rw [Rat.num_mkRat, if_neg (by omega), Nat.gcd_comm, h3]
  simp

theorem toQ_den {r : Rt} (h : Sure r) : ((toQ r).den : Int) = r.2 := by
  obtain ⟨h1, h2, h3⟩ := h
  unfold toQ
  rw [Rat.den_mkRat, if_neg (by omega), Nat.gcd_comm, h3]
  simp; omega

theorem ofQ_toQ {r : Rt} (h : Sure r) (h64 : Is64 r) : ofQ (toQ r) = r := by
  unfold ofQ
  have e1 := toQ_num h
  have e2 := toQ_den h
  obtain ⟨b1, b2, b3, b4⟩ := h64
  obtain ⟨h1, h2, h3⟩ := h
  rw [if_neg (by unfold maxI; omega), e1, e2]

theorem sure_ofQ (q : Rat) : ofQ q = (0, 0) ∨ (Sure (ofQ q) ∧ Is64 (ofQ q) ∧ toQ (ofQ q) = q) := by
  unfold ofQ
  split
  · left; rfl
  · rename_i h
    right
    have hp := q.den_pos
    refine ⟨⟨by show (1 : Int) ≤ (q.den : Int); omega, by show q.num ≠ _; unfold maxI at h; omega, ?_⟩, ?_, ?_⟩
    · show Nat.gcd q.num.natAbs (q.den : Int).toNat = 1
      rw [Int.toNat_natCast]; exact q.reduced
    · unfold Is64 maxI at *
      show _ ≤ q.num ∧ q.num ≤ _ ∧ _ ≤ (q.den : Int) ∧ (q.den : Int) ≤ _
      omega
    · unfold toQ
      show mkRat q.num (q.den : Int).toNat = q
      rw [Int.toNat_natCast, Rat.mkRat_self]

theorem not_sure_over : ¬ Sure (0, 0) := by
  intro h; have := h.1; simp at this

theorem toQ_inj {a b : Rt} (ha : Sure a) (hb : Sure b) (h : toQ a = toQ b) : a = b := by
  have e1 := toQ_num ha
  have e2 := toQ_den ha
  rw [h, toQ_num hb] at e1
  rw [h, toQ_den hb] at e2
  exact Prod.ext e1.symm e2.symm

/-- the size of a number -/
theorem sgn_of (x : Int) : sgn (decide (x < 0)) x.natAbs = x := by
  unfold sgn
  by_cases h : x < 0
  · simp only [h, decide_true, if_true]; omega
  · simp only [h, decide_false, if_false, Bool.false_eq_true]; omega

theorem toQ_mul {a b : Rt} (ha : 1 ≤ a.2) (hb : 1 ≤ b.2) :
    ofQ (toQ a * toQ b) = fracOf (decide (a.1 < 0) != decide (b.1 < 0)) (a.1.natAbs * b.1.natAbs) (a.2.toNat * b.2.toNat) := by
  rw [fracOf_ofQ _ _ _ (Nat.mul_pos (by omega) (by omega))]
  unfold toQ
  rw [Rat.mkRat_mul_mkRat]
  have e : sgn (decide (a.1 < 0) != decide (b.1 < 0)) (a.1.natAbs * b.1.natAbs) = a.1 * b.1 := by
    have h1 := sgn_of a.1
    have h2 := sgn_of b.1
    conv => rhs; rw [← h1, ← h2]
    cases decide (a.1 < 0) <;> cases decide (b.1 < 0) <;> simp [sgn, Int.mul_neg, Int.neg_mul]
  rw [e]

/-- the sum of two, by sizes and signs -/
def plusParts (a b : Rt) : Bool × Nat :=
  if decide (a.1 < 0) = decide (b.1 < 0) then (decide (a.1 < 0), a.1.natAbs * b.2.toNat + b.1.natAbs * a.2.toNat)
  else if a.1.natAbs * b.2.toNat < b.1.natAbs * a.2.toNat then (decide (b.1 < 0), b.1.natAbs * a.2.toNat - a.1.natAbs * b.2.toNat)
  else (decide (a.1 < 0), a.1.natAbs * b.2.toNat - b.1.natAbs * a.2.toNat)

theorem sgn_plusParts (a b : Rt) : sgn (plusParts a b).1 (plusParts a b).2 = a.1 * (b.2.toNat : Int) + b.1 * (a.2.toNat : Int) := by
  have h1 := sgn_of a.1
  have h2 := sgn_of b.1
  conv => rhs; rw [← h1, ← h2]
  unfold plusParts
  generalize a.1.natAbs = x
  generalize b.1.natAbs = y
  generalize a.2.toNat = d
  generalize b.2.toNat = e
  cases decide (a.1 < 0) <;> cases decide (b.1 < 0) <;> simp only [sgn, if_true, if_false, Bool.false_eq_true, Bool.true_eq_false, Int.neg_mul, Int.natCast_add, Int.natCast_mul] <;> try omega
  all_goals (rw [← Int.natCast_mul, ← Int.natCast_mul]; split <;> simp <;> omega)

theorem toQ_add {a b : Rt} (ha : 1 ≤ a.2) (hb : 1 ≤ b.2) :
    ofQ (toQ a + toQ b) = fracOf (plusParts a b).1 (plusParts a b).2 (a.2.toNat * b.2.toNat) := by
  rw [fracOf_ofQ _ _ _ (Nat.mul_pos (by omega) (by omega)), sgn_plusParts]
  unfold toQ
  rw [Rat.mkRat_add_mkRat _ _ (by omega) (by omega)]
/-- which of two is less: -1, 0, 1 -/
def cmpI (a b : Rt) : Int := if a.1 * b.2 < b.1 * a.2 then -1 else if b.1 * a.2 < a.1 * b.2 then 1 else 0

theorem cmpI_signs {a b : Rt} (ha : 1 ≤ a.2) (hb : 1 ≤ b.2) (h1 : a.1 < 0) (h2 : ¬ b.1 < 0) : cmpI a b = -1 := by
  unfold cmpI
  have e1 : a.1 * b.2 < 0 := Int.mul_neg_of_neg_of_pos h1 (by omega)
  have e2 : 0 ≤ b.1 * a.2 := Int.mul_nonneg (by omega) (by omega)
  rw [if_pos (by omega)]

theorem cmpI_signs' {a b : Rt} (ha : 1 ≤ a.2) (hb : 1 ≤ b.2) (h1 : ¬ a.1 < 0) (h2 : b.1 < 0) : cmpI a b = 1 := by
  unfold cmpI
  have e1 : b.1 * a.2 < 0 := Int.mul_neg_of_neg_of_pos h2 (by omega)
  have e2 : 0 ≤ a.1 * b.2 := Int.mul_nonneg (by omega) (by omega)
  rw [if_neg (by omega), if_pos (by omega)]

/-- the sizes crosswise -/
def crossA (a b : Rt) : Nat := a.1.natAbs * b.2.toNat
theorem crossA_pos {a b : Rt} (hb : 1 ≤ b.2) (h : ¬ a.1 < 0) : (crossA a b : Int) = a.1 * b.2 := by
  unfold crossA
  rw [Int.natCast_mul, Int.toNat_of_nonneg (by omega), show (a.1.natAbs : Int) = a.1 from by omega]
theorem crossA_neg {a b : Rt} (hb : 1 ≤ b.2) (h : a.1 < 0) : (crossA a b : Int) = -(a.1 * b.2) := by
  unfold crossA
  rw [Int.natCast_mul, Int.toNat_of_nonneg (by omega), show (a.1.natAbs : Int) = -a.1 from by omega, Int.neg_mul]

theorem cmpI_pos {a b : Rt} (ha : 1 ≤ a.2) (hb : 1 ≤ b.2) (h1 : ¬ a.1 < 0) (h2 : ¬ b.1 < 0) :
    cmpI a b = if crossA a b < crossA b a then -1 else if crossA b a < crossA a b then 1 else 0 := by
  unfold cmpI
  have e1 := crossA_pos hb h1
  have e2 := crossA_pos ha h2
  rw [← e1, ← e2]
  simp only [Int.ofNat_lt]

theorem cmpI_neg {a b : Rt} (ha : 1 ≤ a.2) (hb : 1 ≤ b.2) (h1 : a.1 < 0) (h2 : b.1 < 0) :
    cmpI a b = if crossA b a < crossA a b then -1 else if crossA a b < crossA b a then 1 else 0 := by
  unfold cmpI
  have e1 := crossA_neg hb h1
  have e2 := crossA_neg ha h2
  rw [show a.1 * b.2 = -(crossA a b : Int) from by omega, show b.1 * a.2 = -(crossA b a : Int) from by omega]
  simp only [Int.neg_lt_neg_iff, Int.ofNat_lt]

theorem lt_iff_toQ {a b : Rt} (ha : Sure a) (hb : Sure b) : toQ a < toQ b ↔ a.1 * b.2 < b.1 * a.2 := by
  rw [Rat.lt_iff, toQ_num ha, toQ_num hb, toQ_den ha, toQ_den hb]

theorem cmpI_toQ {a b : Rt} (ha : Sure a) (hb : Sure b) : cmpI a b = if toQ a < toQ b then -1 else if toQ b < toQ a then 1 else 0 := by
  unfold cmpI
  simp only [lt_iff_toQ ha hb, lt_iff_toQ hb ha]
end Go.Proofs.YtgjhaanpkfheeaaDoor
