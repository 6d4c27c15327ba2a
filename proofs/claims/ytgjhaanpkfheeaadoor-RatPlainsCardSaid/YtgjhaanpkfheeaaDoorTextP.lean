/- Fractions out of texts: the program's way and the reference's tell the same: plain. No program here. -/
import Derived.Test.YtgjhaanpkfheeaaDoorTextM
namespace Go.Proofs.YtgjhaanpkfheeaaDoor
set_option linter.unusedVariables false
set_option linter.unusedSimpArgs false
open Go.Lib

/-- the number at a text's front, what is behind it -/
def wholeF (s : List UInt8) : Nat × List UInt8 × Bool :=
  if (s.takeWhile isD).length = 0 ∨ 19 < (s.takeWhile isD).length then (0, [], false) else (valD (s.takeWhile isD), s.dropWhile isD, decide (valD (s.takeWhile isD) ≤ 9223372036854775807))

def signF (neg : Bool) (n : Nat) : Int := if neg then -(n : Int) else n
def behindF (neg : Bool) (s : List UInt8) : List UInt8 := if neg then s.tail else s

/-- the program's parts -/
def denF (w : Nat × List UInt8 × Bool) : Nat × List UInt8 × Bool := if w.2.2 && (w.2.1.head? == some 47) then wholeF w.2.1.tail else (1, w.2.1, w.2.2)
/-- the program's way -/
def parseP (s : List UInt8) : Rt × Bool :=
  if s = overT then ((0, 0), true) else
    let neg := s.head? == some 45
    let w := wholeF (behindF neg s)
    let v := denF w
    let r : Rt := (signF neg w.1, v.1)
    if v.2.2 && v.2.1.isEmpty && sureB r && (textF r == s) then (r, true) else ((0, 0), false)

/-- a number as it is written -/
def countF (l : List UInt8) : Nat × Bool :=
  if l = [] ∨ 19 < l.length ∨ (l.head? = some 48 ∧ 1 < l.length) then (0, false) else if l.all isD then (valD l, decide (valD l ≤ 9223372036854775807)) else (0, false)
def topF (t : List UInt8) : List UInt8 := t.takeWhile (· != 47)
def lowF (t : List UInt8) : List UInt8 := if t.contains 47 then (t.dropWhile (· != 47)).tail else [49]
/-- the reference's way -/
def parseR (s : List UInt8) : Rt × Bool :=
  if s = overT then ((0, 0), true) else
    let neg := s.head? == some 45
    let t := behindF neg s
    let n := countF (topF t)
    let d := countF (lowF t)
    if !n.2 || !d.2 || (t.contains 47 && decide (d.1 < 2)) || (neg && n.1 == 0) then ((0, 0), false) else
      let r : Rt := (signF neg n.1, d.1)
      if mayB r then (r, true) else ((0, 0), false)

theorem count_ok {l : List UInt8} (h : (countF l).2 = true) : plainD l ∧ (countF l).1 = valD l ∧ valD l ≤ 9223372036854775807 := by
  unfold countF at h ⊢
  split at h
  · cases h
  · rename_i h1
    rw [if_neg h1]
    split at h
    · rename_i h2
      rw [if_pos h2]
      refine ⟨⟨fun e => h1 (Or.inl e), h2, fun e => ?_⟩, rfl, by simpa using h⟩
      rcases Nat.lt_or_ge 1 l.length with h3 | h3
      · exact absurd (Or.inr (Or.inr ⟨e, h3⟩)) h1
      · have : l ≠ [] := fun e => h1 (Or.inl e)
        have : l.length ≠ 0 := by simpa using this
        omega
    · cases h
theorem count_dec {u : Nat} (h : u ≤ 9223372036854775807) : countF (decDigits u) = (u, true) := by
  have hp := dec_plain u
  have hl := dec_len h
  unfold countF
  rw [if_neg, if_pos hp.2.1, val_dec, decide_eq_true h]
  rintro (h1 | h1 | ⟨h1, h2⟩)
  · exact hp.1 h1
  · omega
  · have := hp.2.2 h1
    omega

theorem sure_parts {r : Rt} (h : sureB r = true) : 1 ≤ r.2 ∧ r.1 ≠ -9223372036854775808 := by
  simp only [sureB, Bool.and_eq_true, decide_eq_true_eq, bne_iff_ne, ne_eq] at h
  exact ⟨h.1.1, h.1.2⟩

theorem take_all {p : UInt8 → Bool} {l m : List UInt8} (h : l.all p = true) (hm : ∀ a, m.head? = some a → p a = false) : (l ++ m).takeWhile p = l ∧ (l ++ m).dropWhile p = m := by
  induction l with
  | nil =>
    cases m with
    | nil => exact ⟨rfl, rfl⟩
    | cons a m =>
      have := hm a rfl
      simp [this]
  | cons a l ih =>
    simp only [List.all_cons, Bool.and_eq_true] at h
    obtain ⟨h1, h2⟩ := ih h.2
    simp [h.1, h1, h2]

theorem whole_dec {u : Nat} (h : u ≤ 9223372036854775807) {m : List UInt8} (hm : ∀ a, m.head? = some a → isD a = false) : wholeF (decDigits u ++ m) = (u, m, true) := by
  obtain ⟨h1, h2⟩ := take_all (dec_all u) hm
  have hl := dec_len h
  have hp := dec_ne u
  unfold wholeF
  rw [h1, h2, if_neg (by simp [hp]; omega), val_dec, decide_eq_true h]

theorem dec_first {u : Nat} {m : List UInt8} {c : UInt8} (h : (decDigits u ++ m).head? = some c) : isD c = true := by
  have ha := dec_all u
  cases hd : decDigits u with
  | nil => exact absurd hd (dec_ne u)
  | cons a l =>
    rw [hd] at h ha
    simp only [List.cons_append, List.head?_cons, Option.some.injEq] at h
    subst h
    simp only [List.all_cons, Bool.and_eq_true] at ha
    exact ha.1

/-- a sure fraction's text: its parts -/
theorem text_form {r : Rt} (h : sureB r = true) (h64 : Is64 r) : ∃ (neg : Bool) (n : Nat), r.1 = signF neg n ∧ n ≤ 9223372036854775807 ∧ (neg = true → n ≠ 0) ∧ 1 ≤ r.2 ∧ r.2.toNat ≤ 9223372036854775807 ∧
    textF r = (if neg then [45] else []) ++ (decDigits n ++ (if 1 < r.2 then 47 :: decDigits r.2.toNat else [])) := by
  obtain ⟨h1, h2⟩ := sure_parts h
  obtain ⟨b1, b2, b3, b4⟩ := h64
  refine ⟨decide (r.1 < 0), r.1.natAbs, ?_, by omega, ?_, h1, by omega, ?_⟩
  · unfold signF
    by_cases hn : r.1 < 0
    · rw [if_pos (by simpa using hn)]; omega
    · rw [if_neg (by simpa using hn)]; omega
  · intro hn
    simp only [decide_eq_true_eq] at hn
    omega
  · unfold textF
    rw [if_pos h]
    by_cases hn : r.1 < 0
    · rw [if_pos hn, show decide (r.1 < 0) = true by simpa using hn]; rfl
    · rw [if_neg hn, show decide (r.1 < 0) = false by simpa using hn]; rfl

theorem form_not_over {neg : Bool} {n : Nat} {m : List UInt8} : (if neg then [45] else []) ++ (decDigits n ++ m) ≠ overT := by
  intro h
  cases neg with
  | true => simp [overT] at h
  | false =>
    have h1 : (decDigits n ++ m).head? = some 111 := by
      have : decDigits n ++ m = overT := by simpa using h
      rw [this]; rfl
    have := dec_first h1
    revert this
    decide
theorem form_neg {neg : Bool} {n : Nat} {m : List UInt8} : (((if neg then [45] else []) ++ (decDigits n ++ m)).head? == some 45) = neg := by
  cases neg with
  | true => rfl
  | false =>
    simp only [Bool.false_eq_true, if_false, List.nil_append]
    rw [beq_eq_false_iff_ne]
    intro h
    have := dec_first h
    revert this
    decide
theorem form_behind {neg : Bool} {l : List UInt8} : behindF neg ((if neg then [45] else []) ++ l) = l := by
  cases neg <;> rfl

theorem sla_not : isD 47 = false := by decide
theorem tail_head {c : Prop} [Decidable c] {l : List UInt8} : ∀ a, (if c then 47 :: l else []).head? = some a → a = 47 := by
  intro a h
  split at h
  · simpa using h.symm
  · simp at h

theorem parseP_text {r : Rt} (h : sureB r = true) (h64 : Is64 r) : parseP (textF r) = (r, true) := by
  obtain ⟨neg, n, e1, hn, _, h2, hd, ht⟩ := text_form h h64
  have hr : (signF neg n, r.2) = r := by rw [← e1]
  have hw : wholeF (decDigits n ++ (if 1 < r.2 then 47 :: decDigits r.2.toNat else [])) = (n, (if 1 < r.2 then 47 :: decDigits r.2.toNat else []), true) := whole_dec hn (fun a ha => by rw [tail_head a ha]; exact sla_not)
  have hv : denF (n, (if 1 < r.2 then 47 :: decDigits r.2.toNat else []), true) = (r.2.toNat, [], true) := by
    unfold denF
    by_cases h1 : 1 < r.2
    · simp only [if_pos h1, List.head?_cons, beq_self_eq_true, Bool.and_true, if_true, List.tail_cons]
      have := whole_dec (u := r.2.toNat) hd (m := []) (fun a ha => by simp at ha)
      simpa using this
    · simp only [if_neg h1]
      have : r.2.toNat = 1 := by omega
      rw [this]
      rfl
  unfold parseP
  rw [if_neg (by rw [ht]; exact form_not_over)]
  simp only [ht, form_neg, form_behind, hw, hv]
  have hr2 : (signF neg n, (r.2.toNat : Int)) = r := by
    rw [show (r.2.toNat : Int) = r.2 by omega]; exact hr
  rw [hr2, h, ← ht]
  simp

theorem parseP_ok {s : List UInt8} {r : Rt} (h : parseP s = (r, true)) (hs : s ≠ overT) : sureB r = true ∧ textF r = s ∧ Is64 r := by
  unfold parseP at h
  rw [if_neg hs] at h
  simp only at h
  generalize (s.head? == some 45) = neg at h
  split at h
  · rename_i hc
    simp only [Bool.and_eq_true, beq_iff_eq] at hc
    obtain ⟨⟨⟨c1, c2⟩, c3⟩, c4⟩ := hc
    obtain rfl := (Prod.mk.inj h).1.symm
    refine ⟨c3, c4, ?_⟩
    have hwok : ∀ t, (wholeF t).2.2 = true → (wholeF t).1 ≤ 9223372036854775807 := fun t ht => by
      unfold wholeF at ht ⊢
      split at ht
      · cases ht
      · rename_i h1
        rw [if_neg h1]
        simpa using ht
    have hwt : (wholeF (behindF neg s)).2.2 = true := by
      unfold denF at c1
      split at c1
      · rename_i hc
        simp only [Bool.and_eq_true] at hc
        exact hc.1
      · exact c1
    have h1 := hwok _ hwt
    have h2 : (denF (wholeF (behindF neg s))).1 ≤ 9223372036854775807 := by
      unfold denF at c1 ⊢
      split at c1
      · rename_i hc
        rw [if_pos hc]
        exact hwok _ c1
      · rename_i hc
        rw [if_neg hc]
        show 1 ≤ 9223372036854775807
        omega
    unfold Is64 signF
    simp only
    split <;> omega
  · cases (Prod.mk.inj h).2

theorem parseR_text {r : Rt} (h : sureB r = true) (h64 : Is64 r) : parseR (textF r) = (r, true) := by
  obtain ⟨neg, n, e1, hn, hz, h2, hd, ht⟩ := text_form h h64
  have hall : (decDigits n).all (· != 47) = true := by
    rw [List.all_eq_true]
    intro c hc
    have := List.all_eq_true.1 (dec_all n) c hc
    rw [bne_iff_ne]
    rintro rfl
    revert this
    decide
  have hnot : (decDigits n).contains 47 = false := by
    rw [List.contains_eq_any_beq]
    simp only [List.any_eq_false, beq_iff_eq]
    intro c hc e
    have := List.all_eq_true.1 hall c hc
    rw [bne_iff_ne] at this
    exact this e.symm
  have hm : mayB r = true := by unfold mayB; rw [h, Bool.or_true]
  have key : ∀ m : List UInt8, (∀ a, m.head? = some a → (a != 47) = false) → topF (decDigits n ++ m) = decDigits n ∧ (decDigits n ++ m).dropWhile (· != 47) = m := fun m hm => take_all hall hm
  have hr2 : (signF neg n, (r.2.toNat : Int)) = r := by
    rw [show (r.2.toNat : Int) = r.2 by omega, ← e1]
  have hz' : (neg && n == 0) = false := by
    cases neg with
    | false => rfl
    | true => simpa using hz rfl
  unfold parseR
  rw [if_neg (by rw [ht]; exact form_not_over)]
  simp only [ht, form_neg, form_behind]
  by_cases h1 : 1 < r.2
  · rw [if_pos h1]
    obtain ⟨k1, k2⟩ := key (47 :: decDigits r.2.toNat) (fun a ha => by simp at ha; rw [← ha]; decide)
    have hc : (decDigits n ++ 47 :: decDigits r.2.toNat).contains 47 = true := by simp
    have hl : lowF (decDigits n ++ 47 :: decDigits r.2.toNat) = decDigits r.2.toNat := by
      unfold lowF
      rw [hc, if_pos rfl, k2]
      rfl
    rw [k1, hl, hc, count_dec hn, count_dec hd]
    have h3 : decide (r.2.toNat < 2) = false := by simp; omega
    simp only [h3, hz', Bool.not_true, Bool.or_self, Bool.and_false, Bool.false_or, Bool.false_eq_true, if_false, hr2, hm, if_true]
  · rw [if_neg h1, List.append_nil]
    obtain ⟨k1, k2⟩ := key [] (fun a ha => by simp at ha)
    rw [List.append_nil] at k1 k2
    have hl : lowF (decDigits n) = [49] := by
      unfold lowF
      rw [hnot]
      rfl
    have h49 : countF [49] = (1, true) := by decide
    have hone : (1 : Nat) = r.2.toNat := by omega
    rw [k1, hl, hnot, count_dec hn, h49]
    simp only [hz', Bool.not_true, Bool.or_self, Bool.false_and, Bool.false_eq_true, if_false]
    rw [show ((1 : Nat) : Int) = (r.2.toNat : Int) by omega, hr2, hm]
    rfl

theorem drop_form (t : List UInt8) : t.dropWhile (· != 47) = if t.contains 47 then 47 :: (t.dropWhile (· != 47)).tail else [] := by
  induction t with
  | nil => rfl
  | cons a t ih =>
    by_cases ha : a = 47
    · subst ha
      simp
    · have h1 : (a != 47) = true := by simpa using ha
      have h2 : (a :: t).contains 47 = t.contains 47 := by
        simp only [List.contains_cons]
        have : ((47 : UInt8) == a) = false := by simpa using fun e => ha e.symm
        rw [this, Bool.false_or]
      rw [h2, List.dropWhile_cons, if_pos h1]
      exact ih
theorem split_top (t : List UInt8) : t = topF t ++ (if t.contains 47 then 47 :: lowF t else []) := by
  have h := List.takeWhile_append_dropWhile (p := fun c : UInt8 => c != 47) (l := t)
  rw [drop_form] at h
  unfold topF lowF
  cases hc : t.contains 47 with
  | true =>
    rw [hc] at h
    rw [if_pos rfl, if_pos rfl]
    exact h.symm
  | false =>
    rw [hc] at h
    rw [if_neg (by decide)]
    exact h.symm
theorem sign_split (s : List UInt8) : s = (if s.head? == some 45 then [45] else []) ++ behindF (s.head? == some 45) s := by
  cases s with
  | nil => rfl
  | cons a s =>
    by_cases ha : a = 45
    · subst ha; rfl
    · have : (some a == some (45 : UInt8)) = false := by simpa using ha
      simp only [List.head?_cons, this, behindF]
      rfl

theorem parseR_ok {s : List UInt8} {r : Rt} (h : parseR s = (r, true)) (hs : s ≠ overT) : sureB r = true ∧ textF r = s ∧ Is64 r := by
  unfold parseR at h
  rw [if_neg hs] at h
  simp only at h
  split at h
  · cases (Prod.mk.inj h).2
  · rename_i hc
    simp only [Bool.or_eq_true, Bool.not_eq_true', Bool.and_eq_true, decide_eq_true_eq, beq_iff_eq, not_or, not_and, Bool.not_eq_false] at hc
    obtain ⟨⟨⟨c1, c2⟩, c3⟩, c4⟩ := hc
    split at h
    · rename_i hm
      obtain rfl := (Prod.mk.inj h).1.symm
      obtain ⟨p1, v1, b1⟩ := count_ok c1
      obtain ⟨p2, v2, b2⟩ := count_ok c2
      rw [v1] at c4 hm ⊢
      rw [v2] at c3 hm ⊢
      have hden : 1 ≤ valD (lowF (behindF (s.head? == some 45) s)) := by
        by_cases hp : 47 ∈ behindF (s.head? == some 45) s
        · have := c3 (by simpa using hp)
          omega
        · have : lowF (behindF (s.head? == some 45) s) = [49] := by
            unfold lowF
            rw [if_neg (by simpa using hp)]
          rw [this]
          decide
      have hsure : sureB (signF (s.head? == some 45) (valD (topF (behindF (s.head? == some 45) s))), (valD (lowF (behindF (s.head? == some 45) s)) : Int)) = true := by
        unfold mayB at hm
        simp only [Bool.or_eq_true, Bool.and_eq_true, decide_eq_true_eq] at hm
        rcases hm with ⟨_, h0⟩ | h0
        · omega
        · exact h0
      refine ⟨hsure, ?_, ?_⟩
      · have hs1 := sign_split s
        have hs2 := split_top (behindF (s.head? == some 45) s)
        have d1 := dec_val _ p1
        have d2 := dec_val _ p2
        have hlow : (behindF (s.head? == some 45) s).contains 47 = false → valD (lowF (behindF (s.head? == some 45) s)) = 1 := fun hp => by
          unfold lowF
          rw [hp]
          rfl
        have c3' : (behindF (s.head? == some 45) s).contains 47 = true → ¬ valD (lowF (behindF (s.head? == some 45) s)) < 2 := fun hp => by
          have := c3 (by simpa using hp)
          omega
        have c4' : (s.head? == some 45) = true → valD (topF (behindF (s.head? == some 45) s)) ≠ 0 := fun hp => by
          have := c4 (by simpa using hp)
          omega
        unfold textF
        rw [if_pos hsure]
        generalize (s.head? == some 45) = neg at *
        generalize behindF neg s = t at *
        conv => rhs; rw [hs1, hs2]
        simp only [Int.toNat_natCast, d2]
        have e1 : (if signF neg (valD (topF t)) < 0 then 45 :: decDigits (signF neg (valD (topF t))).natAbs else decDigits (signF neg (valD (topF t))).natAbs) = (if neg then [45] else []) ++ topF t := by
          cases neg with
          | true =>
            have := c4' rfl
            rw [if_pos (by unfold signF; rw [if_pos rfl]; omega), show (signF true (valD (topF t))).natAbs = valD (topF t) by unfold signF; rw [if_pos rfl]; omega, d1]
            rfl
          | false =>
            rw [if_neg (by unfold signF; rw [if_neg (by decide)]; omega), show (signF false (valD (topF t))).natAbs = valD (topF t) by unfold signF; rw [if_neg (by decide)]; omega, d1]
            rfl
        have e2 : (if (1 : Int) < (valD (lowF t) : Int) then 47 :: lowF t else []) = (if t.contains 47 then 47 :: lowF t else []) := by
          cases hp : t.contains 47 with
          | true =>
            have := c3' hp
            rw [if_pos (by omega), if_pos rfl]
          | false =>
            have := hlow hp
            rw [if_neg (by omega), if_neg (by decide)]
        rw [e1, e2, List.append_assoc]
      · unfold Is64 signF
        simp only
        split <;> omega
    · cases (Prod.mk.inj h).2

theorem parseP_false {s : List UInt8} (h : (parseP s).2 = false) : parseP s = ((0, 0), false) := by
  unfold parseP at h ⊢
  split at h
  · cases h
  · rename_i hs
    rw [if_neg hs]
    simp only at h ⊢
    split at h
    · cases h
    · rename_i hc
      rw [if_neg hc]
theorem parseR_false {s : List UInt8} (h : (parseR s).2 = false) : parseR s = ((0, 0), false) := by
  unfold parseR at h ⊢
  split at h
  · cases h
  · rename_i hs
    rw [if_neg hs]
    simp only at h ⊢
    split at h
    · rename_i hc
      rw [if_pos hc]
    · rename_i hc
      rw [if_neg hc]
      split at h
      · cases h
      · rename_i hm
        rw [if_neg hm]

/-- both ways tell the same of any text -/
theorem parse_same (s : List UInt8) : parseP s = parseR s := by
  by_cases hs : s = overT
  · unfold parseP parseR
    rw [if_pos hs, if_pos hs]
  · cases hp : (parseP s).2 with
    | true =>
      have e : parseP s = ((parseP s).1, true) := by rw [← hp]
      obtain ⟨h1, h2, h3⟩ := parseP_ok e hs
      rw [e]
      have := parseR_text h1 h3
      rw [h2] at this
      exact this.symm
    | false =>
      cases hr : (parseR s).2 with
      | true =>
        have e : parseR s = ((parseR s).1, true) := by rw [← hr]
        obtain ⟨h1, h2, h3⟩ := parseR_ok e hs
        have := parseP_text h1 h3
        rw [h2] at this
        rw [this] at hp
        cases hp
      | false => rw [parseP_false hp, parseR_false hr]

/-- a fraction's text read again -/
theorem parse_text (r : Rt) (h64 : Is64 r) : parseP (textF r) = (if mayB r then r else (0, 0), true) := by
  cases h : sureB r with
  | true =>
    rw [parseP_text h h64]
    unfold mayB
    rw [h, Bool.or_true, if_pos rfl]
  | false =>
    have ht : textF r = overT := by unfold textF; rw [h]; rfl
    unfold parseP
    rw [if_pos ht]
    unfold mayB
    rw [h, Bool.or_false]
    split
    · rename_i hz
      simp only [Bool.and_eq_true, decide_eq_true_eq] at hz
      obtain ⟨a, b⟩ := r
      simp only at hz
      rw [hz.1, hz.2]
    · rfl

end Go.Proofs.YtgjhaanpkfheeaaDoor
