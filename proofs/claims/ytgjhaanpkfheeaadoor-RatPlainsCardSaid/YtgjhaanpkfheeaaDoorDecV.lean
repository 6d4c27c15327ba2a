/- Numbers of a stylesheet: plain laws of the digits and the power of ten. No program here. -/
import Derived.Test.YtgjhaanpkfheeaaDoorDecM
import Derived.Test.YtgjhaanpkfheeaaDoorTextV
namespace Go.Proofs.YtgjhaanpkfheeaaDoor
set_option linter.unusedVariables false
set_option linter.unusedSimpArgs false
open Go.Lib

theorem trim_cat (l : List UInt8) : ∃ k, l = trimR l ++ List.replicate k 48 := by
  refine snoc_ind (P := fun l => ∃ k, l = trimR l ++ List.replicate k 48) ⟨0, rfl⟩ (fun l c ih => ?_) l
  by_cases h : c = 48
  · subst h
    obtain ⟨k, hk⟩ := ih
    refine ⟨k + 1, ?_⟩
    rw [trimR_nought, List.replicate_succ', ← List.append_assoc, ← hk]
  · exact ⟨0, by rw [trimR_stop h]; simp⟩
theorem trim_len (l : List UInt8) : (trimR l).length ≤ l.length := by
  obtain ⟨k, hk⟩ := trim_cat l
  have := congrArg List.length hk
  rw [List.length_append] at this
  omega
theorem trim_all {l : List UInt8} (h : l.all isD = true) : (trimR l).all isD = true := by
  obtain ⟨k, hk⟩ := trim_cat l
  rw [hk, List.all_append, Bool.and_eq_true] at h
  exact h.1
theorem trim_head {l : List UInt8} (hne : l ≠ []) (h : l.head? ≠ some 48) : trimR l ≠ [] ∧ (trimR l).head? ≠ some 48 := by
  obtain ⟨k, hk⟩ := trim_cat l
  have h1 : trimR l ≠ [] := by
    intro e
    rw [e, List.nil_append] at hk
    cases k with
    | zero => exact hne hk
    | succ k => rw [hk] at h; exact h rfl
  refine ⟨h1, fun e => h ?_⟩
  cases ht : trimR l with
  | nil => exact absurd ht h1
  | cons a b => rw [ht] at hk e; rw [hk]; exact e
theorem drop_head (l : List UInt8) : (l.dropWhile (· == 48)).head? ≠ some 48 := by
  induction l with
  | nil => simp
  | cons a b ih =>
    by_cases h : (a == 48) = true
    · rw [List.dropWhile_cons_of_pos (p := (· == 48)) h]; exact ih
    · rw [List.dropWhile_cons_of_neg (p := (· == 48)) h]
      intro e
      exact h (by simpa using e)
theorem drop_all {l : List UInt8} (h : l.all isD = true) : (l.dropWhile (· == 48)).all isD = true := by
  rw [List.all_eq_true] at h ⊢
  exact fun x hx => h x ((List.dropWhile_suffix _).subset hx)
theorem core_val {l : List UInt8} (h : l.all isD = true) (hne : l.dropWhile (· == 48) ≠ []) (hlen : (trimR (l.dropWhile (· == 48))).length ≤ 18) :
    1 ≤ valD (trimR (l.dropWhile (· == 48))) ∧ valD (trimR (l.dropWhile (· == 48))) < 1000000000000000000 := by
  obtain ⟨h1, h2⟩ := trim_head hne (drop_head l)
  have h3 := trim_all (drop_all h)
  refine ⟨val_pos _ h3 h1 h2, Nat.lt_of_lt_of_le (val_lt _ h3) ?_⟩
  exact Nat.le_trans (Nat.pow_le_pow_right (by decide) hlen) (by decide)

theorem scale_nought (neg : Bool) (n : Nat) : scaleF neg n 0 = (if neg then -(n : Int) else n, 1) := by
  simp [scaleF, stripF, upF]
theorem scale_step {neg : Bool} {n : Nat} {e : Int} (h : 0 < e) (h2 : n ≤ 922337203685477580) : scaleF neg n e = scaleF neg (n * 10) (e - 1) := by
  have h3 : tenF e.toNat n = tenF (e - 1).toNat (n * 10) := by
    rw [show e.toNat = (e - 1).toNat + 1 by omega, tenF, if_neg (by omega)]
  by_cases h1 : e = 1
  · subst h1
    rw [show (1 : Int) - 1 = 0 from rfl, scale_nought]
    unfold scaleF
    rw [if_pos h, h3]
    rfl
  · unfold scaleF
    rw [if_pos h, if_pos (show 0 < e - 1 by omega), h3]
theorem scale_stop {neg : Bool} {n : Nat} {e : Int} (h : 0 < e) (h2 : 922337203685477580 < n) : scaleF neg n e = (0, 0) := by
  unfold scaleF
  rw [if_pos h, show e.toNat = (e - 1).toNat + 1 by omega, tenF, if_pos h2]
/-- what is made of a number and what it is divided by -/
def downT (neg : Bool) (x : Option (Nat × Nat)) : Rt :=
  match x with
  | none => (0, 0)
  | some (n, d) => (if neg then -(n : Int) else n, (d : Int))
theorem scale_down {neg : Bool} {n : Nat} {e : Int} (h : e ≤ 0) : scaleF neg n e = downT neg ((downF 2 (-e).toNat n 1).bind fun x => downF 5 (-e).toNat x.1 x.2) := by
  unfold scaleF
  rw [if_neg (by omega), downF_eq]
  cases upF 2 (stripF 2 (-e).toNat n).2 1 with
  | none => rfl
  | some d =>
    simp only [Option.map_some, Option.bind_some]
    rw [downF_eq]
    cases upF 5 (stripF 5 (-e).toNat (stripF 2 (-e).toNat n).1).2 d with
    | none => rfl
    | some x => rfl
theorem down_le {b : Nat} : ∀ {k n d : Nat} {x : Nat × Nat}, d ≤ 9223372036854775807 → downF b k n d = some x → x.1 ≤ n ∧ x.2 ≤ 9223372036854775807 := by
  intro k
  induction k with
  | zero => intro n d x h e; obtain rfl := Option.some.inj e; exact ⟨Nat.le_refl _, h⟩
  | succ k ih =>
    intro n d x h e
    rw [downF] at e
    split at e
    · obtain ⟨h1, h2⟩ := ih h e
      exact ⟨Nat.le_trans h1 (Nat.div_le_self _ _), h2⟩
    · split at e
      · cases e
      · rename_i h2
        refine ih ?_ e
        have h3 := Nat.not_lt.1 h2
        exact Nat.le_trans (Nat.mul_le_mul_right _ h3) (Nat.div_mul_le_self _ _)
theorem down_pos {b : Nat} (hb : 1 ≤ b) : ∀ {k n d : Nat} {x : Nat × Nat}, 1 ≤ d → downF b k n d = some x → 1 ≤ x.2 := by
  intro k
  induction k with
  | zero => intro n d x h e; obtain rfl := Option.some.inj e; exact h
  | succ k ih =>
    intro n d x h e
    rw [downF] at e
    split at e
    · exact ih h e
    · split at e
      · cases e
      · exact ih (Nat.mul_pos h hb) e
/-- the reference's way: twos and fives off, then up -/
theorem scale_ref {neg : Bool} {n : Nat} {e : Int} {x y : Nat × Nat} (h : e ≤ 0) (hx : stripF 2 (-e).toNat n = x) (hy : stripF 5 (-e).toNat x.1 = y) :
    scaleF neg n e = if 62 < x.2 ∨ 27 < y.2 then (0, 0) else
      match upF 5 y.2 (2 ^ x.2) with
      | none => (0, 0)
      | some d => (if neg then -(y.1 : Int) else y.1, (d : Int)) := by
  unfold scaleF
  rw [if_neg (by omega), hx, hy, up_two]
  by_cases h1 : x.2 ≤ 62
  · rw [if_pos h1, Option.bind_some]
    by_cases h2 : y.2 ≤ 27
    · rw [if_neg (show ¬ (62 < x.2 ∨ 27 < y.2) by omega)]
      rfl
    · rw [if_pos (show 62 < x.2 ∨ 27 < y.2 by omega), up_five (Nat.one_le_pow _ _ (by decide)) (by omega)]
  · rw [if_neg h1, if_pos (show 62 < x.2 ∨ 27 < y.2 by omega)]
    rfl

/-- where the noughts at the front end -/
theorem lead_step {l : List UInt8} {i : Nat} (h : i < l.length) (hc : l[i] = 48) : (l.drop (i + 1)).dropWhile (· == 48) = (l.drop i).dropWhile (· == 48) := by
  rw [List.drop_eq_getElem_cons h, hc, List.dropWhile_cons_of_pos (by decide)]
theorem lead_stop {l : List UInt8} {i : Nat} (h : i < l.length) (hc : l[i] ≠ 48) : (l.drop i).dropWhile (· == 48) = l.drop i := by
  rw [List.drop_eq_getElem_cons h, List.dropWhile_cons_of_neg (by simpa using hc)]
theorem trail_step {l : List UInt8} {i b : Nat} (h : b < l.length) (hi : i ≤ b) (hc : l[b] = 48) : trimR ((l.take b).drop i) = trimR ((l.take (b + 1)).drop i) := by
  have : l.take (b + 1) = l.take b ++ [48] := by rw [List.take_add_one, List.getElem?_eq_getElem h, hc]; rfl
  rw [this, List.drop_append_of_le_length (by rw [List.length_take]; omega), trimR_nought]
theorem trail_stop {l : List UInt8} {i b : Nat} (h : b < l.length) (hi : i ≤ b) (hc : l[b] ≠ 48) : trimR ((l.take (b + 1)).drop i) = (l.take (b + 1)).drop i := by
  have : l.take (b + 1) = l.take b ++ [l[b]] := by rw [List.take_add_one, List.getElem?_eq_getElem h]; rfl
  rw [this, List.drop_append_of_le_length (by rw [List.length_take]; omega), trimR_stop hc]

theorem value_nought {neg : Bool} {ds : List UInt8} {p : Int} (h : ds.dropWhile (· == 48) = []) : valueF neg ds p = (0, 1) := by
  unfold valueF
  rw [if_pos h]
theorem value_long {neg : Bool} {ds d : List UInt8} {p : Int} (hd : ds.dropWhile (· == 48) = d) (h : d ≠ []) (h2 : 18 < (trimR d).length) : valueF neg ds p = (0, 0) := by
  unfold valueF
  rw [hd, if_neg h, if_pos h2]
theorem value_short {neg : Bool} {ds d : List UInt8} {p : Int} (hd : ds.dropWhile (· == 48) = d) (h : d ≠ []) (h2 : ¬ 18 < (trimR d).length) : valueF neg ds p = scaleF neg (valD (trimR d)) (p + (d.length - (trimR d).length : Nat)) := by
  unfold valueF
  rw [hd, if_neg h, if_neg h2]

end Go.Proofs.YtgjhaanpkfheeaaDoor
