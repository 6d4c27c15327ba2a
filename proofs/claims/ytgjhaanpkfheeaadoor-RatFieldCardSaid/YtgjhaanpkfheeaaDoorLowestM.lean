/- What the calls of RatLowest tell is in lowest terms, or over; fractions laid anew. -/
import Derived.Test.YtgjhaanpkfheeaaDoorOrder
import Derived.Test.YtgjhaanpkfheeaaDoorDivP
namespace Go.Proofs.YtgjhaanpkfheeaaDoor
set_option linter.unusedVariables false
set_option linter.unusedSimpArgs false
open Go.RowKit

theorem mayB_over : mayB (0, 0) = true := by decide
theorem mayB_sure {r : Rt} (h : sureB r = true) : mayB r = true := by unfold mayB; rw [h, Bool.or_true]
theorem mayB_fracOf (neg : Bool) (n d : Nat) : mayB (fracOf neg n d) = true := by
  rcases Nat.eq_zero_or_pos d with h | h
  · subst h
    have : fracOf neg n 0 = (0, 0) := by unfold fracOf; rw [if_pos (Or.inl rfl)]
    rw [this]; exact mayB_over
  · rw [fracOf_ofQ neg n d h]
    rcases sure_ofQ (mkRat (sgn neg n) d) with h0 | ⟨h1, _, _⟩
    · rw [h0]; exact mayB_over
    · exact mayB_sure (sureB_iff.2 h1)
theorem mayB_op2 {op : Rt → Rt → Rt} (h : ∀ a b, mayB (op a b) = true) (a b : Rt) : mayB (op2 op a b) = true := by unfold op2; split; exact h a b; exact mayB_over
theorem mayB_one (op : Rt → Rt → Rt) (nn a : Rt) : mayB (foldR op nn [a]) = true := by
  show mayB (if sureB a then a else (0, 0)) = true
  by_cases h : sureB a = true
  · rw [if_pos h]; exact mayB_sure h
  · rw [if_neg h]; exact mayB_over
theorem mayB_first (s : Int) (a b : Rt) : mayB (firstG s true (0, 0) [a, b]) = true := by
  by_cases ha : sureB a = true
  · by_cases hb : sureB b = true
    · simp only [firstG, ha, hb, if_true, Bool.true_or, Bool.false_or]
      split
      · exact mayB_sure hb
      · exact mayB_sure ha
    · simp only [firstG, ha, hb, if_true, Bool.true_or]; exact mayB_over
  · simp only [firstG, ha]; exact mayB_over
theorem is64_first (s : Int) {a b : Rt} (ha : Is64 a) (hb : Is64 b) : Is64 (firstG s true (0, 0) [a, b]) := by
  by_cases h1 : sureB a = true
  · by_cases h2 : sureB b = true
    · simp only [firstG, h1, h2, if_true, Bool.true_or, Bool.false_or]
      split
      · exact hb
      · exact ha
    · simp only [firstG, h1, h2, if_true, Bool.true_or]; exact is64_over
  · simp only [firstG, h1]; exact is64_over
theorem is64_one (op : Rt → Rt → Rt) (nn : Rt) {a : Rt} (h : Is64 a) : Is64 (foldR op nn [a]) := by
  show Is64 (if sureB a then a else (0, 0))
  split
  · exact h
  · exact is64_over
theorem mayB_neg {a : Rt} (h : Is64 a) : mayB (negF a) = true := by
  cases hs : sureB a with
  | false => rw [sureB_neg hs]; exact mayB_over
  | true => exact mayB_sure (negF_sure hs h).1

/-- all that is asked of what the calls tell -/
def AllLow (l : List Rt) : Prop := ∀ r ∈ l, mayB r = true ∧ Is64 r

theorem lowest_all (a b : Rt) (x y : Int) (ha : Is64 a) (hb : Is64 b) :
    AllLow [ofF x y, foldR addF (0, 1) [a, b], subF a b, foldR mulF (1, 1) [a, b], divF a b, negF a, firstG (-1) true (0, 0) [a, b], firstG 1 true (0, 0) [a, b], foldR addF (0, 1) [a], foldR mulF (1, 1) [b]] := by
  have hA : ∀ a b, mayB (op2 addF a b) = true := mayB_op2 fun a b => mayB_fracOf _ _ _
  have hM : ∀ a b, mayB (op2 mulF a b) = true := mayB_op2 fun a b => mayB_fracOf _ _ _
  intro r hr
  simp only [List.mem_cons, List.not_mem_nil, or_false] at hr
  rcases hr with rfl | rfl | rfl | rfl | rfl | rfl | rfl | rfl | rfl | rfl
  · exact ⟨mayB_fracOf _ _ _, is64_fracOf _ _ _⟩
  · rw [foldR_two]; exact ⟨hA _ _, is64_op2 is64_addF _ _⟩
  · unfold subF; rw [foldR_two]; exact ⟨hA _ _, is64_op2 is64_addF _ _⟩
  · rw [foldR_two]; exact ⟨hM _ _, is64_op2 is64_mulF _ _⟩
  · unfold divF; split
    · exact ⟨mayB_fracOf _ _ _, is64_fracOf _ _ _⟩
    · exact ⟨mayB_over, is64_over⟩
  · exact ⟨mayB_neg ha, is64_negF ha⟩
  · exact ⟨mayB_first _ _ _, is64_first _ ha hb⟩
  · exact ⟨mayB_first _ _ _, is64_first _ ha hb⟩
  · exact ⟨mayB_one _ _ _, is64_one _ _ ha⟩
  · exact ⟨mayB_one _ _ _, is64_one _ _ hb⟩

theorem rats_blk1 {W : World} {k : Nat} {t : TypeId} {x : Rt} (hb : Blk W k t #[.int .i64 x.1, .int .i64 x.2]) (hx : Is64 x) : Rats W (some ⟨k, 0, none⟩) 1 1 k 0 [x] := by
  have key : ∀ (P : Nat → Rt → Prop), P 0 x → ∀ (i : Nat) (r : Rt), [x][i]? = some r → P i r := fun P h0 i r hr => by
    match i, hr with
    | 0, hr => cases hr; exact h0
    | i + 1, hr => simp at hr
  refine ⟨rfl, Nat.le_refl _, by decide, fun _ => rfl, fun _ => hb.lt, key _ ?_, key _ ?_, key _ hx⟩
  · exact hb.cell 0
  · exact hb.cell 1

theorem rats_blk10 {W : World} {k : Nat} {t : TypeId} {x0 x1 x2 x3 x4 x5 x6 x7 x8 x9 : Rt} (hb : Blk W k t #[.int .i64 x0.1, .int .i64 x0.2, .int .i64 x1.1, .int .i64 x1.2, .int .i64 x2.1, .int .i64 x2.2, .int .i64 x3.1, .int .i64 x3.2, .int .i64 x4.1, .int .i64 x4.2, .int .i64 x5.1, .int .i64 x5.2, .int .i64 x6.1, .int .i64 x6.2, .int .i64 x7.1, .int .i64 x7.2, .int .i64 x8.1, .int .i64 x8.2, .int .i64 x9.1, .int .i64 x9.2]) (h64 : ∀ r ∈ [x0, x1, x2, x3, x4, x5, x6, x7, x8, x9], Is64 r) : Rats W (some ⟨k, 0, none⟩) 10 10 k 0 [x0, x1, x2, x3, x4, x5, x6, x7, x8, x9] := by
  have key : ∀ (P : Nat → Rt → Prop), P 0 x0 → P 1 x1 → P 2 x2 → P 3 x3 → P 4 x4 → P 5 x5 → P 6 x6 → P 7 x7 → P 8 x8 → P 9 x9 → ∀ (i : Nat) (r : Rt), [x0, x1, x2, x3, x4, x5, x6, x7, x8, x9][i]? = some r → P i r := fun P h0 h1 h2 h3 h4 h5 h6 h7 h8 h9 i r hr => by
    match i, hr with
    | 0, hr => cases hr; exact h0
    | 1, hr => cases hr; exact h1
    | 2, hr => cases hr; exact h2
    | 3, hr => cases hr; exact h3
    | 4, hr => cases hr; exact h4
    | 5, hr => cases hr; exact h5
    | 6, hr => cases hr; exact h6
    | 7, hr => cases hr; exact h7
    | 8, hr => cases hr; exact h8
    | 9, hr => cases hr; exact h9
    | i + 10, hr => simp at hr
  refine ⟨rfl, Nat.le_refl _, by decide, fun _ => rfl, fun _ => hb.lt, key _ ?_ ?_ ?_ ?_ ?_ ?_ ?_ ?_ ?_ ?_, key _ ?_ ?_ ?_ ?_ ?_ ?_ ?_ ?_ ?_ ?_, fun i r hr => h64 r (List.mem_of_getElem? hr)⟩
  · exact hb.cell 0
  · exact hb.cell 2
  · exact hb.cell 4
  · exact hb.cell 6
  · exact hb.cell 8
  · exact hb.cell 10
  · exact hb.cell 12
  · exact hb.cell 14
  · exact hb.cell 16
  · exact hb.cell 18
  · exact hb.cell 1
  · exact hb.cell 3
  · exact hb.cell 5
  · exact hb.cell 7
  · exact hb.cell 9
  · exact hb.cell 11
  · exact hb.cell 13
  · exact hb.cell 15
  · exact hb.cell 17
  · exact hb.cell 19

end Go.Proofs.YtgjhaanpkfheeaaDoor
