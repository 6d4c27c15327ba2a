/- What is known does not turn: plain. -/
import Derived.Test.YtgjhaanpkfheeaaEval
namespace Go.Proofs.Ytgjhaanpkfheeaa
set_option linter.unusedVariables false
set_option linter.unusedSimpArgs false
open Go.RowKit

/-- nothing known, or the same -/
def le3 (a b : Int) : Prop := a = 1 ∨ a = b

theorem le3_and {m m' t t' : Int} (hm : m = 0 ∨ m = 1 ∨ m = 2) (ht : t = 0 ∨ t = 1 ∨ t = 2) (hm' : m' = 0 ∨ m' = 1 ∨ m' = 2) (ht' : t' = 0 ∨ t' = 1 ∨ t' = 2) (h1 : le3 m m') (h2 : le3 t t') : le3 (if t < m then t else m) (if t' < m' then t' else m') := by
  unfold le3 at *
  split <;> split <;> omega
theorem le3_or {m m' t t' : Int} (hm : m = 0 ∨ m = 1 ∨ m = 2) (ht : t = 0 ∨ t = 1 ∨ t = 2) (hm' : m' = 0 ∨ m' = 1 ∨ m' = 2) (ht' : t' = 0 ∨ t' = 1 ∨ t' = 2) (h1 : le3 m m') (h2 : le3 t t') : le3 (if m < t then t else m) (if m' < t' then t' else m') := by
  unfold le3 at *
  split <;> split <;> omega

theorem tr_same {x : Int} (h : x = 0 ∨ x = 1 ∨ x = 2) : tr x = x := by
  rcases h with rfl | rfl | rfl <;> rfl

theorem and_le {α : Type} (f g : α → Int) : ∀ (l : List α) (m m' : Int), (m = 0 ∨ m = 1 ∨ m = 2) → (m' = 0 ∨ m' = 1 ∨ m' = 2) → le3 m m' → (∀ x ∈ l, le3 (tr (f x)) (tr (g x))) → le3 (andG m (l.map f)) (andG m' (l.map g))
  | [], _, _, _, _, h, _ => h
  | x :: l, m, m', hm, hm', h, hl => and_le f g l _ _ (and_step hm (tr_three _)) (and_step hm' (tr_three _)) (le3_and hm (tr_three _) hm' (tr_three _) h (hl x (by simp))) (fun y hy => hl y (by simp [hy]))
theorem or_le {α : Type} (f g : α → Int) : ∀ (l : List α) (m m' : Int), (m = 0 ∨ m = 1 ∨ m = 2) → (m' = 0 ∨ m' = 1 ∨ m' = 2) → le3 m m' → (∀ x ∈ l, le3 (tr (f x)) (tr (g x))) → le3 (orG m (l.map f)) (orG m' (l.map g))
  | [], _, _, _, _, h, _ => h
  | x :: l, m, m', hm, hm', h, hl => or_le f g l _ _ (or_step hm (tr_three _)) (or_step hm' (tr_three _)) (le3_or hm (tr_three _) hm' (tr_three _) h (hl x (by simp))) (fun y hy => hl y (by simp [hy]))

theorem evalC_le (f g : Lf → Int) (hfg : ∀ l, le3 (tr (f l)) (tr (g l))) : ∀ (h k : Nat) (e : Cd), mayC k e = true → le3 (evalC f h e) (evalC g h e)
  | 0, _, _, _ => Or.inl rfl
  | h + 1, k, .mk c oa b o cap kids lf, hm => by
    by_cases hc : c = 4
    · subst hc
      rw [evalC_leaf, evalC_leaf]
      split
      · exact Or.inr rfl
      · split
        · exact Or.inl rfl
        · exact hfg lf
    · obtain ⟨hc3, k', hk⟩ := mayC_parts hc hm
      have each : ∀ x ∈ kids, le3 (tr (evalC f h x)) (tr (evalC g h x)) := fun x hx => by
        obtain ⟨i, hi⟩ := List.getElem?_of_mem hx
        have hmx := hk i x hi
        rw [tr_same (evalC_three f h k' x hmx), tr_same (evalC_three g h k' x hmx)]
        exact evalC_le f g hfg h k' x hmx
      rw [evalC_more _ _ hc, evalC_more _ _ hc]
      split
      · exact and_le _ _ kids 2 2 (by omega) (by omega) (Or.inr rfl) each
      · split
        · exact or_le _ _ kids 0 0 (by omega) (by omega) (Or.inr rfl) each
        · cases kids with
          | nil => exact Or.inr rfl
          | cons x l =>
            have := each x (by simp)
            simp only [List.map_cons, List.headD_cons]
            unfold le3 at *
            omega

/-- one that is not known, filled in -/
def fill1 (t : Int) (o : Option Int) : Int := if t = 0 ∨ t = 2 then t else match o with
  | some x => if x.tmod 2 = 0 then 0 else 2
  | none => 0
def fillL : List Int → List Int → List Int
  | [], _ => []
  | t :: ts, os => fill1 t os.head? :: fillL ts os.tail

theorem fillL_length : ∀ (ts os : List Int), (fillL ts os).length = ts.length
  | [], _ => rfl
  | t :: ts, os => by simp [fillL, fillL_length ts]
theorem fillL_get : ∀ (ts os : List Int) (i : Nat) (t : Int), ts[i]? = some t → (fillL ts os)[i]? = some (fill1 t os[i]?)
  | [], _, _, _, h => by simp at h
  | t :: ts, os, 0, x, h => by
    simp at h
    subst h
    cases os <;> rfl
  | t :: ts, os, i + 1, x, h => by
    have := fillL_get ts os.tail i x (by simpa using h)
    cases os with
    | nil => simpa [fillL] using this
    | cons o os => simpa [fillL] using this
theorem fill1_three (t : Int) (o : Option Int) : fill1 t o = 0 ∨ fill1 t o = 1 ∨ fill1 t o = 2 := by
  unfold fill1
  split
  · omega
  · split
    · split <;> omega
    · omega
theorem fill1_le (t : Int) (o : Option Int) : le3 (tr t) (tr (fill1 t o)) := by
  unfold fill1
  by_cases h : t = 0 ∨ t = 2
  · rw [if_pos h]; exact Or.inr rfl
  · rw [if_neg h]
    left
    unfold tr
    rw [if_neg h]

theorem byF_le : ∀ (ns : List ByteArray) (ts os : List Int) (x : ByteArray), le3 (tr (byF ns ts x)) (tr (byF ns (fillL ts os) x))
  | [], _, _, _ => Or.inr (by simp [byF])
  | _ :: _, [], _, _ => Or.inr (by simp [byF, fillL])
  | n :: ns, t :: ts, os, x => by
    unfold fillL byF
    split
    · exact fill1_le t _
    · exact byF_le ns ts os.tail x

/-- a condition's truth; unknown of what may not be -/
def evalM (g : Lf → Int) (h : Nat) (e : Cd) : Int := if mayC 340 e = true then evalC g h e else 1

theorem kleene (ns : List ByteArray) (ts os : List Int) (h : Nat) (e : Cd) : evalM (fun lf => byF ns ts lf.name) h e = 1 ∨ evalM (fun lf => byF ns ts lf.name) h e = evalM (fun lf => byF ns (fillL ts os) lf.name) h e := by
  unfold evalM
  split
  · exact evalC_le _ _ (fun lf => byF_le ns ts os lf.name) h 340 e (by assumption)
  · exact Or.inl rfl
theorem evalM_three (g : Lf → Int) (h : Nat) (e : Cd) : evalM g h e = 0 ∨ evalM g h e = 1 ∨ evalM g h e = 2 := by
  unfold evalM
  split
  · exact evalC_three g h 340 e (by assumption)
  · omega

end Go.Proofs.Ytgjhaanpkfheeaa
