/- Of my texts: TextW, TokM, ValM, FlatM. -/
import Derived.Test.YtgjhaanpkfheeaaM03
import Derived.Test.YtgjhaanpkfheeaaM04
import Derived.Lib.ItoaNum
import Derived.Deep.LoopGhost
import Derived.OwnWalk
namespace Go.Proofs.Ytgjhaanpkfheeaa
set_option linter.unusedVariables false
set_option linter.unusedSimpArgs false
open Go.RowKit Go.Lib

@[go_sem] theorem ba_get (l : List UInt8) (i : Nat) (h : i < (⟨l.toArray⟩ : ByteArray).size) : (⟨l.toArray⟩ : ByteArray)[i]'h = l[i]'h := rfl

end Go.Proofs.Ytgjhaanpkfheeaa

namespace Go.Proofs.Ytgjhaanpkfheeaa
set_option linter.unusedVariables false
set_option linter.unusedSimpArgs false

/-- a token -/
structure Tk where
  kind : Int
  text : List UInt8
  num : Rt
  int : Bool
  id : Bool
deriving DecidableEq

def lowB (c : UInt8) : UInt8 := if 65 ≤ c ∧ c ≤ 90 then c + 32 else c
def lowS (s : List UInt8) : List UInt8 := s.map lowB
def likeS (a b : List UInt8) : Bool := lowS a == lowS b

end Go.Proofs.Ytgjhaanpkfheeaa

namespace Go.Proofs.Ytgjhaanpkfheeaa
set_option linter.unusedVariables false
set_option linter.unusedSimpArgs false

/-- a component value -/
inductive Vt where
  | mk (t : Tk) (kids : List Vt)

def closeF (k : Int) : Int := if k = 2 ∨ k = 21 then 22 else if k = 19 then 20 else if k = 23 then 24 else 0

/-- what is open, the innermost first: its token, what stands in it so far -/
def shutF : List (Tk × List Vt) → List (Tk × List Vt)
  | (t, k) :: (t', k') :: r => (t', k' ++ [.mk t k]) :: r
  | s => s
def stepV (s : List (Tk × List Vt)) (t : Tk) : List (Tk × List Vt) :=
  match s with
  | [] => []
  | (t0, k0) :: r => if r ≠ [] ∧ t.kind = closeF t0.kind then shutF s else if closeF t.kind ≠ 0 then (t, []) :: s else (t0, k0 ++ [.mk t []]) :: r
def closeV : Nat → List (Tk × List Vt) → List (Tk × List Vt)
  | 0, s => s
  | n + 1, s => if 2 ≤ s.length then closeV n (shutF s) else s
def zeroTk : Tk := ⟨0, [], (0, 0), false, false⟩
def valuesF (l : List Tk) : List Vt :=
  match closeV (l.foldl stepV [(zeroTk, [])]).length (l.foldl stepV [(zeroTk, [])]) with
  | (_, k) :: _ => k
  | [] => []

/-- which values may be -/
def mayV : Nat → List Vt → Bool
  | _, [] => true
  | n, .mk t k :: r => decide (1 ≤ t.kind) && decide (t.kind ≤ 24) && (if closeF t.kind = 0 then k.isEmpty else match n with
      | 0 => false
      | n + 1 => mayV n k) && mayV n r
termination_by n l => (n, l.length)

end Go.Proofs.Ytgjhaanpkfheeaa

namespace Go.Proofs.Ytgjhaanpkfheeaa
set_option linter.unusedVariables false
set_option linter.unusedSimpArgs false

def Vt.tok : Vt → Tk
  | .mk t _ => t
def closeTk (k : Int) : Tk := ⟨closeF k, [], (0, 0), false, false⟩
mutual
def flat1 : Vt → List Tk
  | .mk t k => t :: (flatV k ++ (if closeF t.kind = 0 then [] else [closeTk t.kind]))
def flatV : List Vt → List Tk
  | [] => []
  | x :: r => flat1 x ++ flatV r
end
theorem flatV_cons (t : Tk) (k r : List Vt) : flatV (.mk t k :: r) = t :: (flatV k ++ (if closeF t.kind = 0 then [] else [closeTk t.kind]) ++ flatV r) := by
  rw [flatV, flat1]
  rfl

/-- a lone name's text, by the values' tokens -/
def idT : List Tk → Option (List UInt8)
  | [t] => if t.kind = 1 ∧ t.text ≠ [] then some t.text else none
  | _ => none
def identOf (l : List Vt) : Option (List UInt8) := idT (l.map Vt.tok)

/-- the tokens of what will stand outermost -/
def tops (s : List (Tk × List Vt)) : List Tk := match s.reverse with
  | [] => []
  | (_, k) :: r => k.map Vt.tok ++ (r.head?.map (·.1)).toList
theorem tops_one (z : Tk) (k : List Vt) : tops [(z, k)] = k.map Vt.tok := by simp [tops]
theorem tops_shut (x y : Tk × List Vt) (r : List (Tk × List Vt)) : tops (shutF (x :: y :: r)) = tops (x :: y :: r) := by
  obtain ⟨t, k⟩ := x
  obtain ⟨t', k'⟩ := y
  unfold shutF tops
  simp only [List.reverse_cons, List.append_assoc]
  cases hr : r.reverse with
  | nil => simp [Vt.tok]
  | cons z q =>
    obtain ⟨a, b⟩ := z
    cases q <;> simp
theorem shut_len (x y : Tk × List Vt) (r : List (Tk × List Vt)) : (shutF (x :: y :: r)).length = r.length + 1 := by
  obtain ⟨t, k⟩ := x
  obtain ⟨t', k'⟩ := y
  rfl
theorem tops_close : ∀ (n : Nat) (s : List (Tk × List Vt)), tops (closeV n s) = tops s
  | 0, _ => rfl
  | n + 1, s => by
    rw [closeV]
    split
    · match s with
      | x :: y :: r => rw [tops_close n, tops_shut]
      | [x] => rename_i h; simp at h
      | [] => rename_i h; simp at h
    · rfl
theorem close_one : ∀ (n : Nat) (s : List (Tk × List Vt)), s ≠ [] → s.length ≤ n + 1 → ∃ z k, closeV n s = [(z, k)]
  | 0, s, hs, h => by
    match s with
    | [(z, k)] => exact ⟨z, k, rfl⟩
    | [] => exact absurd rfl hs
    | _ :: _ :: _ => simp at h
  | n + 1, s, hs, h => by
    rw [closeV]
    split
    · match s with
      | x :: y :: r =>
        refine close_one n _ (fun e => ?_) ?_
        · have := congrArg List.length e
          rw [shut_len] at this
          simp at this
        · rw [shut_len]
          simp only [List.length_cons] at h
          omega
      | [x] => rename_i h; simp at h
      | [] => rename_i h; simp at h
    · match s with
      | [(z, k)] => exact ⟨z, k, rfl⟩
      | [] => exact absurd rfl hs
      | _ :: _ :: _ => rename_i h; simp at h
theorem step_ne (s : List (Tk × List Vt)) (t : Tk) (h : s ≠ []) : stepV s t ≠ [] := by
  match s with
  | [] => exact absurd rfl h
  | (t0, k0) :: r =>
    unfold stepV
    simp only
    split
    · match r with
      | [] => rename_i h; exact absurd rfl h.1
      | y :: q =>
        intro e
        have := congrArg List.length e
        rw [shut_len] at this
        simp at this
    · split <;> simp
theorem fold_ne : ∀ (l : List Tk) (s : List (Tk × List Vt)), s ≠ [] → l.foldl stepV s ≠ []
  | [], _, h => h
  | t :: l, s, h => fold_ne l _ (step_ne s t h)
/-- what comes out -/
theorem values_tops (l : List Tk) : (valuesF l).map Vt.tok = tops (l.foldl stepV [(zeroTk, [])]) := by
  unfold valuesF
  have hne := fold_ne l [(zeroTk, [])] (by simp)
  generalize l.foldl stepV [(zeroTk, [])] = s at *
  have h := tops_close s.length s
  obtain ⟨z, k, hz⟩ := close_one s.length s hne (by omega)
  rw [hz] at h ⊢
  rw [← h, tops_one]
theorem tops_step (s : List (Tk × List Vt)) (t : Tk) : ∃ q, tops (stepV s t) = tops s ++ q := by
  match s with
  | [] => exact ⟨[], rfl⟩
  | (t0, k0) :: r =>
    unfold stepV
    simp only
    split
    · match r with
      | [] => rename_i h; exact absurd rfl h.1
      | y :: q => exact ⟨[], by rw [tops_shut, List.append_nil]⟩
    · split
      · unfold tops
        simp only [List.reverse_cons]
        cases hr : r.reverse with
        | nil => exact ⟨[t], by simp⟩
        | cons z q => exact ⟨[], by cases q <;> simp⟩
      · unfold tops
        simp only [List.reverse_cons]
        cases hr : r.reverse with
        | nil => exact ⟨[t], by simp [Vt.tok]⟩
        | cons z q => exact ⟨[], by cases q <;> simp⟩
theorem tops_fold : ∀ (l : List Tk) (s : List (Tk × List Vt)), ∃ q, tops (l.foldl stepV s) = tops s ++ q
  | [], s => ⟨[], by simp⟩
  | t :: l, s => by
    obtain ⟨q, hq⟩ := tops_step s t
    obtain ⟨q2, hq2⟩ := tops_fold l (stepV s t)
    exact ⟨q ++ q2, by rw [List.foldl_cons, hq2, hq, List.append_assoc]⟩
theorem step_first (t : Tk) (k : List Vt) : tops (stepV [(zeroTk, k)] t) = k.map Vt.tok ++ [t] := by
  unfold stepV
  simp only [ne_eq, not_true_eq_false, false_and, if_false]
  split
  · simp [tops]
  · simp [tops, Vt.tok]
theorem step_ident (t : Tk) (k : List Vt) (h : t.kind = 1) : stepV [(zeroTk, k)] t = [(zeroTk, k ++ [.mk t []])] := by
  unfold stepV
  simp only [ne_eq, not_true_eq_false, false_and, if_false]
  rw [if_neg (by rw [h]; decide)]
theorem idT_not {t : Tk} {q : List Tk} (h : t.kind ≠ 1) : idT (t :: q) = none := by
  match q with
  | [] => rw [idT, if_neg (fun e => h e.1)]
  | _ :: _ => rfl
/-- a lone name stays one; nothing else becomes one -/
theorem ident_flat (K : List Vt) (hk : ∀ t k, K.head? = some (.mk t k) → t.kind = 1 → k = []) : identOf (valuesF (flatV K)) = identOf K := by
  unfold identOf
  rw [values_tops]
  match K with
  | [] => rfl
  | .mk t k :: r =>
    rw [flatV_cons, List.foldl_cons]
    by_cases h1 : t.kind = 1
    · obtain rfl := hk t k rfl h1
      rw [step_ident t [] h1, if_pos (by rw [h1]; decide), flatV, List.nil_append, List.nil_append]
      match r with
      | [] => simp [flatV, tops_one, Vt.tok]
      | .mk t2 k2 :: r2 =>
        rw [flatV_cons, List.nil_append, List.foldl_cons]
        obtain ⟨q, hq⟩ := tops_fold (flatV k2 ++ (if closeF t2.kind = 0 then [] else [closeTk t2.kind]) ++ flatV r2) (stepV [(zeroTk, [.mk t []])] t2)
        rw [hq, step_first]
        simp [idT, Vt.tok]
    · obtain ⟨q, hq⟩ := tops_fold (flatV k ++ (if closeF t.kind = 0 then [] else [closeTk t.kind]) ++ flatV r) (stepV [(zeroTk, [])] t)
      rw [hq, step_first]
      simp only [List.map_nil, List.nil_append, List.singleton_append, List.map_cons, Vt.tok]
      rw [idT_not h1, idT_not h1]

mutual
def szV1 : Vt → Nat
  | .mk _ k => 1 + szV k
def szV : List Vt → Nat
  | [] => 0
  | x :: r => szV1 x + szV r
end
theorem szV_cons (t : Tk) (k r : List Vt) : szV (.mk t k :: r) = 1 + szV k + szV r := by rw [szV, szV1]
mutual
theorem flat1_len : ∀ x : Vt, (flat1 x).length ≤ 2 * szV1 x
  | .mk t k => by
    have := flatV_len k
    rw [flat1, szV1, List.length_cons, List.length_append]
    split <;> simp <;> omega
theorem flatV_len : ∀ l : List Vt, (flatV l).length ≤ 2 * szV l
  | [] => by simp [flatV]
  | x :: r => by
    have h1 := flat1_len x
    have h2 := flatV_len r
    rw [flatV, szV, List.length_append]
    omega
end
/-- what a place on the stack has still to say -/
def sayF : List (List Vt × Int) → List Tk
  | [] => []
  | (l, c) :: r => flatV l ++ (if 0 < c then [⟨c, [], (0, 0), false, false⟩] else []) ++ sayF r
def sayM : List (List Vt × Int) → Nat
  | [] => 0
  | (l, _) :: r => 2 * szV l + 1 + sayM r
theorem closeF_pos (k : Int) : (0 < closeF k ↔ closeF k ≠ 0) ∧ closeF k ≤ 24 ∧ 0 ≤ closeF k := by
  unfold closeF
  split
  · decide
  · split
    · decide
    · split <;> decide
theorem say_take (t : Tk) (k r : List Vt) (c : Int) (s : List (List Vt × Int)) (h : ¬ (0 < closeF t.kind ∨ 0 < k.length)) : sayF ((.mk t k :: r, c) :: s) = t :: sayF ((r, c) :: s) := by
  have hk : k = [] := List.eq_nil_of_length_eq_zero (by omega)
  subst hk
  have hc : closeF t.kind = 0 := by have := closeF_pos t.kind; omega
  rw [sayF, sayF, flatV_cons, hc, if_pos rfl, flatV]
  simp
theorem say_push (t : Tk) (k r : List Vt) (c : Int) (s : List (List Vt × Int)) : sayF ((.mk t k :: r, c) :: s) = t :: sayF ((k, closeF t.kind) :: (r, c) :: s) := by
  rw [sayF, sayF, sayF, flatV_cons]
  by_cases hc : closeF t.kind = 0
  · rw [hc, if_pos rfl]
    simp
  · rw [if_neg hc, if_pos ((closeF_pos t.kind).1.2 hc)]
    simp [closeTk]
theorem say_pop (c : Int) (s : List (List Vt × Int)) : sayF (([], c) :: s) = (if 0 < c then [⟨c, [], (0, 0), false, false⟩] else []) ++ sayF s := by
  rw [sayF, flatV, List.nil_append]

end Go.Proofs.Ytgjhaanpkfheeaa
