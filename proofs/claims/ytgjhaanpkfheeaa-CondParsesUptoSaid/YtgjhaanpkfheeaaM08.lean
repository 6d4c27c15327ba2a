/- Of my texts: CalcM, CondP. -/
import Derived.Test.YtgjhaanpkfheeaaM05
import Derived.Test.YtgjhaanpkfheeaaM07
namespace Go.Proofs.Ytgjhaanpkfheeaa
set_option linter.unusedVariables false
set_option linter.unusedSimpArgs false

/-- an expression -/
inductive Et where
  | mk (k n d u : Int) (kids : List Et)

def spV : Vt → Bool
  | .mk t _ => t.kind == 13
end Go.Proofs.Ytgjhaanpkfheeaa

namespace Go.Proofs.Ytgjhaanpkfheeaa
set_option linter.unusedVariables false
set_option linter.unusedSimpArgs false

/-- a condition; a leaf: its kind, its truth, its name -/
inductive Qt where
  | mk (k : Int) (kids : List Qt) (leaf : Int × Int × List UInt8)
def zeroQ : Int × Int × List UInt8 := (0, 0, [])
def leafQ (L : Int × Int × List UInt8) : Qt := .mk 4 [] L
def opensV (v : Vt) : Bool := v.tok.kind == 21 || v.tok.kind == 2
def wordV (v : Vt) : List UInt8 := if v.tok.kind = 1 then lowS v.tok.text else []
def notS : List UInt8 := [110, 111, 116]
def andS : List UInt8 := [97, 110, 100]
def orS : List UInt8 := [111, 114]
def solidV (l : List Vt) : List Vt := l.filter fun v => !spV v
/-- the leaf that 'name' tells -/
def nameQ : Vt → Option (Int × Int × List UInt8)
  | .mk t k => if t.kind = 21 then (identOf k).map fun s => (3, 0, s) else if t.kind = 2 ∧ t.text = [111, 102] then some (1, 2, []) else none
def noneQ (_ : Vt) : Option (Int × Int × List UInt8) := none
def partQ (leaf : Vt → Option (Int × Int × List UInt8)) (whole : List Vt → Option Qt) (v : Vt) : Qt :=
  match leaf v with
  | some L => leafQ L
  | none => match v with
    | .mk t k => if t.kind = 21 then (whole k).getD (leafQ zeroQ) else leafQ zeroQ

def chainQ (part : Vt → Qt) (join : List UInt8) (k : Int) : List Qt → List Vt → Option Qt
  | acc, [] => some (.mk k acc zeroQ)
  | _, [_] => none
  | acc, w :: v :: r => if wordV w = join ∧ opensV v = true then chainQ part join k (acc ++ [part v]) r else none
def readQ (part : Vt → Qt) : List Vt → Option Qt
  | [] => none
  | v :: r => if wordV v = notS then (match r with
      | [p] => if opensV p then some (.mk 3 [part p] zeroQ) else none
      | _ => none)
    else if opensV v = false then none else match r with
      | [] => some (part v)
      | w :: q => if wordV w = andS then chainQ part andS 1 [part v] (w :: q) else if wordV w = orS then chainQ part orS 2 [part v] (w :: q) else none
/-- of all of some values, blanks left out; so many levels -/
def wholeQ (read : (Vt → Qt) → List Vt → Option Qt) (leaf : Vt → Option (Int × Int × List UInt8)) : Nat → List Vt → Option Qt
  | 0, _ => none
  | n + 1, l => read (partQ leaf (wholeQ read leaf n)) (solidV l)

def evensL {α : Type} : List α → List α
  | [] => []
  | [x] => [x]
  | x :: _ :: r => x :: evensL r
def oddsL {α : Type} : List α → List α
  | [] => []
  | [_] => []
  | _ :: y :: r => y :: oddsL r
def parseQ (part : Vt → Qt) (l : List Vt) : Option Qt :=
  match l with
  | [a, b] => if wordV a = notS ∧ opensV b = true then some (.mk 3 [part b] zeroQ) else none
  | _ => if l.length % 2 = 0 then none else if (evensL l).all opensV = false then none
    else if (oddsL l).countP (fun v => wordV v == andS) ≠ l.length / 2 ∧ (oddsL l).countP (fun v => wordV v == orS) ≠ l.length / 2 then none
    else match l with
      | [v] => some (part v)
      | _ => if (oddsL l).countP (fun v => wordV v == andS) = l.length / 2 then some (.mk 1 ((evensL l).map part) zeroQ) else some (.mk 2 ((evensL l).map part) zeroQ)

theorem word_open {v : Vt} {s : List UInt8} (h : wordV v = s) (hs : s ≠ []) : opensV v = false := by
  unfold wordV at h
  unfold opensV
  by_cases hk : v.tok.kind = 1
  · rw [hk]; rfl
  · rw [if_neg hk] at h
    exact absurd h.symm hs
theorem odds_len {α : Type} : ∀ l : List α, (oddsL l).length = l.length / 2
  | [] => by simp [oddsL]
  | [_] => by simp [oddsL]
  | _ :: _ :: r => by
    rw [oddsL, List.length_cons, odds_len r]
    simp only [List.length_cons]
    omega
theorem chain_odd (part : Vt → Qt) (join : List UInt8) (k : Int) : ∀ (r : List Vt) (acc : List Qt), r.length % 2 = 1 → chainQ part join k acc r = none
  | [], _, h => by simp at h
  | [_], _, _ => rfl
  | w :: v :: r, acc, h => by
    rw [chainQ]
    split
    · exact chain_odd part join k r _ (by simp only [List.length_cons] at h; omega)
    · rfl
/-- v: ahead of the chain -/
theorem chain_even (part : Vt → Qt) (join : List UInt8) (k : Int) : ∀ (r : List Vt) (acc : List Qt) (v : Vt), r.length % 2 = 0 → chainQ part join k acc r =
    if (oddsL (v :: r)).all (fun w => wordV w == join) = true ∧ (evensL (v :: r)).tail.all opensV = true then some (.mk k (acc ++ (evensL (v :: r)).tail.map part) zeroQ) else none
  | [], acc, v, _ => by simp [chainQ, oddsL, evensL]
  | [_], _, _, h => by simp at h
  | w :: x :: r, acc, v, h => by
    have ih := chain_even part join k r (acc ++ [part x]) x (by simp only [List.length_cons] at h; omega)
    rw [chainQ]
    have e1 : oddsL (v :: w :: x :: r) = w :: oddsL (x :: r) := rfl
    have e2 : (evensL (v :: w :: x :: r)).tail = evensL (x :: r) := rfl
    have e3 : evensL (x :: r) = x :: (evensL (x :: r)).tail := by
      match r with
      | [] => rfl
      | _ :: _ => rfl
    rw [e1, e2]
    by_cases hw : wordV w = join ∧ opensV x = true
    · rw [if_pos hw, ih]
      rw [e3]
      simp only [List.tail_cons, List.all_cons, List.map_cons, hw.1, hw.2, beq_self_eq_true, Bool.true_and, List.append_assoc, List.singleton_append]
    · rw [if_neg hw, if_neg]
      rintro ⟨h1, h2⟩
      rw [e3] at h2
      simp only [List.all_cons, Bool.and_eq_true, beq_iff_eq] at h1 h2
      exact hw ⟨h1.1, h2.1⟩
theorem countP_all {α : Type} (p : α → Bool) (l : List α) : l.countP p = l.length ↔ l.all p = true := by
  rw [List.countP_eq_length, List.all_eq_true]
theorem readQ_one (part : Vt → Qt) (v : Vt) : readQ part [v] = if wordV v = notS then none else if opensV v = false then none else some (part v) := rfl
theorem readQ_two (part : Vt → Qt) (a b : Vt) : readQ part [a, b] = if wordV a = notS then (if opensV b then some (.mk 3 [part b] zeroQ) else none) else if opensV a = false then none else if wordV b = andS then chainQ part andS 1 [part a] [b] else if wordV b = orS then chainQ part orS 2 [part a] [b] else none := rfl
theorem readQ_many (part : Vt → Qt) (v w x : Vt) (r : List Vt) : readQ part (v :: w :: x :: r) = if wordV v = notS then none else if opensV v = false then none else if wordV w = andS then chainQ part andS 1 [part v] (w :: x :: r) else if wordV w = orS then chainQ part orS 2 [part v] (w :: x :: r) else none := rfl
theorem parseQ_one (part : Vt → Qt) (v : Vt) : parseQ part [v] = if opensV v = false then none else some (part v) := by
  cases h : opensV v <;> simp [parseQ, evensL, oddsL, h]
theorem parseQ_two (part : Vt → Qt) (a b : Vt) : parseQ part [a, b] = if wordV a = notS ∧ opensV b = true then some (.mk 3 [part b] zeroQ) else none := rfl
theorem parseQ_many (part : Vt → Qt) (v w x : Vt) (r : List Vt) : parseQ part (v :: w :: x :: r) = if (v :: w :: x :: r).length % 2 = 0 then none else if (evensL (v :: w :: x :: r)).all opensV = false then none
    else if (oddsL (v :: w :: x :: r)).countP (fun v => wordV v == andS) ≠ (v :: w :: x :: r).length / 2 ∧ (oddsL (v :: w :: x :: r)).countP (fun v => wordV v == orS) ≠ (v :: w :: x :: r).length / 2 then none
    else if (oddsL (v :: w :: x :: r)).countP (fun v => wordV v == andS) = (v :: w :: x :: r).length / 2 then some (.mk 1 ((evensL (v :: w :: x :: r)).map part) zeroQ) else some (.mk 2 ((evensL (v :: w :: x :: r)).map part) zeroQ) := rfl
theorem read_parse (part : Vt → Qt) (l : List Vt) : readQ part l = parseQ part l := by
  match l with
  | [] => rfl
  | [v] =>
    rw [readQ_one, parseQ_one]
    by_cases hn : wordV v = notS
    · rw [if_pos hn, if_pos (word_open hn (by decide))]
    · rw [if_neg hn]
  | [a, b] =>
    rw [readQ_two, parseQ_two]
    by_cases hn : wordV a = notS
    · rw [if_pos hn]
      cases ho : opensV b <;> simp [hn]
    · rw [if_neg hn, if_neg (show ¬ (wordV a = notS ∧ opensV b = true) from fun h => hn h.1)]
      cases ho : opensV a
      · rfl
      · simp only [Bool.true_eq_false, if_false, chainQ]
        split
        · rfl
        · split <;> rfl
  | v :: w :: x :: r =>
    have ev : evensL (v :: w :: x :: r) = v :: evensL (x :: r) := rfl
    rw [readQ_many, parseQ_many]
    by_cases hn : wordV v = notS
    · rw [if_pos hn]
      have ho := word_open hn (by decide)
      by_cases h2 : (v :: w :: x :: r).length % 2 = 0
      · rw [if_pos h2]
      · rw [if_neg h2, if_pos (by rw [ev, List.all_cons, ho]; rfl)]
    · rw [if_neg hn]
      cases ho : opensV v with
      | false =>
        rw [if_pos rfl]
        by_cases h2 : (v :: w :: x :: r).length % 2 = 0
        · rw [if_pos h2]
        · rw [if_neg h2, if_pos (by rw [ev, List.all_cons, ho]; rfl)]
      | true =>
        rw [if_neg (by decide)]
        by_cases h2 : (v :: w :: x :: r).length % 2 = 0
        · rw [if_pos h2]
          have ho2 : (w :: x :: r).length % 2 = 1 := by simp only [List.length_cons] at h2 ⊢; omega
          rw [chain_odd part _ _ _ _ ho2, chain_odd part _ _ _ _ ho2]
          split
          · rfl
          · split <;> rfl
        · rw [if_neg h2]
          have ho2 : (w :: x :: r).length % 2 = 0 := by simp only [List.length_cons] at h2 ⊢; omega
          rw [chain_even part andS 1 _ _ v ho2, chain_even part orS 2 _ _ v ho2, ev, List.all_cons, ho, Bool.true_and, List.tail_cons, ← odds_len]
          simp only [ne_eq, countP_all, List.map_cons, List.singleton_append]
          obtain ⟨O, hO⟩ : ∃ O, oddsL (v :: w :: x :: r) = O := ⟨_, rfl⟩
          have hO0 : O = w :: oddsL (x :: r) := by rw [← hO]; rfl
          rw [hO]
          obtain ⟨E, hE⟩ : ∃ E, evensL (x :: r) = E := ⟨_, rfl⟩
          rw [hE]
          obtain ⟨pa, hpa⟩ : ∃ pa, O.all (fun v => wordV v == andS) = pa := ⟨_, rfl⟩
          obtain ⟨po, hpo⟩ : ∃ po, O.all (fun v => wordV v == orS) = po := ⟨_, rfl⟩
          have ha : pa = true → wordV w = andS := fun h => by
            rw [← hpa, hO0, List.all_cons, Bool.and_eq_true, beq_iff_eq] at h
            exact h.1
          have hb : po = true → wordV w = orS := fun h => by
            rw [← hpo, hO0, List.all_cons, Bool.and_eq_true, beq_iff_eq] at h
            exact h.1
          rw [hpa, hpo]
          have hao : andS ≠ orS := by decide
          cases hoE : E.all opensV with
          | false => simp
          | true =>
            cases pa with
            | true =>
              rw [if_pos (ha rfl)]
              simp
            | false =>
              cases po with
              | true =>
                have hw := hb rfl
                rw [if_neg (fun e => hao (e.symm.trans hw)), if_pos hw]
                simp
              | false => simp

theorem whole_parse (leaf : Vt → Option (Int × Int × List UInt8)) : ∀ (h : Nat) (l : List Vt), wholeQ readQ leaf h l = wholeQ parseQ leaf h l
  | 0, _ => rfl
  | h + 1, l => by
    rw [wholeQ, wholeQ, read_parse]
    congr 1
    congr 1
    funext l
    exact whole_parse leaf h l

end Go.Proofs.Ytgjhaanpkfheeaa
