/- Of my texts: TextE, TextG. -/
import Derived.Test.YtplnhjmomomphaaGreatDoorM22
import Derived.Test.YtplnhjmomomphaaGreatDoorM23
namespace Go.Proofs.YtplnhjmomomphaaGreatDoor
set_option linter.unusedVariables false
set_option linter.unusedSimpArgs false
/-- a unit's name -/
def unitN (u : Int) : List UInt8 := if 1 ≤ u then unitsS.getD (u.toNat - 1) [] else []
def numW (n d u : Int) : List UInt8 := (plainF (n, d) (d == 1)).getD [] ++ unitN u
/-- texts with commas between -/
def commas : List (List UInt8) → List UInt8
 | [] => []
 | [x] => x
 | x :: y :: r => x ++ [44, 32] ++ commas (y :: r)
/-- an operand; S: the text as a sum -/
def operX (S : Et → List UInt8) : Et → List UInt8
 | .mk k n d u kids => if k = 1 then numW n d u
   else if k = 6 then minS ++ [40] ++ commas (kids.map S) ++ [41]
   else if k = 7 then maxS ++ [40] ++ commas (kids.map S) ++ [41]
   else if k = 8 then clampS ++ [40] ++ commas (kids.map S) ++ [41]
   else [40] ++ S (.mk k n d u kids) ++ [41]
def Et.kind : Et → Int
 | .mk k _ _ _ _ => k
def Et.list : Et → List Et
 | .mk _ _ _ _ l => l
def kid0 (e : Et) : Et := (e.list[0]?).getD (.mk 0 0 0 0 [])
/-- what stands behind the first -/
def moreX (O : Et → List UInt8) (turned : Int) (one other : UInt8) : List Et → List UInt8
 | [] => []
 | e :: r => (if e.kind = turned then [32, other, 32] ++ O (kid0 e) else [32, one, 32] ++ O e) ++ moreX O turned one other r
def joinX (O : Et → List UInt8) (turned : Int) (one other : UInt8) : List Et → List UInt8
 | [] => []
 | e :: r => O e ++ moreX O turned one other r
def prodX (S : Et → List UInt8) (e : Et) : List UInt8 := if e.kind = 4 then joinX (operX S) 5 42 47 e.list else operX S e
def sumT : Nat → Et → List UInt8
 | 0, _ => []
 | h + 1, e => if e.kind = 2 then joinX (prodX (sumT h)) 3 43 45 e.list else prodX (sumT h) e
/-- the text of an expression that is written -/
def textW (h : Nat) (e : Et) : List UInt8 := if e.kind = 2 ∨ e.kind = 4 then calcS ++ [40] ++ sumT h e ++ [41] else operX (sumT h) e
/-- which are written; neg, inv: may it be turned, may it be a part of one? -/
def shapeP : Nat → Bool → Bool → Et → Bool
 | 0, _, _, _ => false
 | h + 1, neg, inv, .mk k n d u kids => if k = 1 then (plainF (n, d) (d == 1)).isSome
   else (if k = 2 ∨ k = 4 then decide (2 ≤ kids.length) else if k = 3 then neg else if k = 5 then inv else true) &&
    (match kids with
      | [] => true
      | x :: r => shapeP h false false x && r.all (shapeP h (decide (k = 2)) (decide (k = 4))))
def shapeR : Nat → Et → Bool
 | 0, _ => false
 | h + 1, .mk k n d u kids => (if k = 2 ∨ k = 4 then decide (2 ≤ kids.length) else true) && (if k = 1 ∧ d ≠ 0 then (plainF (n, d) (d == 1)).isSome else true) &&
    (match kids with
      | [] => true
      | x :: r => decide (x.kind ≠ 3 ∧ x.kind ≠ 5) && shapeR h x && r.all fun y => decide (y.kind = 3 → k = 2) && decide (y.kind = 5 → k = 4) && shapeR h y)
theorem mayT_kids {f : Nat} {k n d u : Int} {kids : List Et} (h : mayT (f + 1) (.mk k n d u kids) = true) (hk : k ≠ 1) : ∀ x ∈ kids, mayT f x = true := by
 rw [mayT, if_neg hk] at h
 simp only [Bool.and_eq_true] at h
 exact fun x hx => List.all_eq_true.1 h.2 x hx
theorem shapeP_succ (h : Nat) (neg inv : Bool) (k n d u : Int) (kids : List Et) : shapeP (h + 1) neg inv (.mk k n d u kids) = if k = 1 then (plainF (n, d) (d == 1)).isSome
 else (if k = 2 ∨ k = 4 then decide (2 ≤ kids.length) else if k = 3 then neg else if k = 5 then inv else true) &&
  (match kids with
    | [] => true
    | x :: r => shapeP h false false x && r.all (shapeP h (decide (k = 2)) (decide (k = 4)))) := by
 cases kids <;> rfl
theorem shapeR_succ (h : Nat) (k n d u : Int) (kids : List Et) : shapeR (h + 1) (.mk k n d u kids) = ((if k = 2 ∨ k = 4 then decide (2 ≤ kids.length) else true) && (if k = 1 ∧ d ≠ 0 then (plainF (n, d) (d == 1)).isSome else true) &&
 (match kids with
   | [] => true
   | x :: r => decide (x.kind ≠ 3 ∧ x.kind ≠ 5) && shapeR h x && r.all fun y => decide (y.kind = 3 → k = 2) && decide (y.kind = 5 → k = 4) && shapeR h y)) := by
 cases kids <;> rfl
theorem shape_same : ∀ (h f : Nat) (neg inv : Bool) (e : Et), mayT f e = true → shapeP h neg inv e = (decide (e.kind = 3 → neg = true) && decide (e.kind = 5 → inv = true) && shapeR h e)
 | 0, _, _, _, _, _ => by simp [shapeP, shapeR]
 | h + 1, 0, _, _, _, hm => by cases hm
 | h + 1, f + 1, neg, inv, .mk k n d u kids, hm => by
   by_cases h1 : k = 1
   · subst h1
     have hm2 := hm
     rw [mayT, if_pos rfl] at hm2
     simp only [Bool.and_eq_true, decide_eq_true_eq] at hm2
     obtain ⟨⟨⟨hl, hb⟩, _⟩, _⟩ := hm2
     obtain rfl := List.eq_nil_of_length_eq_zero hl
     have hz : d = 0 → (plainF (n, d) (d == 1)).isSome = true := by
      rintro rfl
      unfold plainF
      rw [if_neg (by rintro (e | e) <;> simp_all)]
      rfl
     rw [shapeP_succ, if_pos rfl, shapeR_succ]
     by_cases hd : d = 0
     · rw [hz hd]
       simp [Et.kind, hd]
     · simp [Et.kind, hd]
   · have hk := mayT_kids hm h1
     rw [shapeP_succ, if_neg h1, shapeR_succ]
     match kids, hk with
     | [], _ =>
       simp only [Et.kind, h1]
       by_cases h2 : k = 2 ∨ k = 4
       · rcases h2 with rfl | rfl <;> simp
       · by_cases h3 : k = 3
         · subst h3; simp
         · by_cases h5 : k = 5
           · subst h5; simp
           · simp [h2, h3, h5]
     | x :: r, hk =>
       have hx := shape_same h f false false x (hk x (List.mem_cons_self ..))
       have hr : r.all (shapeP h (decide (k = 2)) (decide (k = 4))) = r.all fun y => decide (y.kind = 3 → k = 2) && decide (y.kind = 5 → k = 4) && shapeR h y := by
        have : ∀ l : List Et, (∀ y ∈ l, mayT f y = true) → l.all (shapeP h (decide (k = 2)) (decide (k = 4))) = l.all fun y => decide (y.kind = 3 → k = 2) && decide (y.kind = 5 → k = 4) && shapeR h y := by
         intro l hl
         induction l with
         | nil => rfl
         | cons y l ih =>
           rw [List.all_cons, List.all_cons, ih (fun z hz => hl z (List.mem_cons_of_mem _ hz)), shape_same h f _ _ y (hl y (List.mem_cons_self ..))]
           simp
        exact this r fun y hy => hk y (List.mem_cons_of_mem _ hy)
       have ex : (decide (x.kind = 3 → false = true) && decide (x.kind = 5 → false = true)) = decide (x.kind ≠ 3 ∧ x.kind ≠ 5) := by
        by_cases a : x.kind = 3 <;> by_cases b : x.kind = 5 <;> simp [a, b]
       show ((if k = 2 ∨ k = 4 then decide (2 ≤ (x :: r).length) else if k = 3 then neg else if k = 5 then inv else true) && (shapeP h false false x && r.all (shapeP h (decide (k = 2)) (decide (k = 4))))) = _
       rw [hx, hr, ex]
       show _ = (decide (k = 3 → neg = true) && decide (k = 5 → inv = true) && (((if k = 2 ∨ k = 4 then decide (2 ≤ (x :: r).length) else true) && if k = 1 ∧ d ≠ 0 then (plainF (n, d) (d == 1)).isSome else true) && (decide (x.kind ≠ 3 ∧ x.kind ≠ 5) && shapeR h x && r.all fun y => decide (y.kind = 3 → k = 2) && decide (y.kind = 5 → k = 4) && shapeR h y)))
       simp only [h1, false_and, if_false, Bool.and_true]
       by_cases h2 : k = 2 ∨ k = 4
       · rcases h2 with rfl | rfl <;> simp
       · by_cases h3 : k = 3
         · subst h3; simp
         · by_cases h5 : k = 5
           · subst h5; simp
           · simp [h2, h3, h5]
end Go.Proofs.YtplnhjmomomphaaGreatDoor

namespace Go.Proofs.YtplnhjmomomphaaGreatDoor
set_option linter.unusedVariables false
set_option linter.unusedSimpArgs false
/-- the kids from a place on -/
def shapeL (h : Nat) (k : Int) : Nat → List Et → Bool
 | _, [] => true
 | i, x :: r => shapeP h (decide (k = 2) && decide (0 < i)) (decide (k = 4) && decide (0 < i)) x && shapeL h k (i + 1) r
theorem shapeL_more (h : Nat) (k : Int) : ∀ (l : List Et) (i : Nat), shapeL h k (i + 1) l = l.all (shapeP h (decide (k = 2)) (decide (k = 4)))
 | [], _ => rfl
 | x :: r, i => by
   rw [shapeL, shapeL_more h k r (i + 1), List.all_cons]
   simp
def flagP (k : Int) (neg inv : Bool) (n : Nat) : Bool := if k = 2 ∨ k = 4 then decide (2 ≤ n) else if k = 3 then neg else if k = 5 then inv else true
theorem shapeP_L (h : Nat) (neg inv : Bool) (k n d u : Int) (kids : List Et) : shapeP (h + 1) neg inv (.mk k n d u kids) = if k = 1 then (plainF (n, d) (d == 1)).isSome else flagP k neg inv kids.length && shapeL h k 0 kids := by
 rw [shapeP_succ]
 split
 · rfl
 · unfold flagP
   congr 1
   cases kids with
   | nil => rfl
   | cons x r =>
     show _ = (shapeP h (decide (k = 2) && decide (0 < 0)) (decide (k = 4) && decide (0 < 0)) x && shapeL h k (0 + 1) r)
     rw [shapeL_more]
     simp
def kidR (k : Int) (i : Nat) (x : Et) : Bool := decide (x.kind = 3 → k = 2 ∧ 0 < i) && decide (x.kind = 5 → k = 4 ∧ 0 < i)
def shapeRL (h : Nat) (k : Int) : Nat → List Et → Bool
 | _, [] => true
 | i, x :: r => kidR k i x && shapeR h x && shapeRL h k (i + 1) r
theorem shapeRL_more (h : Nat) (k : Int) : ∀ (l : List Et) (i : Nat), shapeRL h k (i + 1) l = l.all fun y => decide (y.kind = 3 → k = 2) && decide (y.kind = 5 → k = 4) && shapeR h y
 | [], _ => rfl
 | x :: r, i => by
   rw [shapeRL, shapeRL_more h k r (i + 1), List.all_cons]
   simp [kidR]
def numR (k n d : Int) : Bool := if k = 1 ∧ d ≠ 0 then (plainF (n, d) (d == 1)).isSome else true
def manyR (k : Int) (n : Nat) : Bool := if k = 2 ∨ k = 4 then decide (2 ≤ n) else true
theorem shapeR_L (h : Nat) (k n d u : Int) (kids : List Et) : shapeR (h + 1) (.mk k n d u kids) = (manyR k kids.length && numR k n d && shapeRL h k 0 kids) := by
 rw [shapeR_succ]
 unfold manyR numR
 congr 1
 cases kids with
 | nil => rfl
 | cons x r =>
   show _ = (kidR k 0 x && shapeR h x && shapeRL h k (0 + 1) r)
   rw [shapeRL_more]
   have : kidR k 0 x = decide (x.kind ≠ 3 ∧ x.kind ≠ 5) := by
    unfold kidR
    by_cases a : x.kind = 3 <;> by_cases b : x.kind = 5 <;> simp [a, b]
   rw [this]
/-- what the writers want of an expression -/
def Wr (h : Nat) (e : Et) : Prop := shapeR h e = true ∧ (∃ f, mayT f e = true) ∧ e.kind ≠ 3 ∧ e.kind ≠ 5
/-- .. of one of the kids -/
def Wk (h : Nat) (e : Et) : Prop := shapeR h e = true ∧ ∃ f, mayT f e = true
theorem shapeR_more : ∀ (h : Nat) (e : Et), shapeR h e = true → shapeR (h + 1) e = true
 | 0, _, h => by cases h
 | h + 1, .mk k n d u kids, hs => by
   rw [shapeR_L] at hs ⊢
   simp only [Bool.and_eq_true] at hs ⊢
   refine ⟨hs.1, ?_⟩
   have : ∀ (l : List Et) (i : Nat), shapeRL h k i l = true → shapeRL (h + 1) k i l = true := by
    intro l
    induction l with
    | nil => exact fun _ _ => rfl
    | cons x r ih =>
      intro i hx
      rw [shapeRL] at hx ⊢
      simp only [Bool.and_eq_true] at hx ⊢
      exact ⟨⟨hx.1.1, shapeR_more h x hx.1.2⟩, ih _ hx.2⟩
   exact this kids 0 hs.2
theorem Wk.more {h : Nat} {e : Et} (hw : Wk h e) : Wk (h + 1) e := ⟨shapeR_more h e hw.1, hw.2⟩
theorem Wr.more {h : Nat} {e : Et} (hw : Wr h e) : Wr (h + 1) e := ⟨shapeR_more h e hw.1, hw.2⟩
theorem shapeRL_at (h : Nat) (k : Int) : ∀ (l : List Et) (i j : Nat) (x : Et), shapeRL h k i l = true → l[j]? = some x → kidR k (i + j) x = true ∧ shapeR h x = true
 | [], _, _, _, _, h => by cases h
 | y :: r, i, 0, x, hs, hx => by
   obtain rfl := Option.some.inj hx
   rw [shapeRL] at hs
   simp only [Bool.and_eq_true] at hs
   exact hs.1
 | y :: r, i, j + 1, x, hs, hx => by
   rw [shapeRL] at hs
   simp only [Bool.and_eq_true] at hs
   have := shapeRL_at h k r (i + 1) j x hs.2 (by simpa using hx)
   rw [show i + (j + 1) = i + 1 + j by omega]
   exact this
theorem mayT_parts {f : Nat} {k n d u : Int} {kids : List Et} (h : mayT f (.mk k n d u kids) = true) : ∃ g, (k = 1 → kids = [] ∧ mayB (n, d) = true ∧ 0 ≤ u ∧ u ≤ 7) ∧ (k ≠ 1 → arity k kids.length = true ∧ ∀ x ∈ kids, mayT g x = true) := by
 cases f with
 | zero => cases h
 | succ f =>
   refine ⟨f, fun h1 => ?_, fun h1 => ?_⟩
   · rw [mayT, if_pos h1] at h
     simp only [Bool.and_eq_true, decide_eq_true_eq] at h
     exact ⟨List.eq_nil_of_length_eq_zero h.1.1.1, h.1.1.2, h.1.2, h.2⟩
   · have hk := mayT_kids h h1
     rw [mayT, if_neg h1] at h
     simp only [Bool.and_eq_true] at h
     exact ⟨h.1.2, hk⟩
/-- one of the kids -/
theorem Wk.kid {h : Nat} {k n d u : Int} {kids : List Et} (hw : Wk (h + 1) (.mk k n d u kids)) (hk : k ≠ 1) {j : Nat} {x : Et} (hx : kids[j]? = some x) : Wk h x ∧ kidR k j x = true := by
 obtain ⟨hs, f, hm⟩ := hw
 obtain ⟨g, _, hg⟩ := mayT_parts hm
 rw [shapeR_L] at hs
 simp only [Bool.and_eq_true] at hs
 have := shapeRL_at h k kids 0 j x hs.2 hx
 rw [Nat.zero_add] at this
 exact ⟨⟨this.2, g, (hg hk).2 x (List.mem_of_getElem? hx)⟩, this.1⟩
/-- the number -/
theorem Wk.num {h : Nat} {n d u : Int} {kids : List Et} (hw : Wk (h + 1) (.mk 1 n d u kids)) : kids = [] ∧ 0 ≤ u ∧ u ≤ 7 ∧ ∃ t, plainF (n, d) (d == 1) = some t := by
 obtain ⟨hs, f, hm⟩ := hw
 obtain ⟨g, hg, _⟩ := mayT_parts hm
 obtain ⟨h1, h2, h3, h4⟩ := hg rfl
 refine ⟨h1, h3, h4, ?_⟩
 by_cases hd : d = 0
 · subst hd
   have hz : (plainF (n, 0) ((0 : Int) == 1)).isSome = true := by
    unfold plainF
    rw [if_neg (by rintro (e | e) <;> simp_all)]
    rfl
   exact Option.isSome_iff_exists.1 hz
 · rw [shapeR_L] at hs
   simp only [Bool.and_eq_true] at hs
   have := hs.1.2
   unfold numR at this
   rw [if_pos ⟨rfl, hd⟩] at this
   exact Option.isSome_iff_exists.1 this
/-- what is turned has one kid, that is none that is turned -/
theorem Wk.turned {h : Nat} {k n d u : Int} {kids : List Et} (hw : Wk (h + 1) (.mk k n d u kids)) (hk : k = 3 ∨ k = 5) : ∃ x, kids = [x] ∧ Wr h x := by
 have hw2 := hw
 obtain ⟨hs, f, hm⟩ := hw
 obtain ⟨g, _, hg⟩ := mayT_parts hm
 obtain ⟨ha, _⟩ := hg (by omega)
 have h1 : kids.length = 1 := by
  unfold arity at ha
  rw [if_neg (by omega), if_pos hk] at ha
  simpa using ha
 obtain ⟨x, rfl⟩ : ∃ x, kids = [x] := by
  match kids, h1 with
  | [x], _ => exact ⟨x, rfl⟩
 have := hw2.kid (by omega) (j := 0) rfl
 refine ⟨x, rfl, this.1.1, this.1.2, fun e => ?_, fun e => ?_⟩
 · have h2 := this.2
   unfold kidR at h2
   simp only [Bool.and_eq_true, decide_eq_true_eq] at h2
   have := h2.1 e
   omega
 · have h2 := this.2
   unfold kidR at h2
   simp only [Bool.and_eq_true, decide_eq_true_eq] at h2
   have := h2.2 e
   omega
theorem Wk.first {h : Nat} {k n d u : Int} {kids : List Et} (hw : Wk (h + 1) (.mk k n d u kids)) (hk : k ≠ 1) {x : Et} (hx : kids[0]? = some x) : Wr h x := by
 have := hw.kid hk hx
 have h2 := this.2
 unfold kidR at h2
 simp only [Bool.and_eq_true, decide_eq_true_eq] at h2
 exact ⟨this.1.1, this.1.2, fun e => by have := h2.1 e; omega, fun e => by have := h2.2 e; omega⟩
theorem Wk.same {h : Nat} {k n d u : Int} {kids : List Et} (hw : Wk (h + 1) (.mk k n d u kids)) (hk : k ≠ 1) {j : Nat} {x : Et} (hx : kids[j]? = some x) (h3 : x.kind = 3 → k ≠ 2) (h5 : x.kind = 5 → k ≠ 4) : Wr h x := by
 have := hw.kid hk hx
 have h2 := this.2
 unfold kidR at h2
 simp only [Bool.and_eq_true, decide_eq_true_eq] at h2
 exact ⟨this.1.1, this.1.2, fun e => h3 e (h2.1 e).1, fun e => h5 e (h2.2 e).1⟩
theorem kind_mk (k n d u : Int) (kids : List Et) : (Et.mk k n d u kids).kind = k := rfl
theorem Wr.kinds {h : Nat} {k n d u : Int} {kids : List Et} (hw : Wr h (.mk k n d u kids)) : k = 1 ∨ k = 2 ∨ k = 4 ∨ k = 6 ∨ k = 7 ∨ k = 8 := by
 obtain ⟨_, ⟨f, hm⟩, h3, h5⟩ := hw
 obtain ⟨g, _, hg⟩ := mayT_parts hm
 rw [kind_mk] at h3 h5
 by_cases h1 : k = 1
 · omega
 · have ha := (hg h1).1
   by_cases h2 : k = 2 ∨ k = 4 ∨ k = 6 ∨ k = 7
   · omega
   · by_cases h8 : k = 8
     · omega
     · rw [arity_none h2 (by omega) h8] at ha
       cases ha
/-- the parts of a text -/
theorem moreX_cons (O : Et → List UInt8) (t : Int) (a b : UInt8) (e : Et) (r : List Et) : moreX O t a b (e :: r) = (if e.kind = t then [32, b, 32] ++ O (kid0 e) else [32, a, 32] ++ O e) ++ moreX O t a b r := rfl
theorem commas_cons (x : List UInt8) (r : List (List UInt8)) : commas (x :: r) = x ++ (r.flatMap fun y => [44, 32] ++ y) := by
 induction r generalizing x with
 | nil => simp [commas]
 | cons y r ih => rw [commas, ih]; simp
theorem sumT_sum {h : Nat} {k n d u : Int} {kids : List Et} (hk : k = 2) : sumT (h + 1) (.mk k n d u kids) = joinX (prodX (sumT h)) 3 43 45 kids := by
 subst hk; rfl
theorem sumT_other {h : Nat} {e : Et} (hk : e.kind ≠ 2) : sumT (h + 1) e = prodX (sumT h) e := by
 rw [sumT, if_neg hk]
theorem prodX_prod {S : Et → List UInt8} {k n d u : Int} {kids : List Et} (hk : k = 4) : prodX S (.mk k n d u kids) = joinX (operX S) 5 42 47 kids := by
 subst hk; rfl
theorem prodX_other {S : Et → List UInt8} {e : Et} (hk : e.kind ≠ 4) : prodX S e = operX S e := by
 rw [prodX, if_neg hk]
end Go.Proofs.YtplnhjmomomphaaGreatDoor
