/- Of my texts: TextE, TextG, BackN. -/
import Derived.Test.YtplnhjmomomphaaGreatDoorM06
import Derived.Test.YtplnhjmomomphaaGreatDoorM15
import Derived.Test.YtplnhjmomomphaaGreatDoorM23
import Derived.Test.YtplnhjmomomphaaGreatDoorM24
namespace Go.Proofs.YtplnhjmomomphaaGreatDoor
set_option linter.unusedVariables false
set_option linter.unusedSimpArgs false
/-- a unit's name -/
def unitN (u : Int) : List UInt8 := if 1 ≤ u then unitsS.getD (u.toNat - 1) [] else []
def numW (n d u : Int) : List UInt8 := (plainF (n, d) (d == 1)).getD [] ++ unitN u
/-- texts with commas between -/
def commas : List (List UInt8) → List UInt8
 | [] => []
 | [x] => x
 | x :: y :: r => x ++ [44, 32] ++ commas (y :: r)
/-- an operand; S: the text as a sum -/
def operX (S : Et → List UInt8) : Et → List UInt8
 | .mk k n d u kids => if k = 1 then numW n d u
   else if k = 6 then minS ++ [40] ++ commas (kids.map S) ++ [41]
   else if k = 7 then maxS ++ [40] ++ commas (kids.map S) ++ [41]
   else if k = 8 then clampS ++ [40] ++ commas (kids.map S) ++ [41]
   else [40] ++ S (.mk k n d u kids) ++ [41]
def Et.kind : Et → Int
 | .mk k _ _ _ _ => k
def Et.list : Et → List Et
 | .mk _ _ _ _ l => l
def kid0 (e : Et) : Et := (e.list[0]?).getD (.mk 0 0 0 0 [])
/-- what stands behind the first -/
def moreX (O : Et → List UInt8) (turned : Int) (one other : UInt8) : List Et → List UInt8
 | [] => []
 | e :: r => (if e.kind = turned then [32, other, 32] ++ O (kid0 e) else [32, one, 32] ++ O e) ++ moreX O turned one other r
def joinX (O : Et → List UInt8) (turned : Int) (one other : UInt8) : List Et → List UInt8
 | [] => []
 | e :: r => O e ++ moreX O turned one other r
def prodX (S : Et → List UInt8) (e : Et) : List UInt8 := if e.kind = 4 then joinX (operX S) 5 42 47 e.list else operX S e
def sumT : Nat → Et → List UInt8
 | 0, _ => []
 | h + 1, e => if e.kind = 2 then joinX (prodX (sumT h)) 3 43 45 e.list else prodX (sumT h) e
/-- the text of an expression that is written -/
def textW (h : Nat) (e : Et) : List UInt8 := if e.kind = 2 ∨ e.kind = 4 then calcS ++ [40] ++ sumT h e ++ [41] else operX (sumT h) e
/-- which are written; neg, inv: may it be turned, may it be a part of one? -/
def shapeP : Nat → Bool → Bool → Et → Bool
 | 0, _, _, _ => false
 | h + 1, neg, inv, .mk k n d u kids => if k = 1 then (plainF (n, d) (d == 1)).isSome
   else (if k = 2 ∨ k = 4 then decide (2 ≤ kids.length) else if k = 3 then neg else if k = 5 then inv else true) &&
    (match kids with
      | [] => true
      | x :: r => shapeP h false false x && r.all (shapeP h (decide (k = 2)) (decide (k = 4))))
def shapeR : Nat → Et → Bool
 | 0, _ => false
 | h + 1, .mk k n d u kids => (if k = 2 ∨ k = 4 then decide (2 ≤ kids.length) else true) && (if k = 1 ∧ d ≠ 0 then (plainF (n, d) (d == 1)).isSome else true) &&
    (match kids with
      | [] => true
      | x :: r => decide (x.kind ≠ 3 ∧ x.kind ≠ 5) && shapeR h x && r.all fun y => decide (y.kind = 3 → k = 2) && decide (y.kind = 5 → k = 4) && shapeR h y)
theorem mayT_kids {f : Nat} {k n d u : Int} {kids : List Et} (h : mayT (f + 1) (.mk k n d u kids) = true) (hk : k ≠ 1) : ∀ x ∈ kids, mayT f x = true := by
 rw [mayT, if_neg hk] at h
 simp only [Bool.and_eq_true] at h
 exact fun x hx => List.all_eq_true.1 h.2 x hx
theorem shapeP_succ (h : Nat) (neg inv : Bool) (k n d u : Int) (kids : List Et) : shapeP (h + 1) neg inv (.mk k n d u kids) = if k = 1 then (plainF (n, d) (d == 1)).isSome
 else (if k = 2 ∨ k = 4 then decide (2 ≤ kids.length) else if k = 3 then neg else if k = 5 then inv else true) &&
  (match kids with
    | [] => true
    | x :: r => shapeP h false false x && r.all (shapeP h (decide (k = 2)) (decide (k = 4)))) := by
 cases kids <;> rfl
theorem shapeR_succ (h : Nat) (k n d u : Int) (kids : List Et) : shapeR (h + 1) (.mk k n d u kids) = ((if k = 2 ∨ k = 4 then decide (2 ≤ kids.length) else true) && (if k = 1 ∧ d ≠ 0 then (plainF (n, d) (d == 1)).isSome else true) &&
 (match kids with
   | [] => true
   | x :: r => decide (x.kind ≠ 3 ∧ x.kind ≠ 5) && shapeR h x && r.all fun y => decide (y.kind = 3 → k = 2) && decide (y.kind = 5 → k = 4) && shapeR h y)) := by
 cases kids <;> rfl
theorem shape_same : ∀ (h f : Nat) (neg inv : Bool) (e : Et), mayT f e = true → shapeP h neg inv e = (decide (e.kind = 3 → neg = true) && decide (e.kind = 5 → inv = true) && shapeR h e)
 | 0, _, _, _, _, _ => by simp [shapeP, shapeR]
 | h + 1, 0, _, _, _, hm => by cases hm
 | h + 1, f + 1, neg, inv, .mk k n d u kids, hm => by
   by_cases h1 : k = 1
   · subst h1
     have hm2 := hm
     rw [mayT, if_pos rfl] at hm2
     simp only [Bool.and_eq_true, decide_eq_true_eq] at hm2
     obtain ⟨⟨⟨hl, hb⟩, _⟩, _⟩ := hm2
     obtain rfl := List.eq_nil_of_length_eq_zero hl
     have hz : d = 0 → (plainF (n, d) (d == 1)).isSome = true := by
      rintro rfl
      unfold plainF
      rw [if_neg (by rintro (e | e) <;> simp_all)]
      rfl
     rw [shapeP_succ, if_pos rfl, shapeR_succ]
     by_cases hd : d = 0
     · rw [hz hd]
       simp [Et.kind, hd]
     · simp [Et.kind, hd]
   · have hk := mayT_kids hm h1
     rw [shapeP_succ, if_neg h1, shapeR_succ]
     match kids, hk with
     | [], _ =>
       simp only [Et.kind, h1]
       by_cases h2 : k = 2 ∨ k = 4
       · rcases h2 with rfl | rfl <;> simp
       · by_cases h3 : k = 3
         · subst h3; simp
         · by_cases h5 : k = 5
           · subst h5; simp
           · simp [h2, h3, h5]
     | x :: r, hk =>
       have hx := shape_same h f false false x (hk x (List.mem_cons_self ..))
       have hr : r.all (shapeP h (decide (k = 2)) (decide (k = 4))) = r.all fun y => decide (y.kind = 3 → k = 2) && decide (y.kind = 5 → k = 4) && shapeR h y := by
        have : ∀ l : List Et, (∀ y ∈ l, mayT f y = true) → l.all (shapeP h (decide (k = 2)) (decide (k = 4))) = l.all fun y => decide (y.kind = 3 → k = 2) && decide (y.kind = 5 → k = 4) && shapeR h y := by
         intro l hl
         induction l with
         | nil => rfl
         | cons y l ih =>
           rw [List.all_cons, List.all_cons, ih (fun z hz => hl z (List.mem_cons_of_mem _ hz)), shape_same h f _ _ y (hl y (List.mem_cons_self ..))]
           simp
        exact this r fun y hy => hk y (List.mem_cons_of_mem _ hy)
       have ex : (decide (x.kind = 3 → false = true) && decide (x.kind = 5 → false = true)) = decide (x.kind ≠ 3 ∧ x.kind ≠ 5) := by
        by_cases a : x.kind = 3 <;> by_cases b : x.kind = 5 <;> simp [a, b]
       show ((if k = 2 ∨ k = 4 then decide (2 ≤ (x :: r).length) else if k = 3 then neg else if k = 5 then inv else true) && (shapeP h false false x && r.all (shapeP h (decide (k = 2)) (decide (k = 4))))) = _
       rw [hx, hr, ex]
       show _ = (decide (k = 3 → neg = true) && decide (k = 5 → inv = true) && (((if k = 2 ∨ k = 4 then decide (2 ≤ (x :: r).length) else true) && if k = 1 ∧ d ≠ 0 then (plainF (n, d) (d == 1)).isSome else true) && (decide (x.kind ≠ 3 ∧ x.kind ≠ 5) && shapeR h x && r.all fun y => decide (y.kind = 3 → k = 2) && decide (y.kind = 5 → k = 4) && shapeR h y)))
       simp only [h1, false_and, if_false, Bool.and_true]
       by_cases h2 : k = 2 ∨ k = 4
       · rcases h2 with rfl | rfl <;> simp
       · by_cases h3 : k = 3
         · subst h3; simp
         · by_cases h5 : k = 5
           · subst h5; simp
           · simp [h2, h3, h5]
theorem unit_back (u : Int) (h1 : 1 ≤ u) (h7 : u ≤ 7) : (unitF (unitN u) : Int) = u := by
 have h : u = 1 ∨ u = 2 ∨ u = 3 ∨ u = 4 ∨ u = 5 ∨ u = 6 ∨ u = 7 := by omega
 rcases h with rfl | rfl | rfl | rfl | rfl | rfl | rfl <;> rfl
end Go.Proofs.YtplnhjmomomphaaGreatDoor

namespace Go.Proofs.YtplnhjmomomphaaGreatDoor
set_option linter.unusedVariables false
set_option linter.unusedSimpArgs false
/-- the kids from a place on -/
def shapeL (h : Nat) (k : Int) : Nat → List Et → Bool
 | _, [] => true
 | i, x :: r => shapeP h (decide (k = 2) && decide (0 < i)) (decide (k = 4) && decide (0 < i)) x && shapeL h k (i + 1) r
theorem shapeL_more (h : Nat) (k : Int) : ∀ (l : List Et) (i : Nat), shapeL h k (i + 1) l = l.all (shapeP h (decide (k = 2)) (decide (k = 4)))
 | [], _ => rfl
 | x :: r, i => by
   rw [shapeL, shapeL_more h k r (i + 1), List.all_cons]
   simp
def flagP (k : Int) (neg inv : Bool) (n : Nat) : Bool := if k = 2 ∨ k = 4 then decide (2 ≤ n) else if k = 3 then neg else if k = 5 then inv else true
theorem shapeP_L (h : Nat) (neg inv : Bool) (k n d u : Int) (kids : List Et) : shapeP (h + 1) neg inv (.mk k n d u kids) = if k = 1 then (plainF (n, d) (d == 1)).isSome else flagP k neg inv kids.length && shapeL h k 0 kids := by
 rw [shapeP_succ]
 split
 · rfl
 · unfold flagP
   congr 1
   cases kids with
   | nil => rfl
   | cons x r =>
     show _ = (shapeP h (decide (k = 2) && decide (0 < 0)) (decide (k = 4) && decide (0 < 0)) x && shapeL h k (0 + 1) r)
     rw [shapeL_more]
     simp
def kidR (k : Int) (i : Nat) (x : Et) : Bool := decide (x.kind = 3 → k = 2 ∧ 0 < i) && decide (x.kind = 5 → k = 4 ∧ 0 < i)
def shapeRL (h : Nat) (k : Int) : Nat → List Et → Bool
 | _, [] => true
 | i, x :: r => kidR k i x && shapeR h x && shapeRL h k (i + 1) r
theorem shapeRL_more (h : Nat) (k : Int) : ∀ (l : List Et) (i : Nat), shapeRL h k (i + 1) l = l.all fun y => decide (y.kind = 3 → k = 2) && decide (y.kind = 5 → k = 4) && shapeR h y
 | [], _ => rfl
 | x :: r, i => by
   rw [shapeRL, shapeRL_more h k r (i + 1), List.all_cons]
   simp [kidR]
def numR (k n d : Int) : Bool := if k = 1 ∧ d ≠ 0 then (plainF (n, d) (d == 1)).isSome else true
def manyR (k : Int) (n : Nat) : Bool := if k = 2 ∨ k = 4 then decide (2 ≤ n) else true
theorem shapeR_L (h : Nat) (k n d u : Int) (kids : List Et) : shapeR (h + 1) (.mk k n d u kids) = (manyR k kids.length && numR k n d && shapeRL h k 0 kids) := by
 rw [shapeR_succ]
 unfold manyR numR
 congr 1
 cases kids with
 | nil => rfl
 | cons x r =>
   show _ = (kidR k 0 x && shapeR h x && shapeRL h k (0 + 1) r)
   rw [shapeRL_more]
   have : kidR k 0 x = decide (x.kind ≠ 3 ∧ x.kind ≠ 5) := by
    unfold kidR
    by_cases a : x.kind = 3 <;> by_cases b : x.kind = 5 <;> simp [a, b]
   rw [this]
/-- what the writers want of an expression -/
def Wr (h : Nat) (e : Et) : Prop := shapeR h e = true ∧ (∃ f, mayT f e = true) ∧ e.kind ≠ 3 ∧ e.kind ≠ 5
/-- .. of one of the kids -/
def Wk (h : Nat) (e : Et) : Prop := shapeR h e = true ∧ ∃ f, mayT f e = true
theorem shapeR_more : ∀ (h : Nat) (e : Et), shapeR h e = true → shapeR (h + 1) e = true
 | 0, _, h => by cases h
 | h + 1, .mk k n d u kids, hs => by
   rw [shapeR_L] at hs ⊢
   simp only [Bool.and_eq_true] at hs ⊢
   refine ⟨hs.1, ?_⟩
   have : ∀ (l : List Et) (i : Nat), shapeRL h k i l = true → shapeRL (h + 1) k i l = true := by
    intro l
    induction l with
    | nil => exact fun _ _ => rfl
    | cons x r ih =>
      intro i hx
      rw [shapeRL] at hx ⊢
      simp only [Bool.and_eq_true] at hx ⊢
      exact ⟨⟨hx.1.1, shapeR_more h x hx.1.2⟩, ih _ hx.2⟩
   exact this kids 0 hs.2
theorem Wk.more {h : Nat} {e : Et} (hw : Wk h e) : Wk (h + 1) e := ⟨shapeR_more h e hw.1, hw.2⟩
theorem Wr.more {h : Nat} {e : Et} (hw : Wr h e) : Wr (h + 1) e := ⟨shapeR_more h e hw.1, hw.2⟩
theorem shapeRL_at (h : Nat) (k : Int) : ∀ (l : List Et) (i j : Nat) (x : Et), shapeRL h k i l = true → l[j]? = some x → kidR k (i + j) x = true ∧ shapeR h x = true
 | [], _, _, _, _, h => by cases h
 | y :: r, i, 0, x, hs, hx => by
   obtain rfl := Option.some.inj hx
   rw [shapeRL] at hs
   simp only [Bool.and_eq_true] at hs
   exact hs.1
 | y :: r, i, j + 1, x, hs, hx => by
   rw [shapeRL] at hs
   simp only [Bool.and_eq_true] at hs
   have := shapeRL_at h k r (i + 1) j x hs.2 (by simpa using hx)
   rw [show i + (j + 1) = i + 1 + j by omega]
   exact this
theorem mayT_parts {f : Nat} {k n d u : Int} {kids : List Et} (h : mayT f (.mk k n d u kids) = true) : ∃ g, (k = 1 → kids = [] ∧ mayB (n, d) = true ∧ 0 ≤ u ∧ u ≤ 7) ∧ (k ≠ 1 → arity k kids.length = true ∧ ∀ x ∈ kids, mayT g x = true) := by
 cases f with
 | zero => cases h
 | succ f =>
   refine ⟨f, fun h1 => ?_, fun h1 => ?_⟩
   · rw [mayT, if_pos h1] at h
     simp only [Bool.and_eq_true, decide_eq_true_eq] at h
     exact ⟨List.eq_nil_of_length_eq_zero h.1.1.1, h.1.1.2, h.1.2, h.2⟩
   · have hk := mayT_kids h h1
     rw [mayT, if_neg h1] at h
     simp only [Bool.and_eq_true] at h
     exact ⟨h.1.2, hk⟩
/-- one of the kids -/
theorem Wk.kid {h : Nat} {k n d u : Int} {kids : List Et} (hw : Wk (h + 1) (.mk k n d u kids)) (hk : k ≠ 1) {j : Nat} {x : Et} (hx : kids[j]? = some x) : Wk h x ∧ kidR k j x = true := by
 obtain ⟨hs, f, hm⟩ := hw
 obtain ⟨g, _, hg⟩ := mayT_parts hm
 rw [shapeR_L] at hs
 simp only [Bool.and_eq_true] at hs
 have := shapeRL_at h k kids 0 j x hs.2 hx
 rw [Nat.zero_add] at this
 exact ⟨⟨this.2, g, (hg hk).2 x (List.mem_of_getElem? hx)⟩, this.1⟩
/-- the number -/
theorem Wk.num {h : Nat} {n d u : Int} {kids : List Et} (hw : Wk (h + 1) (.mk 1 n d u kids)) : kids = [] ∧ 0 ≤ u ∧ u ≤ 7 ∧ ∃ t, plainF (n, d) (d == 1) = some t := by
 obtain ⟨hs, f, hm⟩ := hw
 obtain ⟨g, hg, _⟩ := mayT_parts hm
 obtain ⟨h1, h2, h3, h4⟩ := hg rfl
 refine ⟨h1, h3, h4, ?_⟩
 by_cases hd : d = 0
 · subst hd
   have hz : (plainF (n, 0) ((0 : Int) == 1)).isSome = true := by
    unfold plainF
    rw [if_neg (by rintro (e | e) <;> simp_all)]
    rfl
   exact Option.isSome_iff_exists.1 hz
 · rw [shapeR_L] at hs
   simp only [Bool.and_eq_true] at hs
   have := hs.1.2
   unfold numR at this
   rw [if_pos ⟨rfl, hd⟩] at this
   exact Option.isSome_iff_exists.1 this
/-- what is turned has one kid, that is none that is turned -/
theorem Wk.turned {h : Nat} {k n d u : Int} {kids : List Et} (hw : Wk (h + 1) (.mk k n d u kids)) (hk : k = 3 ∨ k = 5) : ∃ x, kids = [x] ∧ Wr h x := by
 have hw2 := hw
 obtain ⟨hs, f, hm⟩ := hw
 obtain ⟨g, _, hg⟩ := mayT_parts hm
 obtain ⟨ha, _⟩ := hg (by omega)
 have h1 : kids.length = 1 := by
  unfold arity at ha
  rw [if_neg (by omega), if_pos hk] at ha
  simpa using ha
 obtain ⟨x, rfl⟩ : ∃ x, kids = [x] := by
  match kids, h1 with
  | [x], _ => exact ⟨x, rfl⟩
 have := hw2.kid (by omega) (j := 0) rfl
 refine ⟨x, rfl, this.1.1, this.1.2, fun e => ?_, fun e => ?_⟩
 · have h2 := this.2
   unfold kidR at h2
   simp only [Bool.and_eq_true, decide_eq_true_eq] at h2
   have := h2.1 e
   omega
 · have h2 := this.2
   unfold kidR at h2
   simp only [Bool.and_eq_true, decide_eq_true_eq] at h2
   have := h2.2 e
   omega
theorem Wk.first {h : Nat} {k n d u : Int} {kids : List Et} (hw : Wk (h + 1) (.mk k n d u kids)) (hk : k ≠ 1) {x : Et} (hx : kids[0]? = some x) : Wr h x := by
 have := hw.kid hk hx
 have h2 := this.2
 unfold kidR at h2
 simp only [Bool.and_eq_true, decide_eq_true_eq] at h2
 exact ⟨this.1.1, this.1.2, fun e => by have := h2.1 e; omega, fun e => by have := h2.2 e; omega⟩
theorem Wk.same {h : Nat} {k n d u : Int} {kids : List Et} (hw : Wk (h + 1) (.mk k n d u kids)) (hk : k ≠ 1) {j : Nat} {x : Et} (hx : kids[j]? = some x) (h3 : x.kind = 3 → k ≠ 2) (h5 : x.kind = 5 → k ≠ 4) : Wr h x := by
 have := hw.kid hk hx
 have h2 := this.2
 unfold kidR at h2
 simp only [Bool.and_eq_true, decide_eq_true_eq] at h2
 exact ⟨this.1.1, this.1.2, fun e => h3 e (h2.1 e).1, fun e => h5 e (h2.2 e).1⟩
theorem kind_mk (k n d u : Int) (kids : List Et) : (Et.mk k n d u kids).kind = k := rfl
theorem Wr.kinds {h : Nat} {k n d u : Int} {kids : List Et} (hw : Wr h (.mk k n d u kids)) : k = 1 ∨ k = 2 ∨ k = 4 ∨ k = 6 ∨ k = 7 ∨ k = 8 := by
 obtain ⟨_, ⟨f, hm⟩, h3, h5⟩ := hw
 obtain ⟨g, _, hg⟩ := mayT_parts hm
 rw [kind_mk] at h3 h5
 by_cases h1 : k = 1
 · omega
 · have ha := (hg h1).1
   by_cases h2 : k = 2 ∨ k = 4 ∨ k = 6 ∨ k = 7
   · omega
   · by_cases h8 : k = 8
     · omega
     · rw [arity_none h2 (by omega) h8] at ha
       cases ha
/-- the parts of a text -/
theorem moreX_cons (O : Et → List UInt8) (t : Int) (a b : UInt8) (e : Et) (r : List Et) : moreX O t a b (e :: r) = (if e.kind = t then [32, b, 32] ++ O (kid0 e) else [32, a, 32] ++ O e) ++ moreX O t a b r := rfl
theorem commas_cons (x : List UInt8) (r : List (List UInt8)) : commas (x :: r) = x ++ (r.flatMap fun y => [44, 32] ++ y) := by
 induction r generalizing x with
 | nil => simp [commas]
 | cons y r ih => rw [commas, ih]; simp
theorem sumT_sum {h : Nat} {k n d u : Int} {kids : List Et} (hk : k = 2) : sumT (h + 1) (.mk k n d u kids) = joinX (prodX (sumT h)) 3 43 45 kids := by
 subst hk; rfl
theorem sumT_other {h : Nat} {e : Et} (hk : e.kind ≠ 2) : sumT (h + 1) e = prodX (sumT h) e := by
 rw [sumT, if_neg hk]
theorem prodX_prod {S : Et → List UInt8} {k n d u : Int} {kids : List Et} (hk : k = 4) : prodX S (.mk k n d u kids) = joinX (operX S) 5 42 47 kids := by
 subst hk; rfl
theorem prodX_other {S : Et → List UInt8} {e : Et} (hk : e.kind ≠ 4) : prodX S e = operX S e := by
 rw [prodX, if_neg hk]
end Go.Proofs.YtplnhjmomomphaaGreatDoor

namespace Go.Proofs.YtplnhjmomomphaaGreatDoor
set_option linter.unusedVariables false
set_option linter.unusedSimpArgs false
def visB (c : UInt8) : Bool := decide (32 ≤ c.toNat) && decide (c.toNat ≤ 126)
def intS (b : List UInt8) : List Int := b.map fun c => (c.toNat : Int)
theorem intS_append (a b : List UInt8) : intS (a ++ b) = intS a ++ intS b := List.map_append
theorem intS_cons (c : UInt8) (b : List UInt8) : intS (c :: b) = (c.toNat : Int) :: intS b := rfl
theorem intS_len (b : List UInt8) : (intS b).length = b.length := List.length_map ..
theorem vis_at {b : List UInt8} (h : b.all visB = true) {i : Nat} {c : UInt8} (hi : b[i]? = some c) : 32 ≤ c.toNat ∧ c.toNat ≤ 126 := by
 have := List.all_eq_true.1 h c (List.mem_of_getElem? hi)
 simpa [visB] using this
theorem raw_vis {b : List UInt8} (h : b.all visB = true) : ∀ (f i : Nat), b.length ≤ i + f → rawF b f i = intS (b.drop i)
 | 0, i, hf => by rw [List.drop_eq_nil_of_le (by omega)]; rfl
 | f + 1, i, hf => by
   rw [rawF]
   by_cases hi : i < b.length
   · have hb : b[i]? = some b[i] := List.getElem?_eq_getElem hi
     have hv := vis_at h hb
     have h1 : oneF b i = ((b[i].toNat : Int), 1, true) := by
      unfold oneF
      rw [hb]
      simp only []
      rw [if_pos (by omega)]
     rw [if_pos hi, h1, raw_vis h f (i + 1) (by omega), List.drop_eq_getElem_cons hi]
     rfl
   · rw [if_neg hi, List.drop_eq_nil_of_le (by omega)]
     rfl
theorem decG_vis : ∀ (b : List UInt8) (x : Int), b.all visB = true → decG x (intS b) = intS b
 | [], _, _ => rfl
 | c :: b, x, h => by
   have hc := vis_at h (i := 0) rfl
   simp only [List.all_cons, Bool.and_eq_true] at h
   rw [intS_cons, decG, if_neg (by omega), decG_vis b _ h.2]
   congr 1
   unfold yF
   rw [if_neg (by omega), if_neg (by omega)]
theorem decode_vis {b : List UInt8} (h : b.all visB = true) : decodeF b = intS b := by
 have hb : bomF b = b := by
  unfold bomF
  split
  · have := vis_at h (i := 0) rfl
    exact absurd this.2 (by decide)
  · rfl
 unfold decodeF
 rw [hb, raw_vis h _ 0 (by omega), List.drop_zero, decG_vis b 0 h]
theorem enc_vis : ∀ {b : List UInt8}, b.all visB = true → encF (intS b) = b
 | [], _ => rfl
 | c :: b, h => by
   have hc := vis_at h (i := 0) rfl
   simp only [List.all_cons, Bool.and_eq_true] at h
   have ih := enc_vis h.2
   unfold encF at ih ⊢
   rw [intS_cons, List.flatMap_cons, ih]
   have h1 : enc1 (c.toNat : Int) = [c] := by
    unfold enc1
    have hi : isC (c.toNat : Int) = true := by unfold isC; simp; omega
    rw [if_pos hi]
    simp only [Int.toNat_natCast]
    rw [if_pos (by omega)]
    simp
   rw [h1]
   rfl
theorem aF_vis {c : UInt8} {b : List UInt8} {R : List Int} (h : visB c = true) : aF (intS (c :: b) ++ R) 0 = (c.toNat : Int) := by
 have hc : 32 ≤ c.toNat ∧ c.toNat ≤ 126 := by simpa [visB] using h
 rw [intS_cons, List.cons_append]
 exact aF_cons _ _ (by unfold isC; simp; omega)
theorem aF_behind (A : List UInt8) (R : List Int) (i : Nat) : aF (intS A ++ R) (A.length + i) = aF R i := by
 rw [← intS_len A]
 exact aF_shift (intS A) R i
def digB (c : UInt8) : Bool := decide (48 ≤ c.toNat) && decide (c.toNat ≤ 57)
theorem dig_vis {D : List UInt8} (h : D.all digB = true) : D.all visB = true := by
 rw [List.all_eq_true] at h ⊢
 intro c hc
 have := h c hc
 simp only [digB, visB, Bool.and_eq_true, decide_eq_true_eq] at this ⊢
 omega
theorem digE_all : ∀ (D : List UInt8) (R : List Int) (f : Nat), D.all digB = true → D.length < f → digitI (aF R 0) = false → digE (intS D ++ R) f 0 = D.length
 | [], R, f + 1, _, _, h => by
   show digE R (f + 1) 0 = 0
   rw [digE, h]
   rfl
 | c :: D, R, f + 1, hd, hf, h => by
   have hd2 := hd
   simp only [List.all_cons, Bool.and_eq_true] at hd2
   have hc : 48 ≤ c.toNat ∧ c.toNat ≤ 57 := by simpa [digB] using hd2.1
   have ih := digE_all D R f hd2.2 (by simpa using hf) h
   have hs := digE_shift [(c.toNat : Int)] (intS D ++ R) f 0
   rw [digE, aF_vis (by unfold visB; simp; omega), if_pos (by unfold digitI; simp; omega)]
   have e : intS (c :: D) ++ R = [(c.toNat : Int)] ++ (intS D ++ R) := rfl
   rw [e]
   rw [ih] at hs
   rw [show (0 : Nat) + 1 = [(c.toNat : Int)].length + 0 by rfl, hs]
   simp only [List.length_cons, List.length_nil]
   omega
theorem digF_all {D : List UInt8} {R : List Int} (h : D.all digB = true) (hR : digitI (aF R 0) = false) : digF (intS D ++ R) 0 = D.length := by
 unfold digF
 exact digE_all D R _ h (by rw [List.length_append, intS_len]; omega) hR
theorem digF_behind {A D : List UInt8} {R : List Int} (h : D.all digB = true) (hR : digitI (aF R 0) = false) : digF (intS A ++ (intS D ++ R)) A.length = A.length + D.length := by
 have h1 := digF_shift (intS A) (intS D ++ R) 0
 rw [Nat.add_zero, intS_len, digF_all h hR] at h1
 exact h1
/-- what may stand behind a number, or its unit -/
def stopC (x : Int) : Prop := x = 32 ∨ x = 41 ∨ x = 44 ∨ x = -1
theorem nameG_stop : ∀ (s R : List Int) (f : Nat), smallB s = true → s.length < f → stopC (aF R 0) → nameG (s ++ R) f 0 = (s, s.length)
 | [], R, f + 1, _, _, h => by
   rw [List.nil_append, nameG]
   have h1 : ¬ (aF R 0 ≠ -1 ∧ letterI (aF R 0) = true) := by
    rintro ⟨h1, h2⟩
    rcases h with e | e | e | e <;> rw [e] at h1 h2 <;> first | exact h1 rfl | exact absurd h2 (by decide)
   have h2 : escI (aF R 0) (aF R (0 + 1)) = false := by
    unfold escI
    rcases h with e | e | e | e <;> rw [e] <;> rfl
   rw [if_neg h1, h2]
   rfl
 | c :: s, R, f + 1, hs, hf, h => by
   simp only [smallB, List.all_cons, Bool.and_eq_true, decide_eq_true_eq] at hs
   have hc : isC c = true := by
    unfold isC
    simp
    omega
   have ih := nameG_stop s R f hs.2 (by simpa using hf) h
   have e := nameG_shift [c] (s ++ R) f 0
   have ha : aF (c :: (s ++ R)) 0 = c := aF_cons c _ hc
   rw [List.cons_append, nameG, ha, if_pos ⟨by omega, by unfold letterI firstI; simp; omega⟩]
   have e2 : nameG (c :: (s ++ R)) f (0 + 1) = (s, s.length + 1) := by
    have : nameG ([c] ++ (s ++ R)) f ([c].length + 0) = _ := e
    rw [ih] at this
    simp only [List.length_singleton, Nat.add_zero, List.singleton_append] at this
    rw [Nat.zero_add, this, Nat.add_comm]
   rw [e2]
   rfl
theorem nameF_stop {U : List UInt8} {R : List Int} (hU : smallB (intS U) = true) (hv : U.all visB = true) (h : stopC (aF R 0)) : nameF (intS U ++ R) 0 = (U, U.length) := by
 unfold nameF
 rw [nameG_stop (intS U) R _ hU (by rw [List.length_append]; omega) h, intS_len]
 simp only []
 rw [enc_vis hv]
theorem small_unit (u : Int) : smallB (intS (unitN u)) = true ∧ (unitN u).all visB = true ∧ (∀ c q, unitN u = c :: q → 97 ≤ c.toNat ∧ c.toNat ≤ 122 ∧ (c.toNat = 101 → ∃ q2, q = 109 :: q2)) := by
 unfold unitN
 split
 · have h : ∀ i, smallB (intS (unitsS.getD i [])) = true ∧ (unitsS.getD i []).all visB = true ∧ (∀ c q, unitsS.getD i [] = c :: q → 97 ≤ c.toNat ∧ c.toNat ≤ 122 ∧ (c.toNat = 101 → ∃ q2, q = 109 :: q2)) := fun i => by
    match i with
    | 0 | 1 | 2 | 3 | 4 | 5 | 6 =>
      refine ⟨rfl, rfl, fun c q e => ?_⟩
      simp only [unitsS, List.getD_cons_zero, List.getD_cons_succ, List.cons.injEq] at e
      obtain ⟨rfl, rfl⟩ := e
      first | exact ⟨by decide, by decide, fun h => absurd h (by decide)⟩ | exact ⟨by decide, by decide, fun _ => ⟨[], rfl⟩⟩
    | i + 7 => exact ⟨rfl, rfl, fun c q e => by simp [unitsS] at e⟩
   exact h _
 · exact ⟨rfl, rfl, fun c q e => by cases e⟩
/-- how a number is written -/
def NumT (t : List UInt8) : Prop := (∃ S A F, t = S ++ A ++ F ∧ (S = [] ∨ S = [45]) ∧ A ≠ [] ∧ A.all digB = true ∧ (F = [] ∨ ∃ B, F = 46 :: B ∧ B ≠ [] ∧ B.all digB = true)) ∨ t = farT
theorem stop_dig {x : Int} (h : stopC x) : digitI x = false ∧ x ≠ 46 ∧ x ≠ 101 ∧ x ≠ 69 := by
 rcases h with rfl | rfl | rfl | rfl <;> decide
/-- the first letter of a unit, or what stands behind the number -/
theorem unit_head (u : Int) (R : List Int) (h : stopC (aF R 0)) : digitI (aF (intS (unitN u) ++ R) 0) = false ∧ aF (intS (unitN u) ++ R) 0 ≠ 46 ∧ aF (intS (unitN u) ++ R) 0 ≠ 69 ∧ (aF (intS (unitN u) ++ R) 0 = 101 → aF (intS (unitN u) ++ R) 1 = 109) := by
 obtain ⟨h1, h2, h3⟩ := small_unit u
 cases hu : unitN u with
 | nil =>
   have := stop_dig h
   exact ⟨this.1, this.2.1, this.2.2.2, fun e => absurd e this.2.2.1⟩
 | cons c q =>
   obtain ⟨a, b, e⟩ := h3 c q hu
   rw [hu] at h2
   simp only [List.all_cons, Bool.and_eq_true] at h2
   rw [aF_vis h2.1]
   refine ⟨by unfold digitI; simp; omega, by omega, by omega, fun hc => ?_⟩
   obtain ⟨q2, rfl⟩ := e (by omega)
   have e1 : intS (c :: 109 :: q2) ++ R = (c.toNat : Int) :: ((109 : Int) :: (intS q2 ++ R)) := rfl
   rw [e1, show (1 : Nat) = 0 + 1 from rfl, aF_next]
   exact aF_cons _ _ rfl
theorem NumT.vis {t : List UInt8} (h : NumT t) : t.all visB = true := by
 rcases h with ⟨S, A, F, rfl, hS, _, hA, hF⟩ | rfl
 · rw [List.all_append, List.all_append, dig_vis hA]
   have h1 : S.all visB = true := by rcases hS with rfl | rfl <;> rfl
   have h2 : F.all visB = true := by
    rcases hF with rfl | ⟨B, rfl, _, hB⟩
    · rfl
    · rw [List.all_cons, dig_vis hB]; rfl
   rw [h1, h2]; rfl
 · rfl
theorem NumT.end {t : List UInt8} (h : NumT t) (u : Int) {R : List Int} (hR : stopC (aF R 0)) : figE (intS t ++ (intS (unitN u) ++ R)) 0 = t.length := by
 obtain ⟨x1, x2, x3, x4⟩ := unit_head u R hR
 obtain ⟨X, hX⟩ : ∃ X, intS (unitN u) ++ R = X := ⟨_, rfl⟩
 rw [hX] at x1 x2 x3 x4 ⊢
 have hfx : ∀ T : List UInt8, figX (intS T ++ X) T.length = T.length := fun T => by
  unfold figX
  have a0 := aF_behind T X 0
  have a1 := aF_behind T X 1
  rw [Nat.add_zero] at a0
  rw [a0, a1]
  by_cases h101 : aF X 0 = 101
  · rw [if_pos (Or.inl h101), x4 h101, if_neg (by decide), if_neg (by decide)]
  · rw [if_neg (fun e => e.elim h101 x3)]
 rcases h with ⟨S, A, F, rfl, hS, hA0, hA, hF⟩ | rfl
 · have e0 : intS (S ++ A ++ F) ++ X = intS S ++ (intS A ++ (intS F ++ X)) := by
    rw [intS_append, intS_append, List.append_assoc, List.append_assoc]
   have hfs : figS (intS S ++ (intS A ++ (intS F ++ X))) 0 = S.length := by
    unfold figS
    rcases hS with rfl | rfl
    · match A, hA0 with
      | c :: A, _ =>
        simp only [List.all_cons, Bool.and_eq_true] at hA
        have hc : 48 ≤ c.toNat ∧ c.toNat ≤ 57 := by simpa [digB] using hA.1
        have ha : aF (intS [] ++ (intS (c :: A) ++ (intS F ++ X))) 0 = (c.toNat : Int) := aF_vis (by unfold visB; simp; omega)
        rw [ha, if_neg (by omega)]
        rfl
    · have ha : aF (intS [45] ++ (intS A ++ (intS F ++ X))) 0 = ((45 : UInt8).toNat : Int) := aF_vis rfl
      rw [ha, if_pos (by decide : ((45 : UInt8).toNat : Int) = 43 ∨ ((45 : UInt8).toNat : Int) = 45)]
      rfl
   have hdf : digitI (aF (intS F ++ X) 0) = false := by
    rcases hF with rfl | ⟨B, rfl, _, _⟩
    · exact x1
    · rw [aF_vis rfl]; rfl
   have h1 := digF_behind (A := S) hA hdf
   have e1 : intS S ++ (intS A ++ (intS F ++ X)) = intS (S ++ A) ++ (intS F ++ X) := by rw [intS_append, List.append_assoc]
   have hlen : (S ++ A).length = S.length + A.length := List.length_append
   have hfp : figP (intS S ++ (intS A ++ (intS F ++ X))) (S.length + A.length) = (S ++ A ++ F).length := by
    unfold figP
    have b0 := aF_behind (S ++ A) (intS F ++ X) 0
    have b1 := aF_behind (S ++ A) (intS F ++ X) 1
    rw [Nat.add_zero, ← e1, hlen] at b0
    rw [← e1, hlen] at b1
    rw [b0, b1]
    rcases hF with rfl | ⟨B, rfl, hB0, hB⟩
    · have hx : aF (intS [] ++ X) 0 ≠ 46 := x2
      rw [if_neg (fun e => hx e.1), List.append_nil, hlen]
    · match B, hB0 with
      | c :: B, _ =>
        have hB2 := hB
        simp only [List.all_cons, Bool.and_eq_true] at hB2
        have hc : 48 ≤ c.toNat ∧ c.toNat ≤ 57 := by simpa [digB] using hB2.1
        have c0 : aF (intS (46 :: c :: B) ++ X) 0 = 46 := aF_vis (c := 46) rfl
        have c1 : aF (intS (46 :: c :: B) ++ X) 1 = (c.toNat : Int) := by
         show aF ((46 : Int) :: (intS (c :: B) ++ X)) (0 + 1) = _
         rw [aF_next]
         exact aF_vis (by unfold visB; simp; omega)
        rw [c0, c1, if_pos ⟨rfl, by unfold digitI; simp; omega⟩]
        have h2 := digF_behind (A := S ++ A ++ [46]) hB (R := X) x1
        have e2 : intS (S ++ A ++ [46]) ++ (intS (c :: B) ++ X) = intS S ++ (intS A ++ (intS (46 :: c :: B) ++ X)) := by
         simp only [intS_append, List.append_assoc]
         rfl
        rw [e2] at h2
        have e3 : (S ++ A ++ [46]).length = S.length + A.length + 1 := by simp [Nat.add_assoc]
        rw [e3] at h2
        rw [h2]
        simp only [List.length_append, List.length_cons]
        omega
   rw [e0]
   unfold figE
   rw [hfs, h1, hfp, ← e0]
   exact hfx _
 · have e0 : intS farT ++ X = intS [49] ++ (intS [101, 57, 57] ++ X) := rfl
   have h0 : figS (intS farT ++ X) 0 = 0 := rfl
   have h1 : digF (intS farT ++ X) 0 = 1 := by
    rw [e0]
    exact digF_all (D := [49]) rfl rfl
   have h2 : figP (intS farT ++ X) 1 = 1 := rfl
   have h3 : digF (intS farT ++ X) 2 = 4 := by
    have := digF_behind (A := [49, 101]) (D := [57, 57]) rfl x1
    exact this
   unfold figE
   rw [h0, h1, h2]
   unfold figX
   have a1 : aF (intS farT ++ X) 1 = 101 := rfl
   have a2 : aF (intS farT ++ X) (1 + 1) = 57 := rfl
   rw [a1, a2, if_pos (Or.inl rfl), if_neg (by decide), if_pos (show digitI 57 = true from rfl)]
   exact h3
theorem tokens_number {t : List UInt8} {r : Rt} {w : Bool} {u : Int} {R : List Int} (ht : NumT t) (hd : decimalF t = (r, w, true)) (hR : stopC (aF R 0)) :
 tokensF (intS (t ++ unitN u) ++ R) = ⟨if unitN u = [] then 10 else 12, unitN u, r, w, false⟩ :: tokensF R := by
 have he := ht.end u hR
 have hv := ht.vis
 obtain ⟨u1, u2, u3⟩ := small_unit u
 obtain ⟨U, hU⟩ : ∃ U, unitN u = U := ⟨_, rfl⟩
 rw [hU] at he u1 u2 u3 ⊢
 have e0 : intS (t ++ U) ++ R = intS t ++ (intS U ++ R) := by rw [intS_append, List.append_assoc]
 have a0 := aF_behind t (intS U ++ R) 0
 have a1 := aF_behind t (intS U ++ R) 1
 have a2 := aF_behind t (intS U ++ R) 2
 rw [Nat.add_zero] at a0
 have htk : ((intS t ++ (intS U ++ R)).drop 0).take (t.length - 0) = intS t := by
  rw [List.drop_zero, Nat.sub_zero, ← intS_len t, List.take_left]
 have hfig : figureF (intS t ++ (intS U ++ R)) 0 = (⟨if U = [] then 10 else 12, U, r, w, false⟩, (intS (t ++ U)).length) := by
  unfold figureF
  simp only [he, htk, enc_vis hv, hd, a0, a1, a2]
  have hl : (intS (t ++ U)).length = t.length + U.length := by rw [intS_len, List.length_append]
  cases hUc : U with
  | nil =>
    subst hUc
    have hb : beginsI (aF (intS [] ++ R) 0) (aF (intS [] ++ R) 1) (aF (intS [] ++ R) 2) = false := by
     show beginsI (aF R 0) (aF R 1) (aF R 2) = false
     rcases hR with e | e | e | e <;> rw [e] <;> rfl
    have h37 : aF (intS [] ++ R) 0 ≠ 37 := by
     show aF R 0 ≠ 37
     rcases hR with e | e | e | e <;> rw [e] <;> decide
    rw [hb, if_neg (by decide), if_neg h37, hl]
    rfl
  | cons c q =>
    have hc := u3 c q hUc
    subst hUc
    have hnm := nameF_stop u1 u2 hR
    have hns := nameF_shift (intS t) (intS (c :: q) ++ R) 0
    rw [Nat.add_zero, intS_len, hnm] at hns
    have hb : beginsI (aF (intS (c :: q) ++ R) 0) (aF (intS (c :: q) ++ R) 1) (aF (intS (c :: q) ++ R) 2) = true := by
     simp only [List.all_cons, Bool.and_eq_true] at u2
     rw [aF_vis u2.1]
     unfold beginsI
     rw [if_neg (by omega)]
     unfold firstI
     simp
     omega
    rw [hb, if_pos rfl, hns, hl]
    rfl
 obtain ⟨c, q, hcq, hc⟩ : ∃ c q, t = c :: q ∧ (48 ≤ c.toNat ∧ c.toNat ≤ 57 ∨ c.toNat = 45 ∧ ∃ c2 q2, q = c2 :: q2 ∧ 48 ≤ c2.toNat ∧ c2.toNat ≤ 57) := by
  rcases ht with ⟨S, A, F, rfl, hS, hA0, hA, hF⟩ | rfl
  · match A, hA0 with
    | c :: A, _ =>
      simp only [List.all_cons, Bool.and_eq_true] at hA
      have hc : 48 ≤ c.toNat ∧ c.toNat ≤ 57 := by simpa [digB] using hA.1
      rcases hS with rfl | rfl
      · exact ⟨c, A ++ F, rfl, Or.inl hc⟩
      · exact ⟨45, c :: (A ++ F), rfl, Or.inr ⟨rfl, c, A ++ F, rfl, hc⟩⟩
  · exact ⟨49, [101, 57, 57], rfl, Or.inl ⟨by decide, by decide⟩⟩
 have hvc : visB c = true := by
  rw [hcq] at hv
  simp only [List.all_cons, Bool.and_eq_true] at hv
  exact hv.1
 have hz : aF (intS t ++ (intS U ++ R)) 0 = (c.toNat : Int) := by
  rw [hcq]
  exact aF_vis hvc
 have hnum : numI (aF (intS t ++ (intS U ++ R)) 0) (aF (intS t ++ (intS U ++ R)) (0 + 1)) (aF (intS t ++ (intS U ++ R)) (0 + 2)) = true := by
  rw [hz]
  unfold numI
  rcases hc with hc | ⟨hc, c2, q2, hq, hc2⟩
  · rw [if_neg (by omega)]
    unfold digitI
    simp
    omega
  · rw [if_pos (Or.inr (by omega))]
    have h1 : aF (intS t ++ (intS U ++ R)) (0 + 1) = (c2.toNat : Int) := by
     rw [hcq, hq]
     show aF ((c.toNat : Int) :: (intS (c2 :: q2) ++ (intS U ++ R))) (0 + 1) = _
     rw [aF_next]
     exact aF_vis (by unfold visB; simp; omega)
    rw [h1]
    unfold digitI
    simp
    omega
 have hw : nextF (intS (t ++ U) ++ R) 0 = (⟨if U = [] then 10 else 12, U, r, w, false⟩, (intS (t ++ U)).length) := by
  rw [e0]
  unfold nextF
  have hsg : singleF (c.toNat : Int) = none := by
   unfold singleF
   repeat (first | rw [if_neg (by omega)] | rfl)
  have hbl : blankI (c.toNat : Int) = false := by unfold blankI; simp; omega
  rw [hnum, hz, hsg]
  simp only []
  rw [hbl, if_neg (by decide), if_neg (by omega), if_neg (by omega), if_pos trivial, hfig]
 refine tokens_piece (P := intS (t ++ U)) (R := R) ?_ (by rw [e0, hz]; omega) (rem_none (by rw [e0, hz]; omega)) hw
 rw [hcq]
 simp [intS]
def shutK (k : Int) : Bool := k == 20 || k == 22 || k == 24
mutual
def nest1 : Vt → Bool
 | .mk t k => decide (t.kind ≠ 0) && !shutK t.kind && (decide (closeF t.kind ≠ 0) || k.isEmpty) && nestV k
def nestV : List Vt → Bool
 | [] => true
 | v :: r => nest1 v && nestV r
end
theorem nestV_cons (t : Tk) (k r : List Vt) : nestV (.mk t k :: r) = (decide (t.kind ≠ 0) && !shutK t.kind && (decide (closeF t.kind ≠ 0) || k.isEmpty) && nestV k && nestV r) := by rw [nestV, nest1]
theorem nest_append : ∀ (a b : List Vt), nestV (a ++ b) = (nestV a && nestV b)
 | [], b => by simp [nestV]
 | v :: r, b => by
   rw [List.cons_append, nestV, nestV, nest_append r b]
   simp only [Bool.and_assoc]
theorem close_shut (k : Int) (h : closeF k ≠ 0) : shutK (closeF k) = true := by
 unfold closeF at h ⊢
 split
 · rfl
 · split
   · rfl
   · split
     · rfl
     · rename_i h1 h2 h3
       rw [if_neg h1, if_neg h2, if_neg h3] at h
       exact absurd rfl h
theorem fold_flat : ∀ (L : List Vt), nestV L = true → ∀ (t0 : Tk) (k0 : List Vt) (r : List (Tk × List Vt)), (flatV L).foldl stepV ((t0, k0) :: r) = (t0, k0 ++ L) :: r
 | [], _, t0, k0, r => by simp [flatV]
 | .mk t k :: l, h, t0, k0, r => by
   rw [nestV_cons] at h
   simp only [Bool.and_eq_true, Bool.or_eq_true, decide_eq_true_eq, Bool.not_eq_true'] at h
   obtain ⟨⟨⟨⟨h0, h1⟩, h2⟩, h3⟩, h4⟩ := h
   have hno : ¬ (r ≠ [] ∧ t.kind = closeF t0.kind) := fun e => by
    by_cases hz : closeF t0.kind = 0
    · rw [hz] at e
      exact h0 e.2
    · have := close_shut _ hz
      rw [← e.2, h1] at this
      cases this
   rw [flatV_cons, List.foldl_cons, List.foldl_append, List.foldl_append]
   by_cases hc : closeF t.kind = 0
   · have hk : k = [] := by
      rcases h2 with h2 | h2
      · exact absurd hc h2
      · exact List.isEmpty_iff.1 h2
     subst hk
     have hs : stepV ((t0, k0) :: r) t = (t0, k0 ++ [.mk t []]) :: r := by
      rw [stepV, if_neg hno, if_neg (by simpa using hc)]
     rw [hs, if_pos hc]
     simp only [flatV, List.foldl_nil]
     rw [fold_flat l h4 t0 _ r, List.append_assoc]
     rfl
   · have hs : stepV ((t0, k0) :: r) t = (t, []) :: (t0, k0) :: r := by
      rw [stepV, if_neg hno, if_pos hc]
     rw [hs, fold_flat k h3 t [] ((t0, k0) :: r), if_neg hc, List.nil_append]
     have hs2 : stepV ((t, k) :: (t0, k0) :: r) (closeTk t.kind) = (t0, k0 ++ [.mk t k]) :: r := by
      rw [stepV, if_pos ⟨by simp, rfl⟩]
      rfl
     rw [List.foldl_cons, List.foldl_nil, hs2, fold_flat l h4 t0 _ r, List.append_assoc]
     rfl
termination_by L => szV L
decreasing_by all_goals (simp only [szV_cons]; omega)
end Go.Proofs.YtplnhjmomomphaaGreatDoor
