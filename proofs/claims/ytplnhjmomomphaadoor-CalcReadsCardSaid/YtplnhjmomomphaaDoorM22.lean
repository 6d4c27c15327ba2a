/- Of my texts: CalcM, CalcN. -/
import Derived.Test.YtplnhjmomomphaaDoorM05
import Derived.Test.YtplnhjmomomphaaDoorM14
namespace Go.Proofs.YtplnhjmomomphaaDoor
set_option linter.unusedVariables false
set_option linter.unusedSimpArgs false

/-- an expression -/
inductive Et where
  | mk (k n d u : Int) (kids : List Et)

def calcS : List UInt8 := [99, 97, 108, 99]
def minS : List UInt8 := [109, 105, 110]
def maxS : List UInt8 := [109, 97, 120]
def clampS : List UInt8 := [99, 108, 97, 109, 112]
def plusS : List UInt8 := [43]
def minusS : List UInt8 := [45]
def starS : List UInt8 := [42]
def slashS : List UInt8 := [47]
def unitsS : List (List UInt8) := [[112, 120], [101, 109], [114, 101, 109], [118, 119], [118, 104], [99, 113, 119], [99, 113, 104]]
def unitG (x : List UInt8) : List (List UInt8) → Nat → Nat
  | [], _ => 0
  | n :: r, i => if x = n then i else unitG x r (i + 1)
def unitF (s : List UInt8) : Nat := unitG (lowS s) unitsS 1

def numE (r : Rt) (u : Int) : Et := .mk 1 (cleanR r).1 (cleanR r).2 u []
def kindS (x : List UInt8) : Int := if x = minS then 6 else if x = maxS then 7 else if x = clampS then 8 else 0

def spV : Vt → Bool
  | .mk t _ => t.kind == 13
def frontV (l : List Vt) : List Vt := l.dropWhile spV
def trimV (l : List Vt) : List Vt := ((frontV l).reverse.dropWhile spV).reverse
def commaV : Vt → Bool
  | .mk t _ => t.kind == 18
/-- the pieces between commas: what stands ahead, what is to come -/
def splitG (cur : List Vt) : List Vt → List (List Vt)
  | [] => [trimV cur]
  | x :: r => if commaV x then trimV cur :: splitG [] r else splitG (cur ++ [x]) r
def splitV (l : List Vt) : List (List Vt) := splitG [] l

def mapO {α β : Type} (f : α → Option β) : List α → Option (List β)
  | [] => some []
  | x :: r => match f x with
    | none => none
    | some y => (mapO f r).map (y :: ·)

/-- an expression of a token and what stands in it; whole: of all of some values -/
def exprF (whole : List Vt → Option Et) (t : Tk) (kids : List Vt) : Option Et :=
  if t.kind = 10 then some (numE t.num 0)
  else if t.kind = 12 then (if unitF t.text = 0 then none else some (numE t.num (unitF t.text)))
  else if t.kind = 2 then
    (if lowS t.text = calcS then whole kids
    else if kindS (lowS t.text) = 0 then none
    else match mapO whole (splitV kids) with
      | none => none
      | some es => if kindS (lowS t.text) = 8 ∧ es.length ≠ 3 then none else some (.mk (kindS (lowS t.text)) 0 0 0 es))
  else none

/-- an operand -/
def opF (W : (Vt → Option Et) → List Vt → Option Et) : Nat → Vt → Option Et
  | 0, _ => none
  | n + 1, .mk t kids => if t.kind = 21 then W (opF W n) kids else exprF (W (opF W n)) t kids
def exF (W : (Vt → Option Et) → List Vt → Option Et) : Nat → Vt → Option Et
  | 0, _ => none
  | n + 1, .mk t kids => exprF (W (opF W n)) t kids

def single (k : Int) : List Et → Et
  | [e] => e
  | l => .mk k 0 0 0 l

def blankP (l : List Vt) (i : Nat) : Nat := i + ((l.drop i).takeWhile spV).length
def signP (l : List Vt) (one other : List UInt8) (apart : Bool) (i : Nat) : List UInt8 × Nat :=
  match l[blankP l i]? with
  | none => ([], i)
  | some (.mk t _) => if t.kind = 9 ∧ (t.text = one ∨ t.text = other) ∧ (apart = false ∨ (i < blankP l i ∧ blankP l i + 1 < blankP l (blankP l i + 1))) then (t.text, blankP l (blankP l i + 1)) else ([], i)
def opAt (f : Vt → Option Et) (l : List Vt) (i : Nat) : Option Et := match l[i]? with
  | none => none
  | some v => f v
/-- what stands behind the first one -/
def restP (read : Nat → Option (Et × Nat)) (sign : Nat → List UInt8 × Nat) (turn : List UInt8) (k : Int) : Nat → Nat → Option (List Et × Nat)
  | 0, i => some ([], i)
  | n + 1, i => match sign i with
    | ([], _) => some ([], i)
    | (c :: s, j) => match read j with
      | none => none
      | some (e, j') => (restP read sign turn k n j').map fun r => ((if c :: s = turn then .mk k 0 0 0 [e] else e) :: r.1, r.2)
def prodP (f : Vt → Option Et) (l : List Vt) (i : Nat) : Option (Et × Nat) :=
  match opAt f l i with
  | none => none
  | some e => (restP (fun j => (opAt f l j).map fun e => (e, j + 1)) (signP l starS slashS false) slashS 5 (l.length + 1) (i + 1)).map fun r => (single 4 (e :: r.1), r.2)
def sumP (f : Vt → Option Et) (l : List Vt) (i : Nat) : Option (Et × Nat) :=
  match prodP f l i with
  | none => none
  | some (e, j) => (restP (prodP f l) (signP l plusS minusS true) minusS 3 (l.length + 1) j).map fun r => (single 2 (e :: r.1), r.2)
def wholeP (f : Vt → Option Et) (l : List Vt) : Option Et := match sumP f (trimV l) 0 with
  | none => none
  | some (e, j) => if j = (trimV l).length then some e else none

def signV (a b : List UInt8) : Vt → Bool
  | .mk t _ => t.kind == 9 && (t.text == a || t.text == b)
def textV : Vt → List UInt8
  | .mk t _ => t.text
/-- is it cut at a place? -/
def cutR (l : List Vt) (i : Nat) : Bool := match l[i]? with
  | none => false
  | some v => decide (0 < i) && decide (i + 1 < l.length) && signV plusS minusS v && (l[i - 1]?.map spV).getD false && (l[i + 1]?.map spV).getD false
def divR (l : List Vt) (i : Nat) : Bool := match l[i]? with
  | none => false
  | some v => signV starS slashS v
/-- pieces that are read, one behind the other -/
def cutG (read : List Vt → Option Et) (cut : Nat → Bool) (l : List Vt) (turn : List UInt8) (k : Int) : Nat → Nat → Nat → Bool → Option (List Et)
  | 0, _, _, _ => some []
  | n + 1, i, start, over =>
    if i < l.length ∧ cut i = false then cutG read cut l turn k n (i + 1) start over
    else match read ((l.take i).drop start) with
      | none => none
      | some e => (cutG read cut l turn k n (i + 1) (i + 1) ((l[i]?.map textV).getD [] == turn)).map ((if over then .mk k 0 0 0 [e] else e) :: ·)
def oneR (f : Vt → Option Et) (l : List Vt) : Option Et := match trimV l with
  | [v] => f v
  | _ => none
def prodR (f : Vt → Option Et) (l : List Vt) : Option Et := (cutG (oneR f) (divR l) l slashS 5 (l.length + 1) 0 0 false).map (single 4)
def sumR (f : Vt → Option Et) (l0 : List Vt) : Option Et := (cutG (prodR f) (cutR (trimV l0)) (trimV l0) minusS 3 ((trimV l0).length + 1) 0 0 false).map (single 2)

def parseF (W : (Vt → Option Et) → List Vt → Option Et) (h : Nat) (l : List Vt) : Option Et × Int :=
  if mayV 64 l = false then (none, 1) else match trimV l with
    | [v] => (match exF W h v with
      | none => (none, 3)
      | some e => (some e, 0))
    | _ => (none, 3)
def zeroEt : Et := .mk 0 0 0 0 []

end Go.Proofs.YtplnhjmomomphaaDoor

namespace Go.Proofs.YtplnhjmomomphaaDoor
set_option linter.unusedVariables false
set_option linter.unusedSimpArgs false

def headSp : List Vt → Bool
  | [] => false
  | u :: _ => spV u
def tE (over : Bool) (k : Int) (e : Et) : Et := if over then .mk k 0 0 0 [e] else e

/-- pieces that are read, by what is to come -/
def cutL (read : List Vt → Option Et) (cutp : Bool → Vt → List Vt → Bool) (turn : List UInt8) (k : Int) : Bool → List Vt → List Vt → Bool → Option (List Et)
  | _, cur, [], over => (read cur).map fun e => [tE over k e]
  | p, cur, v :: r, over => if cutp p v r = true then (match read cur with
      | none => none
      | some e => (cutL read cutp turn k (spV v) [] r (textV v == turn)).map (tE over k e :: ·)) else cutL read cutp turn k (spV v) (cur ++ [v]) r over

def prevSp (l : List Vt) (i : Nat) : Bool := if i = 0 then false else (l[i - 1]?.map spV).getD false
theorem prevSp_succ {l : List Vt} {i : Nat} {v : Vt} (h : l[i]? = some v) : prevSp l (i + 1) = spV v := by
  unfold prevSp
  rw [if_neg (by omega), Nat.add_sub_cancel, h]
  rfl

theorem cutG_cutL {read : List Vt → Option Et} {cut : Nat → Bool} {cutp : Bool → Vt → List Vt → Bool} {l : List Vt} {turn : List UInt8} {k : Int} (hcut : ∀ i v, l[i]? = some v → cut i = cutp (prevSp l i) v (l.drop (i + 1))) :
    ∀ (n i start : Nat) (over : Bool), n + i = l.length → start ≤ i → cutG read cut l turn k (n + 1) i start over = cutL read cutp turn k (prevSp l i) ((l.take i).drop start) (l.drop i) over
  | 0, i, start, over, hn, hs => by
    rw [cutG, if_neg (by omega), List.drop_eq_nil_of_le (show l.length ≤ i by omega), cutL]
    cases read ((l.take i).drop start) with
    | none => rfl
    | some e => simp [cutG, tE]
  | n + 1, i, start, over, hn, hs => by
    have hi : i < l.length := by omega
    have hli : l[i]? = some l[i] := List.getElem?_eq_getElem hi
    rw [cutG, List.drop_eq_getElem_cons hi, cutL, ← hcut i _ hli]
    cases hc : cut i with
    | false =>
      rw [if_pos ⟨hi, rfl⟩, if_neg (by simp), cutG_cutL hcut n (i + 1) start over (by omega) (by omega), prevSp_succ hli, List.take_succ_eq_append_getElem hi, List.drop_append_of_le_length (by rw [List.length_take]; omega)]
    | true =>
      rw [if_neg (by simp), if_pos rfl, cutG_cutL hcut n (i + 1) (i + 1) _ (by omega) (Nat.le_refl _), prevSp_succ hli, hli]
      have e : (l.take (i + 1)).drop (i + 1) = [] := List.drop_eq_nil_of_le (by rw [List.length_take]; omega)
      rw [e]
      rfl

def nbs (l : List Vt) : List Vt := l.filter fun x => !spV x
def oneN (f : Vt → Option Et) : List Vt → Option Et
  | [v] => f v
  | _ => none

theorem nbs_front : ∀ l : List Vt, nbs (l.dropWhile spV) = nbs l
  | [] => rfl
  | x :: r => by
    cases h : spV x with
    | true =>
      rw [List.dropWhile_cons_of_pos h, nbs_front r]
      unfold nbs
      rw [List.filter_cons_of_neg (by simp [h])]
    | false => rw [List.dropWhile_cons_of_neg (by simp [h])]
theorem nbs_reverse (l : List Vt) : nbs l.reverse = (nbs l).reverse := by unfold nbs; rw [List.filter_reverse]
theorem nbs_trim (l : List Vt) : nbs (trimV l) = nbs l := by
  unfold trimV frontV
  rw [nbs_reverse, nbs_front, nbs_reverse, List.reverse_reverse, nbs_front]
theorem drop_blanks : ∀ l : List Vt, nbs l = [] → l.dropWhile spV = []
  | [], _ => rfl
  | x :: r, h => by
    cases hx : spV x with
    | true =>
      rw [List.dropWhile_cons_of_pos hx]
      refine drop_blanks r ?_
      unfold nbs at h ⊢
      rwa [List.filter_cons_of_neg (by simp [hx])] at h
    | false =>
      unfold nbs at h
      rw [List.filter_cons_of_pos (by simp [hx])] at h
      cases h
theorem front_head : ∀ (l : List Vt) (x : Vt) (r : List Vt), l.dropWhile spV = x :: r → spV x = false
  | [], _, _, h => by cases h
  | y :: l, x, r, h => by
    cases hy : spV y with
    | true => rw [List.dropWhile_cons_of_pos hy] at h; exact front_head l x r h
    | false =>
      rw [List.dropWhile_cons_of_neg (by simp [hy])] at h
      cases h
      exact hy
theorem trim_one {l : List Vt} {v : Vt} (h : nbs l = [v]) : trimV l = [v] := by
  have h1 : nbs (frontV l) = [v] := (nbs_front l).trans h
  unfold trimV
  cases hf : frontV l with
  | nil => rw [hf] at h1; cases h1
  | cons x r =>
    have hx := front_head l x r hf
    rw [hf] at h1
    unfold nbs at h1
    rw [List.filter_cons_of_pos (by simp [hx]), List.cons.injEq] at h1
    obtain ⟨rfl, h2⟩ := h1
    have h3 : nbs r.reverse = [] := by rw [nbs_reverse]; unfold nbs; rw [h2]; rfl
    rw [List.reverse_cons, List.dropWhile_append, drop_blanks _ h3]
    simp [hx]
theorem oneR_nbs (f : Vt → Option Et) (l : List Vt) : oneR f l = oneN f (nbs l) := by
  have ht := nbs_trim l
  unfold oneR
  match h : trimV l with
  | [] => rw [h] at ht; rw [← ht]; rfl
  | [v] =>
    have hx : spV v = false := by
      unfold trimV at h
      have h2 : (frontV l).reverse.dropWhile spV = [v] := by rw [← List.reverse_reverse ((frontV l).reverse.dropWhile spV), h]; rfl
      exact front_head _ _ _ h2
    rw [h] at ht
    rw [← ht]
    simp [nbs, hx, oneN]
  | x :: y :: r =>
    simp only
    match hn : nbs l with
    | [] => rfl
    | [v] => rw [trim_one hn] at h; cases h
    | _ :: _ :: _ => rfl

/-- both levels at once: what stands ahead of a place: was it a blank; what the operand is made of; is it turned; the product's parts; is that turned -/
def FR (f : Vt → Option Et) : Bool → List Vt → Bool → List Et → Bool → List Vt → Option (List Et)
  | _, c, over, es, minus, [] => (oneN f c).map fun e => [tE minus 3 (single 4 (es ++ [tE over 5 e]))]
  | p, c, over, es, minus, v :: r =>
    if (signV plusS minusS v && p && headSp r) = true then (match oneN f c with
      | none => none
      | some e => (FR f (spV v) [] false [] (textV v == minusS) r).map (tE minus 3 (single 4 (es ++ [tE over 5 e])) :: ·))
    else if signV starS slashS v = true then (match oneN f c with
      | none => none
      | some e => FR f (spV v) [] (textV v == slashS) (es ++ [tE over 5 e]) minus r)
    else FR f (spV v) (if spV v then c else c ++ [v]) over es minus r

def divp (_ : Bool) (v : Vt) (_ : List Vt) : Bool := signV starS slashS v
def sump (p : Bool) (v : Vt) (r : List Vt) : Bool := signV plusS minusS v && p && headSp r

def stepI (f : Vt → Option Et) (st : Option (List Et × Bool × List Vt)) (v : Vt) : Option (List Et × Bool × List Vt) := match st with
  | none => none
  | some (es, over, cur) => if signV starS slashS v = true then (match oneR f cur with
      | none => none
      | some e => some (es ++ [tE over 5 e], textV v == slashS, [])) else some (es, over, cur ++ [v])
def finI (f : Vt → Option Et) (st : Option (List Et × Bool × List Vt)) : Option (List Et) := match st with
  | none => none
  | some (es, over, cur) => (oneR f cur).map fun e => es ++ [tE over 5 e]
theorem stepI_none (f : Vt → Option Et) : ∀ P : List Vt, P.foldl (stepI f) none = none
  | [] => rfl
  | v :: P => by rw [List.foldl_cons]; exact stepI_none f P
theorem cutL_inner (f : Vt → Option Et) : ∀ (P : List Vt) (p : Bool) (cur : List Vt) (over : Bool) (es0 : List Et),
    (cutL (oneR f) divp slashS 5 p cur P over).map (es0 ++ ·) = finI f (P.foldl (stepI f) (some (es0, over, cur)))
  | [], p, cur, over, es0 => by
    rw [cutL, List.foldl_nil, finI]
    cases oneR f cur <;> rfl
  | v :: r, p, cur, over, es0 => by
    rw [cutL, List.foldl_cons]
    unfold divp
    cases hd : signV starS slashS v with
    | true =>
      simp only [if_true, stepI, hd]
      cases ho : oneR f cur with
      | none => simp only [Option.map_none]; rw [stepI_none]; rfl
      | some e =>
        simp only
        rw [← cutL_inner f r (spV v) [] (textV v == slashS) (es0 ++ [tE over 5 e])]
        show ((cutL (oneR f) divp slashS 5 (spV v) [] r (textV v == slashS)).map _).map _ = _
        cases cutL (oneR f) divp slashS 5 (spV v) [] r (textV v == slashS) with
        | none => rfl
        | some x => simp
    | false =>
      simp only [stepI, hd, Bool.false_eq_true, if_false]
      rw [← cutL_inner f r (spV v) (cur ++ [v]) over es0]
      rfl
theorem divR_p (l : List Vt) (i : Nat) (v : Vt) (h : l[i]? = some v) : divR l i = divp (prevSp l i) v (l.drop (i + 1)) := by
  unfold divR divp
  rw [h]
theorem head_at (l : List Vt) (i : Nat) : headSp (l.drop i) = (l[i]?.map spV).getD false := by
  rcases Nat.lt_or_ge i l.length with h | h
  · rw [List.drop_eq_getElem_cons h, List.getElem?_eq_getElem h]; rfl
  · rw [List.drop_eq_nil_of_le h, List.getElem?_eq_none h]; rfl
theorem cutR_p (l : List Vt) (i : Nat) (v : Vt) (h : l[i]? = some v) : cutR l i = sump (prevSp l i) v (l.drop (i + 1)) := by
  unfold cutR sump prevSp
  rw [h, head_at]
  simp only
  rcases Nat.eq_zero_or_pos i with rfl | hp
  · simp
  · rw [if_neg (by omega)]
    have e : decide (0 < i) = true := by simpa using hp
    rw [e, Bool.true_and]
    rcases Nat.lt_or_ge (i + 1) l.length with h1 | h1
    · have e1 : decide (i + 1 < l.length) = true := by simpa using h1
      rw [e1, Bool.true_and]
    · have e1 : decide (i + 1 < l.length) = false := by simp; omega
      rw [e1, Bool.false_and, Bool.false_and, Bool.false_and, List.getElem?_eq_none h1]
      simp
theorem prodR_fold (f : Vt → Option Et) (P : List Vt) : prodR f P = (finI f (P.foldl (stepI f) (some ([], false, [])))).map (single 4) := by
  have h := cutG_cutL (read := oneR f) (turn := slashS) (k := 5) (fun i v hv => divR_p P i v hv) P.length 0 0 false rfl (Nat.le_refl _)
  unfold prodR
  rw [h, ← cutL_inner f P (prevSp P 0) _ false []]
  simp only [List.take_zero, List.drop_zero, List.nil_append, List.drop_nil]
  congr 1
  cases cutL (oneR f) divp slashS 5 (prevSp P 0) [] P false <;> rfl
theorem cutL_FR (f : Vt → Option Et) : ∀ (s : List Vt) (p : Bool) (P : List Vt) (mn : Bool), cutL (prodR f) sump minusS 3 p P s mn = match P.foldl (stepI f) (some ([], false, [])) with
    | none => none
    | some (es, over, cur) => FR f p (nbs cur) over es mn s
  | [], p, P, mn => by
    rw [cutL, prodR_fold]
    match P.foldl (stepI f) (some ([], false, [])) with
    | none => rfl
    | some (es, over, cur) =>
      simp only [finI, FR]
      rw [oneR_nbs]
      cases oneN f (nbs cur) <;> rfl
  | v :: r, p, P, mn => by
    rw [cutL, prodR_fold]
    have ih1 := cutL_FR f r (spV v) [] (textV v == minusS)
    have ih2 := cutL_FR f r (spV v) (P ++ [v]) mn
    rw [List.foldl_append] at ih2
    rw [ih2]
    rw [ih1]
    match P.foldl (stepI f) (some ([], false, [])) with
    | none =>
      simp only [finI, Option.map_none, List.foldl_cons, List.foldl_nil, stepI]
      split <;> rfl
    | some (es, over, cur) =>
      simp only [finI, List.foldl_cons, List.foldl_nil, stepI]
      rw [oneR_nbs]
      conv => rhs; rw [FR]
      unfold sump
      cases hs : (signV plusS minusS v && p && headSp r) with
      | true =>
        simp only [if_true]
        cases oneN f (nbs cur) <;> rfl
      | false =>
        simp only [Bool.false_eq_true, if_false]
        cases hd : signV starS slashS v with
        | true =>
          simp only [if_true]
          cases oneN f (nbs cur) <;> rfl
        | false =>
          simp only [Bool.false_eq_true, if_false]
          congr 1
          unfold nbs
          rw [List.filter_append]
          cases hx : spV v with
          | true => simp [hx]
          | false => simp [hx]
theorem sumR_FR (f : Vt → Option Et) (l0 : List Vt) : sumR f l0 = (FR f false [] false [] false (trimV l0)).map (single 2) := by
  have h := cutG_cutL (read := prodR f) (turn := minusS) (k := 3) (fun i v hv => cutR_p (trimV l0) i v hv) (trimV l0).length 0 0 false rfl (Nat.le_refl _)
  unfold sumR
  rw [h, cutL_FR]
  rfl

section
variable (f : Vt → Option Et)
theorem FR_dead : ∀ (s : List Vt) (p : Bool) (c : List Vt) (over : Bool) (es : List Et) (mn : Bool), (2 ≤ c.length ∨ ∃ v, c = [v] ∧ f v = none) → FR f p c over es mn s = none
  | [], p, c, over, es, mn, h => by
    have : oneN f c = none := by
      rcases h with h | ⟨v, rfl, hv⟩
      · match c, h with
        | _ :: _ :: _, _ => rfl
      · exact hv
    rw [FR, this]; rfl
  | v :: r, p, c, over, es, mn, h => by
    have h1 : oneN f c = none := by
      rcases h with h | ⟨v, rfl, hv⟩
      · match c, h with
        | _ :: _ :: _, _ => rfl
      · exact hv
    rw [FR, h1]
    split
    · rfl
    · split
      · rfl
      · refine FR_dead r _ _ _ _ _ ?_
        split
        · exact h
        · refine Or.inl ?_
          rw [List.length_append]
          rcases h with h | ⟨v, rfl, _⟩
          · simp; omega
          · simp
theorem sign_blank {a b : List UInt8} {v : Vt} (h : spV v = true) : signV a b v = false := by
  obtain ⟨t, k⟩ := v
  have : t.kind = 13 := by simpa [spV] using h
  simp [signV, this]
theorem FR_blanks (c : List Vt) (over : Bool) (es : List Et) (mn : Bool) : ∀ (s : List Vt) (p : Bool), FR f p c over es mn s = FR f (if headSp s then true else p) c over es mn (s.dropWhile spV)
  | [], p => rfl
  | v :: r, p => by
    cases hv : spV v with
    | true =>
      rw [FR, sign_blank hv, sign_blank hv, if_neg (by simp), if_neg (by simp), hv, if_pos rfl, FR_blanks c over es mn r true, List.dropWhile_cons_of_pos hv]
      have e : headSp (v :: r) = true := hv
      rw [e]
      cases headSp r <;> rfl
    | false =>
      rw [List.dropWhile_cons_of_neg (by simp [hv])]
      have e : headSp (v :: r) = false := hv
      rw [e]
      rfl

variable (m : List Vt)
theorem drop_blank (i : Nat) : m.drop (blankP m i) = (m.drop i).dropWhile spV := by
  unfold blankP
  rw [← List.drop_drop]
  generalize m.drop i = s
  induction s with
  | nil => rfl
  | cons v r ih =>
    cases hv : spV v with
    | true => rw [List.takeWhile_cons_of_pos hv, List.dropWhile_cons_of_pos hv, List.length_cons, List.drop_succ_cons]; exact ih
    | false => rw [List.takeWhile_cons_of_neg (by simp [hv]), List.dropWhile_cons_of_neg (by simp [hv])]; rfl
theorem blank_le (i : Nat) : i ≤ blankP m i := Nat.le_add_right _ _
theorem blank_len {i : Nat} (h : i ≤ m.length) : blankP m i ≤ m.length := by
  unfold blankP
  have : ((m.drop i).takeWhile spV).length ≤ (m.drop i).length := (List.takeWhile_prefix spV).length_le
  rw [List.length_drop] at this
  omega
theorem blank_far (i : Nat) : (i < blankP m i) ↔ headSp (m.drop i) = true := by
  unfold blankP
  cases hs : m.drop i with
  | nil => simp [headSp]
  | cons v r =>
    cases hv : spV v with
    | true => rw [List.takeWhile_cons_of_pos hv]; simp [headSp, hv]
    | false => rw [List.takeWhile_cons_of_neg (by simp [hv])]; simp [headSp, hv]
theorem blank_stop (i : Nat) : headSp (m.drop (blankP m i)) = false := by
  rw [drop_blank]
  cases h : (m.drop i).dropWhile spV with
  | nil => rfl
  | cons x r => exact front_head _ _ _ h

def finP (r : Option (List Et × Nat)) : Option (List Et) := match r with
  | none => none
  | some (es, j) => if j = m.length then some es else none
def contP (mn : Bool) (N : Nat) (r : Option (List Et × Nat)) : Option (List Et) := match r with
  | none => none
  | some (es, j) => finP m ((restP (prodP f m) (signP m plusS minusS true) minusS 3 N j).map fun r => (tE mn 3 (single 4 es) :: r.1, r.2))
def restD (n i : Nat) : Option (List Et × Nat) := restP (fun j => (opAt f m j).map fun e => (e, j + 1)) (signP m starS slashS false) slashS 5 n i
def contA (mn over : Bool) (es : List Et) (n N i : Nat) : Option (List Et) := match opAt f m i with
  | none => none
  | some e => contP f m mn N ((restD f m n (i + 1)).map fun r => (es ++ tE over 5 e :: r.1, r.2))

theorem finP_map (E : Et) (r : Option (List Et × Nat)) : finP m (r.map fun r => (E :: r.1, r.2)) = (finP m r).map (E :: ·) := by
  match r with
  | none => rfl
  | some (es, j) =>
    simp only [Option.map_some, finP]
    split <;> rfl
theorem eq_tE (s : List UInt8) (turn : List UInt8) (k : Int) (e : Et) : (if s = turn then Et.mk k 0 0 0 [e] else e) = tE (s == turn) k e := by
  unfold tE
  by_cases h : s = turn
  · rw [if_pos h, if_pos (by simpa using h)]
  · rw [if_neg h, if_neg (by simpa using h)]

variable (hf : ∀ t k, (t.kind = 9 ∨ t.kind = 13) → f (.mk t k) = none) (hend : ∀ i, i < m.length → blankP m i < m.length)
include hf hend

theorem both_same : ∀ (d i : Nat), m.length - i ≤ d → i ≤ m.length →
    (headSp (m.drop i) = false → ∀ (p over mn : Bool) (es : List Et) (n N : Nat), m.length ≤ n + i → m.length ≤ N + i → contA f m mn over es n N i = FR f p [] over es mn (m.drop i)) ∧
    (∀ (v : Vt) (e : Et) (over mn : Bool) (es : List Et) (n N : Nat), spV v = false → f v = some e → m.length < n + i → m.length < N + i →
      contP f m mn N ((restD f m n i).map fun r => (es ++ tE over 5 e :: r.1, r.2)) = FR f false [v] over es mn (m.drop i)) := by
  intro d
  induction d using Nat.strongRecOn with
  | _ d ih =>
    intro i hd hi
    have hB : ∀ (v : Vt) (e : Et) (over mn : Bool) (es : List Et) (n N : Nat), spV v = false → f v = some e → m.length < n + i → m.length < N + i →
        contP f m mn N ((restD f m n i).map fun r => (es ++ tE over 5 e :: r.1, r.2)) = FR f false [v] over es mn (m.drop i) := by
      intro v e over mn es n N hv he hn hN
      obtain ⟨n, rfl⟩ : ∃ n', n = n' + 1 := ⟨n - 1, by omega⟩
      obtain ⟨N, rfl⟩ : ∃ N', N = N' + 1 := ⟨N - 1, by omega⟩
      have hbl := blank_le m i
      have hbm := blank_len m hi
      rw [FR_blanks, ← drop_blank]
      obtain ⟨b, hb⟩ : ∃ b, blankP m i = b := ⟨_, rfl⟩
      have hstop := blank_stop m i
      have hfar := blank_far m i
      rw [hb] at hbl hbm hstop hfar ⊢
      cases hu : m[b]? with
      | none =>
        have hbe : m.length ≤ b := List.getElem?_eq_none_iff.1 hu
        have him : i = m.length := by
          rcases Nat.lt_or_ge i m.length with h | h
          · have := hend i h; omega
          · omega
        have s1 : signP m starS slashS false i = ([], i) := by unfold signP; rw [hb, hu]
        have s2 : signP m plusS minusS true i = ([], i) := by unfold signP; rw [hb, hu]
        rw [List.drop_eq_nil_of_le hbe, FR, oneN, he]
        unfold restD
        rw [restP, s1]
        simp only [Option.map_some, contP]
        rw [restP, s2]
        simp only [Option.map_some, finP, him, if_true]
      | some u =>
        obtain ⟨t, kk⟩ := u
        obtain ⟨hbl2, hbe⟩ := List.getElem?_eq_some_iff.1 hu
        have hdr : m.drop b = .mk t kk :: m.drop (b + 1) := by rw [List.drop_eq_getElem_cons hbl2, hbe]
        have hsu : spV (.mk t kk) = false := by rw [hdr] at hstop; exact hstop
        have hk13 : t.kind ≠ 13 := by simpa [spV] using hsu
        have hni : ¬ i = m.length := by omega
        rw [hdr]
        obtain ⟨j, hj⟩ : ∃ j, blankP m (b + 1) = j := ⟨_, rfl⟩
        have hjl := blank_le m (b + 1)
        have hjm := blank_len m (show b + 1 ≤ m.length by omega)
        have hjs := blank_stop m (b + 1)
        have hjf := blank_far m (b + 1)
        have hjd := drop_blank m (b + 1)
        rw [hj] at hjl hjm hjs hjf hjd
        have ihA := (ih (m.length - j) (by omega) j (Nat.le_refl _) hjm).1 hjs
        by_cases hdiv : t.kind = 9 ∧ (t.text = starS ∨ t.text = slashS)
        · have s1 : signP m starS slashS false i = (t.text, j) := by
            unfold signP
            rw [hb, hu]
            simp only [hj]
            rw [if_pos ⟨hdiv.1, hdiv.2, Or.inl trivial⟩]
          have g1 : signV plusS minusS (.mk t kk) = false := by
            simp only [signV]
            rcases hdiv.2 with h | h <;> rw [h] <;> simp [plusS, minusS, starS, slashS]
          have g2 : signV starS slashS (.mk t kk) = true := by
            simp only [signV]
            rcases hdiv.2 with h | h <;> rw [h, hdiv.1] <;> simp [starS, slashS]
          rw [FR, g1, g2, if_neg (by simp), if_pos rfl, oneN, he]
          simp only
          rw [FR_blanks, ← hjd, show textV (.mk t kk) = t.text from rfl, ← ihA (if headSp (m.drop (b + 1)) then true else spV (.mk t kk)) (t.text == slashS) mn (es ++ [tE over 5 e]) n (N + 1) (by omega) (by omega)]
          unfold restD contA
          obtain ⟨c, s, hcs⟩ : ∃ c s, t.text = c :: s := by
            rcases hdiv.2 with h | h
            · exact ⟨42, [], h⟩
            · exact ⟨47, [], h⟩
          rw [restP, s1, hcs]
          simp only
          rw [← hcs]
          cases opAt f m j with
          | none => rfl
          | some e2 =>
            simp only [Option.map_some, eq_tE, Option.map_map, restD]
            congr 2
            funext r
            simp
        · have s1 : signP m starS slashS false i = ([], i) := by
            unfold signP
            rw [hb, hu]
            simp only
            rw [if_neg (fun h => hdiv ⟨h.1, h.2.1⟩)]
          have g2 : signV starS slashS (.mk t kk) = false := by
            simp only [signV]
            cases hk : (t.kind == 9) with
            | false => rfl
            | true =>
              have := fun h => hdiv ⟨by simpa using hk, h⟩
              simp only [Bool.true_and]
              simpa using this
          unfold restD
          rw [restP, s1]
          simp only [Option.map_some, contP]
          by_cases hsum : t.kind = 9 ∧ (t.text = plusS ∨ t.text = minusS) ∧ (i < b ∧ b + 1 < j)
          · have s2 : signP m plusS minusS true i = (t.text, j) := by
              unfold signP
              rw [hb, hu]
              simp only [hj]
              rw [if_pos ⟨hsum.1, hsum.2.1, Or.inr hsum.2.2⟩]
            have g1 : signV plusS minusS (.mk t kk) = true := by
              simp only [signV]
              rcases hsum.2.1 with h | h <;> rw [h, hsum.1] <;> simp [plusS, minusS]
            rw [FR, g1, hfar.1 hsum.2.2.1, hjf.1 hsum.2.2.2]
            simp only [if_true, Bool.and_self]
            rw [oneN, he]
            simp only
            rw [FR_blanks, ← hjd, hjf.1 hsum.2.2.2, show textV (.mk t kk) = t.text from rfl, ← ihA (if true = true then true else spV (.mk t kk)) false (t.text == minusS) [] (m.length + 1) N (by omega) (by omega)]
            unfold contA
            obtain ⟨c, s, hcs⟩ : ∃ c s, t.text = c :: s := by
              rcases hsum.2.1 with h | h
              · exact ⟨43, [], h⟩
              · exact ⟨45, [], h⟩
            rw [restP, s2, hcs]
            simp only
            rw [← hcs, finP_map]
            congr 1
            unfold prodP
            cases opAt f m j with
            | none => rfl
            | some e2 =>
              simp only [restD]
              cases restP (fun j => (opAt f m j).map fun e => (e, j + 1)) (signP m starS slashS false) slashS 5 (m.length + 1) (j + 1) with
              | none => rfl
              | some r =>
                obtain ⟨es2, j2⟩ := r
                simp only [Option.map_some, contP, eq_tE, List.nil_append]
                rfl
          · have s2 : signP m plusS minusS true i = ([], i) := by
              unfold signP
              rw [hb, hu]
              simp only [hj]
              rw [if_neg (fun h => hsum ⟨h.1, h.2.1, h.2.2.resolve_left (by simp)⟩)]
            rw [restP, s2]
            simp only [Option.map_some, finP, hni, if_false]
            rw [FR, g2]
            have g1 : (signV plusS minusS (.mk t kk) && (if headSp (m.drop i) then true else false) && headSp (m.drop (b + 1))) = false := by
              apply Bool.eq_false_iff.2
              intro h
              simp only [Bool.and_eq_true, signV, beq_iff_eq, Bool.or_eq_true] at h
              obtain ⟨⟨⟨h1, h2⟩, h3⟩, h4⟩ := h
              refine hsum ⟨h1, h2, hfar.2 ?_, hjf.2 h4⟩
              cases hh : headSp (m.drop i) with
              | true => rfl
              | false => rw [hh] at h3; cases h3
            rw [g1, if_neg (by simp), if_neg (by simp), hsu, if_neg (by simp)]
            exact (FR_dead f _ _ _ _ _ _ (Or.inl (by simp))).symm
    refine ⟨fun hsp p over mn es n N hn hN => ?_, hB⟩
    unfold contA opAt
    cases hv : m[i]? with
    | none =>
      rw [List.drop_eq_nil_of_le (List.getElem?_eq_none_iff.1 hv)]
      rfl
    | some v =>
      obtain ⟨hil, hie⟩ := List.getElem?_eq_some_iff.1 hv
      have hdr : m.drop i = v :: m.drop (i + 1) := by rw [List.drop_eq_getElem_cons hil, hie]
      rw [hdr] at hsp ⊢
      have hsv : spV v = false := hsp
      simp only
      cases he : f v with
      | none =>
        simp only
        rw [FR]
        split
        · rfl
        · split
          · rfl
          · rw [hsv, if_neg (by simp)]
            exact (FR_dead f _ _ _ _ _ _ (Or.inr ⟨v, rfl, he⟩)).symm
      | some e =>
        have hk9 : ∀ a b, signV a b v = false := fun a b => by
          obtain ⟨t, kk⟩ := v
          simp only [signV]
          cases hk : (t.kind == 9) with
          | false => rfl
          | true => rw [hf t kk (Or.inl (by simpa using hk))] at he; cases he
        rw [FR, hk9, hk9, if_neg (by simp), if_neg (by simp), hsv, if_neg (by simp)]
        exact (ih (m.length - (i + 1)) (by omega) (i + 1) (Nat.le_refl _) (by omega)).2 v e over mn es n N hsv he (by omega) (by omega)
end

theorem all_blank : ∀ l : List Vt, l.dropWhile spV = [] → ∀ x ∈ l, spV x = true
  | [], _, x, hx => by cases hx
  | y :: l, h, x, hx => by
    cases hy : spV y with
    | true =>
      rw [List.dropWhile_cons_of_pos hy] at h
      rcases List.mem_cons.1 hx with rfl | hx
      · exact hy
      · exact all_blank l h x hx
    | false => rw [List.dropWhile_cons_of_neg (by simp [hy])] at h; cases h
theorem trimV_end (l : List Vt) : ∀ i, i < (trimV l).length → blankP (trimV l) i < (trimV l).length := by
  intro i hi
  obtain ⟨m, hm⟩ : ∃ m, trimV l = m := ⟨_, rfl⟩
  have hm2 : m.reverse = (frontV l).reverse.dropWhile spV := by rw [← hm]; unfold trimV; rw [List.reverse_reverse]
  rw [hm] at hi ⊢
  have h1 := blank_len m (Nat.le_of_lt hi)
  rcases Nat.lt_or_ge (blankP m i) m.length with h | h
  · exact h
  · exfalso
    have hd := drop_blank m i
    rw [List.drop_eq_nil_of_le h] at hd
    have hall : ∀ x ∈ m.drop i, spV x = true := all_blank _ hd.symm
    cases hr : m.reverse with
    | nil => have := congrArg List.length hr; simp at this; rw [this] at hi; cases hi
    | cons x r =>
      have hx := front_head _ _ _ (hm2.symm.trans hr)
      have hmem : x ∈ m.drop i := by
        have e : m = r.reverse ++ [x] := by rw [← List.reverse_reverse m, hr, List.reverse_cons]
        have hl : r.length + 1 = m.length := by rw [e]; simp
        rw [e, List.drop_append_of_le_length (by simp; omega)]
        simp
      rw [hall x hmem] at hx
      cases hx
theorem trimV_head (l : List Vt) : headSp (trimV l) = false := by
  cases h : trimV l with
  | nil => rfl
  | cons x r =>
    have h1 : (frontV l).reverse.dropWhile spV = (x :: r).reverse := by rw [← h]; unfold trimV; rw [List.reverse_reverse]
    have h2 : ∃ c, frontV l = (x :: r) ++ c := by
      have := List.takeWhile_append_dropWhile (p := spV) (l := (frontV l).reverse)
      rw [h1] at this
      refine ⟨((frontV l).reverse.takeWhile spV).reverse, ?_⟩
      have e2 := congrArg List.reverse this
      rw [List.reverse_append, List.reverse_reverse, List.reverse_reverse] at e2
      exact e2.symm
    obtain ⟨c, hc⟩ := h2
    exact front_head l x (r ++ c) hc

theorem whole_same (f : Vt → Option Et) (hf : ∀ t k, (t.kind = 9 ∨ t.kind = 13) → f (.mk t k) = none) (l : List Vt) : wholeP f l = sumR f l := by
  have h := (both_same f (trimV l) hf (trimV_end l) (trimV l).length 0 (by omega) (Nat.zero_le _)).1 (by rw [List.drop_zero]; exact trimV_head l) false false false [] ((trimV l).length + 1) ((trimV l).length + 1) (by omega) (by omega)
  rw [List.drop_zero] at h
  rw [sumR_FR, ← h]
  have hp : prodP f (trimV l) 0 = match opAt f (trimV l) 0 with
    | none => none
    | some e => (restD f (trimV l) ((trimV l).length + 1) 1).map fun r => (single 4 (e :: r.1), r.2) := rfl
  unfold wholeP sumP contA
  rw [hp]
  cases opAt f (trimV l) 0 with
  | none => rfl
  | some e =>
    simp only [List.nil_append, Nat.zero_add]
    cases restD f (trimV l) ((trimV l).length + 1) 1 with
    | none => rfl
    | some r =>
      obtain ⟨es2, j2⟩ := r
      simp only [Option.map_some, contP]
      cases restP (prodP f (trimV l)) (signP (trimV l) plusS minusS true) minusS 3 ((trimV l).length + 1) j2 with
      | none => rfl
      | some r =>
        obtain ⟨es3, j3⟩ := r
        simp only [Option.map_some, finP]
        split <;> rfl

theorem op_none (W : (Vt → Option Et) → List Vt → Option Et) : ∀ (n : Nat) (t : Tk) (k : List Vt), (t.kind = 9 ∨ t.kind = 13) → opF W n (.mk t k) = none
  | 0, _, _, _ => rfl
  | n + 1, t, k, h => by
    rw [opF, if_neg (by omega)]
    unfold exprF
    rw [if_neg (by omega), if_neg (by omega), if_neg (by omega)]
theorem op_same : ∀ n : Nat, opF wholeP n = opF sumR n
  | 0 => rfl
  | n + 1 => by
    funext v
    obtain ⟨t, k⟩ := v
    have hw : wholeP (opF wholeP n) = sumR (opF sumR n) := by
      funext l
      rw [whole_same _ (op_none _ n) l, op_same n]
    rw [opF, opF, hw]
theorem ex_same (n : Nat) : exF wholeP n = exF sumR n := by
  cases n with
  | zero => rfl
  | succ n =>
    funext v
    obtain ⟨t, k⟩ := v
    have hw : wholeP (opF wholeP n) = sumR (opF sumR n) := by
      funext l
      rw [whole_same _ (op_none _ n) l, op_same n]
    rw [exF, exF, hw]
theorem parse_both (h : Nat) (l : List Vt) : parseF wholeP h l = parseF sumR h l := by
  unfold parseF
  rw [ex_same]

end Go.Proofs.YtplnhjmomomphaaDoor
