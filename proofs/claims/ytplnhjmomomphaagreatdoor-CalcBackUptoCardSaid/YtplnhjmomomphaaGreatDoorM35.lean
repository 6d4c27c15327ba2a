/- Of my texts: BackP, BackQ, BackS. -/
import Derived.Test.YtplnhjmomomphaaGreatDoorM22
import Derived.Test.YtplnhjmomomphaaGreatDoorM34
namespace Go.Proofs.YtplnhjmomomphaaGreatDoor
set_option linter.unusedVariables false
set_option linter.unusedSimpArgs false
mutual
/-- how deep -/
def dep1 : Vt → Nat
 | .mk _ k => depV k + 1
def depV : List Vt → Nat
 | [] => 0
 | v :: r => max (dep1 v) (depV r)
end
theorem dep1_mk (t : Tk) (k : List Vt) : dep1 (.mk t k) = depV k + 1 := by rw [dep1]
theorem depV_cons (v : Vt) (r : List Vt) : depV (v :: r) = max (dep1 v) (depV r) := by rw [depV]
theorem depV_append : ∀ a b : List Vt, depV (a ++ b) = max (depV a) (depV b)
 | [], b => by simp [depV]
 | v :: r, b => by
   rw [List.cons_append, depV_cons, depV_cons, depV_append r b]
   omega
/-- no comma at the top, no blank at the ends -/
def Cl (l : List Vt) : Prop := (∀ v ∈ l, commaV v = false) ∧ (∃ v q, l = v :: q ∧ spV v = false) ∧ (∃ v q, l = q ++ [v] ∧ spV v = false)
theorem Cl.trim {l : List Vt} (h : Cl l) : trimV l = l := by
 obtain ⟨_, ⟨v, q, h1, h2⟩, ⟨v', q', h3, h4⟩⟩ := h
 unfold trimV frontV
 have e1 : l.dropWhile spV = l := by rw [h1, List.dropWhile_cons, h2]; rfl
 rw [e1]
 have e2 : l.reverse.dropWhile spV = l.reverse := by rw [h3, List.reverse_append, List.reverse_singleton, List.singleton_append, List.dropWhile_cons, h4]; rfl
 rw [e2, List.reverse_reverse]
theorem Cl.join {a b : List Vt} (h1 : Cl a) (h2 : Cl b) {m : List Vt} (hm : ∀ v ∈ m, commaV v = false) : Cl (a ++ (m ++ b)) := by
 obtain ⟨a1, ⟨v, q, a2, a3⟩, _⟩ := h1
 obtain ⟨b1, _, ⟨v', q', b2, b3⟩⟩ := h2
 refine ⟨fun x hx => ?_, ⟨v, q ++ (m ++ b), by rw [a2]; rfl, a3⟩, ⟨v', a ++ (m ++ q'), by rw [b2]; simp, b3⟩⟩
 rcases List.mem_append.1 hx with hx | hx
 · exact a1 x hx
 · rcases List.mem_append.1 hx with hx | hx
   · exact hm x hx
   · exact b1 x hx
theorem Cl.one {v : Vt} (h1 : commaV v = false) (h2 : spV v = false) : Cl [v] := ⟨fun x hx => by rw [List.mem_singleton.1 hx]; exact h1, ⟨v, [], rfl, h2⟩, ⟨v, [], rfl, h2⟩⟩
/-- an operand's value -/
theorem oper_one (S : Et → List Vt) (e : Et) : ∃ v, operV S e = [v] ∧ commaV v = false ∧ spV v = false := by
 obtain ⟨k, n, d, u, l⟩ := e
 rw [operV]
 by_cases h1 : k = 1
 · rw [if_pos h1]
   refine ⟨_, rfl, ?_, ?_⟩
   · show (_ == (18 : Int)) = false
     split <;> rfl
   · show (_ == (13 : Int)) = false
     split <;> rfl
 · rw [if_neg h1]
   split
   · exact ⟨_, rfl, rfl, rfl⟩
   · split
     · exact ⟨_, rfl, rfl, rfl⟩
     · split
       · exact ⟨_, rfl, rfl, rfl⟩
       · exact ⟨_, rfl, rfl, rfl⟩
theorem oper_cl (S : Et → List Vt) (e : Et) : Cl (operV S e) := by
 obtain ⟨v, hv, h1, h2⟩ := oper_one S e
 rw [hv]
 exact Cl.one h1 h2
theorem pvals_cl {O : Et → List Vt} {t : Int} {a b : UInt8} : ∀ (r : List Et) (i : Nat) (A : List Vt), (∀ x ∈ r, (x.kind = t → Cl (O (kid0 x))) ∧ (x.kind ≠ t → Cl (O x))) → Cl A → Cl (A ++ pvals O t a b (i + 1) r)
 | [], _, A, _, h => by
   rw [pvals, List.append_nil]
   exact h
 | x :: r, i, A, hO, h => by
   have hm : ∀ c : UInt8, ∀ v ∈ [spX, opX c, spX], commaV v = false := fun c v hv => by
    simp only [List.mem_cons, List.not_mem_nil, or_false] at hv
    rcases hv with rfl | rfl | rfl <;> rfl
   have hx := hO x List.mem_cons_self
   have hp : Cl (A ++ pvalG O t a b (i + 1) x) := by
    unfold pvalG
    rw [if_neg (Nat.succ_ne_zero i)]
    split
    · rename_i hk
      exact h.join (hx.1 hk) (hm b)
    · rename_i hk
      exact h.join (hx.2 hk) (hm a)
   rw [pvals, ← List.append_assoc]
   exact pvals_cl r (i + 1) _ (fun y hy => hO y (List.mem_cons_of_mem _ hy)) hp
theorem pvals_head {O : Et → List Vt} {t : Int} {a b : UInt8} {x : Et} {r : List Et} (h0 : Cl (O x)) (hO : ∀ x ∈ r, (x.kind = t → Cl (O (kid0 x))) ∧ (x.kind ≠ t → Cl (O x))) : Cl (pvals O t a b 0 (x :: r)) := by
 rw [pvals, pvalG, if_pos rfl]
 exact pvals_cl r 0 _ hO h0
theorem blank_at {L A B : List Vt} (h : L = A ++ B) : blankP L A.length = A.length + (B.takeWhile spV).length := by
 unfold blankP
 rw [h, List.drop_left]
theorem take_none {B : List Vt} (h : ∀ v r, B = v :: r → spV v = false) : B.takeWhile spV = [] := by
 match B, h with
 | [], _ => rfl
 | v :: r, h => rw [List.takeWhile_cons, h v r rfl]; rfl
theorem sp_op (c : UInt8) : spV (opX c) = false := rfl
theorem sign_yes {L A B : List Vt} {one other : List UInt8} {apart : Bool} {c : UInt8} (h : L = A ++ spX :: opX c :: spX :: B) (hB : ∀ v r, B = v :: r → spV v = false) (hc : [c] = one ∨ [c] = other) : signP L one other apart A.length = ([c], A.length + 3) := by
 have b1 : blankP L A.length = A.length + 1 := by
  rw [blank_at h, List.takeWhile_cons, if_pos (show spV spX = true from rfl), List.takeWhile_cons, sp_op, if_neg (by decide)]
  rfl
 have b2 : blankP L (A.length + 2) = A.length + 3 := by
  have h2 : L = (A ++ [spX, opX c]) ++ spX :: B := by rw [h]; simp
  have := blank_at h2
  rw [List.takeWhile_cons, if_pos (show spV spX = true from rfl), take_none hB, List.length_append] at this
  exact this
 have hat : L[A.length + 1]? = some (opX c) := by
  rw [h, List.getElem?_append_right (by omega), show A.length + 1 - A.length = 1 by omega]
  rfl
 unfold signP
 rw [b1, hat]
 simp only [opX, tok0]
 rw [if_pos ⟨trivial, hc, Or.inr ⟨by omega, by rw [show A.length + 1 + 1 = A.length + 2 by omega, b2]; omega⟩⟩, show A.length + 1 + 1 = A.length + 2 by omega, b2]
theorem sign_no {L A B : List Vt} {one other : List UInt8} {apart : Bool} (h : L = A ++ B) (hB : B = [] ∨ ∃ c B', B = spX :: opX c :: B' ∧ [c] ≠ one ∧ [c] ≠ other) : signP L one other apart A.length = ([], A.length) := by
 rcases hB with rfl | ⟨c, B', rfl, h1, h2⟩
 · have b1 := blank_at h
   rw [List.takeWhile_nil, List.length_nil, Nat.add_zero] at b1
   unfold signP
   rw [b1, h, List.append_nil, List.getElem?_eq_none (Nat.le_refl _)]
 · have b1 : blankP L A.length = A.length + 1 := by
    rw [blank_at h, List.takeWhile_cons, if_pos (show spV spX = true from rfl), List.takeWhile_cons, sp_op, if_neg (by decide)]
    rfl
   have hat : L[A.length + 1]? = some (opX c) := by
    rw [h, List.getElem?_append_right (by omega), show A.length + 1 - A.length = 1 by omega]
    rfl
   unfold signP
   rw [b1, hat]
   simp only [opX, tok0]
   rw [if_neg (fun e => e.2.1.elim h1 h2)]
theorem rest_pieces {L B0 : List Vt} {V : Et → List Vt} {t : Int} {a b : UInt8} {read : Nat → Option (Et × Nat)} {apart : Bool} {tail : List Vt → Prop} {good : Et → Prop} (hab : a ≠ b) (hV : ∀ x, good x → Cl (V x))
 (ht0 : tail B0) (ht1 : ∀ c B', (c = a ∨ c = b) → tail (spX :: opX c :: B')) (hend : B0 = [] ∨ ∃ c B', B0 = spX :: opX c :: B' ∧ c ≠ a ∧ c ≠ b)
 (hread : ∀ x, good x → ∀ A B, L = A ++ (V x ++ B) → tail B → read A.length = some (x, A.length + (V x).length)) :
 ∀ (r : List Et) (i : Nat) (A : List Vt) (n : Nat), (∀ x ∈ r, (x.kind = t → x = .mk t 0 0 0 [kid0 x] ∧ good (kid0 x)) ∧ (x.kind ≠ t → good x)) → L = A ++ (pvals V t a b (i + 1) r ++ B0) → r.length < n →
  restP read (signP L [a] [b] apart) [b] t n A.length = some (r, A.length + (pvals V t a b (i + 1) r).length)
 | [], i, A, n + 1, _, hL, _ => by
   rw [pvals, List.nil_append] at hL
   have hs := sign_no (one := [a]) (other := [b]) (apart := apart) hL (hend.imp id fun ⟨c, B', h1, h2, h3⟩ => ⟨c, B', h1, by simpa using h2, by simpa using h3⟩)
   rw [restP, hs]
   simp [pvals]
 | x :: r, i, A, n + 1, hx, hL, hn => by
   have hxx := hx x List.mem_cons_self
   have htail : tail (pvals V t a b (i + 1 + 1) r ++ B0) := by
    match r with
    | [] => rw [pvals, List.nil_append]; exact ht0
    | y :: r =>
      rw [pvals, pvalG, if_neg (Nat.succ_ne_zero _)]
      split
      · simp only [List.cons_append, List.nil_append]
        exact ht1 b _ (Or.inr rfl)
      · simp only [List.cons_append, List.nil_append]
        exact ht1 a _ (Or.inl rfl)
   have main : ∀ (c : UInt8) (y : Et), (c = a ∨ c = b) → good y → pvalG V t a b (i + 1) x = [spX, opX c, spX] ++ V y → (if [c] = [b] then Et.mk t 0 0 0 [y] else y) = x →
    restP read (signP L [a] [b] apart) [b] t (n + 1) A.length = some (x :: r, A.length + (pvals V t a b (i + 1) (x :: r)).length) := by
    intro c y hc hy hp hres
    have hL2 : L = A ++ spX :: opX c :: spX :: (V y ++ (pvals V t a b (i + 1 + 1) r ++ B0)) := by
     rw [hL, pvals, hp]
     simp only [List.append_assoc, List.cons_append, List.nil_append]
    have hnb : ∀ v q, V y ++ (pvals V t a b (i + 1 + 1) r ++ B0) = v :: q → spV v = false := by
     intro v q e
     obtain ⟨_, ⟨v0, q0, h1, h2⟩, _⟩ := hV y hy
     rw [h1, List.cons_append] at e
     obtain ⟨rfl, _⟩ := List.cons.inj e
     exact h2
    have hs := sign_yes (one := [a]) (other := [b]) (apart := apart) hL2 hnb (by simpa using hc)
    have hL3 : L = (A ++ [spX, opX c, spX]) ++ (V y ++ (pvals V t a b (i + 1 + 1) r ++ B0)) := by rw [hL2]; simp
    have hr := hread y hy _ _ hL3 htail
    have hl3 : (A ++ [spX, opX c, spX]).length = A.length + 3 := by simp
    rw [hl3] at hr
    have hL4 : L = (A ++ pvalG V t a b (i + 1) x) ++ (pvals V t a b (i + 1 + 1) r ++ B0) := by rw [hL3, hp]; simp
    have ih := rest_pieces (apart := apart) hab hV ht0 ht1 hend hread r (i + 1) (A ++ pvalG V t a b (i + 1) x) n (fun z hz => hx z (List.mem_cons_of_mem _ hz)) hL4 (by simpa using hn)
    have hl4 : (A ++ pvalG V t a b (i + 1) x).length = A.length + 3 + (V y).length := by
     rw [hp]
     simp only [List.length_append, List.length_cons, List.length_nil]
     omega
    rw [hl4] at ih
    rw [restP, hs]
    simp only [hr, ih, Option.map_some, hres]
    rw [pvals, hp]
    simp only [List.length_append, List.length_cons, List.length_nil]
    congr 2
    omega
   by_cases hk : x.kind = t
   · obtain ⟨h1, h2⟩ := hxx.1 hk
     refine main b (kid0 x) (Or.inr rfl) h2 ?_ ?_
     · rw [pvalG, if_neg (Nat.succ_ne_zero _), if_pos hk]
     · rw [if_pos rfl]
       exact h1.symm
   · refine main a x (Or.inl rfl) (hxx.2 hk) ?_ ?_
     · rw [pvalG, if_neg (Nat.succ_ne_zero _), if_neg hk]
     · rw [if_neg (by simpa using hab)]
theorem pvals_count {V : Et → List Vt} {t : Int} {a b : UInt8} : ∀ (r : List Et) (i : Nat), r.length ≤ (pvals V t a b (i + 1) r).length
 | [], _ => Nat.le_refl _
 | x :: r, i => by
   have := pvals_count (V := V) (t := t) (a := a) (b := b) r (i + 1)
   rw [pvals, pvalG, if_neg (Nat.succ_ne_zero _), List.length_append, List.length_cons]
   split <;> simp only [List.length_append, List.length_cons, List.length_nil] <;> omega
def tailS (B : List Vt) : Prop := B = [] ∨ ∃ c B', B = spX :: opX c :: B' ∧ (c = 43 ∨ c = 45)
/-- how it must be to be read again -/
def goodO (f : Vt → Option Et) (S : Et → List Vt) (x : Et) : Prop := ∃ v, operV S x = [v] ∧ f v = some x
def goodP (f : Vt → Option Et) (S : Et → List Vt) (e : Et) : Prop :=
 (e.kind = 4 → ∃ x0 r, e = .mk 4 0 0 0 (x0 :: r) ∧ r ≠ [] ∧ goodO f S x0 ∧ ∀ x ∈ r, (x.kind = 5 → x = .mk 5 0 0 0 [kid0 x] ∧ goodO f S (kid0 x)) ∧ (x.kind ≠ 5 → goodO f S x)) ∧ (e.kind ≠ 4 → goodO f S e)
theorem prod_reads {f : Vt → Option Et} {S : Et → List Vt} {L : List Vt} {e : Et} (hg : goodP f S e) : ∀ A B, L = A ++ (prodV S e ++ B) → tailS B → prodP f L A.length = some (e, A.length + (prodV S e).length) := by
 intro A B hL hB
 have hat : ∀ (A' : List Vt) (v : Vt) (B' : List Vt), L = A' ++ (v :: B') → opAt f L A'.length = f v := fun A' v B' h => by
  unfold opAt
  rw [h, List.getElem?_append_right (Nat.le_refl _), Nat.sub_self]
  rfl
 have hread : ∀ x, goodO f S x → ∀ A' B', L = A' ++ (operV S x ++ B') → True → (fun j => (opAt f L j).map fun e => (e, j + 1)) A'.length = some (x, A'.length + (operV S x).length) := by
  rintro x ⟨v, hv, hf⟩ A' B' h _
  rw [hv] at h ⊢
  show (opAt f L A'.length).map _ = _
  rw [hat A' v B' h, hf]
  rfl
 have hend : B = [] ∨ ∃ c B', B = spX :: opX c :: B' ∧ c ≠ 42 ∧ c ≠ 47 := hB.imp id fun ⟨c, B', h1, h2⟩ => ⟨c, B', h1, by rcases h2 with rfl | rfl <;> decide, by rcases h2 with rfl | rfl <;> decide⟩
 have hrest := rest_pieces (L := L) (B0 := B) (V := operV S) (t := 5) (a := 42) (b := 47) (read := fun j => (opAt f L j).map fun e => (e, j + 1)) (apart := false) (tail := fun _ => True) (good := goodO f S) (by decide) (fun x _ => oper_cl S x) trivial (fun _ _ _ => trivial) hend hread
 by_cases hk : e.kind = 4
 · obtain ⟨x0, r, rfl, hr, ⟨v0, hv0, hf0⟩, hrs⟩ := hg.1 hk
   have hP : prodV S (.mk 4 0 0 0 (x0 :: r)) = v0 :: pvals (operV S) 5 42 47 1 r := by
    rw [prodV, if_pos hk]
    show pvals (operV S) 5 42 47 0 (x0 :: r) = _
    rw [pvals, pvalG, if_pos rfl, hv0]
    rfl
   rw [hP] at hL ⊢
   have h1 := hat A v0 _ hL
   have hL2 : L = (A ++ [v0]) ++ (pvals (operV S) 5 42 47 (0 + 1) r ++ B) := by rw [hL]; simp
   have hcnt : r.length ≤ (pvals (operV S) 5 42 47 1 r).length := pvals_count r 0
   have hle : r.length < L.length + 1 := by
    have := congrArg List.length hL2
    simp only [List.length_append, Nat.zero_add] at this
    omega
   have h2 := hrest r 0 (A ++ [v0]) (L.length + 1) hrs hL2 hle
   have hl : (A ++ [v0]).length = A.length + 1 := by simp
   rw [hl] at h2
   unfold prodP
   rw [h1, hf0]
   simp only []
   show Option.map _ (restP _ (signP L [42] [47] false) [47] 5 (L.length + 1) (A.length + 1)) = _
   rw [h2]
   have hs : single 4 (x0 :: r) = .mk 4 0 0 0 (x0 :: r) := by
    match r, hr with
    | y :: r, _ => rfl
   simp only [Option.map_some, hs, List.length_cons, Nat.zero_add]
   congr 2
   omega
 · obtain ⟨v, hv, hf⟩ := hg.2 hk
   have hP : prodV S e = [v] := by rw [prodV, if_neg hk, hv]
   rw [hP] at hL ⊢
   have h1 := hat A v _ hL
   have hL2 : L = (A ++ [v]) ++ (pvals (operV S) 5 42 47 (0 + 1) [] ++ B) := by rw [hL]; simp [pvals]
   have h2 := hrest [] 0 (A ++ [v]) (L.length + 1) (fun _ h => by cases h) hL2 (by simp)
   have hl : (A ++ [v]).length = A.length + 1 := by simp
   rw [hl] at h2
   unfold prodP
   rw [h1, hf]
   simp only []
   show Option.map _ (restP _ (signP L [42] [47] false) [47] 5 (L.length + 1) (A.length + 1)) = _
   rw [h2]
   simp [single, pvals]
theorem prod_cl {S : Et → List Vt} {f : Vt → Option Et} {e : Et} (hg : goodP f S e) : Cl (prodV S e) := by
 by_cases hk : e.kind = 4
 · obtain ⟨x0, r, rfl, _⟩ := hg.1 hk
   rw [prodV, if_pos hk]
   exact pvals_head (oper_cl S x0) (fun x _ => ⟨fun _ => oper_cl S _, fun _ => oper_cl S _⟩)
 · rw [prodV, if_neg hk]
   exact oper_cl S e
/-- all of a sum -/
theorem whole_reads {f : Vt → Option Et} {S : Et → List Vt} {e : Et} (L : List Vt)
 (h2 : e.kind = 2 → ∃ x0 r, e = .mk 2 0 0 0 (x0 :: r) ∧ r ≠ [] ∧ L = pvals (prodV S) 3 43 45 0 (x0 :: r) ∧ goodP f S x0 ∧ ∀ x ∈ r, (x.kind = 3 → x = .mk 3 0 0 0 [kid0 x] ∧ goodP f S (kid0 x)) ∧ (x.kind ≠ 3 → goodP f S x))
 (h1 : e.kind ≠ 2 → L = prodV S e ∧ goodP f S e) : Cl L ∧ wholeP f L = some e := by
 have hread : ∀ x, goodP f S x → ∀ A B, L = A ++ (prodV S x ++ B) → tailS B → prodP f L A.length = some (x, A.length + (prodV S x).length) := fun x hx A B h hB => prod_reads hx A B h hB
 have hrest := rest_pieces (L := L) (B0 := []) (V := prodV S) (t := 3) (a := 43) (b := 45) (read := prodP f L) (apart := true) (tail := tailS) (good := goodP f S) (by decide) (fun x hx => prod_cl hx) (Or.inl rfl) (fun c B' hc => Or.inr ⟨c, B', rfl, hc⟩) (Or.inl rfl) hread
 have hc : Cl L := by
  by_cases hk : e.kind = 2
  · obtain ⟨x0, r, _, _, hL, hg0, hgr⟩ := h2 hk
    rw [hL]
    exact pvals_head (prod_cl hg0) (fun x hx => ⟨fun hk => prod_cl ((hgr x hx).1 hk).2, fun hk => prod_cl ((hgr x hx).2 hk)⟩)
  · rw [(h1 hk).1]
    exact prod_cl (h1 hk).2
 refine ⟨hc, ?_⟩
 unfold wholeP
 rw [hc.trim]
 by_cases hk : e.kind = 2
 · obtain ⟨x0, r, rfl, hr, hL, hg0, hgr⟩ := h2 hk
   have hL1 : L = prodV S x0 ++ (pvals (prodV S) 3 43 45 1 r) := by rw [hL, pvals, pvalG, if_pos rfl]
   have ht : tailS (pvals (prodV S) 3 43 45 1 r) := by
    match r, hr with
    | y :: r, _ =>
      rw [pvals, pvalG, if_neg (by decide)]
      split
      · simp only [List.cons_append, List.nil_append]
        exact Or.inr ⟨45, _, rfl, Or.inr rfl⟩
      · simp only [List.cons_append, List.nil_append]
        exact Or.inr ⟨43, _, rfl, Or.inl rfl⟩
   have hp := hread x0 hg0 [] _ hL1 ht
   rw [List.length_nil, Nat.zero_add] at hp
   have hL2 : L = prodV S x0 ++ (pvals (prodV S) 3 43 45 (0 + 1) r ++ []) := by rw [List.append_nil]; exact hL1
   have hcnt : r.length ≤ (pvals (prodV S) 3 43 45 1 r).length := pvals_count r 0
   have h3 := hrest r 0 (prodV S x0) (L.length + 1) hgr hL2 (by
    rw [hL1, List.length_append]
    omega)
   have hlen : L.length = (prodV S x0).length + (pvals (prodV S) 3 43 45 (0 + 1) r).length := by rw [hL1, List.length_append]
   have hs : single 2 (x0 :: r) = .mk 2 0 0 0 (x0 :: r) := by
    match r, hr with
    | y :: r, _ => rfl
   unfold sumP
   rw [hp]
   simp only []
   show (match (Option.map (fun r => (single 2 (x0 :: r.1), r.2)) (restP (prodP f L) (signP L [43] [45] true) [45] 3 (L.length + 1) (prodV S x0).length) : Option (Et × Nat)) with
    | none => none
    | some (e, j) => if j = L.length then some e else none) = _
   rw [h3]
   simp only [Option.map_some, hs]
   rw [if_pos hlen.symm]
 · obtain ⟨hL, hg⟩ := h1 hk
   have hp := hread e hg [] [] (by rw [List.append_nil]; exact hL) (Or.inl rfl)
   rw [List.length_nil, Nat.zero_add] at hp
   have h3 := hrest [] 0 (prodV S e) (L.length + 1) (fun _ h => by cases h) (by rw [pvals, List.append_nil]; simpa using hL) (by simp)
   unfold sumP
   rw [hp]
   simp only []
   show (match (Option.map (fun r => (single 2 (e :: r.1), r.2)) (restP (prodP f L) (signP L [43] [45] true) [45] 3 (L.length + 1) (prodV S e).length) : Option (Et × Nat)) with
    | none => none
    | some (e, j) => if j = L.length then some e else none) = _
   rw [h3]
   simp only [Option.map_some, single, pvals, List.length_nil, Nat.add_zero]
   rw [if_pos (by rw [← hL])]
theorem split_run : ∀ (m cur rest : List Vt), (∀ v ∈ m, commaV v = false) → splitG cur (m ++ rest) = splitG (cur ++ m) rest
 | [], cur, rest, _ => by simp
 | v :: m, cur, rest, h => by
   rw [List.cons_append, splitG, if_neg (by rw [h v List.mem_cons_self]; decide), split_run m _ rest (fun x hx => h x (List.mem_cons_of_mem _ hx))]
   simp
theorem trim_blank {l : List Vt} (h : Cl l) : trimV (spX :: l) = l := by
 have := h.trim
 unfold trimV frontV at this ⊢
 rw [List.dropWhile_cons, if_pos (show spV spX = true from rfl)]
 exact this
theorem split_more {S : Et → List Vt} : ∀ (r : List Et) (i : Nat) (cur : List Vt), (∀ x ∈ r, Cl (S x)) → splitG cur (cvals S (i + 1) r) = trimV cur :: r.map S
 | [], _, _, _ => rfl
 | x :: r, i, cur, h => by
   have hx := h x List.mem_cons_self
   have e : cvals S (i + 1) (x :: r) = comX :: ((spX :: S x) ++ cvals S (i + 1 + 1) r) := by
    rw [cvals, if_neg (Nat.succ_ne_zero i)]
    simp
   rw [e, splitG, if_pos (show commaV comX = true from rfl), split_run (spX :: S x) [] _ (fun v hv => by
    rcases List.mem_cons.1 hv with rfl | hv
    · rfl
    · exact hx.1 v hv), split_more r (i + 1) _ (fun y hy => h y (List.mem_cons_of_mem _ hy)), List.nil_append, trim_blank hx]
   rfl
theorem split_cvals {S : Et → List Vt} {l : List Et} (h0 : l ≠ []) (h : ∀ x ∈ l, Cl (S x)) : splitV (cvals S 0 l) = l.map S := by
 match l, h0 with
 | x :: r, _ =>
   have hx := h x List.mem_cons_self
   unfold splitV
   rw [cvals, if_pos rfl, split_run (S x) [] _ hx.1, List.nil_append, split_more r 0 _ (fun y hy => h y (List.mem_cons_of_mem _ hy)), hx.trim]
   rfl
theorem mapO_all {f : List Vt → Option Et} {S : Et → List Vt} : ∀ (l : List Et), (∀ x ∈ l, f (S x) = some x) → mapO f (l.map S) = some l
 | [], _ => rfl
 | x :: r, h => by
   rw [List.map_cons, mapO, h x List.mem_cons_self, mapO_all r (fun y hy => h y (List.mem_cons_of_mem _ hy))]
   rfl
theorem depV_cvals {S : Et → List Vt} {x : Et} : ∀ {l : List Et} (i : Nat), x ∈ l → depV (S x) ≤ depV (cvals S i l)
 | y :: r, i, h => by
   rw [cvals, depV_append]
   rcases List.mem_cons.1 h with rfl | h
   · split
     · omega
     · rw [depV_append]
       omega
   · have := depV_cvals (S := S) (i + 1) h
     omega
theorem depV_same {O : Et → List Vt} {t : Int} {a b : UInt8} {x : Et} (hk : x.kind ≠ t) : ∀ {l : List Et} (i : Nat), x ∈ l → depV (O x) ≤ depV (pvals O t a b i l)
 | y :: r, i, h => by
   rw [pvals, depV_append]
   rcases List.mem_cons.1 h with rfl | h
   · have : depV (O x) ≤ depV (pvalG O t a b i x) := by
      unfold pvalG
      split
      · omega
      · first
         | rw [if_neg hk, depV_append]
         | rw [depV_append]
        omega
     omega
   · have := depV_same (O := O) (a := a) (b := b) hk (i + 1) h
     omega
theorem depV_turn {O : Et → List Vt} {t : Int} {a b : UInt8} {x : Et} (hk : x.kind = t) : ∀ {l : List Et} (i : Nat), x ∈ l → depV (O (kid0 x)) ≤ depV (pvals O t a b (i + 1) l)
 | y :: r, i, h => by
   rw [pvals, depV_append]
   rcases List.mem_cons.1 h with rfl | h
   · have : depV (O (kid0 x)) ≤ depV (pvalG O t a b (i + 1) x) := by
      unfold pvalG
      rw [if_neg (Nat.succ_ne_zero i), if_pos hk, depV_append]
      omega
     omega
   · have := depV_turn (O := O) (a := a) (b := b) hk (i + 1) h
     omega
theorem depV_first {O : Et → List Vt} {t : Int} {a b : UInt8} {x : Et} {r : List Et} : depV (O x) ≤ depV (pvals O t a b 0 (x :: r)) ∧ depV (pvals O t a b 1 r) ≤ depV (pvals O t a b 0 (x :: r)) := by
 rw [pvals, depV_append, pvalG, if_pos rfl]
 simp only [Nat.zero_add]
 omega
theorem mayT_zero {f : Nat} {k n d u : Int} {l : List Et} (h : mayT f (.mk k n d u l) = true) (hk : k ≠ 1) : n = 0 ∧ d = 0 ∧ u = 0 := by
 cases f with
 | zero => cases h
 | succ f =>
   rw [mayT, if_neg hk] at h
   simp only [Bool.and_eq_true, decide_eq_true_eq] at h
   exact ⟨h.1.1.1.1, h.1.1.1.2, h.1.1.2⟩
theorem unitN_nil {u : Int} (h0 : 0 ≤ u) (h7 : u ≤ 7) : unitN u = [] ↔ u = 0 := by
 have h : u = 0 ∨ u = 1 ∨ u = 2 ∨ u = 3 ∨ u = 4 ∨ u = 5 ∨ u = 6 ∨ u = 7 := by omega
 rcases h with rfl | rfl | rfl | rfl | rfl | rfl | rfl | rfl <;> decide
theorem opF_other {W : (Vt → Option Et) → List Vt → Option Et} {n : Nat} {t : Tk} {k : List Vt} (h : t.kind ≠ 21) : opF W (n + 1) (.mk t k) = exprF (W (opF W n)) t k := by rw [opF, if_neg h]
theorem turned_form {h : Nat} {x : Et} (hw : Wk h x) {t : Int} (ht : t = 3 ∨ t = 5) (hk : x.kind = t) : x = .mk t 0 0 0 [kid0 x] := by
 obtain ⟨k, n, d, u, l⟩ := x
 have hk' : k = t := hk
 subst hk'
 obtain ⟨_, f, hm⟩ := id hw
 obtain ⟨rfl, rfl, rfl⟩ := mayT_zero hm (by omega)
 cases h with
 | zero => cases hw.1
 | succ h =>
   obtain ⟨y, rfl, _⟩ := hw.turned ht
   rfl
theorem oper_back {h : Nat} (ih : ∀ e, Wr h e → Cl (sumV h e) ∧ ∀ N, depV (sumV h e) ≤ N → wholeP (opF wholeP N) (sumV h e) = some e) {e : Et} (hw : Wr (h + 1) e) (h24 : e.kind = 2 ∨ e.kind = 4 → Wr h e) {N : Nat} (hN : depV (operV (sumV h) e) ≤ N) : goodO (opF wholeP N) (sumV h) e := by
 obtain ⟨k, n, d, u, l⟩ := e
 rw [kind_mk] at h24
 have hk := hw.kinds
 have hwk : Wk (h + 1) (.mk k n d u l) := ⟨hw.1, hw.2.1⟩
 obtain ⟨_, f, hm⟩ := id hwk
 obtain ⟨v, hv, _, _⟩ := oper_one (sumV h) (.mk k n d u l)
 have hN2 := hN
 rw [hv, depV_cons] at hN2
 refine ⟨v, hv, ?_⟩
 obtain ⟨t, ks⟩ := v
 rw [dep1_mk] at hN2
 obtain ⟨N, rfl⟩ : ∃ m, N = m + 1 := ⟨N - 1, by omega⟩
 have hks : depV ks ≤ N := by omega
 have hne : k = 6 ∨ k = 7 ∨ k = 8 → l ≠ [] := fun hk e => by
  obtain ⟨g, _, hg⟩ := mayT_parts hm
  have := (hg (by omega)).1
  subst e
  rcases hk with rfl | rfl | rfl <;> simp [arity] at this
 have fun3 : k = 6 ∨ k = 7 ∨ k = 8 → ks = cvals (sumV h) 0 l → mapO (wholeP (opF wholeP N)) (splitV ks) = some l := fun hk e => by
  subst e
  have each : ∀ x ∈ l, Wr h x := fun x hx => by
   obtain ⟨j, hj⟩ := List.mem_iff_getElem?.1 hx
   exact hwk.same (by omega) hj (fun _ => by omega) (fun _ => by omega)
  rw [split_cvals (hne hk) (fun x hx => (ih x (each x hx)).1)]
  exact mapO_all l fun x hx => (ih x (each x hx)).2 N (Nat.le_trans (depV_cvals 0 hx) hks)
 rcases hk with rfl | hk | hk | rfl | rfl | rfl
 · obtain ⟨hl, hu0, hu7, _⟩ := hwk.num
   obtain ⟨g, hg, _⟩ := mayT_parts hm
   obtain ⟨_, hmb, _, _⟩ := hg rfl
   subst hl
   have hV : operV (sumV h) (.mk 1 n d u []) = [numX n d u] := by simp [operV]
   rw [hV] at hv
   obtain ⟨rfl, rfl⟩ : (⟨if unitN u = [] then 10 else 12, unitN u, (n, d), d == 1, false⟩ : Tk) = t ∧ [] = ks := by simpa [numX] using hv
   have hcl : ∀ w, numE (n, d) w = .mk 1 n d w [] := fun w => by
    unfold numE cleanR
    rw [if_pos hmb]
   by_cases hu : unitN u = []
   · have hz := (unitN_nil hu0 hu7).1 hu
     subst hz
     rw [opF_other (by show (if unitN 0 = [] then (10 : Int) else 12) ≠ 21; decide)]
     show exprF _ ⟨10, [], (n, d), _, _⟩ [] = _
     rw [exprF, if_pos rfl]
     exact congrArg some (hcl 0)
   · have h1 : 1 ≤ u := by
      have : u ≠ 0 := fun e => hu ((unitN_nil hu0 hu7).2 e)
      omega
     have hub := unit_back u h1 hu7
     rw [if_neg hu, opF_other (by show (12 : Int) ≠ 21; decide), exprF, if_neg (by show ¬ ((12 : Int) = 10); decide), if_pos rfl, if_neg (by show ¬ (unitF (unitN u) = 0); omega)]
     show some (numE (n, d) (unitF (unitN u))) = _
     rw [hub, hcl]
 · have hV : operV (sumV h) (.mk k n d u l) = [.mk (tok0 21 []) (sumV h (.mk k n d u l))] := by
    rw [operV, if_neg (by omega), if_neg (by omega), if_neg (by omega), if_neg (by omega)]
   rw [hV] at hv
   obtain ⟨rfl, rfl⟩ : tok0 21 [] = t ∧ sumV h (.mk k n d u l) = ks := by simpa using hv
   rw [opF, if_pos (show (tok0 21 []).kind = 21 from rfl)]
   exact (ih _ (h24 (Or.inl hk))).2 N hks
 · have hV : operV (sumV h) (.mk k n d u l) = [.mk (tok0 21 []) (sumV h (.mk k n d u l))] := by
    rw [operV, if_neg (by omega), if_neg (by omega), if_neg (by omega), if_neg (by omega)]
   rw [hV] at hv
   obtain ⟨rfl, rfl⟩ : tok0 21 [] = t ∧ sumV h (.mk k n d u l) = ks := by simpa using hv
   rw [opF, if_pos (show (tok0 21 []).kind = 21 from rfl)]
   exact (ih _ (h24 (Or.inr hk))).2 N hks
 · have hV : operV (sumV h) (.mk 6 n d u l) = [.mk (tok0 2 minS) (cvals (sumV h) 0 l)] := by simp [operV]
   rw [hV] at hv
   obtain ⟨rfl, rfl⟩ : tok0 2 minS = t ∧ cvals (sumV h) 0 l = ks := by simpa using hv
   obtain ⟨rfl, rfl, rfl⟩ := mayT_zero hm (by decide)
   rw [opF_other (by decide), exprF, if_neg (by decide), if_neg (by decide), if_pos (show (tok0 2 minS).kind = 2 from rfl), if_neg (by decide), if_neg (by decide), fun3 (by omega) rfl]
   simp only []
   rw [if_neg (by rintro ⟨e, _⟩; revert e; decide)]
   rfl
 · have hV : operV (sumV h) (.mk 7 n d u l) = [.mk (tok0 2 maxS) (cvals (sumV h) 0 l)] := by simp [operV]
   rw [hV] at hv
   obtain ⟨rfl, rfl⟩ : tok0 2 maxS = t ∧ cvals (sumV h) 0 l = ks := by simpa using hv
   obtain ⟨rfl, rfl, rfl⟩ := mayT_zero hm (by decide)
   rw [opF_other (by decide), exprF, if_neg (by decide), if_neg (by decide), if_pos (show (tok0 2 maxS).kind = 2 from rfl), if_neg (by decide), if_neg (by decide), fun3 (by omega) rfl]
   simp only []
   rw [if_neg (by rintro ⟨e, _⟩; revert e; decide)]
   rfl
 · have hV : operV (sumV h) (.mk 8 n d u l) = [.mk (tok0 2 clampS) (cvals (sumV h) 0 l)] := by simp [operV]
   rw [hV] at hv
   obtain ⟨rfl, rfl⟩ : tok0 2 clampS = t ∧ cvals (sumV h) 0 l = ks := by simpa using hv
   obtain ⟨rfl, rfl, rfl⟩ := mayT_zero hm (by decide)
   have h3 : l.length = 3 := by
    obtain ⟨g, _, hg⟩ := mayT_parts hm
    have := (hg (by decide)).1
    simpa [arity] using this
   rw [opF_other (by decide), exprF, if_neg (by decide), if_neg (by decide), if_pos (show (tok0 2 clampS).kind = 2 from rfl), if_neg (by decide), if_neg (by decide), fun3 (by omega) rfl]
   simp only []
   rw [if_neg (fun e => e.2 h3)]
   rfl
theorem prod_back {h : Nat} (ih : ∀ e, Wr h e → Cl (sumV h e) ∧ ∀ N, depV (sumV h e) ≤ N → wholeP (opF wholeP N) (sumV h e) = some e) {e : Et} (hw : Wr (h + 1) e) (h2 : e.kind = 2 → Wr h e) {N : Nat} (hN : depV (prodV (sumV h) e) ≤ N) : goodP (opF wholeP N) (sumV h) e := by
 refine ⟨fun hk => ?_, fun hk => ?_⟩
 · obtain ⟨k, n, d, u, l⟩ := e
   have hk' : k = 4 := hk
   subst hk'
   have hwk : Wk (h + 1) (.mk 4 n d u l) := ⟨hw.1, hw.2.1⟩
   obtain ⟨_, f, hm⟩ := id hwk
   obtain ⟨rfl, rfl, rfl⟩ := mayT_zero hm (by decide)
   have hlen : 2 ≤ l.length := by
    have := hwk.1
    rw [shapeR_L] at this
    simp only [Bool.and_eq_true] at this
    have h3 := this.1.1
    unfold manyR at h3
    rw [if_pos (Or.inr rfl)] at h3
    simpa using h3
   match l, hlen with
   | x0 :: r, hlen =>
     have hP : prodV (sumV h) (.mk 4 0 0 0 (x0 :: r)) = pvals (operV (sumV h)) 5 42 47 0 (x0 :: r) := by
      rw [prodV, if_pos hk]
      rfl
     rw [hP] at hN
     have hf := depV_first (O := operV (sumV h)) (t := 5) (a := 42) (b := 47) (x := x0) (r := r)
     have each : ∀ x, Wr h x → depV (operV (sumV h) x) ≤ N → goodO (opF wholeP N) (sumV h) x := fun x hx hd => oper_back ih hx.more (fun _ => hx) hd
     refine ⟨x0, r, rfl, fun e => by subst e; simp at hlen, each x0 (hwk.first (by decide) rfl) (by omega), fun x hx => ⟨fun hx5 => ?_, fun hx5 => ?_⟩⟩
     · obtain ⟨j, hj⟩ := List.mem_iff_getElem?.1 hx
       have hkid := (hwk.kid (by decide) (j := j + 1) (x := x) (by simpa using hj)).1
       have hd : depV (operV (sumV h) (kid0 x)) ≤ depV (pvals (operV (sumV h)) 5 42 47 1 r) := depV_turn hx5 0 hx
       have hwr : Wr h (kid0 x) := by
        obtain ⟨k', n', d', u', l'⟩ := x
        cases h with
        | zero => cases hkid.1
        | succ h =>
          obtain ⟨y, rfl, hy⟩ := hkid.turned (Or.inr hx5)
          exact hy.more
       exact ⟨turned_form hkid (Or.inr rfl) hx5, each _ hwr (by omega)⟩
     · obtain ⟨j, hj⟩ := List.mem_iff_getElem?.1 hx
       have hd := depV_same (O := operV (sumV h)) (a := 42) (b := 47) hx5 1 hx
       exact each x (hwk.same (by decide) (j := j + 1) (x := x) (by simpa using hj) (fun _ => by decide) (fun e => absurd e hx5)) (by omega)
 · rw [prodV, if_neg hk] at hN
   exact oper_back ih hw (fun hh => h2 (hh.resolve_right hk)) hN
/-- A SUM THAT WAS WRITTEN IS READ -/
theorem sum_back : ∀ (h : Nat) (e : Et), Wr h e → Cl (sumV h e) ∧ ∀ N, depV (sumV h e) ≤ N → wholeP (opF wholeP N) (sumV h e) = some e
 | 0, e, hw => by cases hw.1
 | h + 1, e, hw => by
   have ih := sum_back h
   have main : ∀ N, depV (sumV (h + 1) e) ≤ N → Cl (sumV (h + 1) e) ∧ wholeP (opF wholeP N) (sumV (h + 1) e) = some e := fun N hN => by
    refine whole_reads (S := sumV h) _ (fun hk => ?_) (fun hk => ?_)
    · obtain ⟨k, n, d, u, l⟩ := e
      have hk' : k = 2 := hk
      subst hk'
      have hwk : Wk (h + 1) (.mk 2 n d u l) := ⟨hw.1, hw.2.1⟩
      obtain ⟨_, f, hm⟩ := id hwk
      obtain ⟨rfl, rfl, rfl⟩ := mayT_zero hm (by decide)
      have hlen : 2 ≤ l.length := by
       have := hwk.1
       rw [shapeR_L] at this
       simp only [Bool.and_eq_true] at this
       have h3 := this.1.1
       unfold manyR at h3
       rw [if_pos (Or.inl rfl)] at h3
       simpa using h3
      match l, hlen with
      | x0 :: r, hlen =>
        have hP : sumV (h + 1) (.mk 2 0 0 0 (x0 :: r)) = pvals (prodV (sumV h)) 3 43 45 0 (x0 :: r) := by
         rw [sumV, if_pos hk]
         rfl
        rw [hP] at hN
        have hf := depV_first (O := prodV (sumV h)) (t := 3) (a := 43) (b := 45) (x := x0) (r := r)
        have each : ∀ x, Wr h x → depV (prodV (sumV h) x) ≤ N → goodP (opF wholeP N) (sumV h) x := fun x hx hd => prod_back ih hx.more (fun _ => hx) hd
        refine ⟨x0, r, rfl, fun e => by subst e; simp at hlen, hP, each x0 (hwk.first (by decide) rfl) (by omega), fun x hx => ⟨fun hx5 => ?_, fun hx5 => ?_⟩⟩
        · obtain ⟨j, hj⟩ := List.mem_iff_getElem?.1 hx
          have hkid := (hwk.kid (by decide) (j := j + 1) (x := x) (by simpa using hj)).1
          have hd : depV (prodV (sumV h) (kid0 x)) ≤ depV (pvals (prodV (sumV h)) 3 43 45 1 r) := depV_turn hx5 0 hx
          have hwr : Wr h (kid0 x) := by
           obtain ⟨k', n', d', u', l'⟩ := x
           cases h with
           | zero => cases hkid.1
           | succ h =>
             obtain ⟨y, rfl, hy⟩ := hkid.turned (Or.inl hx5)
             exact hy.more
          exact ⟨turned_form hkid (Or.inl rfl) hx5, each _ hwr (by omega)⟩
        · obtain ⟨j, hj⟩ := List.mem_iff_getElem?.1 hx
          have hd := depV_same (O := prodV (sumV h)) (a := 43) (b := 45) hx5 1 hx
          exact each x (hwk.same (by decide) (j := j + 1) (x := x) (by simpa using hj) (fun e => absurd e hx5) (fun _ => by decide)) (by omega)
    · have hP : sumV (h + 1) e = prodV (sumV h) e := by rw [sumV, if_neg hk]
      rw [hP] at hN
      exact ⟨hP, prod_back ih hw (fun h => absurd h hk) hN⟩
   exact ⟨(main _ (Nat.le_refl _)).1, fun N hN => (main N hN).2⟩
/-- WHAT WAS WRITTEN IS READ AS IT WAS -/
theorem text_back {h : Nat} {e : Et} (hw : Wr h e) {N : Nat} (hN : depV (writtenV h e) ≤ N) : ∃ v, writtenV h e = [v] ∧ spV v = false ∧ exF wholeP N v = some e := by
 unfold writtenV at hN ⊢
 by_cases hk : e.kind = 2 ∨ e.kind = 4
 · rw [if_pos hk] at hN ⊢
   refine ⟨_, rfl, rfl, ?_⟩
   rw [depV_cons, dep1_mk] at hN
   obtain ⟨N, rfl⟩ : ∃ m, N = m + 1 := ⟨N - 1, by omega⟩
   rw [exF, exprF, if_neg (by decide), if_neg (by decide), if_pos (show (tok0 2 calcS).kind = 2 from rfl), if_pos (by decide)]
   exact (sum_back h e hw).2 N (by omega)
 · rw [if_neg hk] at hN ⊢
   obtain ⟨v, hv, hf⟩ := oper_back (sum_back h) hw.more (fun hh => absurd hh hk) hN
   obtain ⟨v2, hv2, _, hsp⟩ := oper_one (sumV h) e
   have e1 : v2 = v := by rw [hv] at hv2; simpa using hv2.symm
   subst e1
   refine ⟨v2, hv, hsp, ?_⟩
   rw [hv, depV_cons] at hN
   obtain ⟨t, ks⟩ := v2
   rw [dep1_mk] at hN
   obtain ⟨N, rfl⟩ : ∃ m, N = m + 1 := ⟨N - 1, by omega⟩
   have ht : t.kind ≠ 21 := by
    obtain ⟨k, n, d, u, l⟩ := e
    rw [kind_mk] at hk
    have := hw.kinds
    intro e21
    rw [operV] at hv
    by_cases h1 : k = 1
    · rw [if_pos h1] at hv
      have e3 := congrArg (fun l : List Vt => l.map fun v => v.tok.kind) hv
      simp only [numX, List.map_cons, List.map_nil, Vt.tok] at e3
      have e4 := List.head_eq_of_cons_eq e3
      rw [e21] at e4
      split at e4 <;> omega
    · rw [if_neg h1] at hv
      have : k = 6 ∨ k = 7 ∨ k = 8 := by omega
      rcases this with rfl | rfl | rfl <;> (simp at hv; obtain ⟨e5, _⟩ := hv; rw [← e5] at e21; revert e21; decide)
   rw [exF]
   rw [opF, if_neg ht] at hf
   exact hf
end Go.Proofs.YtplnhjmomomphaaGreatDoor

namespace Go.Proofs.YtplnhjmomomphaaGreatDoor
set_option linter.unusedVariables false
set_option linter.unusedSimpArgs false
def numOk (r : Rt) : Bool := (plainF r (r.2 == 1)).isSome
mutual
/-- is each number one that a text can have? -/
def plain1 : Vt → Bool
 | .mk t k => (if t.kind = 10 ∨ t.kind = 12 then numOk t.num else true) && plainsV k
def plainsV : List Vt → Bool
 | [] => true
 | v :: r => plain1 v && plainsV r
end
theorem plainsV_all : ∀ {l : List Vt}, plainsV l = true → ∀ v ∈ l, plain1 v = true
 | [], _, _, h => by cases h
 | v :: r, h, x, hx => by
   rw [plainsV, Bool.and_eq_true] at h
   rcases List.mem_cons.1 hx with rfl | hx
   · exact h.1
   · exact plainsV_all h.2 x hx
theorem plain1_mk (t : Tk) (k : List Vt) : plain1 (.mk t k) = ((if t.kind = 10 ∨ t.kind = 12 then numOk t.num else true) && plainsV k) := by rw [plain1]
theorem mayV_app (n : Nat) : ∀ a b : List Vt, mayV n (a ++ b) = (mayV n a && mayV n b)
 | [], b => by rw [mayV_nil]; rfl
 | .mk t k :: r, b => by
   rw [List.cons_append, mayV_cons, mayV_cons, mayV_app n r b]
   simp only [Bool.and_assoc]
theorem mayV_up : ∀ (n : Nat) (l : List Vt), mayV n l = true → mayV (n + 1) l = true := by
 intro n
 induction n with
 | zero =>
   intro l
   induction l with
   | nil => exact fun _ => mayV_nil _
   | cons v r ih =>
     intro h
     obtain ⟨t, k⟩ := v
     rw [mayV_cons] at h ⊢
     simp only [Bool.and_eq_true] at h ⊢
     refine ⟨⟨h.1.1, ?_⟩, ih h.2⟩
     have h2 := h.1.2
     by_cases hc : closeF t.kind = 0
     · rw [if_pos hc] at h2 ⊢
       exact h2
     · rw [if_neg hc] at h2
       cases h2
 | succ n ihn =>
   intro l
   induction l with
   | nil => exact fun _ => mayV_nil _
   | cons v r ih =>
     intro h
     obtain ⟨t, k⟩ := v
     rw [mayV_cons] at h ⊢
     simp only [Bool.and_eq_true] at h ⊢
     refine ⟨⟨h.1.1, ?_⟩, ih h.2⟩
     have h2 := h.1.2
     by_cases hc : closeF t.kind = 0
     · rw [if_pos hc] at h2 ⊢
       exact h2
     · rw [if_neg hc] at h2 ⊢
       exact ihn k h2
theorem mayV_one {n : Nat} : ∀ {l : List Vt}, mayV n l = true → ∀ v ∈ l, mayV n [v] = true
 | [], _, _, h => by cases h
 | .mk t k :: r, h, v, hv => by
   rw [mayV_cons, Bool.and_eq_true] at h
   rcases List.mem_cons.1 hv with rfl | hv
   · rw [mayV_cons, Bool.and_eq_true]
     exact ⟨h.1, mayV_nil _⟩
   · exact mayV_one h.2 v hv
/-- with others within -/
theorem mayV_box {n : Nat} {t : Tk} {k : List Vt} (h1 : 1 ≤ t.kind) (h2 : t.kind ≤ 24) (hc : closeF t.kind ≠ 0) : mayV (n + 1) [.mk t k] = mayV n k := by
 rw [mayV_cons, mayV_nil, if_neg hc]
 simp [h1, h2]
theorem mayV_leaf {n : Nat} {t : Tk} (h1 : 1 ≤ t.kind) (h2 : t.kind ≤ 24) (hc : closeF t.kind = 0) : mayV n [.mk t []] = true := by
 rw [mayV_cons, mayV_nil, if_pos hc]
 simp [h1, h2]
theorem mayV_open {n : Nat} {t : Tk} {k : List Vt} (h : mayV n [.mk t k] = true) (hc : closeF t.kind ≠ 0) : ∃ m, n = m + 1 ∧ mayV m k = true := by
 rw [mayV_cons, if_neg hc] at h
 simp only [Bool.and_eq_true] at h
 cases n with
 | zero => cases h.1.2
 | succ n => exact ⟨n, rfl, h.1.2⟩
theorem mayV_sign (n : Nat) (c : UInt8) : mayV n [spX, opX c, spX] = true := by
 have h1 : mayV n [spX] = true := mayV_leaf (by decide) (by decide) rfl
 have h2 : mayV n [opX c] = true := mayV_leaf (by show (1 : Int) ≤ 9; decide) (by show (9 : Int) ≤ 24; decide) rfl
 have e : [spX, opX c, spX] = [spX] ++ ([opX c] ++ [spX]) := rfl
 rw [e, mayV_app, mayV_app, h1, h2]
 rfl
theorem mayV_pvals {n : Nat} {O : Et → List Vt} {t : Int} {a b : UInt8} : ∀ (r : List Et) (i : Nat), (∀ x ∈ r, (x.kind = t → mayV n (O (kid0 x)) = true) ∧ (x.kind ≠ t → mayV n (O x) = true)) → mayV n (pvals O t a b (i + 1) r) = true
 | [], _, _ => mayV_nil _
 | x :: r, i, h => by
   have hx := h x List.mem_cons_self
   rw [pvals, mayV_app, mayV_pvals r (i + 1) (fun y hy => h y (List.mem_cons_of_mem _ hy)), Bool.and_true, pvalG, if_neg (Nat.succ_ne_zero i)]
   split
   · rename_i hk
     rw [mayV_app, mayV_sign, hx.1 hk]
     rfl
   · rename_i hk
     rw [mayV_app, mayV_sign, hx.2 hk]
     rfl
theorem mayV_cvals {n : Nat} {S : Et → List Vt} : ∀ (r : List Et) (i : Nat), (∀ x ∈ r, mayV n (S x) = true) → mayV n (cvals S i r) = true
 | [], _, _ => mayV_nil _
 | x :: r, i, h => by
   have hx := h x List.mem_cons_self
   rw [cvals, mayV_app, mayV_cvals r (i + 1) (fun y hy => h y (List.mem_cons_of_mem _ hy)), Bool.and_true]
   split
   · exact hx
   · have h1 : mayV n [comX, spX] = true := by
      have e : [comX, spX] = [comX] ++ [spX] := rfl
      have h1 : mayV n [comX] = true := mayV_leaf (by decide) (by decide) rfl
      have h2 : mayV n [spX] = true := mayV_leaf (by decide) (by decide) rfl
      rw [e, mayV_app, h1, h2]
      rfl
     rw [mayV_app, h1, hx]
     rfl
theorem mayT_up : ∀ (f : Nat) (e : Et), mayT f e = true → mayT (f + 1) e = true
 | 0, _, h => by cases h
 | f + 1, .mk k n d u l, h => by
   rw [mayT] at h ⊢
   split
   · rename_i h1
     rw [if_pos h1] at h
     exact h
   · rename_i h1
     rw [if_neg h1] at h
     simp only [Bool.and_eq_true] at h ⊢
     exact ⟨h.1, List.all_eq_true.2 fun x hx => mayT_up f x (List.all_eq_true.1 h.2 x hx)⟩
theorem mayT_le {f g : Nat} {e : Et} (hfg : f ≤ g) (h : mayT f e = true) : mayT g e = true := by
 induction hfg with
 | refl => exact h
 | step _ ih => exact mayT_up _ e ih
theorem shapeR_le {f g : Nat} {e : Et} (hfg : f ≤ g) (h : shapeR f e = true) : shapeR g e = true := by
 induction hfg with
 | refl => exact h
 | step _ ih => exact shapeR_more _ e ih
theorem mayT_mk {f : Nat} {k : Int} {l : List Et} (hk : k ≠ 1) (ha : arity k l.length = true) (h : ∀ x ∈ l, mayT f x = true) : mayT (f + 1) (.mk k 0 0 0 l) = true := by
 rw [mayT, if_neg hk]
 simp only [decide_true, Bool.true_and, ha]
 exact List.all_eq_true.2 h
/-- what an operand comes to, a product, all of some values -/
structure OpOk (n : Nat) (P : Prop) (e : Et) : Prop where
 kind : e.kind ≠ 3 ∧ e.kind ≠ 5
 may : mayT (5 * n + 1) e = true
 vals : ∀ h, mayV n (operV (sumV h) e) = true
 all : ∀ h, mayV n (sumV h e) = true
 shape : P → shapeR (5 * n + 1) e = true
structure PrOk (n : Nat) (P : Prop) (e : Et) : Prop where
 kind : e.kind ≠ 3 ∧ e.kind ≠ 5
 may : mayT (5 * n + 3) e = true
 vals : ∀ h, mayV n (prodV (sumV h) e) = true
 all : ∀ h, mayV n (sumV h e) = true
 shape : P → shapeR (5 * n + 3) e = true
structure WhOk (n : Nat) (P : Prop) (e : Et) : Prop where
 kind : e.kind ≠ 3 ∧ e.kind ≠ 5
 may : mayT (5 * n + 5) e = true
 all : ∀ h, mayV n (sumV h e) = true
 shape : P → shapeR (5 * n + 5) e = true
theorem sumV_zero (e : Et) (n : Nat) : mayV n (sumV 0 e) = true := by rw [sumV]; exact mayV_nil _
theorem sumV_other {h : Nat} {e : Et} (hk : e.kind ≠ 2) : sumV (h + 1) e = prodV (sumV h) e := by rw [sumV, if_neg hk]
theorem prodV_other {S : Et → List Vt} {e : Et} (hk : e.kind ≠ 4) : prodV S e = operV S e := by rw [prodV, if_neg hk]
theorem OpOk.prod {n : Nat} {P : Prop} {e : Et} (h : OpOk n P e) : PrOk n P e :=
 ⟨h.kind, mayT_le (by omega) h.may, fun g => by
   by_cases hk : e.kind = 4
   · rw [← sumV_other (by omega)]
     exact h.all _
   · rw [prodV_other hk]
     exact h.vals g, h.all, fun hp => shapeR_le (by omega) (h.shape hp)⟩
theorem PrOk.whole {n : Nat} {P : Prop} {e : Et} (h : PrOk n P e) : WhOk n P e := ⟨h.kind, mayT_le (by omega) h.may, h.all, fun hp => shapeR_le (by omega) (h.shape hp)⟩
theorem rest_from {read : Nat → Option (Et × Nat)} {sign : Nat → List UInt8 × Nat} {turn : List UInt8} {k : Int} : ∀ (f i : Nat) (es : List Et) (j : Nat), restP read sign turn k f i = some (es, j) → ∀ y ∈ es, ∃ i' x j', read i' = some (x, j') ∧ (y = x ∨ y = .mk k 0 0 0 [x])
 | 0, i, es, j, h, y, hy => by
   rw [restP] at h
   obtain ⟨rfl, rfl⟩ := Prod.mk.inj (Option.some.inj h)
   cases hy
 | f + 1, i, es, j, h, y, hy => by
   rw [restP] at h
   split at h
   · obtain ⟨rfl, rfl⟩ := Prod.mk.inj (Option.some.inj h)
     cases hy
   · rename_i c s i2 _
     split at h
     · cases h
     · rename_i e j2 hr
       obtain ⟨⟨es2, j3⟩, h2, h3⟩ := Option.map_eq_some_iff.1 h
       obtain ⟨rfl, rfl⟩ := Prod.mk.inj h3
       rcases List.mem_cons.1 hy with rfl | hy
       · refine ⟨i2, e, j2, hr, ?_⟩
         split
         · exact Or.inr rfl
         · exact Or.inl rfl
       · exact rest_from f j2 es2 j3 h2 y hy
theorem joined_shape {f : Nat} {k t : Int} {x0 : Et} {es : List Et} (hk : k = 2 ∧ t = 3 ∨ k = 4 ∧ t = 5) (h0 : x0.kind ≠ 3 ∧ x0.kind ≠ 5) (hs0 : shapeR f x0 = true) (hes : es ≠ []) (hr : ∀ y ∈ es, ∃ x, (x.kind ≠ 3 ∧ x.kind ≠ 5) ∧ (y = x ∧ shapeR f x = true ∨ y = .mk t 0 0 0 [x] ∧ shapeR f (.mk t 0 0 0 [x]) = true)) : shapeR (f + 1) (.mk k 0 0 0 (x0 :: es)) = true := by
 rw [shapeR_L]
 have h1 : manyR k (x0 :: es).length = true := by
  unfold manyR
  rw [if_pos (by omega)]
  have := List.length_pos_iff.2 hes
  simp only [List.length_cons, decide_eq_true_eq]
  omega
 have h2 : numR k 0 0 = true := by
  unfold numR
  rw [if_neg (by omega)]
 have h3 : kidR k 0 x0 = true := by
  unfold kidR
  simp [h0.1, h0.2]
 rw [h1, h2, shapeRL, h3, hs0, shapeRL_more]
 simp only [Bool.and_true, Bool.true_and]
 rw [List.all_eq_true]
 intro y hy
 obtain ⟨x, hx, h | h⟩ := hr y hy
 · rw [h.1, h.2]
   simp [hx.1, hx.2]
 · rw [h.1, h.2, kind_mk]
   rcases hk with ⟨rfl, rfl⟩ | ⟨rfl, rfl⟩ <;> simp
theorem turned_shape {f : Nat} {t : Int} {x : Et} (ht : t = 3 ∨ t = 5) (hx : x.kind ≠ 3 ∧ x.kind ≠ 5) (h : shapeR f x = true) : shapeR (f + 1) (.mk t 0 0 0 [x]) = true := by
 rw [shapeR_L]
 have h1 : manyR t [x].length = true := by
  unfold manyR
  rw [if_neg (by omega)]
 have h2 : numR t 0 0 = true := by
  unfold numR
  rw [if_neg (by omega)]
 rw [h1, h2, shapeRL, shapeRL, h]
 unfold kidR
 simp [hx.1, hx.2]
theorem turned_may {f : Nat} {t : Int} {x : Et} (ht : t = 3 ∨ t = 5) (h : mayT f x = true) : mayT (f + 1) (.mk t 0 0 0 [x]) = true :=
 mayT_mk (by omega) (by unfold arity; rw [if_neg (by omega), if_pos ht]; rfl) (fun y hy => by rw [List.mem_singleton.1 hy]; exact h)
theorem prod_from {f : Vt → Option Et} {l : List Vt} {n : Nat} {P : Prop} (hf : ∀ v ∈ l, ∀ x, f v = some x → OpOk n P x) {i j : Nat} {e : Et} (h : prodP f l i = some (e, j)) : PrOk n P e := by
 have hat : ∀ i x, opAt f l i = some x → OpOk n P x := fun i x hx => by
  unfold opAt at hx
  split at hx
  · cases hx
  · rename_i v hv
    exact hf v (List.mem_of_getElem? hv) x hx
 unfold prodP at h
 split at h
 · cases h
 · rename_i x0 hx0
   obtain ⟨⟨es, j2⟩, h2, h3⟩ := Option.map_eq_some_iff.1 h
   obtain ⟨rfl, rfl⟩ := Prod.mk.inj h3
   have h0 := hat _ _ hx0
   have hr : ∀ y ∈ es, ∃ x, OpOk n P x ∧ (y = x ∨ y = .mk 5 0 0 0 [x]) := fun y hy => by
    obtain ⟨i', x, j', hread, hy2⟩ := rest_from _ _ _ _ h2 y hy
    obtain ⟨x', hx', he⟩ := Option.map_eq_some_iff.1 hread
    obtain ⟨rfl, _⟩ := Prod.mk.inj he
    exact ⟨x', hat _ _ hx', hy2⟩
   match hes : es with
   | [] => exact h0.prod
   | y0 :: ys =>
     have hs : single 4 (x0 :: y0 :: ys) = .mk 4 0 0 0 (x0 :: y0 :: ys) := rfl
     rw [hs]
     have hV : ∀ g, prodV (sumV g) (.mk 4 0 0 0 (x0 :: y0 :: ys)) = operV (sumV g) x0 ++ pvals (operV (sumV g)) 5 42 47 1 (y0 :: ys) := fun g => by
      rw [prodV, if_pos (show (Et.mk 4 0 0 0 (x0 :: y0 :: ys)).kind = 4 from rfl)]
      show pvals (operV (sumV g)) 5 42 47 0 (x0 :: y0 :: ys) = _
      rw [pvals, pvalG, if_pos rfl]
     have hvals : ∀ g, mayV n (prodV (sumV g) (.mk 4 0 0 0 (x0 :: y0 :: ys))) = true := fun g => by
      rw [hV, mayV_app, h0.vals, mayV_pvals (y0 :: ys) 0 fun y hy => ?_]
      · rfl
      · obtain ⟨x, hx, rfl | rfl⟩ := hr y hy
        · exact ⟨fun hk => absurd hk hx.kind.2, fun _ => hx.vals g⟩
        · exact ⟨fun _ => hx.vals g, fun hk => absurd rfl hk⟩
     refine ⟨⟨by rw [kind_mk]; decide, by rw [kind_mk]; decide⟩, ?_, hvals, fun g => ?_, fun hp => ?_⟩
     · refine mayT_mk (f := 5 * n + 2) (by decide) (by unfold arity; rw [if_pos (by decide)]; simp) fun y hy => ?_
       rcases List.mem_cons.1 hy with rfl | hy
       · exact mayT_le (by omega) h0.may
       · obtain ⟨x, hx, rfl | rfl⟩ := hr y hy
         · exact mayT_le (by omega) hx.may
         · exact turned_may (Or.inr rfl) hx.may
     · cases g with
       | zero => exact sumV_zero _ _
       | succ g =>
         rw [sumV_other (by rw [kind_mk]; decide)]
         exact hvals g
     · refine joined_shape (t := 5) (Or.inr ⟨rfl, rfl⟩) h0.kind (shapeR_le (by omega) (h0.shape hp)) (by simp) fun y hy => ?_
       obtain ⟨x, hx, rfl | rfl⟩ := hr y hy
       · exact ⟨y, hx.kind, Or.inl ⟨rfl, shapeR_le (by omega) (hx.shape hp)⟩⟩
       · exact ⟨x, hx.kind, Or.inr ⟨rfl, turned_shape (Or.inr rfl) hx.kind (hx.shape hp)⟩⟩
theorem mem_trim {l : List Vt} {v : Vt} (h : v ∈ trimV l) : v ∈ l := by
 unfold trimV frontV at h
 have h1 := List.mem_reverse.1 h
 have h2 := List.mem_reverse.1 ((List.dropWhile_sublist _).mem h1)
 exact (List.dropWhile_sublist _).mem h2
theorem whole_from {f : Vt → Option Et} {l : List Vt} {n : Nat} {P : Prop} (hf : ∀ v ∈ l, ∀ x, f v = some x → OpOk n P x) {e : Et} (h : wholeP f l = some e) : WhOk n P e := by
 have hf2 : ∀ v ∈ trimV l, ∀ x, f v = some x → OpOk n P x := fun v hv => hf v (mem_trim hv)
 unfold wholeP at h
 obtain ⟨m, hm⟩ : ∃ m, trimV l = m := ⟨_, rfl⟩
 rw [hm] at h hf2
 split at h
 · cases h
 · rename_i e1 j1 hs
   split at h
   · obtain rfl := Option.some.inj h
     unfold sumP at hs
     split at hs
     · cases hs
     · rename_i p0 j0 hp0
       obtain ⟨⟨es, j2⟩, h2, h3⟩ := Option.map_eq_some_iff.1 hs
       obtain ⟨rfl, rfl⟩ := Prod.mk.inj h3
       have h0 := prod_from hf2 hp0
       have hr : ∀ y ∈ es, ∃ x, PrOk n P x ∧ (y = x ∨ y = .mk 3 0 0 0 [x]) := fun y hy => by
        obtain ⟨i', x, j', hread, hy2⟩ := rest_from _ _ _ _ h2 y hy
        exact ⟨x, prod_from hf2 hread, hy2⟩
       match hes : es with
       | [] => exact h0.whole
       | y0 :: ys =>
         have hs : single 2 (p0 :: y0 :: ys) = .mk 2 0 0 0 (p0 :: y0 :: ys) := rfl
         rw [hs]
         have hV : ∀ g, sumV (g + 1) (.mk 2 0 0 0 (p0 :: y0 :: ys)) = prodV (sumV g) p0 ++ pvals (prodV (sumV g)) 3 43 45 1 (y0 :: ys) := fun g => by
          rw [sumV, if_pos (show (Et.mk 2 0 0 0 (p0 :: y0 :: ys)).kind = 2 from rfl)]
          show pvals (prodV (sumV g)) 3 43 45 0 (p0 :: y0 :: ys) = _
          rw [pvals, pvalG, if_pos rfl]
         refine ⟨⟨by rw [kind_mk]; decide, by rw [kind_mk]; decide⟩, ?_, fun g => ?_, fun hp => ?_⟩
         · refine mayT_mk (f := 5 * n + 4) (by decide) (by unfold arity; rw [if_pos (by decide)]; simp) fun y hy => ?_
           rcases List.mem_cons.1 hy with rfl | hy
           · exact mayT_le (by omega) h0.may
           · obtain ⟨x, hx, rfl | rfl⟩ := hr y hy
             · exact mayT_le (by omega) hx.may
             · exact turned_may (Or.inl rfl) hx.may
         · cases g with
           | zero => exact sumV_zero _ _
           | succ g =>
             rw [hV, mayV_app, h0.vals, mayV_pvals (y0 :: ys) 0 fun y hy => ?_]
             · rfl
             · obtain ⟨x, hx, rfl | rfl⟩ := hr y hy
               · exact ⟨fun hk => absurd hk hx.kind.1, fun _ => hx.vals g⟩
               · exact ⟨fun _ => hx.vals g, fun hk => absurd rfl hk⟩
         · refine joined_shape (t := 3) (Or.inl ⟨rfl, rfl⟩) h0.kind (shapeR_le (by omega) (h0.shape hp)) (by simp) fun y hy => ?_
           obtain ⟨x, hx, rfl | rfl⟩ := hr y hy
           · exact ⟨y, hx.kind, Or.inl ⟨rfl, shapeR_le (by omega) (hx.shape hp)⟩⟩
           · exact ⟨x, hx.kind, Or.inr ⟨rfl, turned_shape (Or.inl rfl) hx.kind (hx.shape hp)⟩⟩
   · cases h
/-- in parentheses, or as a function: one level more -/
theorem WhOk.box {n : Nat} {P : Prop} {e : Et} (h : WhOk n P e) : OpOk (n + 1) P e := by
 refine ⟨h.kind, mayT_le (by omega) h.may, fun g => ?_, fun g => mayV_up n _ (h.all g), fun hp => shapeR_le (by omega) (h.shape hp)⟩
 obtain ⟨k, a, b, c, l⟩ := e
 by_cases h4 : k = 1 ∨ k = 6 ∨ k = 7 ∨ k = 8
 · have e1 : sumV (g + 1) (.mk k a b c l) = operV (sumV g) (.mk k a b c l) := by
    rw [sumV_other (by rw [kind_mk]; omega), prodV_other (by rw [kind_mk]; omega)]
   rw [← e1]
   exact mayV_up n _ (h.all _)
 · have e1 : operV (sumV g) (.mk k a b c l) = [.mk (tok0 21 []) (sumV g (.mk k a b c l))] := by
    rw [operV, if_neg (by omega), if_neg (by omega), if_neg (by omega), if_neg (by omega)]
   rw [e1, mayV_box (by decide) (by decide) (by decide)]
   exact h.all g
theorem split_ne : ∀ (l cur : List Vt), splitG cur l ≠ []
 | [], _ => by simp [splitG]
 | v :: r, cur => by
   rw [splitG]
   split
   · simp
   · exact split_ne r _
theorem mem_split : ∀ (l cur : List Vt) (p : List Vt), p ∈ splitG cur l → ∀ v ∈ p, v ∈ cur ∨ v ∈ l
 | [], cur, p, h, v, hv => by
   rw [splitG, List.mem_singleton] at h
   subst h
   exact Or.inl (mem_trim hv)
 | x :: r, cur, p, h, v, hv => by
   rw [splitG] at h
   split at h
   · rcases List.mem_cons.1 h with rfl | h
     · exact Or.inl (mem_trim hv)
     · rcases mem_split r [] p h v hv with h | h
       · cases h
       · exact Or.inr (List.mem_cons_of_mem _ h)
   · rcases mem_split r _ p h v hv with h | h
     · rcases List.mem_append.1 h with h | h
       · exact Or.inl h
       · rw [List.mem_singleton.1 h]
         exact Or.inr List.mem_cons_self
     · exact Or.inr (List.mem_cons_of_mem _ h)
theorem mapO_mem {α β : Type} {f : α → Option β} : ∀ {l : List α} {ys : List β}, mapO f l = some ys → ys.length = l.length ∧ ∀ y ∈ ys, ∃ x ∈ l, f x = some y
 | [], ys, h => by
   rw [mapO] at h
   obtain rfl := Option.some.inj h
   exact ⟨rfl, fun _ h => by cases h⟩
 | x :: r, ys, h => by
   rw [mapO] at h
   split at h
   · cases h
   · rename_i y hy
     obtain ⟨zs, h1, rfl⟩ := Option.map_eq_some_iff.1 h
     obtain ⟨h2, h3⟩ := mapO_mem h1
     refine ⟨by simp [h2], fun z hz => ?_⟩
     rcases List.mem_cons.1 hz with rfl | hz
     · exact ⟨x, List.mem_cons_self, hy⟩
     · obtain ⟨q, hq, hf⟩ := h3 z hz
       exact ⟨q, List.mem_cons_of_mem _ hq, hf⟩
theorem clean_may (r : Rt) : mayB (cleanR r) = true := by
 unfold cleanR
 split
 · rename_i h
   exact h
 · rfl
theorem numOk_may {r : Rt} (h : numOk r = true) : mayB r = true := by
 unfold numOk plainF at h
 split at h
 · cases h
 · rename_i hm
   rw [not_or] at hm
   simpa using hm.1
theorem num_from {r : Rt} {u : Int} {n : Nat} (h0 : 0 ≤ u) (h7 : u ≤ 7) : OpOk n (numOk r = true) (numE r u) := by
 have hV : ∀ g, operV (sumV g) (numE r u) = [numX (cleanR r).1 (cleanR r).2 u] := fun g => by simp [numE, operV]
 have hv : ∀ g, mayV n (operV (sumV g) (numE r u)) = true := fun g => by
  rw [hV, numX]
  split
  · exact mayV_leaf (by show (1 : Int) ≤ 10; decide) (by show (10 : Int) ≤ 24; decide) rfl
  · exact mayV_leaf (by show (1 : Int) ≤ 12; decide) (by show (12 : Int) ≤ 24; decide) rfl
 refine ⟨⟨by rw [numE, kind_mk]; decide, by rw [numE, kind_mk]; decide⟩, ?_, hv, fun g => ?_, fun hp => ?_⟩
 · rw [numE, mayT, if_pos rfl]
   have hc := clean_may r
   simp [hc, h0, h7]
 · cases g with
   | zero => exact sumV_zero _ _
   | succ g =>
     rw [sumV_other (by rw [numE, kind_mk]; decide), prodV_other (by rw [numE, kind_mk]; decide)]
     exact hv g
 · have hc : cleanR r = r := by
    unfold cleanR
    rw [if_pos (numOk_may hp)]
   have hn : numR 1 r.1 r.2 = true := by
    unfold numR
    split
    · exact hp
    · rfl
   rw [numE, hc, shapeR_L, hn, shapeRL]
   rfl
theorem kindS_in (x : List UInt8) (h : kindS x ≠ 0) : kindS x = 6 ∨ kindS x = 7 ∨ kindS x = 8 := by
 unfold kindS at h ⊢
 split
 · exact Or.inl rfl
 · split
   · exact Or.inr (Or.inl rfl)
   · split
     · exact Or.inr (Or.inr rfl)
     · rename_i h1 h2 h3
       rw [if_neg h1, if_neg h2, if_neg h3] at h
       exact absurd rfl h
theorem many_from {n : Nat} {P : Prop} {k : Int} {es : List Et} (hk : k = 6 ∨ k = 7 ∨ k = 8) (h1 : es ≠ []) (h3 : k = 8 → es.length = 3) (hes : ∀ x ∈ es, WhOk n P x) : OpOk (n + 1) P (.mk k 0 0 0 es) := by
 have hc : ∀ g, mayV n (cvals (sumV g) 0 es) = true := fun g => mayV_cvals es 0 fun x hx => (hes x hx).all g
 have hv : ∀ g, mayV (n + 1) (operV (sumV g) (.mk k 0 0 0 es)) = true := fun g => by
  rcases hk with rfl | rfl | rfl
  · have e : operV (sumV g) (.mk 6 0 0 0 es) = [.mk (tok0 2 minS) (cvals (sumV g) 0 es)] := by simp [operV]
    rw [e, mayV_box (by decide) (by decide) (by decide)]
    exact hc g
  · have e : operV (sumV g) (.mk 7 0 0 0 es) = [.mk (tok0 2 maxS) (cvals (sumV g) 0 es)] := by simp [operV]
    rw [e, mayV_box (by decide) (by decide) (by decide)]
    exact hc g
  · have e : operV (sumV g) (.mk 8 0 0 0 es) = [.mk (tok0 2 clampS) (cvals (sumV g) 0 es)] := by simp [operV]
    rw [e, mayV_box (by decide) (by decide) (by decide)]
    exact hc g
 refine ⟨⟨by rw [kind_mk]; omega, by rw [kind_mk]; omega⟩, ?_, hv, fun g => ?_, fun hp => ?_⟩
 · refine mayT_mk (f := 5 * n + 5) (by omega) ?_ fun x hx => (hes x hx).may
   have := List.length_pos_iff.2 h1
   unfold arity
   rcases hk with rfl | rfl | rfl
   · rw [if_pos (by decide)]
     simp only [decide_eq_true_eq]
     omega
   · rw [if_pos (by decide)]
     simp only [decide_eq_true_eq]
     omega
   · rw [if_neg (by decide), if_neg (by decide), if_pos rfl]
     simp only [decide_eq_true_eq]
     exact h3 rfl
 · cases g with
   | zero => exact sumV_zero _ _
   | succ g =>
     rw [sumV_other (by rw [kind_mk]; omega), prodV_other (by rw [kind_mk]; omega)]
     exact hv g
 · show shapeR (5 * n + 5 + 1) _ = true
   rw [shapeR_L]
   have e1 : manyR k es.length = true := by
    unfold manyR
    rw [if_neg (by omega)]
   have e2 : numR k 0 0 = true := by
    unfold numR
    rw [if_neg (by omega)]
   have e3 : ∀ (l : List Et) (i : Nat), (∀ x ∈ l, WhOk n P x) → shapeRL (5 * n + 5) k i l = true := by
    intro l
    induction l with
    | nil => exact fun _ _ => rfl
    | cons x r ih =>
      intro i h
      have hx := h x List.mem_cons_self
      rw [shapeRL, hx.shape hp, ih _ (fun y hy => h y (List.mem_cons_of_mem _ hy))]
      unfold kidR
      simp [hx.kind.1, hx.kind.2]
   rw [e1, e2, e3 es 0 hes]
   rfl
/-- an expression of a token and what stands in it -/
theorem expr_from {f : Vt → Option Et} {t : Tk} {ks : List Vt} {n : Nat} (hm : mayV n [.mk t ks] = true) (hf : ∀ m, n = m + 1 → ∀ v ∈ ks, ∀ x, f v = some x → OpOk m (plainsV ks = true) x) {e : Et} (h : exprF (wholeP f) t ks = some e) : OpOk n (plain1 (.mk t ks) = true) e := by
 rw [plain1_mk]
 have weak : ∀ {n : Nat} {P Q : Prop} {e : Et}, (Q → P) → OpOk n P e → OpOk n Q e := fun hq h => ⟨h.kind, h.may, h.vals, h.all, fun q => h.shape (hq q)⟩
 unfold exprF at h
 split at h
 · rename_i h10
   obtain rfl := Option.some.inj h
   rw [if_pos (Or.inl h10)]
   exact weak (fun q => (Bool.and_eq_true _ _ ▸ q : _ ∧ _).1) (num_from (by decide) (by decide))
 · split at h
   · rename_i h12
     split at h
     · cases h
     · rename_i hu
       obtain rfl := Option.some.inj h
       rw [if_pos (Or.inr h12)]
       have h7 : unitF t.text ≤ 7 := by
        unfold unitF unitsS
        simp only [unitG]
        repeat (first | split | omega)
       exact weak (fun q => (Bool.and_eq_true _ _ ▸ q : _ ∧ _).1) (num_from (by omega) (by omega))
   · split at h
     · rename_i h10 h12 h2
       rw [if_neg (by omega), Bool.true_and]
       obtain ⟨m, rfl, hmk⟩ := mayV_open hm (by rw [h2]; decide)
       have hf2 := hf m rfl
       split at h
       · exact (whole_from hf2 h).box
       · split at h
         · cases h
         · rename_i hk0
           split at h
           · cases h
           · rename_i es hes
             split at h
             · cases h
             · rename_i h83
               obtain rfl := Option.some.inj h
               obtain ⟨hl, hall⟩ := mapO_mem hes
               refine many_from (kindS_in _ hk0) ?_ (fun h8 => ?_) fun x hx => ?_
               · intro e0
                 rw [e0] at hl
                 exact split_ne ks [] (List.eq_nil_of_length_eq_zero hl.symm)
               · apply Classical.byContradiction
                 intro h3
                 exact h83 ⟨h8, h3⟩
               · obtain ⟨p, hp, hpx⟩ := hall x hx
                 refine whole_from (fun v hv => hf2 v ?_) hpx
                 rcases mem_split ks [] p hp v hv with h | h
                 · cases h
                 · exact h
     · cases h
theorem op_from : ∀ (m : Nat) (n : Nat) (v : Vt) (e : Et), mayV n [v] = true → opF wholeP m v = some e → OpOk n (plain1 v = true) e
 | 0, _, _, _, _, h => by rw [opF] at h; cases h
 | m + 1, n, .mk t ks, e, hm, h => by
   have kids : ∀ q, n = q + 1 → closeF t.kind ≠ 0 → ∀ v ∈ ks, ∀ x, opF wholeP m v = some x → OpOk q (plainsV ks = true) x := fun q hq hc v hv x hx => by
    obtain ⟨q2, hq2, hmk⟩ := mayV_open hm hc
    obtain rfl : q = q2 := by omega
    have := op_from m q v x (mayV_one hmk v hv) hx
    exact ⟨this.kind, this.may, this.vals, this.all, fun hp => this.shape (plainsV_all hp v hv)⟩
   rw [opF] at h
   split at h
   · rename_i h21
     obtain ⟨q, rfl, hmk⟩ := mayV_open hm (by rw [h21]; decide)
     have := (whole_from (kids q rfl (by rw [h21]; decide)) h).box
     refine ⟨this.kind, this.may, this.vals, this.all, fun hp => this.shape ?_⟩
     rw [plain1_mk, Bool.and_eq_true] at hp
     exact hp.2
   · by_cases hc : closeF t.kind = 0
     · refine expr_from hm (fun q hq v hv => ?_) h
       rw [mayV_cons, if_pos hc] at hm
       simp only [Bool.and_eq_true] at hm
       rw [List.isEmpty_iff.1 hm.1.2] at hv
       cases hv
     · exact expr_from hm (fun q hq => kids q hq hc) h
/-- WHAT WAS READ: it may be, its text nests no deeper, it is written if each number is -/
theorem parse_from {h : Nat} {l : List Vt} {e : Et} (hp : parseF wholeP h l = (some e, 0)) : mayT 340 e = true ∧ (e.kind ≠ 3 ∧ e.kind ≠ 5) ∧ (∀ g, mayV 64 (writtenV g e) = true) ∧ (plainsV l = true → shapeR 321 e = true) := by
 unfold parseF at hp
 split at hp
 · cases hp
 · rename_i hm
   have hm : mayV 64 l = true := by simpa using hm
   split at hp
   · rename_i v hv
     split at hp
     · cases hp
     · rename_i e2 he
       obtain ⟨rfl, _⟩ : e2 = e ∧ True := ⟨Option.some.inj (Prod.mk.inj hp).1, trivial⟩
       have hvl : v ∈ l := mem_trim (by rw [hv]; exact List.mem_singleton.2 rfl)
       have hop : opF wholeP h v = some e2 := by
        obtain ⟨t, ks⟩ := v
        cases h with
        | zero => rw [exF] at he; cases he
        | succ h =>
          rw [exF] at he
          have h21 : t.kind ≠ 21 := by
           intro e21
           unfold exprF at he
           rw [if_neg (by omega), if_neg (by omega), if_neg (by omega)] at he
           cases he
          rw [opF, if_neg h21]
          exact he
       have ok := op_from h 64 v e2 (mayV_one hm v hvl) hop
       refine ⟨mayT_le (by decide) ok.may, ok.kind, fun g => ?_, fun hpl => ok.shape (plainsV_all hpl v hvl)⟩
       unfold writtenV
       by_cases hk : e2.kind = 2 ∨ e2.kind = 4
       · rw [if_pos hk]
         have := ok.vals g
         obtain ⟨k, a, b, c, q⟩ := e2
         rw [kind_mk] at hk
         rw [operV, if_neg (by omega), if_neg (by omega), if_neg (by omega), if_neg (by omega), mayV_box (by decide) (by decide) (by decide)] at this
         rw [mayV_box (by decide) (by decide) (by decide)]
         exact this
       · rw [if_neg hk]
         exact ok.vals g
   · cases hp
end Go.Proofs.YtplnhjmomomphaaGreatDoor

namespace Go.Proofs.YtplnhjmomomphaaGreatDoor
set_option linter.unusedVariables false
set_option linter.unusedSimpArgs false
theorem szV_app : ∀ a b : List Vt, szV (a ++ b) = szV a + szV b
 | [], b => by simp [szV]
 | .mk t k :: r, b => by
   rw [List.cons_append, szV_cons, szV_cons, szV_app r b]
   omega
theorem szV_one (v : Vt) : szV [v] = szV1 v := by rw [szV, szV]; rfl
theorem szV1_mk (t : Tk) (k : List Vt) : szV1 (.mk t k) = 1 + szV k := by rw [szV1]
theorem szV_sub {a b : List Vt} (h : a.Sublist b) : szV a ≤ szV b := by
 induction h with
 | slnil => exact Nat.le_refl _
 | cons v _ ih =>
   obtain ⟨t, k⟩ := v
   rw [szV_cons]
   omega
 | cons_cons v _ ih =>
   obtain ⟨t, k⟩ := v
   rw [szV_cons, szV_cons]
   omega
theorem trim_sub (l : List Vt) : (trimV l).Sublist l := by
 unfold trimV frontV
 have h1 : ((l.dropWhile spV).reverse.dropWhile spV).reverse.Sublist (l.dropWhile spV) := by
  have := (List.dropWhile_sublist spV (l := (l.dropWhile spV).reverse)).reverse
  rwa [List.reverse_reverse] at this
 exact h1.trans (List.dropWhile_sublist _)
def preS (l : List Vt) (i : Nat) : Nat := szV (l.take i)
theorem preS_mono {l : List Vt} {i j : Nat} (h : i ≤ j) : preS l i ≤ preS l j := by
 unfold preS
 refine szV_sub ?_
 have : l.take i = (l.take j).take i := by rw [List.take_take, Nat.min_eq_left h]
 rw [this]
 exact List.take_sublist _ _
theorem preS_all (l : List Vt) (i : Nat) : preS l i ≤ szV l := szV_sub (List.take_sublist _ _)
theorem preS_step {l : List Vt} {i : Nat} {v : Vt} (h : l[i]? = some v) : preS l (i + 1) = preS l i + szV1 v := by
 unfold preS
 rw [List.take_add_one, h, szV_app]
 show _ + szV [v] = _
 rw [szV_one]
theorem szV1_pos (v : Vt) : 1 ≤ szV1 v := by
 obtain ⟨t, k⟩ := v
 rw [szV1_mk]
 omega
theorem sign_moves {l : List Vt} {one other : List UInt8} {apart : Bool} {i j : Nat} {c : UInt8} {s : List UInt8} (h : signP l one other apart i = (c :: s, j)) : preS l i + 1 ≤ preS l j := by
 unfold signP at h
 split at h
 · cases h
 · rename_i t k hat
   split at h
   · obtain ⟨_, rfl⟩ := Prod.mk.inj h
     have h1 : preS l i ≤ preS l (blankP l i) := preS_mono (Nat.le_add_right _ _)
     have h2 := preS_step hat
     have h3 : preS l (blankP l i + 1) ≤ preS l (blankP l (blankP l i + 1)) := preS_mono (Nat.le_add_right _ _)
     have := szV1_pos (.mk t k)
     omega
   · cases h
theorem rest_size {l : List Vt} {read : Nat → Option (Et × Nat)} {one other turn : List UInt8} {apart : Bool} {k : Int} (hread : ∀ i x j, read i = some (x, j) → szE x + 2 * preS l i ≤ 2 * preS l j) :
 ∀ (f i : Nat) (es : List Et) (j : Nat), restP read (signP l one other apart) turn k f i = some (es, j) → szEs es + es.length + 2 * preS l i ≤ 2 * preS l j
 | 0, i, es, j, h => by
   rw [restP] at h
   obtain ⟨rfl, rfl⟩ := Prod.mk.inj (Option.some.inj h)
   simp [szEs]
 | f + 1, i, es, j, h => by
   rw [restP] at h
   split at h
   · obtain ⟨rfl, rfl⟩ := Prod.mk.inj (Option.some.inj h)
     simp [szEs]
   · rename_i c s i2 hs
     split at h
     · cases h
     · rename_i e j2 hr
       obtain ⟨⟨es2, j3⟩, h2, h3⟩ := Option.map_eq_some_iff.1 h
       obtain ⟨rfl, rfl⟩ := Prod.mk.inj h3
       have g1 := sign_moves hs
       have g2 := hread _ _ _ hr
       have g3 := rest_size hread f j2 es2 j3 h2
       have g4 : szE (if c :: s = turn then .mk k 0 0 0 [e] else e) ≤ szE e + 1 := by
        split
        · rw [szE_mk, szEs_cons]
          simp [szEs]
        · omega
       dsimp only
       rw [szEs_cons, List.length_cons]
       omega
theorem single_size (k : Int) (x : Et) (es : List Et) : szE (single k (x :: es)) ≤ szE x + szEs es + es.length := by
 match es with
 | [] => simp [single, szEs]
 | y :: r =>
   show szE (.mk k 0 0 0 (x :: y :: r)) ≤ _
   rw [szE_mk, szEs_cons, List.length_cons]
   omega
theorem prod_size {f : Vt → Option Et} {l : List Vt} (hf : ∀ v ∈ l, ∀ x, f v = some x → szE x ≤ 2 * szV1 v) {i j : Nat} {e : Et} (h : prodP f l i = some (e, j)) : szE e + 2 * preS l i ≤ 2 * preS l j := by
 have hat : ∀ i x, opAt f l i = some x → szE x + 2 * preS l i ≤ 2 * preS l (i + 1) := fun i x hx => by
  unfold opAt at hx
  split at hx
  · cases hx
  · rename_i v hv
    have := hf v (List.mem_of_getElem? hv) x hx
    rw [preS_step hv]
    omega
 unfold prodP at h
 split at h
 · cases h
 · rename_i x0 hx0
   obtain ⟨⟨es, j2⟩, h2, h3⟩ := Option.map_eq_some_iff.1 h
   obtain ⟨rfl, rfl⟩ := Prod.mk.inj h3
   have g1 := hat _ _ hx0
   have g2 := rest_size (l := l) (fun i x j hr => by
    obtain ⟨x', hx', he⟩ := Option.map_eq_some_iff.1 hr
    obtain ⟨rfl, rfl⟩ := Prod.mk.inj he
    exact hat _ _ hx') _ _ _ _ h2
   have g3 := single_size 4 x0 es
   simp only at g2 g3 ⊢
   omega
theorem whole_size {f : Vt → Option Et} {l : List Vt} (hf : ∀ v ∈ l, ∀ x, f v = some x → szE x ≤ 2 * szV1 v) {e : Et} (h : wholeP f l = some e) : szE e ≤ 2 * szV l := by
 have hf2 : ∀ v ∈ trimV l, ∀ x, f v = some x → szE x ≤ 2 * szV1 v := fun v hv => hf v (mem_trim hv)
 have hsub := szV_sub (trim_sub l)
 unfold wholeP at h
 obtain ⟨m, hm⟩ : ∃ m, trimV l = m := ⟨_, rfl⟩
 rw [hm] at h hf2 hsub
 split at h
 · cases h
 · rename_i e1 j1 hs
   split at h
   · obtain rfl := Option.some.inj h
     unfold sumP at hs
     split at hs
     · cases hs
     · rename_i p0 j0 hp0
       obtain ⟨⟨es, j2⟩, h2, h3⟩ := Option.map_eq_some_iff.1 hs
       obtain ⟨rfl, rfl⟩ := Prod.mk.inj h3
       have g1 := prod_size hf2 hp0
       have g2 := rest_size (l := m) (fun i x j hr => prod_size hf2 hr) _ _ _ _ h2
       have g3 := single_size 2 p0 es
       have g4 := preS_all m j2
       simp only at g2 g3 ⊢
       omega
   · cases h
theorem split_size : ∀ (l cur : List Vt), ((splitG cur l).map szV).sum ≤ szV cur + szV l
 | [], cur => by
   have := szV_sub (trim_sub cur)
   simp [splitG, szV]
   omega
 | v :: r, cur => by
   rw [splitG]
   have hc : szV (v :: r) = szV1 v + szV r := by rw [szV]
   split
   · have := split_size r []
     have h2 := szV_sub (trim_sub cur)
     rw [List.map_cons, List.sum_cons]
     have h0 : szV ([] : List Vt) = 0 := by rw [szV]
     omega
   · have := split_size r (cur ++ [v])
     rw [szV_app, szV_one] at this
     omega
theorem mapO_size {f : List Vt → Option Et} : ∀ {ps : List (List Vt)} {es : List Et}, (∀ p ∈ ps, ∀ x, f p = some x → szE x ≤ 2 * szV p) → mapO f ps = some es → szEs es ≤ 2 * (ps.map szV).sum
 | [], es, _, h => by
   rw [mapO] at h
   obtain rfl := Option.some.inj h
   simp [szEs]
 | p :: r, es, hf, h => by
   rw [mapO] at h
   split at h
   · cases h
   · rename_i y hy
     obtain ⟨zs, h1, rfl⟩ := Option.map_eq_some_iff.1 h
     have g1 := mapO_size (fun q hq => hf q (List.mem_cons_of_mem _ hq)) h1
     have g2 := hf p List.mem_cons_self y hy
     rw [szEs_cons, List.map_cons, List.sum_cons]
     omega
theorem expr_size {f : Vt → Option Et} {t : Tk} {ks : List Vt} (hf : ∀ v ∈ ks, ∀ x, f v = some x → szE x ≤ 2 * szV1 v) {e : Et} (h : exprF (wholeP f) t ks = some e) : szE e ≤ 2 * szV1 (.mk t ks) := by
 rw [szV1_mk]
 have hn : ∀ r u, szE (numE r u) = 1 := fun r u => by rw [numE, szE_mk]; simp [szEs]
 unfold exprF at h
 split at h
 · obtain rfl := Option.some.inj h
   rw [hn]
   omega
 · split at h
   · split at h
     · cases h
     · obtain rfl := Option.some.inj h
       rw [hn]
       omega
   · split at h
     · split at h
       · have := whole_size hf h
         omega
       · split at h
         · cases h
         · split at h
           · cases h
           · rename_i es hes
             split at h
             · cases h
             · obtain rfl := Option.some.inj h
               have g1 := mapO_size (fun p hp x hx => whole_size (fun v hv => hf v (by
                rcases mem_split ks [] p hp v hv with h | h
                · cases h
                · exact h)) hx) hes
               have g2 := split_size ks []
               have h0 : szV ([] : List Vt) = 0 := by rw [szV]
               rw [szE_mk]
               unfold splitV at g1
               omega
     · cases h
theorem op_size : ∀ (m : Nat) (v : Vt) (e : Et), opF wholeP m v = some e → szE e ≤ 2 * szV1 v
 | 0, _, _, h => by rw [opF] at h; cases h
 | m + 1, .mk t ks, e, h => by
   rw [opF] at h
   split at h
   · have := whole_size (fun v _ x hx => op_size m v x hx) h
     rw [szV1_mk]
     omega
   · exact expr_size (fun v _ x hx => op_size m v x hx) h
theorem parse_size {h : Nat} {l : List Vt} {e : Et} (hp : parseF wholeP h l = (some e, 0)) : szE e ≤ 2 * szV l := by
 unfold parseF at hp
 split at hp
 · cases hp
 · split at hp
   · rename_i v hv
     split at hp
     · cases hp
     · rename_i e2 he
       obtain ⟨rfl, _⟩ : e2 = e ∧ True := ⟨Option.some.inj (Prod.mk.inj hp).1, trivial⟩
       have hs := szV_sub (trim_sub l)
       rw [hv, szV_one] at hs
       obtain ⟨t, ks⟩ := v
       cases h with
       | zero => rw [exF] at he; cases he
       | succ h =>
         rw [exF] at he
         have := expr_size (fun v _ x hx => op_size h v x hx) he
         omega
   · cases hp
mutual
theorem dep_in1 : ∀ (h : Nat) (v : Vl) (w : World), VlIn w h v → dep1 v.c ≤ h
 | 0, _, _, hv => hv.elim
 | h + 1, .mk t oa b o cap kids, w, hv => by
   rw [Vl.c_mk, dep1_mk]
   have := dep_in h kids w (fun i x hx => hv.2.2.2 i x hx)
   omega
theorem dep_in : ∀ (h : Nat) (l : List Vl) (w : World), (∀ (i : Nat) (x : Vl), l[i]? = some x → VlIn w h x) → depV (l.map Vl.c) ≤ h
 | h, [], _, _ => by simp [depV]
 | h, v :: r, w, hl => by
   rw [List.map_cons, depV_cons]
   have h1 := dep_in1 h v w (hl 0 v rfl)
   have h2 := dep_in h r w (fun i x hx => hl (i + 1) x (by simpa using hx))
   omega
end
/-- read again as it was -/
theorem read_again {h h2 : Nat} {l : List Vt} {e : Et} (hp : parseF wholeP h l = (some e, 0)) {g : Nat} (hw : Wr g e) (hN : depV (writtenV g e) ≤ h2) : parseF wholeP h2 (writtenV g e) = (some e, 0) := by
 obtain ⟨_, _, hm, _⟩ := parse_from hp
 obtain ⟨v, hv, hs, hx⟩ := text_back hw hN
 unfold parseF
 rw [hm g, if_neg (by decide), hv]
 have ht : trimV [v] = [v] := by
  unfold trimV frontV
  rw [List.dropWhile_cons, hs]
  simp [hs]
 rw [ht]
 simp only [hx]
/-- what is not written has a number that none is -/
theorem shape_in : ∀ (h f : Nat) (e : Ex) (w : World), ExIn w h e → shapeR f e.c = true → shapeR h e.c = true
 | 0, _, _, _, hx, _ => hx.elim
 | h + 1, 0, _, _, _, hs => by cases hs
 | h + 1, f + 1, .mk k n d u oa b o cap kids, w, hx, hs => by
   obtain ⟨_, _, _, _, _, _, _, h8⟩ := hx
   rw [Ex.c_mk, shapeR_L] at hs ⊢
   simp only [Bool.and_eq_true] at hs ⊢
   refine ⟨hs.1, ?_⟩
   have : ∀ (l : List Ex) (i : Nat), (∀ x ∈ l, ExIn w h x) → shapeRL f k i (l.map Ex.c) = true → shapeRL h k i (l.map Ex.c) = true := by
    intro l
    induction l with
    | nil => exact fun _ _ _ => rfl
    | cons x r ih =>
      intro i hl hr
      rw [List.map_cons, shapeRL] at hr ⊢
      simp only [Bool.and_eq_true] at hr ⊢
      exact ⟨⟨hr.1.1, shape_in h f x w (hl x List.mem_cons_self) hr.1.2⟩, ih _ (fun y hy => hl y (List.mem_cons_of_mem _ hy)) hr.2⟩
   refine this kids 0 (fun x hx => ?_) hs.2
   obtain ⟨i, hi⟩ := List.mem_iff_getElem?.1 hx
   exact (h8 i x hi).2
end Go.Proofs.YtplnhjmomomphaaGreatDoor
