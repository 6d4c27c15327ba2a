/- The library's names, shorter. -/
namespace Go.Proofs.YtnanffmhbjdpaaaGreatDoor
theorem Q2:∀ {α : Type _} (l : List α) (i : Nat) (a : α), l.toArray.setIfInBounds i a = (l.set i a).toArray:=@List.setIfInBounds_toArray
theorem Q3:∀ {a b : Prop}, a → b → a ∧ b:=@And.intro
theorem Q4:∀ {α : Type _} {x : α} {xs : List α} {a : α}, (x :: xs).set 0 a = a :: xs:=@List.set_cons_zero
theorem Q5:∀ {α : Type _} {x : α} {xs : List α} {i : Nat} {a : α}, (x :: xs).set (i + 1) a = x :: xs.set i a:=@List.set_cons_succ
theorem Q6:∀ (n : Nat), n ≤ n:=@Nat.le_refl
theorem Q8:∀ {α : Type _} {val val_1 : α}, some val = some val_1 → val = val_1:=@Option.some.inj
theorem Q9:∀ {α : Type _} {l : List α} {i : Nat} (h : i < l.length), l[i]? = some l[i]:=@List.getElem?_eq_getElem
theorem Qd:∀ {α : Type _} {as bs : List α}, (as ++ bs).length = as.length + bs.length:=@List.length_append
theorem Qe:∀ (a b : Bool), ((a && b) = true) = (a = true ∧ b = true):=@Bool.and_eq_true
theorem Qg:∀ {n m k : Nat}, n < m → m ≤ k → n < k:=@Nat.lt_of_lt_of_le
theorem Qh:∀ {α : Type _} {a b : α}, a ∈ [b] ↔ a = b:=@List.mem_singleton
theorem Qi:∀ {α : Type _} {a : α}, [a].length = 1:=@List.length_singleton
theorem Qj:∀ {α : Type _} {β : Type _} {as : List α} (f : α → β), (List.map f as).length = as.length:=@List.length_map
theorem Qn:∀ {α : Type _} {i : Nat} {a : α} {l : List α}, l[i]? = some a ↔ ∃ h, l[i] = a:=@List.getElem?_eq_some_iff
theorem Qo:∀ {α : Type _} {a : α} {i : Nat} {l : List α}, (a :: l)[i + 1]? = l[i]?:=@List.getElem?_cons_succ
theorem Qp:∀ {α : Type _} {xs : List α} {i : Nat}, xs.toArray[i]? = xs[i]?:=@List.getElem?_toArray
theorem Qq:∀ {α : Type _} {a : α} {l : List α}, (a :: l)[0]? = some a:=@List.getElem?_cons_zero
theorem Qr:∀ {n m : Nat}, n = m → n ≤ m:=@Nat.le_of_eq
theorem Qs:∀ (n : Nat), 0 ≤ n:=@Nat.zero_le
theorem Qt:∀ {a b : Bool}, a = b ↔ (a = true ↔ b = true):=@Bool.eq_iff_iff
theorem Qv:∀ {α : Type _} {i : Nat} {l : List α} (h : i < l.length), List.drop i l = l[i] :: List.drop (i + 1) l:=@List.drop_eq_getElem_cons
theorem Qz:∀ {n m k : Nat}, n ≤ m → m ≤ k → n ≤ k:=@Nat.le_trans
theorem Z0:∀ {α : Type _} {l₁ l₂ : List α} {i : Nat}, l₁.length ≤ i → (l₁ ++ l₂)[i]? = l₂[i - l₁.length]?:=@List.getElem?_append_right
theorem Z3:∀ {α : Type _} {as : List α} {i : Nat}, as.length ≤ i → List.drop i as = []:=@List.drop_eq_nil_of_le
theorem Z4:∀ {α : Type _} {a : α} {l : List α} {i : Nat}, List.drop (i + 1) (a :: l) = List.drop i l:=@List.drop_succ_cons
theorem Z5:∀ {α : Type _} {β : Type _} {f : α → β} {l : List α} {i : Nat}, (List.map f l)[i]? = Option.map f l[i]?:=@List.getElem?_map
theorem Z8:∀ {α : Type _} {a : α} {as : List α}, (a :: as).length = as.length + 1:=@List.length_cons
theorem Za:∀ (a b : Bool), ((a || b) = true) = (a = true ∨ b = true):=@Bool.or_eq_true
theorem Zb:∀ {α : Type _} {i : Nat} {l : List α}, (List.take i l).length = min i l.length:=@List.length_take
theorem Zc:∀ {α : Type _} {i : Nat} {l : List α}, l.length ≤ i → List.take i l = l:=@List.take_of_length_le
theorem Zd:∀ {α : Type _} {β : Type _} (f : α → List β) (x : α), List.flatMap f [x] = f x:=@List.flatMap_singleton
theorem Ze:∀ {α : Type _} {i : Nat} {l : List α} (h : i < l.length), List.take (i + 1) l = List.take i l ++ [l[i]]:=@List.take_succ_eq_append_getElem
theorem Zf:∀ {α : Type _} {l : List α} {i : Nat}, l.length ≤ i → l[i]? = none:=@List.getElem?_eq_none
theorem Zg:∀ {n m : Nat}, n < m → n ≤ m:=@Nat.le_of_lt
theorem Zh:∀ {α : Type _} {a : α} {s t : List α}, a ∈ s ++ t ↔ a ∈ s ∨ a ∈ t:=@List.mem_append
theorem Zk:∀ (n : Nat), n ≤ n.succ:=@Nat.le_succ
theorem Zo:∀ {α : Type _} {l : List α}, l.length = 1 ↔ ∃ a, l = [a]:=@List.length_eq_one_iff
theorem Zp:∀ {α : Type _} {β : Type _} {f : α → β} {l₁ l₂ : List α}, List.map f (l₁ ++ l₂) = List.map f l₁ ++ List.map f l₂:=@List.map_append
theorem Zt:∀ {α : Type _} {i : Nat} {b : α} {xs : Array α}, xs[i]? = some b ↔ ∃ h, xs[i] = b:=@Array.getElem?_eq_some_iff
theorem Zu:∀ {α : Type _} {i : Nat} {l : List α}, (List.drop i l).length = l.length - i:=@List.length_drop
end Go.Proofs.YtnanffmhbjdpaaaGreatDoor
