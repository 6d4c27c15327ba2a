/- A world that has grown: what was there is as it was. A class of worlds for regions that draw their order and hold calls that make memory. No program here. -/
import Derived.WalkKit
import Derived.WalkSpells
import Derived.WalkLawsBesides
import Derived.BigQuiet
import Derived.Lib.Hide
namespace Go.Proofs.YtgjhaanpkfheeaaDoor
set_option linter.unusedVariables false
set_option linter.unusedSimpArgs false
open Go.RowKit

theorem below_drewN {B : Nat} {a w : World} (h : Below B a w) (n : Nat) : Below B a (w.drewN n) := ⟨h.os, h.tape, h.output, h.size, h.block⟩

/-- the worlds that have grown out of w -/
def Ext (w : World) : Type := { w' : World // Below w.heap.size w w' }
instance Ext.some (w : World) : Nonempty (Ext w) := ⟨⟨w, Below.refl _ _⟩⟩
def grow (w : World) (n : Ext w) : World := n.val

section
variable {w : World} (n : Ext w)
theorem grow_below : Below w.heap.size w (grow w n) := n.property
theorem grow_size : w.heap.size ≤ (grow w n).heap.size := n.property.size
@[go_sem] theorem cell_grow {a : Addr} (h : a.block < w.heap.size) : (grow w n).cell? a = w.cell? a := n.property.cell h
@[go_sem] theorem frozen_grow {a : Addr} (h : a.block < w.heap.size) : (grow w n).frozen? a = w.frozen? a := n.property.frozen h
@[go_sem] theorem lt_grow {k : Nat} (h : k < w.heap.size) : (k < (grow w n).heap.size) = True := eq_true (Nat.lt_of_lt_of_le h (grow_size n))
@[go_sem] theorem tape_grow : (grow w n).tape = w.tape := n.property.tape
end

/-- grown twice -/
def Ext.trans {w : World} (n : Ext w) (m : Ext (grow w n)) : Ext w := ⟨m.val, n.property.trans (m.property.mono n.property.size)⟩
@[go_sem] theorem grow_grow {w : World} (n : Ext w) (m : Ext (grow w n)) : grow (grow w n) m = grow w (n.trans m) := rfl

theorem below_grow {w w1 : World} (h : Below w.heap.size w w1) (n : Ext w1) : Below w.heap.size w (grow w1 n) := h.trans ((grow_below n).mono h.size)
theorem below_box (w : World) (o : Obj) : Below w.heap.size w (w.alloc o) := (Below.refl _ _).alloc (Nat.le_refl _) o

theorem grow_mk {w w' : World} (h : Below w.heap.size w w') : ∃ n, w' = grow w n := ⟨⟨w', h⟩, rfl⟩

/-- a contract, met in a world of the class -/
theorem calls_grow {P : Program} {f : FuncId} {args : Array Value} {w : World} {n : Ext w} {v : Value}
    (h : Calls P f args (grow w n) fun e w' => e = .returned v ∧ Below (grow w n).heap.size (grow w n) w') :
    Calls P f args (grow w n) fun e w'' => e = .returned v ∧ ∃ m, w'' = grow w m :=
  h.mono fun _ _ ⟨he, hb⟩ => ⟨he, grow_mk ((grow_below n).trans (hb.mono (grow_size n)))⟩

theorem calls_grow_same {P : Program} {f : FuncId} {args : Array Value} {w : World} {n : Ext w} {v : Value}
    (h : Calls P f args (grow w n) fun e w' => e = .returned v ∧ grow w n = w') :
    Calls P f args (grow w n) fun e w'' => e = .returned v ∧ ∃ m, w'' = grow w m :=
  h.mono fun _ _ ⟨he, hb⟩ => ⟨he, n, hb.symm⟩

/-- a region that draws its order, whose operations read what was there and call what only makes memory: one walk in the order of the text -/
theorem wp_region_grow {P : Program} {id : Nat} {Q : Exit → Act → World → Prop} {a : Act} {w : World} {l : List Oper} (hm : P.follows .mixedOrders = true) (hB : Region.lexB .any l.toArray = true)
    (h : wpQuiet P l.toArray (fun w' => ∃ n, w' = grow w n) (fun a' => ∀ w', (∃ n, w' = grow w n) → Q .normal a' w') l a) : (Code.region id l.toArray true).wp P Q a w :=
  wp_region_quiet (C := fun w' => ∃ n, w' = grow w n) hm hB (grow_mk (Below.refl _ _).drew) (by simpa using h)

/-! ### the same where the last operations write: each of them waits for all that stands ahead of it -/

/-- what stands in the place of the last operations: nothing -/
def hush (o : Oper) : Oper := { o with dst := none, op := .move (.const undef), guard := none }
def lastB (ops : Array Oper) (n : Nat) : Bool :=
  decide (n < ops.size) && (List.range ops.size).all fun i => match ops[i]? with
    | some o => (o.after.all fun e => !Region.binds .any e || decide (e.on < i)) && (match o.guard with | some g => decide (g.1 < n) && decide (i < n) | none => true) &&
        (decide (i < n) || (List.range i).all fun j => (List.range (i + 1)).any fun k => decide (j < k) && match ops[k]? with
          | some ok => ok.after.any fun e => Region.binds .any e && e.on == j
          | none => false)
    | none => false

section
variable {P : Program} {ops ops' : Array Oper} {n : Nat} {C : World → Prop}

theorem lastB_size (h : lastB ops n = true) : n < ops.size := by
  simp only [lastB, Bool.and_eq_true, decide_eq_true_eq] at h; exact h.1
theorem lastB_at (h : lastB ops n = true) {i : Nat} {o : Oper} (ho : ops[i]? = some o) :
    (∀ e ∈ o.after, Region.binds .any e = true → e.on < i) ∧ (∀ g, o.guard = some g → g.1 < n ∧ i < n) ∧ (n ≤ i → ∀ j, j < i → ∃ k ok, j < k ∧ k ≤ i ∧ ops[k]? = some ok ∧ ∃ e ∈ ok.after, Region.binds .any e = true ∧ e.on = j) := by
  simp only [lastB, Bool.and_eq_true, decide_eq_true_eq, List.all_eq_true, List.mem_range] at h
  have hi : i < ops.size := (Array.getElem?_eq_some_iff.1 ho).1
  have h2 := h.2 i hi
  rw [ho] at h2
  simp only [Bool.and_eq_true] at h2
  refine ⟨fun e he hb => ?_, fun g hg => ?_, fun hin j hj => ?_⟩
  · have := Array.all_eq_true_iff_forall_mem.1 h2.1.1 e he
    simpa [hb] using this
  · have := h2.1.2
    rw [hg] at this
    simpa using this
  · have := h2.2
    have hlt : decide (i < n) = false := by simp; omega
    rw [hlt] at this
    simp only [Bool.false_or, List.all_eq_true, List.mem_range] at this
    obtain ⟨k, hk, hk2⟩ := List.any_eq_true.1 (this j hj)
    simp only [Bool.and_eq_true, decide_eq_true_eq] at hk2
    cases hok : ops[k]? with
    | none => rw [hok] at hk2; cases hk2.2
    | some ok =>
      rw [hok] at hk2
      obtain ⟨e, he, hb⟩ := Array.any_eq_true'.1 hk2.2
      simp only [Bool.and_eq_true, beq_iff_eq] at hb
      exact ⟨k, ok, hk2.1, by have := List.mem_range.1 hk; omega, hok, e, he, hb.1, hb.2⟩

/-- what has come up has all that it waits for behind it -/
def Closed (ops : Array Oper) (listed : Array Bool) : Prop := ∀ j oj, ops[j]? = some oj → listed.getD j false = true → ∀ e ∈ oj.after, Region.binds .any e = true → listed.getD e.on false = true

theorem all_come (hB : lastB ops n = true) {listed : Array Bool} (hC : Closed ops listed) {i : Nat} {oi : Oper} (hi : n ≤ i) (hoi : ops[i]? = some oi) (hall : ∀ e ∈ oi.after, Region.binds .any e = true → listed.getD e.on false = true) :
    ∀ (d j : Nat), i - j = d → j < i → listed.getD j false = true := by
  intro d
  induction d using Nat.strongRecOn with
  | _ d ih =>
    intro j hd hj
    obtain ⟨k, ok, hjk, hki, hok, e, he, hb, hon⟩ := (lastB_at hB hoi).2.2 hi j hj
    by_cases hk : k = i
    · subst hk
      have : ok = oi := Option.some.inj (hok.symm.trans hoi)
      subst this
      have h := hall e he hb
      rwa [hon] at h
    · have h1 := ih (i - k) (by omega) k rfl (by omega)
      have h := hC k ok hok h1 e he hb
      rwa [hon] at h

theorem Closed.set {listed : Array Bool} (hC : Closed ops listed) {i : Nat} (hi : i ∈ Region.ready .any ops listed) : Closed ops (listed.setIfInBounds i true) := by
  obtain ⟨_, oi, hoi, hall⟩ := mem_ready.1 hi
  intro j oj hj hl e he hb
  by_cases hij : i = j
  · subst hij
    have : oj = oi := Option.some.inj (hj.symm.trans hoi)
    subst this
    exact getD_set_true (hall e he hb)
  · rw [getD_set_ne false hij] at hl
    exact getD_set_true (hC j oj hj hl e he hb)

/-- the region's head, with nothing behind it -/
def headOf (l : List Oper) (n : Nat) (o : Oper) : List Oper := l.take n ++ [hush o]

theorem head_get {l : List Oper} (o : Oper) (ho : l[n]? = some o) (i : Nat) : (headOf l n o).toArray[i]? = if i < n then l.toArray[i]? else if i = n then some (hush o) else none := by
  have hn : n < l.length := (List.getElem?_eq_some_iff.1 ho).1
  have ht : (l.take n).length = n := by simp; omega
  unfold headOf
  simp only [List.getElem?_toArray]
  by_cases h : i < n
  · rw [if_pos h, List.getElem?_append_left (by omega), List.getElem?_take, if_pos h]
  · rw [if_neg h, List.getElem?_append_right (by omega), ht]
    by_cases h2 : i = n
    · subst h2; simp
    · rw [if_neg h2, List.getElem?_eq_none]
      simp; omega

/-- two lists of what has come up agree on the head; of the tail nothing has -/
structure Agree (ops : Array Oper) (n : Nat) (big small : Array Bool) : Prop where
  size : big.size = ops.size
  size' : small.size = n + 1
  same : ∀ i, i ≤ n → big.getD i false = small.getD i false
  tail : ∀ i, n ≤ i → big.getD i false = false
  closed : Closed ops big

theorem getD_both' {l : Array Bool} {i : Nat} (h : i < l.size) : l.getD i true = l.getD i false := by simp [h]

theorem head_ready {l : List Oper} (o : Oper) (ho : l[n]? = some o) (hB : lastB l.toArray n = true) {big small : Array Bool} (hA : Agree l.toArray n big small) (i : Nat) :
    i ∈ Region.ready .any l.toArray big ↔ i ∈ Region.ready .any (headOf l n o).toArray small := by
  have hn := lastB_size hB
  rw [mem_ready, mem_ready, head_get o ho]
  by_cases h : i < n
  · rw [if_pos h]
    have e1 : big.getD i true = small.getD i true := by
      rw [getD_both' (by rw [hA.size]; omega), getD_both' (by rw [hA.size']; omega)]; exact hA.same i (by omega)
    rw [e1]
    refine and_congr Iff.rfl ⟨fun ⟨oi, hoi, hall⟩ => ⟨oi, hoi, fun e he hb => ?_⟩, fun ⟨oi, hoi, hall⟩ => ⟨oi, hoi, fun e he hb => ?_⟩⟩
    · rw [← hA.same e.on (by have := (lastB_at hB hoi).1 e he hb; omega)]; exact hall e he hb
    · rw [hA.same e.on (by have := (lastB_at hB hoi).1 e he hb; omega)]; exact hall e he hb
  · rw [if_neg h]
    by_cases h2 : i = n
    · subst h2
      have e1 : big.getD i true = small.getD i true := by
        rw [getD_both' (by rw [hA.size]; omega), getD_both' (by rw [hA.size']; omega)]; exact hA.same i (by omega)
      rw [e1, if_pos rfl]
      have ho' : l.toArray[i]? = some o := by simpa using ho
      simp only [ho', Option.some.injEq, exists_eq_left', hush]
      refine and_congr Iff.rfl ⟨fun hall e he hb => ?_, fun hall e he hb => ?_⟩
      · rw [← hA.same e.on (by have := (lastB_at hB ho').1 e he hb; omega)]; exact hall e he hb
      · rw [hA.same e.on (by have := (lastB_at hB ho').1 e he hb; omega)]; exact hall e he hb
    · rw [if_neg h2]
      refine ⟨fun ⟨h3, oi, hoi, hall⟩ => ?_, fun ⟨_, oi, hoi, _⟩ => by cases hoi⟩
      have := all_come hB hA.closed (show n ≤ i by omega) hoi hall _ n rfl (by omega)
      rw [hA.tail n (Nat.le_refl _)] at this
      cases this

/-- the least that has not come up may come up -/
theorem some_ready (hB : lastB ops n = true) (listed : Array Bool) (hsz : listed.size = ops.size) : ∀ (d i : Nat), i < ops.size → i = d → listed.getD i false = false → ∃ j, j ∈ Region.ready .any ops listed := by
  intro d
  induction d using Nat.strongRecOn with
  | _ d ih =>
    intro i hi hd hl
    obtain ⟨o, ho⟩ : ∃ o, ops[i]? = some o := ⟨ops[i], Array.getElem?_eq_getElem hi⟩
    by_cases hall : ∀ e ∈ o.after, Region.binds .any e = true → listed.getD e.on false = true
    · refine ⟨i, mem_ready.2 ⟨?_, o, ho, hall⟩⟩
      rw [getD_both' (by omega)]; exact hl
    · have : ∃ e ∈ o.after, Region.binds .any e = true ∧ listed.getD e.on false = false := by
        apply Classical.byContradiction
        intro hno
        exact hall fun e he hb => by
          cases hx : listed.getD e.on false with
          | true => rfl
          | false => exact absurd ⟨e, he, hb, hx⟩ hno
      obtain ⟨e, he, hb, hx⟩ := this
      have hlt := (lastB_at hB ho).1 e he hb
      exact ih e.on (by omega) e.on (by omega) rfl hx

theorem head_wanted {l : List Oper} (o : Oper) (ho : l[n]? = some o) (hB : lastB l.toArray n = true) {i : Nat} {oi : Oper} (hi : l.toArray[i]? = some oi) (tmps : Array Value) :
    Region.wanted oi (yielded (headOf l n o).toArray tmps) = Region.wanted oi (yielded l.toArray tmps) := by
  have hg := (lastB_at hB hi).2.1
  unfold Region.wanted
  cases h : oi.guard with
  | none => rfl
  | some g =>
    have := (hg g h).1
    simp only [yielded, head_get o ho, this, if_true]

/-- the last operations, one behind the other -/
theorem wpAny_chain {Q' : Exit → Act → World → Prop} (hB : lastB ops n = true) : ∀ (l : List Oper) (k : Nat) (listed : Array Bool) (a : Act) (w : World), (∀ j, l[j]? = ops[k + j]?) → n ≤ k → listed.size = ops.size →
    (∀ j, j < k → j < ops.size → listed.getD j false = true) → (∀ j, k ≤ j → listed.getD j false = false) → wpList P ops Q' l a w → wpAny P .any ops Q' l.length listed a w
  | [], k, listed, a, w, hl, hk, hsz, hyes, hno, h => by
    have hks : ops.size ≤ k := by
      rcases Nat.lt_or_ge k ops.size with h1 | h1
      · have := hl 0
        rw [Nat.add_zero, Array.getElem?_eq_getElem h1] at this
        cases this
      · exact h1
    refine ⟨List.eq_nil_iff_forall_not_mem.2 fun j hj => ?_, h⟩
    obtain ⟨h1, oj, hoj, _⟩ := mem_ready.1 hj
    have hjs : j < ops.size := (Array.getElem?_eq_some_iff.1 hoj).1
    rw [getD_both' (by omega), hyes j (by omega) hjs] at h1
    cases h1
  | o :: l, k, listed, a, w, hl, hk, hsz, hyes, hno, h => by
    have h0 : ops[k]? = some o := by simpa using (hl 0).symm
    have hks : k < ops.size := (Array.getElem?_eq_some_iff.1 h0).1
    have hone : ∀ i ∈ Region.ready .any ops listed, i = k := fun i hi => by
      obtain ⟨h1, oi, hoi, hall⟩ := mem_ready.1 hi
      have his : i < ops.size := (Array.getElem?_eq_some_iff.1 hoi).1
      rw [getD_both' (by omega)] at h1
      have hik : k ≤ i := by
        rcases Nat.lt_or_ge i k with h2 | h2
        · rw [hyes i h2 his] at h1; cases h1
        · exact h2
      rcases Nat.eq_or_lt_of_le hik with h2 | h2
      · exact h2.symm
      · have hcl : Closed ops listed := fun j oj hj hlj e he hb => by
          have h3 := (lastB_at hB hj).1 e he hb
          have hjs : j < ops.size := (Array.getElem?_eq_some_iff.1 hj).1
          rcases Nat.lt_or_ge j k with h4 | h4
          · exact hyes e.on (by omega) (by omega)
          · rw [hno j h4] at hlj; cases hlj
        have := all_come hB hcl (show n ≤ i by omega) hoi hall _ k rfl h2
        rw [hno k (Nat.le_refl _)] at this
        cases this
    refine ⟨fun hnil => ?_, fun i hi => ?_⟩
    · obtain ⟨j, hj⟩ := some_ready hB listed hsz k k hks rfl (hno k (Nat.le_refl _))
      rw [hnil] at hj; cases hj
    · have hik := hone i hi
      subst hik
      have hw : wpOp P ops Q' i (wpList P ops Q' l) a w := by unfold wpOp; simp only [h0]; exact h
      refine wpOp_mono (fun a' w' h' => wpAny_chain hB l (i + 1) _ a' w' (fun j => by have := hl (j + 1); simpa [Nat.add_assoc, Nat.add_comm 1 j] using this) (by omega) (by simpa using hsz) (fun j hj hjs => ?_) (fun j hj => ?_) h') hw
      · by_cases hji : j = i
        · subst hji; have : j < listed.size := by omega
          simp [this]
        · rw [getD_set_ne false (Ne.symm hji)]; exact hyes j (by omega) hjs
      · rw [getD_set_ne false (by omega)]; exact hno j (by omega)

theorem wpAny_last {Q' : Exit → Act → World → Prop} {l : List Oper} (o : Oper) (ho : l[n]? = some o) (hB : lastB l.toArray n = true) :
    ∀ (f : Nat) (big small : Array Bool) (a : Act) (w : World), C w → Agree l.toArray n big small → big.getD n false = false →
      (∀ i, i < n → big.getD i false = true ∨ big.getD i false = false) →
      wpAnyQ P .any (headOf l n o).toArray C (fun a' => ∀ w', C w' → wpList P l.toArray Q' (l.drop n) a' w') f small a → wpAny P .any l.toArray Q' (f + (l.length - n - 1)) big a w := by
  have hn : n < l.length := by simpa using lastB_size hB
  have ho' : l.toArray[n]? = some o := by simpa using ho
  have hne : ∀ big small : Array Bool, Agree l.toArray n big small → Region.ready .any (headOf l n o).toArray small ≠ [] := fun big small hA h0 => by
    obtain ⟨j, hj⟩ := some_ready hB big hA.size n n (by simpa using hn) rfl (hA.tail n (Nat.le_refl _))
    rw [head_ready o ho hB hA, h0] at hj
    cases hj
  intro f
  induction f with
  | zero =>
    intro big small a w _ hA _ _ h
    exact absurd h.1 (hne _ _ hA)
  | succ f ih =>
    intro big small a w hC hA hl hall2 h
    rw [show f + 1 + (l.length - n - 1) = (f + (l.length - n - 1)) + 1 by omega]
    refine ⟨fun h0 => ?_, fun i hi => ?_⟩
    · obtain ⟨j, hj⟩ := some_ready hB big hA.size n n (by simpa using hn) rfl (hA.tail n (Nat.le_refl _))
      rw [h0] at hj; cases hj
    have hi' := (head_ready o ho hB hA i).1 hi
    have hq := h.2 i hi'
    by_cases hin : i = n
    · subst hin
      -- all of the head has come up
      have hyes : ∀ j, j < i → big.getD j false = true := fun j hj => by
        obtain ⟨_, o2, ho2, hall⟩ := mem_ready.1 hi
        have : o2 = o := Option.some.inj (ho2.symm.trans ho')
        subst this
        exact all_come hB hA.closed (Nat.le_refl _) ho' hall _ j rfl hj
      have hdone' : Region.ready .any (headOf l i o).toArray (small.setIfInBounds i true) = [] := by
        refine List.eq_nil_iff_forall_not_mem.2 fun j hj => ?_
        obtain ⟨h1, oj, hoj, _⟩ := mem_ready.1 hj
        rw [head_get o ho] at hoj
        by_cases hji : j = i
        · subst hji
          have : j < small.size := by rw [hA.size']; omega
          simp [this] at h1
        · have hjlt : j < i := by
            rcases Nat.lt_or_ge j i with h2 | h2
            · exact h2
            · rw [if_neg (by omega), if_neg hji] at hoj; cases hoj
          rw [getD_set_ne true (Ne.symm hji), getD_both' (by rw [hA.size']; omega), ← hA.same j (by omega), hyes j hjlt] at h1
          cases h1
      have hlast : wpList P l.toArray Q' (l.drop i) a w := by
        have hq2 : wpAnyQ P .any (headOf l i o).toArray C (fun a' => ∀ w', C w' → wpList P l.toArray Q' (l.drop i) a' w') f (small.setIfInBounds i true) a := by
          unfold qOp at hq
          rw [head_get o ho, if_neg (Nat.lt_irrefl _), if_pos rfl] at hq
          simp only [hush, Region.wanted, if_true] at hq
          obtain ⟨v, _, hv⟩ := hq
          exact hv
        cases f with
        | zero => exact hq2.2 w hC
        | succ f => exact hq2.1 hdone' w hC
      have hdrop : l.drop i = o :: l.drop (i + 1) := by
        rw [List.drop_eq_getElem_cons hn]
        congr 1
        exact Option.some.inj ((List.getElem?_eq_getElem hn).symm.trans ho)
      rw [hdrop] at hlast
      have hw : wpOp P l.toArray Q' i (wpList P l.toArray Q' (l.drop (i + 1))) a w := by unfold wpOp; simp only [ho']; exact hlast
      refine wpOp_mono (fun a' w' h' => ?_) hw
      have hch := wpAny_chain (P := P) (Q' := Q') hB (l.drop (i + 1)) (i + 1) (big.setIfInBounds i true) a' w' (fun j => by simp [List.getElem?_drop]) (by omega) (by simpa using hA.size) (fun j hj hjs => ?_) (fun j hj => ?_) h'
      · have hlen : (l.drop (i + 1)).length = l.length - i - 1 := by simp; omega
        rw [hlen] at hch
        exact wpAny_more hch
      · by_cases hji : j = i
        · subst hji; have : j < big.size := by rw [hA.size]; omega
          simp [this]
        · rw [getD_set_ne false (Ne.symm hji)]; exact hyes j (by omega)
      · rw [getD_set_ne false (by omega)]; exact hA.tail j (by omega)
    · have hilt : i < n := by
        obtain ⟨_, oj, hoj, _⟩ := mem_ready.1 hi'
        rw [head_get o ho] at hoj
        rcases Nat.lt_or_ge i n with h2 | h2
        · exact h2
        · rw [if_neg (by omega), if_neg hin] at hoj; cases hoj
      have hget : (headOf l n o).toArray[i]? = l.toArray[i]? := by rw [head_get o ho, if_pos hilt]
      refine wpOp_of_qOp (C := C) (K := wpAnyQ P .any (headOf l n o).toArray C (fun a' => ∀ w', C w' → wpList P l.toArray Q' (l.drop n) a' w') f (small.setIfInBounds i true)) hC (fun a' w' hC' h4 => ih _ _ a' w' hC' ⟨by simpa using hA.size, by simpa using hA.size', fun j hj => ?_, fun j hj => by rw [getD_set_ne false (by omega)]; exact hA.tail j hj, hA.closed.set hi⟩ (by rw [getD_set_ne false hin]; exact hl) (fun j _ => by cases (big.setIfInBounds i true).getD j false <;> simp) h4) ?_
      · by_cases hji : i = j
        · subst hji
          have h1 : i < big.size := by rw [hA.size]; simp; omega
          have h2 : i < small.size := by rw [hA.size']; omega
          simp [h1, h2]
        · rw [getD_set_ne false hji, getD_set_ne false hji]; exact hA.same j hj
      · unfold qOp at hq ⊢
        rw [hget] at hq
        cases hx : l.toArray[i]? with
        | none => rw [hx] at hq; exact hq
        | some oi =>
          rw [hx] at hq
          simp only at hq ⊢
          rw [← head_wanted o ho hB hx]
          exact hq
where
  wpAny_more {Q' : Exit → Act → World → Prop} {ops : Array Oper} {g f : Nat} {listed : Array Bool} {a : Act} {w : World} (h : wpAny P .any ops Q' g listed a w) : wpAny P .any ops Q' (f + g) listed a w := by
    induction f with
    | zero => rwa [Nat.zero_add]
    | succ f ih => rw [show f + 1 + g = (f + g) + 1 by omega]; exact wpAny_up ih
  wpAny_up {Q' : Exit → Act → World → Prop} {ops : Array Oper} : ∀ {g : Nat} {listed : Array Bool} {a : Act} {w : World}, wpAny P .any ops Q' g listed a w → wpAny P .any ops Q' (g + 1) listed a w
    | 0, listed, a, w, h => ⟨fun _ => h.2, fun i hi => by rw [h.1] at hi; cases hi⟩
    | g + 1, listed, a, w, h => ⟨h.1, fun i hi => wpOp_mono (fun a' w' h' => wpAny_up h') (h.2 i hi)⟩

end

/-- a region that draws its order, whose operations but the last ones read what was there and call what only makes memory -/
theorem wp_region_last {P : Program} {id : Nat} {Q : Exit → Act → World → Prop} {a : Act} {w : World} {l : List Oper} (n : Nat) (o : Oper) (hm : P.follows .mixedOrders = true)
    (ho : l[n]? = some o) (hB : Region.lexB .any (headOf l n o).toArray = true) (hL : lastB l.toArray n = true)
    (h : wpQuiet P (headOf l n o).toArray (fun w' => ∃ n, w' = grow w n) (fun a' => ∀ w', (∃ n, w' = grow w n) → wpList P l.toArray Q (l.drop n) a' w') (headOf l n o) a) : (Code.region id l.toArray true).wp P Q a w := by
  simp only [Region.lexB, Bool.and_eq_true] at hB
  have hn : n < l.length := by simpa using lastB_size hL
  have hsz : (headOf l n o).toArray.size = n + 1 := by simp [headOf]; omega
  have hrep : ∀ (m i : Nat), (Array.replicate m false).getD i false = false := fun m i => by by_cases h : i < m <;> simp [h]
  refine wp_region_any hm ?_
  have h1 := wpAny_last (P := P) (Q' := Q) (C := fun w' => ∃ n, w' = grow w n) o ho hL (headOf l n o).toArray.size (Array.replicate l.toArray.size false) (Array.replicate (headOf l n o).toArray.size false) a { w with drawn := w.drawn + 1 } (grow_mk (Below.refl _ _).drew)
    ⟨by simp, by simpa using hsz, fun i _ => by rw [hrep, hrep], fun i _ => hrep _ _, fun j oj _ hl => by rw [hrep] at hl; cases hl⟩ (hrep _ _) (fun i _ => .inr (hrep _ _)) ?_
  · rw [hsz] at h1
    rwa [show n + 1 + (l.length - n - 1) = l.toArray.size by simp; omega] at h1
  · have := wpAnyQ_lex (md := .any) hB.1 (headOf l n o) 0 (Array.replicate (headOf l n o).toArray.size false) a (by simp) (by simpa using hB.2) h
    simpa using this

end Go.Proofs.YtgjhaanpkfheeaaDoor
