/- Of my texts: Grow. -/
import Derived.WalkKit
import Derived.WalkSpells
import Derived.WalkLawsBesides
import Derived.BigQuiet
import Derived.Lib.Hide
namespace Go.Proofs.Ytgjhaanpkfheeaa
set_option linter.unusedVariables false
set_option linter.unusedSimpArgs false
open Go.RowKit

/-- the worlds that have grown out of w -/
def Ext (w : World) : Type := { w' : World // Below w.heap.size w w' }
instance Ext.some (w : World) : Nonempty (Ext w) := ⟨⟨w, Below.refl _ _⟩⟩
def grow (w : World) (n : Ext w) : World := n.val

section
variable {w : World} (n : Ext w)
theorem grow_below : Below w.heap.size w (grow w n) := n.property
theorem grow_size : w.heap.size ≤ (grow w n).heap.size := n.property.size
@[go_sem] theorem cell_grow {a : Addr} (h : a.block < w.heap.size) : (grow w n).cell? a = w.cell? a := n.property.cell h
@[go_sem] theorem frozen_grow {a : Addr} (h : a.block < w.heap.size) : (grow w n).frozen? a = w.frozen? a := n.property.frozen h
@[go_sem] theorem lt_grow {k : Nat} (h : k < w.heap.size) : (k < (grow w n).heap.size) = True := eq_true (Nat.lt_of_lt_of_le h (grow_size n))
@[go_sem] theorem tape_grow : (grow w n).tape = w.tape := n.property.tape
end

/-- grown twice -/
def Ext.trans {w : World} (n : Ext w) (m : Ext (grow w n)) : Ext w := ⟨m.val, n.property.trans (m.property.mono n.property.size)⟩
@[go_sem] theorem grow_grow {w : World} (n : Ext w) (m : Ext (grow w n)) : grow (grow w n) m = grow w (n.trans m) := rfl

theorem below_grow {w w1 : World} (h : Below w.heap.size w w1) (n : Ext w1) : Below w.heap.size w (grow w1 n) := h.trans ((grow_below n).mono h.size)
theorem below_box (w : World) (o : Obj) : Below w.heap.size w (w.alloc o) := (Below.refl _ _).alloc (Nat.le_refl _) o

theorem grow_mk {w w' : World} (h : Below w.heap.size w w') : ∃ n, w' = grow w n := ⟨⟨w', h⟩, rfl⟩

/-- a contract, met in a world of the class -/
theorem calls_grow {P : Program} {f : FuncId} {args : Array Value} {w : World} {n : Ext w} {v : Value}
    (h : Calls P f args (grow w n) fun e w' => e = .returned v ∧ Below (grow w n).heap.size (grow w n) w') :
    Calls P f args (grow w n) fun e w'' => e = .returned v ∧ ∃ m, w'' = grow w m :=
  h.mono fun _ _ ⟨he, hb⟩ => ⟨he, grow_mk ((grow_below n).trans (hb.mono (grow_size n)))⟩

theorem calls_grow_same {P : Program} {f : FuncId} {args : Array Value} {w : World} {n : Ext w} {v : Value}
    (h : Calls P f args (grow w n) fun e w' => e = .returned v ∧ grow w n = w') :
    Calls P f args (grow w n) fun e w'' => e = .returned v ∧ ∃ m, w'' = grow w m :=
  h.mono fun _ _ ⟨he, hb⟩ => ⟨he, n, hb.symm⟩

/-- a region that draws its order, whose operations read what was there and call what only makes memory: one walk in the order of the text -/
theorem wp_region_grow {P : Program} {id : Nat} {Q : Exit → Act → World → Prop} {a : Act} {w : World} {l : List Oper} (hm : P.follows .mixedOrders = true) (hB : Region.lexB .any l.toArray = true)
    (h : wpQuiet P l.toArray (fun w' => ∃ n, w' = grow w n) (fun a' => ∀ w', (∃ n, w' = grow w n) → Q .normal a' w') l a) : (Code.region id l.toArray true).wp P Q a w :=
  wp_region_quiet (C := fun w' => ∃ n, w' = grow w n) hm hB (grow_mk (Below.refl _ _).drew) (by simpa using h)

/-- what stands in the place of the last operations: nothing -/
def hush (o : Oper) : Oper := { o with dst := none, op := .move (.const undef), guard := none }
section
variable {P : Program} {ops ops' : Array Oper} {n : Nat} {C : World → Prop}

/-- what has come up has all that it waits for behind it -/
def Closed (ops : Array Oper) (listed : Array Bool) : Prop := ∀ j oj, ops[j]? = some oj → listed.getD j false = true → ∀ e ∈ oj.after, Region.binds .any e = true → listed.getD e.on false = true

theorem Closed.set {listed : Array Bool} (hC : Closed ops listed) {i : Nat} (hi : i ∈ Region.ready .any ops listed) : Closed ops (listed.setIfInBounds i true) := by
  obtain ⟨_, oi, hoi, hall⟩ := mem_ready.1 hi
  intro j oj hj hl e he hb
  by_cases hij : i = j
  · subst hij
    have : oj = oi := Option.some.inj (hj.symm.trans hoi)
    subst this
    exact getD_set_true (hall e he hb)
  · rw [getD_set_ne false hij] at hl
    exact getD_set_true (hC j oj hj hl e he hb)

theorem getD_both' {l : Array Bool} {i : Nat} (h : i < l.size) : l.getD i true = l.getD i false := by simp [h]

end

end Go.Proofs.Ytgjhaanpkfheeaa
