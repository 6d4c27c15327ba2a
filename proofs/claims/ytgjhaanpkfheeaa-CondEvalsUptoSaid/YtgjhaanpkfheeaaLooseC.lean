/- What is made in a region that draws its order: a call's value of which something is known; a new slice of such values. -/
import Derived.Test.YtgjhaanpkfheeaaLooseB
namespace Go.Proofs.Ytgjhaanpkfheeaa
set_option linter.unusedVariables false
set_option linter.unusedSimpArgs false
open Go.RowKit

/-- a call whose value is one of some -/
def Loose.val (i : Nat) (d : Tmp) (φ : Value → Prop) : Loose := ⟨i, d, none, fun v _ => φ v, fun _ => none, fun _ _ _ h _ => h⟩
theorem Loose.val_i (i : Nat) (d : Tmp) (φ : Value → Prop) : (Loose.val i d φ).i = i := rfl
theorem Loose.val_hush (i : Nat) (d : Tmp) (φ : Value → Prop) (o : Oper) : (Loose.val i d φ).hush o = { o with dst := none, op := .move (.const undef), guard := none } := rfl
theorem fill_val (V : Nat → Value) (i : Nat) (d : Tmp) (φ : Value → Prop) (cl : List Loose) (a : Act) : fill V (Loose.val i d φ :: cl) a = fill V cl (a.put (some d) (V i)) := rfl
theorem laws_val (V : Nat → Value) (w : World) (i : Nat) (d : Tmp) (φ : Value → Prop) (cl : List Loose) : lawsL V w (Loose.val i d φ :: cl) = (φ (V i) ∧ lawsL V w cl) := rfl
theorem dist_val (V : Nat → Value) (i : Nat) (d : Tmp) (φ : Value → Prop) (cl : List Loose) : distL V (Loose.val i d φ :: cl) = distL V cl := by
  have h : ∀ cl : List Loose, distL1 V (Loose.val i d φ) cl := fun cl => distL1_of fun L' _ k k' h => by cases h
  simp [distL, h]
theorem dist1_val (V : Nat → Value) (L : Loose) (i : Nat) (d : Tmp) (φ : Value → Prop) (cl : List Loose) : distL1 V L (Loose.val i d φ :: cl) = distL1 V L cl := by
  have h : ∀ k k', L.own (V L.i) = some k → (Loose.val i d φ).own (V i) = some k' → k ≠ k' := fun k k' _ h => by cases h
  exact propext ⟨fun h2 => h2.2, fun h2 => ⟨h, h2⟩⟩
theorem post_val {i : Nat} {d : Tmp} {φ : Value → Prop} {v : Value} {F : Act} {w w' : World} {a : Act} (h : a = F.put (some d) v) (hv : φ v) (hb : Below w.heap.size w w') : PostL (Loose.val i d φ) F w .normal a w' :=
  ⟨rfl, _, h, hb, hv, fun k hk => (by cases hk), fun c2 hc => (by cases hc)⟩

/-- a new row of cells that are some, and a slice of all of it -/
def Loose.rowS (i : Nat) (d : Tmp) (t : TypeId) (k : Nat) (φ : Array Value → Prop) (k0 : Nat) : Loose :=
  ⟨i, d, none, fun v w => ∃ b cs, v = .slice (some ⟨b, 0, none⟩) k k ∧ k0 ≤ b ∧ φ cs ∧ Blk w b t cs, ownS, fun _ _ _ ⟨b, cs, h1, h0, hc, h2⟩ hb => ⟨b, cs, h1, h0, hc, h2.below hb h2.lt⟩⟩
theorem Loose.rowS_i (i : Nat) (d : Tmp) (t : TypeId) (k : Nat) (φ : Array Value → Prop) (k0 : Nat) : (Loose.rowS i d t k φ k0).i = i := rfl
theorem Loose.rowS_hush (i : Nat) (d : Tmp) (t : TypeId) (k : Nat) (φ : Array Value → Prop) (k0 : Nat) (o : Oper) : (Loose.rowS i d t k φ k0).hush o = { o with dst := none, op := .move (.const undef), guard := none } := rfl
theorem fill_rowS (V : Nat → Value) (i : Nat) (d : Tmp) (t : TypeId) (k : Nat) (φ : Array Value → Prop) (k0 : Nat) (cl : List Loose) (a : Act) : fill V (Loose.rowS i d t k φ k0 :: cl) a = fill V cl (a.put (some d) (V i)) := rfl
theorem laws_rowS (V : Nat → Value) (w : World) (i : Nat) (d : Tmp) (t : TypeId) (k : Nat) (φ : Array Value → Prop) (k0 : Nat) (cl : List Loose) : lawsL V w (Loose.rowS i d t k φ k0 :: cl) = ((∃ b cs, V i = .slice (some ⟨b, 0, none⟩) k k ∧ k0 ≤ b ∧ φ cs ∧ Blk w b t cs) ∧ lawsL V w cl) := rfl
theorem dist_rowS (V : Nat → Value) (i : Nat) (d : Tmp) (t : TypeId) (k : Nat) (φ : Array Value → Prop) (k0 : Nat) (cl : List Loose) : distL V (Loose.rowS i d t k φ k0 :: cl) = (distL1 V (Loose.rowS i d t k φ k0) cl ∧ distL V cl) := rfl
theorem post_rowS {k0 : Nat} {i : Nat} {d : Tmp} {t : TypeId} {k : Nat} {φ : Array Value → Prop} {cs : Array Value} {F : Act} {w : World} {a : Act} (h : a = F.put (some d) (.slice (some ⟨w.heap.size, 0, none⟩) k k)) (hk : k0 ≤ w.heap.size) (hc : φ cs) : PostL (Loose.rowS i d t k φ k0) F w .normal a (w.alloc (.cells cs t)) :=
  ⟨rfl, _, h, below_box _ _, ⟨_, _, rfl, hk, hc, Blk.new _ _ _⟩, fun k2 hk => by
    simp only [Loose.rowS, ownS, Option.some.injEq] at hk
    subst hk
    simp, fun c hc => by cases hc⟩

end Go.Proofs.Ytgjhaanpkfheeaa
