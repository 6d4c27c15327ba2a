/- What is made in a region that draws its order: a variable's block. -/
import Derived.Test.YtgjhaanpkfheeaaDoorLoose
import Derived.Test.YtgjhaanpkfheeaaDoorWideC
namespace Go.Proofs.YtgjhaanpkfheeaaDoor
set_option linter.unusedVariables false
set_option linter.unusedSimpArgs false
open Go.RowKit

theorem Blk.new2 (w : World) (o : Obj) (t : TypeId) (cs : Array Value) : Blk ((w.alloc o).alloc (.cells cs t)) (w.heap.size + 1) t cs := by have := Blk.new (w.alloc o) t cs; simpa using this

def ownP (v : Value) : Option Nat := match v with
  | .pointer (some a) => some a.block
  | _ => none

/-- a new variable of cells cs -/
def Loose.cells (i : Nat) (d : Tmp) (t : TypeId) (cs : Array Value) (k0 : Nat) : Loose :=
  ⟨i, d, none, fun v w => ∃ b, v = .pointer (some ⟨b, 0, none⟩) ∧ k0 ≤ b ∧ Blk w b t cs, ownP, fun _ _ _ ⟨b, h1, h0, h2⟩ hb => ⟨b, h1, h0, h2.below hb h2.lt⟩⟩

theorem Loose.claim_i (i : Nat) (d : Tmp) (c : Value) : (Loose.claim i d c).i = i := rfl
theorem Loose.cells_i (k0 : Nat) (i : Nat) (d : Tmp) (t : TypeId) (cs : Array Value) : (Loose.cells i d t cs k0).i = i := rfl
theorem Loose.claim_hush (i : Nat) (d : Tmp) (c : Value) (o : Oper) : (Loose.claim i d c).hush o = { o with op := .move (.const c), guard := none } := rfl
theorem Loose.cells_hush (k0 : Nat) (i : Nat) (d : Tmp) (t : TypeId) (cs : Array Value) (o : Oper) : (Loose.cells i d t cs k0).hush o = { o with dst := none, op := .move (.const undef), guard := none } := rfl
theorem fill_nil (V : Nat → Value) (a : Act) : fill V [] a = a := rfl
theorem fill_claim (V : Nat → Value) (i : Nat) (d : Tmp) (c : Value) (cl : List Loose) (a : Act) : fill V (Loose.claim i d c :: cl) a = fill V cl a := rfl
theorem fill_cells (k0 : Nat) (V : Nat → Value) (i : Nat) (d : Tmp) (t : TypeId) (cs : Array Value) (cl : List Loose) (a : Act) : fill V (Loose.cells i d t cs k0 :: cl) a = fill V cl (a.put (some d) (V i)) := rfl
theorem laws_nil (V : Nat → Value) (w : World) : lawsL V w [] = True := rfl
theorem laws_claim (V : Nat → Value) (w : World) (i : Nat) (d : Tmp) (c : Value) (cl : List Loose) : lawsL V w (Loose.claim i d c :: cl) = lawsL V w cl := by
  simp [lawsL, Loose.claim]
theorem laws_cells (k0 : Nat) (V : Nat → Value) (w : World) (i : Nat) (d : Tmp) (t : TypeId) (cs : Array Value) (cl : List Loose) : lawsL V w (Loose.cells i d t cs k0 :: cl) = ((∃ b, V i = .pointer (some ⟨b, 0, none⟩) ∧ k0 ≤ b ∧ Blk w b t cs) ∧ lawsL V w cl) := rfl
theorem dist_nil (V : Nat → Value) : distL V [] = True := rfl
theorem dist1_nil (V : Nat → Value) (L : Loose) : distL1 V L [] = True := rfl
theorem dist_claim (V : Nat → Value) (i : Nat) (d : Tmp) (c : Value) (cl : List Loose) : distL V (Loose.claim i d c :: cl) = distL V cl := by
  have h : ∀ cl : List Loose, distL1 V (Loose.claim i d c) cl := fun cl => distL1_of fun L' _ k k' h => by cases h
  simp [distL, h]
theorem dist_cells (k0 : Nat) (V : Nat → Value) (i : Nat) (d : Tmp) (t : TypeId) (cs : Array Value) (cl : List Loose) : distL V (Loose.cells i d t cs k0 :: cl) = (distL1 V (Loose.cells i d t cs k0) cl ∧ distL V cl) := rfl
theorem dist1_claim (V : Nat → Value) (L : Loose) (i : Nat) (d : Tmp) (c : Value) (cl : List Loose) : distL1 V L (Loose.claim i d c :: cl) = distL1 V L cl := by
  have h : ∀ k k', L.own (V L.i) = some k → (Loose.claim i d c).own (V i) = some k' → k ≠ k' := fun k k' _ h => by cases h
  exact propext ⟨fun h2 => h2.2, fun h2 => ⟨h, h2⟩⟩
theorem dist1_cells (k0 : Nat) (j0 : Nat) (V : Nat → Value) (i j : Nat) (d e : Tmp) (t u : TypeId) (cs ds : Array Value) (cl : List Loose) : distL1 V (Loose.cells i d t cs k0) (Loose.cells j e u ds j0 :: cl) = ((∀ k k', ownP (V i) = some k → ownP (V j) = some k' → k ≠ k') ∧ distL1 V (Loose.cells i d t cs k0) cl) := rfl
theorem obs_nil (P : Program) (l : List Oper) (V : Nat → Value) (w' : World) (F : Act) (all : List Loose) : obsL P l V w' F all [] = True := rfl
theorem obs_cons (P : Program) (l : List Oper) (V : Nat → Value) (w' : World) (F : Act) (all : List Loose) (L : Loose) (cl : List Loose) :
    obsL P l V w' F all (L :: cl) = ((match l[L.i]? with | some o => waitsL V w' o all → (match o.guard with | none => wpList P l.toArray (PostL L F w') [o] F w' | some _ => Region.wanted o (yielded l.toArray F.tmps) = true ∧ wpList P l.toArray (PostL L F w') [o] F w') | none => True) ∧ obsL P l V w' F all cl) := rfl

/-- a new row of cells cs, and a slice of all of it -/
def ownS (v : Value) : Option Nat := match v with
  | .slice (some a) _ _ => some a.block
  | _ => none
def Loose.rowL (i : Nat) (d : Tmp) (t : TypeId) (k : Nat) (cs : Array Value) (k0 : Nat) : Loose :=
  ⟨i, d, none, fun v w => ∃ b, v = .slice (some ⟨b, 0, none⟩) k k ∧ k0 ≤ b ∧ Blk w b t cs, ownS, fun _ _ _ ⟨b, h1, h0, h2⟩ hb => ⟨b, h1, h0, h2.below hb h2.lt⟩⟩
theorem Loose.rowL_i (k0 : Nat) (i : Nat) (d : Tmp) (t : TypeId) (k : Nat) (cs : Array Value) : (Loose.rowL i d t k cs k0).i = i := rfl
theorem Loose.rowL_hush (k0 : Nat) (i : Nat) (d : Tmp) (t : TypeId) (k : Nat) (cs : Array Value) (o : Oper) : (Loose.rowL i d t k cs k0).hush o = { o with dst := none, op := .move (.const undef), guard := none } := rfl
theorem fill_rowL (k0 : Nat) (V : Nat → Value) (i : Nat) (d : Tmp) (t : TypeId) (k : Nat) (cs : Array Value) (cl : List Loose) (a : Act) : fill V (Loose.rowL i d t k cs k0 :: cl) a = fill V cl (a.put (some d) (V i)) := rfl
theorem laws_rowL (k0 : Nat) (V : Nat → Value) (w : World) (i : Nat) (d : Tmp) (t : TypeId) (k : Nat) (cs : Array Value) (cl : List Loose) : lawsL V w (Loose.rowL i d t k cs k0 :: cl) = ((∃ b, V i = .slice (some ⟨b, 0, none⟩) k k ∧ k0 ≤ b ∧ Blk w b t cs) ∧ lawsL V w cl) := rfl
theorem dist_rowL (k0 : Nat) (V : Nat → Value) (i : Nat) (d : Tmp) (t : TypeId) (k : Nat) (cs : Array Value) (cl : List Loose) : distL V (Loose.rowL i d t k cs k0 :: cl) = (distL1 V (Loose.rowL i d t k cs k0) cl ∧ distL V cl) := rfl
theorem dist1_rowL (k0 : Nat) (j0 : Nat) (V : Nat → Value) (i j : Nat) (d e : Tmp) (t u : TypeId) (k l : Nat) (cs ds : Array Value) (cl : List Loose) : distL1 V (Loose.rowL i d t k cs k0) (Loose.rowL j e u l ds j0 :: cl) = ((∀ k k', ownS (V i) = some k → ownS (V j) = some k' → k ≠ k') ∧ distL1 V (Loose.rowL i d t k cs k0) cl) := rfl
theorem dist1_cells_rowL (k0 : Nat) (j0 : Nat) (V : Nat → Value) (i j : Nat) (d e : Tmp) (t u : TypeId) (l : Nat) (cs ds : Array Value) (cl : List Loose) : distL1 V (Loose.cells i d t cs k0) (Loose.rowL j e u l ds j0 :: cl) = ((∀ k k', ownP (V i) = some k → ownS (V j) = some k' → k ≠ k') ∧ distL1 V (Loose.cells i d t cs k0) cl) := rfl
theorem dist1_rowL_cells (k0 : Nat) (j0 : Nat) (V : Nat → Value) (i j : Nat) (d e : Tmp) (t u : TypeId) (k : Nat) (cs ds : Array Value) (cl : List Loose) : distL1 V (Loose.rowL i d t k cs k0) (Loose.cells j e u ds j0 :: cl) = ((∀ k k', ownS (V i) = some k → ownP (V j) = some k' → k ≠ k') ∧ distL1 V (Loose.rowL i d t k cs k0) cl) := rfl
theorem ownP_ne {V : Nat → Value} {i j b c : Nat} (h : ∀ k k', ownP (V i) = some k → ownP (V j) = some k' → k ≠ k') (h1 : V i = .pointer (some ⟨b, 0, none⟩)) (h2 : V j = .pointer (some ⟨c, 0, none⟩)) : b ≠ c := h b c (by rw [h1]; rfl) (by rw [h2]; rfl)
theorem post_rowL {k0 : Nat} {i : Nat} {d : Tmp} {t : TypeId} {k : Nat} {cs : Array Value} {F : Act} {w : World} {a : Act} (h : a = F.put (some d) (.slice (some ⟨w.heap.size, 0, none⟩) k k)) (hk : k0 ≤ w.heap.size) : PostL (Loose.rowL i d t k cs k0) F w .normal a (w.alloc (.cells cs t)) :=
  ⟨rfl, _, h, below_box _ _, ⟨_, rfl, hk, Blk.new _ _ _⟩, fun k2 hk => by
    simp only [Loose.rowL, ownS, Option.some.injEq] at hk
    subst hk
    simp, fun c hc => by cases hc⟩

/-- what is shown of a new variable -/
theorem post_cells {k0 : Nat} {i : Nat} {d : Tmp} {t : TypeId} {cs : Array Value} {F : Act} {w : World} {a : Act} (h : a = F.put (some d) (.pointer (some ⟨w.heap.size, 0, none⟩))) (hk : k0 ≤ w.heap.size) : PostL (Loose.cells i d t cs k0) F w .normal a (w.alloc (.cells cs t)) :=
  ⟨rfl, _, h, below_box _ _, ⟨_, rfl, hk, Blk.new _ _ _⟩, fun k hk => by
    simp only [Loose.cells, ownP, Option.some.injEq] at hk
    subst hk
    simp, fun c hc => by cases hc⟩
theorem grow_trans_below {w : World} (n : Ext w) (m : Ext (grow w n)) : Below (grow w n).heap.size (grow w n) (grow w (n.trans m)) := m.property

/-- what is shown of a call whose value is claimed -/
theorem post_claim {i : Nat} {d : Tmp} {c : Value} {F : Act} {w w' : World} {a : Act} (h : a = F.put (some d) c) (hb : Below w.heap.size w w') : PostL (Loose.claim i d c) F w .normal a w' :=
  ⟨rfl, _, h, hb, trivial, fun k hk => (by cases hk), fun c2 hc => (by cases hc; rfl)⟩

end Go.Proofs.YtgjhaanpkfheeaaDoor
