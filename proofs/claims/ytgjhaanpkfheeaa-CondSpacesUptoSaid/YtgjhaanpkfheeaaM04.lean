/- Of my texts: WideC, WideD, WideE, LooseB, LooseC. -/
import Derived.Test.YtgjhaanpkfheeaaM02
import Derived.Test.YtgjhaanpkfheeaaM03
import Derived.Shelf.Spec.BitsCarry
import Derived.Lib.Mul64
import Derived.Deep.LoopGhost
import Derived.Deep.RegionWith
import Derived.Deep.CutBlock
import Derived.Deep.DeepCutAuto
namespace Go.Proofs.Ytgjhaanpkfheeaa
set_option linter.unusedVariables false
set_option linter.unusedSimpArgs false
open Go.RowKit

/-- a block of the call's own, whole -/
def Blk (w : World) (g : Nat) (t : TypeId) (cs : Array Value) : Prop := w.heap[g]? = some (.cells cs t (0, 0))
section
variable {w w' : World} {g : Nat} {t : TypeId} {cs : Array Value}
theorem Blk.lt (h : Blk w g t cs) : g < w.heap.size := by
  apply Classical.byContradiction
  intro hn
  unfold Blk at h
  rw [Array.getElem?_eq_none (by omega)] at h
  cases h
theorem Blk.cell (h : Blk w g t cs) (i : Nat) : w.cell? ⟨g, i, none⟩ = cs[i]? := cell_of_row w g i cs t (0, 0) h
theorem Blk.frozen (h : Blk w g t cs) (i : Nat) : w.frozen? ⟨g, i, none⟩ = false := by unfold Blk at h; simp [World.frozen?, h]
theorem Blk.new (w : World) (t : TypeId) (cs : Array Value) : Blk (w.alloc (.cells cs t)) w.heap.size t cs := heap_alloc_new w _
theorem Blk.old (h : Blk w g t cs) (o : Obj) : Blk (w.alloc o) g t cs := (Below.heap_alloc w o g h.lt).trans h
theorem Blk.below {B : Nat} (h : Blk w g t cs) (hb : Below B w w') (hg : g < B) : Blk w' g t cs := (hb.block g hg).trans h
theorem Blk.grow (h : Blk w g t cs) (m : Ext w) : Blk (grow w m) g t cs := h.below (grow_below m) h.lt
theorem Blk.put (h : Blk w g t cs) (i : Nat) (u : Value) : Blk (w.setCell ⟨g, i, none⟩ u) g t (cs.setIfInBounds i u) := by
  unfold Blk at h ⊢
  simp [World.setCell, Array.getElem?_modify, h]
theorem Blk.far (h : Blk w g t cs) {p : Addr} (hp : g ≠ p.block) (u : Value) : Blk (w.setCell p u) g t cs := (Below.heap_setCell w p u g hp).trans h
theorem Blk.to (h : Blk w g t cs) {cs' : Array Value} (e : cs = cs') : Blk w g t cs' := e ▸ h
end

/-- the three variables of the divisor's reckoning -/
structure Gw (w0 wr : World) (t ah al bh bl : Nat) : Prop where
  below : Below w0.heap.size w0 wr
  a : Blk wr w0.heap.size t #[.int .u64 ah, .int .u64 al]
  b : Blk wr (w0.heap.size + 1) t #[.int .u64 bh, .int .u64 bl]
  r : Blk wr (w0.heap.size + 1 + 1) t #[.int .u64 0, .int .u64 0]
  b1 : ah < 18446744073709551616
  b2 : al < 18446744073709551616
  b3 : bh < 18446744073709551616
  b4 : bl < 18446744073709551616

theorem Blk.put2 {w : World} {g : Nat} {t : TypeId} {x y : Value} (h : Blk w g t #[x, y]) (a b : Value) : Blk ((w.setCell ⟨g, 0, none⟩ a).setCell ⟨g, 1, none⟩ b) g t #[a, b] := (h.put 0 a).put 1 b
theorem Blk.far2 {w : World} {g g' : Nat} {t : TypeId} {cs : Array Value} (h : Blk w g t cs) (hne : g ≠ g') (i j : Nat) (a b : Value) : Blk ((w.setCell ⟨g', i, none⟩ a).setCell ⟨g', j, none⟩ b) g t cs := (h.far (p := ⟨g', i, none⟩) hne a).far (p := ⟨g', j, none⟩) hne b

section
variable {w0 wr : World} {t ah al bh bl : Nat}
theorem Gw.grow (h : Gw w0 wr t ah al bh bl) (m : Ext wr) : Gw w0 (grow wr m) t ah al bh bl := ⟨below_grow h.below m, h.a.grow m, h.b.grow m, h.r.grow m, h.b1, h.b2, h.b3, h.b4⟩
end

/-- what holds of the numbers throughout -/
structure Gs (G ah al bh bl n : Nat) : Prop where
  a : wn ah al ≠ 0
  b : wn bh bl ≠ 0
  eq : 2 ^ n * Nat.gcd (wn ah al) (wn bh bl) = G
  lt : G < 340282366920938463463374607431768211456

/-- behind the second loop: a is odd -/
structure Gt (G ah al bh bl n : Nat) : Prop where
  odd : al % 2 = 1
  eq : 2 ^ n * Nat.gcd (wn ah al) (wn bh bl) = G
  lt : G < 340282366920938463463374607431768211456

theorem Gs.done {G ah al bh bl n : Nat} (h : Gs G ah al bh bl n) (pa : al % 2 = 1) : Gt G ah al bh bl n := ⟨pa, h.eq, h.lt⟩

theorem Gt.pos {G ah al bh bl n : Nat} (h : Gt G ah al bh bl n) : 0 < wn ah al := by have := h.odd; unfold wn; omega
end Go.Proofs.Ytgjhaanpkfheeaa

namespace Go.Proofs.Ytgjhaanpkfheeaa
set_option linter.unusedVariables false
set_option linter.unusedSimpArgs false
open Go.RowKit

/-- the five variables of the quotient's reckoning -/
structure Gd (w0 wr : World) (t ah al bh bl qh ql rh rl : Nat) : Prop where
  below : Below w0.heap.size w0 wr
  a : Blk wr w0.heap.size t #[.int .u64 ah, .int .u64 al]
  b : Blk wr (w0.heap.size + 1) t #[.int .u64 bh, .int .u64 bl]
  o : Blk wr (w0.heap.size + 1 + 1) t #[.int .u64 0, .int .u64 0]
  q : Blk wr (w0.heap.size + 1 + 1 + 1) t #[.int .u64 qh, .int .u64 ql]
  r : Blk wr (w0.heap.size + 1 + 1 + 1 + 1) t #[.int .u64 rh, .int .u64 rl]

section
variable {w0 wr : World} {t ah al bh bl qh ql rh rl : Nat}
theorem Gd.grow (h : Gd w0 wr t ah al bh bl qh ql rh rl) (m : Ext wr) : Gd w0 (grow wr m) t ah al bh bl qh ql rh rl := ⟨below_grow h.below m, h.a.grow m, h.b.grow m, h.o.grow m, h.q.grow m, h.r.grow m⟩
end

end Go.Proofs.Ytgjhaanpkfheeaa

namespace Go.Proofs.Ytgjhaanpkfheeaa
set_option linter.unusedVariables false
set_option linter.unusedSimpArgs false
open Go.RowKit

/-- the variables of the reference's 'made' -/
structure Gm (w0 wr : World) (t tr nh nl dh dl : Nat) : Prop where
  below : Below w0.heap.size w0 wr
  n : Blk wr w0.heap.size t #[.int .u64 nh, .int .u64 nl]
  d : Blk wr (w0.heap.size + 1) t #[.int .u64 dh, .int .u64 dl]
  o : Blk wr (w0.heap.size + 1 + 1) tr #[.int .i64 0, .int .i64 0]
section
variable {w0 wr : World} {t tr nh nl dh dl : Nat}
theorem Gm.start (w0 : World) (t tr nh nl dh dl : Nat) : Gm w0 (((w0.alloc (.cells #[.int .u64 nh, .int .u64 nl] t)).alloc (.cells #[.int .u64 dh, .int .u64 dl] t)).alloc (.cells #[.int .i64 0, .int .i64 0] tr)) t tr nh nl dh dl := by
  have k1 := Blk.new w0 t #[.int .u64 nh, .int .u64 nl]
  have k2 := Blk.new (w0.alloc (.cells #[.int .u64 nh, .int .u64 nl] t)) t #[.int .u64 dh, .int .u64 dl]
  have k3 := Blk.new ((w0.alloc (.cells #[.int .u64 nh, .int .u64 nl] t)).alloc (.cells #[.int .u64 dh, .int .u64 dl] t)) tr #[.int .i64 0, .int .i64 0]
  simp only [World.size_alloc] at k2 k3
  exact ⟨((below_box _ _).alloc (by first | omega | (simp; done) | (simp; omega)) _).alloc (by first | omega | (simp; done) | (simp; omega)) _, (k1.old _).old _, k2.old _, k3⟩
theorem Gm.grow (h : Gm w0 wr t tr nh nl dh dl) (m : Ext wr) : Gm w0 (grow wr m) t tr nh nl dh dl := ⟨below_grow h.below m, h.n.grow m, h.d.grow m, h.o.grow m⟩
theorem Gm.old (h : Gm w0 wr t tr nh nl dh dl) (o : Obj) : Gm w0 (wr.alloc o) t tr nh nl dh dl := ⟨h.below.alloc h.below.size o, h.n.old o, h.d.old o, h.o.old o⟩
end

end Go.Proofs.Ytgjhaanpkfheeaa

namespace Go.Proofs.Ytgjhaanpkfheeaa
set_option linter.unusedVariables false
set_option linter.unusedSimpArgs false
open Go.RowKit

theorem Blk.new2 (w : World) (o : Obj) (t : TypeId) (cs : Array Value) : Blk ((w.alloc o).alloc (.cells cs t)) (w.heap.size + 1) t cs := by have := Blk.new (w.alloc o) t cs; simpa using this

def ownP (v : Value) : Option Nat := match v with
  | .pointer (some a) => some a.block
  | _ => none

/-- a new variable of cells cs -/
def Loose.cells (i : Nat) (d : Tmp) (t : TypeId) (cs : Array Value) (k0 : Nat) : Loose :=
  ⟨i, d, none, fun v w => ∃ b, v = .pointer (some ⟨b, 0, none⟩) ∧ k0 ≤ b ∧ Blk w b t cs, ownP, fun _ _ _ ⟨b, h1, h0, h2⟩ hb => ⟨b, h1, h0, h2.below hb h2.lt⟩⟩

theorem Loose.claim_i (i : Nat) (d : Tmp) (c : Value) : (Loose.claim i d c).i = i := rfl
theorem Loose.cells_i (k0 : Nat) (i : Nat) (d : Tmp) (t : TypeId) (cs : Array Value) : (Loose.cells i d t cs k0).i = i := rfl
theorem Loose.claim_hush (i : Nat) (d : Tmp) (c : Value) (o : Oper) : (Loose.claim i d c).hush o = { o with op := .move (.const c), guard := none } := rfl
theorem Loose.cells_hush (k0 : Nat) (i : Nat) (d : Tmp) (t : TypeId) (cs : Array Value) (o : Oper) : (Loose.cells i d t cs k0).hush o = { o with dst := none, op := .move (.const undef), guard := none } := rfl
theorem fill_nil (V : Nat → Value) (a : Act) : fill V [] a = a := rfl
theorem fill_claim (V : Nat → Value) (i : Nat) (d : Tmp) (c : Value) (cl : List Loose) (a : Act) : fill V (Loose.claim i d c :: cl) a = fill V cl a := rfl
theorem fill_cells (k0 : Nat) (V : Nat → Value) (i : Nat) (d : Tmp) (t : TypeId) (cs : Array Value) (cl : List Loose) (a : Act) : fill V (Loose.cells i d t cs k0 :: cl) a = fill V cl (a.put (some d) (V i)) := rfl
theorem laws_nil (V : Nat → Value) (w : World) : lawsL V w [] = True := rfl
theorem laws_claim (V : Nat → Value) (w : World) (i : Nat) (d : Tmp) (c : Value) (cl : List Loose) : lawsL V w (Loose.claim i d c :: cl) = lawsL V w cl := by
  simp [lawsL, Loose.claim]
theorem laws_cells (k0 : Nat) (V : Nat → Value) (w : World) (i : Nat) (d : Tmp) (t : TypeId) (cs : Array Value) (cl : List Loose) : lawsL V w (Loose.cells i d t cs k0 :: cl) = ((∃ b, V i = .pointer (some ⟨b, 0, none⟩) ∧ k0 ≤ b ∧ Blk w b t cs) ∧ lawsL V w cl) := rfl
theorem dist_nil (V : Nat → Value) : distL V [] = True := rfl
theorem dist1_nil (V : Nat → Value) (L : Loose) : distL1 V L [] = True := rfl
theorem dist_claim (V : Nat → Value) (i : Nat) (d : Tmp) (c : Value) (cl : List Loose) : distL V (Loose.claim i d c :: cl) = distL V cl := by
  have h : ∀ cl : List Loose, distL1 V (Loose.claim i d c) cl := fun cl => distL1_of fun L' _ k k' h => by cases h
  simp [distL, h]
theorem dist_cells (k0 : Nat) (V : Nat → Value) (i : Nat) (d : Tmp) (t : TypeId) (cs : Array Value) (cl : List Loose) : distL V (Loose.cells i d t cs k0 :: cl) = (distL1 V (Loose.cells i d t cs k0) cl ∧ distL V cl) := rfl
theorem dist1_claim (V : Nat → Value) (L : Loose) (i : Nat) (d : Tmp) (c : Value) (cl : List Loose) : distL1 V L (Loose.claim i d c :: cl) = distL1 V L cl := by
  have h : ∀ k k', L.own (V L.i) = some k → (Loose.claim i d c).own (V i) = some k' → k ≠ k' := fun k k' _ h => by cases h
  exact propext ⟨fun h2 => h2.2, fun h2 => ⟨h, h2⟩⟩
theorem dist1_cells (k0 : Nat) (j0 : Nat) (V : Nat → Value) (i j : Nat) (d e : Tmp) (t u : TypeId) (cs ds : Array Value) (cl : List Loose) : distL1 V (Loose.cells i d t cs k0) (Loose.cells j e u ds j0 :: cl) = ((∀ k k', ownP (V i) = some k → ownP (V j) = some k' → k ≠ k') ∧ distL1 V (Loose.cells i d t cs k0) cl) := rfl
theorem obs_nil (P : Program) (l : List Oper) (V : Nat → Value) (w' : World) (F : Act) (all : List Loose) : obsL P l V w' F all [] = True := rfl
theorem obs_cons (P : Program) (l : List Oper) (V : Nat → Value) (w' : World) (F : Act) (all : List Loose) (L : Loose) (cl : List Loose) :
    obsL P l V w' F all (L :: cl) = ((match l[L.i]? with | some o => waitsL V w' o all → (match o.guard with | none => wpList P l.toArray (PostL L F w') [o] F w' | some _ => Region.wanted o (yielded l.toArray F.tmps) = true ∧ wpList P l.toArray (PostL L F w') [o] F w') | none => True) ∧ obsL P l V w' F all cl) := rfl

/-- a new row of cells cs, and a slice of all of it -/
def ownS (v : Value) : Option Nat := match v with
  | .slice (some a) _ _ => some a.block
  | _ => none
def Loose.rowL (i : Nat) (d : Tmp) (t : TypeId) (k : Nat) (cs : Array Value) (k0 : Nat) : Loose :=
  ⟨i, d, none, fun v w => ∃ b, v = .slice (some ⟨b, 0, none⟩) k k ∧ k0 ≤ b ∧ Blk w b t cs, ownS, fun _ _ _ ⟨b, h1, h0, h2⟩ hb => ⟨b, h1, h0, h2.below hb h2.lt⟩⟩
theorem Loose.rowL_i (k0 : Nat) (i : Nat) (d : Tmp) (t : TypeId) (k : Nat) (cs : Array Value) : (Loose.rowL i d t k cs k0).i = i := rfl
theorem Loose.rowL_hush (k0 : Nat) (i : Nat) (d : Tmp) (t : TypeId) (k : Nat) (cs : Array Value) (o : Oper) : (Loose.rowL i d t k cs k0).hush o = { o with dst := none, op := .move (.const undef), guard := none } := rfl
theorem fill_rowL (k0 : Nat) (V : Nat → Value) (i : Nat) (d : Tmp) (t : TypeId) (k : Nat) (cs : Array Value) (cl : List Loose) (a : Act) : fill V (Loose.rowL i d t k cs k0 :: cl) a = fill V cl (a.put (some d) (V i)) := rfl
theorem laws_rowL (k0 : Nat) (V : Nat → Value) (w : World) (i : Nat) (d : Tmp) (t : TypeId) (k : Nat) (cs : Array Value) (cl : List Loose) : lawsL V w (Loose.rowL i d t k cs k0 :: cl) = ((∃ b, V i = .slice (some ⟨b, 0, none⟩) k k ∧ k0 ≤ b ∧ Blk w b t cs) ∧ lawsL V w cl) := rfl
theorem dist_rowL (k0 : Nat) (V : Nat → Value) (i : Nat) (d : Tmp) (t : TypeId) (k : Nat) (cs : Array Value) (cl : List Loose) : distL V (Loose.rowL i d t k cs k0 :: cl) = (distL1 V (Loose.rowL i d t k cs k0) cl ∧ distL V cl) := rfl
theorem dist1_rowL (k0 : Nat) (j0 : Nat) (V : Nat → Value) (i j : Nat) (d e : Tmp) (t u : TypeId) (k l : Nat) (cs ds : Array Value) (cl : List Loose) : distL1 V (Loose.rowL i d t k cs k0) (Loose.rowL j e u l ds j0 :: cl) = ((∀ k k', ownS (V i) = some k → ownS (V j) = some k' → k ≠ k') ∧ distL1 V (Loose.rowL i d t k cs k0) cl) := rfl
theorem dist1_cells_rowL (k0 : Nat) (j0 : Nat) (V : Nat → Value) (i j : Nat) (d e : Tmp) (t u : TypeId) (l : Nat) (cs ds : Array Value) (cl : List Loose) : distL1 V (Loose.cells i d t cs k0) (Loose.rowL j e u l ds j0 :: cl) = ((∀ k k', ownP (V i) = some k → ownS (V j) = some k' → k ≠ k') ∧ distL1 V (Loose.cells i d t cs k0) cl) := rfl
theorem dist1_rowL_cells (k0 : Nat) (j0 : Nat) (V : Nat → Value) (i j : Nat) (d e : Tmp) (t u : TypeId) (k : Nat) (cs ds : Array Value) (cl : List Loose) : distL1 V (Loose.rowL i d t k cs k0) (Loose.cells j e u ds j0 :: cl) = ((∀ k k', ownS (V i) = some k → ownP (V j) = some k' → k ≠ k') ∧ distL1 V (Loose.rowL i d t k cs k0) cl) := rfl
theorem post_rowL {k0 : Nat} {i : Nat} {d : Tmp} {t : TypeId} {k : Nat} {cs : Array Value} {F : Act} {w : World} {a : Act} (h : a = F.put (some d) (.slice (some ⟨w.heap.size, 0, none⟩) k k)) (hk : k0 ≤ w.heap.size) : PostL (Loose.rowL i d t k cs k0) F w .normal a (w.alloc (.cells cs t)) :=
  ⟨rfl, _, h, below_box _ _, ⟨_, rfl, hk, Blk.new _ _ _⟩, fun k2 hk => by
    simp only [Loose.rowL, ownS, Option.some.injEq] at hk
    subst hk
    simp, fun c hc => by cases hc⟩

/-- what is shown of a new variable -/
theorem post_cells {k0 : Nat} {i : Nat} {d : Tmp} {t : TypeId} {cs : Array Value} {F : Act} {w : World} {a : Act} (h : a = F.put (some d) (.pointer (some ⟨w.heap.size, 0, none⟩))) (hk : k0 ≤ w.heap.size) : PostL (Loose.cells i d t cs k0) F w .normal a (w.alloc (.cells cs t)) :=
  ⟨rfl, _, h, below_box _ _, ⟨_, rfl, hk, Blk.new _ _ _⟩, fun k hk => by
    simp only [Loose.cells, ownP, Option.some.injEq] at hk
    subst hk
    simp, fun c hc => by cases hc⟩
/-- what is shown of a call whose value is claimed -/
theorem post_claim {i : Nat} {d : Tmp} {c : Value} {F : Act} {w w' : World} {a : Act} (h : a = F.put (some d) c) (hb : Below w.heap.size w w') : PostL (Loose.claim i d c) F w .normal a w' :=
  ⟨rfl, _, h, hb, trivial, fun k hk => (by cases hk), fun c2 hc => (by cases hc; rfl)⟩

end Go.Proofs.Ytgjhaanpkfheeaa

namespace Go.Proofs.Ytgjhaanpkfheeaa
set_option linter.unusedVariables false
set_option linter.unusedSimpArgs false
open Go.RowKit

/-- a call whose value is one of some -/
def Loose.val (i : Nat) (d : Tmp) (φ : Value → Prop) : Loose := ⟨i, d, none, fun v _ => φ v, fun _ => none, fun _ _ _ h _ => h⟩
theorem Loose.val_i (i : Nat) (d : Tmp) (φ : Value → Prop) : (Loose.val i d φ).i = i := rfl
theorem Loose.val_hush (i : Nat) (d : Tmp) (φ : Value → Prop) (o : Oper) : (Loose.val i d φ).hush o = { o with dst := none, op := .move (.const undef), guard := none } := rfl
theorem fill_val (V : Nat → Value) (i : Nat) (d : Tmp) (φ : Value → Prop) (cl : List Loose) (a : Act) : fill V (Loose.val i d φ :: cl) a = fill V cl (a.put (some d) (V i)) := rfl
theorem laws_val (V : Nat → Value) (w : World) (i : Nat) (d : Tmp) (φ : Value → Prop) (cl : List Loose) : lawsL V w (Loose.val i d φ :: cl) = (φ (V i) ∧ lawsL V w cl) := rfl
theorem dist_val (V : Nat → Value) (i : Nat) (d : Tmp) (φ : Value → Prop) (cl : List Loose) : distL V (Loose.val i d φ :: cl) = distL V cl := by
  have h : ∀ cl : List Loose, distL1 V (Loose.val i d φ) cl := fun cl => distL1_of fun L' _ k k' h => by cases h
  simp [distL, h]
theorem dist1_val (V : Nat → Value) (L : Loose) (i : Nat) (d : Tmp) (φ : Value → Prop) (cl : List Loose) : distL1 V L (Loose.val i d φ :: cl) = distL1 V L cl := by
  have h : ∀ k k', L.own (V L.i) = some k → (Loose.val i d φ).own (V i) = some k' → k ≠ k' := fun k k' _ h => by cases h
  exact propext ⟨fun h2 => h2.2, fun h2 => ⟨h, h2⟩⟩
/-- a new row of cells that are some, and a slice of all of it -/
def Loose.rowS (i : Nat) (d : Tmp) (t : TypeId) (k : Nat) (φ : Array Value → Prop) (k0 : Nat) : Loose :=
  ⟨i, d, none, fun v w => ∃ b cs, v = .slice (some ⟨b, 0, none⟩) k k ∧ k0 ≤ b ∧ φ cs ∧ Blk w b t cs, ownS, fun _ _ _ ⟨b, cs, h1, h0, hc, h2⟩ hb => ⟨b, cs, h1, h0, hc, h2.below hb h2.lt⟩⟩
theorem Loose.rowS_i (i : Nat) (d : Tmp) (t : TypeId) (k : Nat) (φ : Array Value → Prop) (k0 : Nat) : (Loose.rowS i d t k φ k0).i = i := rfl
theorem Loose.rowS_hush (i : Nat) (d : Tmp) (t : TypeId) (k : Nat) (φ : Array Value → Prop) (k0 : Nat) (o : Oper) : (Loose.rowS i d t k φ k0).hush o = { o with dst := none, op := .move (.const undef), guard := none } := rfl
theorem fill_rowS (V : Nat → Value) (i : Nat) (d : Tmp) (t : TypeId) (k : Nat) (φ : Array Value → Prop) (k0 : Nat) (cl : List Loose) (a : Act) : fill V (Loose.rowS i d t k φ k0 :: cl) a = fill V cl (a.put (some d) (V i)) := rfl
theorem laws_rowS (V : Nat → Value) (w : World) (i : Nat) (d : Tmp) (t : TypeId) (k : Nat) (φ : Array Value → Prop) (k0 : Nat) (cl : List Loose) : lawsL V w (Loose.rowS i d t k φ k0 :: cl) = ((∃ b cs, V i = .slice (some ⟨b, 0, none⟩) k k ∧ k0 ≤ b ∧ φ cs ∧ Blk w b t cs) ∧ lawsL V w cl) := rfl
theorem dist_rowS (V : Nat → Value) (i : Nat) (d : Tmp) (t : TypeId) (k : Nat) (φ : Array Value → Prop) (k0 : Nat) (cl : List Loose) : distL V (Loose.rowS i d t k φ k0 :: cl) = (distL1 V (Loose.rowS i d t k φ k0) cl ∧ distL V cl) := rfl
end Go.Proofs.Ytgjhaanpkfheeaa
