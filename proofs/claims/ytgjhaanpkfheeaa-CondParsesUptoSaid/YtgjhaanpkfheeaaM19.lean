/- Of my texts: LooseB, RatF, Rats, FoldA, LooseC, SameE, Like, AwakeA, AwakeC. -/
import Derived.Test.YtgjhaanpkfheeaaM03
import Derived.Test.YtgjhaanpkfheeaaM04
import Derived.Test.YtgjhaanpkfheeaaM06
import Derived.Test.YtgjhaanpkfheeaaM07
import Derived.Test.YtgjhaanpkfheeaaM09
import Derived.Test.YtgjhaanpkfheeaaM10
import Derived.Test.YtgjhaanpkfheeaaM18
import Derived.Shelf.Spec.BitsCarry
import Derived.Lib.Mul64
import Derived.LoopN
namespace Go.Proofs.Ytgjhaanpkfheeaa
set_option linter.unusedVariables false
set_option linter.unusedSimpArgs false
open Go.RowKit

theorem Blk.new2 (w : World) (o : Obj) (t : TypeId) (cs : Array Value) : Blk ((w.alloc o).alloc (.cells cs t)) (w.heap.size + 1) t cs := by have := Blk.new (w.alloc o) t cs; simpa using this

def ownP (v : Value) : Option Nat := match v with
  | .pointer (some a) => some a.block
  | _ => none

/-- a new variable of cells cs -/
def Loose.cells (i : Nat) (d : Tmp) (t : TypeId) (cs : Array Value) (k0 : Nat) : Loose :=
  ⟨i, d, none, fun v w => ∃ b, v = .pointer (some ⟨b, 0, none⟩) ∧ k0 ≤ b ∧ Blk w b t cs, ownP, fun _ _ _ ⟨b, h1, h0, h2⟩ hb => ⟨b, h1, h0, h2.below hb h2.lt⟩⟩

theorem Loose.claim_i (i : Nat) (d : Tmp) (c : Value) : (Loose.claim i d c).i = i := rfl
theorem Loose.cells_i (k0 : Nat) (i : Nat) (d : Tmp) (t : TypeId) (cs : Array Value) : (Loose.cells i d t cs k0).i = i := rfl
theorem Loose.claim_hush (i : Nat) (d : Tmp) (c : Value) (o : Oper) : (Loose.claim i d c).hush o = { o with op := .move (.const c), guard := none } := rfl
theorem Loose.cells_hush (k0 : Nat) (i : Nat) (d : Tmp) (t : TypeId) (cs : Array Value) (o : Oper) : (Loose.cells i d t cs k0).hush o = { o with dst := none, op := .move (.const undef), guard := none } := rfl
theorem fill_nil (V : Nat → Value) (a : Act) : fill V [] a = a := rfl
theorem fill_claim (V : Nat → Value) (i : Nat) (d : Tmp) (c : Value) (cl : List Loose) (a : Act) : fill V (Loose.claim i d c :: cl) a = fill V cl a := rfl
theorem fill_cells (k0 : Nat) (V : Nat → Value) (i : Nat) (d : Tmp) (t : TypeId) (cs : Array Value) (cl : List Loose) (a : Act) : fill V (Loose.cells i d t cs k0 :: cl) a = fill V cl (a.put (some d) (V i)) := rfl
theorem laws_nil (V : Nat → Value) (w : World) : lawsL V w [] = True := rfl
theorem laws_claim (V : Nat → Value) (w : World) (i : Nat) (d : Tmp) (c : Value) (cl : List Loose) : lawsL V w (Loose.claim i d c :: cl) = lawsL V w cl := by
  simp [lawsL, Loose.claim]
theorem laws_cells (k0 : Nat) (V : Nat → Value) (w : World) (i : Nat) (d : Tmp) (t : TypeId) (cs : Array Value) (cl : List Loose) : lawsL V w (Loose.cells i d t cs k0 :: cl) = ((∃ b, V i = .pointer (some ⟨b, 0, none⟩) ∧ k0 ≤ b ∧ Blk w b t cs) ∧ lawsL V w cl) := rfl
theorem dist_nil (V : Nat → Value) : distL V [] = True := rfl
theorem dist1_nil (V : Nat → Value) (L : Loose) : distL1 V L [] = True := rfl
theorem dist_claim (V : Nat → Value) (i : Nat) (d : Tmp) (c : Value) (cl : List Loose) : distL V (Loose.claim i d c :: cl) = distL V cl := by
  have h : ∀ cl : List Loose, distL1 V (Loose.claim i d c) cl := fun cl => distL1_of fun L' _ k k' h => by cases h
  simp [distL, h]
theorem dist_cells (k0 : Nat) (V : Nat → Value) (i : Nat) (d : Tmp) (t : TypeId) (cs : Array Value) (cl : List Loose) : distL V (Loose.cells i d t cs k0 :: cl) = (distL1 V (Loose.cells i d t cs k0) cl ∧ distL V cl) := rfl
theorem dist1_claim (V : Nat → Value) (L : Loose) (i : Nat) (d : Tmp) (c : Value) (cl : List Loose) : distL1 V L (Loose.claim i d c :: cl) = distL1 V L cl := by
  have h : ∀ k k', L.own (V L.i) = some k → (Loose.claim i d c).own (V i) = some k' → k ≠ k' := fun k k' _ h => by cases h
  exact propext ⟨fun h2 => h2.2, fun h2 => ⟨h, h2⟩⟩
theorem dist1_cells (k0 : Nat) (j0 : Nat) (V : Nat → Value) (i j : Nat) (d e : Tmp) (t u : TypeId) (cs ds : Array Value) (cl : List Loose) : distL1 V (Loose.cells i d t cs k0) (Loose.cells j e u ds j0 :: cl) = ((∀ k k', ownP (V i) = some k → ownP (V j) = some k' → k ≠ k') ∧ distL1 V (Loose.cells i d t cs k0) cl) := rfl
theorem obs_nil (P : Program) (l : List Oper) (V : Nat → Value) (w' : World) (F : Act) (all : List Loose) : obsL P l V w' F all [] = True := rfl
theorem obs_cons (P : Program) (l : List Oper) (V : Nat → Value) (w' : World) (F : Act) (all : List Loose) (L : Loose) (cl : List Loose) :
    obsL P l V w' F all (L :: cl) = ((match l[L.i]? with | some o => waitsL V w' o all → (match o.guard with | none => wpList P l.toArray (PostL L F w') [o] F w' | some _ => Region.wanted o (yielded l.toArray F.tmps) = true ∧ wpList P l.toArray (PostL L F w') [o] F w') | none => True) ∧ obsL P l V w' F all cl) := rfl

/-- a new row of cells cs, and a slice of all of it -/
def ownS (v : Value) : Option Nat := match v with
  | .slice (some a) _ _ => some a.block
  | _ => none
def Loose.rowL (i : Nat) (d : Tmp) (t : TypeId) (k : Nat) (cs : Array Value) (k0 : Nat) : Loose :=
  ⟨i, d, none, fun v w => ∃ b, v = .slice (some ⟨b, 0, none⟩) k k ∧ k0 ≤ b ∧ Blk w b t cs, ownS, fun _ _ _ ⟨b, h1, h0, h2⟩ hb => ⟨b, h1, h0, h2.below hb h2.lt⟩⟩
theorem Loose.rowL_i (k0 : Nat) (i : Nat) (d : Tmp) (t : TypeId) (k : Nat) (cs : Array Value) : (Loose.rowL i d t k cs k0).i = i := rfl
theorem Loose.rowL_hush (k0 : Nat) (i : Nat) (d : Tmp) (t : TypeId) (k : Nat) (cs : Array Value) (o : Oper) : (Loose.rowL i d t k cs k0).hush o = { o with dst := none, op := .move (.const undef), guard := none } := rfl
theorem fill_rowL (k0 : Nat) (V : Nat → Value) (i : Nat) (d : Tmp) (t : TypeId) (k : Nat) (cs : Array Value) (cl : List Loose) (a : Act) : fill V (Loose.rowL i d t k cs k0 :: cl) a = fill V cl (a.put (some d) (V i)) := rfl
theorem laws_rowL (k0 : Nat) (V : Nat → Value) (w : World) (i : Nat) (d : Tmp) (t : TypeId) (k : Nat) (cs : Array Value) (cl : List Loose) : lawsL V w (Loose.rowL i d t k cs k0 :: cl) = ((∃ b, V i = .slice (some ⟨b, 0, none⟩) k k ∧ k0 ≤ b ∧ Blk w b t cs) ∧ lawsL V w cl) := rfl
theorem dist_rowL (k0 : Nat) (V : Nat → Value) (i : Nat) (d : Tmp) (t : TypeId) (k : Nat) (cs : Array Value) (cl : List Loose) : distL V (Loose.rowL i d t k cs k0 :: cl) = (distL1 V (Loose.rowL i d t k cs k0) cl ∧ distL V cl) := rfl
theorem dist1_rowL (k0 : Nat) (j0 : Nat) (V : Nat → Value) (i j : Nat) (d e : Tmp) (t u : TypeId) (k l : Nat) (cs ds : Array Value) (cl : List Loose) : distL1 V (Loose.rowL i d t k cs k0) (Loose.rowL j e u l ds j0 :: cl) = ((∀ k k', ownS (V i) = some k → ownS (V j) = some k' → k ≠ k') ∧ distL1 V (Loose.rowL i d t k cs k0) cl) := rfl
theorem dist1_cells_rowL (k0 : Nat) (j0 : Nat) (V : Nat → Value) (i j : Nat) (d e : Tmp) (t u : TypeId) (l : Nat) (cs ds : Array Value) (cl : List Loose) : distL1 V (Loose.cells i d t cs k0) (Loose.rowL j e u l ds j0 :: cl) = ((∀ k k', ownP (V i) = some k → ownS (V j) = some k' → k ≠ k') ∧ distL1 V (Loose.cells i d t cs k0) cl) := rfl
theorem dist1_rowL_cells (k0 : Nat) (j0 : Nat) (V : Nat → Value) (i j : Nat) (d e : Tmp) (t u : TypeId) (k : Nat) (cs ds : Array Value) (cl : List Loose) : distL1 V (Loose.rowL i d t k cs k0) (Loose.cells j e u ds j0 :: cl) = ((∀ k k', ownS (V i) = some k → ownP (V j) = some k' → k ≠ k') ∧ distL1 V (Loose.rowL i d t k cs k0) cl) := rfl
theorem post_rowL {k0 : Nat} {i : Nat} {d : Tmp} {t : TypeId} {k : Nat} {cs : Array Value} {F : Act} {w : World} {a : Act} (h : a = F.put (some d) (.slice (some ⟨w.heap.size, 0, none⟩) k k)) (hk : k0 ≤ w.heap.size) : PostL (Loose.rowL i d t k cs k0) F w .normal a (w.alloc (.cells cs t)) :=
  ⟨rfl, _, h, below_box _ _, ⟨_, rfl, hk, Blk.new _ _ _⟩, fun k2 hk => by
    simp only [Loose.rowL, ownS, Option.some.injEq] at hk
    subst hk
    simp, fun c hc => by cases hc⟩

/-- what is shown of a new variable -/
theorem post_cells {k0 : Nat} {i : Nat} {d : Tmp} {t : TypeId} {cs : Array Value} {F : Act} {w : World} {a : Act} (h : a = F.put (some d) (.pointer (some ⟨w.heap.size, 0, none⟩))) (hk : k0 ≤ w.heap.size) : PostL (Loose.cells i d t cs k0) F w .normal a (w.alloc (.cells cs t)) :=
  ⟨rfl, _, h, below_box _ _, ⟨_, rfl, hk, Blk.new _ _ _⟩, fun k hk => by
    simp only [Loose.cells, ownP, Option.some.injEq] at hk
    subst hk
    simp, fun c hc => by cases hc⟩
/-- what is shown of a call whose value is claimed -/
theorem post_claim {i : Nat} {d : Tmp} {c : Value} {F : Act} {w w' : World} {a : Act} (h : a = F.put (some d) c) (hb : Below w.heap.size w w') : PostL (Loose.claim i d c) F w .normal a w' :=
  ⟨rfl, _, h, hb, trivial, fun k hk => (by cases hk), fun c2 hc => (by cases hc; rfl)⟩

end Go.Proofs.Ytgjhaanpkfheeaa

namespace Go.Proofs.Ytgjhaanpkfheeaa
set_option linter.unusedVariables false
set_option linter.unusedSimpArgs false
open Go.RowKit

/-- what stands where in Cmp, behind its two products -/
structure Cm (w wr : World) (g g' tr t : Nat) (n d p q : Int) (xh xl yh yl : Nat) : Prop where
  below : Below w.heap.size w wr
  a : Blk wr w.heap.size tr #[.int .i64 n, .int .i64 d]
  b : Blk wr (w.heap.size + 1) tr #[.int .i64 p, .int .i64 q]
  x : Blk wr g t #[.int .u64 xh, .int .u64 xl]
  y : Blk wr g' t #[.int .u64 yh, .int .u64 yl]
theorem Cm.set {w wr : World} {g g' tr t : Nat} {n d p q : Int} {xh xl yh yl a1 a2 a3 a4 : Nat} (h : Cm w wr g g' tr t n d p q a1 a2 a3 a4) (k : w.heap.size + 2 ≤ g) (k' : w.heap.size + 2 ≤ g') (hne : g ≠ g') :
    Cm w ((((wr.setCell ⟨g, 0, none⟩ (.int .u64 xh)).setCell ⟨g, 1, none⟩ (.int .u64 xl)).setCell ⟨g', 0, none⟩ (.int .u64 yh)).setCell ⟨g', 1, none⟩ (.int .u64 yl)) g g' tr t n d p q xh xl yh yl :=
  ⟨(((h.below.setCell (by simp; omega) _).setCell (by simp; omega) _).setCell (by simp; omega) _).setCell (by simp; omega) _, (h.a.far2 (by omega) _ _ _ _).far2 (by omega) _ _ _ _, (h.b.far2 (by omega) _ _ _ _).far2 (by omega) _ _ _ _,
    (h.x.put2 _ _).far2 hne _ _ _ _, (h.y.far2 (Ne.symm hne) _ _ _ _).put2 _ _⟩
theorem Cm.grow {w wr : World} {g g' tr t : Nat} {n d p q : Int} {xh xl yh yl : Nat} (h : Cm w wr g g' tr t n d p q xh xl yh yl) (m : Ext wr) : Cm w (grow wr m) g g' tr t n d p q xh xl yh yl := ⟨below_grow h.below m, h.a.grow m, h.b.grow m, h.x.grow m, h.y.grow m⟩

end Go.Proofs.Ytgjhaanpkfheeaa

namespace Go.Proofs.Ytgjhaanpkfheeaa
set_option linter.unusedVariables false
set_option linter.unusedSimpArgs false
open Go.RowKit

/-- the fractions that lie in a slice -/
structure Rats (w : World) (oa : Option Addr) (len cap : Nat) (b o : Nat) (l : List Rt) : Prop where
  hlen : len = l.length
  hcap : len ≤ cap
  small : cap ≤ maxLen
  at_ : 0 < len → oa = some ⟨b, o, none⟩
  lt : 0 < len → b < w.heap.size
  c0 : ∀ (i : Nat) (r : Rt), l[i]? = some r → w.cell? ⟨b, o + i * 2, none⟩ = some (.int .i64 r.1)
  c1 : ∀ (i : Nat) (r : Rt), l[i]? = some r → w.cell? ⟨b, o + i * 2 + 1, none⟩ = some (.int .i64 r.2)
  is64 : ∀ (i : Nat) (r : Rt), l[i]? = some r → Is64 r

theorem Rats.below {w w' : World} {oa : Option Addr} {len cap b o : Nat} {l : List Rt} (h : Rats w oa len cap b o l) (hb : Below w.heap.size w w') : Rats w' oa len cap b o l := by
  have key : ∀ (i : Nat) (r : Rt), l[i]? = some r → 0 < len := fun i r hr => by
    have := (List.getElem?_eq_some_iff.1 hr).1
    rw [h.hlen]; omega
  refine ⟨h.hlen, h.hcap, h.small, h.at_, fun hl => Nat.lt_of_lt_of_le (h.lt hl) hb.size, fun i r hr => ?_, fun i r hr => ?_, h.is64⟩
  · rw [hb.cell (h.lt (key i r hr))]; exact h.c0 i r hr
  · rw [hb.cell (h.lt (key i r hr))]; exact h.c1 i r hr

/-- the program's loop -/
def firstG (sign : Int) : Bool → Rt → List Rt → Rt
  | _, out, [] => out
  | b, out, r :: l => if sureB r then firstG sign false (if b || cmpR r out == sign then r else out) l else (0, 0)

/-- where the loop of first stands -/
structure Gf (w wr : World) (tr : TypeId) (sign : Int) (l : List Rt) (i : Nat) (out : Rt) : Prop where
  below : Below w.heap.size w wr
  res : Blk wr w.heap.size tr #[.int .i64 0, .int .i64 0]
  best : Blk wr (w.heap.size + 1) tr #[.int .i64 out.1, .int .i64 out.2]
  i64 : Is64 out
  le : i ≤ l.length
  law : firstG sign (i == 0) out (l.drop i) = firstG sign true (0, 0) l

section
variable {w wr : World} {tr : TypeId} {sign : Int} {l : List Rt} {i : Nat} {out : Rt}
theorem Gf.alloc (h : Gf w wr tr sign l i out) (o : Obj) : Gf w (wr.alloc o) tr sign l i out := ⟨h.below.alloc h.below.size _, h.res.old _, h.best.old _, h.i64, h.le, h.law⟩
theorem Gf.grow (h : Gf w wr tr sign l i out) (m : Ext wr) : Gf w (grow wr m) tr sign l i out := ⟨below_grow h.below m, h.res.grow m, h.best.grow m, h.i64, h.le, h.law⟩
theorem Gf.set (h : Gf w wr tr sign l i out) {r : Rt} (h64 : Is64 r) (hi : i < l.length) (hl : firstG sign false r (l.drop (i + 1)) = firstG sign true (0, 0) l) :
    Gf w ((wr.setCell ⟨w.heap.size + 1, 0, none⟩ (.int .i64 r.1)).setCell ⟨w.heap.size + 1, 1, none⟩ (.int .i64 r.2)) tr sign l (i + 1) r :=
  ⟨(h.below.setCell (by first | omega | (simp; done) | (simp; omega)) _).setCell (by first | omega | (simp; done) | (simp; omega)) _, h.res.far2 (by first | omega | (simp; done) | (simp; omega)) _ _ _ _, h.best.put2 _ _, h64, hi, hl⟩
end

end Go.Proofs.Ytgjhaanpkfheeaa

namespace Go.Proofs.Ytgjhaanpkfheeaa
set_option linter.unusedVariables false
set_option linter.unusedSimpArgs false
open Go.RowKit

/-- where the loop of folded stands -/
structure Gj (w wr : World) (tr : TypeId) (op : Rt → Rt → Rt) (l : List Rt) (x : Rt) (i : Nat) (out : Rt) : Prop where
  below : Below w.heap.size w wr
  res : Blk wr (w.heap.size + 1) tr #[.int .i64 0, .int .i64 0]
  best : Blk wr (w.heap.size + 1 + 1) tr #[.int .i64 out.1, .int .i64 out.2]
  i64 : Is64 out
  le : i ≤ l.length
  law : opG op out (l.drop i) = opG op x l
section
variable {w wr : World} {tr : TypeId} {op : Rt → Rt → Rt} {l : List Rt} {x : Rt} {i : Nat} {out : Rt}
theorem Gj.alloc (h : Gj w wr tr op l x i out) (o : Obj) : Gj w (wr.alloc o) tr op l x i out := ⟨h.below.alloc h.below.size _, h.res.old _, h.best.old _, h.i64, h.le, h.law⟩
theorem Gj.grow (h : Gj w wr tr op l x i out) (m : Ext wr) : Gj w (grow wr m) tr op l x i out := ⟨below_grow h.below m, h.res.grow m, h.best.grow m, h.i64, h.le, h.law⟩
theorem Gj.set (h : Gj w wr tr op l x i out) {r : Rt} (h64 : Is64 r) (hi : i < l.length) (hl : opG op r (l.drop (i + 1)) = opG op x l) :
    Gj w ((wr.setCell ⟨w.heap.size + 1 + 1, 0, none⟩ (.int .i64 r.1)).setCell ⟨w.heap.size + 1 + 1, 1, none⟩ (.int .i64 r.2)) tr op l x (i + 1) r :=
  ⟨(h.below.setCell (by first | omega | (simp; done) | (simp; omega)) _).setCell (by first | omega | (simp; done) | (simp; omega)) _, h.res.far2 (by first | omega | (simp; done) | (simp; omega)) _ _ _ _, h.best.put2 _ _, h64, hi, hl⟩
end

/-- all but the first -/
theorem Rats.tail {w : World} {oa : Option Addr} {cap b o : Nat} {x : Rt} {l : List Rt} (h : Rats w oa (x :: l).length cap b o (x :: l)) : Rats w (some ⟨b, o + 2, none⟩) l.length (cap - 1) b (o + 2) l := by
  have h1 := h.hcap
  have h2 := h.small
  simp only [List.length_cons] at h1
  have e : ∀ i, o + 2 + i * 2 = o + (i + 1) * 2 := fun i => by omega
  refine ⟨rfl, by omega, by omega, fun _ => rfl, fun _ => h.lt (by simp), fun i r hr => ?_, fun i r hr => ?_, fun i r hr => ?_⟩
  · rw [e]; exact h.c0 (i + 1) r (by simpa using hr)
  · rw [e]; exact h.c1 (i + 1) r (by simpa using hr)
  · exact h.is64 (i + 1) r (by simpa using hr)

end Go.Proofs.Ytgjhaanpkfheeaa

namespace Go.Proofs.Ytgjhaanpkfheeaa
set_option linter.unusedVariables false
set_option linter.unusedSimpArgs false
open Go.RowKit

/-- a call whose value is one of some -/
def Loose.val (i : Nat) (d : Tmp) (φ : Value → Prop) : Loose := ⟨i, d, none, fun v _ => φ v, fun _ => none, fun _ _ _ h _ => h⟩
theorem Loose.val_i (i : Nat) (d : Tmp) (φ : Value → Prop) : (Loose.val i d φ).i = i := rfl
theorem Loose.val_hush (i : Nat) (d : Tmp) (φ : Value → Prop) (o : Oper) : (Loose.val i d φ).hush o = { o with dst := none, op := .move (.const undef), guard := none } := rfl
theorem fill_val (V : Nat → Value) (i : Nat) (d : Tmp) (φ : Value → Prop) (cl : List Loose) (a : Act) : fill V (Loose.val i d φ :: cl) a = fill V cl (a.put (some d) (V i)) := rfl
theorem laws_val (V : Nat → Value) (w : World) (i : Nat) (d : Tmp) (φ : Value → Prop) (cl : List Loose) : lawsL V w (Loose.val i d φ :: cl) = (φ (V i) ∧ lawsL V w cl) := rfl
theorem dist_val (V : Nat → Value) (i : Nat) (d : Tmp) (φ : Value → Prop) (cl : List Loose) : distL V (Loose.val i d φ :: cl) = distL V cl := by
  have h : ∀ cl : List Loose, distL1 V (Loose.val i d φ) cl := fun cl => distL1_of fun L' _ k k' h => by cases h
  simp [distL, h]
theorem dist1_val (V : Nat → Value) (L : Loose) (i : Nat) (d : Tmp) (φ : Value → Prop) (cl : List Loose) : distL1 V L (Loose.val i d φ :: cl) = distL1 V L cl := by
  have h : ∀ k k', L.own (V L.i) = some k → (Loose.val i d φ).own (V i) = some k' → k ≠ k' := fun k k' _ h => by cases h
  exact propext ⟨fun h2 => h2.2, fun h2 => ⟨h, h2⟩⟩
/-- a new row of cells that are some, and a slice of all of it -/
def Loose.rowS (i : Nat) (d : Tmp) (t : TypeId) (k : Nat) (φ : Array Value → Prop) (k0 : Nat) : Loose :=
  ⟨i, d, none, fun v w => ∃ b cs, v = .slice (some ⟨b, 0, none⟩) k k ∧ k0 ≤ b ∧ φ cs ∧ Blk w b t cs, ownS, fun _ _ _ ⟨b, cs, h1, h0, hc, h2⟩ hb => ⟨b, cs, h1, h0, hc, h2.below hb h2.lt⟩⟩
theorem Loose.rowS_i (i : Nat) (d : Tmp) (t : TypeId) (k : Nat) (φ : Array Value → Prop) (k0 : Nat) : (Loose.rowS i d t k φ k0).i = i := rfl
theorem Loose.rowS_hush (i : Nat) (d : Tmp) (t : TypeId) (k : Nat) (φ : Array Value → Prop) (k0 : Nat) (o : Oper) : (Loose.rowS i d t k φ k0).hush o = { o with dst := none, op := .move (.const undef), guard := none } := rfl
theorem fill_rowS (V : Nat → Value) (i : Nat) (d : Tmp) (t : TypeId) (k : Nat) (φ : Array Value → Prop) (k0 : Nat) (cl : List Loose) (a : Act) : fill V (Loose.rowS i d t k φ k0 :: cl) a = fill V cl (a.put (some d) (V i)) := rfl
theorem laws_rowS (V : Nat → Value) (w : World) (i : Nat) (d : Tmp) (t : TypeId) (k : Nat) (φ : Array Value → Prop) (k0 : Nat) (cl : List Loose) : lawsL V w (Loose.rowS i d t k φ k0 :: cl) = ((∃ b cs, V i = .slice (some ⟨b, 0, none⟩) k k ∧ k0 ≤ b ∧ φ cs ∧ Blk w b t cs) ∧ lawsL V w cl) := rfl
theorem dist_rowS (V : Nat → Value) (i : Nat) (d : Tmp) (t : TypeId) (k : Nat) (φ : Array Value → Prop) (k0 : Nat) (cl : List Loose) : distL V (Loose.rowS i d t k φ k0 :: cl) = (distL1 V (Loose.rowS i d t k φ k0) cl ∧ distL V cl) := rfl
end Go.Proofs.Ytgjhaanpkfheeaa

namespace Go.Proofs.Ytgjhaanpkfheeaa
set_option linter.unusedVariables false
set_option linter.unusedSimpArgs false
open Go.RowKit

theorem zeroE_mk (k n d u : Int) (oa : Option Addr) (b o cap : Nat) (kids : List Ex) : zeroE (.mk k n d u oa b o cap kids) = (decide (k = 0) && (decide (n = 0) && decide (d = 0)) && decide (u = 0) && decide (kids.length = 0)) := rfl

set_option maxRecDepth 20000 in
set_option maxHeartbeats 4000000 in
theorem rsame_zero (h : Nat) (e : Ex) (w : World) (hx : ExIn w h e) :
    Calls Try.prog 116 #[xv e, .agg #[.int .i64 0, .int .i64 0, .int .i64 0, .int .i64 0, .slice none 0 0]] w fun x w' => x = .returned (.bool (zeroE e)) ∧ Below w.heap.size w w' := by
  obtain _ | h := h
  · exact hx.elim
  obtain ⟨k, n, d, u, oa, b, o, cap, kids⟩ := e
  obtain ⟨_, _, _, h4, h5, _, _, _⟩ := hx
  have hsm : kids.length ≤ 9223372036854775807 := Nat.le_trans (Nat.le_trans h4 h5) (by decide)
  rw [xv_mk, zeroE_mk]
  clear h4 h5
  generalize kids.length = L at *
  have ways : k ≠ 0 ∨ k = 0 ∧ n ≠ 0 ∨ k = 0 ∧ n = 0 ∧ d ≠ 0 ∨ k = 0 ∧ n = 0 ∧ d = 0 ∧ u ≠ 0 ∨ k = 0 ∧ n = 0 ∧ d = 0 ∧ u = 0 ∧ ((L : Int) == 0) = false ∨ k = 0 ∧ n = 0 ∧ d = 0 ∧ u = 0 ∧ L = 0 := by
    simp only [beq_eq_false_iff_ne]; omega
  rcases ways with hn | ⟨rfl, hn⟩ | ⟨rfl, rfl, hn⟩ | ⟨rfl, rfl, rfl, hn⟩ | ⟨rfl, rfl, rfl, rfl, hn⟩ | ⟨rfl, rfl, rfl, rfl, rfl⟩
  · have HF := Lib.hid (show (decide (k = 0) && (decide (n = 0) && decide (d = 0)) && decide (u = 0) && decide (L = 0)) = false by simp [hn])
    go_enter Try.func116, Try.ntmps116
    go_wp2_with fail
    go_ret
    exact ⟨ret_bool (by first | rfl | exact HF.out.symm), ((below_box _ _).alloc (by simp) _)⟩
  · have HF := Lib.hid (show (decide ((0 : Int) = 0) && (decide (n = 0) && decide (d = 0)) && decide (u = 0) && decide (L = 0)) = false by simp [hn])
    go_enter Try.func116, Try.ntmps116
    go_wp2_with fail
    go_ret
    exact ⟨ret_bool (by first | rfl | exact HF.out.symm), ((below_box _ _).alloc (by simp) _)⟩
  · have HF := Lib.hid (show (decide ((0 : Int) = 0) && (decide ((0 : Int) = 0) && decide (d = 0)) && decide (u = 0) && decide (L = 0)) = false by simp [hn])
    go_enter Try.func116, Try.ntmps116
    go_wp2_with fail
    go_ret
    exact ⟨ret_bool (by first | rfl | exact HF.out.symm), ((below_box _ _).alloc (by simp) _)⟩
  · have HF := Lib.hid (show (decide ((0 : Int) = 0) && (decide ((0 : Int) = 0) && decide ((0 : Int) = 0)) && decide (u = 0) && decide (L = 0)) = false by simp [hn])
    go_enter Try.func116, Try.ntmps116
    go_wp2_with fail
    go_ret
    exact ⟨ret_bool (by first | rfl | exact HF.out.symm), ((below_box _ _).alloc (by simp) _)⟩
  · have hn2 : ((L : Int) != 0) = true := by simp only [bne, hn]; rfl
    have HF := Lib.hid (show (decide ((0 : Int) = 0) && (decide ((0 : Int) = 0) && decide ((0 : Int) = 0)) && decide ((0 : Int) = 0) && decide (L = 0)) = false by simp at hn ⊢; omega)
    go_enter Try.func116, Try.ntmps116
    go_wp2_with fail
    go_ret
    exact ⟨ret_bool (by first | rfl | exact HF.out.symm), ((below_box _ _).alloc (by simp) _)⟩
  · go_enter Try.func116, Try.ntmps116
    go_wp2_with fail
    go_loopg [37] 0 (fun kk s wr => s = .int .i64 0 ∧ wr = (w.alloc (.cells #[.int .i64 0, .int .i64 0, .int .i64 0, .int .i64 0, .slice oa 0 cap] 45)).alloc (.cells #[.int .i64 0, .int .i64 0, .int .i64 0, .int .i64 0, .slice none 0 0] 45))
    case atStart => exact ⟨rfl, rfl⟩
    case round =>
      obtain ⟨rfl, rfl⟩ := hrel
      go_wp2_with fail
      go_ret
      exact ⟨ret_bool rfl, ((below_box _ _).alloc (by simp) _)⟩

end Go.Proofs.Ytgjhaanpkfheeaa

namespace Go.Proofs.Ytgjhaanpkfheeaa
set_option linter.unusedVariables false
set_option linter.unusedSimpArgs false
open Go.RowKit

theorem lv_mk (k t : Int) (nm : ByteArray) (op : Int) (k' n d u : Int) (oa : Option Addr) (b o cap : Nat) (kids : List Ex) (wd vl : ByteArray) (an : Bool) :
    lv ⟨k, t, nm, op, .mk k' n d u oa b o cap kids, wd, vl, an⟩ = .agg #[.int .i64 k, .int .i64 t, .string nm, .int .i64 op, .int .i64 k', .int .i64 n, .int .i64 d, .int .i64 u, .slice oa kids.length cap, .string wd, .string vl, .bool an] := rfl


set_option maxRecDepth 20000 in
set_option maxHeartbeats 8000000 in
theorem rlike_any (l m : Lf) (B : Bool) (w : World) (hS : ∀ wx, Below w.heap.size w wx → Calls Try.prog 116 #[xv l.ex, xv m.ex] wx fun x w' => x = .returned (.bool B) ∧ Below wx.heap.size wx w') :
    Calls Try.prog 95 #[lv l, lv m] w fun x w' => x = .returned (.bool (likeB l m B)) ∧ Below w.heap.size w w' := by
  obtain ⟨k, t, nm, op, ⟨k', n, d, u, oa, b, o, cap, kids⟩, wd, vl, an⟩ := l
  obtain ⟨K, T, NM, OP, ⟨K', N, D, U, OA, B', O, CAP, KIDS⟩, WD, VL, AN⟩ := m
  simp only [xv_mk] at hS
  rw [lv_mk, lv_mk]
  have HS := Lib.hid hS
  clear hS
  unfold likeB
  simp only
  generalize kids.length = L at *
  generalize KIDS.length = L' at *
  obtain ⟨b1, g1⟩ : ∃ b, (k == K) = b := ⟨_, rfl⟩
  obtain ⟨b2, g2⟩ : ∃ b, (t == T) = b := ⟨_, rfl⟩
  obtain ⟨b3, g3⟩ : ∃ b, (nm.toList == NM.toList) = b := ⟨_, rfl⟩
  obtain ⟨b4, g4⟩ : ∃ b, (op == OP) = b := ⟨_, rfl⟩
  obtain ⟨b6, g6⟩ : ∃ b, (wd.toList == WD.toList) = b := ⟨_, rfl⟩
  obtain ⟨b7, g7⟩ : ∃ b, (vl.toList == VL.toList) = b := ⟨_, rfl⟩
  rw [g1, g2, g3, g4, g6, g7]
  cases b1 with
  | false =>
    go_enter Try.func95, Try.ntmps95
    go_wp2_with fail
    go_ret
    exact ⟨ret_bool (by simp), ((below_box _ _).alloc (by simp) _)⟩
  | true =>
    cases b2 with
    | false =>
      go_enter Try.func95, Try.ntmps95
      go_wp2_with fail
      go_ret
      exact ⟨ret_bool (by simp), ((below_box _ _).alloc (by simp) _)⟩
    | true =>
      cases b3 with
      | false =>
        go_enter Try.func95, Try.ntmps95
        go_wp2_with fail
        go_ret
        exact ⟨ret_bool (by simp), ((below_box _ _).alloc (by simp) _)⟩
      | true =>
        cases b4 with
        | false =>
          go_enter Try.func95, Try.ntmps95
          go_wp2_with fail
          go_ret
          exact ⟨ret_bool (by simp), ((below_box _ _).alloc (by simp) _)⟩
        | true =>
          cases B with
          | false =>
            go_enter Try.func95, Try.ntmps95
            go_wp2_with fail
            ((with_reducible refine (HS.out _ ((below_box _ _).alloc (by simp) _)).mono ?_); rintro e w' ⟨rfl, hbw⟩)
            obtain ⟨m, rfl⟩ := grow_mk hbw
            clear hbw
            go_wp2_with fail
            go_ret
            exact ⟨ret_bool (by simp), below_grow ((below_box _ _).alloc (by simp) _) m⟩
          | true =>
            cases b6 with
            | false =>
              go_enter Try.func95, Try.ntmps95
              go_wp2_with fail
              ((with_reducible refine (HS.out _ ((below_box _ _).alloc (by simp) _)).mono ?_); rintro e w' ⟨rfl, hbw⟩)
              obtain ⟨m, rfl⟩ := grow_mk hbw
              clear hbw
              go_wp2_with fail
              go_ret
              exact ⟨ret_bool (by simp), below_grow ((below_box _ _).alloc (by simp) _) m⟩
            | true =>
              cases b7 with
              | false =>
                go_enter Try.func95, Try.ntmps95
                go_wp2_with fail
                ((with_reducible refine (HS.out _ ((below_box _ _).alloc (by simp) _)).mono ?_); rintro e w' ⟨rfl, hbw⟩)
                obtain ⟨m, rfl⟩ := grow_mk hbw
                clear hbw
                go_wp2_with fail
                go_ret
                exact ⟨ret_bool (by simp), below_grow ((below_box _ _).alloc (by simp) _) m⟩
              | true =>
                cases an <;> cases AN
                all_goals
                  go_enter Try.func95, Try.ntmps95
                  go_wp2_with fail
                  ((with_reducible refine (HS.out _ ((below_box _ _).alloc (by simp) _)).mono ?_); rintro e w' ⟨rfl, hbw⟩)
                  obtain ⟨m, rfl⟩ := grow_mk hbw
                  clear hbw
                  go_wp2_with fail
                  go_ret
                  exact ⟨ret_bool (by simp), below_grow ((below_box _ _).alloc (by simp) _) m⟩

end Go.Proofs.Ytgjhaanpkfheeaa

namespace Go.Proofs.Ytgjhaanpkfheeaa
set_option linter.unusedVariables false
set_option linter.unusedSimpArgs false
open Go.RowKit

/-- the empty text; nothing as an expression, as a leaf -/
abbrev sv0 : Value := .string ⟨#[]⟩
abbrev ev0 : Value := .agg #[.int .i64 0, .int .i64 0, .int .i64 0, .int .i64 0, .slice none 0 0]
/-- a leaf of a kind with a truth -/
abbrev alv (k t : Int) : Value := .agg #[.int .i64 k, .int .i64 t, sv0, .int .i64 0, .int .i64 0, .int .i64 0, .int .i64 0, .int .i64 0, .slice none 0 0, sv0, sv0, .bool false]

set_option maxHeartbeats 1000000 in
theorem same_zero (w : World) : Calls Try.prog 130 #[ev0, ev0] w fun e w' => e = .returned (.bool true) ∧ Below w.heap.size w w' := by
  go_enter Try.func130, Try.ntmps130
  go_wp2_with fail
  go_loopg [37] 0 (fun k s wr => s = .int .i64 0 ∧ Hid (Below w.heap.size w wr))
  case atStart => exact ⟨rfl, Lib.hid ((below_box _ _).alloc (by simp) _)⟩
  case round =>
    obtain ⟨rfl, hb⟩ := hrel
    go_wp2_with fail
    go_ret
    exact ⟨rfl, hb.out⟩

set_option maxHeartbeats 1000000 in
theorem likewise_zero (w : World) : Calls Try.prog 121 #[alv 0 0, alv 0 0] w fun e w' => e = .returned (.bool true) ∧ Below w.heap.size w w' := by
  have HS := Lib.hid (fun w => same_zero w)
  go_enter Try.func121, Try.ntmps121
  go_wp2_with fail
  ((with_reducible refine (HS.out _).mono ?_); rintro e w' ⟨rfl, hbw⟩)
  obtain ⟨m, rfl⟩ := grow_mk hbw
  clear hbw
  go_wp2_with fail
  go_ret
  exact ⟨rfl, below_grow ((below_box _ _).alloc (by simp) _) _⟩

set_option maxHeartbeats 1000000 in
theorem leaf_truth (w : World) : Calls Try.prog 120 #[alv 1 2] w fun e w' => e = .returned (.bool true) ∧ Below w.heap.size w w' := by
  have HS := Lib.hid (fun w => likewise_zero w)
  go_enter Try.func120, Try.ntmps120
  go_wp2_with fail
  ((with_reducible refine (HS.out _).mono ?_); rintro e w' ⟨rfl, hbw⟩)
  obtain ⟨m, rfl⟩ := grow_mk hbw
  clear hbw
  go_wp2_with fail
  go_ret
  exact ⟨rfl, below_grow ((below_box _ _).alloc (by simp) _) _⟩

/-- the cells of a condition with an only leaf; of a condition with one part -/
abbrev kidC : Array Value := #[.int .i64 4, .slice none 0 0, .int .i64 1, .int .i64 2, sv0, .int .i64 0, .int .i64 0, .int .i64 0, .int .i64 0, .int .i64 0, .slice none 0 0, sv0, sv0, .bool false]
abbrev notC (kb : Nat) : Array Value := #[.int .i64 3, .slice (some ⟨kb, 0, none⟩) 1 1, .int .i64 0, .int .i64 0, sv0, .int .i64 0, .int .i64 0, .int .i64 0, .int .i64 0, .int .i64 0, .slice none 0 0, sv0, sv0, .bool false]

set_option maxHeartbeats 1000000 in
theorem may_leaf (w : World) : Calls Try.prog 100 #[.agg kidC, .int .i64 2] w fun e w' => e = .returned (.bool true) ∧ Below w.heap.size w w' := by
  have HS := Lib.hid (fun w => leaf_truth w)
  go_enter Try.func100, Try.ntmps100
  go_wp2_with fail
  ((with_reducible refine (HS.out _).mono ?_); rintro e w' ⟨rfl, hbw⟩)
  obtain ⟨m, rfl⟩ := grow_mk hbw
  clear hbw
  go_wp2_with fail
  go_ret
  exact ⟨rfl, below_grow (below_box _ _) _⟩

set_option maxHeartbeats 1000000 in
theorem may_not (w : World) (kb : Nat) (t : TypeId) (h : Blk w kb t kidC) : Calls Try.prog 100 #[.agg (notC kb), .int .i64 1] w fun e w' => e = .returned (.bool true) ∧ Below w.heap.size w w' := by
  have HS := Lib.hid (fun w => likewise_zero w)
  have HM := Lib.hid (fun w => may_leaf w)
  have hlt := h.lt
  have c0 : w.cell? ⟨kb, 0, none⟩ = some (.int .i64 4) := h.cell 0
  have c1 : w.cell? ⟨kb, 1, none⟩ = some (.slice none 0 0) := h.cell 1
  have c2 : w.cell? ⟨kb, 2, none⟩ = some (.int .i64 1) := h.cell 2
  have c3 : w.cell? ⟨kb, 3, none⟩ = some (.int .i64 2) := h.cell 3
  have c4 : w.cell? ⟨kb, 4, none⟩ = some sv0 := h.cell 4
  have c5 : w.cell? ⟨kb, 5, none⟩ = some (.int .i64 0) := h.cell 5
  have c6 : w.cell? ⟨kb, 6, none⟩ = some (.int .i64 0) := h.cell 6
  have c7 : w.cell? ⟨kb, 7, none⟩ = some (.int .i64 0) := h.cell 7
  have c8 : w.cell? ⟨kb, 8, none⟩ = some (.int .i64 0) := h.cell 8
  have c9 : w.cell? ⟨kb, 9, none⟩ = some (.int .i64 0) := h.cell 9
  have c10 : w.cell? ⟨kb, 10, none⟩ = some (.slice none 0 0) := h.cell 10
  have c11 : w.cell? ⟨kb, 11, none⟩ = some sv0 := h.cell 11
  have c12 : w.cell? ⟨kb, 12, none⟩ = some sv0 := h.cell 12
  have c13 : w.cell? ⟨kb, 13, none⟩ = some (.bool false) := h.cell 13
  clear h
  go_enter Try.func100, Try.ntmps100
  go_wp2_with fail
  ((with_reducible refine (HS.out _).mono ?_); rintro e w' ⟨rfl, hbw⟩)
  obtain ⟨m, rfl⟩ := grow_mk hbw
  clear hbw
  go_wp2_with fail
  refine wp_loop_rounds 2 ?_
  rw [rounds_succ]
  go_wp2_with fail
  ((with_reducible refine (HM.out _).mono ?_); rintro e w' ⟨rfl, hbw⟩)
  obtain ⟨m2, rfl⟩ := grow_mk hbw
  clear hbw
  go_wp2_with fail
  rw [rounds_succ]
  go_wp2_with fail
  go_ret
  exact ⟨rfl, below_grow (below_grow (below_box _ _) _) _⟩

set_option maxHeartbeats 1000000 in
theorem May_not (w : World) (kb : Nat) (t : TypeId) (h : Blk w kb t kidC) : Calls Try.prog 82 #[.agg (notC kb)] w fun e w' => e = .returned (.bool true) ∧ Below w.heap.size w w' := by
  have HM := Lib.hid (may_not (w.alloc (.cells (notC kb) 49)) kb t (h.old _))
  clear h
  go_enter Try.func82, Try.ntmps82
  go_wp2_with fail
  ((with_reducible refine (HM.out).mono ?_); rintro e w' ⟨rfl, hbw⟩)
  obtain ⟨m, rfl⟩ := grow_mk hbw
  clear hbw
  go_wp2_with fail
  go_ret
  exact ⟨rfl, below_grow (below_box _ _) _⟩

end Go.Proofs.Ytgjhaanpkfheeaa

namespace Go.Proofs.Ytgjhaanpkfheeaa
set_option linter.unusedVariables false
set_option linter.unusedSimpArgs false
open Go.RowKit

/-- and, or of two and of three -/
def aF2 (x y : Int) : Int := andG 2 [x, y]
def oF2 (x y : Int) : Int := orG 0 [x, y]
/-- it fits into 64 bits -/
def In64 (x : Int) : Prop := -9223372036854775808 ≤ x ∧ x ≤ 9223372036854775807

theorem ints_new (W : World) (t : TypeId) (l : List Int) (h64 : ∀ x ∈ l, In64 x) (hl : l.length ≤ maxLen) : Ints (W.alloc (.cells (l.map fun x => Value.int .i64 x).toArray t)) (some ⟨W.heap.size, 0, none⟩) l.length l.length W.heap.size 0 l := by
  have hb := Blk.new W t (l.map fun x => Value.int .i64 x).toArray
  refine ⟨rfl, Nat.le_refl _, hl, fun _ => rfl, fun _ => by simp, fun i x hx => ?_, fun i x hx => h64 x (List.mem_of_getElem? hx)⟩
  have := hb.cell i
  simp only [List.getElem?_toArray, List.getElem?_map, hx, Option.map_some, Nat.zero_add] at this ⊢
  exact this

section
variable (W : World) (t : TypeId) (k : Nat) (hk : W.heap.size = k) {x y z : Int} (hx : In64 x) (hy : In64 y) (hz : In64 z)
include hk hx
include hy
theorem and2_any : Calls Try.prog 36 #[.slice (some ⟨k, 0, none⟩) 2 2] (W.alloc (.cells #[.int .i64 x, .int .i64 y] t)) fun e w' => e = .returned (.int .i64 (aF2 x y)) ∧ Below (W.alloc (.cells #[.int .i64 x, .int .i64 y] t)).heap.size (W.alloc (.cells #[.int .i64 x, .int .i64 y] t)) w' := by
  subst hk; exact (and_any _ _ _ _ _ [x, y] _ (ints_new W t [x, y] (by simp [hx, hy]) (by show 2 ≤ maxLen; decide))).mono fun _ _ ⟨h1, h2⟩ => ⟨h1, h2 ▸ Below.refl _ _⟩
theorem or2_any : Calls Try.prog 38 #[.slice (some ⟨k, 0, none⟩) 2 2] (W.alloc (.cells #[.int .i64 x, .int .i64 y] t)) fun e w' => e = .returned (.int .i64 (oF2 x y)) ∧ Below (W.alloc (.cells #[.int .i64 x, .int .i64 y] t)).heap.size (W.alloc (.cells #[.int .i64 x, .int .i64 y] t)) w' := by
  subst hk; exact (or_any _ _ _ _ _ [x, y] _ (ints_new W t [x, y] (by simp [hx, hy]) (by show 2 ≤ maxLen; decide))).mono fun _ _ ⟨h1, h2⟩ => ⟨h1, h2 ▸ Below.refl _ _⟩
include hz
end

theorem in64_lit {x : Int} (h : decide (-9223372036854775808 ≤ x ∧ x ≤ 9223372036854775807) = true) : In64 x := by simpa [In64] using h

set_option maxHeartbeats 2000000 in
theorem awakeC_any (w : World) : Calls Try.prog 42 #[] w fun e w' => e = .returned (.bool true) ∧ Below w.heap.size w w' := by
  have HA := Lib.hid (fun W k h => and2_any W 3 k h (x := 2) (y := 1) (in64_lit (by decide)) (in64_lit (by decide)))
  have HO := Lib.hid (fun W k h => or2_any W 3 k h (x := 0) (y := 2) (in64_lit (by decide)) (in64_lit (by decide)))
  rw [show aF2 2 1 = 1 by decide] at HA
  rw [show oF2 0 2 = 2 by decide] at HO
  have HM := Lib.hid (fun w => May_not w)
  go_enter Try.func42, Try.ntmps42
  go_upto_region 2 with fail
  have hb : Below w.heap.size w ((w.alloc (.cells kidC 49)).alloc (.cells (notC w.heap.size) 49)) := (below_box _ _).alloc (by simp) _
  have hk : Blk ((w.alloc (.cells kidC 49)).alloc (.cells (notC w.heap.size) 49)) w.heap.size 49 kidC := (Blk.new _ _ _).old _
  have hn : Blk ((w.alloc (.cells kidC 49)).alloc (.cells (notC w.heap.size) 49)) (w.heap.size + 1) 49 (notC w.heap.size) := Blk.new2 _ _ _ _
  generalize World.alloc _ _ = wa at *
  go_wp2_with fail
  ((with_reducible refine (HA.out _ _ rfl).mono ?_); rintro e w' ⟨rfl, hbw⟩)
  obtain ⟨m1, rfl⟩ := grow_mk hbw
  clear hbw
  replace hb := below_grow (hb.alloc hb.size (.cells #[.int .i64 2, .int .i64 1] 3)) m1
  replace hk := (hk.old (.cells #[.int .i64 2, .int .i64 1] 3)).grow m1
  replace hn := (hn.old (.cells #[.int .i64 2, .int .i64 1] 3)).grow m1
  generalize grow _ _ = wb at *
  go_wp2_with fail
  ((with_reducible refine (HO.out _ _ rfl).mono ?_); rintro e w' ⟨rfl, hbw⟩)
  obtain ⟨m2, rfl⟩ := grow_mk hbw
  clear hbw
  replace hb := below_grow (hb.alloc hb.size (.cells #[.int .i64 0, .int .i64 2] 3)) m2
  replace hk := (hk.old (.cells #[.int .i64 0, .int .i64 2] 3)).grow m2
  replace hn := (hn.old (.cells #[.int .i64 0, .int .i64 2] 3)).grow m2
  generalize grow _ _ = wc at *
  have c0 : wc.cell? ⟨w.heap.size + 1, 0, none⟩ = some (.int .i64 3) := hn.cell 0
  have c1 : wc.cell? ⟨w.heap.size + 1, 1, none⟩ = some (.slice (some ⟨w.heap.size, 0, none⟩) 1 1) := hn.cell 1
  have c2 : wc.cell? ⟨w.heap.size + 1, 2, none⟩ = some (.int .i64 0) := hn.cell 2
  have c3 : wc.cell? ⟨w.heap.size + 1, 3, none⟩ = some (.int .i64 0) := hn.cell 3
  have c4 : wc.cell? ⟨w.heap.size + 1, 4, none⟩ = some sv0 := hn.cell 4
  have c5 : wc.cell? ⟨w.heap.size + 1, 5, none⟩ = some (.int .i64 0) := hn.cell 5
  have c6 : wc.cell? ⟨w.heap.size + 1, 6, none⟩ = some (.int .i64 0) := hn.cell 6
  have c7 : wc.cell? ⟨w.heap.size + 1, 7, none⟩ = some (.int .i64 0) := hn.cell 7
  have c8 : wc.cell? ⟨w.heap.size + 1, 8, none⟩ = some (.int .i64 0) := hn.cell 8
  have c9 : wc.cell? ⟨w.heap.size + 1, 9, none⟩ = some (.int .i64 0) := hn.cell 9
  have c10 : wc.cell? ⟨w.heap.size + 1, 10, none⟩ = some (.slice none 0 0) := hn.cell 10
  have c11 : wc.cell? ⟨w.heap.size + 1, 11, none⟩ = some sv0 := hn.cell 11
  have c12 : wc.cell? ⟨w.heap.size + 1, 12, none⟩ = some sv0 := hn.cell 12
  have c13 : wc.cell? ⟨w.heap.size + 1, 13, none⟩ = some (.bool false) := hn.cell 13
  go_wp2_with fail
  ((with_reducible refine (HM.out _ _ _ hk).mono ?_); rintro e w' ⟨rfl, hbw⟩)
  obtain ⟨m3, rfl⟩ := grow_mk hbw
  clear hbw
  go_wp2_with fail
  go_ret
  exact ⟨rfl, below_grow hb _⟩

end Go.Proofs.Ytgjhaanpkfheeaa
