/- Of my texts: WideC, WideD, WideE. -/
import Derived.Test.YtgjhaanpkfheeaaM03
import Derived.Shelf.Spec.BitsCarry
import Derived.Lib.Mul64
import Derived.Deep.LoopGhost
import Derived.Deep.RegionWith
import Derived.Deep.CutBlock
import Derived.Deep.DeepCutAuto
namespace Go.Proofs.Ytgjhaanpkfheeaa
set_option linter.unusedVariables false
set_option linter.unusedSimpArgs false
open Go.RowKit

/-- a block of the call's own, whole -/
def Blk (w : World) (g : Nat) (t : TypeId) (cs : Array Value) : Prop := w.heap[g]? = some (.cells cs t (0, 0))
section
variable {w w' : World} {g : Nat} {t : TypeId} {cs : Array Value}
theorem Blk.lt (h : Blk w g t cs) : g < w.heap.size := by
  apply Classical.byContradiction
  intro hn
  unfold Blk at h
  rw [Array.getElem?_eq_none (by omega)] at h
  cases h
theorem Blk.cell (h : Blk w g t cs) (i : Nat) : w.cell? ⟨g, i, none⟩ = cs[i]? := cell_of_row w g i cs t (0, 0) h
theorem Blk.frozen (h : Blk w g t cs) (i : Nat) : w.frozen? ⟨g, i, none⟩ = false := by unfold Blk at h; simp [World.frozen?, h]
theorem Blk.new (w : World) (t : TypeId) (cs : Array Value) : Blk (w.alloc (.cells cs t)) w.heap.size t cs := heap_alloc_new w _
theorem Blk.old (h : Blk w g t cs) (o : Obj) : Blk (w.alloc o) g t cs := (Below.heap_alloc w o g h.lt).trans h
theorem Blk.below {B : Nat} (h : Blk w g t cs) (hb : Below B w w') (hg : g < B) : Blk w' g t cs := (hb.block g hg).trans h
theorem Blk.grow (h : Blk w g t cs) (m : Ext w) : Blk (grow w m) g t cs := h.below (grow_below m) h.lt
theorem Blk.put (h : Blk w g t cs) (i : Nat) (u : Value) : Blk (w.setCell ⟨g, i, none⟩ u) g t (cs.setIfInBounds i u) := by
  unfold Blk at h ⊢
  simp [World.setCell, Array.getElem?_modify, h]
theorem Blk.far (h : Blk w g t cs) {p : Addr} (hp : g ≠ p.block) (u : Value) : Blk (w.setCell p u) g t cs := (Below.heap_setCell w p u g hp).trans h
theorem Blk.to (h : Blk w g t cs) {cs' : Array Value} (e : cs = cs') : Blk w g t cs' := e ▸ h
end

/-- the three variables of the divisor's reckoning -/
structure Gw (w0 wr : World) (t ah al bh bl : Nat) : Prop where
  below : Below w0.heap.size w0 wr
  a : Blk wr w0.heap.size t #[.int .u64 ah, .int .u64 al]
  b : Blk wr (w0.heap.size + 1) t #[.int .u64 bh, .int .u64 bl]
  r : Blk wr (w0.heap.size + 1 + 1) t #[.int .u64 0, .int .u64 0]
  b1 : ah < 18446744073709551616
  b2 : al < 18446744073709551616
  b3 : bh < 18446744073709551616
  b4 : bl < 18446744073709551616

theorem Blk.put2 {w : World} {g : Nat} {t : TypeId} {x y : Value} (h : Blk w g t #[x, y]) (a b : Value) : Blk ((w.setCell ⟨g, 0, none⟩ a).setCell ⟨g, 1, none⟩ b) g t #[a, b] := (h.put 0 a).put 1 b
theorem Blk.far2 {w : World} {g g' : Nat} {t : TypeId} {cs : Array Value} (h : Blk w g t cs) (hne : g ≠ g') (i j : Nat) (a b : Value) : Blk ((w.setCell ⟨g', i, none⟩ a).setCell ⟨g', j, none⟩ b) g t cs := (h.far (p := ⟨g', i, none⟩) hne a).far (p := ⟨g', j, none⟩) hne b

section
variable {w0 wr : World} {t ah al bh bl : Nat}
theorem Gw.grow (h : Gw w0 wr t ah al bh bl) (m : Ext wr) : Gw w0 (grow wr m) t ah al bh bl := ⟨below_grow h.below m, h.a.grow m, h.b.grow m, h.r.grow m, h.b1, h.b2, h.b3, h.b4⟩
end

/-- what holds of the numbers throughout -/
structure Gs (G ah al bh bl n : Nat) : Prop where
  a : wn ah al ≠ 0
  b : wn bh bl ≠ 0
  eq : 2 ^ n * Nat.gcd (wn ah al) (wn bh bl) = G
  lt : G < 340282366920938463463374607431768211456

/-- behind the second loop: a is odd -/
structure Gt (G ah al bh bl n : Nat) : Prop where
  odd : al % 2 = 1
  eq : 2 ^ n * Nat.gcd (wn ah al) (wn bh bl) = G
  lt : G < 340282366920938463463374607431768211456

theorem Gs.done {G ah al bh bl n : Nat} (h : Gs G ah al bh bl n) (pa : al % 2 = 1) : Gt G ah al bh bl n := ⟨pa, h.eq, h.lt⟩

theorem Gt.pos {G ah al bh bl n : Nat} (h : Gt G ah al bh bl n) : 0 < wn ah al := by have := h.odd; unfold wn; omega
end Go.Proofs.Ytgjhaanpkfheeaa

namespace Go.Proofs.Ytgjhaanpkfheeaa
set_option linter.unusedVariables false
set_option linter.unusedSimpArgs false
open Go.RowKit

/-- the five variables of the quotient's reckoning -/
structure Gd (w0 wr : World) (t ah al bh bl qh ql rh rl : Nat) : Prop where
  below : Below w0.heap.size w0 wr
  a : Blk wr w0.heap.size t #[.int .u64 ah, .int .u64 al]
  b : Blk wr (w0.heap.size + 1) t #[.int .u64 bh, .int .u64 bl]
  o : Blk wr (w0.heap.size + 1 + 1) t #[.int .u64 0, .int .u64 0]
  q : Blk wr (w0.heap.size + 1 + 1 + 1) t #[.int .u64 qh, .int .u64 ql]
  r : Blk wr (w0.heap.size + 1 + 1 + 1 + 1) t #[.int .u64 rh, .int .u64 rl]

section
variable {w0 wr : World} {t ah al bh bl qh ql rh rl : Nat}
theorem Gd.grow (h : Gd w0 wr t ah al bh bl qh ql rh rl) (m : Ext wr) : Gd w0 (grow wr m) t ah al bh bl qh ql rh rl := ⟨below_grow h.below m, h.a.grow m, h.b.grow m, h.o.grow m, h.q.grow m, h.r.grow m⟩
end

end Go.Proofs.Ytgjhaanpkfheeaa

namespace Go.Proofs.Ytgjhaanpkfheeaa
set_option linter.unusedVariables false
set_option linter.unusedSimpArgs false
open Go.RowKit

/-- the variables of the reference's 'made' -/
structure Gm (w0 wr : World) (t tr nh nl dh dl : Nat) : Prop where
  below : Below w0.heap.size w0 wr
  n : Blk wr w0.heap.size t #[.int .u64 nh, .int .u64 nl]
  d : Blk wr (w0.heap.size + 1) t #[.int .u64 dh, .int .u64 dl]
  o : Blk wr (w0.heap.size + 1 + 1) tr #[.int .i64 0, .int .i64 0]
section
variable {w0 wr : World} {t tr nh nl dh dl : Nat}
theorem Gm.start (w0 : World) (t tr nh nl dh dl : Nat) : Gm w0 (((w0.alloc (.cells #[.int .u64 nh, .int .u64 nl] t)).alloc (.cells #[.int .u64 dh, .int .u64 dl] t)).alloc (.cells #[.int .i64 0, .int .i64 0] tr)) t tr nh nl dh dl := by
  have k1 := Blk.new w0 t #[.int .u64 nh, .int .u64 nl]
  have k2 := Blk.new (w0.alloc (.cells #[.int .u64 nh, .int .u64 nl] t)) t #[.int .u64 dh, .int .u64 dl]
  have k3 := Blk.new ((w0.alloc (.cells #[.int .u64 nh, .int .u64 nl] t)).alloc (.cells #[.int .u64 dh, .int .u64 dl] t)) tr #[.int .i64 0, .int .i64 0]
  simp only [World.size_alloc] at k2 k3
  exact ⟨((below_box _ _).alloc (by first | omega | (simp; done) | (simp; omega)) _).alloc (by first | omega | (simp; done) | (simp; omega)) _, (k1.old _).old _, k2.old _, k3⟩
theorem Gm.grow (h : Gm w0 wr t tr nh nl dh dl) (m : Ext wr) : Gm w0 (grow wr m) t tr nh nl dh dl := ⟨below_grow h.below m, h.n.grow m, h.d.grow m, h.o.grow m⟩
theorem Gm.old (h : Gm w0 wr t tr nh nl dh dl) (o : Obj) : Gm w0 (wr.alloc o) t tr nh nl dh dl := ⟨h.below.alloc h.below.size o, h.n.old o, h.d.old o, h.o.old o⟩
end

end Go.Proofs.Ytgjhaanpkfheeaa
