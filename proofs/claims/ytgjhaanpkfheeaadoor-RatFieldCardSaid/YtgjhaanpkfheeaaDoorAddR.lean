/- The reference's sum of two fractions. -/
import Derived.Test.YtgjhaanpkfheeaaDoorMulR
import Derived.Test.YtgjhaanpkfheeaaDoorPlusM
namespace Go.Proofs.YtgjhaanpkfheeaaDoor
set_option linter.unusedVariables false
set_option linter.unusedSimpArgs false
open Go.RowKit

/-- what stands where in add2, behind its first two products -/
structure Ca (w wr : World) (g g' tr t : Nat) (n d p q : Int) (xh xl yh yl : Nat) : Prop where
  below : Below w.heap.size w wr
  a : Blk wr w.heap.size tr #[.int .i64 n, .int .i64 d]
  b : Blk wr (w.heap.size + 1) tr #[.int .i64 p, .int .i64 q]
  r : Blk wr (w.heap.size + 1 + 1) tr #[.int .i64 0, .int .i64 0]
  x : Blk wr g t #[.int .u64 xh, .int .u64 xl]
  y : Blk wr g' t #[.int .u64 yh, .int .u64 yl]
theorem Ca.set {w wr : World} {g g' tr t : Nat} {n d p q : Int} {xh xl yh yl a1 a2 a3 a4 : Nat} (h : Ca w wr g g' tr t n d p q a1 a2 a3 a4) (k : w.heap.size + 3 ≤ g) (k' : w.heap.size + 3 ≤ g') (hne : g ≠ g') :
    Ca w ((((wr.setCell ⟨g, 0, none⟩ (.int .u64 xh)).setCell ⟨g, 1, none⟩ (.int .u64 xl)).setCell ⟨g', 0, none⟩ (.int .u64 yh)).setCell ⟨g', 1, none⟩ (.int .u64 yl)) g g' tr t n d p q xh xl yh yl :=
  ⟨(((h.below.setCell (by simp; omega) _).setCell (by simp; omega) _).setCell (by simp; omega) _).setCell (by simp; omega) _, (h.a.far2 (by omega) _ _ _ _).far2 (by omega) _ _ _ _, (h.b.far2 (by omega) _ _ _ _).far2 (by omega) _ _ _ _, (h.r.far2 (by omega) _ _ _ _).far2 (by omega) _ _ _ _,
    (h.x.put2 _ _).far2 hne _ _ _ _, (h.y.far2 (Ne.symm hne) _ _ _ _).put2 _ _⟩
theorem Ca.grow {w wr : World} {g g' tr t : Nat} {n d p q : Int} {xh xl yh yl : Nat} (h : Ca w wr g g' tr t n d p q xh xl yh yl) (m : Ext wr) : Ca w (grow wr m) g g' tr t n d p q xh xl yh yl := ⟨below_grow h.below m, h.a.grow m, h.b.grow m, h.r.grow m, h.x.grow m, h.y.grow m⟩
theorem Ca.alloc {w wr : World} {g g' tr t : Nat} {n d p q : Int} {xh xl yh yl : Nat} (h : Ca w wr g g' tr t n d p q xh xl yh yl) (o : Obj) : Ca w (wr.alloc o) g g' tr t n d p q xh xl yh yl := ⟨h.below.alloc h.below.size o, h.a.old o, h.b.old o, h.r.old o, h.x.old o, h.y.old o⟩

theorem plusParts_eq (n d p q : Int) : plusParts (n, d) (p, q) = (if decide (n < 0) = decide (p < 0) then (decide (n < 0), n.natAbs * q.toNat + p.natAbs * d.toNat) else if n.natAbs * q.toNat < p.natAbs * d.toNat then (decide (p < 0), p.natAbs * d.toNat - n.natAbs * q.toNat) else (decide (n < 0), n.natAbs * q.toNat - p.natAbs * d.toNat)) := rfl

end Go.Proofs.YtgjhaanpkfheeaaDoor
