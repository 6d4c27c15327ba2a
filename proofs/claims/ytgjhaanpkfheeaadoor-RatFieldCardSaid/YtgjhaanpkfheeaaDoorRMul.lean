/- The product of some, in the reference. -/
import Derived.Test.YtgjhaanpkfheeaaDoorMulR
namespace Go.Proofs.YtgjhaanpkfheeaaDoor
set_option linter.unusedVariables false
set_option linter.unusedSimpArgs false
open Go.RowKit

/-- where the loop of Mul stands -/
structure Gr (w wr : World) (tr : TypeId) (g : Nat) (op : Rt → Rt → Rt) (nn : Rt) (l : List Rt) (i : Nat) (out : Rt) : Prop where
  below : Below w.heap.size w wr
  res : Blk wr w.heap.size tr #[.int .i64 0, .int .i64 0]
  best : Blk wr g tr #[.int .i64 out.1, .int .i64 out.2]
  far : w.heap.size < g
  i64 : Is64 out
  le : i ≤ l.length
  law : 0 < i → refG op out (l.drop i) = refR op nn l
  zero : i = 0 → out = nn
section
variable {w wr : World} {tr : TypeId} {g : Nat} {op : Rt → Rt → Rt} {nn : Rt} {l : List Rt} {i : Nat} {out : Rt}
theorem Gr.alloc (h : Gr w wr tr g op nn l i out) (o : Obj) : Gr w (wr.alloc o) tr g op nn l i out := ⟨h.below.alloc h.below.size _, h.res.old _, h.best.old _, h.far, h.i64, h.le, h.law, h.zero⟩
theorem Gr.grow (h : Gr w wr tr g op nn l i out) (m : Ext wr) : Gr w (grow wr m) tr g op nn l i out := ⟨below_grow h.below m, h.res.grow m, h.best.grow m, h.far, h.i64, h.le, h.law, h.zero⟩
theorem Gr.set (h : Gr w wr tr g op nn l i out) {r : Rt} (h64 : Is64 r) (hi : i < l.length) (hl : refG op r (l.drop (i + 1)) = refR op nn l) :
    Gr w ((wr.setCell ⟨g, 0, none⟩ (.int .i64 r.1)).setCell ⟨g, 1, none⟩ (.int .i64 r.2)) tr g op nn l (i + 1) r :=
  ⟨(h.below.setCell (Nat.le_of_lt h.far) _).setCell (Nat.le_of_lt h.far) _, h.res.far2 (Nat.ne_of_lt h.far) _ _ _ _, h.best.put2 _ _, h.far, h64, hi, fun _ => hl, fun h => by omega⟩
end

end Go.Proofs.YtgjhaanpkfheeaaDoor
