/- Two by two through a slice: what the loop keeps. -/
import Derived.Test.YtgjhaanpkfheeaaDoorTimes
import Derived.Test.YtgjhaanpkfheeaaDoorRats

namespace Go.Proofs.YtgjhaanpkfheeaaDoor
set_option linter.unusedVariables false
set_option linter.unusedSimpArgs false
open Go.RowKit

/-- a contract of what joins two fractions that are not over -/
def Joins (f : FuncId) (op : Rt → Rt → Rt) : Prop :=
  (∀ a b, Is64 (op a b)) ∧ ∀ (a b : Rt) (w : World), Is64 a → Is64 b → sureB a = true → sureB b = true → Calls Tryd.prog f #[rv a, rv b] w fun e w' => e = .returned (rv (op a b)) ∧ Below w.heap.size w w'

theorem Blk.moved {w : World} {k k' : Nat} {t : TypeId} {v : Array Value} (h : Blk w k t v) (e : k = k') : Blk w k' t v := e ▸ h

/-- where the loop of folded stands -/
structure Gj (w wr : World) (tr : TypeId) (op : Rt → Rt → Rt) (l : List Rt) (x : Rt) (i : Nat) (out : Rt) : Prop where
  below : Below w.heap.size w wr
  res : Blk wr (w.heap.size + 1) tr #[.int .i64 0, .int .i64 0]
  best : Blk wr (w.heap.size + 1 + 1) tr #[.int .i64 out.1, .int .i64 out.2]
  i64 : Is64 out
  le : i ≤ l.length
  law : opG op out (l.drop i) = opG op x l
section
variable {w wr : World} {tr : TypeId} {op : Rt → Rt → Rt} {l : List Rt} {x : Rt} {i : Nat} {out : Rt}
theorem Gj.alloc (h : Gj w wr tr op l x i out) (o : Obj) : Gj w (wr.alloc o) tr op l x i out := ⟨h.below.alloc h.below.size _, h.res.old _, h.best.old _, h.i64, h.le, h.law⟩
theorem Gj.grow (h : Gj w wr tr op l x i out) (m : Ext wr) : Gj w (grow wr m) tr op l x i out := ⟨below_grow h.below m, h.res.grow m, h.best.grow m, h.i64, h.le, h.law⟩
theorem Gj.set (h : Gj w wr tr op l x i out) {r : Rt} (h64 : Is64 r) (hi : i < l.length) (hl : opG op r (l.drop (i + 1)) = opG op x l) :
    Gj w ((wr.setCell ⟨w.heap.size + 1 + 1, 0, none⟩ (.int .i64 r.1)).setCell ⟨w.heap.size + 1 + 1, 1, none⟩ (.int .i64 r.2)) tr op l x (i + 1) r :=
  ⟨(h.below.setCell (by first | omega | (simp; done) | (simp; omega)) _).setCell (by first | omega | (simp; done) | (simp; omega)) _, h.res.far2 (by first | omega | (simp; done) | (simp; omega)) _ _ _ _, h.best.put2 _ _, h64, hi, hl⟩
end

/-- all but the first -/
theorem Rats.tail {w : World} {oa : Option Addr} {cap b o : Nat} {x : Rt} {l : List Rt} (h : Rats w oa (x :: l).length cap b o (x :: l)) : Rats w (some ⟨b, o + 2, none⟩) l.length (cap - 1) b (o + 2) l := by
  have h1 := h.hcap
  have h2 := h.small
  simp only [List.length_cons] at h1
  have e : ∀ i, o + 2 + i * 2 = o + (i + 1) * 2 := fun i => by omega
  refine ⟨rfl, by omega, by omega, fun _ => rfl, fun _ => h.lt (by simp), fun i r hr => ?_, fun i r hr => ?_, fun i r hr => ?_⟩
  · rw [e]; exact h.c0 (i + 1) r (by simpa using hr)
  · rw [e]; exact h.c1 (i + 1) r (by simpa using hr)
  · exact h.is64 (i + 1) r (by simpa using hr)

end Go.Proofs.YtgjhaanpkfheeaaDoor
