/- Slices of fractions, and the least or greatest of some. -/
import Derived.Test.YtgjhaanpkfheeaaDoorRatF
namespace Go.Proofs.YtgjhaanpkfheeaaDoor
set_option linter.unusedVariables false
set_option linter.unusedSimpArgs false
open Go.RowKit

/-- the fractions that lie in a slice -/
structure Rats (w : World) (oa : Option Addr) (len cap : Nat) (b o : Nat) (l : List Rt) : Prop where
  hlen : len = l.length
  hcap : len ≤ cap
  small : cap ≤ maxLen
  at_ : 0 < len → oa = some ⟨b, o, none⟩
  lt : 0 < len → b < w.heap.size
  c0 : ∀ (i : Nat) (r : Rt), l[i]? = some r → w.cell? ⟨b, o + i * 2, none⟩ = some (.int .i64 r.1)
  c1 : ∀ (i : Nat) (r : Rt), l[i]? = some r → w.cell? ⟨b, o + i * 2 + 1, none⟩ = some (.int .i64 r.2)
  is64 : ∀ (i : Nat) (r : Rt), l[i]? = some r → Is64 r

theorem Rats.below {w w' : World} {oa : Option Addr} {len cap b o : Nat} {l : List Rt} (h : Rats w oa len cap b o l) (hb : Below w.heap.size w w') : Rats w' oa len cap b o l := by
  have key : ∀ (i : Nat) (r : Rt), l[i]? = some r → 0 < len := fun i r hr => by
    have := (List.getElem?_eq_some_iff.1 hr).1
    rw [h.hlen]; omega
  refine ⟨h.hlen, h.hcap, h.small, h.at_, fun hl => Nat.lt_of_lt_of_le (h.lt hl) hb.size, fun i r hr => ?_, fun i r hr => ?_, h.is64⟩
  · rw [hb.cell (h.lt (key i r hr))]; exact h.c0 i r hr
  · rw [hb.cell (h.lt (key i r hr))]; exact h.c1 i r hr

/-- the program's loop -/
def firstG (sign : Int) : Bool → Rt → List Rt → Rt
  | _, out, [] => out
  | b, out, r :: l => if sureB r then firstG sign false (if b || cmpR r out == sign then r else out) l else (0, 0)

/-- where the loop of first stands -/
structure Gf (w wr : World) (tr : TypeId) (sign : Int) (l : List Rt) (i : Nat) (out : Rt) : Prop where
  below : Below w.heap.size w wr
  res : Blk wr w.heap.size tr #[.int .i64 0, .int .i64 0]
  best : Blk wr (w.heap.size + 1) tr #[.int .i64 out.1, .int .i64 out.2]
  i64 : Is64 out
  le : i ≤ l.length
  law : firstG sign (i == 0) out (l.drop i) = firstG sign true (0, 0) l

section
variable {w wr : World} {tr : TypeId} {sign : Int} {l : List Rt} {i : Nat} {out : Rt}
theorem Gf.alloc (h : Gf w wr tr sign l i out) (o : Obj) : Gf w (wr.alloc o) tr sign l i out := ⟨h.below.alloc h.below.size _, h.res.old _, h.best.old _, h.i64, h.le, h.law⟩
theorem Gf.grow (h : Gf w wr tr sign l i out) (m : Ext wr) : Gf w (grow wr m) tr sign l i out := ⟨below_grow h.below m, h.res.grow m, h.best.grow m, h.i64, h.le, h.law⟩
theorem Gf.set (h : Gf w wr tr sign l i out) {r : Rt} (h64 : Is64 r) (hi : i < l.length) (hl : firstG sign false r (l.drop (i + 1)) = firstG sign true (0, 0) l) :
    Gf w ((wr.setCell ⟨w.heap.size + 1, 0, none⟩ (.int .i64 r.1)).setCell ⟨w.heap.size + 1, 1, none⟩ (.int .i64 r.2)) tr sign l (i + 1) r :=
  ⟨(h.below.setCell (by first | omega | (simp; done) | (simp; omega)) _).setCell (by first | omega | (simp; done) | (simp; omega)) _, h.res.far2 (by first | omega | (simp; done) | (simp; omega)) _ _ _ _, h.best.put2 _ _, h64, hi, hl⟩
theorem Gf.next (h : Gf w wr tr sign l i out) (hi : i < l.length) (hl : firstG sign false out (l.drop (i + 1)) = firstG sign true (0, 0) l) : Gf w wr tr sign l (i + 1) out := ⟨h.below, h.res, h.best, h.i64, hi, hl⟩
end

end Go.Proofs.YtgjhaanpkfheeaaDoor
