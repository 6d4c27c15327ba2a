/- Of my texts: Copy, By. -/
import Derived.Test.YtgjhaanpkfheeaaM10
import Derived.Test.YtgjhaanpkfheeaaM19
import Derived.Deep.RegionHeld3
import Derived.OwnWalk
import Derived.Deep.AppendLies
namespace Go.Proofs.Ytgjhaanpkfheeaa
set_option linter.unusedVariables false
set_option linter.unusedSimpArgs false
open Go.RowKit

theorem below_grownBy {B : Nat} {a w w' : World} {row : Option Nat} (h : Below B a w) (hg : w.grownBy w' row) (hs : B ≤ w.heap.size) (hr : ∀ k, row = some k → B ≤ k) : Below B a w' :=
  h.trans ⟨hg.os, hg.tape, hg.output, Nat.le_trans (Nat.le_refl _) (by have := hg.size; omega), fun k hk => hg.block k (Nat.lt_of_lt_of_le hk hs) (fun e => by have := hr k e.symm; omega)⟩

theorem blk_grownBy {w w' : World} {row : Option Nat} {g : Nat} {t : TypeId} {cs : Array Value} (h : Blk w g t cs) (hg : w.grownBy w' row) (hne : some g ≠ row) : Blk w' g t cs := (hg.block g h.lt hne).trans h

/-- what holds while a kid is copied -/
structure Sx (w wr : World) (k n d u : Int) (v : Value) (g : Nat) (cs : Array Value) : Prop where
  below : Below w.heap.size w wr
  box : Blk wr w.heap.size 45 #[.int .i64 k, .int .i64 n, .int .i64 d, .int .i64 u, v]
  res : Blk wr (w.heap.size + 1) 45 #[.int .i64 0, .int .i64 0, .int .i64 0, .int .i64 0, .slice none 0 0]
  kid : Blk wr g 45 cs
section
variable {w wr w' : World} {k n d u : Int} {v : Value} {g : Nat} {cs : Array Value}
theorem Sx.drew (h : Sx w wr k n d u v g cs) : Sx w wr.drew k n d u v g cs := ⟨h.below.drew, h.box, h.res, h.kid⟩
theorem Sx.alloc (h : Sx w wr k n d u v g cs) (o : Obj) : Sx w (wr.alloc o) k n d u v g cs := ⟨h.below.alloc h.below.size _, h.box.old _, h.res.old _, h.kid.old _⟩
theorem Sx.grown {row : Option Nat} (h : Sx w wr k n d u v g cs) (hg : wr.grownBy w' row) (h0 : row ≠ some w.heap.size) (h1 : row ≠ some (w.heap.size + 1)) (h2 : row ≠ some g) (hr : ∀ k, row = some k → w.heap.size ≤ k) : Sx w w' k n d u v g cs :=
  ⟨below_grownBy h.below hg h.below.size hr, blk_grownBy h.box hg (Ne.symm h0), blk_grownBy h.res hg (Ne.symm h1), blk_grownBy h.kid hg (Ne.symm h2)⟩
theorem Sx.all {x0 x1 x2 x3 x4 : Value} (h : Sx w wr k n d u v g #[x0, x1, x2, x3, x4]) : Sx w wr k n d u v g #[x0, x1, x2, x3, x4] ∧ wr.cell? ⟨w.heap.size, 4, none⟩ = some v ∧ wr.frozen? ⟨w.heap.size, 4, none⟩ = false ∧ wr.cell? ⟨g, 0, none⟩ = some x0 ∧ wr.cell? ⟨g, 1, none⟩ = some x1 ∧ wr.cell? ⟨g, 2, none⟩ = some x2 ∧ wr.cell? ⟨g, 3, none⟩ = some x3 ∧ wr.cell? ⟨g, 4, none⟩ = some x4 :=
  ⟨h, h.box.cell 4, h.box.frozen 4, h.kid.cell 0, h.kid.cell 1, h.kid.cell 2, h.kid.cell 3, h.kid.cell 4⟩
end

end Go.Proofs.Ytgjhaanpkfheeaa

namespace Go.Proofs.Ytgjhaanpkfheeaa
set_option linter.unusedVariables false
set_option linter.unusedSimpArgs false
open Go.RowKit

/-- the texts that lie in a slice -/
structure Strs (w : World) (oa : Option Addr) (len cap : Nat) (b o : Nat) (l : List ByteArray) : Prop where
  hlen : len = l.length
  hcap : len ≤ cap
  small : cap ≤ maxLen
  at_ : 0 < len → oa = some ⟨b, o, none⟩
  lt : 0 < len → b < w.heap.size
  c0 : ∀ (i : Nat) (x : ByteArray), l[i]? = some x → w.cell? ⟨b, o + i, none⟩ = some (.string x)

theorem Strs.below {w w' : World} {oa : Option Addr} {len cap b o : Nat} {l : List ByteArray} (h : Strs w oa len cap b o l) (hb : Below w.heap.size w w') : Strs w' oa len cap b o l := by
  have key : ∀ (i : Nat) (r : ByteArray), l[i]? = some r → 0 < len := fun i r hr => by
    have := (List.getElem?_eq_some_iff.1 hr).1
    rw [h.hlen]; omega
  refine ⟨h.hlen, h.hcap, h.small, h.at_, fun hl => Nat.lt_of_lt_of_le (h.lt hl) hb.size, fun i r hr => ?_⟩
  rw [hb.cell (h.lt (key i r hr))]; exact h.c0 i r hr

/-- the two lists that the function looks into -/
structure Env (w : World) (gN gT : Nat) (oa : Option Addr) (len cap b o : Nat) (ns : List ByteArray) (oa' : Option Addr) (len' cap' b' o' : Nat) (ts : List Int) : Prop where
  names : Strs w oa len cap b o ns
  truths : Ints w oa' len' cap' b' o' ts
  boxN : Blk w gN 50 #[.slice oa len cap]
  boxT : Blk w gT 36 #[.slice oa' len' cap']
theorem Env.below {w w' : World} {gN gT : Nat} {oa : Option Addr} {len cap b o : Nat} {ns : List ByteArray} {oa' : Option Addr} {len' cap' b' o' : Nat} {ts : List Int} (h : Env w gN gT oa len cap b o ns oa' len' cap' b' o' ts) (hb : Below w.heap.size w w') :
    Env w' gN gT oa len cap b o ns oa' len' cap' b' o' ts := ⟨h.names.below hb, h.truths.below hb, h.boxN.below hb h.boxN.lt, h.boxT.below hb h.boxT.lt⟩

end Go.Proofs.Ytgjhaanpkfheeaa
