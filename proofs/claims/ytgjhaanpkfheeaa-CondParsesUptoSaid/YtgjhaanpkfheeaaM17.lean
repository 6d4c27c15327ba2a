/- Of my texts: TextQ, DecE. -/
import Derived.Test.YtgjhaanpkfheeaaM03
import Derived.Test.YtgjhaanpkfheeaaM04
import Derived.Test.YtgjhaanpkfheeaaM05
import Derived.OwnWalk
import Derived.Lib.ItoaLen
import Derived.Laws.IdiomStrings
import Derived.Laws.Concat
import Derived.Shelf.Small.Wraps
import Derived.Lib.ItoaNum
import Derived.Deep.CutBlock
import Derived.Deep.DeepCutAuto
namespace Go.Proofs.Ytgjhaanpkfheeaa
set_option linter.unusedVariables false
set_option linter.unusedSimpArgs false
open Go.RowKit Go.Shelf

theorem below_alloc_self {w W : World} (h : Below w.heap.size w W) (o : Obj) : Below w.heap.size w (W.alloc o) := h.alloc h.size o

end Go.Proofs.Ytgjhaanpkfheeaa

namespace Go.Proofs.Ytgjhaanpkfheeaa
set_option linter.unusedVariables false
set_option linter.unusedSimpArgs false
open Go.RowKit Go.Lib

/-- a block that holds a text's bytes -/
def BRow (W : World) (g : Nat) (m : List UInt8) : Prop := ∃ (row : Array Value) (fr : Nat × Nat), W.heap[g]? = some (.cells row 5 fr) ∧ ∀ (i : Nat) (c : UInt8), m[i]? = some c → row[i]? = some (.int .u8 (c.toNat : Int))
theorem BRow.cell {W : World} {g : Nat} {m : List UInt8} (h : BRow W g m) {i : Nat} {c : UInt8} (hc : m[i]? = some c) : W.cell? ⟨g, i, none⟩ = some (.int .u8 (c.toNat : Int)) := by
  obtain ⟨row, fr, h1, h2⟩ := h
  rw [cell_of_row _ g i _ _ _ h1]
  exact h2 i c hc
theorem BRow.far {W : World} {g : Nat} {m : List UInt8} (h : BRow W g m) {p : Addr} (hp : g ≠ p.block) (u : Value) : BRow (W.setCell p u) g m := by
  obtain ⟨row, fr, h1, h2⟩ := h
  exact ⟨row, fr, (Below.heap_setCell W p u g hp).trans h1, h2⟩
end Go.Proofs.Ytgjhaanpkfheeaa
