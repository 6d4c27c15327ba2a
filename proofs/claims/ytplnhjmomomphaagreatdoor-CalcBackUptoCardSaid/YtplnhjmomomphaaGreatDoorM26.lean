/- Of my texts: TextF. -/
import Derived.Test.YtplnhjmomomphaaGreatDoorM05
import Derived.Test.YtplnhjmomomphaaGreatDoorM12
import Derived.Shelf.Strconv.Itoa4
import Derived.Lib.LaidTab
import Derived.Lib.AppendIntMem
import Derived.WalkSmall
namespace Go.Proofs.YtplnhjmomomphaaGreatDoor
set_option linter.unusedVariables false
set_option linter.unusedSimpArgs false
open Go.RowKit Go.Shelf
/-- the table of powers of ten -/
def Pow10 (w : World) : Prop := Lib.TabIs Tryz.prog w "internal/strconv.uint64pow10" .u64 Lib.pow10Tab
theorem gPow10 : ∃ g, Tryz.prog.globalNamed "internal/strconv.uint64pow10" = some g := Option.isSome_iff_exists.1 (show (Tryz.prog.globalNamed "internal/strconv.uint64pow10").isSome = true by kernel_rfl)
theorem Pow10.below {w w' : World} (h : Pow10 w) (hb : Below w.heap.size w w') : Pow10 w' := by
 obtain ⟨g, hg⟩ := gPow10
 refine var?_below hb hg ?_ h
 obtain ⟨cs, h2⟩ : ∃ cs, w.var? Tryz.prog "internal/strconv.uint64pow10" = some cs := ⟨_, h⟩
 unfold World.var? at h2
 rw [hg] at h2
 simp only [Option.bind_some] at h2
 rcases Nat.lt_or_ge g w.heap.size with h3 | h3
 · exact h3
 · rw [Array.getElem?_eq_none h3] at h2
   cases h2
end Go.Proofs.YtplnhjmomomphaaGreatDoor
