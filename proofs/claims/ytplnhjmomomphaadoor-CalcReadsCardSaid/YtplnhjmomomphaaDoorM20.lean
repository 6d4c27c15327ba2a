/- Of my texts: TreeO. -/
import Derived.Test.YtplnhjmomomphaaDoorM03
import Derived.Test.YtplnhjmomomphaaDoorM06
import Derived.Test.YtplnhjmomomphaaDoorM18
import Derived.Test.YtplnhjmomomphaaDoorM19
import Derived.ChangeSlices
import Derived.Deep.Slices
import Derived.Lib.SmallJoins
namespace Go.Proofs.YtplnhjmomomphaaDoor
set_option linter.unusedVariables false
set_option linter.unusedSimpArgs false
open Go.ChangeShapes Go.WideShapes Go.ChangeAt Go.RowKit Go.Deep

instance : Inhabited Ex := ⟨.mk 0 0 0 0 none 0 0 0 []⟩
instance : Inhabited Cd := ⟨.mk 0 none 0 0 0 [] ⟨0, 0, ByteArray.empty, 0, default, ByteArray.empty, ByteArray.empty, false⟩⟩

theorem ExIn.mono : ∀ (h h' : Nat) {w : World} {e : Ex}, h ≤ h' → ExIn w h e → ExIn w h' e
  | 0, _, _, _, _, hx => hx.elim
  | h + 1, 0, _, _, hl, _ => by omega
  | h + 1, h' + 1, w, .mk k n d u oa b o cap kids, hl, hx => by
    obtain ⟨h1, h2, h3, h4, h5, h6, h7, h8⟩ := hx
    exact ⟨h1, h2, h3, h4, h5, h6, h7, fun i x hi => ⟨(h8 i x hi).1, ExIn.mono h h' (by omega) (h8 i x hi).2⟩⟩

theorem CdIn.mono : ∀ (h h' : Nat) {w : World} {e : Cd}, h ≤ h' → CdIn w h e → CdIn w h' e
  | 0, _, _, _, _, hx => hx.elim
  | h + 1, 0, _, _, hl, _ => by omega
  | h + 1, h' + 1, w, .mk k oa b o cap kids leaf, hl, hx => by
    obtain ⟨h1, h2, h4, h5, h6, h7, h8⟩ := hx
    exact ⟨h1, ⟨h2.1, h2.2.1, h2.2.2.1, h2.2.2.2.mono h h' (by omega)⟩, h4, h5, h6, h7, fun i x hi => ⟨(h8 i x hi).1, CdIn.mono h h' (by omega) (h8 i x hi).2⟩⟩

theorem cellsInt : Tryd.prog.cellsOf 3 = 1 := by kernel_rfl
section
variable {H : Type} {enc : TypeId × Value → H} {w : World} {base : Nat} {spare : Nat → Bool} {held : Bool}

end
end Go.Proofs.YtplnhjmomomphaaDoor
