/- Of my texts: OpenV, OpenB. -/
import Derived.Test.YtplnhjmomomphaaDoorM06
import Derived.Test.YtplnhjmomomphaaDoorM17
import Derived.Test.YtplnhjmomomphaaDoorM18
import Derived.Test.YtplnhjmomomphaaDoorM20
import Derived.Test.YtplnhjmomomphaaDoorM21
import Derived.Lib.LaidTab
import Derived.Lib.LaidU8
import Derived.SizedLaws
import Derived.ChangeSlices
namespace Go.Proofs.YtplnhjmomomphaaDoor
set_option linter.unusedVariables false
set_option linter.unusedSimpArgs false
open Go.ChangeShapes Go.WideShapes Go.ChangeAt Go.RowKit Go.Deep

section
variable {H : Type} {enc : TypeId × Value → H} {w : World} {base : Nat} {spare : Nat → Bool} {held : Bool}

end

theorem gKinds : Tryd.prog.globalNamed "jalousie/jalousieref3.kinds" = some 0 := by kernel_rfl
theorem gKindsType : (Tryd.prog.globals[0]?).map (·.type) = some 92 := by kernel_rfl
theorem cellsKinds : Tryd.prog.cellsOf 92 = 9 := by kernel_rfl
theorem kindsData : (Rows.laid_jalousie_jalousieref3_kinds : DataW Unit) = Lib.tabData .i64 kindsL := by kernel_rfl

theorem kd_of_laid {W : World} (h' : laidMet Tryd.prog [("jalousie/jalousieref3.kinds", Rows.laid_jalousie_jalousieref3_kinds)] W) : Kd W := by
  obtain ⟨g, t, cs, fuel, p, e1, e2, e3, e4⟩ := Lib.laidMet.reads h' (List.mem_singleton.2 rfl)
  obtain rfl := Option.some.inj (gKinds.symm.trans e1)
  obtain rfl := Option.some.inj (gKindsType.symm.trans e2)
  rw [kindsData] at e4
  have e5 := Lib.cells_of_tab Tryd.underlying92 Tryd.underlying3 cellsInt cellsKinds e4
  rw [World.var?, gKinds] at e3
  simp only [Option.bind_some] at e3
  split at e3
  · rename_i c t' fr hg
    obtain rfl := Option.some.inj e3
    refine ⟨(Array.getElem?_eq_some_iff.1 hg).1, fun j k hk => ?_⟩
    rw [cell_of_row W _ j _ _ _ hg]
    have : c.toList[j]? = some (.int .i64 k) := by rw [e5, List.getElem?_map, hk]; rfl
    simpa using this
  · cases e3

end Go.Proofs.YtplnhjmomomphaaDoor

namespace Go.Proofs.YtplnhjmomomphaaDoor
set_option linter.unusedVariables false
set_option linter.unusedSimpArgs false
open Go.ChangeShapes Go.WideShapes Go.ChangeAt Go.RowKit Go.Deep

set_option maxRecDepth 100000 in
theorem bytes_open {H : Type} {enc : TypeId × Value → H} {w : World} {base : Nat} {spare : Nat → Bool} {held : Bool} {r : Reach} {b0 : Nat} {v : Value} {d : DataW H} {p : List MemPlace}
    (hv : Value.okWide Tryd.prog w r b0 34 v) (h : DataW.Trod enc Tryd.prog w base spare held 34 v d p) :
    ∃ (oa : Option Addr) (cap b o : Nat) (l : List UInt8), v = .slice oa l.length cap ∧ Sl w oa l.length cap b o 1 (bytesV l) := by
  obtain ⟨oa, len, cap, rfl⟩ := okWide_slice Tryd.underlying34 hv
  obtain ⟨fuel, h⟩ := h
  rcases Go.ChangeShapes.open_ints (P := Tryd.prog) Tryd.underlying34 Tryd.underlying5 (by kernel_rfl) h with ⟨hc, _⟩ | ⟨a, len', cap', zs, hc, _, hl, hm, hlen, _, hall, hwf⟩
  · obtain ⟨rfl, rfl, rfl⟩ : oa = none ∧ len = 0 ∧ cap = 0 := by simpa [Value.cells] using hc
    exact ⟨none, 0, 0, 0, [], rfl, ⟨rfl, Nat.le_refl _, Nat.zero_le _, fun h => absurd h (by simp), fun j v h => by simp [bytesV] at h⟩⟩
  · obtain ⟨rfl, rfl, rfl⟩ : oa = some a ∧ len = len' ∧ cap = cap' := by simpa [Value.cells] using hc
    have hlm : len ≤ zs.length := by rw [hlen]; split <;> omega
    obtain ⟨ab, ao, asp⟩ := a
    have hsp : 0 < len → asp = none := fun hpos => by simpa [Addr.add] using World.cell?_spot (hall 0 (by omega))
    have hll : ((zs.take len).map fun n => UInt8.ofNat n.toNat).length = len := by simp; omega
    refine ⟨some ⟨ab, ao, asp⟩, cap, ab, ao, (zs.take len).map fun n => UInt8.ofNat n.toNat, by rw [hll], ⟨by simp [bytesV], by rw [hll]; exact hl, hm, fun hpos => ?_, fun i x hx => ?_⟩⟩
    · rw [hll] at hpos
      have := World.block_lt_of_cell? w _ (hall 0 (by omega))
      exact ⟨by rw [hsp hpos], by simpa [Addr.add] using this⟩
    · have hi : i < ((zs.take len).map fun n => UInt8.ofNat n.toNat).length := by
        have := (List.getElem?_eq_some_iff.1 hx).1
        simpa [bytesV] using this
      rw [bytesV_at hi] at hx
      obtain rfl := Option.some.inj hx
      rw [hll] at hi
      obtain rfl := hsp (by omega)
      have hz : zs[i]? = some (zs[i]'(by omega)) := List.getElem?_eq_getElem (by omega)
      have h1 := hall i (by omega)
      have h2 : zs.getD i 0 = zs[i]'(by omega) := by rw [List.getD_eq_getElem?_getD, hz]; rfl
      rw [h2, Addr.add_lit] at h1
      rw [h1]
      have h3 := hwf _ (List.getElem_mem (show i < zs.length by omega))
      simp [Lit.wf, IntKind.min, IntKind.max, IntKind.signed, IntKind.bits] at h3
      simp only [List.getElem_map, List.getElem_take]
      generalize zs[i]'(by omega) = z at *
      congr 2
      rw [UInt8.toNat_ofNat_of_lt' (by show z.toNat < 256; omega)]
      omega

end Go.Proofs.YtplnhjmomomphaaDoor
