/- Of my texts: OpenK. -/
import Derived.Test.YtplnhjmomomphaaDoorM23
import Derived.Lib.LaidTab
import Derived.Lib.LaidU8
namespace Go.Proofs.YtplnhjmomomphaaDoor
set_option linter.unusedVariables false
set_option linter.unusedSimpArgs false
open Go.ChangeShapes Go.WideShapes Go.ChangeAt Go.RowKit Go.Deep

theorem gKinds : Tryd.prog.globalNamed "jalousie/jalousieref3.kinds" = some 0 := by kernel_rfl
theorem gKindsType : (Tryd.prog.globals[0]?).map (·.type) = some 92 := by kernel_rfl
theorem cellsKinds : Tryd.prog.cellsOf 92 = 9 := by kernel_rfl
theorem kindsData : (Rows.laid_jalousie_jalousieref3_kinds : DataW Unit) = Lib.tabData .i64 kindsL := by kernel_rfl

theorem kd_of_laid {W : World} (h' : laidMet Tryd.prog [("jalousie/jalousieref3.kinds", Rows.laid_jalousie_jalousieref3_kinds)] W) : Kd W := by
  obtain ⟨g, t, cs, fuel, p, e1, e2, e3, e4⟩ := Lib.laidMet.reads h' (List.mem_singleton.2 rfl)
  obtain rfl := Option.some.inj (gKinds.symm.trans e1)
  obtain rfl := Option.some.inj (gKindsType.symm.trans e2)
  rw [kindsData] at e4
  have e5 := Lib.cells_of_tab Tryd.underlying92 Tryd.underlying3 cellsInt cellsKinds e4
  rw [World.var?, gKinds] at e3
  simp only [Option.bind_some] at e3
  split at e3
  · rename_i c t' fr hg
    obtain rfl := Option.some.inj e3
    refine ⟨(Array.getElem?_eq_some_iff.1 hg).1, fun j k hk => ?_⟩
    rw [cell_of_row W _ j _ _ _ hg]
    have : c.toList[j]? = some (.int .i64 k) := by rw [e5, List.getElem?_map, hk]; rfl
    simpa using this
  · cases e3

end Go.Proofs.YtplnhjmomomphaaDoor
