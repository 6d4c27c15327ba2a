/- Of my texts: OpenK. -/
import Derived.Test.YtnbkbenkhkinoaaGreatDoorM21
import Derived.Lib.LaidTab
import Derived.Lib.LaidU8
namespace Go.Proofs.YtnbkbenkhkinoaaGreatDoor
set_option linter.unusedVariables false
set_option linter.unusedSimpArgs false
open Go.ChangeShapes Go.WideShapes Go.ChangeAt Go.RowKit Go.Deep
theorem gKinds:Tryz.prog.globalNamed "jalousie/jalousieref3.kinds"=some 0:=by kernel_rfl
theorem gKindsType:(Tryz.prog.globals[0]?).map (·.type)=some 214:=by kernel_rfl
theorem cellsKinds:Tryz.prog.cellsOf 214=9:=by kernel_rfl
theorem kindsData:(Rows.laid_jalousie_jalousieref3_kinds:DataW Unit)=Lib.tabData .i64 kindsL:=by kernel_rfl
theorem kd_of_laid_in {W:World} {l:List (String×DataW Unit)} (h':laidMet Tryz.prog l W) (hm:("jalousie/jalousieref3.kinds",Rows.laid_jalousie_jalousieref3_kinds)∈l):Kd W:=by
 obtain⟨g,t,cs,fuel,p,e1,e2,e3,e4⟩:=Lib.laidMet.reads h' hm;obtain rfl:=Option.some.inj (gKinds.symm.trans e1);obtain rfl:=Option.some.inj (gKindsType.symm.trans e2);rw[kindsData]at e4;have e5:=Lib.cells_of_tab Tryz.underlying214 Tryz.underlying3 cellsInt cellsKinds e4;rw[World.var?,gKinds]at e3;simp only[Option.bind_some]at e3;split at e3
 · rename_i c t' fr hg
   obtain rfl:=Option.some.inj e3;refine⟨(Array.getElem?_eq_some_iff.1 hg).1,fun j k hk=>?_⟩;rw[cell_of_row W _ j _ _ _ hg]
   have:c.toList[j]?=some (.int .i64 k):=by rw[e5,List.getElem?_map,hk];rfl
   simpa using this
 · cases e3
end Go.Proofs.YtnbkbenkhkinoaaGreatDoor
