/- Of my texts: OpenK. -/
import Derived.Test.YtnanffmhbjdpaaaGreatDoorM00
import Derived.Test.YtnanffmhbjdpaaaGreatDoorM18
import Derived.Lib.LaidTab
import Derived.Lib.LaidU8
namespace Go.Proofs.YtnanffmhbjdpaaaGreatDoor
set_option linter.unusedVariables false
set_option linter.unusedSimpArgs false
open Go.ChangeShapes Go.WideShapes Go.ChangeAt Go.RowKit Go.Deep
theorem Q4q:Tryz.prog.globalNamed "jalousie/jalousieref3.kinds"=some 0:=by kernel_rfl
theorem T1:(Tryz.prog.globals[0]?).map (·.type)=some 142:=by kernel_rfl
theorem Tm:Tryz.prog.cellsOf 142=9:=by kernel_rfl
theorem Q2b:(Rows.laid_jalousie_jalousieref3_kinds:DataW Unit)=Lib.tabData .i64 Q4j:=by kernel_rfl
theorem N6 {W:World} {l:List (String×DataW Unit)} (h':laidMet Tryz.prog l W) (hm:("jalousie/jalousieref3.kinds",Rows.laid_jalousie_jalousieref3_kinds)∈l):Kd W:=by
 obtain⟨g,t,cs,fuel,p,e1,e2,e3,e4⟩:=Lib.laidMet.reads h' hm;obtain rfl:=Q8 (Q4q.symm.trans e1);obtain rfl:=Q8 (T1.symm.trans e2);rw[Q2b]at e4;have e5:=Lib.cells_of_tab Tryz.underlying142 Tryz.underlying3 Mp Tm e4;rw[World.var?,Q4q]at e3;simp only[Option.bind_some]at e3;split at e3
 · rename_i c t' fr hg
   obtain rfl:=Q8 e3;refine⟨(Zt.1 hg).1,fun j k hk=>?_⟩;rw[cell_of_row W _ j _ _ _ hg]
   have:c.toList[j]?=some (.int .i64 k):=by rw[e5,Z5,hk];rfl
   simpa using this
 · cases e3
theorem Ix {W:World} (h':laidMet Tryz.prog [("jalousie/jalousieref3.kinds",Rows.laid_jalousie_jalousieref3_kinds)] W):Kd W:=N6 h' (Qh.2 rfl)
end Go.Proofs.YtnanffmhbjdpaaaGreatDoor
