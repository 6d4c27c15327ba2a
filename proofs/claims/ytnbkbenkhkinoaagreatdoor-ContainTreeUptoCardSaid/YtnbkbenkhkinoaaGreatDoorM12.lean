/- Of my texts: TextQ, DecE. -/
import Derived.Test.YtnbkbenkhkinoaaGreatDoorM03
import Derived.Test.YtnbkbenkhkinoaaGreatDoorM04
import Derived.Test.YtnbkbenkhkinoaaGreatDoorM05
import Derived.Lib.ItoaLen
import Derived.Laws.IdiomStrings
import Derived.Laws.Concat
import Derived.Shelf.Small.Wraps
import Derived.Deep.CutBlock
import Derived.Deep.DeepCutAuto
namespace Go.Proofs.YtnbkbenkhkinoaaGreatDoor
set_option linter.unusedVariables false
set_option linter.unusedSimpArgs false
open Go.RowKit Go.Shelf
def Tryz.laysCP_ren:Ren:=⟨fun x=>if x=103 then 130 else if x=210 then 168 else if x=206 then 136 else x,fun x=>if x=9 then 9 else if x=4 then 4 else if x=24 then 198 else if x=3 then 3 else x,fun x=>x⟩ -- of function 130
theorem Tryz.laysCP:Lays.n103 Tryz.prog Tryz.laysCP_ren:={
 -- of function 130
 mixed:=(by kernel_rfl),
 f103:=Tryz.func130.trans (congrArg some (by kernel_rfl)),
 f206:=Tryz.func136.trans (congrArg some (by kernel_rfl)),
 f210:=Tryz.func168.trans (congrArg some (by kernel_rfl)),
 t3:=Tryz.underlying3,
 a3:=Tryz.isAgg3,
 z3:=Tryz.sizeOf3,
 v3:=Tryz.zeroValue3,
 t4:=Tryz.underlying4,
 a4:=Tryz.isAgg4,
 z4:=Tryz.sizeOf4,
 v4:=Tryz.zeroValue4,
 t9:=Tryz.underlying9,
 a9:=Tryz.isAgg9,
 z9:=Tryz.sizeOf9,
 v9:=Tryz.zeroValue9,
 t24:=Tryz.underlying198,
 a24:=Tryz.isAgg198,
 z24:=Tryz.sizeOf198,
 v24:=Tryz.zeroValue198 }
theorem below_alloc_self {w W:World} (h:Below w.heap.size w W) (o:Obj):Below w.heap.size w (W.alloc o):=h.alloc h.size o
end Go.Proofs.YtnbkbenkhkinoaaGreatDoor
namespace Go.Proofs.YtnbkbenkhkinoaaGreatDoor
set_option linter.unusedVariables false
set_option linter.unusedSimpArgs false
open Go.RowKit Go.Lib
def BRow (W:World) (g:Nat) (m:List UInt8):Prop:=∃ (row:Array Value) (fr:Nat×Nat),W.heap[g]?=some (.cells row 5 fr)∧∀ (i:Nat) (c:UInt8),m[i]?=some c→row[i]?=some (.int .u8 (c.toNat:Int))
theorem BRow.cell {W:World} {g:Nat} {m:List UInt8} (h:BRow W g m) {i:Nat} {c:UInt8} (hc:m[i]?=some c):W.cell? ⟨g,i,none⟩=some (.int .u8 (c.toNat:Int)):=by
 obtain⟨row,fr,h1,h2⟩:=h;rw[cell_of_row _ g i _ _ _ h1];exact h2 i c hc
theorem BRow.far {W:World} {g:Nat} {m:List UInt8} (h:BRow W g m) {p:Addr} (hp:g≠p.block) (u:Value):BRow (W.setCell p u) g m:=by
 obtain⟨row,fr,h1,h2⟩:=h;exact⟨row,fr,(Below.heap_setCell W p u g hp).trans h1,h2⟩
end Go.Proofs.YtnbkbenkhkinoaaGreatDoor
