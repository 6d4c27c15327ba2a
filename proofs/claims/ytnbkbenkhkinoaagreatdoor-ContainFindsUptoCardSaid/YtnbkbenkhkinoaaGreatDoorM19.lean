/- Of my texts: LiftB. -/
import Derived.Test.YtnbkbenkhkinoaaGreatDoorM03
import Derived.Test.YtnbkbenkhkinoaaGreatDoorM06
namespace Go.Proofs.YtnbkbenkhkinoaaGreatDoor
set_option linter.unusedVariables false
set_option linter.unusedSimpArgs false
open Go.ChangeShapes Go.WideShapes Go.ChangeAt Go.RowKit
theorem is64_of_wf {n d:Int} (h1:(Lit.int .i64 n).wf=true) (h2:(Lit.int .i64 d).wf=true):Is64 (n,d):=by
 simp[Lit.wf,IntKind.min,IntKind.max,IntKind.signed,IntKind.bits]at h1 h2;exact⟨by omega,by omega,by omega,by omega⟩
set_option maxRecDepth 100000 in
theorem open_rat {H:Type} {enc:TypeId×Value→H} {w:World} {base:Nat} {spare:Nat→Bool} {held:Bool} {r:Reach} {b0:Nat} {v:Value} {d:DataW H} {p:List MemPlace}
  (hv:Value.okWide Tryz.prog w r b0 28 v) (h:DataW.Trod enc Tryz.prog w base spare held 28 v d p) :
  ∃ q:Rt,v=rv q∧d=.agg [.lit (.int .i64 q.1),.lit (.int .i64 q.2)]∧p=[]∧Is64 q:=by
 obtain⟨v0,v1,y0,y1,n,rfl,rfl,rfl,h0,h1⟩:=Go.Joins.open_agg2 (P:=Tryz.prog) Tryz.underlying28 (by kernel_rfl) (by kernel_rfl) hv h;obtain⟨x,hx,rfl,w0⟩:=DataW.trod_int Tryz.underlying2 h0;obtain⟨y,hy,rfl,w1⟩:=DataW.trod_int Tryz.underlying2 h1
 obtain rfl:v0=.int .i64 x:=by simpa using hx
 obtain rfl:v1=.int .i64 y:=by simpa using hy
 exact⟨(x,y),rfl,rfl,rfl,is64_of_wf w0 w1⟩
end Go.Proofs.YtnbkbenkhkinoaaGreatDoor
