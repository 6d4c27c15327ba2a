/- MediaFeature: any component value as a feature. The row's listed variable is tied to the program's text. No condition else. -/
import Derived.Test.YtnanffmhbjdpaaaGreatDoorM00
import Derived.Test.YtnanffmhbjdpaaaGreatDoorM35
import Derived.Test.YtnanffmhbjdpaaaGreatDoorM36
import Derived.Test.YtnanffmhbjdpaaaGreatDoorCards
import Derived.Test.YtnanffmhbjdpaaaGreatDoorTie
import Derived.WalkKit
import Derived.ProofKit
import Derived.OpenShut
import Derived.Deep.DeepHandedRow
import Derived.Deep.DeepLaidRun
import Derived.Lib.LaidTab
import Derived.Lib.LaidU8
namespace Go.Proofs.YtnanffmhbjdpaaaGreatDoor
set_option linter.unusedVariables false
set_option linter.unusedSimpArgs false
open Go.ChangeShapes Go.WideShapes Go.ChangeAt Go.RowKit
set_option maxRecDepth 100000 in
theorem Q5m {H:Type} {enc:TypeId×Value→H} {w:World} {base:Nat} {spare:Nat→Bool} {held:Bool} {r:Reach} {b0:Nat} {v:Value} {d:DataW H} {p:List MemPlace} (hv:Value.okWide Tryz.prog w r b0 28 v) (h:DataW.Trod enc Tryz.prog w base spare held 28 v d p)
    (hw:∀ n∈d.weights Tryz.prog 28,n≤140737488355328):∃ (x:Vl) (h:Nat),v=.agg (U3 x).toArray∧Uu w h x:=by
  obtain⟨cs,rfl,_⟩:=okWide_struct Tryz.underlying28 hv;obtain⟨fuel,hf⟩:=h;obtain⟨e,he,hi⟩:=Q5y fuel _ _ hf hw;refine⟨e,fuel,?_,hi⟩;have e2:cs.toList=U3 e:=he;rw[← e2]
set_option maxRecDepth 100000 in
theorem Wl (H:Type) (enc:TypeId×Value→H) (W:World) (base:Nat) (args:Array Value) (ds gs:List (DataW H)) (before:List MemPlace)
    (hval0:∀ (j:Nat) t v,Tryz.f3.params[j]?=some t→args[j]?=some v→Value.okWide Tryz.prog W .any base t v)
    (hW:DataW.Whole enc Tryz.prog Tryz.f3.params.toList Rows.mediaFeatureSpec.vars false W args.toList ds gs before)
    (hsz0:(DataW.weightsEach Tryz.prog (Tryz.f3.params.toList++(OpenSpec.ofChange Rows.mediaFeatureSpec).bare.plain.varTypes Tryz.prog) (ds++gs)).all (·≤reachBytes)=true)
    (hL:laidMetH Tryz.prog Rows.mediaFeatureRow.laid W) :
    Calls Tryz.prog 3 args W fun e W'=>∃ v,e=.returned v∧Rows.mediaFeatureSpec.post enc Tryz.prog Tryz.f3 false true false false W args v W':=by
  have hval:∀ (j:Nat) t v,Tryz.f3.params[j]?=some t→args[j]?=some v→Value.okWide Tryz.prog W .any base t v:=hval0;have hW':=hW;have hsz:=hsz0;obtain⟨p,q,hA0,hV,rfl,hfz,hnd⟩:=hW;have hA:DataW.TrodAll enc Tryz.prog W 0 (fun _=>true) true Tryz.f3.params.toList args.toList ds p:=hA0;rw[Tryz.params3]at hA hval hsz;obtain⟨v0,v1,d0,d1,p0,p1,rfl,rfl,rfl,h0,h1⟩:=trodAll_two hA;obtain⟨rfl,rfl⟩:=trodVars_none hV;obtain⟨x,hh,rfl,hi⟩:=Q5m (hval 0 28 v0 rfl rfl) h0 (Q3y hsz (j:=0) rfl rfl);obtain⟨box,rfl,rfl,rfl⟩:=open_bool Tryz.underlying4 (hval 1 4 v1 rfl rfl) h1;obtain _ | hh:=hh
  · exact hi.elim
  obtain⟨⟨tk,tt,⟨tn,td⟩,ti,tid⟩,koa,kb,ko,kcap,kids⟩:=x
  refine(F6 hh tk tn td tt ti tid koa kb ko kcap kids W hi box (Ix hL)).mono fun e W' ⟨he,hb⟩=>?_
  subst he;exact⟨_,rfl,Q4i Tryz.laidOut Tryz.underlying4 rfl (by kernel_rfl) rfl (by rw[Tryz.params3];decide +kernel) hW' hb⟩
def Q69:DataW Unit→Value
  | .lit (.int k n)=>.int k n
  | _=>undef
def Q5d:DataW Unit→Array Value
  | .agg l=>(l.map Q69).toArray
  | _=>#[]
def Q7g (d:DataW Unit):Obj→Obj
  | .cells _ t frozen=>.cells (Q5d d) t frozen
  | o=>o
noncomputable def W7 (os:Os):World :=
  { World.holding Tryz.prog os ⟨#[],#[],[]⟩ with heap:=(World.holding Tryz.prog os ⟨#[],#[],[]⟩).heap.modify 0 (Q7g Rows.laid_jalousie_jalousieref3_kinds) }
def E3:Array Value:=#[.agg #[.int .i64 0,.string ⟨#[]⟩,.int .i64 0,.int .i64 0,.bool false,.bool false,.slice none 0 0],.bool false]
theorem Q2a (os:Os):laidMet Tryz.prog Rows.mediaFeatureRow.laid ((W7 os).forCall (fun _ _=>0) ⟨#[],E3,[]⟩).memory :=
  laidMet_of_run3 8 (by kernel_rfl) (by kernel_rfl) (by kernel_rfl)
theorem Q8c (os:Os) {H:Type} (enc:TypeId×Value→H):∃ ds places,DataW.whole enc Tryz.prog ((W7 os).forCall (fun _ _=>0) ⟨#[],E3,[]⟩).memory Tryz.f3.params.toList Rows.mediaFeatureSpec.vars false E3.toList 8=some (ds,[],places) :=
  ⟨[.agg [.agg [.lit (.int .i64 0),.lit (.string []),.agg [.lit (.int .i64 0),.lit (.int .i64 0)],.lit (.bool false),.lit (.bool false)],.nil],.lit (.bool false)],[],by kernel_rfl⟩
set_option maxRecDepth 100000 in
theorem Ei (os:Os) (started:os.Started) (H:Type) (enc:TypeId×Value→H) (F:Stop.Interp) :
    ReturnsInHanded {} Tryz.checked os 3 .any ((OpenSpec.ofChange Rows.mediaFeatureSpec).preRow enc Tryz.prog Tryz.f3 Rows.mediaFeatureRow.domain false Rows.mediaFeatureRow.laid) (((OpenSpec.ofChange Rows.mediaFeatureSpec).at F).post enc Tryz.prog Tryz.f3 false true false false):=by
  have hx:DataW.whole enc Tryz.prog ((W7 os).forCall (fun _ _=>0) ⟨#[],E3,[]⟩).memory Tryz.f3.params.toList Rows.mediaFeatureSpec.vars false E3.toList 8=some ([.agg [.agg [.lit (.int .i64 0),.lit (.string []),.agg [.lit (.int .i64 0),.lit (.int .i64 0)],.lit (.bool false),.lit (.bool false)],.nil],.lit (.bool false)],[],[]):=by kernel_rfl
  refine returnsInHanded_of_row (C:=Tryz.checked) (s:=OpenSpec.ofChange Rows.mediaFeatureSpec) Tryz.own started (by kernel_rfl) Tryz.func3
    (witness_row_at (enc:=enc) (C:=Tryz.checked) false (W7 os) E3 rfl (by kernel_rfl) (by kernel_rfl) (by kernel_rfl)
      (OpenSpec.preRow_of_cond 8 hx (by kernel_rfl) (fun k hk=>by cases hk) (by kernel_rfl) (Q2a os))) ?_
  intro W base args ds gs before hval hW _ _ hsz hL _ _;exact Wl H enc W base args ds gs before hval hW hsz hL
theorem C2:Rows.MediaFeatureSaid :=
  OpenClaim.holds_of_cond 3 Tryz.f3 rfl rfl rfl rfl rfl rfl rfl ⟨rfl,rfl,rfl,rfl,rfl⟩ rfl rfl rfl rfl rfl (by kernel_rfl) Tryz.func3 (by kernel_rfl)
    (of_decide_eq_true (by kernel_rfl)) (by unfold Func.isWrapper;first | (rw[if_pos (by decide +kernel)];kernel_rfl) | (rw[if_neg (by decide +kernel)];exact⟨rfl,rfl⟩))
    (fun os started H enc _ F=>by rw[OpenClaim.pre_eq_preRow];exact Ei os started H enc F)
theorem B0 (f:FuncId) (fn:Func) (hf:Tryz.pinned.checked.prog.funcNamed "jalousie/jalousielaw17.MediaFeature"=some f) (hfn:Tryz.pinned.checked.prog.funcs[f]?=some fn) :
    true=Tryz.pinned.checked.prog.looks []∧∀ (j:Nat) t,fn.params[j]?=some t→Tryz.pinned.checked.prog.wantsStandIn t=false:=by
  obtain rfl:f=3:=Q8 ((show Tryz.prog.funcNamed "jalousie/jalousielaw17.MediaFeature"=some 3 by kernel_rfl).symm.trans hf) |>.symm
  obtain rfl:fn=Tryz.f3:=(Q8 (Tryz.func3.symm.trans hfn)).symm;refine⟨by kernel_rfl,fun j t ht=>?_⟩;rw[Tryz.params3]at ht
  have:t=28∨t=4:=by simpa using Array.mem_of_getElem? ht
  rcases this with rfl|rfl
  · exact(show Tryz.prog.wantsStandIn 28=false by kernel_rfl)
  · exact(show Tryz.prog.wantsStandIn 4=false by kernel_rfl)
theorem mediaFeature_card:Rows.MediaFeatureCardSaid :=
  Claim7.holds_tied_plain_at .later [] _ _ _ _ C2 (fun _ h=>by cases h) (by kernel_rfl) (fun _ h=>by cases h) mediaFeature_row_tie rfl ⟨rfl,rfl⟩ (by kernel_rfl) rfl B0 (by kernel_rfl)
#print axioms mediaFeature_card
end Go.Proofs.YtnanffmhbjdpaaaGreatDoor
