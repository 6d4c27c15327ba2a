/- ContainBelow: what a box below changes. The row's listed variables are tied to the program's text; what is read is of bulk at most 1048576. No condition else. -/
import Derived.Test.YtnahlfaehelfjaaGreatDoorM41
import Derived.Test.YtnahlfaehelfjaaGreatDoorM43
import Derived.Test.YtnahlfaehelfjaaGreatDoorM44
import Derived.Test.YtnahlfaehelfjaaGreatDoorCards
import Derived.Test.YtnahlfaehelfjaaGreatDoorTie
import Derived.WalkKit
import Derived.ProofKit
import Derived.OpenShut
import Derived.Deep.DeepHandedRow
import Derived.Deep.DeepLaidRun
import Derived.Lib.LaidTab
import Derived.Lib.LaidU8
namespace Go.Proofs.YtnahlfaehelfjaaGreatDoor
set_option linter.unusedVariables false
set_option linter.unusedSimpArgs false
open Go.ChangeShapes Go.WideShapes Go.ChangeAt Go.RowKit
def listN:List (String×DataW Unit):=[("math/bits.deBruijn64tab",Rows.laid_math_bits_deBruijn64tab),("unicode/utf8.acceptRanges",Rows.laid_unicode_utf8_acceptRanges),("jalousie/jalousieref3.kinds",Rows.laid_jalousie_jalousieref3_kinds),("unicode/utf8.first",Rows.laid_unicode_utf8_first)]
section
variable {H:Type} {enc:TypeId×Value→H} {P:Program} {w:World} {base:Nat} {spare:Nat→Bool} {held:Bool}
theorem trodAll_five {t t' t'' t3 t4:TypeId} {args:Array Value} {ds:List (DataW H)} {ps:List MemPlace} (h:DataW.TrodAll enc P w base spare held [t,t',t'',t3,t4] args.toList ds ps) :
    ∃ v v' v'' v3 v4 d d' d'' d3 d4 p p' p'' p3 p4,args=#[v,v',v'',v3,v4]∧ds=[d,d',d'',d3,d4]∧ps=p++p'++p''++p3++p4∧DataW.Trod enc P w base spare held t v d p∧DataW.Trod enc P w base spare held t' v' d' p'∧DataW.Trod enc P w base spare held t'' v'' d'' p''∧DataW.Trod enc P w base spare held t3 v3 d3 p3∧DataW.Trod enc P w base spare held t4 v4 d4 p4:=by
  obtain⟨v,vs,d,ds',p,q,hargs,rfl,rfl,hd,hrest⟩:=trodAll_cons h;obtain⟨v',vs',d',ds'',p',q',rfl,rfl,rfl,hd',hrest'⟩:=trodAll_cons hrest;obtain⟨v'',vs'',d'',dsx,p'',q'',rfl,rfl,rfl,hd'',hrest''⟩:=trodAll_cons hrest';obtain⟨v3,vs3,d3,ds3,p3,q3,rfl,rfl,rfl,hd3,hrest3⟩:=trodAll_cons hrest'';obtain⟨v4,vs4,d4,ds4,p4,q4,rfl,rfl,rfl,hd4,hrest4⟩:=trodAll_cons hrest3;obtain⟨rfl,rfl,rfl⟩:=trodAll_nil hrest4;exact⟨v,v',v'',v3,v4,d,d',d'',d3,d4,p,p',p'',p3,p4,by cases args;simp_all,rfl,by simp,hd,hd',hd'',hd3,hd4⟩
end
set_option maxRecDepth 100000 in
theorem box_open {H:Type} {enc:TypeId×Value→H} {w:World} {base:Nat} {spare:Nat→Bool} {held:Bool} {r:Reach} {b0:Nat} {v:Value} {d:DataW H} {p:List MemPlace} (hv:Value.okWide Tryz.prog w r b0 45 v) (h:DataW.Trod enc Tryz.prog w base spare held 45 v d p) :
    ∃ b:Bx,v=.agg (bxcells b).toArray∧Bx64 b:=by
  obtain⟨cs,rfl,_⟩:=okWide_struct Tryz.underlying45 hv;obtain⟨fuel,hf⟩:=h;obtain⟨b,hb,h64⟩:=open_bx fuel _ _ hf;have e2:cs.toList=bxcells b:=hb;exact⟨b,by rw[← e2],h64⟩
set_option maxRecDepth 100000 in
theorem containBelow_contract (H:Type) (enc:TypeId×Value→H) (W:World) (base:Nat) (args:Array Value) (ds gs:List (DataW H)) (before:List MemPlace)
    (hval0:∀ (j:Nat) t v,Tryz.f4.params[j]?=some t→args[j]?=some v→Value.okWide Tryz.prog W .any base t v)
    (hW:DataW.Whole enc Tryz.prog Tryz.f4.params.toList (Rows.OpenSpec.upto Rows.containBelowSpec).vars false W args.toList ds gs before)
    (hsmall:Rows.uptoSmall H (ds++gs)=true)
    (hsz0:(DataW.weightsEach Tryz.prog (Tryz.f4.params.toList++(Rows.OpenSpec.upto Rows.containBelowSpec).bare.plain.varTypes Tryz.prog) (ds++gs)).all (·≤reachBytes)=true)
    (hL:laidMetH Tryz.prog Rows.containBelowUptoRow.laid W) :
    Calls Tryz.prog 4 args W fun e W'=>∃ v,e=.returned v∧Rows.containBelowSpec.post enc Tryz.prog Tryz.f4 false true false false W args v W':=by
  have hval:∀ (j:Nat) t v,Tryz.f4.params[j]?=some t→args[j]?=some v→Value.okWide Tryz.prog W .any base t v:=hval0;have hW':=hW;have hsz:=hsz0;obtain⟨p,q,hA0,hV,rfl,hfz,hnd⟩:=hW;have hA:DataW.TrodAll enc Tryz.prog W 0 (fun _=>true) true Tryz.f4.params.toList args.toList ds p:=hA0;rw[Tryz.params4]at hA hval hsz;obtain⟨v0,v1,v2,v3,v4,d0,d1,d2,d3,d4,p0,p1,p2,p3,p4,rfl,rfl,rfl,h0,h1,h2,h3,h4⟩:=trodAll_five hA;obtain⟨rfl,rfl⟩:=trodVars_none hV;obtain⟨uo,uc,ub,uf,U,bo,bc,bb,bf,L,rfl,hU,hB⟩:=rooms_open (hval 0 25 v0 rfl rfl) h0;obtain⟨nm,e0,hh0,rfl,hi0,hs0⟩:=asked_open (hval 1 37 v1 rfl rfl) h1 (reach_of hsz (j:=1) rfl rfl);obtain⟨id,rfl,rfl,rfl,w2⟩:=open_int Tryz.underlying3 (hval 2 3 v2 rfl rfl) h2;obtain⟨hi1,hi2⟩:=int_of_wf w2;obtain⟨ot,rfl,rfl,rfl,w3⟩:=open_int Tryz.underlying3 (hval 3 3 v3 rfl rfl) h3;obtain⟨ho1,ho2⟩:=int_of_wf w3;obtain⟨X,rfl,hX⟩:=box_open (hval 4 45 v4 rfl rfl) h4
  have hbk:(leavesC hh0 e0).length≤1048576:=by
    have:=hsmall;simp only[Rows.uptoSmall,List.append_nil,Rows.uptoBulkAll,decide_eq_true_eq]at this;omega
  have hL':laidMet Tryz.prog listN W:=hL
  refine(law_containBelow uo uc ub uf U bo bc bb bf L nm hh0 e0 id ot X W hU hB hi0 (kd_of_laid_in hL' (List.mem_cons_of_mem _ (List.mem_cons_of_mem _ (List.mem_cons_self ..)))) hbk hi1 hi2 ho1 ho2 hX).mono fun e W' ⟨he,hb⟩=>?_
  subst he;exact⟨_,rfl,law_post (s:=Rows.containBelowSpec) Tryz.laidOut Tryz.underlying4 rfl (by kernel_rfl) rfl (by rw[Tryz.params4];decide +kernel) hW' hb⟩
def litT:DataW Unit→Value
  | .lit (.int k n)=>.int k n
  | _=>undef
def rowT:DataW Unit→List Value
  | .agg l=>l.map litT
  | d=>[litT d]
def allT:DataW Unit→Array Value
  | .agg l=>(l.flatMap rowT).toArray
  | _=>#[]
def layT (d:DataW Unit):Obj→Obj
  | .cells _ t frozen=>.cells (allT d) t frozen
  | o=>o
noncomputable def laidWorldT (os:Os):World :=
  { World.holding Tryz.prog os ⟨#[],#[],[]⟩ with heap:=((((World.holding Tryz.prog os ⟨#[],#[],[]⟩).heap.modify 1 (layT Rows.laid_math_bits_deBruijn64tab)).modify 4 (layT Rows.laid_unicode_utf8_acceptRanges)).modify 0 (layT Rows.laid_jalousie_jalousieref3_kinds)).modify 3 (layT Rows.laid_unicode_utf8_first) }
def textArgs:Array Value:=#[.agg #[.slice none 0 0,.slice none 0 0],.agg #[.string ⟨#[]⟩,.int .i64 0,.slice none 0 0,.int .i64 0,.int .i64 0,.string ⟨#[]⟩,.int .i64 0,.int .i64 0,.int .i64 0,.int .i64 0,.int .i64 0,.slice none 0 0,.string ⟨#[]⟩,.string ⟨#[]⟩,.bool false],.int .i64 0,.int .i64 0,.agg #[.int .i64 0,.string ⟨#[]⟩,.int .i64 0,.int .i64 0,.int .i64 0,.int .i64 0]]
theorem laid_metT (os:Os):laidMet Tryz.prog Rows.containBelowUptoRow.laid ((laidWorldT os).forCall (fun _ _=>0) ⟨#[],textArgs,[]⟩).memory :=
  laidMet_of_run3 8 (by kernel_rfl) (by kernel_rfl) (by kernel_rfl)
theorem readsT (os:Os) {H:Type} (enc:TypeId×Value→H):DataW.whole enc Tryz.prog ((laidWorldT os).forCall (fun _ _=>0) ⟨#[],textArgs,[]⟩).memory Tryz.f4.params.toList (Rows.OpenSpec.upto Rows.containBelowSpec).vars false textArgs.toList 8=some ([.agg [.nil,.nil],.agg [.lit (.string []),.agg [.lit (.int .i64 0),.nil,.agg [.lit (.int .i64 0),.lit (.int .i64 0),.lit (.string []),.lit (.int .i64 0),.agg [.lit (.int .i64 0),.agg [.lit (.int .i64 0),.lit (.int .i64 0)],.lit (.int .i64 0),.nil],.lit (.string []),.lit (.string []),.lit (.bool false)]]],.lit (.int .i64 0),.lit (.int .i64 0),.agg [.lit (.int .i64 0),.lit (.string []),.agg [.lit (.int .i64 0),.lit (.int .i64 0)],.agg [.lit (.int .i64 0),.lit (.int .i64 0)]]],[],[]):=by
  kernel_rfl
set_option maxRecDepth 100000 in
theorem containBelow_lifted (os:Os) (started:os.Started) (H:Type) (enc:TypeId×Value→H) (F:Stop.Interp) :
    ReturnsInHanded {} Tryz.checked os 4 .any ((Rows.OpenSpec.upto Rows.containBelowSpec).preRow enc Tryz.prog Tryz.f4 Rows.containBelowUptoRow.domain false Rows.containBelowUptoRow.laid) (((Rows.OpenSpec.upto Rows.containBelowSpec).at F).post enc Tryz.prog Tryz.f4 false true false false):=by
  refine returnsInHanded_of_row (C:=Tryz.checked) (s:=Rows.OpenSpec.upto Rows.containBelowSpec) Tryz.own started (by kernel_rfl) Tryz.func4
    (witness_row_at (enc:=enc) (C:=Tryz.checked) false (laidWorldT os) textArgs rfl (by kernel_rfl) (by kernel_rfl) (by kernel_rfl)
      (OpenSpec.preRow_of_cond 8 (readsT os enc) (by kernel_rfl) (fun k hk=>by obtain rfl:=Option.some.inj hk;rfl) (by kernel_rfl) (laid_metT os))) ?_
  intro W base args ds gs before hval hW _ hc hsz hL _ _;exact containBelow_contract H enc W base args ds gs before hval hW (hc _ rfl) hsz hL
theorem containBelow_said:Rows.ContainBelowUptoSaid :=
  OpenClaim.holds_of_cond 4 Tryz.f4 rfl rfl rfl rfl rfl rfl rfl ⟨rfl,rfl,rfl,rfl,rfl⟩ rfl rfl rfl rfl rfl (by kernel_rfl) Tryz.func4 (by kernel_rfl)
    (of_decide_eq_true (by kernel_rfl)) (by unfold Func.isWrapper;first | (rw[if_pos (by decide +kernel)];kernel_rfl) | (rw[if_neg (by decide +kernel)];exact⟨rfl,rfl⟩))
    (fun os started H enc _ F=>by rw[OpenClaim.pre_eq_preRow];exact containBelow_lifted os started H enc F)
theorem containBelow_plain (f:FuncId) (fn:Func) (hf:Tryz.pinned.checked.prog.funcNamed "jalousie/jalousielaw19.ContainBelow"=some f) (hfn:Tryz.pinned.checked.prog.funcs[f]?=some fn) :
    true=Tryz.pinned.checked.prog.looks []∧∀ (j:Nat) t,fn.params[j]?=some t→Tryz.pinned.checked.prog.wantsStandIn t=false:=by
  obtain rfl:f=4:=Option.some.inj ((show Tryz.prog.funcNamed "jalousie/jalousielaw19.ContainBelow"=some 4 by kernel_rfl).symm.trans hf) |>.symm
  obtain rfl:fn=Tryz.f4:=(Option.some.inj (Tryz.func4.symm.trans hfn)).symm;refine⟨by kernel_rfl,fun j t ht=>?_⟩;rw[Tryz.params4]at ht
  have:t=25∨t=37∨t=3∨t=3∨t=45:=by simpa using Array.mem_of_getElem? ht
  rcases this with rfl|rfl|rfl|rfl|rfl
  · exact(show Tryz.prog.wantsStandIn 25=false by kernel_rfl)
  · exact(show Tryz.prog.wantsStandIn 37=false by kernel_rfl)
  · exact(show Tryz.prog.wantsStandIn 3=false by kernel_rfl)
  · exact(show Tryz.prog.wantsStandIn 3=false by kernel_rfl)
  · exact(show Tryz.prog.wantsStandIn 45=false by kernel_rfl)
theorem containBelow_card:Rows.ContainBelowUptoCardSaid :=
  Claim7.holds_tied_plain_at .later [] _ _ _ _ containBelow_said (fun _ h=>by cases h) (by kernel_rfl) (fun _ h=>by cases h) containBelowUpto_row_tie rfl ⟨rfl,rfl⟩ (by kernel_rfl) rfl containBelow_plain (by kernel_rfl)
#print axioms containBelow_card
end Go.Proofs.YtnahlfaehelfjaaGreatDoor
