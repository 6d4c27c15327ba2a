/- ContainTree: a tree read anew by other numbers: the same order, the same found. The row's listed variables are tied to the program's text; what is read is of bulk at most 1048576. No condition else. -/
import Derived.Test.YtnbkbenkhkinoaaGreatDoorM45
import Derived.Test.YtnbkbenkhkinoaaGreatDoorM47
import Derived.Test.YtnbkbenkhkinoaaGreatDoorM48
import Derived.Test.YtnbkbenkhkinoaaGreatDoorCards
import Derived.Test.YtnbkbenkhkinoaaGreatDoorTie
import Derived.WalkKit
import Derived.ProofKit
import Derived.OpenShut
import Derived.Deep.DeepHandedRow
import Derived.Deep.DeepLaidRun
import Derived.Lib.LaidTab
import Derived.Lib.LaidU8
namespace Go.Proofs.YtnbkbenkhkinoaaGreatDoor
set_option linter.unusedVariables false
set_option linter.unusedSimpArgs false
open Go.ChangeShapes Go.WideShapes Go.ChangeAt Go.RowKit
def listN:List (String×DataW Unit):=[("math/bits.deBruijn64tab",Rows.laid_math_bits_deBruijn64tab),("unicode/utf8.acceptRanges",Rows.laid_unicode_utf8_acceptRanges),("jalousie/jalousieref3.kinds",Rows.laid_jalousie_jalousieref3_kinds),("unicode/utf8.first",Rows.laid_unicode_utf8_first)]
set_option maxRecDepth 100000 in
theorem containTree_contract (H:Type) (enc:TypeId×Value→H) (W:World) (base:Nat) (args:Array Value) (ds gs:List (DataW H)) (before:List MemPlace)
    (hval0:∀ (j:Nat) t v,Tryz.f4.params[j]?=some t→args[j]?=some v→Value.okWide Tryz.prog W .any base t v)
    (hW:DataW.Whole enc Tryz.prog Tryz.f4.params.toList (Rows.OpenSpec.upto Rows.containTreeSpec).vars false W args.toList ds gs before)
    (hsmall:Rows.uptoSmall H (ds++gs)=true)
    (hsz0:(DataW.weightsEach Tryz.prog (Tryz.f4.params.toList++(Rows.OpenSpec.upto Rows.containTreeSpec).bare.plain.varTypes Tryz.prog) (ds++gs)).all (·≤reachBytes)=true)
    (hL:laidMetH Tryz.prog Rows.containTreeUptoRow.laid W) :
    Calls Tryz.prog 4 args W fun e W'=>∃ v,e=.returned v∧Rows.containTreeSpec.post enc Tryz.prog Tryz.f4 false true false false W args v W':=by
  have hval:∀ (j:Nat) t v,Tryz.f4.params[j]?=some t→args[j]?=some v→Value.okWide Tryz.prog W .any base t v:=hval0;have hW':=hW;have hsz:=hsz0;obtain⟨p,q,hA0,hV,rfl,hfz,hnd⟩:=hW;have hA:DataW.TrodAll enc Tryz.prog W 0 (fun _=>true) true Tryz.f4.params.toList args.toList ds p:=hA0;rw[Tryz.params4]at hA hval hsz;obtain⟨v0,v1,d0,d1,p0,p1,rfl,rfl,rfl,h0,h1⟩:=trodAll_two hA;obtain⟨rfl,rfl⟩:=trodVars_none hV;obtain⟨uo,uc,ub,uf,U,bo,bc,bb,bf,L,rfl,hU,hB⟩:=rooms_open (hval 0 25 v0 rfl rfl) h0;obtain⟨nm,e0,hh0,rfl,hi0,hs0⟩:=asked_open (hval 1 37 v1 rfl rfl) h1 (reach_of hsz (j:=1) rfl rfl)
  have hbk:(leavesC hh0 e0).length≤1048576:=by
    have:=hsmall;simp only[Rows.uptoSmall,List.append_nil,Rows.uptoBulkAll,decide_eq_true_eq]at this;omega
  have hL':laidMet Tryz.prog listN W:=hL
  refine(law_containTree uo uc ub uf U bo bc bb bf L nm hh0 e0 W hU hB hi0 (kd_of_laid_in hL' (List.mem_cons_of_mem _ (List.mem_cons_of_mem _ (List.mem_cons_self ..)))) hbk).mono fun e W' ⟨he,hb⟩=>?_
  subst he;exact⟨_,rfl,law_post (s:=Rows.containTreeSpec) Tryz.laidOut Tryz.underlying4 rfl (by kernel_rfl) rfl (by rw[Tryz.params4];decide +kernel) hW' hb⟩
def litT:DataW Unit→Value
  | .lit (.int k n)=>.int k n
  | _=>undef
def rowT:DataW Unit→List Value
  | .agg l=>l.map litT
  | d=>[litT d]
def allT:DataW Unit→Array Value
  | .agg l=>(l.flatMap rowT).toArray
  | _=>#[]
def layT (d:DataW Unit):Obj→Obj
  | .cells _ t frozen=>.cells (allT d) t frozen
  | o=>o
noncomputable def laidWorldT (os:Os):World :=
  { World.holding Tryz.prog os ⟨#[],#[],[]⟩ with heap:=((((World.holding Tryz.prog os ⟨#[],#[],[]⟩).heap.modify 1 (layT Rows.laid_math_bits_deBruijn64tab)).modify 4 (layT Rows.laid_unicode_utf8_acceptRanges)).modify 0 (layT Rows.laid_jalousie_jalousieref3_kinds)).modify 3 (layT Rows.laid_unicode_utf8_first) }
def textArgs:Array Value:=#[.agg #[.slice none 0 0,.slice none 0 0],.agg #[.string ⟨#[]⟩,.int .i64 0,.slice none 0 0,.int .i64 0,.int .i64 0,.string ⟨#[]⟩,.int .i64 0,.int .i64 0,.int .i64 0,.int .i64 0,.int .i64 0,.slice none 0 0,.string ⟨#[]⟩,.string ⟨#[]⟩,.bool false]]
theorem laid_metT (os:Os):laidMet Tryz.prog Rows.containTreeUptoRow.laid ((laidWorldT os).forCall (fun _ _=>0) ⟨#[],textArgs,[]⟩).memory :=
  laidMet_of_run3 8 (by kernel_rfl) (by kernel_rfl) (by kernel_rfl)
theorem readsT (os:Os) {H:Type} (enc:TypeId×Value→H):DataW.whole enc Tryz.prog ((laidWorldT os).forCall (fun _ _=>0) ⟨#[],textArgs,[]⟩).memory Tryz.f4.params.toList (Rows.OpenSpec.upto Rows.containTreeSpec).vars false textArgs.toList 8=some ([.agg [.nil,.nil],.agg [.lit (.string []),.agg [.lit (.int .i64 0),.nil,.agg [.lit (.int .i64 0),.lit (.int .i64 0),.lit (.string []),.lit (.int .i64 0),.agg [.lit (.int .i64 0),.agg [.lit (.int .i64 0),.lit (.int .i64 0)],.lit (.int .i64 0),.nil],.lit (.string []),.lit (.string []),.lit (.bool false)]]]],[],[]):=by
  kernel_rfl
set_option maxRecDepth 100000 in
theorem containTree_lifted (os:Os) (started:os.Started) (H:Type) (enc:TypeId×Value→H) (F:Stop.Interp) :
    ReturnsInHanded {} Tryz.checked os 4 .any ((Rows.OpenSpec.upto Rows.containTreeSpec).preRow enc Tryz.prog Tryz.f4 Rows.containTreeUptoRow.domain false Rows.containTreeUptoRow.laid) (((Rows.OpenSpec.upto Rows.containTreeSpec).at F).post enc Tryz.prog Tryz.f4 false true false false):=by
  refine returnsInHanded_of_row (C:=Tryz.checked) (s:=Rows.OpenSpec.upto Rows.containTreeSpec) Tryz.own started (by kernel_rfl) Tryz.func4
    (witness_row_at (enc:=enc) (C:=Tryz.checked) false (laidWorldT os) textArgs rfl (by kernel_rfl) (by kernel_rfl) (by kernel_rfl)
      (OpenSpec.preRow_of_cond 8 (readsT os enc) (by kernel_rfl) (fun k hk=>by obtain rfl:=Option.some.inj hk;rfl) (by kernel_rfl) (laid_metT os))) ?_
  intro W base args ds gs before hval hW _ hc hsz hL _ _;exact containTree_contract H enc W base args ds gs before hval hW (hc _ rfl) hsz hL
theorem containTree_said:Rows.ContainTreeUptoSaid :=
  OpenClaim.holds_of_cond 4 Tryz.f4 rfl rfl rfl rfl rfl rfl rfl ⟨rfl,rfl,rfl,rfl,rfl⟩ rfl rfl rfl rfl rfl (by kernel_rfl) Tryz.func4 (by kernel_rfl)
    (of_decide_eq_true (by kernel_rfl)) (by unfold Func.isWrapper;first | (rw[if_pos (by decide +kernel)];kernel_rfl) | (rw[if_neg (by decide +kernel)];exact⟨rfl,rfl⟩))
    (fun os started H enc _ F=>by rw[OpenClaim.pre_eq_preRow];exact containTree_lifted os started H enc F)
theorem containTree_plain (f:FuncId) (fn:Func) (hf:Tryz.pinned.checked.prog.funcNamed "jalousie/jalousielaw19.ContainTree"=some f) (hfn:Tryz.pinned.checked.prog.funcs[f]?=some fn) :
    true=Tryz.pinned.checked.prog.looks []∧∀ (j:Nat) t,fn.params[j]?=some t→Tryz.pinned.checked.prog.wantsStandIn t=false:=by
  obtain rfl:f=4:=Option.some.inj ((show Tryz.prog.funcNamed "jalousie/jalousielaw19.ContainTree"=some 4 by kernel_rfl).symm.trans hf) |>.symm
  obtain rfl:fn=Tryz.f4:=(Option.some.inj (Tryz.func4.symm.trans hfn)).symm;refine⟨by kernel_rfl,fun j t ht=>?_⟩;rw[Tryz.params4]at ht
  have:t=25∨t=37:=by simpa using Array.mem_of_getElem? ht
  rcases this with rfl|rfl
  · exact(show Tryz.prog.wantsStandIn 25=false by kernel_rfl)
  · exact(show Tryz.prog.wantsStandIn 37=false by kernel_rfl)
theorem containTree_card:Rows.ContainTreeUptoCardSaid :=
  Claim7.holds_tied_plain_at .later [] _ _ _ _ containTree_said (fun _ h=>by cases h) (by kernel_rfl) (fun _ h=>by cases h) containTreeUpto_row_tie rfl ⟨rfl,rfl⟩ (by kernel_rfl) rfl containTree_plain (by kernel_rfl)
#print axioms containTree_card
end Go.Proofs.YtnbkbenkhkinoaaGreatDoor
