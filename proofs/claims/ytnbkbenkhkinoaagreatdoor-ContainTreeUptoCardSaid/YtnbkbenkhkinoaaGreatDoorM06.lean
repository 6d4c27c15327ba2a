/- Of my texts: Lift. -/
import Derived.Test.YtnbkbenkhkinoaaGreatDoorRows
import Derived.ProofKit
import Derived.Below
import Derived.ChangeSame
import Derived.Deep.Slices
import Derived.Deep.Fields
import Derived.Lib.SmallJoins
namespace Go.Proofs.YtnbkbenkhkinoaaGreatDoor
set_option linter.unusedVariables false
set_option linter.unusedSimpArgs false
open Go.ChangeShapes Go.WideShapes Go.ChangeAt Go.RowKit
theorem Tryz.own:ownKnob Tryz.prog.godebug=none:=by kernel_rfl
theorem Tryz.laidOut:laidOutB Tryz.prog=true:=by kernel_rfl
section
variable {H:Type} {enc:TypeId×Value→H} {P:Program}
theorem trodAll_stays (hl:laidOutB P=true) {W W':World} (hb:Below W.heap.size W W') {sp:Nat→Bool}:∀ (ts:List TypeId) (vs:List Value) (ds:List (DataW H)) (ps:List MemPlace),
  (∀ t∈ts,P.readableRec t=true∧t<P.types.size)→DataW.TrodAll enc P W 0 (fun _=>true) true ts vs ds ps→(∀ x∈ps,x.block<W.heap.size)→(∀ x∈ps,sp x.block=true) →
  DataW.TrodAll enc P W' 0 sp true ts vs ds ps
 | [],[],[],_,_,h,_,_=>h
 | t::ts,v::vs,d::ds,ps,hr,h,hlt,hsp=>by
   obtain⟨p,q,h1,h2,rfl⟩:=h
   exact ⟨p,q,WideElems.Trod_stays hl (hr t (List.mem_cons_self ..)).1 (hr t (List.mem_cons_self ..)).2 h1 (fun x hx=>hb.same (hlt x (List.mem_append_left _ hx))) (fun x hx=>hsp x (List.mem_append_left _ hx)),
    trodAll_stays hl hb ts vs ds q (fun t' ht=>hr t' (List.mem_cons_of_mem _ ht)) h2 (fun x hx=>hlt x (List.mem_append_right _ hx)) (fun x hx=>hsp x (List.mem_append_right _ hx)),rfl⟩
 | [],[],_::_,_,_,h,_,_=>h.elim
 | [],_::_,[],_,_,h,_,_=>h.elim
 | [],_::_,_::_,_,_,h,_,_=>h.elim
 | _::_,[],[],_,_,h,_,_=>h.elim
 | _::_,[],_::_,_,_,h,_,_=>h.elim
 | _::_,_::_,[],_,_,h,_,_=>h.elim
theorem law_post {tb:TypeId} {f:Func} {s:ChangeSpec} {W W':World} {args:Array Value} {ds gs:List (DataW H)} {before:List MemPlace} (hl:laidOutB P=true) (htb:P.underlying tb=some .bool) (hvs:s.vars=[]) (hres:f.resultTypes=#[tb])
  (hspec:s.fn H (ds++[])={ results:=[.lit (.bool true)],args:=ds }) (hread:∀ t∈f.params.toList,P.readableRec t=true∧t<P.types.size)
  (hW:DataW.Whole enc P f.params.toList s.vars false W args.toList ds gs before) (hb:Below W.heap.size W W') :
  s.post enc P f false true false false W args (.bool true) W':=by
 have hlt:∀ x∈before,x.block<W.heap.size:=fun x hx=>hW.lt x hx
 have hW':=hW;obtain⟨p,q,hA,hV,rfl,hz,hn⟩:=hW;rw[hvs]at hV;obtain⟨rfl,rfl⟩:=trodVars_none hV;rw[List.append_nil]at hW' hlt;have hspec':s.fn H (ds++[])=({ results:=[.lit (.bool true)],args:=ds,vars:=[] }:Left H):=hspec
 have hR:∀ (b:Nat) (sp:Nat→Bool) (hd:Bool),DataW.TrodAll enc P W' b sp hd f.resultTypes.toList ((Value.bool true).resultList f.resultTypes.size) (s.fn H (ds++[])).results []:=fun b sp hd=>by
  rw[hres,hspec'];exact trodAll_mk1 (shut_bool htb true)
 have hAr:∀ sp:Nat→Bool,(∀ x∈p,sp x.block=true)→DataW.TrodAll enc P W' 0 sp true f.params.toList args.toList (s.fn H (ds++[])).args p:=fun sp hsp=>by
  rw[hspec'];exact trodAll_stays hl hb _ _ _ _ hread hA hlt hsp
 have hVr:∀ sp:Nat→Bool,DataW.TrodVars enc P W' sp s.vars (s.fn H (ds++[])).vars []:=fun sp=>by
  rw[hspec',hvs];rfl
 have hok:∀ (j:Nat) (t:TypeId) (r:Value),f.resultTypes[j]?=some t→((Value.bool true).resultList f.resultTypes.size)[j]?=some r→Value.okWide P W' .any 0 t r:=ok_one hres rfl (okWide_bool_mk htb true);refine⟨ds,[],p,[],p,[],hW',hR _ _ _,hAr _ (fun x hx=>by simpa using hlt x hx),hVr _,World.keptBut_mono (fun x hx=>⟨hx,?_⟩) (hb.frame (·∈p)),fun _=>?_⟩
 · exact Or.inr (by simpa using hx)
 · refine⟨hok,_,_,([]++p)++[],⟨[]++p,[],trodAll_append (hAr _ (fun _ _=>rfl)) (hR _ _ _),hVr _,rfl,?_,?_⟩,?_⟩
   · intro b off hp
     have hin:MemPlace.cell b off∈p:=by simpa using hp
     rw[hb.frozen (hlt _ hin)];exact hz b off (by simpa using hin)
   · intro ha;cases ha
   · intro x hx _;simpa using hx
end
end Go.Proofs.YtnbkbenkhkinoaaGreatDoor
