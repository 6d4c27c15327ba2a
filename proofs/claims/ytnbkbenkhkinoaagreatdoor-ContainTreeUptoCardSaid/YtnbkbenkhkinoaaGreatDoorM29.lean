/- Of my texts: Phase. -/
import Derived.Test.YtnbkbenkhkinoaaGreatDoorM02
namespace Go.Proofs.YtnbkbenkhkinoaaGreatDoor
set_option linter.unusedVariables false
set_option linter.unusedSimpArgs false
open Go.RowKit
theorem wpAny_loose {P:Program} {Q:Exit→Act→World→Prop} {a:Act} {w:World} {l hl:List Oper} (n:Nat) (cl:List Loose)
  (hhl:headL cl n 0 l=hl) (hB:Region.lexB .any hl.toArray=true) (hL:looseB l.toArray n cl=true) (hN:nodupB cl=true) (hsz:(cl.all fun L=>decide (L.d<a.tmps.size))=true)
  (h : wpQuiet P hl.toArray (fun w'=>∃ m,w'=grow w m) (fun aq=>(∀ (V:Nat→Value) (m:Ext w),obsL P l V (grow w m) (fill V cl aq) cl cl) ∧
    ∀ (V:Nat→Value) (m:Ext w),lawsL V (grow w m) cl→distL V cl→wpList P l.toArray Q (l.drop n) (fill V cl aq) (grow w m)) hl a):wpAny P .any l.toArray Q l.toArray.size (Array.replicate l.toArray.size false) a { w with drawn:=w.drawn+1 }:=by
 subst hhl
 have hn:n≤l.length:=by simpa using looseB_size hL
 simp only[Region.lexB,Bool.and_eq_true]at hB
 have hlen:(headL cl n 0 l).length=n:=by
  have e:=headL_get cl n 0 l
  apply Nat.le_antisymm
  · rcases Nat.lt_or_ge n (headL cl n 0 l).length with h1 | h1
    · have:=e n;rw[List.getElem?_eq_getElem h1]at this;simp at this
    · exact h1
  · rcases Nat.lt_or_ge (headL cl n 0 l).length n with h1 | h1
    · have:=e (headL cl n 0 l).length;rw[if_pos h1,List.getElem?_eq_none (Nat.le_refl _),List.getElem?_eq_getElem (by omega)]at this;simp at this
    · exact h1
 have hget:∀ j,j<n→(headL cl n 0 l).toArray[j]?=(l.toArray[j]?).map (hushL cl j):=fun j hj=>by
  have:=headL_get cl n 0 l j;simp only[List.getElem?_toArray,this,if_pos hj,Nat.zero_add]
 have hdst:∀ j,j<n→((fun _:Nat=>true) j=(fun j=>!unkB cl j) j∧((headL cl n 0 l).toArray[j]?).bind (·.dst)=(l.toArray[j]?).bind (·.dst))∨(((headL cl n 0 l).toArray[j]?).bind (·.dst)=none∧(fun j=>!unkB cl j) j=false):=fun j hj=>by
  rw[hget j hj]
  cases ho:l.toArray[j]? with
  | none=>simp at ho;omega
  | some o =>
    cases hf:cl.find? (fun L=>L.i==j) with
    | none=>exact .inl (by simp[hushL,hf,unk_of_not (find_not hf)])
    | some L =>
      obtain⟨h1,h2⟩:=find_in hf;have hu:=looseB_unk hL h1;rw[h2]at hu
      cases hc:L.c with
      | none=>exact .inr (by simp[hushL,hf,Loose.hush,hc,hu])
      | some c=>exact .inl (by simp[hushL,hf,Loose.hush,hc,hu])
 obtain⟨q,_,hq2,hq3⟩:=quiet_vals (C:=fun w'=>∃ m,w'=grow w m) (headL cl n 0 l) 0 (fun _=>undef) (fun j=>by simp) h;rw[Nat.zero_add,hlen]at hq3
 have hfrq:∀ i,i≤n→fr (fun j=>((headL cl n 0 l).toArray[j]?).bind (·.dst)) (fun _=>true) q i a=fr (fun j=>(l.toArray[j]?).bind (·.dst)) (fun j=>!unkB cl j) q i a:=fun i hi=>fr_dst i fun j hj=>hdst j (by omega)
 rw[hfrq n (Nat.le_refl _)]at hq3;obtain⟨hobs,hfin⟩:=hq3
 have hfill:∀ V:Nat→Value,(∀ j,unkB cl j=false→V j=q j)→fill V cl (fr (fun j=>(l.toArray[j]?).bind (·.dst)) (fun j=>!unkB cl j) q n a)=fr (fun j=>(l.toArray[j]?).bind (·.dst)) (fun _=>true) V n a:=fun V hV=>by
  refine fill_is cl _ _ (by rw[fr_size,fr_size]) (by rw[fr_defers,fr_defers]) (fun t ht=>?_) fun L hLm hc=>?_
  · refine fr_slot n fun j hj hdj=>?_
    have hu:unkB cl j=false:=Bool.eq_false_iff.2 fun hu=>by
     obtain⟨L,hLm,h3⟩:=List.any_eq_true.1 hu;simp only[Bool.and_eq_true,beq_iff_eq,Option.isNone_iff_eq_none]at h3;obtain⟨_,o,ho,hd,_⟩:=looseB_in hL hLm;refine ht L hLm h3.2 ?_;rw[← h3.1,ho]at hdj;exact Option.some.inj (hd.symm.trans hdj)
    exact⟨by simp[hu],fun _=>(hV j hu).symm⟩
  · obtain⟨hi,o,ho,hd,_⟩:=looseB_in hL hLm
    have hdi:(l.toArray[L.i]?).bind (·.dst)=some L.d:=by rw[ho];exact hd
    rw[fr_size]
    exact fr_at hdi rfl n hi fun j hj hne=>looseB_dst hL hj hi hne hdi
 have hS:LooseStep P l.toArray n cl q a w:=by
  refine⟨fun i o hi ho hin=>?_,fun L hLm o ho V w' hV ⟨m,hw'⟩ hlaw=>?_,fun L hLm c hc=>?_,fun L h1 L' h2 hne he=>hne (nodupB_one hN L h1 L' h2 he)⟩
  · have ho':(headL cl n 0 l).toArray[i]?=some o:=by rw[hget i hi,ho];simp[hushL,find_of_not hin]
    have hy:=hq2 i o (Nat.zero_le _) ho';rw[hfrq i (by omega)]at hy;have hA:=looseB_at hL ho
    have hwt:Region.wanted o (yielded l.toArray (fr (fun j=>(l.toArray[j]?).bind (·.dst)) (fun j=>!unkB cl j) q i a).tmps)=Region.wanted o (yielded (headL cl n 0 l).toArray (fr (fun j=>(l.toArray[j]?).bind (·.dst)) (fun j=>!unkB cl j) q i a).tmps) :=
     wanted_same (fun g hg=>by
      obtain⟨_,h2,h3⟩:=hA.guard g hg;rw[hget g.1 h2]
      cases l.toArray[g.1]? with
      | none=>rfl
      | some o2=>simp[hushL,find_of_not h3]) fun _ _=>rfl
    unfold YieldsIn at hy ⊢;rw[hwt];exact hy
  · obtain⟨_,o',ho',hd,_⟩:=looseB_in hL hLm;have:o'=o:=Option.some.inj (ho'.symm.trans ho);subst this;subst hw';have h3:=obsL_at (hobs V m) L hLm o' (by simpa using ho') (waitsL_of hlaw);rw[hfill V hV]at h3
    have hnot:∀ (F:Act) (w1:World) e a w,e≠.normal→¬ PostL L F w1 e a w:=fun F w1 e a w he hp=>he hp.1
    refine⟨_,hnot (fr (fun j=>(l.toArray[j]?).bind (·.dst)) (fun _=>true) V n a) (grow w m),by simpa using List.all_eq_true.1 hsz L hLm,h3.1,?_⟩;obtain⟨hg,h3⟩:=h3;unfold wpList at h3;rw[hg,if_pos rfl]at h3
    rcases h3 with h3 | ⟨_,a',w3,h3⟩
    · refine Oper.wp_mono (fun a' w'' hh=>?_) h3;obtain⟨_,v,hv⟩:=hh;exact⟨v,by rw[hd];exact hv⟩
    · exact absurd h3 (hnot _ _ _ _ _ (by simp))
  · obtain⟨hi,o,ho,hd,_⟩:=looseB_in hL hLm
    have hf:cl.find? (fun L'=>L'.i==L.i)=some L:=by
     cases hf:cl.find? (fun L'=>L'.i==L.i) with
     | none =>
       have:=find_not hf;have h2:inB cl L.i=true:=List.any_eq_true.2 ⟨L,hLm,by simp⟩;rw[h2]at this;cases this
     | some L'=>rw[nodupB_one hN L' (find_in hf).1 L hLm (find_in hf).2]
    have ho':(headL cl n 0 l).toArray[L.i]?=some { o with op:=.move (.const c),guard:=none }:=by rw[hget L.i hi,ho];simp[hushL,hf,Loose.hush,hc]
    rcases hq2 L.i _ (Nat.zero_le _) ho' with ⟨_,hv⟩ | ⟨hw,_⟩
    · have h4:=hv w (grow_mk (Below.refl _ _));unfold Oper.quietAt at h4;simp only[execOp,Act.eval,Sem.run_pure,Oper.quietUpon]at h4;exact h4.2.symm
    · simp[Region.wanted]at hw
 have hrep:∀ (m i:Nat),(Array.replicate m false).getD i false=false:=fun m i=>by by_cases h:i<m<;>simp[h]
 have hrun:=run_all (Q':=Q) hL hS (fun listed b w' V hI hall=>by
   obtain⟨m,rfl⟩:=hI.ext
   have e:b=fill V cl (fr (fun j=>(l.toArray[j]?).bind (·.dst)) (fun j=>!unkB cl j) q n a):=by
    rw[hfill V hI.same,hI.frame]
    exact fr_ext fun j hj=>⟨hall j hj,fun _=>rfl⟩
   rw[e]
   exact hfin V m (lawsL_of fun L hLm=>(hI.law L hLm (hall _ (looseB_in hL hLm).1)).1)
    (distL_of hN fun L h1 L' h2 hne=>hI.apart L h1 L' h2 hne (hall _ (looseB_in hL h1).1) (hall _ (looseB_in hL h2).1)))
  n (Array.replicate l.toArray.size false) a { w with drawn:=w.drawn+1 } q
  ⟨by
    have:∀ m,fr (fun j=>(l.toArray[j]?).bind (·.dst)) (fun j=>(Array.replicate l.toArray.size false).getD j false) q m a=a:=fun m=>by
     induction m with
     | zero=>rfl
     | succ m ih=>unfold fr;rw[hrep,ih];rfl
    exact(this n).symm,grow_mk (Below.refl _ _).drew,fun _ _=>rfl,fun L _ hl=>(by rw[hrep]at hl;cases hl),fun L _ L' _ _ hl=>(by rw[hrep]at hl;cases hl),
    fun j oj _ hl=>(by rw[hrep]at hl;cases hl),by simp,fun j _=>hrep _ _⟩ (left_le n)
 rw[show n+(l.length-n)=l.toArray.size by simp;omega]at hrun;exact hrun
def phaseB (l:List Oper) (n:Nat):Bool :=
 (List.range l.length).all fun i=>match l[i]? with
   | some o=>if i<n then (o.after.all fun e=>!Region.binds .any e||decide (e.on<i))&&(match o.guard with|some g=>decide (g.1<n) | none=>true)
     else (List.range n).all fun j=>waitsB o j
   | none=>true
def heads (N n:Nat):Array Bool:=(List.replicate n true++List.replicate (N-n) false).toArray
theorem heads_getD (N n i:Nat):(heads N n).getD i false=decide (i<n):=by
 unfold heads;rw[Array.getD_eq_getD_getElem?,List.getElem?_toArray,List.getElem?_append];simp only[List.length_replicate]
 by_cases h:i<n
 · rw[if_pos h,List.getElem?_replicate,if_pos h];simp[h]
 · rw[if_neg h,List.getElem?_replicate];split<;>simp[h]
theorem bools_ext {a b:Array Bool} (hs:a.size=b.size) (h:∀ i,a.getD i false=b.getD i false):a=b:=by
 refine Array.ext hs fun i h1 h2=>?_
 have:=h i;simpa[h1,h2] using this
section
variable {P:Program} {l:List Oper} {n:Nat}
theorem phaseB_low (h:phaseB l n=true) {i:Nat} {o:Oper} (ho:l[i]?=some o) (hi:i<n):(∀ e∈o.after,Region.binds .any e=true→e.on<i)∧∀ g,o.guard=some g→g.1<n:=by
 simp only[phaseB,List.all_eq_true,List.mem_range]at h;have h2:=h i (List.getElem?_eq_some_iff.1 ho).1;rw[ho]at h2;simp only[if_pos hi,Bool.and_eq_true]at h2;refine⟨fun e he hb=>?_,fun g hg=>?_⟩
 · have:=Array.all_eq_true_iff_forall_mem.1 h2.1 e he;simpa[hb] using this
 · have h3:=h2.2;rw[hg]at h3;simpa using h3
theorem phaseB_high (h:phaseB l n=true) {i:Nat} {o:Oper} (ho:l[i]?=some o) (hi:n≤i) {j:Nat} (hj:j<n):∃ e∈o.after,Region.binds .any e=true∧e.on=j:=by
 simp only[phaseB,List.all_eq_true,List.mem_range]at h;have h2:=h i (List.getElem?_eq_some_iff.1 ho).1;rw[ho]at h2;simp only[if_neg (show ¬ i<n by omega),List.all_eq_true,List.mem_range]at h2;exact waitsB_spec (h2 j hj)
theorem upon_then {nx:Act→World→Prop} {Q:Exit→Act→World→Prop} {K:Act→World→Prop} {o:Oper} {a:Act} {r:Result Next} (h:o.upon P a K (Exit.then nx Q) r):o.upon P a K Q r:=by
 cases r with
 | ok nx w' =>
   cases nx<;>first
    | exact h
    | (refine Calls.mono h fun e w'' he=>?_
       cases e with
       | returned v=>exact he
       | panicked c=>exact he
       | outgrown=>obtain⟨a2,w2,h2⟩:=he;exact⟨a2,w2,h2⟩)
 | halt x w'=>cases x<;>exact h
theorem wpOp_then {nx:Act→World→Prop} {Q:Exit→Act→World→Prop} {K:Act→World→Prop} {i:Nat} {o:Oper} {a:Act} {w:World} (hi:i<n) (ho:l[i]?=some o) (hg:∀ g,o.guard=some g→g.1<n)
  (h:wpOp P (l.take n).toArray (Exit.then nx Q) i K a w):wpOp P l.toArray Q i K a w:=by
 have e1:(l.take n).toArray[i]?=some o:=by rw[List.getElem?_toArray,List.getElem?_take,if_pos hi];exact ho
 have e2:l.toArray[i]?=some o:=by rw[List.getElem?_toArray];exact ho
 unfold wpOp at h ⊢;rw[e1]at h;rw[e2];simp only at h ⊢
 have hw:Region.wanted o (yielded l.toArray a.tmps)=Region.wanted o (yielded (l.take n).toArray a.tmps):=by
  unfold Region.wanted
  cases hgd:o.guard with
  | none=>rfl
  | some g =>
    have hlt:=hg g hgd;simp only[yielded,List.getElem?_toArray,List.getElem?_take,if_pos hlt]
 rw[hw];split
 · rename_i hwt
   rw[if_pos hwt]at h
   rcases h with h|⟨h1,a2,w2,h2⟩
   · exact Or.inl (upon_then h)
   · exact Or.inr ⟨h1,a2,w2,h2⟩
 · rename_i hwt
   rw[if_neg hwt]at h;exact h
end
section
variable {P:Program} {l:List Oper} {n:Nat}
theorem ready_low {listed small:Array Bool} (hP:phaseB l n=true) (hn:n≤l.length) (hs:small.size=n) (hz:listed.size=l.length) (hsame:∀ i,i<n→listed.getD i false=small.getD i false) {j0:Nat} (hj0:j0<n) (hl0:small.getD j0 false=false) (i:Nat) :
  i∈Region.ready .any l.toArray listed↔i∈Region.ready .any (l.take n).toArray small:=by
 rw[mem_ready,mem_ready]
 by_cases hi:i<n
 · have e1:listed.getD i true=small.getD i true:=by
    rw[getD_both' (by omega),getD_both' (by omega)];exact hsame i hi
   rw[e1];refine and_congr Iff.rfl ⟨fun⟨o,ho,hall⟩=>⟨o,?_,fun e he hb=>?_⟩,fun⟨o,ho,hall⟩=>⟨o,?_,fun e he hb=>?_⟩⟩
   · rw[List.getElem?_toArray]at ho ⊢;rw[List.getElem?_take,if_pos hi];exact ho
   · rw[List.getElem?_toArray]at ho;rw[← hsame e.on (by have:=(phaseB_low hP ho hi).1 e he hb;omega)];exact hall e he hb
   · rw[List.getElem?_toArray]at ho ⊢;rw[List.getElem?_take,if_pos hi]at ho;exact ho
   · rw[List.getElem?_toArray,List.getElem?_take,if_pos hi]at ho;rw[hsame e.on (by have:=(phaseB_low hP ho hi).1 e he hb;omega)];exact hall e he hb
 · refine⟨fun⟨_,o,ho,hall⟩=>?_,fun⟨_,o,ho,_⟩=>?_⟩
   · rw[List.getElem?_toArray]at ho;obtain⟨e,he,hb,hon⟩:=phaseB_high hP ho (by omega) hj0;have:=hall e he hb;rw[hon,hsame j0 hj0,hl0]at this
     cases this
   · rw[List.getElem?_toArray,List.getElem?_take,if_neg hi]at ho
     cases ho
theorem some_low (hP:phaseB l n=true) (hn:n≤l.length) {small:Array Bool} (hs:small.size=n):∀ (d i:Nat),i<n→i=d→small.getD i false=false→∃ j,j∈Region.ready .any (l.take n).toArray small:=by
 intro d
 induction d using Nat.strongRecOn with
 | _ d ih =>
   intro i hi hd hl;obtain⟨o,ho⟩:∃ o,l[i]?=some o:=⟨l[i],List.getElem?_eq_getElem (by omega)⟩
   by_cases hall:∀ e∈o.after,Region.binds .any e=true→small.getD e.on false=true
   · refine⟨i,mem_ready.2 ⟨?_,o,?_,hall⟩⟩
     · rw[getD_both' (by omega)];exact hl
     · rw[List.getElem?_toArray,List.getElem?_take,if_pos hi];exact ho
   · have:∃ e∈o.after,Region.binds .any e=true∧small.getD e.on false=false:=by
      apply Classical.byContradiction
      intro hno
      exact hall fun e he hb=>by
       cases hx:small.getD e.on false with
       | true=>rfl
       | false=>exact absurd ⟨e,he,hb,hx⟩ hno
     obtain⟨e,he,hb,hx⟩:=this;have hlt:=(phaseB_low hP ho hi).1 e he hb;exact ih e.on (by omega) e.on (by omega) rfl hx
theorem wpAny_phase {Q:Exit→Act→World→Prop} (hP:phaseB l n=true) (hn:n≤l.length) :
  ∀ (f:Nat) (listed small:Array Bool) (a:Act) (w:World),small.size=n→listed.size=l.length→(∀ i,i<n→listed.getD i false=small.getD i false)→(∀ i,n≤i→listed.getD i false=false) →
   wpAny P .any (l.take n).toArray (Exit.then (fun a w=>wpAny P .any l.toArray Q (l.length-n) (heads l.length n) a w) Q) f small a w→wpAny P .any l.toArray Q (f+(l.length-n)) listed a w:=by
 have hdone:∀ (f:Nat) (listed small:Array Bool) (a:Act) (w:World),small.size=n→listed.size=l.length→(∀ i,i<n→listed.getD i false=small.getD i false)→(∀ i,n≤i→listed.getD i false=false) →
   Region.ready .any (l.take n).toArray small=[]→wpAny P .any l.toArray Q (l.length-n) (heads l.length n) a w→wpAny P .any l.toArray Q (f+(l.length-n)) listed a w:=fun f listed small a w hs hz hsame htail hr h=>by
  have hall:∀ i,i<n→small.getD i false=true:=fun i hi=>by
   cases hx:small.getD i false with
   | true=>rfl
   | false =>
     obtain⟨j,hj⟩:=some_low hP hn hs i i hi rfl hx;rw[hr]at hj;cases hj
  have e:listed=heads l.length n:=bools_ext (by rw[hz];unfold heads;simp;omega) fun i=>by
   rw[heads_getD]
   by_cases hi:i<n
   · rw[hsame i hi,hall i hi];simp[hi]
   · rw[htail i (by omega)];simp[hi]
  rw[e];exact wpAny_moreL h f
 intro f
 induction f with
 | zero =>
   intro listed small a w hs hz hsame htail h;exact hdone 0 listed small a w hs hz hsame htail h.1 h.2
 | succ f ih =>
   intro listed small a w hs hz hsame htail h
   by_cases hr:Region.ready .any (l.take n).toArray small=[]
   · exact hdone _ listed small a w hs hz hsame htail hr (h.1 hr)
   · have hex:∃ j,j<n∧small.getD j false=false:=by
      apply Classical.byContradiction
      intro hno;refine hr (List.eq_nil_iff_forall_not_mem.2 fun j hj=>?_);obtain⟨h1,o,ho,_⟩:=mem_ready.1 hj
      have hjn:j<n:=by
       have:=(Array.getElem?_eq_some_iff.1 ho).1;simp at this;omega
      rw[getD_both' (by omega)]at h1;exact hno ⟨j,hjn,h1⟩
     obtain⟨j0,hj0,hl0⟩:=hex;have hrl:=ready_low hP hn hs hz hsame hj0 hl0;rw[show f+1+(l.length-n)=(f+(l.length-n))+1 by omega];refine⟨fun hnil=>?_,fun i hi=>?_⟩
     · refine absurd (List.eq_nil_iff_forall_not_mem.2 fun j hj=>?_) hr;have:=(hrl j).2 hj;rw[hnil]at this;cases this
     · have hi':=(hrl i).1 hi;obtain⟨_,o,ho,_⟩:=mem_ready.1 hi'
       have hin:i<n:=by
        have:=(Array.getElem?_eq_some_iff.1 ho).1;simp at this;omega
       rw[List.getElem?_toArray,List.getElem?_take,if_pos hin]at ho;refine wpOp_then hin ho (phaseB_low hP ho hin).2 (wpOp_mono (fun a' w' h'=>ih _ (small.setIfInBounds i true) a' w' (by simpa using hs) (by simpa using hz) (fun j hj=>?_) (fun j hj=>?_) h') (h.2 i hi'))
       · by_cases hji:i=j
         · subst hji
           have h1:i<listed.size:=by omega
           have h2:i<small.size:=by omega
           simp[h1,h2]
         · rw[getD_set_ne false hji,getD_set_ne false hji];exact hsame j hj
       · rw[getD_set_ne false (by omega)];exact htail j hj
end
theorem wp_region_phase {P:Program} {id:Nat} {Q:Exit→Act→World→Prop} {a:Act} {w:World} {l hl:List Oper} (n:Nat) (cl:List Loose) (hm:P.follows .mixedOrders=true)
  (hP:phaseB l n=true) (hn:decide (n≤l.length)=true) (hhl:headL cl n 0 (l.take n)=hl) (hB:Region.lexB .any hl.toArray=true) (hL:looseB (l.take n).toArray n cl=true) (hN:nodupB cl=true) (hsz:(cl.all fun L=>decide (L.d<a.tmps.size))=true)
  (h : wpQuiet P hl.toArray (fun w'=>∃ m,w'=grow w m) (fun aq=>(∀ (V:Nat→Value) (m:Ext w),obsL P (l.take n) V (grow w m) (fill V cl aq) cl cl) ∧
    ∀ (V:Nat→Value) (m:Ext w),lawsL V (grow w m) cl→distL V cl→wpAny P .any l.toArray Q (l.length-n) (heads l.length n) (fill V cl aq) (grow w m)) hl a):(Code.region id l.toArray true).wp P Q a w:=by
 have hn':n≤l.length:=by simpa using hn
 refine wp_region_any hm ?_
 have hrep:∀ (m i:Nat),(Array.replicate m false).getD i false=false:=fun m i=>by by_cases h:i<m<;>simp[h]
 have h1:=wpAny_loose (P:=P) (Q:=Exit.then (fun a w=>wpAny P .any l.toArray Q (l.length-n) (heads l.length n) a w) Q) (a:=a) (w:=w) (l:=l.take n) n cl hhl hB hL hN hsz (by
  have hnil:(l.take n).drop n=[]:=List.drop_eq_nil_of_le (by rw[List.length_take];omega);rw[hnil]
  exact h)
 have hsz1:(l.take n).toArray.size=n:=by simp;omega
 rw[hsz1]at h1;have h2:=wpAny_phase (P:=P) (Q:=Q) hP hn' n (Array.replicate l.toArray.size false) (Array.replicate n false) a { w with drawn:=w.drawn+1 } (by simp) (by simp) (fun i _=>by rw[hrep,hrep]) (fun i _=>hrep _ _) h1;rwa [show n+(l.length-n)=l.toArray.size by simp;omega]at h2
end Go.Proofs.YtnbkbenkhkinoaaGreatDoor
