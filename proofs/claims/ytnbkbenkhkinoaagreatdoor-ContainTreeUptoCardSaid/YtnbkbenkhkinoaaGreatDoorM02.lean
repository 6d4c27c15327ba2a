/- Of my texts: Grow, Loose. -/
import Derived.WalkKit
import Derived.WalkSpells
import Derived.WalkLawsBesides
import Derived.BigQuiet
import Derived.Lib.Hide
namespace Go.Proofs.YtnbkbenkhkinoaaGreatDoor
set_option linter.unusedVariables false
set_option linter.unusedSimpArgs false
open Go.RowKit
def Ext (w:World):Type:={ w':World // Below w.heap.size w w' }
instance Ext.some (w:World):Nonempty (Ext w):=⟨⟨w,Below.refl _ _⟩⟩
def grow (w:World) (n:Ext w):World:=n.val
section
variable {w:World} (n:Ext w)
theorem grow_below:Below w.heap.size w (grow w n):=n.property
theorem grow_size:w.heap.size≤(grow w n).heap.size:=n.property.size
@[go_sem] theorem cell_grow {a:Addr} (h:a.block<w.heap.size):(grow w n).cell? a=w.cell? a:=n.property.cell h
@[go_sem] theorem frozen_grow {a:Addr} (h:a.block<w.heap.size):(grow w n).frozen? a=w.frozen? a:=n.property.frozen h
@[go_sem] theorem lt_grow {k:Nat} (h:k<w.heap.size):(k<(grow w n).heap.size)=True:=eq_true (Nat.lt_of_lt_of_le h (grow_size n))
@[go_sem] theorem tape_grow:(grow w n).tape=w.tape:=n.property.tape
end
def Ext.trans {w:World} (n:Ext w) (m:Ext (grow w n)):Ext w:=⟨m.val,n.property.trans (m.property.mono n.property.size)⟩
@[go_sem] theorem grow_grow {w:World} (n:Ext w) (m:Ext (grow w n)):grow (grow w n) m=grow w (n.trans m):=rfl
theorem below_grow {w w1:World} (h:Below w.heap.size w w1) (n:Ext w1):Below w.heap.size w (grow w1 n):=h.trans ((grow_below n).mono h.size)
theorem below_box (w:World) (o:Obj):Below w.heap.size w (w.alloc o):=(Below.refl _ _).alloc (Nat.le_refl _) o
theorem grow_mk {w w':World} (h:Below w.heap.size w w'):∃ n,w'=grow w n:=⟨⟨w',h⟩,rfl⟩
theorem calls_grow {P:Program} {f:FuncId} {args:Array Value} {w:World} {n:Ext w} {v:Value}
  (h:Calls P f args (grow w n) fun e w'=>e=.returned v∧Below (grow w n).heap.size (grow w n) w') :
  Calls P f args (grow w n) fun e w''=>e=.returned v∧∃ m,w''=grow w m :=
 h.mono fun _ _ ⟨he,hb⟩=>⟨he,grow_mk ((grow_below n).trans (hb.mono (grow_size n)))⟩
theorem calls_grow_same {P:Program} {f:FuncId} {args:Array Value} {w:World} {n:Ext w} {v:Value}
  (h:Calls P f args (grow w n) fun e w'=>e=.returned v∧grow w n=w') :
  Calls P f args (grow w n) fun e w''=>e=.returned v∧∃ m,w''=grow w m :=
 h.mono fun _ _ ⟨he,hb⟩=>⟨he,n,hb.symm⟩
theorem wp_region_grow {P:Program} {id:Nat} {Q:Exit→Act→World→Prop} {a:Act} {w:World} {l:List Oper} (hm:P.follows .mixedOrders=true) (hB:Region.lexB .any l.toArray=true)
  (h:wpQuiet P l.toArray (fun w'=>∃ n,w'=grow w n) (fun a'=>∀ w',(∃ n,w'=grow w n)→Q .normal a' w') l a):(Code.region id l.toArray true).wp P Q a w :=
 wp_region_quiet (C:=fun w'=>∃ n,w'=grow w n) hm hB (grow_mk (Below.refl _ _).drew) (by simpa using h)
def hush (o:Oper):Oper:={ o with dst:=none,op:=.move (.const undef),guard:=none }
def lastB (ops:Array Oper) (n:Nat):Bool :=
 decide (n<ops.size)&&(List.range ops.size).all fun i=>match ops[i]? with
  | some o=>(o.after.all fun e=>!Region.binds .any e||decide (e.on<i))&&(match o.guard with|some g=>decide (g.1<n)&&decide (i<n) | none=>true) &&
     (decide (i<n)||(List.range i).all fun j=>(List.range (i+1)).any fun k=>decide (j<k)&&match ops[k]? with
       | some ok=>ok.after.any fun e=>Region.binds .any e&&e.on==j
       | none=>false)
  | none=>false
section
variable {P:Program} {ops ops':Array Oper} {n:Nat} {C:World→Prop}
theorem lastB_size (h:lastB ops n=true):n<ops.size:=by
 simp only[lastB,Bool.and_eq_true,decide_eq_true_eq]at h;exact h.1
theorem lastB_at (h:lastB ops n=true) {i:Nat} {o:Oper} (ho:ops[i]?=some o) :
  (∀ e∈o.after,Region.binds .any e=true→e.on<i)∧(∀ g,o.guard=some g→g.1<n∧i<n)∧(n≤i→∀ j,j<i→∃ k ok,j<k∧k≤i∧ops[k]?=some ok∧∃ e∈ok.after,Region.binds .any e=true∧e.on=j):=by
 simp only[lastB,Bool.and_eq_true,decide_eq_true_eq,List.all_eq_true,List.mem_range]at h;have hi:i<ops.size:=(Array.getElem?_eq_some_iff.1 ho).1;have h2:=h.2 i hi;rw[ho]at h2;simp only[Bool.and_eq_true]at h2;refine⟨fun e he hb=>?_,fun g hg=>?_,fun hin j hj=>?_⟩
 · have:=Array.all_eq_true_iff_forall_mem.1 h2.1.1 e he;simpa[hb] using this
 · have:=h2.1.2;rw[hg]at this;simpa using this
 · have:=h2.2
   have hlt:decide (i<n)=false:=by simp;omega
   rw[hlt]at this;simp only[Bool.false_or,List.all_eq_true,List.mem_range]at this;obtain⟨k,hk,hk2⟩:=List.any_eq_true.1 (this j hj);simp only[Bool.and_eq_true,decide_eq_true_eq]at hk2
   cases hok:ops[k]? with
   | none=>rw[hok]at hk2;cases hk2.2
   | some ok =>
     rw[hok]at hk2;obtain⟨e,he,hb⟩:=Array.any_eq_true'.1 hk2.2;simp only[Bool.and_eq_true,beq_iff_eq]at hb;exact⟨k,ok,hk2.1,by have:=List.mem_range.1 hk;omega,hok,e,he,hb.1,hb.2⟩
def Closed (ops:Array Oper) (listed:Array Bool):Prop:=∀ j oj,ops[j]?=some oj→listed.getD j false=true→∀ e∈oj.after,Region.binds .any e=true→listed.getD e.on false=true
theorem all_come (hB:lastB ops n=true) {listed:Array Bool} (hC:Closed ops listed) {i:Nat} {oi:Oper} (hi:n≤i) (hoi:ops[i]?=some oi) (hall:∀ e∈oi.after,Region.binds .any e=true→listed.getD e.on false=true) :
  ∀ (d j:Nat),i-j=d→j<i→listed.getD j false=true:=by
 intro d
 induction d using Nat.strongRecOn with
 | _ d ih =>
   intro j hd hj;obtain⟨k,ok,hjk,hki,hok,e,he,hb,hon⟩:=(lastB_at hB hoi).2.2 hi j hj
   by_cases hk:k=i
   · subst hk;have:ok=oi:=Option.some.inj (hok.symm.trans hoi);subst this;have h:=hall e he hb;rwa [hon]at h
   · have h1:=ih (i-k) (by omega) k rfl (by omega);have h:=hC k ok hok h1 e he hb;rwa [hon]at h
theorem Closed.set {listed:Array Bool} (hC:Closed ops listed) {i:Nat} (hi:i∈Region.ready .any ops listed):Closed ops (listed.setIfInBounds i true):=by
 obtain⟨_,oi,hoi,hall⟩:=mem_ready.1 hi;intro j oj hj hl e he hb
 by_cases hij:i=j
 · subst hij;have:oj=oi:=Option.some.inj (hj.symm.trans hoi);subst this;exact getD_set_true (hall e he hb)
 · rw[getD_set_ne false hij]at hl;exact getD_set_true (hC j oj hj hl e he hb)
def headOf (l:List Oper) (n:Nat) (o:Oper):List Oper:=l.take n++[hush o]
theorem head_get {l:List Oper} (o:Oper) (ho:l[n]?=some o) (i:Nat):(headOf l n o).toArray[i]?=if i<n then l.toArray[i]? else if i=n then some (hush o) else none:=by
 have hn:n<l.length:=(List.getElem?_eq_some_iff.1 ho).1
 have ht:(l.take n).length=n:=by simp;omega
 unfold headOf;simp only[List.getElem?_toArray]
 by_cases h:i<n
 · rw[if_pos h,List.getElem?_append_left (by omega),List.getElem?_take,if_pos h]
 · rw[if_neg h,List.getElem?_append_right (by omega),ht]
   by_cases h2:i=n
   · subst h2;simp
   · rw[if_neg h2,List.getElem?_eq_none];simp;omega
structure Agree (ops:Array Oper) (n:Nat) (big small:Array Bool):Prop where
 size:big.size=ops.size
 size':small.size=n+1
 same:∀ i,i≤n→big.getD i false=small.getD i false
 tail:∀ i,n≤i→big.getD i false=false
 closed:Closed ops big
theorem getD_both' {l:Array Bool} {i:Nat} (h:i<l.size):l.getD i true=l.getD i false:=by simp[h]
theorem head_ready {l:List Oper} (o:Oper) (ho:l[n]?=some o) (hB:lastB l.toArray n=true) {big small:Array Bool} (hA:Agree l.toArray n big small) (i:Nat) :
  i∈Region.ready .any l.toArray big↔i∈Region.ready .any (headOf l n o).toArray small:=by
 have hn:=lastB_size hB;rw[mem_ready,mem_ready,head_get o ho]
 by_cases h:i<n
 · rw[if_pos h]
   have e1:big.getD i true=small.getD i true:=by
    rw[getD_both' (by rw[hA.size];omega),getD_both' (by rw[hA.size'];omega)];exact hA.same i (by omega)
   rw[e1];refine and_congr Iff.rfl ⟨fun⟨oi,hoi,hall⟩=>⟨oi,hoi,fun e he hb=>?_⟩,fun⟨oi,hoi,hall⟩=>⟨oi,hoi,fun e he hb=>?_⟩⟩
   · rw[← hA.same e.on (by have:=(lastB_at hB hoi).1 e he hb;omega)];exact hall e he hb
   · rw[hA.same e.on (by have:=(lastB_at hB hoi).1 e he hb;omega)];exact hall e he hb
 · rw[if_neg h]
   by_cases h2:i=n
   · subst h2
     have e1:big.getD i true=small.getD i true:=by
      rw[getD_both' (by rw[hA.size];omega),getD_both' (by rw[hA.size'];omega)];exact hA.same i (by omega)
     rw[e1,if_pos rfl]
     have ho':l.toArray[i]?=some o:=by simpa using ho
     simp only[ho',Option.some.injEq,exists_eq_left',hush];refine and_congr Iff.rfl ⟨fun hall e he hb=>?_,fun hall e he hb=>?_⟩
     · rw[← hA.same e.on (by have:=(lastB_at hB ho').1 e he hb;omega)];exact hall e he hb
     · rw[hA.same e.on (by have:=(lastB_at hB ho').1 e he hb;omega)];exact hall e he hb
   · rw[if_neg h2];refine⟨fun⟨h3,oi,hoi,hall⟩=>?_,fun⟨_,oi,hoi,_⟩=>by cases hoi⟩;have:=all_come hB hA.closed (show n≤i by omega) hoi hall _ n rfl (by omega);rw[hA.tail n (Nat.le_refl _)]at this
     cases this
theorem some_ready (hB:lastB ops n=true) (listed:Array Bool) (hsz:listed.size=ops.size):∀ (d i:Nat),i<ops.size→i=d→listed.getD i false=false→∃ j,j∈Region.ready .any ops listed:=by
 intro d
 induction d using Nat.strongRecOn with
 | _ d ih =>
   intro i hi hd hl;obtain⟨o,ho⟩:∃ o,ops[i]?=some o:=⟨ops[i],Array.getElem?_eq_getElem hi⟩
   by_cases hall:∀ e∈o.after,Region.binds .any e=true→listed.getD e.on false=true
   · refine⟨i,mem_ready.2 ⟨?_,o,ho,hall⟩⟩;rw[getD_both' (by omega)];exact hl
   · have:∃ e∈o.after,Region.binds .any e=true∧listed.getD e.on false=false:=by
      apply Classical.byContradiction
      intro hno
      exact hall fun e he hb=>by
       cases hx:listed.getD e.on false with
       | true=>rfl
       | false=>exact absurd ⟨e,he,hb,hx⟩ hno
     obtain⟨e,he,hb,hx⟩:=this;have hlt:=(lastB_at hB ho).1 e he hb;exact ih e.on (by omega) e.on (by omega) rfl hx
theorem head_wanted {l:List Oper} (o:Oper) (ho:l[n]?=some o) (hB:lastB l.toArray n=true) {i:Nat} {oi:Oper} (hi:l.toArray[i]?=some oi) (tmps:Array Value) :
  Region.wanted oi (yielded (headOf l n o).toArray tmps)=Region.wanted oi (yielded l.toArray tmps):=by
 have hg:=(lastB_at hB hi).2.1;unfold Region.wanted
 cases h:oi.guard with
 | none=>rfl
 | some g =>
   have:=(hg g h).1;simp only[yielded,head_get o ho,this,if_true]
theorem wpAny_chain {Q':Exit→Act→World→Prop} (hB:lastB ops n=true):∀ (l:List Oper) (k:Nat) (listed:Array Bool) (a:Act) (w:World),(∀ j,l[j]?=ops[k+j]?)→n≤k→listed.size=ops.size →
  (∀ j,j<k→j<ops.size→listed.getD j false=true)→(∀ j,k≤j→listed.getD j false=false)→wpList P ops Q' l a w→wpAny P .any ops Q' l.length listed a w
 | [],k,listed,a,w,hl,hk,hsz,hyes,hno,h=>by
   have hks:ops.size≤k:=by
    rcases Nat.lt_or_ge k ops.size with h1 | h1
    · have:=hl 0;rw[Nat.add_zero,Array.getElem?_eq_getElem h1]at this
      cases this
    · exact h1
   refine⟨List.eq_nil_iff_forall_not_mem.2 fun j hj=>?_,h⟩;obtain⟨h1,oj,hoj,_⟩:=mem_ready.1 hj;have hjs:j<ops.size:=(Array.getElem?_eq_some_iff.1 hoj).1;rw[getD_both' (by omega),hyes j (by omega) hjs]at h1
   cases h1
 | o::l,k,listed,a,w,hl,hk,hsz,hyes,hno,h=>by
   have h0:ops[k]?=some o:=by simpa using (hl 0).symm
   have hks:k<ops.size:=(Array.getElem?_eq_some_iff.1 h0).1
   have hone:∀ i∈Region.ready .any ops listed,i=k:=fun i hi=>by
    obtain⟨h1,oi,hoi,hall⟩:=mem_ready.1 hi;have his:i<ops.size:=(Array.getElem?_eq_some_iff.1 hoi).1;rw[getD_both' (by omega)]at h1
    have hik:k≤i:=by
     rcases Nat.lt_or_ge i k with h2 | h2
     · rw[hyes i h2 his]at h1;cases h1
     · exact h2
    rcases Nat.eq_or_lt_of_le hik with h2 | h2
    · exact h2.symm
    · have hcl:Closed ops listed:=fun j oj hj hlj e he hb=>by
       have h3:=(lastB_at hB hj).1 e he hb;have hjs:j<ops.size:=(Array.getElem?_eq_some_iff.1 hj).1
       rcases Nat.lt_or_ge j k with h4 | h4
       · exact hyes e.on (by omega) (by omega)
       · rw[hno j h4]at hlj;cases hlj
      have:=all_come hB hcl (show n≤i by omega) hoi hall _ k rfl h2;rw[hno k (Nat.le_refl _)]at this
      cases this
   refine⟨fun hnil=>?_,fun i hi=>?_⟩
   · obtain⟨j,hj⟩:=some_ready hB listed hsz k k hks rfl (hno k (Nat.le_refl _));rw[hnil]at hj;cases hj
   · have hik:=hone i hi;subst hik
     have hw:wpOp P ops Q' i (wpList P ops Q' l) a w:=by unfold wpOp;simp only[h0];exact h
     refine wpOp_mono (fun a' w' h'=>wpAny_chain hB l (i+1) _ a' w' (fun j=>by have:=hl (j+1);simpa[Nat.add_assoc,Nat.add_comm 1 j] using this) (by omega) (by simpa using hsz) (fun j hj hjs=>?_) (fun j hj=>?_) h') hw
     · by_cases hji:j=i
       · subst hji;have:j<listed.size:=by omega
         simp[this]
       · rw[getD_set_ne false (Ne.symm hji)];exact hyes j (by omega) hjs
     · rw[getD_set_ne false (by omega)];exact hno j (by omega)
theorem wpAny_last {Q':Exit→Act→World→Prop} {l:List Oper} (o:Oper) (ho:l[n]?=some o) (hB:lastB l.toArray n=true) :
  ∀ (f:Nat) (big small:Array Bool) (a:Act) (w:World),C w→Agree l.toArray n big small→big.getD n false=false →
   (∀ i,i<n→big.getD i false=true∨big.getD i false=false) →
   wpAnyQ P .any (headOf l n o).toArray C (fun a'=>∀ w',C w'→wpList P l.toArray Q' (l.drop n) a' w') f small a→wpAny P .any l.toArray Q' (f+(l.length-n-1)) big a w:=by
 have hn:n<l.length:=by simpa using lastB_size hB
 have ho':l.toArray[n]?=some o:=by simpa using ho
 have hne:∀ big small:Array Bool,Agree l.toArray n big small→Region.ready .any (headOf l n o).toArray small≠[]:=fun big small hA h0=>by
  obtain⟨j,hj⟩:=some_ready hB big hA.size n n (by simpa using hn) rfl (hA.tail n (Nat.le_refl _));rw[head_ready o ho hB hA,h0]at hj
  cases hj
 intro f
 induction f with
 | zero =>
   intro big small a w _ hA _ _ h;exact absurd h.1 (hne _ _ hA)
 | succ f ih =>
   intro big small a w hC hA hl hall2 h;rw[show f+1+(l.length-n-1)=(f+(l.length-n-1))+1 by omega];refine⟨fun h0=>?_,fun i hi=>?_⟩
   · obtain⟨j,hj⟩:=some_ready hB big hA.size n n (by simpa using hn) rfl (hA.tail n (Nat.le_refl _));rw[h0]at hj;cases hj
   have hi':=(head_ready o ho hB hA i).1 hi;have hq:=h.2 i hi'
   by_cases hin:i=n
   · subst hin
     -- all of the head has come up
     have hyes:∀ j,j<i→big.getD j false=true:=fun j hj=>by
      obtain⟨_,o2,ho2,hall⟩:=mem_ready.1 hi;have:o2=o:=Option.some.inj (ho2.symm.trans ho');subst this;exact all_come hB hA.closed (Nat.le_refl _) ho' hall _ j rfl hj
     have hdone':Region.ready .any (headOf l i o).toArray (small.setIfInBounds i true)=[]:=by
      refine List.eq_nil_iff_forall_not_mem.2 fun j hj=>?_
      obtain⟨h1,oj,hoj,_⟩:=mem_ready.1 hj;rw[head_get o ho]at hoj
      by_cases hji:j=i
      · subst hji
        have:j<small.size:=by rw[hA.size'];omega
        simp[this]at h1
      · have hjlt:j<i:=by
         rcases Nat.lt_or_ge j i with h2 | h2
         · exact h2
         · rw[if_neg (by omega),if_neg hji]at hoj;cases hoj
        rw[getD_set_ne true (Ne.symm hji),getD_both' (by rw[hA.size'];omega),← hA.same j (by omega),hyes j hjlt]at h1
        cases h1
     have hlast:wpList P l.toArray Q' (l.drop i) a w:=by
      have hq2:wpAnyQ P .any (headOf l i o).toArray C (fun a'=>∀ w',C w'→wpList P l.toArray Q' (l.drop i) a' w') f (small.setIfInBounds i true) a:=by
       unfold qOp at hq;rw[head_get o ho,if_neg (Nat.lt_irrefl _),if_pos rfl]at hq;simp only[hush,Region.wanted,if_true]at hq;obtain⟨v,_,hv⟩:=hq;exact hv
      cases f with
      | zero=>exact hq2.2 w hC
      | succ f=>exact hq2.1 hdone' w hC
     have hdrop:l.drop i=o::l.drop (i+1):=by
      rw[List.drop_eq_getElem_cons hn]
      congr 1
      exact Option.some.inj ((List.getElem?_eq_getElem hn).symm.trans ho)
     rw[hdrop]at hlast
     have hw:wpOp P l.toArray Q' i (wpList P l.toArray Q' (l.drop (i+1))) a w:=by unfold wpOp;simp only[ho'];exact hlast
     refine wpOp_mono (fun a' w' h'=>?_) hw;have hch:=wpAny_chain (P:=P) (Q':=Q') hB (l.drop (i+1)) (i+1) (big.setIfInBounds i true) a' w' (fun j=>by simp[List.getElem?_drop]) (by omega) (by simpa using hA.size) (fun j hj hjs=>?_) (fun j hj=>?_) h'
     · have hlen:(l.drop (i+1)).length=l.length-i-1:=by simp;omega
       rw[hlen]at hch;exact wpAny_more hch
     · by_cases hji:j=i
       · subst hji;have:j<big.size:=by rw[hA.size];omega
         simp[this]
       · rw[getD_set_ne false (Ne.symm hji)];exact hyes j (by omega)
     · rw[getD_set_ne false (by omega)];exact hA.tail j (by omega)
   · have hilt:i<n:=by
      obtain⟨_,oj,hoj,_⟩:=mem_ready.1 hi';rw[head_get o ho]at hoj
      rcases Nat.lt_or_ge i n with h2 | h2
      · exact h2
      · rw[if_neg (by omega),if_neg hin]at hoj;cases hoj
     have hget:(headOf l n o).toArray[i]?=l.toArray[i]?:=by rw[head_get o ho,if_pos hilt]
     refine wpOp_of_qOp (C:=C) (K:=wpAnyQ P .any (headOf l n o).toArray C (fun a'=>∀ w',C w'→wpList P l.toArray Q' (l.drop n) a' w') f (small.setIfInBounds i true)) hC (fun a' w' hC' h4=>ih _ _ a' w' hC' ⟨by simpa using hA.size,by simpa using hA.size',fun j hj=>?_,fun j hj=>by rw[getD_set_ne false (by omega)];exact hA.tail j hj,hA.closed.set hi⟩ (by rw[getD_set_ne false hin];exact hl) (fun j _=>by cases (big.setIfInBounds i true).getD j false<;>simp) h4) ?_
     · by_cases hji:i=j
       · subst hji
         have h1:i<big.size:=by rw[hA.size];simp;omega
         have h2:i<small.size:=by rw[hA.size'];omega
         simp[h1,h2]
       · rw[getD_set_ne false hji,getD_set_ne false hji];exact hA.same j hj
     · unfold qOp at hq ⊢;rw[hget]at hq
       cases hx:l.toArray[i]? with
       | none=>rw[hx]at hq;exact hq
       | some oi =>
         rw[hx]at hq;simp only at hq ⊢;rw[← head_wanted o ho hB hx];exact hq
where
 wpAny_more {Q':Exit→Act→World→Prop} {ops:Array Oper} {g f:Nat} {listed:Array Bool} {a:Act} {w:World} (h:wpAny P .any ops Q' g listed a w):wpAny P .any ops Q' (f+g) listed a w:=by
  induction f with
  | zero=>rwa [Nat.zero_add]
  | succ f ih=>rw[show f+1+g=(f+g)+1 by omega];exact wpAny_up ih
 wpAny_up {Q':Exit→Act→World→Prop} {ops:Array Oper}:∀ {g:Nat} {listed:Array Bool} {a:Act} {w:World},wpAny P .any ops Q' g listed a w→wpAny P .any ops Q' (g+1) listed a w
  | 0,listed,a,w,h=>⟨fun _=>h.2,fun i hi=>by rw[h.1]at hi;cases hi⟩
  | g+1,listed,a,w,h=>⟨h.1,fun i hi=>wpOp_mono (fun a' w' h'=>wpAny_up h') (h.2 i hi)⟩
end
theorem wp_region_last {P:Program} {id:Nat} {Q:Exit→Act→World→Prop} {a:Act} {w:World} {l:List Oper} (n:Nat) (o:Oper) (hm:P.follows .mixedOrders=true)
  (ho:l[n]?=some o) (hB:Region.lexB .any (headOf l n o).toArray=true) (hL:lastB l.toArray n=true)
  (h:wpQuiet P (headOf l n o).toArray (fun w'=>∃ n,w'=grow w n) (fun a'=>∀ w',(∃ n,w'=grow w n)→wpList P l.toArray Q (l.drop n) a' w') (headOf l n o) a):(Code.region id l.toArray true).wp P Q a w:=by
 simp only[Region.lexB,Bool.and_eq_true]at hB
 have hn:n<l.length:=by simpa using lastB_size hL
 have hsz:(headOf l n o).toArray.size=n+1:=by simp[headOf];omega
 have hrep:∀ (m i:Nat),(Array.replicate m false).getD i false=false:=fun m i=>by by_cases h:i<m<;>simp[h]
 refine wp_region_any hm ?_
 have h1:=wpAny_last (P:=P) (Q':=Q) (C:=fun w'=>∃ n,w'=grow w n) o ho hL (headOf l n o).toArray.size (Array.replicate l.toArray.size false) (Array.replicate (headOf l n o).toArray.size false) a { w with drawn:=w.drawn+1 } (grow_mk (Below.refl _ _).drew)
  ⟨by simp,by simpa using hsz,fun i _=>by rw[hrep,hrep],fun i _=>hrep _ _,fun j oj _ hl=>by rw[hrep]at hl;cases hl⟩ (hrep _ _) (fun i _=>.inr (hrep _ _)) ?_
 · rw[hsz]at h1;rwa [show n+1+(l.length-n-1)=l.toArray.size by simp;omega]at h1
 · have:=wpAnyQ_lex (md:=.any) hB.1 (headOf l n o) 0 (Array.replicate (headOf l n o).toArray.size false) a (by simp) (by simpa using hB.2) h;simpa using this
structure Loose where
 i:Nat
 d:Tmp
 c:Option Value
 φ:Value→World→Prop
 own:Value→Option Nat
 stays:∀ v w1 w2,φ v w1→Below w1.heap.size w1 w2→φ v w2
def Loose.claim (i:Nat) (d:Tmp) (c:Value):Loose:=⟨i,d,some c,fun _ _=>True,fun _=>none,fun _ _ _ h _=>h⟩
def Loose.hush (L:Loose) (o:Oper):Oper:=match L.c with
 | some c=>{ o with op:=.move (.const c),guard:=none }
 | none=>{ o with dst:=none,op:=.move (.const undef),guard:=none }
def hushL (cl:List Loose) (k:Nat) (o:Oper):Oper:=match cl.find? (fun L=>L.i==k) with
 | none=>o
 | some L=>L.hush o
def headL (cl:List Loose):Nat→Nat→List Oper→List Oper
 | 0,_,_=>[]
 | _+1,_,[]=>[]
 | n+1,k,o::l=>hushL cl k o::headL cl n (k+1) l
theorem headL_get (cl:List Loose):∀ (n k:Nat) (l:List Oper) (j:Nat),(headL cl n k l)[j]?=if j<n then (l[j]?).map (hushL cl (k+j)) else none
 | 0,_,_,_=>by simp[headL]
 | n+1,k,[],j=>by simp[headL]
 | n+1,k,o::l,0=>by simp[headL]
 | n+1,k,o::l,j+1=>by
   simp only[headL,List.getElem?_cons_succ,headL_get cl n (k+1) l j,Nat.add_lt_add_iff_right];rw[show k+1+j=k+(j+1) by omega]
def fr (dst:Nat→Option Tmp) (S:Nat→Bool) (val:Nat→Value):Nat→Act→Act
 | 0,a=>a
 | m+1,a=>if S m then (fr dst S val m a).put (dst m) (val m) else fr dst S val m a
theorem put_size (a:Act) (d:Option Tmp) (v:Value):(a.put d v).tmps.size=a.tmps.size:=by cases d<;>simp[Act.put]
theorem put_defers' (a:Act) (d:Option Tmp) (v:Value):(a.put d v).defers=a.defers:=by cases d<;>rfl
theorem put_slot (a:Act) (d:Tmp) (v:Value) (t:Nat):(a.put (some d) v).tmps[t]?=if d=t then (if t<a.tmps.size then some v else none) else a.tmps[t]?:=by
 simp only[Act.put,Array.getElem?_setIfInBounds]
 by_cases h:d=t
 · subst h;simp
 · simp[h]
theorem fr_size (dst:Nat→Option Tmp) (S:Nat→Bool) (val:Nat→Value) (a:Act):∀ m,(fr dst S val m a).tmps.size=a.tmps.size
 | 0=>rfl
 | m+1=>by
   unfold fr;split
   · rw[put_size,fr_size dst S val a m]
   · exact fr_size dst S val a m
theorem fr_defers (dst:Nat→Option Tmp) (S:Nat→Bool) (val:Nat→Value) (a:Act):∀ m,(fr dst S val m a).defers=a.defers
 | 0=>rfl
 | m+1=>by
   unfold fr;split
   · rw[put_defers',fr_defers dst S val a m]
   · exact fr_defers dst S val a m
theorem fr_slot {dst:Nat→Option Tmp} {S S':Nat→Bool} {val val':Nat→Value} {a:Act} {t:Nat}:∀ m,(∀ j,j<m→dst j=some t→S j=S' j∧(S j=true→val j=val' j))→(fr dst S val m a).tmps[t]?=(fr dst S' val' m a).tmps[t]?
 | 0,_=>rfl
 | m+1,h=>by
   have ih:=fr_slot (a:=a) m fun j hj=>h j (by omega)
   have hm:=h m (by omega);unfold fr
   cases hd:dst m with
   | none =>
     have e1:∀ (b:Act) (v:Value),b.put none v=b:=fun _ _=>rfl
     simp only[e1,ite_self];exact ih
   | some d =>
     by_cases hdt:d=t
     · subst hdt;obtain⟨h1,h2⟩:=hm hd;rw[← h1]
       cases hs:S m with
       | false=>simpa using ih
       | true=>simp only[if_true,put_slot,h2 hs,fr_size]
     · have e:∀ (b:Act) (c:Bool) (v:Value),(if c then b.put (some d) v else b).tmps[t]?=b.tmps[t]?:=fun b c v=>by
        cases c
        · rfl
        · simp[put_slot,hdt]
       rw[e,e];exact ih
theorem act_ext {a b:Act} (h1:a.defers=b.defers) (h2:∀ t:Nat,a.tmps[t]?=b.tmps[t]?):a=b:=by
 cases a;cases b
 simp only at h1 h2;rw[h1,Array.ext_getElem? h2]
theorem fr_ext {dst:Nat→Option Tmp} {S S':Nat→Bool} {val val':Nat→Value} {a:Act} {m:Nat} (h:∀ j,j<m→S j=S' j∧(S j=true→val j=val' j)):fr dst S val m a=fr dst S' val' m a :=
 act_ext (by rw[fr_defers,fr_defers]) fun _=>fr_slot m fun j hj _=>h j hj
theorem fr_dst {dst dst':Nat→Option Tmp} {S S':Nat→Bool} {val:Nat→Value} {a:Act}:∀ m,(∀ j,j<m→(S j=S' j∧dst j=dst' j)∨(dst j=none∧S' j=false))→fr dst S val m a=fr dst' S' val m a
 | 0,_=>rfl
 | m+1,h=>by
   unfold fr;rw[fr_dst m fun j hj=>h j (by omega)]
   rcases h m (by omega) with ⟨h1,h2⟩ | ⟨h1,h2⟩
   · rw[h1,h2]
   · rw[h1,h2]
     have e1:∀ (b:Act) (v:Value),b.put none v=b:=fun _ _=>rfl
     simp[e1]
theorem eval_slot {a b:Act} {t:Nat} (h:a.tmps[t]?=b.tmps[t]?):a.eval (.tmp t)=b.eval (.tmp t):=by
 simp[Act.eval,Array.getD_eq_getD_getElem?,h]
theorem exec_same {ops:Array Oper} {o:Oper} {a b:Act} (hs:∀ cs b,o.op≠.select cs b) (h:∀ t,t∈o.looksAt ops→a.tmps[t]?=b.tmps[t]?):execOp a.eval o=execOp b.eval o :=
 execOp_congr o hs fun x hx=>by
  cases x with
  | tmp t=>exact eval_slot (h t (List.mem_append_left _ (List.mem_filterMap.2 ⟨.tmp t,by simpa using hx,rfl⟩)))
  | _=>rfl
theorem wanted_same {ops ops':Array Oper} {o:Oper} {a b:Act} (hg:∀ g,o.guard=some g→(ops'[g.1]?).bind (·.dst)=(ops[g.1]?).bind (·.dst)) (h:∀ t,t∈o.looksAt ops→a.tmps[t]?=b.tmps[t]?) :
  Region.wanted o (yielded ops a.tmps)=Region.wanted o (yielded ops' b.tmps):=by
 unfold Region.wanted
 cases hgu:o.guard with
 | none=>rfl
 | some gw =>
   have e:=hg gw hgu;simp only at e
   have hy:yielded ops a.tmps gw.1=yielded ops' b.tmps gw.1:=by
    unfold yielded;rw[e]
    cases ht:(ops[gw.1]?).bind (·.dst) with
    | none=>rfl
    | some t =>
      have:=h t (by simp[Oper.looksAt,hgu,ht]);simp[this]
   simp only[hy]
def calmB (o:Oper):Bool:=match o.op with
 | .move _ | .assign _ | .pick .. | .load .. | .binOp .. | .unOp .. | .convert .. | .fieldAddr .. | .field .. | .indexAddr .. | .index .. | .extract .. | .slice .. | .box .. | .makeInterface ..=>true
 | _=>false
theorem calm_enter {o:Oper} (h:calmB o=true) {ρ:Operand→Value} {P:Program} {w w':World} {f:FuncId} {args:Array Value}:(execOp ρ o).run P w≠.ok (.enter f args) w':=by
 have key:∀ {α:Type} (s:Sem α) (g:α→Next),(∀ x,g x≠.enter f args)→(do pure (g (← s)):Sem Next).run P w≠.ok (.enter f args) w':=fun s g hg hs=>by
  rw[Sem.run_bind]at hs
  cases hr:s.run P w<;>rw[hr]at hs
  · rw[Result.andThen_ok,Sem.run_pure]at hs;exact hg _ (by injection hs)
  · cases hs
 obtain⟨dst,op,type,pos,after,guard⟩:=o
 cases op<;>simp only[calmB,Bool.false_eq_true]at h<;>simp only[execOp]
 all_goals first|exact key _ _ (fun x hx=>by cases hx) | (rw[Sem.run_pure];exact fun hh=>by cases hh)
def unkB (cl:List Loose) (k:Nat):Bool:=(cl.any fun L=>L.i==k&&L.c.isNone)
def inB (cl:List Loose) (k:Nat):Bool:=(cl.any fun L=>L.i==k)
def waitsB (o:Oper) (j:Nat):Bool:=o.after.any fun e=>Region.binds .any e&&e.on==j
def readsB (ops:Array Oper) (cl:List Loose) (n i:Nat) (o:Oper):Bool :=
 (List.range n).all fun j=>match (ops[j]?).bind (·.dst) with
   | none=>true
   | some d=>!(o.looksAt ops).contains d||(waitsB o j&&(inB cl i||!unkB cl j))
def looseB (ops:Array Oper) (n:Nat) (cl:List Loose):Bool :=
 decide (n≤ops.size) &&
 ((List.range ops.size).all fun i=>match ops[i]? with
   | some o=>(o.after.all fun e=>!Region.binds .any e||decide (e.on<i)) &&
      (match o.guard with|some g=>decide (i<n)&&decide (g.1<n)&&!inB cl g.1 | none=>true) &&
      (decide (n≤i)||(readsB ops cl n i o&&(inB cl i||calmB o))) &&
      (decide (i<n)||(List.range i).all fun j=>(List.range (i+1)).any fun k=>decide (j<k)&&match ops[k]? with
        | some ok=>waitsB ok j
        | none=>false)
   | none=>false) &&
 ((List.range n).all fun i=>(List.range i).all fun j=>match (ops[j]?).bind (·.dst) with
   | some d=>(ops[i]?).bind (·.dst) != some d
   | none=>true) &&
 (cl.all fun L=>decide (L.i<n)&&(match ops[L.i]? with|some o=>o.dst==some L.d&&(match o.op with | .select ..=>false | _=>true) | none=>false)) &&
 (cl.all fun L=>cl.all fun L'=>L.i != L'.i||L.c.isNone==L'.c.isNone)
section
variable {P:Program} {ops:Array Oper} {n:Nat} {cl:List Loose}
theorem waitsB_spec {o:Oper} {j:Nat} (h:waitsB o j=true):∃ e∈o.after,Region.binds .any e=true∧e.on=j:=by
 obtain⟨e,he,hb⟩:=Array.any_eq_true'.1 h;simp only[Bool.and_eq_true,beq_iff_eq]at hb;exact⟨e,he,hb⟩
structure LooseAt (ops:Array Oper) (n:Nat) (cl:List Loose) (i:Nat) (o:Oper):Prop where
 after:∀ e∈o.after,Region.binds .any e=true→e.on<i
 guard:∀ g,o.guard=some g→i<n∧g.1<n∧inB cl g.1=false
 reads:i<n→∀ j,j<n→∀ d,(ops[j]?).bind (·.dst)=some d→d∈o.looksAt ops→waitsB o j=true∧(inB cl i=false→unkB cl j=false)
 calm:i<n→inB cl i=false→calmB o=true
 chain:n≤i→∀ j,j<i→∃ k ok,j<k∧k≤i∧ops[k]?=some ok∧∃ e∈ok.after,Region.binds .any e=true∧e.on=j
theorem looseB_size (h:looseB ops n cl=true):n≤ops.size:=by
 simp only[looseB,Bool.and_eq_true,decide_eq_true_eq]at h;exact h.1.1.1.1
theorem looseB_at (h:looseB ops n cl=true) {i:Nat} {o:Oper} (ho:ops[i]?=some o):LooseAt ops n cl i o:=by
 simp only[looseB,Bool.and_eq_true,decide_eq_true_eq,List.all_eq_true,List.mem_range]at h;have hi:i<ops.size:=(Array.getElem?_eq_some_iff.1 ho).1;have h2:=h.1.1.1.2 i hi;rw[ho]at h2;simp only[Bool.and_eq_true]at h2;obtain⟨⟨⟨h3,h4⟩,h5⟩,h6⟩:=h2;refine⟨fun e he hb=>?_,fun g hg=>?_,fun hin j hj d hd hl=>?_,fun hin hq=>?_,fun hin j hj=>?_⟩
 · have:=Array.all_eq_true_iff_forall_mem.1 h3 e he;simpa[hb] using this
 · rw[hg]at h4;simp only[Bool.and_eq_true,decide_eq_true_eq,Bool.not_eq_true']at h4;exact⟨h4.1.1,h4.1.2,h4.2⟩
 · have hlt:decide (n≤i)=false:=by simp;omega
   rw[hlt]at h5;simp only[Bool.false_or,Bool.and_eq_true]at h5;have h7:=h5.1;simp only[readsB,List.all_eq_true,List.mem_range]at h7;have h8:=h7 j hj;rw[hd]at h8
   have hc:(o.looksAt ops).contains d=true:=by simpa using hl
   simp only[hc,Bool.not_true,Bool.false_or,Bool.and_eq_true,Bool.or_eq_true,Bool.not_eq_true']at h8;refine⟨h8.1,fun hq=>?_⟩
   rcases h8.2 with h9 | h9
   · rw[hq]at h9;cases h9
   · exact h9
 · have hlt:decide (n≤i)=false:=by simp;omega
   simp only[hlt,hq,Bool.false_or,Bool.and_eq_true]at h5;exact h5.2
 · have hlt:decide (i<n)=false:=by simp;omega
   rw[hlt]at h6;simp only[Bool.false_or,List.all_eq_true,List.mem_range]at h6;obtain⟨k,hk,hk2⟩:=List.any_eq_true.1 (h6 j hj);simp only[Bool.and_eq_true,decide_eq_true_eq]at hk2
   cases hok:ops[k]? with
   | none=>rw[hok]at hk2;cases hk2.2
   | some ok =>
     rw[hok]at hk2;exact⟨k,ok,hk2.1,by have:=List.mem_range.1 hk;omega,hok,waitsB_spec hk2.2⟩
theorem looseB_dst (h:looseB ops n cl=true) {i j:Nat} (hi:i<n) (hj:j<n) (hne:i≠j) {d:Tmp} (hd:(ops[j]?).bind (·.dst)=some d):(ops[i]?).bind (·.dst)≠some d:=by
 simp only[looseB,Bool.and_eq_true,decide_eq_true_eq,List.all_eq_true,List.mem_range]at h;have h2:=h.1.1.2
 rcases Nat.lt_or_gt_of_ne hne with hl|hl
 · intro hd';have:=h2 j hj i hl;rw[hd']at this;simp[hd]at this
 · have:=h2 i hi j hl;rw[hd]at this;simpa using this
theorem looseB_in (h:looseB ops n cl=true) {L:Loose} (hL:L∈cl):L.i<n∧∃ o,ops[L.i]?=some o∧o.dst=some L.d∧∀ cs b,o.op≠.select cs b:=by
 simp only[looseB,Bool.and_eq_true]at h;have h2:=List.all_eq_true.1 h.1.2 L hL;simp only[Bool.and_eq_true,decide_eq_true_eq]at h2;refine⟨h2.1,?_⟩;have h3:=h2.2
 cases ho:ops[L.i]? with
 | none=>rw[ho]at h3;cases h3
 | some o =>
   rw[ho]at h3;simp only[Bool.and_eq_true,beq_iff_eq]at h3;exact⟨o,rfl,h3.1,fun cs b hs=>by rw[hs]at h3;simp at h3⟩
theorem looseB_unk (h:looseB ops n cl=true) {L:Loose} (hL:L∈cl):unkB cl L.i=L.c.isNone:=by
 simp only[looseB,Bool.and_eq_true]at h;have h2:=List.all_eq_true.1 h.2 L hL;have h2:=List.all_eq_true.1 h2
 cases hc:L.c.isNone with
 | true=>exact List.any_eq_true.2 ⟨L,hL,by simp[hc]⟩
 | false =>
   apply Bool.eq_false_iff.2
   intro hu;obtain⟨L',hL',h3⟩:=List.any_eq_true.1 hu;simp only[Bool.and_eq_true,beq_iff_eq]at h3;have:=h2 L' hL';rw[h3.1,hc,h3.2]at this;simp at this
theorem calm_select {o:Oper} (h:calmB o=true) (cs:Array SelectCase) (b:Bool):o.op≠.select cs b:=fun hs=>by
 simp[calmB,hs]at h
theorem quiet_vals {C:World→Prop} {Q:Act→Prop} {hops:Array Oper} {a:Act}:∀ (rest:List Oper) (k:Nat) (q0:Nat→Value),(∀ j,rest[j]?=hops[k+j]?) →
  wpQuiet P hops C Q rest (fr (fun j=>(hops[j]?).bind (·.dst)) (fun _=>true) q0 k a) →
  ∃ q:Nat→Value,(∀ j,j<k→q j=q0 j)∧(∀ j o,k≤j→hops[j]?=some o→YieldsIn P hops C o (q j) (fr (fun j=>(hops[j]?).bind (·.dst)) (fun _=>true) q j a)) ∧
   Q (fr (fun j=>(hops[j]?).bind (·.dst)) (fun _=>true) q (k+rest.length) a)
 | [],k,q0,hl,h=>⟨q0,fun _ _=>rfl,⟨fun j o hj ho=>absurd (hl (j-k)) (by rw[show k+(j-k)=j by omega,ho];simp),h⟩⟩
 | o::rest,k,q0,hl,h=>by
   have h0:hops[k]?=some o:=by simpa using (hl 0).symm
   have hst:qOp P hops C k (wpQuiet P hops C Q rest) (fr (fun j=>(hops[j]?).bind (·.dst)) (fun _=>true) q0 k a):=by unfold qOp;simp only[h0];exact h
   obtain⟨v,hy,hK⟩:=yieldsIn_of_qOp h0 hst
   let q1:Nat→Value:=fun j=>if j=k then v else q0 j
   have e1:fr (fun j=>(hops[j]?).bind (·.dst)) (fun _=>true) q1 k a=fr (fun j=>(hops[j]?).bind (·.dst)) (fun _=>true) q0 k a:=fr_ext fun j hj=>⟨rfl,fun _=>by simp only[q1];rw[if_neg (by omega)]⟩
   have e2:fr (fun j=>(hops[j]?).bind (·.dst)) (fun _=>true) q1 (k+1) a=(fr (fun j=>(hops[j]?).bind (·.dst)) (fun _=>true) q0 k a).put o.dst v:=by
    rw[fr,if_pos rfl,e1];simp[q1,h0]
   rw[← e2]at hK;obtain⟨q,hq1,hq2,hq3⟩:=quiet_vals rest (k+1) q1 (fun j=>by have:=hl (j+1);simpa[Nat.add_assoc,Nat.add_comm 1 j] using this) hK;refine⟨q,fun j hj=>by rw[hq1 j (by omega)];simp only[q1];rw[if_neg (by omega)],fun j o' hj ho'=>?_,by rw[List.length_cons,show k+(rest.length+1)=k+1+rest.length by omega];exact hq3⟩
   by_cases hjk:j=k
   · subst hjk;have:o'=o:=Option.some.inj (ho'.symm.trans h0);subst this
     have ev:q j=v:=by rw[hq1 j (by omega)];simp[q1]
     have e3:fr (fun j=>(hops[j]?).bind (·.dst)) (fun _=>true) q j a=fr (fun j=>(hops[j]?).bind (·.dst)) (fun _=>true) q0 j a:=fr_ext fun i hi=>⟨rfl,fun _=>by rw[hq1 i (by omega)];simp only[q1];rw[if_neg (by omega)]⟩
     rw[e3,ev];exact hy
   · exact hq2 j o' (by omega) ho'
theorem wp_moved {o:Oper} {F b:Act} {w:World} {R:Value→World→Prop} {Q0 Q:Exit→Act→World→Prop} {K:Act→World→Prop} {d:Tmp} (he:execOp b.eval o=execOp F.eval o) (hd:o.dst=some d) (hlt:d<F.tmps.size)
  (hQ0:∀ e a w,e≠.normal→¬ Q0 e a w) (hk:∀ v w',R v w'→K (b.put o.dst v) w') (h:o.wp P F w (fun a' w'=>∃ v,a'=F.put o.dst v∧R v w') Q0):o.wp P b w K Q:=by
 have hinj:∀ u v,F.put o.dst u=F.put o.dst v→u=v:=fun u v huv=>by
  have:=congrArg (fun a:Act=>a.tmps[d]?) huv;simpa[hd,put_slot,hlt] using this
 unfold Oper.wp at *;rw[he];generalize (execOp F.eval o).run P w=r at *
 cases r with
 | ok nx w' =>
   cases nx<;>simp only[Oper.upon]at h ⊢
   case value u=>obtain⟨v,h1,h2⟩:=h;rw[hinj u v h1];exact hk _ _ h2
   case skip=>obtain⟨v,h1,h2⟩:=h;rw[hinj _ v h1];exact hk _ _ h2
   case defer df =>
    obtain⟨v,h1,h2⟩:=h;have:=congrArg Act.defers h1;simp[put_defers']at this
   case enter f args =>
    refine Calls.mono h fun e w'' hh=>?_
    cases e with
    | returned u=>obtain⟨v,h1,h2⟩:=hh;show K _ _;rw[hinj u v h1];exact hk _ _ h2
    | panicked c=>exact absurd hh (hQ0 _ _ _ (by simp))
    | outgrown=>obtain⟨a',w3,hh⟩:=hh;exact absurd hh (hQ0 _ _ _ (by simp))
   case row row args=>exact Rows.mono h fun u w'' ⟨v,h1,h2⟩=>by rw[hinj u v h1];exact hk _ _ h2
 | halt x w' =>
   cases x<;>simp only[Oper.upon]at h ⊢
   case panic u=>exact absurd h (hQ0 _ _ _ (by simp))
def fill (V:Nat→Value):List Loose→Act→Act
 | [],a=>a
 | L::cl,a=>match L.c with
   | none=>fill V cl (a.put (some L.d) (V L.i))
   | some _=>fill V cl a
theorem fill_is {V:Nat→Value}:∀ (cl:List Loose) (b b':Act),b.tmps.size=b'.tmps.size→b.defers=b'.defers →
  (∀ t:Nat,(∀ L∈cl,L.c=none→L.d≠t)→b.tmps[t]?=b'.tmps[t]?)→(∀ L∈cl,L.c=none→b'.tmps[L.d]?=if L.d<b'.tmps.size then some (V L.i) else none)→fill V cl b=b'
 | [],b,b',_,h2,h3,_=>act_ext h2 fun t=>h3 t fun L hL=>by cases hL
 | L::cl,b,b',h1,h2,h3,h4=>by
   unfold fill
   cases hc:L.c with
   | none =>
     refine fill_is cl _ b' (by rw[put_size,h1]) (by rw[put_defers',h2]) (fun t ht=>?_) fun L' hL'=>h4 L' (List.mem_cons_of_mem _ hL')
     rw[put_slot]
     by_cases hd:L.d=t
     · subst hd;rw[if_pos rfl,h1,h4 L (List.mem_cons_self ..) hc]
     · rw[if_neg hd]
       exact h3 t fun L' hL' hc'=>by
        rcases List.mem_cons.1 hL' with rfl|hm
        · exact hd
        · exact ht L' hm hc'
   | some c =>
     exact fill_is cl b b' h1 h2 (fun t ht=>h3 t fun L' hL' hc'=>by
      rcases List.mem_cons.1 hL' with rfl|hm
      · rw[hc]at hc';cases hc'
      · exact ht L' hm hc') fun L' hL'=>h4 L' (List.mem_cons_of_mem _ hL')
def PostL (L:Loose) (F:Act) (w:World):Exit→Act→World→Prop:=fun e a' w' =>
 e=.normal∧∃ v,a'=F.put (some L.d) v∧Below w.heap.size w w'∧L.φ v w'∧(∀ k,L.own v=some k→w.heap.size≤k∧k<w'.heap.size)∧∀ c,L.c=some c→v=c
structure LooseInv (ops:Array Oper) (n:Nat) (cl:List Loose) (q:Nat→Value) (a:Act) (w:World) (listed:Array Bool) (b:Act) (w':World) (V:Nat→Value):Prop where
 frame:b=fr (fun j=>(ops[j]?).bind (·.dst)) (fun j=>listed.getD j false) V n a
 ext:∃ m,w'=grow w m
 same:∀ j,unkB cl j=false→V j=q j
 law:∀ L∈cl,listed.getD L.i false=true→L.φ (V L.i) w'∧∀ k,L.own (V L.i)=some k→k<w'.heap.size
 apart:∀ L∈cl,∀ L'∈cl,L.i≠L'.i→listed.getD L.i false=true→listed.getD L'.i false=true→∀ k k',L.own (V L.i)=some k→L'.own (V L'.i)=some k'→k≠k'
 closed:Closed ops listed
 size:listed.size=ops.size
 tail:∀ j,n≤j→listed.getD j false=false
def left (listed:Array Bool):Nat→Nat
 | 0=>0
 | m+1=>left listed m+if listed.getD m false then 0 else 1
theorem left_set {listed:Array Bool} {i:Nat} (hi:i<listed.size) (hl:listed.getD i false=false):∀ m,left (listed.setIfInBounds i true) m+(if i<m then 1 else 0)=left listed m
 | 0=>rfl
 | m+1=>by
   have ih:=left_set hi hl m;unfold left
   by_cases him:i=m
   · subst him
     have e1:(listed.setIfInBounds i true).getD i false=true:=by simp[hi]
     rw[e1,hl];simp only[Nat.lt_irrefl,if_false,Nat.add_zero]at ih;simp[ih]
   · rw[getD_set_ne false him]
     by_cases h2:i<m
     · rw[if_pos (by omega:i<m+1)];rw[if_pos h2]at ih;omega
     · rw[if_neg (by omega:¬ i<m+1)];rw[if_neg h2]at ih;omega
theorem left_none {listed:Array Bool}:∀ m,(∀ j,j<m→listed.getD j false=true)→left listed m=0
 | 0,_=>rfl
 | m+1,h=>by unfold left;rw[left_none m fun j hj=>h j (by omega),h m (by omega)];rfl
theorem left_zero {listed:Array Bool}:∀ m,left listed m=0→∀ j,j<m→listed.getD j false=true
 | 0,_,j,hj=>by omega
 | m+1,h,j,hj=>by
   unfold left at h
   by_cases hjm:j=m
   · subst hjm
     cases hx:listed.getD j false with
     | true=>rfl
     | false=>rw[hx]at h;simp at h
   · exact left_zero m (by omega) j (by omega)
theorem left_le {listed:Array Bool}:∀ m,left listed m≤m
 | 0=>Nat.le_refl 0
 | m+1=>by unfold left;have:=left_le (listed:=listed) m;split<;>omega
theorem all_comeL (hB:looseB ops n cl=true) {listed:Array Bool} (hC:Closed ops listed) {i:Nat} {oi:Oper} (hi:n≤i) (hoi:ops[i]?=some oi) (hall:∀ e∈oi.after,Region.binds .any e=true→listed.getD e.on false=true) :
  ∀ (d j:Nat),i-j=d→j<i→listed.getD j false=true:=by
 intro d
 induction d using Nat.strongRecOn with
 | _ d ih =>
   intro j hd hj;obtain⟨k,ok,hjk,hki,hok,e,he,hb,hon⟩:=(looseB_at hB hoi).chain hi j hj
   by_cases hk:k=i
   · subst hk;have:ok=oi:=Option.some.inj (hok.symm.trans hoi);subst this;have h:=hall e he hb;rwa [hon]at h
   · have h1:=ih (i-k) (by omega) k rfl (by omega);have h:=hC k ok hok h1 e he hb;rwa [hon]at h
theorem some_readyL (hB:looseB ops n cl=true) (listed:Array Bool) (hsz:listed.size=ops.size):∀ (d i:Nat),i<ops.size→i=d→listed.getD i false=false→∃ j,j∈Region.ready .any ops listed:=by
 intro d
 induction d using Nat.strongRecOn with
 | _ d ih =>
   intro i hi hd hl;obtain⟨o,ho⟩:∃ o,ops[i]?=some o:=⟨ops[i],Array.getElem?_eq_getElem hi⟩
   by_cases hall:∀ e∈o.after,Region.binds .any e=true→listed.getD e.on false=true
   · refine⟨i,mem_ready.2 ⟨?_,o,ho,hall⟩⟩;rw[getD_both' (by omega)];exact hl
   · have:∃ e∈o.after,Region.binds .any e=true∧listed.getD e.on false=false:=by
      apply Classical.byContradiction
      intro hno
      exact hall fun e he hb=>by
       cases hx:listed.getD e.on false with
       | true=>rfl
       | false=>exact absurd ⟨e,he,hb,hx⟩ hno
     obtain⟨e,he,hb,hx⟩:=this;have hlt:=(looseB_at hB ho).after e he hb;exact ih e.on (by omega) e.on (by omega) rfl hx
theorem wpAny_chainL {Q':Exit→Act→World→Prop} (hB:looseB ops n cl=true):∀ (l:List Oper) (k:Nat) (listed:Array Bool) (a:Act) (w:World),(∀ j,l[j]?=ops[k+j]?)→n≤k→listed.size=ops.size →
  (∀ j,j<k→j<ops.size→listed.getD j false=true)→(∀ j,k≤j→listed.getD j false=false)→wpList P ops Q' l a w→wpAny P .any ops Q' l.length listed a w
 | [],k,listed,a,w,hl,hk,hsz,hyes,hno,h=>by
   have hks:ops.size≤k:=by
    rcases Nat.lt_or_ge k ops.size with h1 | h1
    · have:=hl 0;rw[Nat.add_zero,Array.getElem?_eq_getElem h1]at this
      cases this
    · exact h1
   refine⟨List.eq_nil_iff_forall_not_mem.2 fun j hj=>?_,h⟩;obtain⟨h1,oj,hoj,_⟩:=mem_ready.1 hj;have hjs:j<ops.size:=(Array.getElem?_eq_some_iff.1 hoj).1;rw[getD_both' (by omega),hyes j (by omega) hjs]at h1
   cases h1
 | o::l,k,listed,a,w,hl,hk,hsz,hyes,hno,h=>by
   have h0:ops[k]?=some o:=by simpa using (hl 0).symm
   have hks:k<ops.size:=(Array.getElem?_eq_some_iff.1 h0).1
   have hone:∀ i∈Region.ready .any ops listed,i=k:=fun i hi=>by
    obtain⟨h1,oi,hoi,hall⟩:=mem_ready.1 hi;have his:i<ops.size:=(Array.getElem?_eq_some_iff.1 hoi).1;rw[getD_both' (by omega)]at h1
    have hik:k≤i:=by
     rcases Nat.lt_or_ge i k with h2 | h2
     · rw[hyes i h2 his]at h1;cases h1
     · exact h2
    rcases Nat.eq_or_lt_of_le hik with h2 | h2
    · exact h2.symm
    · have hcl:Closed ops listed:=fun j oj hj hlj e he hb=>by
       have h3:=(looseB_at hB hj).after e he hb;have hjs:j<ops.size:=(Array.getElem?_eq_some_iff.1 hj).1
       rcases Nat.lt_or_ge j k with h4 | h4
       · exact hyes e.on (by omega) (by omega)
       · rw[hno j h4]at hlj;cases hlj
      have:=all_comeL hB hcl (show n≤i by omega) hoi hall _ k rfl h2;rw[hno k (Nat.le_refl _)]at this
      cases this
   refine⟨fun hnil=>?_,fun i hi=>?_⟩
   · obtain⟨j,hj⟩:=some_readyL hB listed hsz k k hks rfl (hno k (Nat.le_refl _));rw[hnil]at hj;cases hj
   · have hik:=hone i hi;subst hik
     have hw:wpOp P ops Q' i (wpList P ops Q' l) a w:=by unfold wpOp;simp only[h0];exact h
     refine wpOp_mono (fun a' w' h'=>wpAny_chainL hB l (i+1) _ a' w' (fun j=>by have:=hl (j+1);simpa[Nat.add_assoc,Nat.add_comm 1 j] using this) (by omega) (by simpa using hsz) (fun j hj hjs=>?_) (fun j hj=>?_) h') hw
     · by_cases hji:j=i
       · subst hji;have:j<listed.size:=by omega
         simp[this]
       · rw[getD_set_ne false (Ne.symm hji)];exact hyes j (by omega) hjs
     · rw[getD_set_ne false (by omega)];exact hno j (by omega)
theorem wpAny_upL {Q':Exit→Act→World→Prop}:∀ {g:Nat} {listed:Array Bool} {a:Act} {w:World},wpAny P .any ops Q' g listed a w→wpAny P .any ops Q' (g+1) listed a w
 | 0,_,_,_,h=>⟨fun _=>h.2,fun i hi=>by rw[h.1]at hi;cases hi⟩
 | _+1,_,_,_,h=>⟨h.1,fun i hi=>wpOp_mono (fun _ _ h'=>wpAny_upL h') (h.2 i hi)⟩
theorem wpAny_moreL {Q':Exit→Act→World→Prop} {g:Nat} {listed:Array Bool} {a:Act} {w:World} (h:wpAny P .any ops Q' g listed a w):∀ f,wpAny P .any ops Q' (f+g) listed a w
 | 0=>by rwa [Nat.zero_add]
 | f+1=>by rw[show f+1+g=(f+g)+1 by omega];exact wpAny_upL (wpAny_moreL h f)
structure LooseStep (P:Program) (ops:Array Oper) (n:Nat) (cl:List Loose) (q:Nat→Value) (a:Act) (w:World):Prop where
 quiet:∀ i o,i<n→ops[i]?=some o→inB cl i=false→YieldsIn P ops (fun w'=>∃ m,w'=grow w m) o (q i) (fr (fun j=>(ops[j]?).bind (·.dst)) (fun j=>!unkB cl j) q i a)
 loose:∀ L∈cl,∀ o,ops[L.i]?=some o→∀ (V:Nat→Value) w',(∀ j,unkB cl j=false→V j=q j)→(∃ m,w'=grow w m)→(∀ L'∈cl,waitsB o L'.i=true→L'.φ (V L'.i) w') →
  ∃ Q0,(∀ e a w,e≠.normal→¬ Q0 e a w)∧L.d<a.tmps.size∧Region.wanted o (yielded ops (fr (fun j=>(ops[j]?).bind (·.dst)) (fun _=>true) V n a).tmps)=true ∧
  o.wp P (fr (fun j=>(ops[j]?).bind (·.dst)) (fun _=>true) V n a) w' (fun a' w''=>∃ v,a'=(fr (fun j=>(ops[j]?).bind (·.dst)) (fun _=>true) V n a).put o.dst v∧(Below w'.heap.size w' w''∧L.φ v w''∧(∀ k,L.own v=some k→w'.heap.size≤k∧k<w''.heap.size)∧∀ c,L.c=some c→v=c)) Q0
 claim:∀ L∈cl,∀ c,L.c=some c→q L.i=c
 one:∀ L∈cl,∀ L'∈cl,L≠L'→L.i≠L'.i
theorem step_inv {Q':Exit→Act→World→Prop} {q:Nat→Value} {a:Act} {w:World} (hB:looseB ops n cl=true) (hS:LooseStep P ops n cl q a w) {listed:Array Bool} {b:Act} {w':World} {V:Nat→Value} (hI:LooseInv ops n cl q a w listed b w' V)
  {i:Nat} (hi:i<n) (hr:i∈Region.ready .any ops listed) {K:Act→World→Prop} (hK:∀ b' w'' V',LooseInv ops n cl q a w (listed.setIfInBounds i true) b' w'' V'→K b' w''):wpOp P ops Q' i K b w':=by
 obtain⟨h1,o,ho,hall⟩:=mem_ready.1 hr;have his:i<ops.size:=(Array.getElem?_eq_some_iff.1 ho).1
 have hun:listed.getD i false=false:=by rw[← getD_both' (by rw[hI.size];omega)];exact h1
 have hA:=looseB_at hB ho
 have hwaits:∀ j,waitsB o j=true→listed.getD j false=true:=fun j hj=>by
  obtain⟨e,he,hb,rfl⟩:=waitsB_spec hj;exact hall e he hb
 -- the frame behind it
 have hfr:∀ (V':Nat→Value),(∀ j,j≠i→V' j=V j)→b.put o.dst (V' i)=fr (fun j=>(ops[j]?).bind (·.dst)) (fun j=>(listed.setIfInBounds i true).getD j false) V' n a:=fun V' hV'=>by
  have hdi:(ops[i]?).bind (·.dst)=o.dst:=by rw[ho];rfl
  refine act_ext (by rw[put_defers',hI.frame,fr_defers,fr_defers]) fun t=>?_
  have hnew:(listed.setIfInBounds i true).getD i false=true:=by
   have:i<listed.size:=by rw[hI.size];omega
   simp[this]
  cases hd:o.dst with
  | none =>
    show b.tmps[t]?=_;rw[hI.frame]
    refine fr_slot n fun j hj hdj=>?_
    have hji:j≠i:=fun e=>by subst e;rw[hdi,hd]at hdj;cases hdj
    rw[getD_set_ne false (Ne.symm hji)];exact⟨rfl,fun _=>(hV' j hji).symm⟩
  | some d =>
    rw[put_slot]
    by_cases hdt:d=t
    · subst hdt;rw[if_pos rfl,hI.frame,fr_size];have e:fr (fun j=>(ops[j]?).bind (·.dst)) (fun j=>(listed.setIfInBounds i true).getD j false) V' n a=fr (fun j=>(ops[j]?).bind (·.dst)) (fun j=>(listed.setIfInBounds i true).getD j false) V' n a:=rfl
      have key:∀ m,i<m→m≤n→(fr (fun j=>(ops[j]?).bind (·.dst)) (fun j=>(listed.setIfInBounds i true).getD j false) V' m a).tmps[d]?=if d<a.tmps.size then some (V' i) else none:=by
       intro m him hmn
       induction m with
       | zero=>omega
       | succ m ih =>
         unfold fr
         by_cases hm:m=i
         · subst hm;rw[hnew,if_pos rfl,hdi,hd,put_slot,if_pos rfl,fr_size]
         · have ih':=ih (by omega) (by omega)
           cases hc:(listed.setIfInBounds i true).getD m false with
           | false=>simpa using ih'
           | true =>
             simp only[if_true]
             cases hdm:(ops[m]?).bind (·.dst) with
             | none=>exact ih'
             | some d' =>
               rw[put_slot,if_neg (fun e=>?_)]
               · exact ih'
               · subst e;exact looseB_dst hB (show i<n from hi) (show m<n by omega) (Ne.symm hm) hdm (by rw[hdi,hd])
      rw[key n hi (Nat.le_refl _)]
    · rw[if_neg hdt,hI.frame]
      refine fr_slot n fun j hj hdj=>?_
      have hji:j≠i:=fun e=>by subst e;rw[hdi,hd]at hdj;exact hdt (Option.some.inj hdj)
      rw[getD_set_ne false (Ne.symm hji)];exact⟨rfl,fun _=>(hV' j hji).symm⟩
 have hstay:∀ {w''},Below w'.heap.size w' w''→∀ L∈cl,listed.getD L.i false=true→L.φ (V L.i) w''∧∀ k,L.own (V L.i)=some k→k<w''.heap.size:=fun hb L hL hl=>by
  obtain⟨h3,h4⟩:=hI.law L hL hl;exact⟨L.stays _ _ _ h3 hb,fun k hk=>Nat.lt_of_lt_of_le (h4 k hk) hb.size⟩
 have hgrow:∀ {w''},Below w'.heap.size w' w''→∃ m,w''=grow w m:=fun hb=>by
  obtain⟨m,rfl⟩:=hI.ext;exact grow_mk ((grow_below m).trans (hb.mono (grow_size m)))
 unfold wpOp;simp only[ho]
 cases hin:inB cl i with
 | false =>
   have hui:unkB cl i=false:=Bool.eq_false_iff.2 fun hu=>by
    obtain⟨L,hL,h3⟩:=List.any_eq_true.1 hu;simp only[Bool.and_eq_true,beq_iff_eq]at h3;have:inB cl i=true:=List.any_eq_true.2 ⟨L,hL,by simp[h3.1]⟩;rw[hin]at this;cases this
   have hnotL:∀ L∈cl,L.i≠i:=fun L hL e=>by
    have:inB cl i=true:=List.any_eq_true.2 ⟨L,hL,by simp[e]⟩;rw[hin]at this;cases this
   -- what it sees
   have hsee:∀ t,t∈o.looksAt ops→b.tmps[t]?=(fr (fun j=>(ops[j]?).bind (·.dst)) (fun j=>!unkB cl j) q i a).tmps[t]?:=fun t ht=>by
    have e1:fr (fun j=>(ops[j]?).bind (·.dst)) (fun j=>!unkB cl j) q i a=fr (fun j=>(ops[j]?).bind (·.dst)) (fun j=>decide (j<i)&&!unkB cl j) q i a:=fr_ext fun j hj=>⟨by simp[hj],fun _=>rfl⟩
    have e2:∀ m,fr (fun j=>(ops[j]?).bind (·.dst)) (fun j=>decide (j<i)&&!unkB cl j) q (i+m) a=fr (fun j=>(ops[j]?).bind (·.dst)) (fun j=>decide (j<i)&&!unkB cl j) q i a:=fun m=>by
     induction m with
     | zero=>rfl
     | succ m ih=>rw[← Nat.add_assoc,fr,ih];simp[show ¬ i+m<i by omega]
    rw[e1,← e2 (n-i),show i+(n-i)=n by omega,hI.frame]
    refine fr_slot n fun j hj hdj=>?_
    obtain⟨h3,h4⟩:=hA.reads hi j hj t hdj ht
    have hji:j<i:=by
     obtain⟨e,he,hb,rfl⟩:=waitsB_spec h3;exact hA.after e he hb
    have h5:=h4 hin;exact⟨by simp[hwaits j h3,hji,h5],fun _=>hI.same j h5⟩
   have hcalm:=hA.calm hi hin;have hY:=hS.quiet i o hi ho hin;have hex:execOp b.eval o=execOp (fr (fun j=>(ops[j]?).bind (·.dst)) (fun j=>!unkB cl j) q i a).eval o:=exec_same (calm_select hcalm) hsee;have hwt:Region.wanted o (yielded ops b.tmps)=Region.wanted o (yielded ops (fr (fun j=>(ops[j]?).bind (·.dst)) (fun j=>!unkB cl j) q i a).tmps):=wanted_same (fun _ _=>rfl) hsee
   have hdone:∀ u,u=q i→K (b.put o.dst u) w':=fun u hu=>by
    subst hu;have hVi:V i=q i:=hI.same i hui;refine hK _ _ V ⟨by rw[← hVi];exact hfr V fun _ _=>rfl,hI.ext,hI.same,fun L hL hl=>?_,fun L hL L' hL' hne hl hl'=>?_,hI.closed.set hr,by simpa using hI.size,fun j hj=>by rw[getD_set_ne false (by omega)];exact hI.tail j hj⟩
    · rw[getD_set_ne false (Ne.symm (hnotL L hL))]at hl;exact hI.law L hL hl
    · rw[getD_set_ne false (Ne.symm (hnotL L hL))]at hl;rw[getD_set_ne false (Ne.symm (hnotL L' hL'))]at hl';exact hI.apart L hL L' hL' hne hl hl'
   rcases hY with ⟨hw,hv⟩ | ⟨hw,hv⟩
   · rw[hwt,hw,if_pos rfl];refine .inl ?_;have h3:=hv w' hI.ext;unfold Oper.quietAt at h3;rw[← hex]at h3;unfold Oper.wp;generalize hrr:(execOp b.eval o).run P w'=r at *
     cases r with
     | ok nx w2 =>
       cases nx<;>simp only[Oper.quietUpon]at h3<;>simp only[Oper.upon]
       case value u=>obtain⟨e1,e2⟩:=h3;rw[e1];exact hdone _ e2
       case skip=>obtain⟨e1,e2⟩:=h3;rw[e1];exact hdone _ e2.symm
       case enter f args=>exact absurd hrr (calm_enter hcalm)
     | halt x w2=>simp only[Oper.quietUpon]at h3
   · rw[hwt,hw];exact hdone _ hv.symm
 | true =>
   obtain⟨L,hL,h3⟩:=List.any_eq_true.1 hin;simp only[beq_iff_eq]at h3;subst h3;obtain⟨_,o',ho',hdL,hsel⟩:=looseB_in hB hL;have:o'=o:=Option.some.inj (ho'.symm.trans ho);subst this
   obtain⟨Q0,hQ0,hlt,hg,hwp⟩:=hS.loose L hL o' ho V w' hI.same hI.ext fun L' hL' hw'=>(hI.law L' hL' (hwaits _ hw')).1
   have hsee:∀ t,t∈o'.looksAt ops→b.tmps[t]?=(fr (fun j=>(ops[j]?).bind (·.dst)) (fun _=>true) V n a).tmps[t]?:=fun t ht=>by
    rw[hI.frame]
    refine fr_slot n fun j hj hdj=>?_
    obtain⟨h3,_⟩:=hA.reads hi j hj t hdj ht;exact⟨hwaits j h3,fun _=>rfl⟩
   rw[wanted_same (fun _ _=>rfl) hsee,hg,if_pos rfl];refine .inl (wp_moved (exec_same hsel hsee) hdL (by rw[fr_size];exact hlt) hQ0 (fun v w'' hR=>?_) hwp);obtain⟨hbel,hφ,hown,hcl⟩:=hR;have hone:=hS.one
   let V':Nat→Value:=fun j=>if j=L.i then v else V j
   have hVi:V' L.i=v:=by simp[V']
   have hVj:∀ j,j≠L.i→V' j=V j:=fun j hj=>by simp[V',hj]
   refine hK _ _ V' ⟨by rw[← hVi];exact hfr V' hVj,hgrow hbel,fun j hj=>?_,fun L2 hL2 hl=>?_,fun L2 hL2 L3 hL3 hne hl hl'=>?_,hI.closed.set hr,by simpa using hI.size,fun j hj=>by rw[getD_set_ne false (by omega)];exact hI.tail j hj⟩
   · by_cases hji:j=L.i
     · subst hji;rw[looseB_unk hB hL]at hj
       cases hc:L.c with
       | none=>rw[hc]at hj;cases hj
       | some c=>rw[hVi,hcl c hc,hS.claim L hL c hc]
     · rw[hVj j hji];exact hI.same j hj
   · by_cases hL2i:L2.i=L.i
     · by_cases heq:L2=L
       · subst heq;rw[hVi];exact⟨hφ,fun k hk=>(hown k hk).2⟩
       · exact absurd hL2i (hone L2 hL2 L hL heq)
     · rw[getD_set_ne false (Ne.symm hL2i)]at hl;rw[hVj _ hL2i];exact hstay hbel L2 hL2 hl
   · intro k k' hk hk'
     by_cases h2:L2.i=L.i
     · have e2:L2=L:=Classical.byContradiction fun hne2=>hone L2 hL2 L hL hne2 h2
       subst e2;rw[hVi]at hk;rw[getD_set_ne false hne]at hl';rw[hVj _ (Ne.symm hne)]at hk';have h4:=((hI.law L3 hL3 hl').2 k' hk');have h5:=(hown k hk).1;omega
     · by_cases h3:L3.i=L.i
       · have e3:L3=L:=Classical.byContradiction fun hne2=>hone L3 hL3 L hL hne2 h3
         subst e3;rw[hVi]at hk';rw[getD_set_ne false (Ne.symm hne)]at hl;rw[hVj _ hne]at hk;have h4:=((hI.law L2 hL2 hl).2 k hk);have h5:=(hown k' hk').1;omega
       · rw[getD_set_ne false (Ne.symm h2)]at hl;rw[getD_set_ne false (Ne.symm h3)]at hl';rw[hVj _ h2]at hk;rw[hVj _ h3]at hk';exact hI.apart L2 hL2 L3 hL3 hne hl hl' k k' hk hk'
theorem fr_at {dst:Nat→Option Tmp} {S:Nat→Bool} {val:Nat→Value} {a:Act} {i:Nat} {d:Tmp} (hd:dst i=some d) (hS:S i=true):∀ m,i<m→(∀ j,j<m→j≠i→dst j≠some d)→(fr dst S val m a).tmps[d]?=if d<a.tmps.size then some (val i) else none
 | 0,h,_=>by omega
 | m+1,h,hne=>by
   unfold fr
   by_cases hm:m=i
   · subst hm;rw[hS,if_pos rfl,hd,put_slot,if_pos rfl,fr_size]
   · have ih:=fr_at (a:=a) (val:=val) hd hS m (by omega) fun j hj=>hne j (by omega)
     have hd':=hne m (by omega) hm
     cases S m with
     | false=>simpa using ih
     | true =>
       simp only[if_true]
       cases hdm:dst m with
       | none=>exact ih
       | some d' =>
         rw[put_slot,if_neg (fun e=>hd' (by rw[hdm,e]))];exact ih
theorem run_all {Q':Exit→Act→World→Prop} {q:Nat→Value} {a:Act} {w:World} {l:List Oper} (hB:looseB l.toArray n cl=true) (hS:LooseStep P l.toArray n cl q a w)
  (hfin:∀ listed b w' V,LooseInv l.toArray n cl q a w listed b w' V→(∀ j,j<n→listed.getD j false=true)→wpList P l.toArray Q' (l.drop n) b w') :
  ∀ (f:Nat) (listed:Array Bool) (b:Act) (w':World) (V:Nat→Value),LooseInv l.toArray n cl q a w listed b w' V→left listed n≤f→wpAny P .any l.toArray Q' (f+(l.length-n)) listed b w':=by
 have hn:n≤l.length:=by simpa using looseB_size hB
 have hdone:∀ (f:Nat) (listed:Array Bool) (b:Act) (w':World) (V:Nat→Value),LooseInv l.toArray n cl q a w listed b w' V→left listed n=0→wpAny P .any l.toArray Q' (f+(l.length-n)) listed b w':=fun f listed b w' V hI h0=>by
  have hall:=left_zero n h0;have hch:=wpAny_chainL (P:=P) (Q':=Q') hB (l.drop n) n listed b w' (fun j=>by simp[List.getElem?_drop]) (Nat.le_refl _) hI.size (fun j hj _=>hall j hj) hI.tail (hfin _ _ _ _ hI hall);rw[List.length_drop]at hch;exact wpAny_moreL hch f
 intro f
 induction f with
 | zero=>intro listed b w' V hI h0;exact hdone 0 listed b w' V hI (by omega)
 | succ f ih =>
   intro listed b w' V hI hf
   by_cases h0:left listed n=0
   · exact hdone _ listed b w' V hI h0
   · have hex:∃ j,j<n∧listed.getD j false=false:=Classical.byContradiction fun hno=>h0 (left_none n fun j hj=>by
      cases hx:listed.getD j false with
      | true=>rfl
      | false=>exact absurd ⟨j,hj,hx⟩ hno)
     obtain⟨j0,hj0,hl0⟩:=hex;rw[show f+1+(l.length-n)=(f+(l.length-n))+1 by omega];refine⟨fun hnil=>?_,fun i hi=>?_⟩
     · obtain⟨j,hj⟩:=some_readyL hB listed hI.size j0 j0 (by simp;omega) rfl hl0;rw[hnil]at hj;cases hj
     · have hin:i<n:=by
        rcases Nat.lt_or_ge i n with h1 | h1
        · exact h1
        · obtain⟨_,oi,hoi,hall⟩:=mem_ready.1 hi;have:=all_comeL hB hI.closed h1 hoi hall _ j0 rfl (by omega);rw[hl0]at this;cases this
       have hun:listed.getD i false=false:=by
        have:=(mem_ready.1 hi).1;rwa [getD_both' (by rw[hI.size];simp;omega)]at this
       refine step_inv hB hS hI hin hi fun b' w'' V' hI'=>ih _ b' w'' V' hI' ?_
       have:=left_set (listed:=listed) (i:=i) (by rw[hI.size];simp;omega) hun n;rw[if_pos hin]at this;omega
end
def nodupB:List Loose→Bool
 | []=>true
 | L::cl=>cl.all (fun L'=>L.i != L'.i)&&nodupB cl
theorem nodupB_one:∀ {cl:List Loose},nodupB cl=true→∀ L∈cl,∀ L'∈cl,L.i=L'.i→L=L'
 | [],_,L,hL,_,_,_=>by cases hL
 | L0::cl,h,L,hL,L',hL',he=>by
   simp only[nodupB,Bool.and_eq_true,List.all_eq_true]at h
   rcases List.mem_cons.1 hL with rfl|h1
   · rcases List.mem_cons.1 hL' with rfl|h2
     · rfl
     · have:=h.1 L' h2;simp[he]at this
   · rcases List.mem_cons.1 hL' with rfl|h2
     · have:=h.1 L h1;simp[he]at this
     · exact nodupB_one h.2 L h1 L' h2 he
def lawsL (V:Nat→Value) (w':World):List Loose→Prop
 | []=>True
 | L::cl=>L.φ (V L.i) w'∧lawsL V w' cl
def distL1 (V:Nat→Value) (L:Loose):List Loose→Prop
 | []=>True
 | L'::cl=>(∀ k k',L.own (V L.i)=some k→L'.own (V L'.i)=some k'→k≠k')∧distL1 V L cl
def distL (V:Nat→Value):List Loose→Prop
 | []=>True
 | L::cl=>distL1 V L cl∧distL V cl
def waitsL (V:Nat→Value) (w':World) (o:Oper):List Loose→Prop
 | []=>True
 | L::cl=>(waitsB o L.i=true→L.φ (V L.i) w')∧waitsL V w' o cl
def obsL (P:Program) (l:List Oper) (V:Nat→Value) (w':World) (F:Act) (all:List Loose):List Loose→Prop
 | []=>True
 | L :: cl=>(match l[L.i]? with
    | some o=>waitsL V w' o all→(match o.guard with
      | none=>wpList P l.toArray (PostL L F w') [o] F w'
      | some _=>Region.wanted o (yielded l.toArray F.tmps)=true∧wpList P l.toArray (PostL L F w') [o] F w')
    | none=>True)∧obsL P l V w' F all cl
theorem lawsL_of {V:Nat→Value} {w':World}:∀ {cl:List Loose},(∀ L∈cl,L.φ (V L.i) w')→lawsL V w' cl
 | [],_=>trivial
 | L::_,h=>⟨h L (List.mem_cons_self ..),lawsL_of fun L' hL'=>h L' (List.mem_cons_of_mem _ hL')⟩
theorem waitsL_of {V:Nat→Value} {w':World} {o:Oper}:∀ {cl:List Loose},(∀ L∈cl,waitsB o L.i=true→L.φ (V L.i) w')→waitsL V w' o cl
 | [],_=>trivial
 | L::_,h=>⟨h L (List.mem_cons_self ..),waitsL_of fun L' hL'=>h L' (List.mem_cons_of_mem _ hL')⟩
theorem distL1_of {V:Nat→Value} {L:Loose}:∀ {cl:List Loose},(∀ L'∈cl,∀ k k',L.own (V L.i)=some k→L'.own (V L'.i)=some k'→k≠k')→distL1 V L cl
 | [],_=>trivial
 | L'::_,h=>⟨h L' (List.mem_cons_self ..),distL1_of fun L2 hL2=>h L2 (List.mem_cons_of_mem _ hL2)⟩
theorem distL_of {V:Nat→Value}:∀ {cl:List Loose},nodupB cl=true→(∀ L∈cl,∀ L'∈cl,L.i≠L'.i→∀ k k',L.own (V L.i)=some k→L'.own (V L'.i)=some k'→k≠k')→distL V cl
 | [],_,_=>trivial
 | L::cl,hN,h=>by
   simp only[nodupB,Bool.and_eq_true,List.all_eq_true]at hN
   exact ⟨distL1_of fun L' hL'=>h L (List.mem_cons_self ..) L' (List.mem_cons_of_mem _ hL') (by have:=hN.1 L' hL';simpa using this),
    distL_of hN.2 fun L1 h1 L2 h2=>h L1 (List.mem_cons_of_mem _ h1) L2 (List.mem_cons_of_mem _ h2)⟩
theorem obsL_at {P:Program} {l:List Oper} {V:Nat→Value} {w':World} {F:Act} {all:List Loose}:∀ {cl:List Loose},obsL P l V w' F all cl→∀ L∈cl,∀ o,l[L.i]?=some o→waitsL V w' o all→Region.wanted o (yielded l.toArray F.tmps)=true∧wpList P l.toArray (PostL L F w') [o] F w'
 | [],_,L,hL,_,_,_=>by cases hL
 | L0::cl,h,L,hL,o,ho,hw=>by
   rcases List.mem_cons.1 hL with rfl|h1
   · have h2:=h.1;simp only[ho]at h2;have h3:=h2 hw
     cases hg:o.guard with
     | none=>rw[hg]at h3;exact⟨by simp[Region.wanted,hg],h3⟩
     | some g=>rw[hg]at h3;exact h3
   · exact obsL_at h.2 L h1 o ho hw
theorem find_in {cl:List Loose} {k:Nat} {L:Loose} (h:cl.find? (fun L=>L.i==k)=some L):L∈cl∧L.i=k:=⟨List.mem_of_find?_eq_some h,by simpa using List.find?_some h⟩
theorem find_not {cl:List Loose} {k:Nat} (h:cl.find? (fun L=>L.i==k)=none):inB cl k=false:=by
 apply Bool.eq_false_iff.2
 intro hin;obtain⟨L,hL,h2⟩:=List.any_eq_true.1 hin;have:=List.find?_eq_none.1 h L hL;exact this h2
theorem find_of_not {cl:List Loose} {k:Nat} (h:inB cl k=false):cl.find? (fun L=>L.i==k)=none :=
 List.find?_eq_none.2 fun L hL h2=>by
  have:inB cl k=true:=List.any_eq_true.2 ⟨L,hL,h2⟩;rw[h]at this;cases this
theorem unk_of_not {cl:List Loose} {k:Nat} (h:inB cl k=false):unkB cl k=false:=Bool.eq_false_iff.2 fun hu=>by
 obtain⟨L,hL,h3⟩:=List.any_eq_true.1 hu;simp only[Bool.and_eq_true,beq_iff_eq]at h3;have:inB cl k=true:=List.any_eq_true.2 ⟨L,hL,by simp[h3.1]⟩;rw[h]at this;cases this
theorem wp_region_loose {P:Program} {id:Nat} {Q:Exit→Act→World→Prop} {a:Act} {w:World} {l hl:List Oper} (n:Nat) (cl:List Loose) (hm:P.follows .mixedOrders=true)
  (hhl:headL cl n 0 l=hl) (hB:Region.lexB .any hl.toArray=true) (hL:looseB l.toArray n cl=true) (hN:nodupB cl=true) (hsz:(cl.all fun L=>decide (L.d<a.tmps.size))=true)
  (h : wpQuiet P hl.toArray (fun w'=>∃ m,w'=grow w m) (fun aq=>(∀ (V:Nat→Value) (m:Ext w),obsL P l V (grow w m) (fill V cl aq) cl cl) ∧
    ∀ (V:Nat→Value) (m:Ext w),lawsL V (grow w m) cl→distL V cl→wpList P l.toArray Q (l.drop n) (fill V cl aq) (grow w m)) hl a):(Code.region id l.toArray true).wp P Q a w:=by
 subst hhl
 have hn:n≤l.length:=by simpa using looseB_size hL
 simp only[Region.lexB,Bool.and_eq_true]at hB
 have hlen:(headL cl n 0 l).length=n:=by
  have e:=headL_get cl n 0 l
  apply Nat.le_antisymm
  · rcases Nat.lt_or_ge n (headL cl n 0 l).length with h1 | h1
    · have:=e n;rw[List.getElem?_eq_getElem h1]at this;simp at this
    · exact h1
  · rcases Nat.lt_or_ge (headL cl n 0 l).length n with h1 | h1
    · have:=e (headL cl n 0 l).length;rw[if_pos h1,List.getElem?_eq_none (Nat.le_refl _),List.getElem?_eq_getElem (by omega)]at this;simp at this
    · exact h1
 have hget:∀ j,j<n→(headL cl n 0 l).toArray[j]?=(l.toArray[j]?).map (hushL cl j):=fun j hj=>by
  have:=headL_get cl n 0 l j;simp only[List.getElem?_toArray,this,if_pos hj,Nat.zero_add]
 have hdst:∀ j,j<n→((fun _:Nat=>true) j=(fun j=>!unkB cl j) j∧((headL cl n 0 l).toArray[j]?).bind (·.dst)=(l.toArray[j]?).bind (·.dst))∨(((headL cl n 0 l).toArray[j]?).bind (·.dst)=none∧(fun j=>!unkB cl j) j=false):=fun j hj=>by
  rw[hget j hj]
  cases ho:l.toArray[j]? with
  | none=>simp at ho;omega
  | some o =>
    cases hf:cl.find? (fun L=>L.i==j) with
    | none=>exact .inl (by simp[hushL,hf,unk_of_not (find_not hf)])
    | some L =>
      obtain⟨h1,h2⟩:=find_in hf;have hu:=looseB_unk hL h1;rw[h2]at hu
      cases hc:L.c with
      | none=>exact .inr (by simp[hushL,hf,Loose.hush,hc,hu])
      | some c=>exact .inl (by simp[hushL,hf,Loose.hush,hc,hu])
 obtain⟨q,_,hq2,hq3⟩:=quiet_vals (C:=fun w'=>∃ m,w'=grow w m) (headL cl n 0 l) 0 (fun _=>undef) (fun j=>by simp) h;rw[Nat.zero_add,hlen]at hq3
 have hfrq:∀ i,i≤n→fr (fun j=>((headL cl n 0 l).toArray[j]?).bind (·.dst)) (fun _=>true) q i a=fr (fun j=>(l.toArray[j]?).bind (·.dst)) (fun j=>!unkB cl j) q i a:=fun i hi=>fr_dst i fun j hj=>hdst j (by omega)
 rw[hfrq n (Nat.le_refl _)]at hq3;obtain⟨hobs,hfin⟩:=hq3
 have hfill:∀ V:Nat→Value,(∀ j,unkB cl j=false→V j=q j)→fill V cl (fr (fun j=>(l.toArray[j]?).bind (·.dst)) (fun j=>!unkB cl j) q n a)=fr (fun j=>(l.toArray[j]?).bind (·.dst)) (fun _=>true) V n a:=fun V hV=>by
  refine fill_is cl _ _ (by rw[fr_size,fr_size]) (by rw[fr_defers,fr_defers]) (fun t ht=>?_) fun L hLm hc=>?_
  · refine fr_slot n fun j hj hdj=>?_
    have hu:unkB cl j=false:=Bool.eq_false_iff.2 fun hu=>by
     obtain⟨L,hLm,h3⟩:=List.any_eq_true.1 hu;simp only[Bool.and_eq_true,beq_iff_eq,Option.isNone_iff_eq_none]at h3;obtain⟨_,o,ho,hd,_⟩:=looseB_in hL hLm;refine ht L hLm h3.2 ?_;rw[← h3.1,ho]at hdj;exact Option.some.inj (hd.symm.trans hdj)
    exact⟨by simp[hu],fun _=>(hV j hu).symm⟩
  · obtain⟨hi,o,ho,hd,_⟩:=looseB_in hL hLm
    have hdi:(l.toArray[L.i]?).bind (·.dst)=some L.d:=by rw[ho];exact hd
    rw[fr_size]
    exact fr_at hdi rfl n hi fun j hj hne=>looseB_dst hL hj hi hne hdi
 have hS:LooseStep P l.toArray n cl q a w:=by
  refine⟨fun i o hi ho hin=>?_,fun L hLm o ho V w' hV ⟨m,hw'⟩ hlaw=>?_,fun L hLm c hc=>?_,fun L h1 L' h2 hne he=>hne (nodupB_one hN L h1 L' h2 he)⟩
  · have ho':(headL cl n 0 l).toArray[i]?=some o:=by rw[hget i hi,ho];simp[hushL,find_of_not hin]
    have hy:=hq2 i o (Nat.zero_le _) ho';rw[hfrq i (by omega)]at hy;have hA:=looseB_at hL ho
    have hwt:Region.wanted o (yielded l.toArray (fr (fun j=>(l.toArray[j]?).bind (·.dst)) (fun j=>!unkB cl j) q i a).tmps)=Region.wanted o (yielded (headL cl n 0 l).toArray (fr (fun j=>(l.toArray[j]?).bind (·.dst)) (fun j=>!unkB cl j) q i a).tmps) :=
     wanted_same (fun g hg=>by
      obtain⟨_,h2,h3⟩:=hA.guard g hg;rw[hget g.1 h2]
      cases l.toArray[g.1]? with
      | none=>rfl
      | some o2=>simp[hushL,find_of_not h3]) fun _ _=>rfl
    unfold YieldsIn at hy ⊢;rw[hwt];exact hy
  · obtain⟨_,o',ho',hd,_⟩:=looseB_in hL hLm;have:o'=o:=Option.some.inj (ho'.symm.trans ho);subst this;subst hw';have h3:=obsL_at (hobs V m) L hLm o' (by simpa using ho') (waitsL_of hlaw);rw[hfill V hV]at h3
    have hnot:∀ (F:Act) (w1:World) e a w,e≠.normal→¬ PostL L F w1 e a w:=fun F w1 e a w he hp=>he hp.1
    refine⟨_,hnot (fr (fun j=>(l.toArray[j]?).bind (·.dst)) (fun _=>true) V n a) (grow w m),by simpa using List.all_eq_true.1 hsz L hLm,h3.1,?_⟩;obtain⟨hg,h3⟩:=h3;unfold wpList at h3;rw[hg,if_pos rfl]at h3
    rcases h3 with h3 | ⟨_,a',w3,h3⟩
    · refine Oper.wp_mono (fun a' w'' hh=>?_) h3;obtain⟨_,v,hv⟩:=hh;exact⟨v,by rw[hd];exact hv⟩
    · exact absurd h3 (hnot _ _ _ _ _ (by simp))
  · obtain⟨hi,o,ho,hd,_⟩:=looseB_in hL hLm
    have hf:cl.find? (fun L'=>L'.i==L.i)=some L:=by
     cases hf:cl.find? (fun L'=>L'.i==L.i) with
     | none =>
       have:=find_not hf;have h2:inB cl L.i=true:=List.any_eq_true.2 ⟨L,hLm,by simp⟩;rw[h2]at this;cases this
     | some L'=>rw[nodupB_one hN L' (find_in hf).1 L hLm (find_in hf).2]
    have ho':(headL cl n 0 l).toArray[L.i]?=some { o with op:=.move (.const c),guard:=none }:=by rw[hget L.i hi,ho];simp[hushL,hf,Loose.hush,hc]
    rcases hq2 L.i _ (Nat.zero_le _) ho' with ⟨_,hv⟩ | ⟨hw,_⟩
    · have h4:=hv w (grow_mk (Below.refl _ _));unfold Oper.quietAt at h4;simp only[execOp,Act.eval,Sem.run_pure,Oper.quietUpon]at h4;exact h4.2.symm
    · simp[Region.wanted]at hw
 refine wp_region_any hm ?_
 have hrep:∀ (m i:Nat),(Array.replicate m false).getD i false=false:=fun m i=>by by_cases h:i<m<;>simp[h]
 have hrun:=run_all (Q':=Q) hL hS (fun listed b w' V hI hall=>by
   obtain⟨m,rfl⟩:=hI.ext
   have e:b=fill V cl (fr (fun j=>(l.toArray[j]?).bind (·.dst)) (fun j=>!unkB cl j) q n a):=by
    rw[hfill V hI.same,hI.frame]
    exact fr_ext fun j hj=>⟨hall j hj,fun _=>rfl⟩
   rw[e]
   exact hfin V m (lawsL_of fun L hLm=>(hI.law L hLm (hall _ (looseB_in hL hLm).1)).1)
    (distL_of hN fun L h1 L' h2 hne=>hI.apart L h1 L' h2 hne (hall _ (looseB_in hL h1).1) (hall _ (looseB_in hL h2).1)))
  n (Array.replicate l.toArray.size false) a { w with drawn:=w.drawn+1 } q
  ⟨by
    have:∀ m,fr (fun j=>(l.toArray[j]?).bind (·.dst)) (fun j=>(Array.replicate l.toArray.size false).getD j false) q m a=a:=fun m=>by
     induction m with
     | zero=>rfl
     | succ m ih=>unfold fr;rw[hrep,ih];rfl
    exact(this n).symm,grow_mk (Below.refl _ _).drew,fun _ _=>rfl,fun L _ hl=>(by rw[hrep]at hl;cases hl),fun L _ L' _ _ hl=>(by rw[hrep]at hl;cases hl),
    fun j oj _ hl=>(by rw[hrep]at hl;cases hl),by simp,fun j _=>hrep _ _⟩ (left_le n)
 rw[show n+(l.length-n)=l.toArray.size by simp;omega]at hrun;exact hrun
end Go.Proofs.YtnbkbenkhkinoaaGreatDoor
