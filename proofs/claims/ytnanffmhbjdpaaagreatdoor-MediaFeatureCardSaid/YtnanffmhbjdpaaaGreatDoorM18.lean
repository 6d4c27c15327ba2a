/- Of my texts: ValT, ValA, ValB, ValC, ValD, ValE, Safe, Copied, OpenV. -/
import Derived.Test.YtnanffmhbjdpaaaGreatDoorM00
import Derived.Test.YtnanffmhbjdpaaaGreatDoorM05
import Derived.Test.YtnanffmhbjdpaaaGreatDoorM06
import Derived.Test.YtnanffmhbjdpaaaGreatDoorM07
import Derived.Test.YtnanffmhbjdpaaaGreatDoorM12
import Derived.Test.YtnanffmhbjdpaaaGreatDoorM17
import Derived.SizedLaws
namespace Go.Proofs.YtnanffmhbjdpaaaGreatDoor
set_option maxHeartbeats 8000000
set_option maxRecDepth 100000
set_option linter.unusedVariables false
set_option linter.unusedSimpArgs false
open Go.ChangeShapes Go.WideShapes Go.ChangeAt Go.RowKit Go.Deep
inductive Vl where
 | mk (t:Tk) (oa:Option Addr) (b o cap:Nat) (kids:List Vl)
instance:Inhabited Vl:=⟨.mk ⟨0,[],(0,0),false,false⟩ none 0 0 0 []⟩
def U3:Vl→List Value
 | .mk t oa _ _ cap kids=>U1 t++[.slice oa kids.length cap]
def vv (v:Vl):Value:=.agg (U3 v).toArray
theorem Ji (v:Vl):(U3 v).length=7:=by cases v;rfl
mutual
def Vl.c:Vl→Vt
 | .mk t _ _ _ _ kids=>.mk t (Vl.cs kids)
def Vl.cs:List Vl→List Vt
 | []=>[]
 | x::r=>x.c::Vl.cs r
end
theorem Vl.cs_map:∀ l:List Vl,Vl.cs l=l.map Vl.c
 | []=>rfl
 | x::r=>by rw[Vl.cs,Vl.cs_map r];rfl
theorem Vl.c_mk (t:Tk) (oa:Option Addr) (b o cap:Nat) (kids:List Vl):(Vl.mk t oa b o cap kids).c=.mk t (kids.map Vl.c):=by
 rw[Vl.c,Vl.cs_map]
def Bo (t:Tk):Prop:=Wj t.kind∧U2 t.num∧t.text.length≤9223372036854775807
def Uu (w:World):Nat→Vl→Prop
 | 0,_=>False
 | h+1,.mk t oa b o cap kids=>Bo t∧kids.length*72≤140737488355328∧Sl w oa kids.length cap b o 7 (kids.flatMap U3)∧∀ (i:Nat) (x:Vl),kids[i]?=some x→Uu w h x
structure Zw (w:World) (h:Nat) (oa:Option Addr) (cap b o:Nat) (l:List Vl):Prop where
 small:l.length*72≤140737488355328
 sl:Sl w oa l.length cap b o 7 (l.flatMap U3)
 each:∀ (i:Nat) (x:Vl),l[i]?=some x→Uu w h x
theorem Uu.below:∀ (h:Nat) {v:Vl} {w w':World},Uu w h v→Below w.heap.size w w'→Uu w' h v
 | 0,_,_,_,hx,_=>hx.elim
 | h+1,.mk t oa b o cap kids,w,w',hx,hb=>⟨hx.1,hx.2.1,hx.2.2.1.below hb,fun i x hi=>Uu.below h (hx.2.2.2 i x hi) hb⟩
theorem Uu.mono:∀ (h h':Nat) {w:World} {v:Vl},h≤h'→Uu w h v→Uu w h' v
 | 0,_,_,_,_,hx=>hx.elim
 | h+1,0,_,_,hl,_=>by omega
 | h+1,h'+1,w,.mk t oa b o cap kids,hl,hx=>⟨hx.1,hx.2.1,hx.2.2.1,fun i x hi=>Uu.mono h h' (by omega) (hx.2.2.2 i x hi)⟩
theorem Zw.below {w w':World} {h:Nat} {oa:Option Addr} {cap b o:Nat} {l:List Vl} (hs:Zw w h oa cap b o l) (hb:Below w.heap.size w w'):Zw w' h oa cap b o l :=
 ⟨hs.small,hs.sl.below hb,fun i x hi=>(hs.each i x hi).below h hb⟩
theorem Zw.mono {w:World} {h h':Nat} {oa:Option Addr} {cap b o:Nat} {l:List Vl} (hs:Zw w h oa cap b o l) (hl:h≤h'):Zw w h' oa cap b o l :=
 ⟨hs.small,hs.sl,fun i x hi=>(hs.each i x hi).mono h h' hl⟩
theorem Uu.kids {w:World} {h:Nat} {t:Tk} {oa:Option Addr} {b o cap:Nat} {kids:List Vl} (hx:Uu w (h+1) (.mk t oa b o cap kids)):Zw w h oa cap b o kids:=⟨hx.2.1,hx.2.2.1,hx.2.2.2⟩
theorem Yu {α:Type} {f:α→List Value} {sz:Nat} (hf:∀ x,(f x).length=sz):∀ (l:List α) (i:Nat) (x:α) (j:Nat) (v:Value),l[i]?=some x→(f x)[j]?=some v→(l.flatMap f)[i*sz+j]?=some v
 | [],i,x,j,v,h,_=>by simp at h
 | y::l,0,x,j,v,h,hv=>by
   obtain rfl:=Q8 h;rw[List.flatMap_cons,Nat.zero_mul,Nat.zero_add,List.getElem?_append_left (Qn.1 hv).1];exact hv
 | y::l,i+1,x,j,v,h,hv=>by
   have ih:=Yu hf l i x j v (by simpa using h) hv;have:=hf y;rw[List.flatMap_cons,Z0 (by rw[this,Nat.succ_mul];omega),this,show (i+1)*sz+j-sz=i*sz+j by rw[Nat.succ_mul];omega];exact ih
theorem Bc {α:Type} {f:α→List Value} {sz:Nat} (hf:∀ x,(f x).length=sz) (hz:0<sz):∀ (l:List α) (k:Nat) (v:Value),(l.flatMap f)[k]?=some v→∃ i x j,l[i]?=some x∧(f x)[j]?=some v∧k=i*sz+j
 | [],k,v,h=>by simp at h
 | y::l,k,v,h=>by
   have hy:=hf y;rw[List.flatMap_cons]at h
   rcases Nat.lt_or_ge k sz with hk|hk
   · rw[List.getElem?_append_left (by omega)]at h;exact⟨0,y,k,rfl,h,by omega⟩
   · rw[Z0 (by omega),hy]at h;obtain⟨i,x,j,h1,h2,h3⟩:=Bc hf hz l (k-sz) v h;exact⟨i+1,x,j,by simpa using h1,h2,by rw[Nat.succ_mul];omega⟩
theorem Jg {α:Type} {f:α→List Value} {sz:Nat} (hf:∀ x,(f x).length=sz):∀ l:List α,(l.flatMap f).length=l.length*sz
 | []=>by simp
 | y::l=>by rw[List.flatMap_cons,Qd,hf,Jg hf l,Z8,Nat.succ_mul];omega
theorem Zw.cell {w:World} {h:Nat} {oa:Option Addr} {cap b o:Nat} {l:List Vl} (hs:Zw w h oa cap b o l) {i:Nat} {x:Vl} (hi:l[i]?=some x) {j:Nat} {v:Value} (hv:(U3 x)[j]?=some v):w.cell? ⟨b,o+i*7+j,none⟩=some v:=by
 rw[show o+i*7+j=o+(i*7+j) by omega];exact hs.sl.cell _ _ (Yu Ji l i x j v hi hv)
theorem Mn:Tryz.prog.cellsOf 25=6:=by kernel_rfl
theorem Mm:Tryz.prog.cellsOf 28=7:=by kernel_rfl
theorem Ac:Tryz.prog.cellsOf 26=1:=by kernel_rfl
theorem Tr:Tryz.prog.bytesOf 28=72:=by kernel_rfl
theorem Q57:Tryz.prog.cellsOf 9=1:=by kernel_rfl
theorem Q6k:Tryz.prog.cellsOf 4=1:=by kernel_rfl
theorem six {α:Type} {l:List α} (h:l.length=6):∃ a b c d e f,l=[a,b,c,d,e,f]:=by
 match l,h with
 | [a,b,c,d,e,f],_=>exact⟨a,b,c,d,e,f,rfl⟩
theorem seven {α:Type} {l:List α} (h:l.length=7):∃ a b c d e f g,l=[a,b,c,d,e,f,g]:=by
 match l,h with
 | [a,b,c,d,e,f,g],_=>exact⟨a,b,c,d,e,f,g,rfl⟩
section
variable {H:Type} {enc:TypeId×Value→H} {w:World} {base:Nat} {spare:Nat→Bool} {held:Bool}
theorem Q5z (fuel:Nat) (cs:List Value) (x:DataW H×List MemPlace) (h:DataW.trod enc Tryz.prog w base spare held fuel 25 cs=some x):∃ t:Tk,cs=U1 t∧Bo t:=by
 obtain⟨xs,n,rfl,rfl,hl,hlen,hf⟩:=DataW.trod_struct Tryz.underlying25 h;obtain⟨y0,y1,y2,y3,y4,rfl⟩:=five hlen;obtain⟨c0,c1,c2,c3,c4,c5,rfl⟩:=six (hl.trans Mn);have g0:=hf 0 _ rfl;have g1:=hf 1 _ rfl;have g2:=hf 2 _ rfl;have g3:=hf 3 _ rfl;have g4:=hf 4 _ rfl;simp only[List.getElem_toArray,List.getElem_cons_zero,List.getElem_cons_succ,Mp,Ad,Q57,Q6k,List.drop_zero,Z4,List.take_succ_cons,List.take_zero,Qq,Qo]at g0 g1 g2 g3 g4;obtain⟨k,e0,rfl,w0⟩:=DataW.trod_int Tryz.underlying3 g0;obtain⟨s,e1,rfl,ws⟩:=DataW.trod_string Tryz.underlying9 g1;obtain⟨ys,m,rfl,rfl,_,hlen2,hf2⟩:=DataW.trod_struct Tryz.underlying23 g2;obtain⟨z0,z1,rfl⟩:=two hlen2;have r0:=hf2 0 _ rfl;have r1:=hf2 1 _ rfl
 simp only[List.getElem_toArray,List.getElem_cons_zero,List.getElem_cons_succ,Mo,List.drop_zero,Z4,List.take_succ_cons,List.take_zero,Qq,Qo]at r0 r1;obtain⟨nn,en,rfl,wn⟩:=DataW.trod_int Tryz.underlying2 r0;obtain⟨dd,ed,rfl,wd⟩:=DataW.trod_int Tryz.underlying2 r1;obtain⟨b1,e3,rfl⟩:=DataW.trod_bool Tryz.underlying4 g3;obtain⟨b2,e4,rfl⟩:=DataW.trod_bool Tryz.underlying4 g4;simp only[List.cons.injEq,and_true]at e0 e1 en ed e3 e4;subst e0 e1 en ed e3 e4;obtain⟨⟨sl⟩⟩:=s;exact⟨⟨k,sl,(nn,dd),b1,b2⟩,rfl,Gh w0,Bb wn wd,ws⟩
theorem Q5y:∀ (fuel:Nat) (cs:List Value) (x:DataW H×List MemPlace),DataW.trod enc Tryz.prog w base spare held fuel 28 cs=some x→(∀ n∈x.1.weights Tryz.prog 28,n≤140737488355328) →
  ∃ v:Vl,cs=U3 v∧Uu w fuel v:=by
 intro fuel
 induction fuel using Nat.strongRecOn with
 | _ fuel ih =>
   intro cs x h hw;obtain⟨xs,n,rfl,rfl,hl,hlen,hf⟩:=DataW.trod_struct Tryz.underlying28 h;obtain⟨y0,y1,rfl⟩:=two hlen;obtain⟨c0,c1,c2,c3,c4,c5,c6,rfl⟩:=seven (hl.trans Mm);have g0:=hf 0 _ rfl;have g1:=hf 1 _ rfl;simp only[List.getElem_toArray,List.getElem_cons_zero,List.getElem_cons_succ,Mn,Ac,List.drop_zero,Z4,List.take_succ_cons,List.take_zero,Qq,Qo]at g0 g1;obtain⟨t,et,h64⟩:=Q5z n _ _ g0
   have e7:∀ u:Value,[c0,c1,c2,c3,c4,c5,u]=U1 t++[u]:=fun u=>by rw[← et];rfl
   rcases DataW.trod_slice Tryz.underlying26 g1 with ⟨hc,hd⟩ | ⟨a,len,cap,elems,rest,m2,hm2,hc,hd,hb,hle,hcm,hel,hall,_,_⟩
   · simp only[List.cons.injEq,and_true]at hc;subst hc;exact⟨.mk t none 0 0 0 [],e7 _,h64,by simp,⟨rfl,Q6 _,Qs _,fun h=>absurd h (by simp),fun j v h=>by simp at h⟩,fun i x h=>by simp at h⟩
   · simp only[List.cons.injEq,and_true]at hc;subst hc
     have hwt:∀ nn∈(DataW.slice (elems.map (·.1)) (rest.map (·.1)):DataW H).weights Tryz.prog 26,nn≤140737488355328:=fun nn hn=>hw nn (by
      simp only[DataW.weights,Tryz.underlying28,List.map_cons,List.map_nil,DataW.weightsEach,Zh]
      exact Or.inr (Or.inl (by rw[hd];exact hn)))
     simp only[DataW.weights,Tryz.underlying26,Tr,Qj,List.mem_cons,Zh]at hwt;have hw0:=hwt _ (Or.inl rfl)
     have hm2n:m2<n:=by omega
     have each:∀ i,i<len→∃ v:Vl,(∀ j u,(U3 v)[j]?=some u→w.cell? ((a.add (i*7)).add j)=some u)∧Uu w m2 v:=fun i hi=>by
      have hi':=hall i hi;rw[Mm]at hi';obtain⟨y,hy⟩:∃ y,elems[i]?=some y:=⟨elems[i]'(by omega),Q9 (by omega)⟩;rw[hy]at hi';obtain⟨cs',hcs,hy'⟩:=Option.bind_eq_some_iff.1 hi';obtain⟨_,hcl,hcell⟩:=World.cells?_some hcs;obtain⟨v,rfl,hv⟩:=ih m2 (by omega) cs' y hy' (fun n hn=>hwt n (Or.inr (Or.inl (Q60.weights_all hy hn))));refine⟨v,fun j u hj=>?_,hv⟩
      have hj7:j<7:=by have:=(Qn.1 hj).1;rw[Ji]at this;exact this
      exact(hcell j hj7).trans hj
     obtain⟨f,hf⟩:=choose_lt each;obtain⟨ab,ao,asp⟩:=a
     have hsp:0<len→asp=none∧ab<w.heap.size:=fun hpos=>by
      obtain⟨v,hv⟩:∃ v,(U3 (f 0))[0]?=some v:=by cases f 0;exact⟨_,rfl⟩
      have hc:=(hf 0 hpos).1 0 v hv;refine⟨by simpa[Addr.add] using World.cell?_spot hc,by simpa[Addr.add] using World.block_lt_of_cell? w _ hc⟩
     have hat:∀ i x,((List.range len).map f)[i]?=some x→i<len∧x=f i:=fun i x hx=>by
      rw[Z5]at hx
      rcases Nat.lt_or_ge i len with hi|hi
      · rw[List.getElem?_range hi]at hx;exact⟨hi,(Q8 hx).symm⟩
      · rw[Zf (by simpa using hi)]at hx
        cases hx
     refine⟨.mk t (some ⟨ab,ao,asp⟩) ab ao cap ((List.range len).map f),?_,h64,by simp;omega,⟨by rw[Jg Ji],by simpa using hle,hcm,fun hpos=>?_,fun k u hk=>?_⟩,fun i x hx=>?_⟩
     · simp only[U3,Qj,List.length_range];exact e7 _
     · simp only[Qj,List.length_range]at hpos;exact⟨by rw[(hsp hpos).1],(hsp hpos).2⟩
     · obtain⟨i,x,j,h1,h2,rfl⟩:=Bc Ji (by decide) _ _ _ hk;obtain⟨hi,rfl⟩:=hat i x h1;obtain⟨rfl,_⟩:=hsp (by omega);have:=(hf i hi).1 j u h2;rw[Addr.add_lit,Addr.add_lit]at this;rw[show ao+(i*7+j)=ao+i*7+j by omega];exact this
     · obtain⟨hi,rfl⟩:=hat i x hx;exact(hf i hi).2.mono _ _ (by omega)
end
end Go.Proofs.YtnanffmhbjdpaaaGreatDoor
namespace Go.Proofs.YtnanffmhbjdpaaaGreatDoor
set_option maxHeartbeats 8000000
set_option maxRecDepth 100000
set_option linter.unusedVariables false
set_option linter.unusedSimpArgs false
open Go.RowKit
theorem D5 (n:Nat):Jf n []=true:=by rw[Jf]
theorem Y7 (n:Nat) (t:Tk) (k r:List Vt):Jf n (.mk t k::r)=(decide (1≤t.kind)&&decide (t.kind≤24)&&(if J2 t.kind=0 then k.isEmpty else match n with
  | 0=>false
  | n+1=>Jf n k)&&Jf n r):=by
 rw[Jf.eq_def]
 cases n<;>rfl
theorem Ml (k:Int) (w:World):Calls Tryz.prog 40 #[.int .i64 k] w fun e w'=>e=.returned (.int .i64 (J2 k))∧w'=w:=by
 have ways:k≤1∨k=2∨(3≤k∧k≤18)∨k=19∨k=20∨k=21∨k=22∨k=23∨24≤k:=by omega
 rcases ways with h|rfl|h|rfl|rfl|rfl|rfl|rfl|h
 · -- None..1
   have g0:((k==2))=false:=by simp;omega
   have g1:((k==21))=false:=by simp;omega
   have g2:((k==19))=false:=by simp;omega
   have g3:((k==23))=false:=by simp;omega
   have hv:J2 k=0:=by unfold J2;rw[if_neg (by omega),if_neg (by omega),if_neg (by omega)]
   have HV:=Q1 hv;clear hv
   go_enter Tryz.func40,Tryz.ntmps40
   go_wp2_with fail;go_ret;exact⟨by rw[HV.out];rfl,rfl⟩
 · -- 2..2
   have hv:J2 (2)=22:=rfl;have HV:=Q1 hv;clear hv
   go_enter Tryz.func40,Tryz.ntmps40
   go_wp2_with fail;go_ret;exact⟨by rw[HV.out];rfl,rfl⟩
 · -- 3..18
   have g0:((k==2))=false:=by simp;omega
   have g1:((k==21))=false:=by simp;omega
   have g2:((k==19))=false:=by simp;omega
   have g3:((k==23))=false:=by simp;omega
   have hv:J2 k=0:=by unfold J2;rw[if_neg (by omega),if_neg (by omega),if_neg (by omega)]
   have HV:=Q1 hv;clear hv
   go_enter Tryz.func40,Tryz.ntmps40
   go_wp2_with fail;go_ret;exact⟨by rw[HV.out];rfl,rfl⟩
 · -- 19..19
   have hv:J2 (19)=20:=rfl;have HV:=Q1 hv;clear hv
   go_enter Tryz.func40,Tryz.ntmps40
   go_wp2_with fail;go_ret;exact⟨by rw[HV.out];rfl,rfl⟩
 · -- 20..20
   have hv:J2 (20)=0:=rfl;have HV:=Q1 hv;clear hv
   go_enter Tryz.func40,Tryz.ntmps40
   go_wp2_with fail;go_ret;exact⟨by rw[HV.out];rfl,rfl⟩
 · -- 21..21
   have hv:J2 (21)=22:=rfl;have HV:=Q1 hv;clear hv
   go_enter Tryz.func40,Tryz.ntmps40
   go_wp2_with fail;go_ret;exact⟨by rw[HV.out];rfl,rfl⟩
 · -- 22..22
   have hv:J2 (22)=0:=rfl;have HV:=Q1 hv;clear hv
   go_enter Tryz.func40,Tryz.ntmps40
   go_wp2_with fail;go_ret;exact⟨by rw[HV.out];rfl,rfl⟩
 · -- 23..23
   have hv:J2 (23)=24:=rfl;have HV:=Q1 hv;clear hv
   go_enter Tryz.func40,Tryz.ntmps40
   go_wp2_with fail;go_ret;exact⟨by rw[HV.out];rfl,rfl⟩
 · -- 24..None
   have g0:((k==2))=false:=by simp;omega
   have g1:((k==21))=false:=by simp;omega
   have g2:((k==19))=false:=by simp;omega
   have g3:((k==23))=false:=by simp;omega
   have hv:J2 k=0:=by unfold J2;rw[if_neg (by omega),if_neg (by omega),if_neg (by omega)]
   have HV:=Q1 hv;clear hv
   go_enter Tryz.func40,Tryz.ntmps40
   go_wp2_with fail;go_ret;exact⟨by rw[HV.out];rfl,rfl⟩
theorem Wu (k:Int) (w:World):Calls Tryz.prog 86 #[.int .i64 k] w fun e w'=>e=.returned (.int .i64 (J2 k))∧w'=w:=by
 have ways:k≤1∨k=2∨(3≤k∧k≤18)∨k=19∨k=20∨k=21∨k=22∨k=23∨24≤k:=by omega
 rcases ways with h|rfl|h|rfl|rfl|rfl|rfl|rfl|h
 · -- None..1
   have g0:((k==2))=false:=by simp;omega
   have g1:((k==21))=false:=by simp;omega
   have g2:((k==19))=false:=by simp;omega
   have g3:((k==23))=false:=by simp;omega
   have hv:J2 k=0:=by unfold J2;rw[if_neg (by omega),if_neg (by omega),if_neg (by omega)]
   have HV:=Q1 hv;clear hv
   go_enter Tryz.func86,Tryz.ntmps86
   go_wp2_with fail;go_ret;exact⟨by rw[HV.out];rfl,rfl⟩
 · -- 2..2
   have hv:J2 (2)=22:=rfl;have HV:=Q1 hv;clear hv
   go_enter Tryz.func86,Tryz.ntmps86
   go_wp2_with fail;go_ret;exact⟨by rw[HV.out];rfl,rfl⟩
 · -- 3..18
   have g0:((k==2))=false:=by simp;omega
   have g1:((k==21))=false:=by simp;omega
   have g2:((k==19))=false:=by simp;omega
   have g3:((k==23))=false:=by simp;omega
   have hv:J2 k=0:=by unfold J2;rw[if_neg (by omega),if_neg (by omega),if_neg (by omega)]
   have HV:=Q1 hv;clear hv
   go_enter Tryz.func86,Tryz.ntmps86
   go_wp2_with fail;go_ret;exact⟨by rw[HV.out];rfl,rfl⟩
 · -- 19..19
   have hv:J2 (19)=20:=rfl;have HV:=Q1 hv;clear hv
   go_enter Tryz.func86,Tryz.ntmps86
   go_wp2_with fail;go_ret;exact⟨by rw[HV.out];rfl,rfl⟩
 · -- 20..20
   have hv:J2 (20)=0:=rfl;have HV:=Q1 hv;clear hv
   go_enter Tryz.func86,Tryz.ntmps86
   go_wp2_with fail;go_ret;exact⟨by rw[HV.out];rfl,rfl⟩
 · -- 21..21
   have hv:J2 (21)=22:=rfl;have HV:=Q1 hv;clear hv
   go_enter Tryz.func86,Tryz.ntmps86
   go_wp2_with fail;go_ret;exact⟨by rw[HV.out];rfl,rfl⟩
 · -- 22..22
   have hv:J2 (22)=0:=rfl;have HV:=Q1 hv;clear hv
   go_enter Tryz.func86,Tryz.ntmps86
   go_wp2_with fail;go_ret;exact⟨by rw[HV.out];rfl,rfl⟩
 · -- 23..23
   have hv:J2 (23)=24:=rfl;have HV:=Q1 hv;clear hv
   go_enter Tryz.func86,Tryz.ntmps86
   go_wp2_with fail;go_ret;exact⟨by rw[HV.out];rfl,rfl⟩
 · -- 24..None
   have g0:((k==2))=false:=by simp;omega
   have g1:((k==21))=false:=by simp;omega
   have g2:((k==19))=false:=by simp;omega
   have g3:((k==23))=false:=by simp;omega
   have hv:J2 k=0:=by unfold J2;rw[if_neg (by omega),if_neg (by omega),if_neg (by omega)]
   have HV:=Q1 hv;clear hv
   go_enter Tryz.func86,Tryz.ntmps86
   go_wp2_with fail;go_ret;exact⟨by rw[HV.out];rfl,rfl⟩
theorem Q4f:∀ (n h:Nat) (l:List Vl) (oa:Option Addr) (cap b o:Nat) (w:World) (D:Int),D=(n:Int)→n≤64→Zw w h oa cap b o l →
  Calls Tryz.prog 58 #[.slice oa l.length cap,.int .i64 D] w fun e w'=>e=.returned (.bool (Jf n (l.map Vl.c)))∧Below w.heap.size w w':=by
 intro n
 induction n using Nat.strongRecOn with
 | _ n ih =>
   intro h l oa cap b o w D hD hn hs;obtain⟨N,hN⟩:∃ N,l.length=N:=⟨_,rfl⟩;rw[hN];have hsm:=hs.small;rw[hN]at hsm;have HS:=Q1 hs;have HN:=Q1 hN;obtain⟨M,hM⟩:∃ M,Jf n (l.map Vl.c)=M:=⟨_,rfl⟩;rw[hM];have HM:=Q1 (show Jf n ((l.drop 0).map Vl.c)=M from hM);have HIH:=Q1 ih;have HDD:=Q1 hD
   have d0:0≤D:=by omega
   have d1:D≤64:=by omega
   clear ih hs hN hM hD
   go_enter Tryz.func58,Tryz.ntmps58
   go_wp2_with fail
   go_loopg [9] N (fun q s9 wr=>∃ (i:Nat),s9=.int .i64 i∧Hid (Below w.heap.size w wr)∧Hid (Jf n ((l.drop i).map Vl.c)=M)∧i≤N∧N-i≤q)
   case atStart=>exact⟨0,rfl,Q1 (Below.refl _ _),HM,Qs _,by omega⟩
   case round =>
    clear HM;obtain⟨i,rfl,hb,hm,hiN,hq⟩:=hrel
    by_cases hi:i<N
    · have gi:decide ((i:Int)<(N:Int))=true:=by simpa using hi
      have gin:decide (i<N)=true:=by simpa using hi
      have hil:i<l.length:=by rw[HN.out];exact hi
      have hli:l[i]?=some l[i]:=Q9 hil;have hs2:=HS.out.below hb.out;have hv:=hs2.each i _ hli;have hm2:=hm.out;rw[Qv hil,List.map_cons]at hm2;obtain⟨rfl,hbl⟩:=hs2.sl.lies (by omega);obtain⟨x,hx⟩:∃ x,l[i]=x:=⟨_,rfl⟩;rw[hx]at hli hv hm2;obtain⟨t,koa,kb,ko,kcap,kids⟩:=x;obtain _ | h:=h
      · exact hv.elim
      have f0:=hs2.cell hli (j:=0) rfl;have f1:=hs2.cell hli (j:=1) rfl;have f2:=hs2.cell hli (j:=2) rfl;have f3:=hs2.cell hli (j:=3) rfl;have f4:=hs2.cell hli (j:=4) rfl;have f5:=hs2.cell hli (j:=5) rfl;have f6:=hs2.cell hli (j:=6) rfl;rw[Nat.add_zero]at f0;rw[Vl.c_mk,Y7]at hm2;obtain⟨K,hK⟩:∃ K,kids.length=K:=⟨_,rfl⟩
      have hke:(kids.map Vl.c).isEmpty=(K==0):=by rw[← hK,List.isEmpty_map];cases kids<;>rfl
      rw[hK]at f6;have hks:=hv.kids;have h64:=hv.1;obtain⟨tk,tt,⟨tn,td⟩,ti,tid⟩:=t;obtain⟨hk64,_,_⟩:=h64;unfold Wj at hk64
      have hcl:=fun w=>Ml tk w
      obtain⟨C,hC⟩:∃ C,J2 tk=C:=⟨_,rfl⟩;rw[hC]at hcl;simp only[hC,hke]at hm2;have HCL:=Q1 hcl;have HB:=Q1 hb.out;have HMM:=Q1 hm2;clear hcl hm2 hm hv hs2 hli hx hC hke;have hnew:=Below.alloc hb.out hb.out.size (.cells #[.int .i64 tk,.string ⟨tt.toArray⟩,.int .i64 tn,.int .i64 td,.bool ti,.bool tid,.slice koa K kcap] 28);have HNW:=Q1 hnew;have HKS:=Q1 (hks.below ((Below.refl wr.heap.size wr).alloc (Q6 _) (.cells #[.int .i64 tk,.string ⟨tt.toArray⟩,.int .i64 tn,.int .i64 td,.bool ti,.bool tid,.slice koa K kcap] 28)));clear hnew hks hb
      by_cases hk:1≤tk∧tk≤24
      · have k1:decide (tk<(1:Int))=false:=by simp;omega
        have k2:decide ((24:Int)<tk)=false:=by simp;omega
        by_cases hC0:C=0
        · subst hC0
          by_cases hK0:K=0
          · have gK:decide ((0:Int)<(K:Int))=false:=by simp;omega
            have gKn:decide (0<K)=false:=by simp;omega
            have HM2:=Q1 (show Jf n ((l.drop (i+1)).map Vl.c)=M by rw[← HMM.out];simp[hk.1,hk.2,hK0]);clear HMM HKS hK0;go_wp2_with fail;go_wp2_with fail
            ((with_reducible refine(HCL.out _).mono ?_);rintro e w' ⟨rfl,rfl⟩)
            go_wp2_with fail
            go_roundg (N-(i+1))
            case measure=>omega
            case rel=>exact⟨i+1,by go_num,HNW,HM2,hi,Q6 _⟩
          · have gK:decide ((0:Int)<(K:Int))=true:=by simp;omega
            have gKn:decide (0<K)=true:=by simp;omega
            have HM2:=Q1 (show M=false by rw[← HMM.out];simp[hK0]);clear HMM HKS hK0;go_wp2_with fail;go_wp2_with fail
            ((with_reducible refine(HCL.out _).mono ?_);rintro e w' ⟨rfl,rfl⟩)
            go_wp2_with fail;go_ret;exact⟨Qw (by rw[HM2.out]),HNW.out⟩
        · have gC:(C==0)=false:=by simpa using hC0
          by_cases hn0:n=0
          · subst hn0
            have gD:(D==0)=true:=by have:=HDD.out;simp;omega
            have HM2:=Q1 (show M=false by rw[← HMM.out];simp[hC0]);clear HMM HKS;go_wp2_with fail;go_wp2_with fail
            ((with_reducible refine(HCL.out _).mono ?_);rintro e w' ⟨rfl,rfl⟩)
            go_wp2_with fail;go_ret;exact⟨Qw (by rw[HM2.out]),HNW.out⟩
          · obtain⟨n',rfl⟩:∃ n',n=n'+1:=⟨n-1,by omega⟩
            have gD:(D==0)=false:=by have:=HDD.out;simp;omega
            have hrec:=HIH.out n' (by omega) h kids koa kcap kb ko _ (D-1) (by have:=HDD.out;omega) (by omega) HKS.out;rw[hK]at hrec;obtain⟨R,hR⟩:∃ R,Jf n' (kids.map Vl.c)=R:=⟨_,rfl⟩;rw[hR]at hrec;have hmm:=HMM.out;simp only[if_neg hC0,hR]at hmm;have HM2:=Q1 hmm;have HRC:=Q1 hrec;clear hrec hR hmm HMM HKS HIH;go_wp2_with fail;go_wp2_with fail
            ((with_reducible refine(HCL.out _).mono ?_);rintro e w' ⟨rfl,rfl⟩)
            go_wp2_with fail;go_wp2_with fail
            ((with_reducible refine(HRC.out).mono ?_);rintro e w' ⟨rfl,hbw⟩)
            obtain⟨m,rfl⟩:=Qf hbw;clear hbw;have HNX:=Q1 (Qa HNW.out m)
            cases R with
            | true =>
              have HM3:=Q1 (show Jf (n'+1) ((l.drop (i+1)).map Vl.c)=M by rw[← HM2.out];simp[hk.1,hk.2]);clear HM2 HRC HNW;go_wp2_with fail
              go_roundg (N-(i+1))
              case measure=>omega
              case rel=>exact⟨i+1,by go_num,HNX,HM3,hi,Q6 _⟩
            | false =>
              have HM3:=Q1 (show M=false by rw[← HM2.out];simp);clear HM2 HRC HNW;go_wp2_with fail;go_ret;exact⟨Qw (by rw[HM3.out]),HNX.out⟩
      · have HM2:=Q1 (show M=false by
         rw[← HMM.out]
         have:(decide (1≤tk)&&decide (tk≤24))=false:=by rw[Bool.and_eq_false_iff];simp only[decide_eq_false_iff_not];omega
         rw[this];simp)
        have ways:decide (tk<(1:Int))=true∨decide (tk<(1:Int))=false∧decide ((24:Int)<tk)=true:=by
         by_cases h1:tk<1
         · exact Or.inl (by simpa using h1)
         · exact Or.inr ⟨by simpa using h1,by simp;omega⟩
        clear HMM HKS hk
        rcases ways with k1 | ⟨k1,k2⟩
        all_goals
         go_wp2_with fail;go_ret;exact⟨Qw (by rw[HM2.out]),HNW.out⟩
    · obtain rfl:i=N:=by omega
      have gi:decide ((i:Int)<(i:Int))=false:=by simp
      have gin:decide (i<i)=false:=by simp
      have hm2:=hm.out;rw[Z3 (by rw[HN.out];exact Q6 _),List.map_nil,D5]at hm2;subst hm2;clear hm HIH;go_wp2_with fail;go_ret;exact⟨rfl,hb.out⟩
theorem Q1g:∀ (n h:Nat) (l:List Vl) (oa:Option Addr) (cap b o:Nat) (w:World) (D:Int),D=64-(n:Int)→n≤64→Zw w h oa cap b o l →
  Calls Tryz.prog 44 #[.slice oa l.length cap,.int .i64 D] w fun e w'=>e=.returned (.bool (Jf n (l.map Vl.c)))∧Below w.heap.size w w':=by
 intro n
 induction n using Nat.strongRecOn with
 | _ n ih =>
   intro h l oa cap b o w D hD hn hs;obtain⟨N,hN⟩:∃ N,l.length=N:=⟨_,rfl⟩;rw[hN];have hsm:=hs.small;rw[hN]at hsm;have HS:=Q1 hs;have HN:=Q1 hN;obtain⟨M,hM⟩:∃ M,Jf n (l.map Vl.c)=M:=⟨_,rfl⟩;rw[hM];have HM:=Q1 (show Jf n ((l.drop 0).map Vl.c)=M from hM);have HIH:=Q1 ih;have HDD:=Q1 hD
   have d0:0≤D:=by omega
   have d1:D≤64:=by omega
   clear ih hs hN hM hD
   go_enter Tryz.func44,Tryz.ntmps44
   go_wp2_with fail
   go_loopg [9] N (fun q s9 wr=>∃ (i:Nat),s9=.int .i64 i∧Hid (Below w.heap.size w wr)∧Hid (Jf n ((l.drop i).map Vl.c)=M)∧i≤N∧N-i≤q)
   case atStart=>exact⟨0,rfl,Q1 (Below.refl _ _),HM,Qs _,by omega⟩
   case round =>
    clear HM;obtain⟨i,rfl,hb,hm,hiN,hq⟩:=hrel
    by_cases hi:i<N
    · have gi:decide ((i:Int)<(N:Int))=true:=by simpa using hi
      have gin:decide (i<N)=true:=by simpa using hi
      have hil:i<l.length:=by rw[HN.out];exact hi
      have hli:l[i]?=some l[i]:=Q9 hil;have hs2:=HS.out.below hb.out;have hv:=hs2.each i _ hli;have hm2:=hm.out;rw[Qv hil,List.map_cons]at hm2;obtain⟨rfl,hbl⟩:=hs2.sl.lies (by omega);obtain⟨x,hx⟩:∃ x,l[i]=x:=⟨_,rfl⟩;rw[hx]at hli hv hm2;obtain⟨t,koa,kb,ko,kcap,kids⟩:=x;obtain _ | h:=h
      · exact hv.elim
      have f0:=hs2.cell hli (j:=0) rfl;have f1:=hs2.cell hli (j:=1) rfl;have f2:=hs2.cell hli (j:=2) rfl;have f3:=hs2.cell hli (j:=3) rfl;have f4:=hs2.cell hli (j:=4) rfl;have f5:=hs2.cell hli (j:=5) rfl;have f6:=hs2.cell hli (j:=6) rfl;rw[Nat.add_zero]at f0;rw[Vl.c_mk,Y7]at hm2;obtain⟨K,hK⟩:∃ K,kids.length=K:=⟨_,rfl⟩
      have hke:(kids.map Vl.c).isEmpty=(K==0):=by rw[← hK,List.isEmpty_map];cases kids<;>rfl
      rw[hK]at f6;have hks:=hv.kids;have h64:=hv.1;obtain⟨tk,tt,⟨tn,td⟩,ti,tid⟩:=t;obtain⟨hk64,_,_⟩:=h64;unfold Wj at hk64
      have hcl:=fun w=>Wu tk w
      obtain⟨C,hC⟩:∃ C,J2 tk=C:=⟨_,rfl⟩;rw[hC]at hcl;simp only[hC,hke]at hm2;have HCL:=Q1 hcl;have HB:=Q1 hb.out;have HMM:=Q1 hm2;clear hcl hm2 hm hv hs2 hli hx hC hke;have hnew:=Below.alloc hb.out hb.out.size (.cells #[.int .i64 tk,.string ⟨tt.toArray⟩,.int .i64 tn,.int .i64 td,.bool ti,.bool tid,.slice koa K kcap] 28);have HNW:=Q1 hnew;have HKS:=Q1 (hks.below ((Below.refl wr.heap.size wr).alloc (Q6 _) (.cells #[.int .i64 tk,.string ⟨tt.toArray⟩,.int .i64 tn,.int .i64 td,.bool ti,.bool tid,.slice koa K kcap] 28)));clear hnew hks hb
      by_cases hk:1≤tk∧tk≤24
      · have k1:decide (tk<(1:Int))=false:=by simp;omega
        have k2:decide ((24:Int)<tk)=false:=by simp;omega
        by_cases hC0:C=0
        · subst hC0
          by_cases hK0:K=0
          · have gK:decide ((0:Int)<(K:Int))=false:=by simp;omega
            have gKn:decide (0<K)=false:=by simp;omega
            have HM2:=Q1 (show Jf n ((l.drop (i+1)).map Vl.c)=M by rw[← HMM.out];simp[hk.1,hk.2,hK0]);clear HMM HKS hK0;go_wp2_with fail;go_wp2_with fail
            ((with_reducible refine(HCL.out _).mono ?_);rintro e w' ⟨rfl,rfl⟩)
            go_wp2_with fail
            go_roundg (N-(i+1))
            case measure=>omega
            case rel=>exact⟨i+1,by go_num,HNW,HM2,hi,Q6 _⟩
          · have gK:decide ((0:Int)<(K:Int))=true:=by simp;omega
            have gKn:decide (0<K)=true:=by simp;omega
            have HM2:=Q1 (show M=false by rw[← HMM.out];simp[hK0]);clear HMM HKS hK0;go_wp2_with fail;go_wp2_with fail
            ((with_reducible refine(HCL.out _).mono ?_);rintro e w' ⟨rfl,rfl⟩)
            go_wp2_with fail;go_ret;exact⟨Qw (by rw[HM2.out]),HNW.out⟩
        · have gC:(C==0)=false:=by simpa using hC0
          by_cases hn0:n=0
          · subst hn0
            have gD:decide ((64:Int)≤D)=true:=by have:=HDD.out;simp;omega
            have HM2:=Q1 (show M=false by rw[← HMM.out];simp[hC0]);clear HMM HKS;go_wp2_with fail;go_wp2_with fail
            ((with_reducible refine(HCL.out _).mono ?_);rintro e w' ⟨rfl,rfl⟩)
            go_wp2_with fail;go_ret;exact⟨Qw (by rw[HM2.out]),HNW.out⟩
          · obtain⟨n',rfl⟩:∃ n',n=n'+1:=⟨n-1,by omega⟩
            have gD:decide ((64:Int)≤D)=false:=by have:=HDD.out;simp;omega
            have hrec:=HIH.out n' (by omega) h kids koa kcap kb ko _ (D+1) (by have:=HDD.out;omega) (by omega) HKS.out;rw[hK]at hrec;obtain⟨R,hR⟩:∃ R,Jf n' (kids.map Vl.c)=R:=⟨_,rfl⟩;rw[hR]at hrec;have hmm:=HMM.out;simp only[if_neg hC0,hR]at hmm;have HM2:=Q1 hmm;have HRC:=Q1 hrec;clear hrec hR hmm HMM HKS HIH;go_wp2_with fail;go_wp2_with fail
            ((with_reducible refine(HCL.out _).mono ?_);rintro e w' ⟨rfl,rfl⟩)
            go_wp2_with fail;go_wp2_with fail
            ((with_reducible refine(HRC.out).mono ?_);rintro e w' ⟨rfl,hbw⟩)
            obtain⟨m,rfl⟩:=Qf hbw;clear hbw;have HNX:=Q1 (Qa HNW.out m)
            cases R with
            | true =>
              have HM3:=Q1 (show Jf (n'+1) ((l.drop (i+1)).map Vl.c)=M by rw[← HM2.out];simp[hk.1,hk.2]);clear HM2 HRC HNW;go_wp2_with fail
              go_roundg (N-(i+1))
              case measure=>omega
              case rel=>exact⟨i+1,by go_num,HNX,HM3,hi,Q6 _⟩
            | false =>
              have HM3:=Q1 (show M=false by rw[← HM2.out];simp);clear HM2 HRC HNW;go_wp2_with fail;go_ret;exact⟨Qw (by rw[HM3.out]),HNX.out⟩
      · have HM2:=Q1 (show M=false by
         rw[← HMM.out]
         have:(decide (1≤tk)&&decide (tk≤24))=false:=by rw[Bool.and_eq_false_iff];simp only[decide_eq_false_iff_not];omega
         rw[this];simp)
        have ways:decide (tk<(1:Int))=true∨decide (tk<(1:Int))=false∧decide ((24:Int)<tk)=true:=by
         by_cases h1:tk<1
         · exact Or.inl (by simpa using h1)
         · exact Or.inr ⟨by simpa using h1,by simp;omega⟩
        clear HMM HKS hk
        rcases ways with k1 | ⟨k1,k2⟩
        all_goals
         go_wp2_with fail;go_ret;exact⟨Qw (by rw[HM2.out]),HNW.out⟩
    · obtain rfl:i=N:=by omega
      have gi:decide ((i:Int)<(i:Int))=false:=by simp
      have gin:decide (i<i)=false:=by simp
      have hm2:=hm.out;rw[Z3 (by rw[HN.out];exact Q6 _),List.map_nil,D5]at hm2;subst hm2;clear hm HIH;go_wp2_with fail;go_ret;exact⟨rfl,hb.out⟩
theorem Nz (h:Nat) (l:List Vl) (oa:Option Addr) (cap b o:Nat) (w:World) (hs:Zw w h oa cap b o l) :
  Calls Tryz.prog 21 #[.slice oa l.length cap] w fun e w'=>e=.returned (.bool (Jf 64 (l.map Vl.c)))∧Below w.heap.size w w':=by
 have HM:=Q1 (Q4f 64 h l oa cap b o w 64 rfl (Q6 _) hs);clear hs
 go_enter Tryz.func21,Tryz.ntmps21
 go_wp2_with fail
 ((with_reducible refine(HM.out).mono ?_);rintro e w' ⟨rfl,hbw⟩)
 obtain⟨m,rfl⟩:=Qf hbw;clear hbw;go_wp2_with fail;go_ret;exact⟨rfl,Qk m⟩
theorem Dw (h:Nat) (l:List Vl) (oa:Option Addr) (cap b o:Nat) (w:World) (hs:Zw w h oa cap b o l) :
  Calls Tryz.prog 14 #[.slice oa l.length cap] w fun e w'=>e=.returned (.bool (Jf 64 (l.map Vl.c)))∧Below w.heap.size w w':=by
 have HM:=Q1 (Q1g 64 h l oa cap b o w 0 rfl (Q6 _) hs);clear hs
 go_enter Tryz.func14,Tryz.ntmps14
 go_wp2_with fail
 ((with_reducible refine(HM.out).mono ?_);rintro e w' ⟨rfl,hbw⟩)
 obtain⟨m,rfl⟩:=Qf hbw;clear hbw;go_wp2_with fail;go_ret;exact⟨rfl,Qk m⟩
theorem Zw.part {w:World} {h:Nat} {oa:Option Addr} {cap b o:Nat} {l:List Vl} (hs:Zw w h oa cap b o l) {a c:Nat} (hac:a≤c) (hc:c≤l.length) :
  Zw w h (if cap=a then oa else oa.map (·.add (a*7))) (cap-a) b (o+a*7) ((l.take c).drop a):=by
 have hlen:((l.take c).drop a).length=c-a:=by rw[Zu,Zb];omega
 have hat:∀ i,((l.take c).drop a)[i]?=if a+i<c then l[a+i]? else none:=fun i=>by rw[List.getElem?_drop,List.getElem?_take]
 have h1:=hs.small;have h2:=hs.sl.le;have h3:=hs.sl.max;refine⟨by omega,⟨by rw[Jg Ji],by omega,by omega,fun hp=>?_,fun j v hv=>?_⟩,fun i x hi=>?_⟩
 · obtain⟨hx,hb⟩:=hs.sl.lies (by omega);rw[if_neg (by omega),hx];exact⟨by rw[Option.map_some,Addr.add_lit],hb⟩
 · obtain⟨i,x,k,g1,g2,rfl⟩:=Bc Ji (by omega) _ _ _ hv;rw[hat]at g1;split at g1
   · have:=hs.cell g1 g2;rw[Nat.add_mul]at this;rw[show o+a*7+(i*7+k)=o+(a*7+i*7)+k by omega];exact this
   · cases g1
 · rw[hat]at hi;split at hi
   · exact hs.each _ _ hi
   · cases hi
def spL:Vl→Bool
 | .mk t _ _ _ _ _=>t.kind==13
theorem La (tk tn td:Int) (tt:List UInt8) (ti tid:Bool) (koa:Option Addr) (K kcap:Nat) (w:World) :
  Calls Tryz.prog 59 #[.agg #[.int .i64 tk,.string ⟨tt.toArray⟩,.int .i64 tn,.int .i64 td,.bool ti,.bool tid,.slice koa K kcap]] w fun e w'=>e=.returned (.bool (tk==13))∧Below w.heap.size w w':=by
 go_enter Tryz.func59,Tryz.ntmps59
 go_wp2_with fail;go_ret;exact⟨rfl,Q7 _ _⟩
theorem L9 (tk tn td:Int) (tt:List UInt8) (ti tid:Bool) (koa:Option Addr) (K kcap:Nat) (w:World) :
  Calls Tryz.prog 87 #[.agg #[.int .i64 tk,.string ⟨tt.toArray⟩,.int .i64 tn,.int .i64 td,.bool ti,.bool tid,.slice koa K kcap]] w fun e w'=>e=.returned (.bool (tk==13))∧Below w.heap.size w w':=by
 go_enter Tryz.func87,Tryz.ntmps87
 go_wp2_with fail;go_ret;exact⟨rfl,Q7 _ _⟩
def Vf (l:List Vl):List Vl:=l.dropWhile spL
def Wh (l:List Vl):List Vl:=(l.reverse.dropWhile spL).reverse
def V4 (l:List Vl):List Vl:=Wh (Vf l)
theorem Fw {l:List Vl} {a:Nat} (h:a<l.length) (hs:spL l[a]=true):Vf (l.drop a)=Vf (l.drop (a+1)):=by
 unfold Vf;rw[Qv h,List.dropWhile_cons_of_pos hs]
theorem Fv {l:List Vl} {a:Nat} (h:a<l.length) (hs:spL l[a]=false):Vf (l.drop a)=l.drop a:=by
 unfold Vf;rw[Qv h,List.dropWhile_cons_of_neg (by simp[hs])]
theorem Ns {l:List Vl} {a b:Nat} (h:a<b) (hb:b≤l.length):(l.take b).drop a=(l.take (b-1)).drop a++[l[b-1]]:=by
 obtain⟨c,rfl⟩:∃ c,b=c+1:=⟨b-1,by omega⟩;show (l.take (c+1)).drop a=(l.take c).drop a++[l[c]'(by omega)];rw[Ze (by omega),List.drop_append_of_le_length (by rw[Zb];omega)]
theorem Mx {l:List Vl} {a b:Nat} (h:a<b) (hb:b≤l.length) (hs:spL l[b-1]=true):Wh ((l.take b).drop a)=Wh ((l.take (b-1)).drop a):=by
 rw[Ns h hb];unfold Wh;rw[List.reverse_append,List.reverse_singleton,List.singleton_append,List.dropWhile_cons_of_pos hs]
theorem Mw {l:List Vl} {a b:Nat} (h:a<b) (hb:b≤l.length) (hs:spL l[b-1]=false):Wh ((l.take b).drop a)=(l.take b).drop a:=by
 rw[Ns h hb];unfold Wh;rw[List.reverse_append,List.reverse_singleton,List.singleton_append,List.dropWhile_cons_of_neg (by simp[hs]),List.reverse_cons,List.reverse_reverse]
theorem Kx (h:Nat) (l:List Vl) (oa:Option Addr) (cap b o:Nat) (w:World) (hs:Zw w h oa cap b o l) :
  Calls Tryz.prog 22 #[.slice oa l.length cap] w fun e w'=>(∃ oa' cap' o',e=.returned (.slice oa' (V4 l).length cap')∧∀ wz hz,Zw wz hz oa cap b o l→Zw wz hz oa' cap' b o' (V4 l))∧Below w.heap.size w w':=by
 obtain⟨N,hN⟩:∃ N,l.length=N:=⟨_,rfl⟩;rw[hN];have hsm:=hs.small;have hcm:=hs.sl.max;have hcl:=hs.sl.le;unfold maxLen at hcm;rw[hN]at hsm hcl;have HS:=Q1 hs;have HN:=Q1 hN;clear hs hN
 go_enter Tryz.func22,Tryz.ntmps22
 go_upto_block 0 with fail
 go_cut [3] (fun s wx=>∃ (a:Nat),s=.int .i64 a∧a≤N∧Hid (Below w.heap.size w wx)∧Hid (Vf l=l.drop a))
 case first =>
  go_wp2_with fail
  go_loopg [3] N (fun q s wr=>∃ (i:Nat),s=.int .i64 i∧Hid (Below w.heap.size w wr)∧Hid (Vf (l.drop i)=Vf l)∧i≤N∧N-i≤q)
  case atStart=>exact⟨0,rfl,Q1 (Below.refl _ _),Q1 rfl,Qs _,by omega⟩
  case round =>
   obtain⟨i,rfl,hb,hm,hiN,hq⟩:=hrel
   by_cases hi:i<N
   · have gi:decide ((i:Int)<(N:Int))=true:=by simpa using hi
     have gin:decide (i<N)=true:=by simpa using hi
     have hil:i<l.length:=by rw[HN.out];exact hi
     have hli:l[i]?=some l[i]:=Q9 hil;have hs2:=HS.out.below hb.out;obtain⟨rfl,hbl⟩:=hs2.sl.lies (by omega);obtain⟨x,hx⟩:∃ x,l[i]=x:=⟨_,rfl⟩;rw[hx]at hli;obtain⟨t,koa,kb,ko,kcap,kids⟩:=x;obtain⟨K,hK⟩:∃ K,kids.length=K:=⟨_,rfl⟩;have f0:=hs2.cell hli (j:=0) rfl;have f1:=hs2.cell hli (j:=1) rfl;have f2:=hs2.cell hli (j:=2) rfl;have f3:=hs2.cell hli (j:=3) rfl;have f4:=hs2.cell hli (j:=4) rfl;have f5:=hs2.cell hli (j:=5) rfl;have f6:=hs2.cell hli (j:=6) rfl;rw[Nat.add_zero]at f0;rw[hK]at f6;obtain⟨tk,tt,⟨tn,td⟩,ti,tid⟩:=t
     have hsp:spL l[i]=(tk==13):=by rw[hx];rfl
     have HC:=Q1 (fun w=>La tk tn td tt ti tid koa K kcap w);have HSP:=Q1 hsp;clear hs2 hli hx hsp hK
     by_cases hk:tk=13
     · subst hk;go_wp2_with fail;go_wp2_with fail
       ((with_reducible refine(HC.out _).mono ?_);rintro e w' ⟨rfl,hbw⟩)
       obtain⟨m,rfl⟩:=Qf hbw;clear hbw;go_wp2_with fail
       go_roundg (N-(i+1))
       case measure=>omega
       case rel=>exact⟨i+1,by go_num,Q1 (Qa hb.out m),Q1 (by rw[← Fw hil HSP.out];exact hm.out),hi,Q6 _⟩
     · have gk:(tk==(13:Int))=false:=by simpa using hk
       go_wp2_with fail;go_wp2_with fail
       ((with_reducible refine(HC.out _).mono ?_);rintro e w' ⟨rfl,hbw⟩)
       obtain⟨m,rfl⟩:=Qf hbw;clear hbw;go_wp2_with fail;go_meet
       case rel=>exact⟨i,rfl,hiN,Q1 (Qa hb.out m),Q1 (by rw[← hm.out];exact Fv hil (HSP.out.trans gk))⟩
   · have gi:decide ((i:Int)<(N:Int))=false:=by simpa using hi
     have gin:decide (i<N)=false:=by simpa using hi
     go_wp2_with fail;go_meet
     case rel=>exact⟨i,rfl,hiN,hb,Q1 (by rw[← hm.out,Z3 (by rw[HN.out];omega)];rfl)⟩
 case rest =>
  obtain⟨a,rfl,haN,hb0,hfr⟩:=hcut
  have hR:Wh ((l.take N).drop a)=V4 l:=by rw[← HN.out,List.take_length,← hfr.out];rfl
  have HR:=Q1 hR;clear hR hfr
  go_upto_block 2 with fail
  go_cut [4] (fun s wx=>∃ (c:Nat),s=.int .i64 c∧a≤c∧c≤N∧Hid (Below w.heap.size w wx)∧Hid (V4 l=(l.take c).drop a))
  case first =>
   go_wp2_with fail
   go_loopg [4] N (fun q s wr=>∃ (c:Nat),s=.int .i64 c∧Hid (Below w.heap.size w wr)∧Hid (Wh ((l.take c).drop a)=V4 l)∧a≤c∧c≤N∧c≤q)
   case atStart=>exact⟨N,rfl,hb0,HR,haN,Q6 _,Q6 _⟩
   case round =>
    obtain⟨c,rfl,hb,hm,hac,hcN,hq⟩:=hrel
    by_cases hi:a<c
    · have gi:decide ((a:Int)<(c:Int))=true:=by simpa using hi
      have gin:decide (a<c)=true:=by simpa using hi
      obtain⟨i,rfl⟩:∃ i,c=i+1:=⟨c-1,by omega⟩
      have hil:i<l.length:=by rw[HN.out];omega
      have hli:l[i]?=some l[i]:=Q9 hil;have hs2:=HS.out.below hb.out;obtain⟨rfl,hbl⟩:=hs2.sl.lies (by omega);obtain⟨x,hx⟩:∃ x,l[i]=x:=⟨_,rfl⟩;rw[hx]at hli;obtain⟨t,koa,kb,ko,kcap,kids⟩:=x;obtain⟨K,hK⟩:∃ K,kids.length=K:=⟨_,rfl⟩;have f0:=hs2.cell hli (j:=0) rfl;have f1:=hs2.cell hli (j:=1) rfl;have f2:=hs2.cell hli (j:=2) rfl;have f3:=hs2.cell hli (j:=3) rfl;have f4:=hs2.cell hli (j:=4) rfl;have f5:=hs2.cell hli (j:=5) rfl;have f6:=hs2.cell hli (j:=6) rfl;rw[Nat.add_zero]at f0;rw[hK]at f6;obtain⟨tk,tt,⟨tn,td⟩,ti,tid⟩:=t
      have hsp:spL l[i]=(tk==13):=by rw[hx];rfl
      have HC:=Q1 (fun w=>La tk tn td tt ti tid koa K kcap w);have HSP:=Q1 hsp
      have hix:(((i+1:Nat):Int))-1=(i:Int):=by omega
      clear hs2 hli hx hsp hK
      by_cases hk:tk=13
      · subst hk;go_wp2_with fail;go_wp2_with fail
        ((with_reducible refine(HC.out _).mono ?_);rintro e w' ⟨rfl,hbw⟩)
        obtain⟨m,rfl⟩:=Qf hbw;clear hbw;go_wp2_with fail
        go_roundg i
        case measure=>omega
        case rel=>exact⟨i,by go_num,Q1 (Qa hb.out m),Q1 (by rw[← hm.out];exact(Mx (b:=i+1) (by omega) (by omega) HSP.out).symm),by omega,by omega,Q6 _⟩
      · have gk:(tk==(13:Int))=false:=by simpa using hk
        go_wp2_with fail;go_wp2_with fail
        ((with_reducible refine(HC.out _).mono ?_);rintro e w' ⟨rfl,hbw⟩)
        obtain⟨m,rfl⟩:=Qf hbw;clear hbw;go_wp2_with fail;go_meet
        case rel=>exact⟨i+1,rfl,hac,hcN,Q1 (Qa hb.out m),Q1 (by rw[← hm.out];exact Mw (b:=i+1) (by omega) (by omega) (HSP.out.trans gk))⟩
    · have gi:decide ((a:Int)<(c:Int))=false:=by simpa using hi
      have gin:decide (a<c)=false:=by simpa using hi
      go_wp2_with fail;go_meet
      case rel=>exact⟨c,rfl,hac,hcN,hb,Q1 (by rw[← hm.out,Z3 (by rw[Zb];omega)];rfl)⟩
  case rest =>
   obtain⟨c,rfl,hac,hcN,hb,ht⟩:=hcut;have HP:=Q1 (fun(wz:World) (h:Nat) (hz:Zw wz h oa cap b o l)=>hz.part hac (by rw[HN.out];exact hcN));have HL:=Q1 (show (V4 l).length=c-a by rw[ht.out,Zu,Zb,HN.out];omega);go_wp2_with fail
   · have hca:cap=a:=by assumption
     go_ret;refine⟨⟨oa,0,by rw[HL.out];rfl,o+a*7,fun wz h hz=>?_⟩,hb.out⟩;have HP2:=HP.out wz h (by rw[hca];exact hz);rw[if_pos hca,show cap-a=0 by omega]at HP2;rw[ht.out];exact HP2
   · have hca:¬ cap=a:=by assumption
     go_ret;refine⟨⟨oa.map (·.add (a*7)),cap-a,by rw[HL.out];rfl,o+a*7,fun wz h hz=>?_⟩,hb.out⟩;have HP2:=HP.out wz h hz;rw[if_neg hca]at HP2;rw[ht.out];exact HP2
theorem Zw.front {w:World} {h:Nat} {oa:Option Addr} {cap b o:Nat} {l:List Vl} (hs:Zw w h oa cap b o l) {c:Nat} (hc:c≤l.length):Zw w h oa cap b o (l.take c):=by
 have:=hs.part (a:=0) (Qs c) hc;rw[List.drop_zero,Nat.sub_zero,Nat.zero_mul,Nat.add_zero]at this
 have e:(if cap=0 then oa else oa.map (·.add 0))=oa:=by
  split
  · rfl
  · cases oa<;>rfl
 rw[e]at this;exact this
theorem Rl (h:Nat) (l:List Vl) (oa:Option Addr) (cap b o:Nat) (w:World) (hs:Zw w h oa cap b o l) :
  Calls Tryz.prog 46 #[.slice oa l.length cap] w fun e w'=>(∃ oa' cap' o',e=.returned (.slice oa' (V4 l).length cap')∧Zw w' h oa' cap' b o' (V4 l))∧Below w.heap.size w w':=by
 have HS:=Q1 hs;clear hs
 go_enter Tryz.func46,Tryz.ntmps46
 go_upto_block 0 with fail
 go_cut [0] (fun s wx=>∃ (oa':Option Addr) (cap' o' M:Nat),s=.slice oa' M cap'∧Hid (M=(Vf l).length)∧Hid (Below w.heap.size w wx)∧Hid (Zw wx h oa' cap' b o' (Vf l)))
 case first =>
  go_wp2_with fail
  go_loopg [0] l.length (fun q s wr=>∃ (m:List Vl) (oa':Option Addr) (cap' o' M:Nat),s=.slice oa' M cap'∧Hid (M=m.length)∧Hid (Below w.heap.size w wr)∧Hid (Zw wr h oa' cap' b o' m)∧Hid (Vf m=Vf l)∧M≤q)
  case atStart=>exact⟨l,oa,cap,o,_,rfl,Q1 rfl,Q1 (Below.refl _ _),HS,Q1 rfl,Q6 _⟩
  case round =>
   obtain⟨m,oa',cap',o',M,rfl,hM,hb,hv,hm,hq⟩:=hrel;have hs2:=hv.out;have hsm:=hs2.small;have hcm:=hs2.sl.max;have hcl:=hs2.sl.le;unfold maxLen at hcm;rw[← hM.out]at hsm hcl
   by_cases hi:0<M
   · have gi:decide ((0:Int)<(M:Int))=true:=by simpa using hi
     have gin:decide (0<M)=true:=by simpa using hi
     have hil:0<m.length:=by rw[← hM.out];exact hi
     have hli:m[0]?=some m[0]:=Q9 hil;obtain⟨rfl,hbl⟩:=hs2.sl.lies (by omega);obtain⟨x,hx⟩:∃ x,m[0]=x:=⟨_,rfl⟩;rw[hx]at hli;obtain⟨t,koa,kb,ko,kcap,kids⟩:=x;obtain⟨K,hK⟩:∃ K,kids.length=K:=⟨_,rfl⟩;have f0:=hs2.cell hli (j:=0) rfl;have f1:=hs2.cell hli (j:=1) rfl;have f2:=hs2.cell hli (j:=2) rfl;have f3:=hs2.cell hli (j:=3) rfl;have f4:=hs2.cell hli (j:=4) rfl;have f5:=hs2.cell hli (j:=5) rfl;have f6:=hs2.cell hli (j:=6) rfl;rw[Nat.add_zero]at f0;rw[hK]at f6;obtain⟨tk,tt,⟨tn,td⟩,ti,tid⟩:=t
     have hsp:spL m[0]=(tk==13):=by rw[hx];rfl
     have HC:=Q1 (fun w=>L9 tk tn td tt ti tid koa K kcap w);have HSP:=Q1 hsp;rw[Nat.zero_mul,Nat.add_zero]at f1 f2 f3 f4 f5 f6;clear hs2 hli hx hsp hK
     by_cases hk:tk=13
     · subst hk;have HPT:=Q1 (hv.out.part (a:=1) (c:=m.length) hil (Q6 _));have HPL:=Q1 (show M-1=((m.take m.length).drop 1).length by rw[List.take_length,Zu,hM.out]);have HFR:=Q1 (show Vf ((m.take m.length).drop 1)=Vf l by rw[List.take_length,← Fw hil HSP.out];exact hm.out);go_wp2_with fail;go_wp2_with fail
       ((with_reducible refine(HC.out _).mono ?_);rintro e w' ⟨rfl,hbw⟩)
       obtain⟨mm,rfl⟩:=Qf hbw;clear hbw;go_wp2_with fail
       · have HP2:=HPT.out;rw[if_pos (by assumption),show cap'-1=0 by omega]at HP2;have HP3:=Q1 (HP2.below (Qk mm))
         go_roundg (M-1)
         case measure=>omega
         case rel=>exact⟨_,some ⟨b,o',none⟩,0,o'+1*7,M-1,rfl,HPL,Q1 (Qa hb.out mm),HP3,HFR,Q6 _⟩
       · have HP2:=HPT.out;rw[if_neg (by assumption),Option.map_some,Addr.add_lit]at HP2;have HP3:=Q1 (HP2.below (Qk mm))
         go_roundg (M-1)
         case measure=>omega
         case rel=>exact⟨_,some ⟨b,o'+1*7,none⟩,cap'-1,o'+1*7,M-1,rfl,HPL,Q1 (Qa hb.out mm),HP3,HFR,Q6 _⟩
     · have gk:(tk==(13:Int))=false:=by simpa using hk
       go_wp2_with fail;go_wp2_with fail
       ((with_reducible refine(HC.out _).mono ?_);rintro e w' ⟨rfl,hbw⟩)
       obtain⟨mm,rfl⟩:=Qf hbw;clear hbw;go_wp2_with fail;go_meet
       case rel =>
        have hfm:Vf l=m:=by rw[← hm.out];exact Fv (a:=0) hil (HSP.out.trans gk)
        rw[hfm];exact⟨_,cap',o',M,rfl,hM,Q1 (Qa hb.out mm),Q1 (hv.out.below (Qk mm))⟩
   · have gi:decide ((0:Int)<(M:Int))=false:=by simpa using hi
     have gin:decide (0<M)=false:=by simpa using hi
     go_wp2_with fail;go_meet
     case rel =>
      have hmn:m=[]:=List.eq_nil_of_length_eq_zero (by rw[← hM.out];omega)
      have hfm:Vf l=m:=by rw[← hm.out,hmn];rfl
      rw[hfm];exact⟨oa',cap',o',M,rfl,hM,hb,hv⟩
 case rest =>
  obtain⟨oa',cap',o',M,rfl,hM0,hb0,hv0⟩:=hcut;obtain⟨F,hF⟩:∃ F,Vf l=F:=⟨_,rfl⟩;have hF0:=Q1 (show V4 l=Wh F by rw[← hF];rfl);rw[hF]at hM0 hv0;clear hF
  go_upto_block 2 with fail
  go_cut [0] (fun s wx=>∃ (L:Nat),s=.slice oa' L cap'∧Hid (L=(V4 l).length)∧Hid (Below w.heap.size w wx)∧Hid (Zw wx h oa' cap' b o' (V4 l)))
  case first =>
   go_wp2_with fail
   go_loopg [0] M (fun q s wr=>∃ (m:List Vl) (L:Nat),s=.slice oa' L cap'∧Hid (L=m.length)∧Hid (Below w.heap.size w wr)∧Hid (Zw wr h oa' cap' b o' m)∧Hid (Wh m=V4 l)∧L≤q)
   case atStart=>exact⟨F,M,rfl,hM0,hb0,hv0,Q1 hF0.out.symm,Q6 _⟩
   case round =>
    obtain⟨m,L,rfl,hM,hb,hv,hm,hq⟩:=hrel;have hs2:=hv.out;have hsm:=hs2.small;have hcm:=hs2.sl.max;have hcl:=hs2.sl.le;unfold maxLen at hcm;rw[← hM.out]at hsm hcl
    by_cases hi:0<L
    · have gi:decide ((0:Int)<(L:Int))=true:=by simpa using hi
      have gin:decide (0<L)=true:=by simpa using hi
      obtain⟨i,rfl⟩:∃ i,L=i+1:=⟨L-1,by omega⟩;have hml:=hM.out
      have hil:i<m.length:=by omega
      have hli:m[i]?=some m[i]:=Q9 hil;obtain⟨rfl,hbl⟩:=hs2.sl.lies (by omega);obtain⟨x,hx⟩:∃ x,m[i]=x:=⟨_,rfl⟩;rw[hx]at hli;obtain⟨t,koa,kb,ko,kcap,kids⟩:=x;obtain⟨K,hK⟩:∃ K,kids.length=K:=⟨_,rfl⟩;have f0:=hs2.cell hli (j:=0) rfl;have f1:=hs2.cell hli (j:=1) rfl;have f2:=hs2.cell hli (j:=2) rfl;have f3:=hs2.cell hli (j:=3) rfl;have f4:=hs2.cell hli (j:=4) rfl;have f5:=hs2.cell hli (j:=5) rfl;have f6:=hs2.cell hli (j:=6) rfl;rw[Nat.add_zero]at f0;rw[hK]at f6;obtain⟨tk,tt,⟨tn,td⟩,ti,tid⟩:=t
      have hsp:spL m[i]=(tk==13):=by rw[hx];rfl
      have HC:=Q1 (fun w=>L9 tk tn td tt ti tid koa K kcap w);have HSP:=Q1 hsp
      have hix:(((i+1:Nat):Int))-1=(i:Int):=by omega
      have hwhole:m=(m.take (i+1)).drop 0:=by rw[List.drop_zero,Zc (by omega)]
      have HW:=Q1 hwhole;clear hs2 hli hx hsp hK hml hwhole
      by_cases hk:tk=13
      · subst hk;have HPT:=Q1 (hv.out.front (c:=i) (Zg hil));have HPL:=Q1 (show i=(m.take i).length by rw[Zb];omega)
        have HFR:=Q1 (show Wh (m.take i)=V4 l by
         have e:=Mx (l:=m) (a:=0) (b:=i+1) (Nat.succ_pos _) hil HSP.out;rw[← HW.out,List.drop_zero,Nat.add_sub_cancel]at e;rw[← e]
         exact hm.out)
        go_wp2_with fail;go_wp2_with fail
        ((with_reducible refine(HC.out _).mono ?_);rintro e w' ⟨rfl,hbw⟩)
        obtain⟨mm,rfl⟩:=Qf hbw;clear hbw;go_wp2_with fail
        all_goals (
         have HP3:=Q1 (HPT.out.below (Qk mm))
         go_roundg i
         case measure=>omega
         case rel=>exact⟨_,i,by go_num,HPL,Q1 (Qa hb.out mm),HP3,HFR,Q6 _⟩)
      · have gk:(tk==(13:Int))=false:=by simpa using hk
        go_wp2_with fail;go_wp2_with fail
        ((with_reducible refine(HC.out _).mono ?_);rintro e w' ⟨rfl,hbw⟩)
        obtain⟨mm,rfl⟩:=Qf hbw;clear hbw;go_wp2_with fail;go_meet
        case rel =>
         have hfm:V4 l=m:=by
          have e:=Mw (l:=m) (a:=0) (b:=i+1) (Nat.succ_pos _) hil (HSP.out.trans gk);rw[← HW.out]at e;rw[← hm.out];exact e
         rw[hfm];exact⟨i+1,rfl,hM,Q1 (Qa hb.out mm),Q1 (hv.out.below (Qk mm))⟩
    · have gi:decide ((0:Int)<(L:Int))=false:=by simpa using hi
      have gin:decide (0<L)=false:=by simpa using hi
      go_wp2_with fail;go_meet
      case rel =>
       have hmn:m=[]:=List.eq_nil_of_length_eq_zero (by rw[← hM.out];omega)
       have hfm:V4 l=m:=by rw[← hm.out,hmn];rfl
       rw[hfm];exact⟨L,rfl,hM,hb,hv⟩
  case rest =>
   obtain⟨L,rfl,hL,hb,hv⟩:=hcut;go_wp2_with fail;go_ret;exact⟨⟨oa',cap',o',by rw[← hL.out];rfl,hv.out⟩,hb.out⟩
def J3 (A:Nat→Prop) (w:World) (φ:World→Prop):Prop:=∀ w':World,w.heap.size≤w'.heap.size→(∀ b,b<w.heap.size→¬ A b→w'.heap[b]?=w.heap[b]?)→φ w'
section
variable {A A':Nat→Prop} {w w':World} {φ ψ:World→Prop} {row:Option Nat}
theorem J3.here (h:J3 A w φ):φ w:=h w (Q6 _) (fun _ _ _=>rfl)
theorem J3.mono (h:J3 A w φ) (hφ:∀ w',φ w'→ψ w'):J3 A w ψ:=fun w' h1 h2=>hφ w' (h w' h1 h2)
theorem J3.and (h:J3 A w φ) (h2:J3 A w ψ):J3 A w (fun w=>φ w∧ψ w):=fun w' a b=>⟨h w' a b,h2 w' a b⟩
theorem J3.anti (h:J3 A w φ) (hA:∀ b,A' b→b<w.heap.size→A b):J3 A' w φ:=fun w' h1 h2=>h w' h1 fun b hb hn=>h2 b hb fun ha=>hn (hA b ha hb)
theorem J3.grown (h:J3 A w φ) (hg:w.grownBy w' row) (hr:∀ k,row=some k→k<w.heap.size→A k):J3 A w' φ:=fun w2 h1 h2 =>
 h w2 (Qz hg.size h1) fun b hb hn=>(h2 b (Qg hb hg.size) hn).trans (hg.block b hb fun e=>hn (hr b e.symm hb))
theorem J3.below (h:J3 A w φ) (hb:Below w.heap.size w w'):J3 A w' φ:=h.grown (Qc hb none) (fun _ e=>by cases e)
theorem J3.grow (h:J3 A w φ) (m:Kc w):J3 A (Go.Proofs.YtnanffmhbjdpaaaGreatDoor.grow w m) φ:=h.below (Qk m)
theorem J3.set (h:J3 A w φ) {p:Addr} (hp:A p.block) (u:Value):J3 A (w.setCell p u) φ:=fun w2 h1 h2 =>
 h w2 (by simpa using h1) fun b hb hn=>(h2 b (by simpa using hb) hn).trans (Below.heap_setCell w p u b fun e=>hn (e ▸ hp))
theorem J3.alloc (h:J3 A w φ) (o:Obj):J3 A (w.alloc o) φ:=h.below (Q7 w o)
theorem J3.wide (h:J3 A w φ) (hA:∀ b,A' b→A b∨w.heap.size≤b):J3 A' w φ:=h.anti fun b hb hl=>(hA b hb).resolve_right (by omega)
end
def Hx (w w':World):Prop:=w.heap.size≤w'.heap.size∧∀ b,b<w.heap.size→w'.heap[b]?=w.heap[b]?
theorem Hx.cell {w w':World} (h:Hx w w') {a:Addr} (ha:a.block<w.heap.size):w'.cell? a=w.cell? a:=by
 simp only[World.cell?];rw[h.2 _ ha]
theorem Sl.hx {w w':World} {oa:Option Addr} {n cap b o sz:Nat} {vs:List Value} (h:Sl w oa n cap b o sz vs) (hb:Hx w w'):Sl w' oa n cap b o sz vs :=
 ⟨h.len,h.le,h.max,fun hp=>⟨(h.lies hp).1,Qg (h.lies hp).2 hb.1⟩,fun j v hv=>(hb.cell (a:=⟨b,o+j,none⟩) (h.lies (h.pos hv)).2).trans (h.cell j v hv)⟩
theorem Sl.safe {A:Nat→Prop} {w:World} {oa:Option Addr} {n cap b o sz:Nat} {vs:List Value} (h:Sl w oa n cap b o sz vs) (hA:0<n→¬ A b):J3 A w fun w=>Sl w oa n cap b o sz vs:=fun w' h1 h2 =>
 ⟨h.len,h.le,h.max,fun hp=>⟨(h.lies hp).1,Qg (h.lies hp).2 h1⟩,fun j v hv=>by
   have hp:=h.pos hv;rw[← h.cell j v hv];simp only[World.cell?]
   rw[h2 b (h.lies hp).2 (hA hp)]⟩
theorem Uu.hx:∀ (h:Nat) {v:Vl} {w w':World},Uu w h v→Hx w w'→Uu w' h v
 | 0,_,_,_,hx,_=>hx.elim
 | h+1,.mk t oa b o cap kids,w,w',hx,hb=>⟨hx.1,hx.2.1,hx.2.2.1.hx hb,fun i x hi=>Uu.hx h (hx.2.2.2 i x hi) hb⟩
theorem Zw.hx {w w':World} {h:Nat} {oa:Option Addr} {cap b o:Nat} {l:List Vl} (hs:Zw w h oa cap b o l) (hb:Hx w w'):Zw w' h oa cap b o l :=
 ⟨hs.small,hs.sl.hx hb,fun i x hi=>(hs.each i x hi).hx h hb⟩
theorem Zw.safe {w:World} {h:Nat} {oa:Option Addr} {cap b o:Nat} {l:List Vl} (hs:Zw w h oa cap b o l):J3 (w.heap.size≤·) w fun w=>Zw w h oa cap b o l:=fun _ h1 h2=>hs.hx ⟨h1,fun b hb=>h2 b hb (by omega)⟩
theorem Zw.made {A:Nat→Prop} {w:World} {h:Nat} {oa:Option Addr} {cap b:Nat} {l:List Vl} (h1:l.length*72≤140737488355328) (h2:Sl w oa l.length cap b 0 7 (l.flatMap U3)) (hA:0<l.length→¬ A b)
  (h3:J3 A w fun w=>∀ x∈l,Uu w h x):J3 A w fun w=>Zw w h oa cap b 0 l:=fun w' g1 g2 =>
 ⟨h1,(h2.safe hA) w' g1 g2,fun _ x hi=>h3 w' g1 g2 x (List.mem_of_getElem? hi)⟩
theorem Uu.made {A:Nat→Prop} {w:World} {h:Nat} {t:Tk} {oa:Option Addr} {cap b o:Nat} {l:List Vl} (ht:Bo t) (hs:J3 A w fun w=>Zw w h oa cap b o l):J3 A w fun w=>Uu w (h+1) (.mk t oa b o cap l):=hs.mono fun _ h=>⟨ht,h.small,h.sl,h.each⟩
theorem J4 {ops:Array Oper} {rest:List Oper} {o:Oper} {a:Act} {Q:Exit→Act→World→Prop} {base:Nat} {w:World} {t e:TypeId} {z:Value} {size bytes:Nat} (E:El t e z size bytes)
  (hgd:o.guard=none) (s x:Operand) (ho:o.op=.call { callee:=.builtin .append,args:=#[s,x],argTypes:=#[t,t] }) {v:Value} {n:Nat} {xs:List Value} (hs:a.eval s=v)
  (hown:w.ownsRow base e size v n xs) (hbase:base≤w.heap.size) {B:Nat} {cs:Array Value} {tc:TypeId} (hB:Ql w B tc cs) (c:Nat) (hx:a.eval x=.slice (some ⟨B,0,none⟩) 1 c) (hl:cs.toList.length=size) (h1:∀ u∈cs.toList,u.oneCell'=true)
  (hbytes:(n+1)*bytes≤140737488355328) (h63:n+1≤140737488355328)
  (h:∀ g cap w',w'.ownsRow base e size (.slice (some ⟨g,0,none⟩) (n+1) cap) (n+1) (xs++cs.toList)→w.grownBy w' v.ownBlock→(v.ownBlock=some g∨g=w.heap.size)→(∀ k,v.ownBlock=some k→base≤k∧k<w.heap.size)→wpList Tryz.prog ops Q rest (a.put o.dst (.slice (some ⟨g,0,none⟩) (n+1) cap)) w') :
  wpList Tryz.prog ops Q (o::rest) a w:=by
 obtain⟨i0,hi0,hz0,hz1,hz2⟩:=info_parts E.info
 refine wpList_append_lies _ hgd s x t ho base e i0 z size bytes E.under hi0 hz0 hz1 hz2 E.zs E.pos v n xs hs hown ⟨B,0,none⟩ 1 c cs.toList hx (by rw[hl,Nat.one_mul])
  (World.news_of_block (cs:=cs) (t:=tc) (fr:=(0,0)) hB) h1 (by omega) (Qz h63 (by decide)) hbytes hbase _ rfl fun g cap w' ho2 hg hat _=>?_
 exact h g cap w' ho2 hg hat (fun k hk=>hown.lt k hk)
def Qb.fw (i:Nat) (d:Tmp) (φ:Value→World→Prop) (hs:∀ v w1 w2,φ v w1→Below w1.heap.size w1 w2→φ v w2):Qb:=⟨i,d,none,φ,fun _=>none,hs⟩
def Qb.rw (i:Nat) (d:Tmp) (t:TypeId) (k k0:Nat) (φ:Array Value→World→Prop) (hs:∀ v w1 w2,φ v w1→Below w1.heap.size w1 w2→φ v w2):Qb :=
 ⟨i,d,none,fun v w=>∃ b cs,v=.slice (some ⟨b,0,none⟩) k k∧k0≤b∧φ cs w∧Ql w b t cs,P7,fun _ _ _ ⟨b,cs,h1,h0,hc,h2⟩ hb=>⟨b,cs,h1,h0,hs _ _ _ hc hb,h2.below hb h2.lt⟩⟩
section
variable (V:Nat→Value) (w:World) (i:Nat) (d:Tmp) (φ:Value→World→Prop) (hs:∀ v w1 w2,φ v w1→Below w1.heap.size w1 w2→φ v w2) (cl:List Qb)
theorem Qb.fw_i:(Qb.fw i d φ hs).i=i:=rfl
theorem Qb.fw_hush (o:Oper):(Qb.fw i d φ hs).hush o={ o with dst:=none,op:=.move (.const undef),guard:=none }:=rfl
theorem Yk (a:Act):Xt V (Qb.fw i d φ hs::cl) a=Xt V cl (a.put (some d) (V i)):=rfl
theorem C7:Xb V w (Qb.fw i d φ hs::cl)=(φ (V i) w∧Xb V w cl):=rfl
theorem Ck:Vw V (Qb.fw i d φ hs::cl)=Vw V cl:=by
 have h:∀ cl:List Qb,Uc V (Qb.fw i d φ hs) cl:=fun cl=>Gp fun L' _ k k' h=>by cases h
 simp[Vw,h]
theorem Dg (L:Qb):Uc V L (Qb.fw i d φ hs::cl)=Uc V L cl:=by
 have h:∀ k k',L.own (V L.i)=some k→(Qb.fw i d φ hs).own (V i)=some k'→k≠k':=fun k k' _ h=>by cases h
 exact propext ⟨fun h2=>h2.2,fun h2=>⟨h,h2⟩⟩
end
section
variable (V:Nat→Value) (w:World) (i:Nat) (d:Tmp) (t:TypeId) (k k0:Nat) (φ:Array Value→World→Prop) (hs:∀ v w1 w2,φ v w1→Below w1.heap.size w1 w2→φ v w2) (cl:List Qb)
theorem Qb.rw_i:(Qb.rw i d t k k0 φ hs).i=i:=rfl
theorem Qb.rw_hush (o:Oper):(Qb.rw i d t k k0 φ hs).hush o={ o with dst:=none,op:=.move (.const undef),guard:=none }:=rfl
theorem Yj (a:Act):Xt V (Qb.rw i d t k k0 φ hs::cl) a=Xt V cl (a.put (some d) (V i)):=rfl
theorem C6:Xb V w (Qb.rw i d t k k0 φ hs::cl)=((∃ b cs,V i=.slice (some ⟨b,0,none⟩) k k∧k0≤b∧φ cs w∧Ql w b t cs)∧Xb V w cl):=rfl
theorem Cj:Vw V (Qb.rw i d t k k0 φ hs::cl)=(Uc V (Qb.rw i d t k k0 φ hs) cl∧Vw V cl):=rfl
end
theorem Hm {i:Nat} {d:Tmp} {φ:Value→World→Prop} {hs:∀ v w1 w2,φ v w1→Below w1.heap.size w1 w2→φ v w2} {v:Value} {F:Act} {w w':World} {a:Act} (h:a=F.put (some d) v) (hv:φ v w') (hb:Below w.heap.size w w'):Wi (Qb.fw i d φ hs) F w .normal a w' :=
 ⟨rfl,_,h,hb,hv,fun k hk=>(by cases hk),fun c2 hc=>(by cases hc)⟩
theorem Q09 {k0:Nat} {i:Nat} {d:Tmp} {t:TypeId} {k:Nat} {φ:Array Value→World→Prop} {hs:∀ v w1 w2,φ v w1→Below w1.heap.size w1 w2→φ v w2} {cs:Array Value} {F:Act} {w:World} {a:Act} (h:a=F.put (some d) (.slice (some ⟨w.heap.size,0,none⟩) k k)) (hk:k0≤w.heap.size) (hc:φ cs w):Wi (Qb.rw i d t k k0 φ hs) F w .normal a (w.alloc (.cells cs t)) :=
 ⟨rfl,_,h,Q7 _ _,⟨_,_,rfl,hk,hs _ _ _ hc (Q7 _ _),Ql.new _ _ _⟩,fun k2 hk=>by
   simp only[Qb.rw,P7,Option.some.injEq]at hk;subst hk
   simp,fun c hc=>by cases hc⟩
theorem Q6s (v:Vl):Ud v.c=spL v:=by
 obtain⟨t,oa,b,o,cap,kids⟩:=v;rw[Vl.c_mk];rfl
theorem Td:∀ l:List Vl,(l.map Vl.c).dropWhile Ud=(l.dropWhile spL).map Vl.c
 | []=>rfl
 | x::r=>by
   rw[List.map_cons]
   cases h:spL x with
   | true=>rw[List.dropWhile_cons_of_pos (by rw[Q6s];exact h),List.dropWhile_cons_of_pos h,Td r]
   | false=>rw[List.dropWhile_cons_of_neg (by rw[Q6s,h];simp),List.dropWhile_cons_of_neg (by simp[h])];rfl
theorem Cv (l:List Vl):(V4 l).map Vl.c=Z9 (l.map Vl.c):=by
 unfold V4 Z9 X9 Wh Vf;rw[List.map_reverse,← Td,List.map_reverse,Td]
theorem Fx:El 26 28 (.agg #[.int .i64 0,.string ⟨#[]⟩,.int .i64 0,.int .i64 0,.bool false,.bool false,.slice none 0 0]) 7 72:=⟨Tryz.underlying26,by kernel_rfl,rfl,by decide⟩
def Us (A:Nat→Prop) (h:Nat) (X:List Vt) (v:Value) (w:World):Prop:=∃ (oa:Option Addr) (cap b o:Nat) (l:List Vl),v=.slice oa l.length cap∧l.map Vl.c=X∧J3 A w fun w=>Zw w h oa cap b o l
theorem Vc (A:Nat→Prop) (h:Nat) (X:List Vt):∀ v w1 w2,Us A h X v w1→Below w1.heap.size w1 w2→Us A h X v w2:=fun _ _ _ ⟨oa,cap,b,o,l,hv,hc,hs⟩ hb=>⟨oa,cap,b,o,l,hv,hc,hs.below hb⟩
theorem Us.anti {A A':Nat→Prop} {h:Nat} {X:List Vt} {v:Value} {w:World} (hv:Us A h X v w) (hA:∀ b,A' b→A b∨w.heap.size≤b):Us A' h X v w:=by
 obtain⟨oa,cap,b,o,l,hv,hc,hs⟩:=hv;exact⟨oa,cap,b,o,l,hv,hc,hs.wide hA⟩
def Q7i (A:Nat→Prop) (h:Nat) (t:Tk) (X:List Vt) (v:Value) (w:World):Prop:=∃ s,Us A h X s w∧v=.agg (U1 t++[s]).toArray
theorem Iz (A:Nat→Prop) (h:Nat) (t:Tk) (X:List Vt):∀ v w1 w2,Q7i A h t X v w1→Below w1.heap.size w1 w2→Q7i A h t X v w2:=fun _ _ _ ⟨s,hv,e⟩ hb=>⟨s,Vc A h X s _ _ hv hb,e⟩
def Q7h (A:Nat→Prop) (h:Nat) (t:Tk) (X:List Vt) (cs:Array Value) (w:World):Prop:=∃ s,Us A h X s w∧cs=(U1 t++[s]).toArray
theorem Iy (A:Nat→Prop) (h:Nat) (t:Tk) (X:List Vt):∀ v w1 w2,Q7h A h t X v w1→Below w1.heap.size w1 w2→Q7h A h t X v w2:=fun _ _ _ ⟨s,hv,e⟩ hb=>⟨s,Vc A h X s _ _ hv hb,e⟩
theorem Th:∀ (h:Nat) (l:List Vl) (oa:Option Addr) (cap b o:Nat) (w:World),Zw w h oa cap b o l →
  Calls Tryz.prog 45 #[.slice oa l.length cap] w fun e w'=>(∃ v,e=.returned v∧Us (· < w.heap.size) h (l.map Vl.c) v w')∧Below w.heap.size w w':=by
 intro h
 induction h with
 | zero =>
   intro l oa cap b o w hs
   have hl:l=[]:=by
    cases l with
    | nil=>rfl
    | cons x r=>exact(hs.each 0 x rfl).elim
   subst hl
   go_enter Tryz.func45,Tryz.ntmps45
   go_wp2_with fail
   go_loopg [3,8] 0 (fun q s3 s wr=>s3=.slice none 0 0∧s=.int .i64 0∧wr=w)
   case atStart=>exact⟨rfl,rfl,rfl⟩
   case round =>
    obtain⟨rfl,rfl,rfl⟩:=hrel;go_wp2_with fail;go_ret;exact⟨⟨_,rfl,none,0,0,0,[],rfl,rfl,Zw.made (by simp) ⟨rfl,Q6 _,Qs _,fun h=>absurd h (by simp),fun j v h=>by simp at h⟩ (fun h=>absurd h (by simp)) (fun w' _ _ x hx=>by cases hx)⟩,Below.refl _ _⟩
 | succ h ih =>
   intro l oa cap b o w hs;obtain⟨N,hN⟩:∃ N,l.length=N:=⟨_,rfl⟩;rw[hN];have hsm:=hs.small;have hcm:=hs.sl.max;have hcl:=hs.sl.le;unfold maxLen at hcm;rw[hN]at hsm hcl;have HS:=Q1 hs;have HN:=Q1 hN;have HIH:=Q1 ih;clear hs hN ih
   go_enter Tryz.func45,Tryz.ntmps45
   go_wp2_with fail
   go_loopg [3,8] N (fun q s3 s wr=>∃ (i:Nat) (v:Value) (D:List Vl),s=.int .i64 i∧v=s3∧Hid (Below w.heap.size w wr)∧Hid (wr.ownsRow w.heap.size 28 7 v i (D.flatMap U3))∧Hid (D.length=i∧D.map Vl.c=(l.take i).map Vl.c)∧Hid (J3 (fun b=>b<w.heap.size∨v.ownBlock=some b) wr fun w=>∀ x∈D,Uu w (h+1) x)∧i≤N∧N-i≤q)
   case atStart=>exact⟨0,_,[],rfl,rfl,Q1 (Below.refl _ _),Q1 (World.ownsRow_nil _ _ _ _),Q1 ⟨rfl,rfl⟩,Q1 (fun w' _ _ x hx=>by cases hx),Qs _,by omega⟩
   case round =>
    obtain⟨i,v,D,rfl,rfl,hb,hO,hD,hS,hiN,hq⟩:=hrel
    by_cases hi:i<N
    · have gi:decide ((i:Int)<(N:Int))=true:=by simpa using hi
      have gin:decide (i<N)=true:=by simpa using hi
      have hil:i<l.length:=by rw[HN.out];exact hi
      have hli:l[i]?=some l[i]:=Q9 hil;have hs2:=HS.out.below hb.out;obtain⟨rfl,hbl⟩:=hs2.sl.lies (by omega);have hkid:=HS.out.each i _ hli
      have htk:(l.take (i+1)).map Vl.c=(l.take i).map Vl.c++[l[i].c]:=by rw[Ze hil,Zp];rfl
      obtain⟨x,hx⟩:∃ x,l[i]=x:=⟨_,rfl⟩;rw[hx]at hli hkid htk;obtain⟨t,koa,kb,ko,kcap,kids⟩:=x;have f0:=hs2.cell hli (j:=0) rfl;have f1:=hs2.cell hli (j:=1) rfl;have f2:=hs2.cell hli (j:=2) rfl;have f3:=hs2.cell hli (j:=3) rfl;have f4:=hs2.cell hli (j:=4) rfl;have f5:=hs2.cell hli (j:=5) rfl;have f6:=hs2.cell hli (j:=6) rfl;rw[Nat.add_zero]at f0;have HX:=Q1 (fun wx hb=>HIH.out kids koa kcap kb ko wx (Zw.below (w':=wx) hkid.kids hb));have HT64:=Q1 hkid.1;rw[Vl.c_mk]at htk;have HTK:=Q1 htk;obtain⟨tk,tt,⟨tn,td⟩,ti,tid⟩:=t;obtain⟨KX,hKX⟩:∃ X,kids.map Vl.c=X:=⟨_,rfl⟩;have hx2:=HX.out;have htk2:=HTK.out;rw[hKX]at hx2 htk2;have HX:=Q1 hx2;have HTK:=Q1 htk2;clear hs2 hli hx hkid htk hx2 htk2 hKX;generalize kids.length=K at *
      go_upto_region 5 with fail
      have hbv:=Q1 (hb.out.alloc hb.out.size (.cells #[.int .i64 tk,.string ⟨tt.toArray⟩,.int .i64 tn,.int .i64 td,.bool ti,.bool tid,.slice koa K kcap] 28));have hkd:=Ql.new wr 28 #[.int .i64 tk,.string ⟨tt.toArray⟩,.int .i64 tn,.int .i64 td,.bool ti,.bool tid,.slice koa K kcap];have hOv:=Q1 (hO.out.alloc (.cells #[.int .i64 tk,.string ⟨tt.toArray⟩,.int .i64 tn,.int .i64 td,.bool ti,.bool tid,.slice koa K kcap] 28));have hSv:=Q1 (hS.out.alloc (.cells #[.int .i64 tk,.string ⟨tt.toArray⟩,.int .i64 tn,.int .i64 td,.bool ti,.bool tid,.slice koa K kcap] 28));clear f0 f1 f2 f3 f4 f5 f6 hb hO hS;generalize hgg:wr.heap.size=g at *;generalize wr.alloc _=wv at *;have hwv:=hbv.out.size;have ck0:wv.cell? ⟨g,0,none⟩=some (.int .i64 tk):=(hkd).cell 0;have fck0:=(hkd).frozen 0;have ck1:wv.cell? ⟨g,1,none⟩=some (.string ⟨tt.toArray⟩):=(hkd).cell 1;have fck1:=(hkd).frozen 1
      have ck2:wv.cell? ⟨g,2,none⟩=some (.int .i64 tn):=(hkd).cell 2;have fck2:=(hkd).frozen 2;have ck3:wv.cell? ⟨g,3,none⟩=some (.int .i64 td):=(hkd).cell 3;have fck3:=(hkd).frozen 3;have ck4:wv.cell? ⟨g,4,none⟩=some (.bool ti):=(hkd).cell 4;have fck4:=(hkd).frozen 4;have ck5:wv.cell? ⟨g,5,none⟩=some (.bool tid):=(hkd).cell 5;have fck5:=(hkd).frozen 5;have ck6:wv.cell? ⟨g,6,none⟩=some (.slice koa K kcap):=(hkd).cell 6;have fck6:=(hkd).frozen 6;have lck:=(hkd).lt;refine Yn 8 [Qb.fw 5 17 (Us (· < wv.heap.size) h KX) (Vc _ _ _),Qb.fw 6 18 (Q7i (· < wv.heap.size) h ⟨tk,tt,(tn,td),ti,tid⟩ KX) (Iz _ _ _ _),Qb.rw 7 19 28 1 wv.heap.size (Q7h (· < wv.heap.size) h ⟨tk,tt,(tn,td),ti,tid⟩ KX) (Iy _ _ _ _)] (by kernel_rfl) rfl (by kernel_rfl) (by kernel_rfl) (by kernel_rfl) (by kernel_rfl) ?_
      simp only[Jw,X6,List.find?,Qb.claim_i,Qb.cells_i,Qb.rowL_i,Qb.claim_hush,Qb.cells_hush,Qb.rowL_hush,Qb.val_i,Qb.rowS_i,Qb.val_hush,Qb.rowS_hush,Qb.fw_i,Qb.fw_hush,Qb.rw_i,Qb.rw_hush,Nat.reduceBEq,Nat.reduceAdd]
      repeat (go_big_quiet_step (fail))
      refine wpQuiet_nil ⟨fun V m=>?_,fun V m=>?_⟩
      · simp only[G8,Du,Qq,Qo,Vk,Ua,Ub,Uw,Qb.claim_i,Qb.cells_i,Qb.rowL_i,Act.put,Q2,Q4,Q5,Xc,Vn,Qb.val_i,Qb.rowS_i,Yk,Qb.fw_i,Yj,Qb.rw_i];refine⟨fun _=>?_,fun hw=>?_,fun hw=>?_,trivial⟩
        · go_wp2_with fail
          ((with_reducible refine(HX.out _ (Qa hbv.out m)).mono ?_);rintro e w2 ⟨⟨v5,rfl,hv5⟩,hbw⟩)
          have HV5:=Q1 hv5;clear hv5;go_wp2_with fail;exact Hm rfl (HV5.out.anti fun b hb=>Or.inl (Qg hb (Zn m))) hbw
        · obtain⟨h5,_⟩:=hw;obtain⟨oa2,cap2,b2,o2,l2,hv,hc2,hs2⟩:=h5 (by kernel_rfl);have H5:=Q1 (Q3 hc2 hs2);change V 5=_ at hv;rw[hv];clear hv h5 hc2 hs2;go_wp2_with fail;exact Hm rfl ⟨_,⟨oa2,cap2,b2,o2,l2,rfl,H5.out.1,H5.out.2⟩,rfl⟩ (Below.refl _ _)
        · obtain⟨_,h6,_⟩:=hw;obtain⟨s,⟨oa2,cap2,b2,o2,l2,rfl,hc2,hs2⟩,hv⟩:=h6 (by kernel_rfl);have H5:=Q1 (Q3 hc2 hs2);change V 6=_ at hv;rw[hv];clear hv h6 hc2 hs2;simp only[U1,List.cons_append,List.nil_append];go_wp2_with fail;exact Q09 rfl (Zn m) ⟨_,⟨oa2,cap2,b2,o2,l2,rfl,H5.out.1,H5.out.2⟩,rfl⟩
      · simp only[Ge,Y8,Y9,Yx,D8,Gc,C7,C6,Gn,Ya,Yb,Yy,Df,Gl,Ck,Cj,Yz,Xl,Xm,Yc,Gq,Dg,Uj,Ui,Z4,List.drop_zero,and_true,Vk,Ua,Ub,Uw,Qb.claim_i,Qb.cells_i,Qb.rowL_i,Act.put,Q2,Q4,Q5,Xc,Vn,Qb.val_i,Qb.rowS_i,Yk,Qb.fw_i,Yj,Qb.rw_i];rintro⟨_,_,gb,cs,hv7,hgb,⟨s,⟨oa2,cap2,b2,o2,l2,rfl,hc2,hs2⟩,rfl⟩,hbk⟩ _;rw[hv7];have HC2:=Q1 (Q3 hc2 hs2);have hbq:=Q1 (Qa hbv.out m);have hoq:=Q1 (G5 hOv.out m);have HVL:=Q1 (fun k hk=>(hOv.out.lt k hk).2);have hsq:=Q1 (hSv.out.grow m);have hgq:=Zn m
        have hln:(D++[Vl.mk ⟨tk,tt,(tn,td),ti,tid⟩ oa2 b2 o2 cap2 l2]).length=i+1:=by rw[Qd,hD.out.1];rfl
        have hcn:(D++[Vl.mk ⟨tk,tt,(tn,td),ti,tid⟩ oa2 b2 o2 cap2 l2]).map Vl.c=(l.take (i+1)).map Vl.c:=by
         rw[Zp,hD.out.2,HTK.out];simp only[List.map_cons,List.map_nil,Vl.c_mk,hc2]
        have HDN:=Q1 (Q3 hln hcn);clear hv7 hc2 hs2 hbv hOv hSv hln hcn ck0 ck1 ck2 ck3 ck4 ck5 ck6 fck0 fck1 fck2 fck3 fck4 fck5 fck6 lck hkd HX;generalize grow wv m=wq at *;have hbs:=hbq.out.size;go_wp2_with (at_builtin;refine J4 Fx rfl _ _ rfl rfl hoq.out hbs hbk 1 rfl rfl (by simp[U1,Value.oneCell']) (by omega) (by omega) ?_;intro gg cap3 w3 ho3 hg3 hat hvb;have H3:=Q1 (Q3 ho3 (Q3 hg3 (Q3 hat hvb)));clear ho3 hg3 hat hvb);obtain⟨ho3,hg3,hat,hvb⟩:=H3.out
        have hsafe:J3 (fun b=>b<w.heap.size∨(Value.slice (some ⟨gg,0,none⟩) (i+1) cap3).ownBlock=some b) w3 fun w=>∀ x∈D++[Vl.mk ⟨tk,tt,(tn,td),ti,tid⟩ oa2 b2 o2 cap2 l2],Uu w (h+1) x:=by
         have hA:∀ b,(b<w.heap.size∨v.ownBlock=some b∨b=gg)→(b<w.heap.size∨v.ownBlock=some b)∨wq.heap.size≤b:=fun b hb=>by
          rcases hb with hb|hb|rfl
          · exact Or.inl (Or.inl hb)
          · exact Or.inl (Or.inr hb)
          · rcases hat with hat|hat
            · exact Or.inl (Or.inr hat)
            · exact Or.inr (by omega)
         have h1:=(hsq.out.wide hA).grown hg3 (fun k hk _=>Or.inr (Or.inl hk))
         have hA2:∀ b,(b<w.heap.size∨v.ownBlock=some b∨b=gg)→(b<wv.heap.size)∨wq.heap.size≤b:=fun b hb=>by
          rcases hb with hb|hb|rfl
          · omega
          · exact Or.inl (HVL.out b hb)
          · rcases hat with hat|hat
            · exact Or.inl (HVL.out _ hat)
            · exact Or.inr (by omega)
         have h2:=((Uu.made HT64.out HC2.out.2).wide hA2).grown hg3 (fun k hk _=>Or.inr (Or.inl hk))
         refine((h1.and h2).mono fun w' hw x hx=>?_).anti fun b hb _=>?_
         · rcases Zh.1 hx with hx|hx
           · exact hw.1 x hx
           · obtain rfl:=Qh.1 hx;exact hw.2
         · rcases hb with hb|hb
           · exact Or.inl hb
           · exact Or.inr (Or.inr (Q8 hb).symm)
        go_roundg (N-(i+1))
        case measure=>omega
        case rel=>exact⟨i+1,_,D++[Vl.mk ⟨tk,tt,(tn,td),ti,tid⟩ oa2 b2 o2 cap2 l2],by go_num,rfl,Q1 (Qu hbq.out hg3 fun k hk=>(hvb k hk).1),Q1 (by have:=ho3;simpa[U1,U3] using this),HDN,Q1 hsafe,hi,Q6 _⟩
    · obtain rfl:i=N:=by omega
      have gi:decide ((i:Int)<(i:Int))=false:=by simp
      have gin:decide (i<i)=false:=by simp
      obtain⟨voa,vcap,vg,rfl,hsl,hpos⟩:=Zx hO.out;have HSL:=Q1 hsl;have HP:=Q1 hpos;clear hsl hpos;go_wp2_with fail;go_ret;refine⟨⟨_,rfl,voa,vcap,vg,0,D,by rw[hD.out.1];rfl,by rw[hD.out.2,← HN.out,List.take_length],Zw.made (by rw[hD.out.1];exact hsm) (by rw[hD.out.1];exact HSL.out) (fun h=>by have:=HP.out (by rw[← hD.out.1];exact h);omega) (hS.out.anti fun b hb _=>Or.inl hb)⟩,hb.out⟩
theorem G0 (h:Nat) (l:List Vl) (oa:Option Addr) (cap b o:Nat) (w:World) (hs:Zw w h oa cap b o l) :
  Calls Tryz.prog 15 #[.slice oa l.length cap] w fun e w'=>(∃ v,e=.returned v∧Us (· < w.heap.size) h (Z9 (l.map Vl.c)) v w')∧Below w.heap.size w w':=by
 have HT:=Q1 (Rl h l oa cap b o w hs);clear hs
 go_enter Tryz.func15,Tryz.ntmps15
 go_wp2_with fail
 ((with_reducible refine HT.out.mono ?_);rintro e w2 ⟨⟨oa',cap',o',rfl,hs⟩,hb⟩)
 have hC:=Th h (V4 l) oa' cap' b o' w2 hs;rw[Cv]at hC;have HC:=Q1 hC;have HB:=Q1 hb;clear hs hC HT hb;generalize (V4 l).length=L at *;go_wp2_with fail
 ((with_reducible refine HC.out.mono ?_);rintro e w3 ⟨⟨v,rfl,hv⟩,hb2⟩)
 have HV:=Q1 (Q3 hv hb2);clear hv hb2;go_wp2_with fail;go_ret;exact⟨⟨_,rfl,HV.out.1.anti fun b hb=>Or.inl (Qg hb HB.out.size)⟩,HB.out.trans (HV.out.2.mono HB.out.size)⟩
end Go.Proofs.YtnanffmhbjdpaaaGreatDoor
namespace Go.Proofs.YtnanffmhbjdpaaaGreatDoor
set_option maxHeartbeats 8000000
set_option maxRecDepth 100000
set_option linter.unusedVariables false
set_option linter.unusedSimpArgs false
open Go.ChangeShapes Go.WideShapes Go.ChangeAt Go.RowKit Go.Deep
section
variable {H:Type} {enc:TypeId×Value→H} {w:World} {base:Nat} {spare:Nat→Bool} {held:Bool}
end
theorem Q3z {n:Nat} (h:n≤reachBytes):n≤140737488355328:=Qz h (by decide)
theorem Q3y {H:Type} {P:Program} {ts:List TypeId} {ds:List (DataW H)} (h:(DataW.weightsEach P ts ds).all (·≤reachBytes)=true) {j:Nat} {t:TypeId} {d:DataW H} (ht:ts[j]?=some t) (hd:ds[j]?=some d):∀ n∈d.weights P t,n≤140737488355328:=fun n hn =>
 Q3z (by simpa using List.all_eq_true.1 h n (DataW.weights_mem_each ht hd n hn))
end Go.Proofs.YtnanffmhbjdpaaaGreatDoor
