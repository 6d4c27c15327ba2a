/- Of my texts: DmO. -/
import Derived.Test.YtnbkbenkhkinoaaGreatDoorM18
import Derived.Test.YtnbkbenkhkinoaaGreatDoorM21
import Derived.Test.YtnbkbenkhkinoaaGreatDoorM25
import Derived.Test.YtnbkbenkhkinoaaGreatDoorM44
import Derived.Test.YtnbkbenkhkinoaaGreatDoorM46
namespace Go.Proofs.YtnbkbenkhkinoaaGreatDoor
set_option linter.unusedVariables false
set_option linter.unusedSimpArgs false
open Go.ChangeShapes Go.WideShapes Go.ChangeAt Go.RowKit Go.Deep
theorem cellsBox:Tryz.prog.cellsOf 55=6:=by kernel_rfl
theorem cellsRooms:Tryz.prog.cellsOf 25=2:=by kernel_rfl
theorem cellsBoxs:Tryz.prog.cellsOf 23=1:=by kernel_rfl
theorem cellsInts:Tryz.prog.cellsOf 22=1:=by kernel_rfl
theorem cellsAsked:Tryz.prog.cellsOf 37=15:=by kernel_rfl
instance:Inhabited Bx:=⟨freshX⟩
theorem fifteen {α:Type} {l:List α} (h:l.length=15):∃ a l2,l=a::l2∧l2.length=14:=by
 match l,h with
 | a::l2,h=>exact⟨a,l2,rfl,by simpa using h⟩
section
variable {H:Type} {enc:TypeId×Value→H} {w:World} {base:Nat} {spare:Nat→Bool} {held:Bool}
set_option maxRecDepth 100000 in
theorem open_bx (fuel:Nat) (cs:List Value) (x:DataW H×List MemPlace) (h:DataW.trod enc Tryz.prog w base spare held fuel 55 cs=some x):∃ b:Bx,cs=bxcells b∧Bx64 b:=by
 obtain⟨xs,n,rfl,rfl,hl,hlen,hf⟩:=DataW.trod_struct Tryz.underlying55 h;obtain⟨y0,y1,y2,y3,rfl⟩:=four hlen;obtain⟨c0,c1,c2,c3,c4,c5,rfl⟩:=six (hl.trans cellsBox);have g0:=hf 0 _ rfl;have g1:=hf 1 _ rfl;have g2:=hf 2 _ rfl;have g3:=hf 3 _ rfl;simp only[List.getElem_toArray,List.getElem_cons_zero,List.getElem_cons_succ,cellsInt,cellsRat,cellsStr,List.drop_zero,List.drop_succ_cons,List.take_succ_cons,List.take_zero,List.getElem?_cons_zero,List.getElem?_cons_succ]at g0 g1 g2 g3;obtain⟨k,e0,rfl,w0⟩:=DataW.trod_int Tryz.underlying3 g0;obtain⟨s,e1,rfl,ws⟩:=DataW.trod_string Tryz.underlying9 g1;obtain⟨ys,m,rfl,rfl,_,hlen2,hf2⟩:=DataW.trod_struct Tryz.underlying28 g2;obtain⟨z0,z1,rfl⟩:=two hlen2;have r0:=hf2 0 _ rfl;have r1:=hf2 1 _ rfl;obtain⟨ys,m2,hm2,rfl,_,hlen3,hf3⟩:=DataW.trod_struct Tryz.underlying28 g3;obtain⟨z2,z3,rfl⟩:=two hlen3;have s0:=hf3 0 _ rfl;have s1:=hf3 1 _ rfl
 simp only[List.getElem_toArray,List.getElem_cons_zero,List.getElem_cons_succ,cellsInt64,List.drop_zero,List.drop_succ_cons,List.take_succ_cons,List.take_zero,List.getElem?_cons_zero,List.getElem?_cons_succ]at r0 r1 s0 s1;obtain⟨nn,en,rfl,wn⟩:=DataW.trod_int Tryz.underlying2 r0;obtain⟨dd,ed,rfl,wd⟩:=DataW.trod_int Tryz.underlying2 r1;obtain⟨n2,en2,rfl,wn2⟩:=DataW.trod_int Tryz.underlying2 s0;obtain⟨d2,ed2,rfl,wd2⟩:=DataW.trod_int Tryz.underlying2 s1;simp only[List.cons.injEq,and_true]at e0 e1 en ed en2 ed2;subst e0 e1 en ed en2 ed2;obtain⟨⟨sl⟩⟩:=s;exact⟨⟨k,sl,(nn,dd),(n2,d2)⟩,rfl,int_of_wf w0,is64_of_wf wn wd,is64_of_wf wn2 wd2,ws⟩
set_option maxRecDepth 100000 in
theorem open_bxs {fuel:Nat} {c:Value} {x:DataW H×List MemPlace} (g1:DataW.trod enc Tryz.prog w base spare held fuel 23 [c]=some x) :
  ∃ (oa:Option Addr) (cap b o:Nat) (l:List Bx),c=.slice oa l.length cap∧BxIn w oa cap b o l:=by
 rcases DataW.trod_slice Tryz.underlying23 g1 with ⟨hc,hd⟩ | ⟨a,len,cap,elems,rest,m2,hm2,hc,hd,hb,hle,hcm,hel,hall,_,_⟩
 · simp only[List.cons.injEq,and_true]at hc;subst hc;exact⟨none,0,0,0,[],rfl,Nat.le_refl _,Nat.zero_le _,fun h=>absurd h (by simp),fun i x h=>by simp at h,fun i x h=>by simp at h⟩
 · simp only[List.cons.injEq,and_true]at hc;subst hc
   have each:∀ i,i<len→∃ v:Bx,(∀ j u,(bxcells v)[j]?=some u→w.cell? ((a.add (i*6)).add j)=some u)∧Bx64 v:=fun i hi=>by
    have hi':=hall i hi;rw[cellsBox]at hi';obtain⟨y,hy⟩:∃ y,elems[i]?=some y:=⟨elems[i]'(by omega),List.getElem?_eq_getElem (by omega)⟩;rw[hy]at hi';obtain⟨cs',hcs,hy'⟩:=Option.bind_eq_some_iff.1 hi';obtain⟨_,hcl,hcell⟩:=World.cells?_some hcs;obtain⟨v,rfl,hv⟩:=open_bx m2 cs' y hy';refine⟨v,fun j u hj=>?_,hv⟩;have hj6:j<6:=(List.getElem?_eq_some_iff.1 hj).1;exact(hcell j hj6).trans hj
   obtain⟨f,hf⟩:=choose_lt each;obtain⟨ab,ao,asp⟩:=a
   have hsp:0<len→asp=none∧ab<w.heap.size:=fun hpos=>by
    have hc:=(hf 0 hpos).1 0 _ rfl;refine⟨by simpa[Addr.add] using World.cell?_spot hc,by simpa[Addr.add] using World.block_lt_of_cell? w _ hc⟩
   have hat:∀ i x,((List.range len).map f)[i]?=some x→i<len∧x=f i:=fun i x hx=>by
    rw[List.getElem?_map]at hx
    rcases Nat.lt_or_ge i len with hi|hi
    · rw[List.getElem?_range hi]at hx;exact⟨hi,(Option.some.inj hx).symm⟩
    · rw[List.getElem?_eq_none (by simpa using hi)]at hx
      cases hx
   refine⟨some ⟨ab,ao,asp⟩,cap,ab,ao,(List.range len).map f,by simp,by simpa using hle,hcm,fun hpos=>?_,fun i x hx j v hj=>?_,fun i x hx=>?_⟩
   · simp only[List.length_map,List.length_range]at hpos;exact⟨by rw[(hsp hpos).1],(hsp hpos).2⟩
   · obtain⟨hi,rfl⟩:=hat i x hx;obtain⟨rfl,_⟩:=hsp (by omega);have:=(hf i hi).1 j v hj;rw[Addr.add_lit,Addr.add_lit]at this;exact this
   · obtain⟨hi,rfl⟩:=hat i x hx;exact(hf i hi).2
set_option maxRecDepth 100000 in
theorem open_intsC {fuel:Nat} {c:Value} {x:DataW H×List MemPlace} (g:DataW.trod enc Tryz.prog w base spare held fuel 22 [c]=some x) :
  ∃ (oa:Option Addr) (cap b o:Nat) (l:List Int),c=.slice oa l.length cap∧Ints w oa l.length cap b o l:=by
 have hsl:∃ (oa:Option Addr) (len cap:Nat),c=.slice oa len cap:=by
  rcases DataW.trod_slice Tryz.underlying22 g with ⟨hc,hd⟩ | ⟨a,len,cap,elems,rest,m2,hm2,hc,hd,hb,hle,hcm,hel,hall,_,_⟩
  · simp only[List.cons.injEq,and_true]at hc;exact⟨_,_,_,hc⟩
  · simp only[List.cons.injEq,and_true]at hc;exact⟨_,_,_,hc⟩
 obtain⟨oa,len,cap,rfl⟩:=hsl
 rcases Go.ChangeShapes.open_ints (P:=Tryz.prog) Tryz.underlying22 Tryz.underlying3 (by kernel_rfl) g with ⟨hc,_⟩ | ⟨a,len',cap',zs,hc,_,hl,hm,hlen,_,hall,hwf⟩
 · obtain⟨rfl,rfl,rfl⟩:oa=none∧len=0∧cap=0:=by simpa[Value.cells] using hc
   exact⟨none,0,0,0,[],rfl,rfl,Nat.le_refl _,Nat.zero_le _,fun h=>absurd h (by decide),fun h=>absurd h (by decide),fun _ _ h=>by simp at h,fun _ _ h=>by simp at h⟩
 · obtain⟨rfl,rfl,rfl⟩:oa=some a∧len=len'∧cap=cap':=by simpa[Value.cells] using hc
   have hlm:len≤zs.length:=by rw[hlen];split<;>omega
   have hlist:∀ (i:Nat) (x:Int),(zs.take len)[i]?=some x→i<len∧i<zs.length∧zs.getD i 0=x∧x∈zs:=fun i x hx=>by
    rw[List.getElem?_take]at hx;split at hx
    · rename_i hi
      refine⟨hi,by omega,by rw[List.getD_eq_getElem?_getD,hx];rfl,List.mem_of_getElem? hx⟩
    · cases hx
   obtain⟨ab,ao,asp⟩:=a
   have hsp:0<len→asp=none:=fun hpos=>by simpa[Addr.add] using World.cell?_spot (hall 0 (by omega))
   have hll:(zs.take len).length=len:=by simp;omega
   refine⟨some ⟨ab,ao,asp⟩,cap,ab,ao,zs.take len,by rw[hll],rfl,by rw[hll];exact hl,hm,fun hpos=>?_,fun hpos=>?_,fun i x hx=>?_,fun i x hx=>?_⟩
   · rw[hll]at hpos;rw[hsp hpos]
   · rw[hll]at hpos;have:=World.block_lt_of_cell? w _ (hall 0 (by omega));simpa[Addr.add] using this
   · obtain⟨hi,hi2,e,_⟩:=hlist i x hx;obtain rfl:=hsp (by omega);have h0:=hall i hi2;rw[e,Addr.add_lit]at h0;exact h0
   · obtain⟨_,_,_,hm⟩:=hlist i x hx;exact int_of_wf (hwf x hm)
set_option maxRecDepth 100000 in
theorem rooms_open {r:Reach} {b0:Nat} {v:Value} {d:DataW H} {p:List MemPlace} (hv:Value.okWide Tryz.prog w r b0 25 v) (h:DataW.Trod enc Tryz.prog w base spare held 25 v d p) :
  ∃ (uo:Option Addr) (uc ub uf:Nat) (U:List Int) (bo:Option Addr) (bc bb bf:Nat) (L:List Bx),v=.agg #[.slice uo U.length uc,.slice bo L.length bc]∧Ints w uo U.length uc ub uf U∧BxIn w bo bc bb bf L:=by
 obtain⟨cs,rfl,_⟩:=okWide_struct Tryz.underlying25 hv;obtain⟨fuel,hf⟩:=h;obtain⟨xs,n,rfl,hx,hl,hlen,hg⟩:=DataW.trod_struct Tryz.underlying25 hf;obtain⟨y0,y1,rfl⟩:=two hlen;obtain⟨c0,c1,hcs⟩:=two (hl.trans cellsRooms);have g0:=hg 0 _ rfl;have g1:=hg 1 _ rfl;rw[hcs]at g0 g1;simp only[List.getElem_toArray,List.getElem_cons_zero,List.getElem_cons_succ,cellsInts,cellsBoxs,List.drop_zero,List.drop_succ_cons,List.take_succ_cons,List.take_zero,List.getElem?_cons_zero,List.getElem?_cons_succ]at g0 g1;obtain⟨uo,uc,ub,uf,U,rfl,hU⟩:=open_intsC g0;obtain⟨bo,bc,bb,bf,L,rfl,hL⟩:=open_bxs g1;have e2:cs.toList=[.slice uo U.length uc,.slice bo L.length bc]:=hcs;obtain⟨l⟩:=cs;exact⟨uo,uc,ub,uf,U,bo,bc,bb,bf,L,by rw[show l=_ from e2],hU,hL⟩
set_option maxRecDepth 100000 in
theorem asked_open {r:Reach} {b0:Nat} {v:Value} {d:DataW H} {p:List MemPlace} (hv:Value.okWide Tryz.prog w r b0 37 v) (h:DataW.Trod enc Tryz.prog w base spare held 37 v d p)
  (hw:∀ n∈d.weights Tryz.prog 37,n≤140737488355328):∃ (nm:List UInt8) (e:Cd) (h:Nat),v=askV nm e∧CdIn w h e∧(leavesC h e).length≤Rows.uptoBulk d:=by
 obtain⟨cs,rfl,_⟩:=okWide_struct Tryz.underlying37 hv;obtain⟨fuel,hf⟩:=h;obtain⟨xs,n,rfl,hx,hl,hlen,hg⟩:=DataW.trod_struct Tryz.underlying37 hf;obtain⟨y0,y1,rfl⟩:=two hlen;obtain⟨c0,cl,hcs,hcl⟩:=fifteen (hl.trans cellsAsked);have g0:=hg 0 _ rfl;have g1:=hg 1 _ rfl;rw[hcs]at g0 g1;simp only[List.getElem_toArray,List.getElem_cons_zero,List.getElem_cons_succ,cellsStr,cellsCond,List.drop_zero,List.drop_succ_cons,List.take_succ_cons,List.take_zero,List.getElem?_cons_zero,List.getElem?_cons_succ]at g0 g1;rw[List.take_of_length_le (by omega)]at g1;obtain⟨s,e0,hs,ws⟩:=DataW.trod_string Tryz.underlying9 g0;simp only[Prod.mk.injEq]at hx
 obtain ⟨e,he,hi,hlv⟩:=open_cd n _ _ g1 (fun n hn=>hw n (by
  rw[hx.1];simp only[DataW.weights,Tryz.underlying37,List.map_cons,List.map_nil,DataW.weightsEach,List.mem_append]
  exact Or.inr (Or.inl hn)))
 simp only[List.cons.injEq,and_true]at e0;subst e0;obtain⟨⟨sl⟩⟩:=s;refine⟨sl,e,n,?_,hi,Nat.le_trans hlv ?_⟩
 · have e2:cs.toList=.string ⟨sl.toArray⟩::ccells e:=hcs.trans (by rw[he]);obtain⟨l⟩:=cs;rw[show l=_ from e2];unfold askV cv;simp
 · rw[hx.1];simp only[Rows.uptoBulk,Rows.uptoBulkAll,List.map_cons,List.map_nil];omega
end
end Go.Proofs.YtnbkbenkhkinoaaGreatDoor
