/- Of my texts: TreeO. -/
import Derived.Test.YtnbkbenkhkinoaaGreatDoorM17
import Derived.Test.YtnbkbenkhkinoaaGreatDoorM18
import Derived.Test.YtnbkbenkhkinoaaGreatDoorM19
import Derived.Deep.Slices
import Derived.Lib.SmallJoins
namespace Go.Proofs.YtnbkbenkhkinoaaGreatDoor
set_option linter.unusedVariables false
set_option linter.unusedSimpArgs false
open Go.ChangeShapes Go.WideShapes Go.ChangeAt Go.RowKit Go.Deep
instance:Inhabited Ex:=⟨.mk 0 0 0 0 none 0 0 0 []⟩
instance:Inhabited Cd:=⟨.mk 0 none 0 0 0 [] ⟨0,0,ByteArray.empty,0,default,ByteArray.empty,ByteArray.empty,false⟩⟩
theorem ExIn.mono:∀ (h h':Nat) {w:World} {e:Ex},h≤h'→ExIn w h e→ExIn w h' e
 | 0,_,_,_,_,hx=>hx.elim
 | h+1,0,_,_,hl,_=>by omega
 | h+1,h'+1,w,.mk k n d u oa b o cap kids,hl,hx=>by
   obtain⟨h1,h2,h3,h4,h5,h6,h7,h8⟩:=hx;exact⟨h1,h2,h3,h4,h5,h6,h7,fun i x hi=>⟨(h8 i x hi).1,ExIn.mono h h' (by omega) (h8 i x hi).2⟩⟩
theorem CdIn.mono:∀ (h h':Nat) {w:World} {e:Cd},h≤h'→CdIn w h e→CdIn w h' e
 | 0,_,_,_,_,hx=>hx.elim
 | h+1,0,_,_,hl,_=>by omega
 | h+1,h'+1,w,.mk k oa b o cap kids leaf,hl,hx=>by
   obtain⟨h1,h2,h4,h5,h6,h7,h8⟩:=hx;exact⟨h1,⟨h2.1,h2.2.1,h2.2.2.1,h2.2.2.2.mono h h' (by omega)⟩,h4,h5,h6,h7,fun i x hi=>⟨(h8 i x hi).1,CdIn.mono h h' (by omega) (h8 i x hi).2⟩⟩
theorem flatMap_congr' {α β:Type} {l:List α} {f g:α→List β} (h:∀ x∈l,f x=g x):l.flatMap f=l.flatMap g:=by
 rw[List.flatMap_def,List.flatMap_def,List.map_congr_left h]
theorem leavesC_mono:∀ (h h':Nat) {w:World} {e:Cd},h≤h'→CdIn w h e→leavesC h' e=leavesC h e
 | 0,_,_,_,_,hx=>hx.elim
 | h+1,0,_,_,hl,_=>by omega
 | h+1,h'+1,w,.mk k oa b o cap kids leaf,hl,hx=>by
   obtain⟨h1,h2,h4,h5,h6,h7,h8⟩:=hx;unfold leavesC;split
   · rfl
   · refine flatMap_congr' fun x hx=>?_
     obtain⟨i,hi⟩:=List.getElem?_of_mem hx;exact leavesC_mono h h' (by omega) (h8 i x hi).2
theorem cellsInt:Tryz.prog.cellsOf 3=1:=by kernel_rfl
theorem cellsInt64:Tryz.prog.cellsOf 2=1:=by kernel_rfl
theorem cellsRat:Tryz.prog.cellsOf 28=2:=by kernel_rfl
theorem cellsExpr:Tryz.prog.cellsOf 31=5:=by kernel_rfl
theorem cellsExprs:Tryz.prog.cellsOf 29=1:=by kernel_rfl
theorem bytesExpr:Tryz.prog.bytesOf 31=56:=by kernel_rfl
theorem five {α:Type} {l:List α} (h:l.length=5):∃ a b c d e,l=[a,b,c,d,e]:=by
 match l,h with
 | [a,b,c,d,e],_=>exact⟨a,b,c,d,e,rfl⟩
theorem four {α:Type} {l:List α} (h:l.length=4):∃ a b c d,l=[a,b,c,d]:=by
 match l,h with
 | [a,b,c,d],_=>exact⟨a,b,c,d,rfl⟩
theorem two {α:Type} {l:List α} (h:l.length=2):∃ a b,l=[a,b]:=by
 match l,h with
 | [a,b],_=>exact⟨a,b,rfl⟩
section
variable {H:Type} {enc:TypeId×Value→H} {w:World} {base:Nat} {spare:Nat→Bool} {held:Bool}
set_option maxRecDepth 100000 in
theorem open_ex:∀ (fuel:Nat) (cs:List Value) (x:DataW H×List MemPlace),DataW.trod enc Tryz.prog w base spare held fuel 31 cs=some x→(∀ n∈x.1.weights Tryz.prog 31,n≤140737488355328) →
  ∃ e:Ex,cs=xcells e∧ExIn w fuel e:=by
 intro fuel
 induction fuel using Nat.strongRecOn with
 | _ fuel ih =>
   intro cs x h hw;obtain⟨xs,n,rfl,rfl,hl,hlen,hf⟩:=DataW.trod_struct Tryz.underlying31 h;obtain⟨y0,y1,y2,y3,rfl⟩:=four hlen;obtain⟨c0,c1,c2,c3,c4,rfl⟩:=five (hl.trans cellsExpr);have g0:=hf 0 _ rfl;have g1:=hf 1 _ rfl;have g2:=hf 2 _ rfl;have g3:=hf 3 _ rfl;simp only[List.getElem_toArray,List.getElem_cons_zero,List.getElem_cons_succ,cellsInt,cellsRat,cellsExprs,List.drop_zero,List.drop_succ_cons,List.take_succ_cons,List.take_zero,List.getElem?_cons_zero,List.getElem?_cons_succ]at g0 g1 g2 g3;obtain⟨k,ek,rfl,wk⟩:=DataW.trod_int Tryz.underlying3 g0;obtain⟨u,eu,rfl,wu⟩:=DataW.trod_int Tryz.underlying3 g2;obtain⟨ys,m,rfl,rfl,_,hlen2,hf2⟩:=DataW.trod_struct Tryz.underlying28 g1;obtain⟨z0,z1,rfl⟩:=two hlen2;have r0:=hf2 0 _ rfl;have r1:=hf2 1 _ rfl
   simp only[List.getElem_toArray,List.getElem_cons_zero,List.getElem_cons_succ,cellsInt64,List.drop_zero,List.drop_succ_cons,List.take_succ_cons,List.take_zero,List.getElem?_cons_zero,List.getElem?_cons_succ]at r0 r1;obtain⟨nn,en,rfl,wn⟩:=DataW.trod_int Tryz.underlying2 r0;obtain⟨dd,ed,rfl,wd⟩:=DataW.trod_int Tryz.underlying2 r1;simp only[List.cons.injEq,and_true]at ek eu en ed;subst ek eu en ed
   rcases DataW.trod_slice Tryz.underlying29 g3 with ⟨hc,rfl⟩ | ⟨a,len,cap,elems,rest,m2,hm2,hc,rfl,hb,hle,hcm,hel,hall,_,_⟩
   · simp only[List.cons.injEq,and_true]at hc;subst hc;exact⟨.mk k nn dd u none 0 0 0 [],rfl,int_of_wf wk,is64_of_wf wn wd,int_of_wf wu,Nat.le_refl _,Nat.zero_le _,by simp,fun h=>absurd h (by simp),fun i x h=>by simp at h⟩
   · simp only[List.cons.injEq,and_true]at hc;subst hc
     obtain rfl:m2=m:=by omega
     have hwt:∀ nn∈(DataW.slice (elems.map (·.1)) (rest.map (·.1)):DataW H).weights Tryz.prog 29,nn≤140737488355328:=fun nn hn=>hw nn (by
      simp only[DataW.weights,Tryz.underlying31,List.map_cons,List.map_nil,DataW.weightsEach,List.mem_append]
      exact Or.inr (Or.inr (Or.inr (Or.inl hn))))
     simp only[DataW.weights,Tryz.underlying29,bytesExpr,List.length_map,List.mem_cons,List.mem_append]at hwt;have hw0:=hwt _ (Or.inl rfl)
     have each:∀ i,i<len→∃ e:Ex,(∀ j v,(xcells e)[j]?=some v→w.cell? ((a.add (i*5)).add j)=some v)∧ExIn w m2 e:=fun i hi=>by
      have hi':=hall i hi;rw[cellsExpr]at hi';obtain⟨y,hy⟩:∃ y,elems[i]?=some y:=⟨elems[i]'(by omega),List.getElem?_eq_getElem (by omega)⟩;rw[hy]at hi';obtain⟨cs',hcs,hy'⟩:=Option.bind_eq_some_iff.1 hi';obtain⟨_,hcl,hcell⟩:=World.cells?_some hcs;obtain⟨e,rfl,he⟩:=ih m2 (by omega) cs' y hy' (fun n hn=>hwt n (Or.inr (Or.inl (weights_all hy hn))));refine⟨e,fun j v hj=>?_,he⟩
      have hj5:j<5:=by have:=(List.getElem?_eq_some_iff.1 hj).1;omega
      exact(hcell j hj5).trans hj
     obtain⟨f,hf⟩:=choose_lt each;obtain⟨ab,ao,asp⟩:=a
     have hsp:0<len→asp=none∧ab<w.heap.size:=fun hpos=>by
      obtain⟨v,hv⟩:∃ v,(xcells (f 0))[0]?=some v:=by cases f 0;exact⟨_,rfl⟩
      have hc:=(hf 0 hpos).1 0 v hv;refine⟨by simpa[Addr.add] using World.cell?_spot hc,by simpa[Addr.add] using World.block_lt_of_cell? w _ hc⟩
     refine⟨.mk k nn dd u (some ⟨ab,ao,asp⟩) ab ao cap ((List.range len).map f),by simp[xcells],int_of_wf wk,is64_of_wf wn wd,int_of_wf wu,by simpa using hle,hcm,by simp;omega,fun hpos=>?_,fun i x hx=>?_⟩
     · simp only[List.length_map,List.length_range]at hpos;exact⟨by rw[(hsp hpos).1],(hsp hpos).2⟩
     · rw[List.getElem?_map]at hx
       rcases Nat.lt_or_ge i len with hi|hi
       · rw[List.getElem?_range hi]at hx;obtain rfl:=Option.some.inj hx;obtain⟨rfl,_⟩:=hsp (by omega);refine⟨fun j v hj=>?_,(hf i hi).2.mono _ _ (by omega)⟩;have:=(hf i hi).1 j v hj;rwa [Addr.add_lit,Addr.add_lit]at this
       · rw[List.getElem?_eq_none (by simpa using hi)]at hx
         cases hx
where
 weights_all {e:TypeId} {l:List (DataW H×List MemPlace)} {i:Nat} {y:DataW H×List MemPlace} {n:Nat} (h:l[i]?=some y) (hn:n∈y.1.weights Tryz.prog e):n∈DataW.weightsAll Tryz.prog e (l.map (·.1)):=by
  induction l generalizing i with
  | nil=>simp at h
  | cons z l ih =>
    simp only[List.map_cons,DataW.weightsAll,List.mem_append]
    cases i with
    | zero=>simp at h;subst h;exact Or.inl hn
    | succ i=>exact Or.inr (ih (by simpa using h))
end
end Go.Proofs.YtnbkbenkhkinoaaGreatDoor
