/- Of my texts: TreeO. -/
import Derived.Test.YtnanffmhbjdpaaaGreatDoorM00
import Derived.Test.YtnanffmhbjdpaaaGreatDoorM14
import Derived.Test.YtnanffmhbjdpaaaGreatDoorM15
import Derived.Test.YtnanffmhbjdpaaaGreatDoorM16
import Derived.Deep.Slices
import Derived.Lib.SmallJoins
namespace Go.Proofs.YtnanffmhbjdpaaaGreatDoor
set_option maxRecDepth 100000
set_option linter.unusedVariables false
set_option linter.unusedSimpArgs false
open Go.ChangeShapes Go.WideShapes Go.ChangeAt Go.RowKit Go.Deep
instance:Inhabited Ex:=⟨.mk 0 0 0 0 none 0 0 0 []⟩
instance:Inhabited Cd:=⟨.mk 0 none 0 0 0 [] ⟨0,0,ByteArray.empty,0,default,ByteArray.empty,ByteArray.empty,false⟩⟩
theorem Zy.mono:∀ (h h':Nat) {w:World} {e:Ex},h≤h'→Zy w h e→Zy w h' e
 | 0,_,_,_,_,hx=>hx.elim
 | h+1,0,_,_,hl,_=>by omega
 | h+1,h'+1,w,.mk k n d u oa b o cap kids,hl,hx=>by
   obtain⟨h1,h2,h3,h4,h5,h6,h7,h8⟩:=hx;exact⟨h1,h2,h3,h4,h5,h6,h7,fun i x hi=>⟨(h8 i x hi).1,Zy.mono h h' (by omega) (h8 i x hi).2⟩⟩
theorem Wg.mono:∀ (h h':Nat) {w:World} {e:Cd},h≤h'→Wg w h e→Wg w h' e
 | 0,_,_,_,_,hx=>hx.elim
 | h+1,0,_,_,hl,_=>by omega
 | h+1,h'+1,w,.mk k oa b o cap kids leaf,hl,hx=>by
   obtain⟨h1,h2,h4,h5,h6,h7,h8⟩:=hx;exact⟨h1,⟨h2.1,h2.2.1,h2.2.2.1,h2.2.2.2.mono h h' (by omega)⟩,h4,h5,h6,h7,fun i x hi=>⟨(h8 i x hi).1,Wg.mono h h' (by omega) (h8 i x hi).2⟩⟩
theorem Mp:Tryz.prog.cellsOf 3=1:=by kernel_rfl
theorem Mo:Tryz.prog.cellsOf 2=1:=by kernel_rfl
theorem Ad:Tryz.prog.cellsOf 23=2:=by kernel_rfl
theorem Oj:Tryz.prog.cellsOf 32=5:=by kernel_rfl
theorem Tn:Tryz.prog.cellsOf 30=1:=by kernel_rfl
theorem Q2z:Tryz.prog.bytesOf 32=56:=by kernel_rfl
theorem five {α:Type} {l:List α} (h:l.length=5):∃ a b c d e,l=[a,b,c,d,e]:=by
 match l,h with
 | [a,b,c,d,e],_=>exact⟨a,b,c,d,e,rfl⟩
theorem Q8f {α:Type} {l:List α} (h:l.length=4):∃ a b c d,l=[a,b,c,d]:=by
 match l,h with
 | [a,b,c,d],_=>exact⟨a,b,c,d,rfl⟩
theorem two {α:Type} {l:List α} (h:l.length=2):∃ a b,l=[a,b]:=by
 match l,h with
 | [a,b],_=>exact⟨a,b,rfl⟩
section
variable {H:Type} {enc:TypeId×Value→H} {w:World} {base:Nat} {spare:Nat→Bool} {held:Bool}
theorem Q60:∀ (fuel:Nat) (cs:List Value) (x:DataW H×List MemPlace),DataW.trod enc Tryz.prog w base spare held fuel 32 cs=some x→(∀ n∈x.1.weights Tryz.prog 32,n≤140737488355328) →
  ∃ e:Ex,cs=J6 e∧Zy w fuel e:=by
 intro fuel
 induction fuel using Nat.strongRecOn with
 | _ fuel ih =>
   intro cs x h hw;obtain⟨xs,n,rfl,rfl,hl,hlen,hf⟩:=DataW.trod_struct Tryz.underlying32 h;obtain⟨y0,y1,y2,y3,rfl⟩:=Q8f hlen;obtain⟨c0,c1,c2,c3,c4,rfl⟩:=five (hl.trans Oj);have g0:=hf 0 _ rfl;have g1:=hf 1 _ rfl;have g2:=hf 2 _ rfl;have g3:=hf 3 _ rfl;simp only[List.getElem_toArray,List.getElem_cons_zero,List.getElem_cons_succ,Mp,Ad,Tn,List.drop_zero,Z4,List.take_succ_cons,List.take_zero,Qq,Qo]at g0 g1 g2 g3;obtain⟨k,ek,rfl,wk⟩:=DataW.trod_int Tryz.underlying3 g0;obtain⟨u,eu,rfl,wu⟩:=DataW.trod_int Tryz.underlying3 g2;obtain⟨ys,m,rfl,rfl,_,hlen2,hf2⟩:=DataW.trod_struct Tryz.underlying23 g1;obtain⟨z0,z1,rfl⟩:=two hlen2;have r0:=hf2 0 _ rfl;have r1:=hf2 1 _ rfl
   simp only[List.getElem_toArray,List.getElem_cons_zero,List.getElem_cons_succ,Mo,List.drop_zero,Z4,List.take_succ_cons,List.take_zero,Qq,Qo]at r0 r1;obtain⟨nn,en,rfl,wn⟩:=DataW.trod_int Tryz.underlying2 r0;obtain⟨dd,ed,rfl,wd⟩:=DataW.trod_int Tryz.underlying2 r1;simp only[List.cons.injEq,and_true]at ek eu en ed;subst ek eu en ed
   rcases DataW.trod_slice Tryz.underlying30 g3 with ⟨hc,rfl⟩ | ⟨a,len,cap,elems,rest,m2,hm2,hc,rfl,hb,hle,hcm,hel,hall,_,_⟩
   · simp only[List.cons.injEq,and_true]at hc;subst hc;exact⟨.mk k nn dd u none 0 0 0 [],rfl,Gh wk,Bb wn wd,Gh wu,Q6 _,Qs _,by simp,fun h=>absurd h (by simp),fun i x h=>by simp at h⟩
   · simp only[List.cons.injEq,and_true]at hc;subst hc
     obtain rfl:m2=m:=by omega
     have hwt:∀ nn∈(DataW.slice (elems.map (·.1)) (rest.map (·.1)):DataW H).weights Tryz.prog 30,nn≤140737488355328:=fun nn hn=>hw nn (by
      simp only[DataW.weights,Tryz.underlying32,List.map_cons,List.map_nil,DataW.weightsEach,Zh]
      exact Or.inr (Or.inr (Or.inr (Or.inl hn))))
     simp only[DataW.weights,Tryz.underlying30,Q2z,Qj,List.mem_cons,Zh]at hwt;have hw0:=hwt _ (Or.inl rfl)
     have each:∀ i,i<len→∃ e:Ex,(∀ j v,(J6 e)[j]?=some v→w.cell? ((a.add (i*5)).add j)=some v)∧Zy w m2 e:=fun i hi=>by
      have hi':=hall i hi;rw[Oj]at hi';obtain⟨y,hy⟩:∃ y,elems[i]?=some y:=⟨elems[i]'(by omega),Q9 (by omega)⟩;rw[hy]at hi';obtain⟨cs',hcs,hy'⟩:=Option.bind_eq_some_iff.1 hi';obtain⟨_,hcl,hcell⟩:=World.cells?_some hcs;obtain⟨e,rfl,he⟩:=ih m2 (by omega) cs' y hy' (fun n hn=>hwt n (Or.inr (Or.inl (weights_all hy hn))));refine⟨e,fun j v hj=>?_,he⟩
      have hj5:j<5:=by have:=(Qn.1 hj).1;omega
      exact(hcell j hj5).trans hj
     obtain⟨f,hf⟩:=choose_lt each;obtain⟨ab,ao,asp⟩:=a
     have hsp:0<len→asp=none∧ab<w.heap.size:=fun hpos=>by
      obtain⟨v,hv⟩:∃ v,(J6 (f 0))[0]?=some v:=by cases f 0;exact⟨_,rfl⟩
      have hc:=(hf 0 hpos).1 0 v hv;refine⟨by simpa[Addr.add] using World.cell?_spot hc,by simpa[Addr.add] using World.block_lt_of_cell? w _ hc⟩
     refine⟨.mk k nn dd u (some ⟨ab,ao,asp⟩) ab ao cap ((List.range len).map f),by simp[J6],Gh wk,Bb wn wd,Gh wu,by simpa using hle,hcm,by simp;omega,fun hpos=>?_,fun i x hx=>?_⟩
     · simp only[Qj,List.length_range]at hpos;exact⟨by rw[(hsp hpos).1],(hsp hpos).2⟩
     · rw[Z5]at hx
       rcases Nat.lt_or_ge i len with hi|hi
       · rw[List.getElem?_range hi]at hx;obtain rfl:=Q8 hx;obtain⟨rfl,_⟩:=hsp (by omega);refine⟨fun j v hj=>?_,(hf i hi).2.mono _ _ (by omega)⟩;have:=(hf i hi).1 j v hj;rwa [Addr.add_lit,Addr.add_lit]at this
       · rw[Zf (by simpa using hi)]at hx
         cases hx
where
 weights_all {e:TypeId} {l:List (DataW H×List MemPlace)} {i:Nat} {y:DataW H×List MemPlace} {n:Nat} (h:l[i]?=some y) (hn:n∈y.1.weights Tryz.prog e):n∈DataW.weightsAll Tryz.prog e (l.map (·.1)):=by
  induction l generalizing i with
  | nil=>simp at h
  | cons z l ih =>
    simp only[List.map_cons,DataW.weightsAll,Zh]
    cases i with
    | zero=>simp at h;subst h;exact Or.inl hn
    | succ i=>exact Or.inr (ih (by simpa using h))
end
end Go.Proofs.YtnanffmhbjdpaaaGreatDoor
