/- Of my texts: TreeP, LiftE. -/
import Derived.Test.YtnbkbenkhkinoaaGreatDoorM20
import Derived.Test.YtnbkbenkhkinoaaGreatDoorM28
import Derived.Deep.Strs
import Derived.SizedLaws
namespace Go.Proofs.YtnbkbenkhkinoaaGreatDoor
set_option linter.unusedVariables false
set_option linter.unusedSimpArgs false
open Go.ChangeShapes Go.WideShapes Go.ChangeAt Go.RowKit Go.Deep
theorem cellsString:Tryz.prog.cellsOf 9=1:=by kernel_rfl
theorem cellsBool:Tryz.prog.cellsOf 4=1:=by kernel_rfl
theorem cellsLeaf:Tryz.prog.cellsOf 33=12:=by kernel_rfl
theorem cellsCond:Tryz.prog.cellsOf 35=14:=by kernel_rfl
theorem cellsConds:Tryz.prog.cellsOf 26=1:=by kernel_rfl
theorem bytesCond:Tryz.prog.bytesOf 35=168:=by kernel_rfl
theorem eight {α:Type} {l:List α} (h:l.length=8):∃ a b c d e f g i,l=[a,b,c,d,e,f,g,i]:=by
 match l,h with
 | [a,b,c,d,e,f,g,i],_=>exact⟨a,b,c,d,e,f,g,i,rfl⟩
theorem three {α:Type} {l:List α} (h:l.length=3):∃ a b c,l=[a,b,c]:=by
 match l,h with
 | [a,b,c],_=>exact⟨a,b,c,rfl⟩
theorem twelve {α:Type} {l:List α} (h:l.length=12):∃ a b c d e f g i j k m n,l=[a,b,c,d,e,f,g,i,j,k,m,n]:=by
 match l,h with
 | [a,b,c,d,e,f,g,i,j,k,m,n],_=>exact⟨a,b,c,d,e,f,g,i,j,k,m,n,rfl⟩
theorem fourteen {α:Type} {l:List α} (h:l.length=14):∃ a b l2,l=a::b::l2∧l2.length=12:=by
 match l,h with
 | a::b::l2,h=>exact⟨a,b,l2,rfl,by simpa using h⟩
section
variable {H:Type} {enc:TypeId×Value→H} {w:World} {base:Nat} {spare:Nat→Bool} {held:Bool}
set_option maxRecDepth 100000 in
theorem open_lf (fuel:Nat) (cs:List Value) (x:DataW H×List MemPlace) (h:DataW.trod enc Tryz.prog w base spare held fuel 33 cs=some x) (hw:∀ n∈x.1.weights Tryz.prog 33,n≤140737488355328) :
  ∃ l:Lf,cs=lcells l∧LfIn w fuel l:=by
 obtain⟨xs,n,rfl,rfl,hl,hlen,hf⟩:=DataW.trod_struct Tryz.underlying33 h;obtain⟨y0,y1,y2,y3,y4,y5,y6,y7,rfl⟩:=eight hlen;obtain⟨c0,c1,c2,c3,c4,c5,c6,c7,c8,c9,c10,c11,rfl⟩:=twelve (hl.trans cellsLeaf);have g0:=hf 0 _ rfl;have g1:=hf 1 _ rfl;have g2:=hf 2 _ rfl;have g3:=hf 3 _ rfl;have g4:=hf 4 _ rfl;have g5:=hf 5 _ rfl;have g6:=hf 6 _ rfl;have g7:=hf 7 _ rfl;simp only[List.getElem_toArray,List.getElem_cons_zero,List.getElem_cons_succ,cellsInt,cellsString,cellsBool,cellsExpr,List.drop_zero,List.drop_succ_cons,List.take_succ_cons,List.take_zero,List.getElem?_cons_zero,List.getElem?_cons_succ]at g0 g1 g2 g3 g4 g5 g6 g7;obtain⟨k,e0,rfl,w0⟩:=DataW.trod_int Tryz.underlying3 g0;obtain⟨t,e1,rfl,w1⟩:=DataW.trod_int Tryz.underlying3 g1;obtain⟨nm,e2,rfl,_⟩:=DataW.trod_string Tryz.underlying9 g2;obtain⟨op,e3,rfl,w3⟩:=DataW.trod_int Tryz.underlying3 g3
 obtain ⟨ex,e4,hx⟩:=open_ex n _ _ g4 (fun n hn=>hw n (by
  simp only[DataW.weights,Tryz.underlying33,List.map_cons,List.map_nil,DataW.weightsEach,List.mem_append]
  exact Or.inr (Or.inr (Or.inr (Or.inr (Or.inl hn))))))
 obtain⟨wd,e5,rfl,_⟩:=DataW.trod_string Tryz.underlying9 g5;obtain⟨vl,e6,rfl,_⟩:=DataW.trod_string Tryz.underlying9 g6;obtain⟨an,e7,rfl⟩:=DataW.trod_bool Tryz.underlying4 g7;refine⟨⟨k,t,nm,op,ex,wd,vl,an⟩,?_,int_of_wf w0,int_of_wf w1,int_of_wf w3,hx.mono _ _ (by omega)⟩;simp only[List.cons.injEq,and_true]at e0 e1 e2 e3 e5 e6 e7;subst e0 e1 e2 e3 e5 e6 e7;show [Value.int .i64 k,.int .i64 t,.string nm,.int .i64 op]++[c4,c5,c6,c7,c8]++[.string wd,.string vl,.bool an]=_;rw[e4];rfl
theorem bulk_all {l:List (DataW H×List MemPlace)} (f:Nat→Nat) (h:∀ i y,l[i]?=some y→f i≤Rows.uptoBulk y.1):((List.range l.length).map f).sum≤Rows.uptoBulkAll (l.map (·.1)):=by
 induction l generalizing f with
 | nil=>simp
 | cons y l ih =>
   have h0:=h 0 y rfl;have:=ih (fun i=>f (i+1)) (fun i z hz=>h (i+1) z (by simpa using hz));simp only[List.length_cons,List.range_succ_eq_map,List.map_cons,List.map_map,List.sum_cons,Rows.uptoBulkAll];have e:((List.range l.length).map (f ∘ Nat.succ)).sum=((List.range l.length).map fun i=>f (i+1)).sum:=rfl;omega
theorem weights_mem {e:TypeId} {l:List (DataW H×List MemPlace)} {i:Nat} {y:DataW H×List MemPlace} {n:Nat} (h:l[i]?=some y) (hn:n∈y.1.weights Tryz.prog e):n∈DataW.weightsAll Tryz.prog e (l.map (·.1)):=by
 induction l generalizing i with
 | nil=>simp at h
 | cons z l ih =>
   simp only[List.map_cons,DataW.weightsAll,List.mem_append]
   cases i with
   | zero=>simp at h;subst h;exact Or.inl hn
   | succ i=>exact Or.inr (ih (by simpa using h))
theorem leaves_sum (h:Nat) (f:Nat→Cd) (n:Nat):(((List.range n).map f).flatMap (leavesC h)).length=((List.range n).map fun i=>(leavesC h (f i)).length).sum:=by
 rw[List.length_flatMap,List.map_map];rfl
set_option maxRecDepth 100000 in
theorem open_cd:∀ (fuel:Nat) (cs:List Value) (x:DataW H×List MemPlace),DataW.trod enc Tryz.prog w base spare held fuel 35 cs=some x→(∀ n∈x.1.weights Tryz.prog 35,n≤140737488355328) →
  ∃ e:Cd,cs=ccells e∧CdIn w fuel e∧(leavesC fuel e).length≤Rows.uptoBulk x.1:=by
 intro fuel
 induction fuel using Nat.strongRecOn with
 | _ fuel ih =>
   intro cs x h hw;obtain⟨xs,n,rfl,rfl,hl,hlen,hf⟩:=DataW.trod_struct Tryz.underlying35 h;obtain⟨y0,y1,y2,rfl⟩:=three hlen;obtain⟨c0,c1,cl,rfl,hcl⟩:=fourteen (hl.trans cellsCond);have g0:=hf 0 _ rfl;have g1:=hf 1 _ rfl;have g2:=hf 2 _ rfl;simp only[List.getElem_toArray,List.getElem_cons_zero,List.getElem_cons_succ,cellsInt,cellsLeaf,cellsConds,List.drop_zero,List.drop_succ_cons,List.take_succ_cons,List.take_zero,List.getElem?_cons_zero,List.getElem?_cons_succ]at g0 g1 g2;rw[List.take_of_length_le (by omega)]at g2;obtain⟨k,e0,rfl,w0⟩:=DataW.trod_int Tryz.underlying3 g0
   obtain ⟨lf,rfl,hlf⟩:=open_lf n _ _ g2 (fun n hn=>hw n (by
    simp only[DataW.weights,Tryz.underlying35,List.map_cons,List.map_nil,DataW.weightsEach,List.mem_append]
    exact Or.inr (Or.inr (Or.inl hn))))
   simp only[List.cons.injEq,and_true]at e0;subst e0
   rcases DataW.trod_slice Tryz.underlying26 g1 with ⟨hc,rfl⟩ | ⟨a,len,cap,elems,rest,m2,rfl,hc,rfl,hb,hle,hcm,hel,hall,_,_⟩
   · simp only[List.cons.injEq,and_true]at hc;subst hc;refine⟨.mk k none 0 0 0 [] lf,rfl,⟨int_of_wf w0,hlf,Nat.le_refl _,Nat.zero_le _,by simp,fun h=>absurd h (by simp),fun i x h=>by simp at h⟩,?_⟩;unfold leavesC;simp only[Rows.uptoBulk,Rows.uptoBulkAll,List.map_cons,List.map_nil];split<;>simp
   · simp only[List.cons.injEq,and_true]at hc;subst hc
     have hwt:∀ nn∈(DataW.slice (elems.map (·.1)) (rest.map (·.1)):DataW H).weights Tryz.prog 26,nn≤140737488355328:=fun nn hn=>hw nn (by
      simp only[DataW.weights,Tryz.underlying35,List.map_cons,List.map_nil,DataW.weightsEach,List.mem_append]
      exact Or.inr (Or.inl hn))
     simp only[DataW.weights,Tryz.underlying26,bytesCond,List.length_map,List.mem_cons,List.mem_append]at hwt;have hw0:=hwt _ (Or.inl rfl)
     have each:∀ i,i<len→∃ e:Cd,(∀ j v,(ccells e)[j]?=some v→w.cell? ((a.add (i*14)).add j)=some v)∧CdIn w m2 e∧∀ y,elems[i]?=some y→(leavesC m2 e).length≤Rows.uptoBulk y.1:=fun i hi=>by
      have hi':=hall i hi;rw[cellsCond]at hi';obtain⟨y,hy⟩:∃ y,elems[i]?=some y:=⟨elems[i]'(by omega),List.getElem?_eq_getElem (by omega)⟩;rw[hy]at hi';obtain⟨cs',hcs,hy'⟩:=Option.bind_eq_some_iff.1 hi';obtain⟨_,hcl,hcell⟩:=World.cells?_some hcs;obtain⟨e,rfl,he,hlv⟩:=ih m2 (by omega) cs' y hy' (fun n hn=>hwt n (Or.inr (Or.inl (weights_mem hy hn))));refine⟨e,fun j v hj=>?_,he,fun z hz=>by rw[hy]at hz;obtain rfl:=Option.some.inj hz;exact hlv⟩
      have hj14:j<14:=by have:=(List.getElem?_eq_some_iff.1 hj).1;omega
      exact(hcell j hj14).trans hj
     obtain⟨f,hf⟩:=choose_lt each;obtain⟨ab,ao,asp⟩:=a
     have hsp:0<len→asp=none∧ab<w.heap.size:=fun hpos=>by
      obtain⟨v,hv⟩:∃ v,(ccells (f 0))[0]?=some v:=by cases f 0;exact⟨_,rfl⟩
      have hc:=(hf 0 hpos).1 0 v hv;refine⟨by simpa[Addr.add] using World.cell?_spot hc,by simpa[Addr.add] using World.block_lt_of_cell? w _ hc⟩
     have hin:CdIn w (m2+1+1) (.mk k (some ⟨ab,ao,asp⟩) ab ao cap ((List.range len).map f) lf):=by
      refine⟨int_of_wf w0,hlf,by simpa using hle,hcm,by simp;omega,fun hpos=>?_,fun i x hx=>?_⟩
      · simp only[List.length_map,List.length_range]at hpos;exact⟨by rw[(hsp hpos).1],(hsp hpos).2⟩
      · rw[List.getElem?_map]at hx
        rcases Nat.lt_or_ge i len with hi|hi
        · rw[List.getElem?_range hi]at hx;obtain rfl:=Option.some.inj hx;obtain⟨rfl,_⟩:=hsp (by omega);refine⟨fun j v hj=>?_,(hf i hi).2.1.mono _ _ (by omega)⟩;have:=(hf i hi).1 j v hj;rwa [Addr.add_lit,Addr.add_lit]at this
        · rw[List.getElem?_eq_none (by simpa using hi)]at hx
          cases hx
     refine⟨_,by simp[ccells],hin,?_⟩;unfold leavesC;split
     · simp only[Rows.uptoBulk,Rows.uptoBulkAll,List.map_cons,List.map_nil,List.length_singleton];omega
     · have e1:((List.range len).map f).flatMap (leavesC (m2+1))=((List.range len).map f).flatMap (leavesC m2):=flatMap_congr' fun x hx=>by
        obtain⟨i,hi,rfl⟩:=List.mem_map.1 hx;exact leavesC_mono m2 (m2+1) (by omega) (hf i (List.mem_range.1 hi)).2.1
       rw[e1,leaves_sum];have:=bulk_all (l:=elems) (fun i=>(leavesC m2 (f i)).length) (fun i y hy=>(hf i (by have:=(List.getElem?_eq_some_iff.1 hy).1;omega)).2.2 y hy);rw[hel]at this;simp only[Rows.uptoBulk,Rows.uptoBulkAll,List.map_cons,List.map_nil];omega
end
section
variable {H:Type} {enc:TypeId×Value→H} {w:World} {base:Nat} {spare:Nat→Bool} {held:Bool}
end
theorem reach_le {n:Nat} (h:n≤reachBytes):n≤140737488355328:=Nat.le_trans h (by decide)
theorem reach_of {H:Type} {P:Program} {ts:List TypeId} {ds:List (DataW H)} (h:(DataW.weightsEach P ts ds).all (·≤reachBytes)=true) {j:Nat} {t:TypeId} {d:DataW H} (ht:ts[j]?=some t) (hd:ds[j]?=some d):∀ n∈d.weights P t,n≤140737488355328:=fun n hn =>
 reach_le (by simpa using List.all_eq_true.1 h n (DataW.weights_mem_each ht hd n hn))
end Go.Proofs.YtnbkbenkhkinoaaGreatDoor
