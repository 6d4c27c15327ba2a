/- Of my texts: CalcA, KindM, FeatM, MedA, KindC. -/
import Derived.Test.YtnanffmhbjdpaaaGreatDoorM00
import Derived.Test.YtnanffmhbjdpaaaGreatDoorM05
import Derived.Test.YtnanffmhbjdpaaaGreatDoorM06
import Derived.Test.YtnanffmhbjdpaaaGreatDoorM14
import Derived.Test.YtnanffmhbjdpaaaGreatDoorM19
namespace Go.Proofs.YtnanffmhbjdpaaaGreatDoor
set_option maxHeartbeats 8000000
set_option maxRecDepth 20000
set_option linter.unusedVariables false
set_option linter.unusedSimpArgs false
open Go.RowKit
mutual
def Ex.c:Ex→Et
 | .mk k n d u _ _ _ _ kids=>.mk k n d u (Ex.cs kids)
def Ex.cs:List Ex→List Et
 | []=>[]
 | x::r=>x.c::Ex.cs r
end
theorem Ex.cs_map:∀ l:List Ex,Ex.cs l=l.map Ex.c
 | []=>rfl
 | x::r=>by rw[Ex.cs,Ex.cs_map r];rfl
theorem Ex.c_mk (k n d u:Int) (oa:Option Addr) (b o cap:Nat) (kids:List Ex):(Ex.mk k n d u oa b o cap kids).c=.mk k n d u (kids.map Ex.c):=by rw[Ex.c,Ex.cs_map]
theorem Ej (x:Ex):(J6 x).length=5:=by cases x;rfl
theorem Zy.of_sl {w:World} {h:Nat} {k n d u:Int} {oa:Option Addr} {b cap:Nat} {l:List Ex} (hk:Wj k) (hn:U2 (n,d)) (hu:Wj u) (hl:l.length*56≤140737488355328) (hs:Sl w oa l.length cap b 0 5 (l.flatMap J6)) (he:∀ x∈l,Zy w h x):Zy w (h+1) (.mk k n d u oa b 0 cap l) :=
 ⟨hk,hn,hu,hs.le,hs.max,hl,hs.lies,fun i x hi=>⟨fun j v hv=>by
   have:=hs.cell _ _ (Yu Ej l i x j v hi hv);rw[show 0+i*5+j=0+(i*5+j) by omega]
   exact this,he x (List.mem_of_getElem? hi)⟩⟩
theorem Zy.made {A:Nat→Prop} {w:World} {h:Nat} {k n d u:Int} {oa:Option Addr} {b cap:Nat} {l:List Ex} (hk:Wj k) (hn:U2 (n,d)) (hu:Wj u) (hl:l.length*56≤140737488355328) (hs:Sl w oa l.length cap b 0 5 (l.flatMap J6)) (hA:0<l.length→¬ A b)
 (he:J3 A w fun w=>∀ x∈l,Zy w h x):J3 A w fun w=>Zy w (h+1) (.mk k n d u oa b 0 cap l):=fun w' g1 g2=>.of_sl hk hn hu hl ((hs.safe hA) w' g1 g2) (he w' g1 g2)
theorem Zy.leaf {A:Nat→Prop} {w:World} {k n d u:Int} (hk:Wj k) (hn:U2 (n,d)) (hu:Wj u):J3 A w fun w=>Zy w 1 (.mk k n d u none 0 0 0 []):=fun w' _ _ =>
 .of_sl (h:=0) hk hn hu (by simp) ⟨rfl,Q6 _,Qs _,fun h=>absurd h (by simp),fun j v h=>by simp at h⟩ (fun x hx=>by cases hx)
def Jk (A:Nat→Prop) (E:Et) (v:Value) (w:World):Prop:=∃ (x:Ex) (h:Nat),v=xv x∧x.c=E∧J3 A w fun w=>Zy w h x
def Sh (v:Value):Prop:=∃ (k n d u:Int) (oa:Option Addr) (L cap:Nat),v=.agg #[.int .i64 k,.int .i64 n,.int .i64 d,.int .i64 u,.slice oa L cap]
theorem Q6a (x:Ex):Sh (xv x):=by obtain⟨k,n,d,u,oa,b,o,cap,kids⟩:=x;exact⟨k,n,d,u,oa,kids.length,cap,rfl⟩
theorem Jk.e5 {A:Nat→Prop} {E:Et} {v:Value} {w:World} (h:Jk A E v w):Sh v:=by obtain⟨x,_,rfl,_⟩:=h;exact Q6a x
theorem Jk.anti {A A':Nat→Prop} {E:Et} {v:Value} {w:World} (h:Jk A E v w) (hA:∀ b,A' b→A b∨w.heap.size≤b):Jk A' E v w:=by
 obtain⟨x,hh,hv,hc,hs⟩:=h;exact⟨x,hh,hv,hc,hs.wide hA⟩
theorem Jk.grown {A:Nat→Prop} {E:Et} {v:Value} {w w':World} {row:Option Nat} (h:Jk A E v w) (hg:w.grownBy w' row) (hr:∀ k,row=some k→k<w.heap.size→A k):Jk A E v w':=by
 obtain⟨x,hh,hv,hc,hs⟩:=h;exact⟨x,hh,hv,hc,hs.grown hg hr⟩
theorem Jk.below {A:Nat→Prop} {E:Et} {v:Value} {w w':World} (h:Jk A E v w) (hb:Below w.heap.size w w'):Jk A E v w':=h.grown (Qc hb none) (fun _ e=>by cases e)
def Ys (A:Nat→Prop) (r:Option Et) (e:Ending) (w:World):Prop:=∃ (v:Value) (ok:Bool),e=.returned (.tuple #[v,.bool ok])∧ok=r.isSome∧Sh v∧∀ E,r=some E→Jk A E v w
theorem Ql.put5 {w:World} {g:Nat} {t:TypeId} {a0 a1 a2 a3 a4:Value} (h:Ql w g t #[a0,a1,a2,a3,a4]) (x0 x1 x2 x3 x4:Value) :
 Ql (((((w.setCell ⟨g,0,none⟩ x0).setCell ⟨g,1,none⟩ x1).setCell ⟨g,2,none⟩ x2).setCell ⟨g,3,none⟩ x3).setCell ⟨g,4,none⟩ x4) g t #[x0,x1,x2,x3,x4]:=((((h.put 0 x0).put 1 x1).put 2 x2).put 3 x3).put 4 x4
theorem Jh {B:Nat} {w0 w:World} (h:Below B w0 w) {g:Nat} (hg:B≤g) (x0 x1 x2 x3 x4:Value) :
 Below B w0 (((((w.setCell ⟨g,0,none⟩ x0).setCell ⟨g,1,none⟩ x1).setCell ⟨g,2,none⟩ x2).setCell ⟨g,3,none⟩ x3).setCell ⟨g,4,none⟩ x4):=((((h.setCell hg x0).setCell hg x1).setCell hg x2).setCell hg x3).setCell hg x4
theorem Rq:(Tryz.prog.info? 32).map (·.size)=some 5:=by kernel_rfl
theorem Q68 {w:World} {g:Nat} {t:TypeId} {cs:Array Value} (h:Ql w g t cs) (hs:cs.size=5):(loadVar 32 ⟨g,0,none⟩).run Tryz.prog w=.ok (.agg cs) w :=
 run_loadVar_row w g t _ cs (0,0) _ h Tryz.underlying32 rfl (by rw[hs];exact Rq)
theorem Li {fn:Func} {p:Tmp} {tmps:Array Value} {w:World} {g:Nat} {t:TypeId} {cs:Array Value} (hr:fn.results=#[.cell p 32]) (hp:tmps.getD p undef=.pointer (some ⟨g,0,none⟩)) (h:Ql w g t cs) (hs:cs.size=5):(results fn tmps).run Tryz.prog w=.ok (.agg cs) w :=
 results_cell_row hr tmps w g t cs (0,0) _ hp h Tryz.underlying32 rfl (by rw[hs];exact Rq)
theorem Zj {fn:Func} {p u:Tmp} {tmps:Array Value} {w:World} {g:Nat} {t:TypeId} {cs:Array Value} {x:Value} (hr:fn.results=#[.cell p 32,.tmp u]) (hp:tmps.getD p undef=.pointer (some ⟨g,0,none⟩)) (hu:tmps.getD u undef=x) (h:Ql w g t cs) (hs:cs.size=5):(results fn tmps).run Tryz.prog w=.ok (.tuple #[.agg cs,x]) w:=by
 rw[results_cell_tmp hr,hp,hu];simp only[asAddr,Sem.run_pure,Result.andThen_ok,Q68 h hs]
theorem Z1 (k:Int) (h:0≤k∧k≤8):Wj k:=by unfold Wj;omega
theorem Ha (r:Rt) (u:Int) (w:World) (h64:U2 r) :
  Calls Tryz.prog 184 #[rv r,.int .i64 u] w fun e w'=>e=.returned (.agg #[.int .i64 1,.int .i64 (Je r).1,.int .i64 (Je r).2,.int .i64 u,.slice none 0 0])∧Below w.heap.size w w':=by
 have hm:=fun w=>C3 r w h64
 unfold Je;obtain⟨n,d⟩:=r;obtain⟨B,hB⟩:∃ B,D6 (n,d)=B:=⟨_,rfl⟩;rw[hB]at hm ⊢;have HM:=Q1 hm;clear hm hB h64
 go_enter Tryz.func184,Tryz.ntmps184
 go_wp2_with fail
 ((with_reducible refine(HM.out _).mono ?_);rintro e w' ⟨rfl,hbw⟩)
 obtain⟨m,rfl⟩:=Qf hbw;clear hbw;have hb:=Q1 (Qa ((Q7 w (.cells #[.int .i64 n,.int .i64 d] 23)).alloc (by simp) (.cells #[.int .i64 0,.int .i64 0,.int .i64 0,.int .i64 0,.slice none 0 0] 32)) m);have h0:=((Ql.new w 23 #[.int .i64 n,.int .i64 d]).old (.cells #[.int .i64 0,.int .i64 0,.int .i64 0,.int .i64 0,.slice none 0 0] 32)).grow m;have h1:=(Ql.new2 w (.cells #[.int .i64 n,.int .i64 d] 23) 32 #[.int .i64 0,.int .i64 0,.int .i64 0,.int .i64 0,.slice none 0 0]).grow m;generalize grow _ m=wa at *;clear m;have ca0:wa.cell? ⟨w.heap.size,0,none⟩=some (.int .i64 n):=(h0).cell 0;have fca0:=(h0).frozen 0;have ca1:wa.cell? ⟨w.heap.size,1,none⟩=some (.int .i64 d):=(h0).cell 1;have fca1:=(h0).frozen 1;have lca:=(h0).lt;have cb0:wa.cell? ⟨w.heap.size+1,0,none⟩=some (.int .i64 0):=(h1).cell 0;have fcb0:=(h1).frozen 0
 have cb1:wa.cell? ⟨w.heap.size+1,1,none⟩=some (.int .i64 0):=(h1).cell 1;have fcb1:=(h1).frozen 1;have cb2:wa.cell? ⟨w.heap.size+1,2,none⟩=some (.int .i64 0):=(h1).cell 2;have fcb2:=(h1).frozen 2;have cb3:wa.cell? ⟨w.heap.size+1,3,none⟩=some (.int .i64 0):=(h1).cell 3;have fcb3:=(h1).frozen 3;have cb4:wa.cell? ⟨w.heap.size+1,4,none⟩=some (.slice none 0 0):=(h1).cell 4;have fcb4:=(h1).frozen 4;have lcb:=(h1).lt;clear h0;have H1:=Q1 h1;clear h1
 cases B with
 | true =>
   go_wp2_with fail;have hputs:=(H1.out).put5 (.int .i64 1) (.int .i64 n) (.int .i64 d) (.int .i64 u) (.slice none 0 0);refine bodyPost_ret (v:=.agg #[.int .i64 1,.int .i64 n,.int .i64 d,.int .i64 u,.slice none 0 0]) ?_ rfl ?_
   · refine Li Tryz.results184 ?_ hputs rfl
     all_goals rfl
   · exact⟨rfl,Jh hb.out (by simp) _ _ _ _ _⟩
 | false =>
   go_wp2_with fail;have H2:=H1.out.far2 (g':=w.heap.size) (by simp) 0 1 (.int .i64 0) (.int .i64 0);have hputs:=(H2).put5 (.int .i64 1) (.int .i64 0) (.int .i64 0) (.int .i64 u) (.slice none 0 0);refine bodyPost_ret (v:=.agg #[.int .i64 1,.int .i64 0,.int .i64 0,.int .i64 u,.slice none 0 0]) ?_ rfl ?_
   · refine Li Tryz.results184 ?_ hputs rfl
     all_goals rfl
   · exact⟨rfl,Jh ((hb.out.setCell (p:=⟨w.heap.size,0,none⟩) (Q6 _) _).setCell (p:=⟨w.heap.size,1,none⟩) (Q6 _) _) (by simp) _ _ _ _ _⟩
theorem Fz (A:Nat→Prop) (h:Nat) (k:Int) (oa:Option Addr) (b o cap:Nat) (kids:List Ex) (w:World) (hx:J3 A w fun w=>Zy w (h+1) (.mk k 0 0 0 oa b o cap kids)) :
  Calls Tryz.prog 229 #[.agg #[.int .i64 k,.int .i64 0,.int .i64 0,.int .i64 0,.slice oa kids.length cap]] w fun e w'=>(∃ v,e=.returned v∧Jk A (Jm k (kids.map Ex.c)) v w')∧Below w.heap.size w w':=by
 have hin:=hx.here;obtain⟨h1,h2,h3,h4,h5,h6,h7,h8⟩:=hin;have hsm:kids.length≤9223372036854775807:=Qz (Qz h4 h5) (by decide);have HX:=Q1 hx;obtain⟨L,hL⟩:∃ L,kids.length=L:=⟨_,rfl⟩;rw[hL]at hsm ⊢;have HL:=Q1 hL
 by_cases h1:L=1
 · subst h1;obtain⟨x,rfl⟩:∃ x,kids=[x]:=Zo.1 HL.out;obtain⟨h81,h82⟩:=h8 0 x rfl;obtain⟨rfl,hbl⟩:=h7 (by simp)
   have HE:=Q1 (show Jk A x.c (xv x) w from ⟨x,h,rfl,rfl,hx.mono fun w' hw=>by
    obtain⟨_,_,_,_,_,_,_,g8⟩:=hw
    exact(g8 0 x rfl).2⟩)
   obtain⟨k',n',d',u',oa',b',o',cap',kids'⟩:=x;have f0:w.cell? ⟨b,o,none⟩=some (.int .i64 k'):=h81 0 _ rfl;have f1:w.cell? ⟨b,o+1,none⟩=some (.int .i64 n'):=h81 1 _ rfl;have f2:w.cell? ⟨b,o+2,none⟩=some (.int .i64 d'):=h81 2 _ rfl;have f3:w.cell? ⟨b,o+3,none⟩=some (.int .i64 u'):=h81 3 _ rfl;have f4:w.cell? ⟨b,o+4,none⟩=some (.slice oa' kids'.length cap'):=h81 4 _ rfl;clear h81 h82 h8 h7 hL HL hx HX;obtain⟨K',hK'⟩:∃ K',kids'.length=K':=⟨_,rfl⟩;have HE2:=Q1 (show Jk A (Ex.mk k' n' d' u' oa' b' o' cap' kids').c (.agg #[.int .i64 k',.int .i64 n',.int .i64 d',.int .i64 u',.slice oa' K' cap']) w by rw[← hK'];exact HE.out);rw[hK']at f4;clear HE hK'
   go_enter Tryz.func229,Tryz.ntmps229
   go_wp2_with fail;have hbb:=(Q7 w (.cells #[.int .i64 k,.int .i64 0,.int .i64 0,.int .i64 0,.slice (some ⟨b,o,none⟩) 1 cap] 32)).alloc (by simp) (.cells #[.int .i64 k',.int .i64 n',.int .i64 d',.int .i64 u',.slice oa' K' cap'] 32);have hputs:=Ql.new2 w (.cells #[.int .i64 k,.int .i64 0,.int .i64 0,.int .i64 0,.slice (some ⟨b,o,none⟩) 1 cap] 32) 32 #[.int .i64 k',.int .i64 n',.int .i64 d',.int .i64 u',.slice oa' K' cap'];refine bodyPost_ret (v:=.agg #[.int .i64 k',.int .i64 n',.int .i64 d',.int .i64 u',.slice oa' K' cap']) ?_ rfl ?_
   · refine Li Tryz.results229 ?_ hputs rfl
     all_goals rfl
   · exact⟨⟨_,rfl,HE2.out.below hbb⟩,hbb⟩
 · have g1:((L:Int)==1)=false:=by simp;omega
   have hbb:=(Q7 w (.cells #[.int .i64 k,.int .i64 0,.int .i64 0,.int .i64 0,.slice oa L cap] 32)).alloc (by simp) (.cells #[.int .i64 k,.int .i64 0,.int .i64 0,.int .i64 0,.slice oa L cap] 32);have hb1:=Ql.new2 w (.cells #[.int .i64 k,.int .i64 0,.int .i64 0,.int .i64 0,.slice oa L cap] 32) 32 #[.int .i64 k,.int .i64 0,.int .i64 0,.int .i64 0,.slice oa L cap]
   have hs:Jm k (kids.map Ex.c)=(Ex.mk k 0 0 0 oa b o cap kids).c:=by
    rw[Ex.c_mk]
    match kids,HL.out with
    | [],_=>rfl
    | [x],e=>exact absurd e.symm h1
    | x::y::r,_=>rfl
   have HE:=Q1 (show Jk A (Jm k (kids.map Ex.c)) (.agg #[.int .i64 k,.int .i64 0,.int .i64 0,.int .i64 0,.slice oa L cap]) w from ⟨_,_,by rw[← HL.out];rfl,hs.symm,hx⟩);have HB1:=Q1 hb1;have HBB:=Q1 hbb;clear hb1 hbb hs hx HX h7 h8 hL h1
   go_enter Tryz.func229,Tryz.ntmps229
   go_wp2_with fail;have hputs:=HB1.out;refine bodyPost_ret (v:=.agg #[.int .i64 k,.int .i64 0,.int .i64 0,.int .i64 0,.slice oa L cap]) ?_ rfl ?_
   · refine Li Tryz.results229 ?_ hputs rfl
     all_goals rfl
   · exact⟨⟨_,rfl,HE.out.below HBB.out⟩,HBB.out⟩
end Go.Proofs.YtnanffmhbjdpaaaGreatDoor
namespace Go.Proofs.YtnanffmhbjdpaaaGreatDoor
set_option maxHeartbeats 8000000
set_option maxRecDepth 20000
set_option linter.unusedVariables false
set_option linter.unusedSimpArgs false
def Vb (k:Int) (n c:Nat):Int:=if c=0 then 1 else if (k=4∧c=1)∨(k≠4∧k≠5∧c=n) then 2 else 0
def Km (k:Int) (n:Nat):Nat→List Int→Int
 | c,[]=>Vb k n c
 | c,x::r=>if x=0 then 0 else Km k n (if x=2 then c+1 else c) r
mutual
def Jv:Et→Int
 | .mk k _ _ u kids=>if k=1 then (if u=0 then 1 else 2) else Km k (M3 kids).length 0 (M3 kids)
def M3:List Et→List Int
 | []=>[]
 | x::r=>Jv x::M3 r
end
theorem M0:∀ l:List Et,M3 l=l.map Jv
 | []=>rfl
 | x::r=>by rw[M3,M0 r];rfl
theorem M4 (k n d u:Int) (kids:List Et):Jv (.mk k n d u kids)=if k=1 then (if u=0 then 1 else 2) else Km k kids.length 0 (kids.map Jv):=by
 rw[Jv,M0,Qj]
theorem Iv (k:Int) (n c:Nat):Vb k n c=0∨Vb k n c=1∨Vb k n c=2:=by
 unfold Vb;split
 · exact Or.inr (Or.inl rfl)
 · split
   · exact Or.inr (Or.inr rfl)
   · exact Or.inl rfl
theorem Sf (k:Int) (n:Nat):∀ (l:List Int) (c:Nat),Km k n c l=0∨Km k n c l=1∨Km k n c l=2
 | [],c=>Iv k n c
 | x::r,c=>by
   rw[Km];split
   · exact Or.inl rfl
   · exact Sf k n r _
theorem Ca (e:Et):Jv e=0∨Jv e=1∨Jv e=2:=by
 obtain⟨k,n,d,u,kids⟩:=e;rw[M4];split
 · split<;>simp
 · exact Sf _ _ _ _
theorem C9 (k:Int) (n:Nat):∀ (l:List Int) (c:Nat),Km k n c l=if 0<l.count 0 then 0 else Vb k n (c+l.count 2)
 | [],c=>by simp[Km]
 | x::r,c=>by
   rw[Km,C9 k n r]
   by_cases h0:x=0
   · subst h0;simp
   · rw[if_neg h0,List.count_cons,List.count_cons]
     by_cases h2:x=2
     · subst h2;simp[Nat.add_assoc,Nat.add_comm 1]
     · simp[h0,h2]
def Da (k:Int) (n c0 c1 c2:Nat):Int:=if 0<c0 then 0 else if k=4∧c2=1 then 2 else if c1=n then 1 else if c2=n∧k≠4∧k≠5 then 2 else 0
theorem Q0k:∀ l:List Int,(∀ x∈l,x=0∨x=1∨x=2)→l.count 0+l.count 1+l.count 2=l.length
 | [],_=>rfl
 | x::r,h=>by
   have ih:=Q0k r fun y hy=>h y (List.mem_cons_of_mem _ hy)
   have hx:=h x List.mem_cons_self;simp only[List.count_cons,Z8]
   rcases hx with rfl|rfl|rfl<;>simp<;>omega
theorem Q4k (k:Int) (l:List Int) (h:∀ x∈l,x=0∨x=1∨x=2):Da k l.length (l.count 0) (l.count 1) (l.count 2)=Km k l.length 0 l:=by
 have h3:=Q0k l h;rw[C9,Nat.zero_add];generalize l.count 0=a at *;generalize l.count 1=b at *;generalize l.count 2=c at *;generalize l.length=n at *;unfold Da Vb
 by_cases h0:0<a
 · rw[if_pos h0,if_pos h0]
 · rw[if_neg h0,if_neg h0]
   by_cases h1:k=4∧c=1
   · rw[if_pos h1,if_neg (by omega),if_pos (Or.inl h1)]
   · rw[if_neg h1]
     by_cases h2:c=0
     · rw[if_pos (by omega),if_pos h2]
     · rw[if_neg (by omega),if_neg h2]
       by_cases h4:c=n∧k≠4∧k≠5
       · rw[if_pos h4,if_pos (Or.inr ⟨h4.2.1,h4.2.2,h4.1⟩)]
       · rw[if_neg h4,if_neg (fun h=>h.elim h1 fun h=>h4 ⟨h.2.2,h.1,h.2.1⟩)]
def Js:List UInt8:=[119,105,100,116,104]
def Uy:List UInt8:=[104,101,105,103,104,116]
def Vp:List UInt8:=[97,115,112,101,99,116,45,114,97,116,105,111]
def Di:List UInt8:=[99,111,108,111,114]
def Kn:List UInt8:=[105,110,108,105,110,101,45,115,105,122,101]
def Dk:List UInt8:=[98,108,111,99,107,45,115,105,122,101]
def F7:List UInt8:=[104,111,118,101,114]
def Yh:List UInt8:=[111,114,105,101,110,116,97,116,105,111,110]
def Lm:List UInt8:=[112,111,105,110,116,101,114]
def P1:List UInt8:=[112,114,101,102,101,114,115,45,99,111,108,111,114,45,115,99,104,101,109,101]
def Pc:List UInt8:=[112,114,101,102,101,114,115,45,114,101,100,117,99,101,100,45,109,111,116,105,111,110]
def Ny:List UInt8:=[110,111,110,101]
def F0:List UInt8:=[112,111,114,116,114,97,105,116]
def B7:List UInt8:=[108,97,110,100,115,99,97,112,101]
def Pq:List UInt8:=[99,111,97,114,115,101]
def Q4s:List UInt8:=[102,105,110,101]
def Ir:List UInt8:=[108,105,103,104,116]
def Q50:List UInt8:=[100,97,114,107]
def Ie:List UInt8:=[110,111,45,112,114,101,102,101,114,101,110,99,101]
def P3:List UInt8:=[114,101,100,117,99,101]
def U5:List UInt8:=[109,105,110,45]
def Jq:List UInt8:=[109,97,120,45]
def ltS:List UInt8:=[60]
def gtS:List UInt8:=[62]
def Oc:List UInt8:=[61]
def Jo (n:List UInt8):List (List UInt8) :=
 if n=F7 then [Ny,F7] else if n=Yh then [F0,B7] else if n=Lm then [Ny,Pq,Q4s]
 else if n=P1 then [Ir,Q50] else if n=Pc then [Ie,P3] else []
def V5 (n:List UInt8):Bool:=n==Js||n==Uy||n==Vp||n==Di
def Jn (n:List UInt8) (box:Bool):List UInt8 :=
 if box then (if n=Kn then Js else if n=Dk then Uy else if n=Js∨n=Uy∨n=Vp∨n=Yh then n else [])
 else if V5 n||decide (0<(Jo n).length) then n else []
def Z6 (n:List UInt8) (box:Bool):List UInt8×Bool :=
 if box∧n=Kn then (Js,true) else if box∧n=Dk then (Uy,true) else (n,n==Js||n==Uy||n==Vp||!box&&n==Di)
def Uf (n:List UInt8) (box:Bool):Bool:=n==Yh||!box&&decide (0<(Jo n).length)
def Qy (l:List Vt):List UInt8:=match Ue l with
 | [v]=>Wq v
 | _=>[]
def Zr (s:List UInt8) (v:Vt):Bool:=v.tok.kind==9&&v.tok.text==s
def Ug (v:Vt):Bool:=v.tok.kind==16
def W3 (a b:Et):Et:=.mk 4 0 0 0 [a,.mk 5 0 0 0 [b]]
def Es:Et:=.mk 1 0 1 1 []
def Xn (l:List Vt):Bool:=match Ue l with
 | [v]=>v.tok.kind==10&&v.tok.num==(0,1)
 | _=>false
section
variable (ex:Vt→Option Et)
def S1 (l:List Vt):Option Et:=Eh ex (Ue l)
def Wy (k:Int) (l:List Vt):Option Et:=match S1 ex l with
 | some e=>if Jv e=k then some e else none
 | none=>none
def Ko (l:List Vt):Option Et:=match l.findIdx? (Zr Zi) with
 | none=>Wy ex 1 l
 | some i=>match Wy ex 1 (l.take i),Wy ex 1 (l.drop (i+1)) with
   | some a,some b=>some (W3 a b)
   | _,_=>none
def X7 (n:List UInt8) (l:List Vt):Option Et :=
 if n=Di then Wy ex 1 l else if n=Vp then Ko ex l else if Xn l then some Es else Wy ex 2 l
def Un:Nat→List Vt→List (Int×Nat×Nat)
 | _,[]=>[]
 | i,[v]=>if Zr Oc v then [(3,i,i+1)] else if Zr ltS v then [(1,i,i+1)] else if Zr gtS v then [(5,i,i+1)] else []
 | i,v::x::r =>
   if Zr Oc v then (3,i,i+1)::Un (i+1) (x::r)
   else if Zr ltS v then (if Zr Oc x then (2,i,i+2)::Un (i+2) r else (1,i,i+1)::Un (i+1) (x::r))
   else if Zr gtS v then (if Zr Oc x then (4,i,i+2)::Un (i+2) r else (5,i,i+1)::Un (i+1) (x::r))
   else Un (i+1) (x::r)
def Jj (n:List UInt8) (op:Int) (l:List Vt):Option Ct:=if V5 n then (X7 ex n l).map (Vx n op) else none
def G3 (n:List UInt8) (op:Int) (l:List Vt) (box:Bool):Option Ct :=
 let m:=Jn n box
 if V5 m then (X7 ex m l).map (Vx m op)
 else if m≠[]∧op=3 then (if Qy l≠[]∧Qy l∈Jo m then some (Y6 m (Qy l)) else none) else none
def Vs (n:List UInt8) (l:List Vt) (box:Bool):Option Ct :=
 if U5 <+: n then G3 ex (n.drop 4) 4 l box else if Jq <+: n then G3 ex (n.drop 4) 2 l box else G3 ex n 3 l box
def Y4 (l:List Vt) (box:Bool):Option Ct:=match l.findIdx? Ug with
 | none=>none
 | some i=>Vs ex (Qy (l.take i)) (l.drop (i+1)) box
def upN (a b:Int):Bool:=(a==1||a==2)&&(b==1||b==2)
def De (a b:Int):Bool:=(a==5||a==4)&&(b==5||b==4)
def Jl (l:List Vt) (box:Bool):Option Ct:=match Un 0 l with
 | [(op,f,t)]=>(match Jj ex (Jn (Qy (l.take f)) box) op (l.drop t) with
   | some c=>some c
   | none=>Jj ex (Jn (Qy (l.drop t)) box) (6-op) (l.take f))
 | [(op,f,t),(Yi,f2,t2)] =>
   (match Jj ex (Jn (Qy ((l.take f2).drop t)) box) (6-op) (l.take f),Jj ex (Jn (Qy ((l.take f2).drop t)) box) Yi (l.drop t2) with
   | some a,some b=>if upN op Yi||De op Yi then some (.mk 1 [a,b] lt0) else none
   | _,_=>none)
 | _=>none
def Ch (v:Vt) (box:Bool):Option Ct:=match v with
 | .mk t k=>if t.kind≠21∨Jf 64 [.mk t k]=false then none
   else if Jn (Qy (Z9 k)) box≠[] then some (Ep (Jn (Qy (Z9 k)) box))
   else match Y4 ex (Z9 k) box with
    | some c=>some c
    | none=>Jl ex (Z9 k) box
def Zm (n:List UInt8) (l:List Vt):Option Et :=
 if n=Vp then Ko ex l else if n=Js∨n=Uy then (if Xn l then some Es else Wy ex 2 l) else Wy ex 1 l
def Yo (s:List UInt8) (l:List Vt) (box:Bool):Option Ct :=
 let c:=decide (4<s.length)&&(s.take 4==U5||s.take 4==Jq)&&(Z6 (s.drop 4) box).2
 let op:Int:=if c then (if s.take 4=Jq then 2 else 4) else 3
 let m:=if c then s.drop 4 else s
 if (Z6 m box).2 then (Zm ex (Z6 m box).1 l).map (Vx (Z6 m box).1 op)
 else if Uf m box=true∧Qy l≠[]∧Qy l∈Jo m then some (Y6 m (Qy l)) else none
def Uk (l:List Vt) (box:Bool):Option Ct:=match Un 0 l with
 | [(op,f,t)]=>if (Z6 (Qy (l.take f)) box).2 then (Zm ex (Z6 (Qy (l.take f)) box).1 (l.drop t)).map (Vx (Z6 (Qy (l.take f)) box).1 op)
   else if (Z6 (Qy (l.drop t)) box).2 then (Zm ex (Z6 (Qy (l.drop t)) box).1 (l.take f)).map (Vx (Z6 (Qy (l.drop t)) box).1 (6-op)) else none
 | [(op,f,t),(Yi,f2,t2)] =>
   if (Z6 (Qy ((l.take f2).drop t)) box).2 then
    (match Zm ex (Z6 (Qy ((l.take f2).drop t)) box).1 (l.take f),Zm ex (Z6 (Qy ((l.take f2).drop t)) box).1 (l.drop t2) with
    | some a,some b=>if upN op Yi||De op Yi then some (.mk 1 [Vx (Z6 (Qy ((l.take f2).drop t)) box).1 (6-op) a,Vx (Z6 (Qy ((l.take f2).drop t)) box).1 Yi b] lt0) else none
    | _,_=>none)
   else none
 | _=>none
def Xa (l:List Vt):Option (List UInt8×List Vt):=match l with
 | a :: r=>if a.tok.kind=1 then (match Z9 r with
    | c::q=>if Ug c then some (U6 a.tok.text,q) else none
    | []=>none) else none
 | []=>none
def O9 (v:Vt) (box:Bool):Option Ct:=match v with
 | .mk t k=>if t.kind≠21∨Jf 64 [.mk t k]=false then none
   else if Qy (Z9 k)≠[] then (if (Z6 (Qy (Z9 k)) box).2||Uf (Qy (Z9 k)) box then some (Ep (Z6 (Qy (Z9 k)) box).1) else none)
   else match Xa (Z9 k) with
    | some (s,q)=>Yo ex s q box
    | none=>Uk ex (Z9 k) box
end
theorem W8 (n:List UInt8) (box:Bool):V5 (Jn n box)=(Z6 n box).2:=by
 unfold Jn Z6
 cases box with
 | false =>
   simp only[Bool.false_eq_true,if_false,false_and,Bool.not_false,Bool.true_and]
   by_cases h:(V5 n||decide (0<(Jo n).length))=true
   · rw[if_pos h];rfl
   · rw[if_neg h];simp only[Za,not_or,Bool.not_eq_true]at h;have h1:=h.1;unfold V5 at h1;rw[h1];rfl
 | true =>
   simp only[if_true,true_and,Bool.not_true,Bool.false_and,Bool.or_false]
   by_cases h1:n=Kn
   · rw[if_pos h1,if_pos h1];rfl
   · rw[if_neg h1,if_neg h1]
     by_cases h2:n=Dk
     · rw[if_pos h2,if_pos h2];rfl
     · rw[if_neg h2,if_neg h2]
       by_cases h3:n=Js∨n=Uy∨n=Vp∨n=Yh
       · rw[if_pos h3]
         rcases h3 with rfl|rfl|rfl|rfl<;>rfl
       · rw[if_neg h3];simp only[not_or]at h3;rw[show (n==Js)=false from by simpa using h3.1,show (n==Uy)=false from by simpa using h3.2.1,show (n==Vp)=false from by simpa using h3.2.2.1];rfl
theorem D9 {n:List UInt8} {box:Bool} (h:(Z6 n box).2=true):Jn n box=(Z6 n box).1:=by
 unfold Z6 at h ⊢;unfold Jn
 cases box with
 | false =>
   simp only[Bool.false_eq_true,if_false,false_and,Bool.not_false,Bool.true_and]at h ⊢;rw[if_pos];simp only[Za];exact Or.inl h
 | true =>
   simp only[if_true,true_and,Bool.not_true,Bool.false_and,Bool.or_false]at h ⊢
   by_cases h1:n=Kn
   · rw[if_pos h1,if_pos h1]
   · rw[if_neg h1,if_neg h1]at *
     by_cases h2:n=Dk
     · rw[if_pos h2,if_pos h2]
     · rw[if_neg h2]at h;rw[if_neg h2,if_neg h2];simp only[Za,beq_iff_eq]at h;rw[if_pos]
       rcases h with (h|h) | h
       · exact Or.inl h
       · exact Or.inr (Or.inl h)
       · exact Or.inr (Or.inr (Or.inl h))
theorem Lz {n:List UInt8} {box:Bool} (h:(Z6 n box).2=false):Jn n box=if Uf n box=true then n else []:=by
 unfold Z6 at h;unfold Jn Uf
 cases box with
 | false =>
   simp only[Bool.false_eq_true,if_false,false_and,Bool.not_false,Bool.true_and]at h ⊢;have h1:V5 n=false:=h;rw[h1,Bool.false_or]
   by_cases ho:n=Yh
   · subst ho;rfl
   · rw[show (n==Yh)=false from by simpa using ho,Bool.false_or]
 | true =>
   simp only[if_true,true_and,Bool.not_true,Bool.false_and,Bool.or_false]at h ⊢
   by_cases h1:n=Kn
   · rw[if_pos h1]at h;cases h
   · rw[if_neg h1]at h;rw[if_neg h1]
     by_cases h2:n=Dk
     · rw[if_pos h2]at h;cases h
     · rw[if_neg h2]at h;rw[if_neg h2];simp only[Bool.or_eq_false_iff,beq_eq_false_iff_ne]at h;simp[h.1.1,h.1.2,h.2]
theorem Q3f {n:List UInt8} {box:Bool} (h:Uf n box=true):n≠[]:=by
 rintro rfl
 cases box<;>revert h<;>decide
section
variable (ex:Vt→Option Et)
theorem Xw {m:List UInt8} (h:V5 m=true) (l:List Vt):Zm ex m l=X7 ex m l:=by
 unfold V5 at h;simp only[Za,beq_iff_eq]at h;unfold Zm X7
 rcases h with ((rfl|rfl) | rfl) | rfl
 · simp[show ¬ Js=Vp from by decide,show ¬ Js=Di from by decide]
 · simp[show ¬ Uy=Vp from by decide,show ¬ Uy=Di from by decide]
 · rw[if_pos rfl,if_neg (by decide),if_pos rfl]
 · rw[if_neg (by decide),if_neg (by decide),if_pos rfl]
theorem Yv {n:List UInt8} {box:Bool} (h:(Z6 n box).2=true):V5 (Z6 n box).1=true:=by
 rw[← D9 h,W8,h]
theorem S3 {p n:List UInt8}:p <+: n↔n.take p.length=p:=by
 rw[List.prefix_iff_eq_take];exact eq_comm
theorem Q73 {n:List UInt8} {box:Bool} (op:Int) (l:List Vt):G3 ex n op l box=if (Z6 n box).2 then (X7 ex (Z6 n box).1 l).map (Vx (Z6 n box).1 op)
  else if op=3∧Uf n box=true∧Qy l≠[]∧Qy l∈Jo n then some (Y6 n (Qy l)) else none:=by
 unfold G3;simp only[W8]
 cases h:(Z6 n box).2 with
 | true =>
   rw[if_pos rfl,if_pos rfl,D9 h]
 | false =>
   simp only[Bool.false_eq_true,if_false];rw[Lz h]
   cases hw:Uf n box with
   | false=>simp
   | true =>
     have hn:=Q3f hw;simp only[if_true,ne_eq,hn,not_false_eq_true,true_and]
     by_cases ho:op=3
     · simp only[ho,if_true,true_and]
     · simp only[ho,if_false,false_and]
theorem Nk {n:List UInt8} {box:Bool} (h:n.take 4=U5∨n.take 4=Jq):(Z6 n box).2=false∧Uf n box=false:=by
 have hx:∀ X:List UInt8,X.take 4≠U5→X.take 4≠Jq→n≠X:=by
  rintro X h1 h2 rfl
  rcases h with h|h
  · exact h1 h
  · exact h2 h
 have hw:Jo n=[]:=by
  unfold Jo;rw[if_neg (hx _ (by decide) (by decide)),if_neg (hx _ (by decide) (by decide)),if_neg (hx _ (by decide) (by decide)),if_neg (hx _ (by decide) (by decide)),if_neg (hx _ (by decide) (by decide))]
 constructor
 · unfold Z6;rw[if_neg (fun e=>hx Kn (by decide) (by decide) e.2),if_neg (fun e=>hx Dk (by decide) (by decide) e.2)];simp[hx Js (by decide) (by decide),hx Uy (by decide) (by decide),hx Vp (by decide) (by decide),hx Di (by decide) (by decide)]
 · unfold Uf;simp[hw,hx Yh (by decide) (by decide)]
theorem Lk (box:Bool):(Z6 [] box).2=false:=by cases box<;>decide
theorem Hs (s:List UInt8) (l:List Vt) (box:Bool):Vs ex s l box=Yo ex s l box:=by
 have hlen:(Z6 (s.drop 4) box).2=true→4<s.length:=fun h=>by
  rcases Nat.lt_or_ge 4 s.length with h1 | h1
  · exact h1
  · rw[Z3 h1,Lk]at h
    cases h
 unfold Vs Yo;simp only[S3,show U5.length=4 from rfl,show Jq.length=4 from rfl,Q73]
 by_cases h1:s.take 4=U5
 · have hn:=Nk (box:=box) (Or.inl h1);rw[if_pos h1]
   cases hr:(Z6 (s.drop 4) box).2 with
   | true =>
     have h4:=hlen hr;simp only[h1,h4,decide_true,beq_self_eq_true,Bool.true_or,Bool.and_true,if_true,show U5≠Jq from by decide,if_false,hr];rw[Xw ex (Yv hr)]
   | false =>
     simp only[Bool.and_false,Bool.false_eq_true,if_false,hn.1,hn.2,false_and,and_false,show ¬ ((4:Int)=3) from by decide]
 · rw[if_neg h1]
   by_cases h2:s.take 4=Jq
   · have hn:=Nk (box:=box) (Or.inr h2);rw[if_pos h2]
     cases hr:(Z6 (s.drop 4) box).2 with
     | true =>
       have h4:=hlen hr;simp only[h2,h4,decide_true,beq_self_eq_true,Bool.or_true,Bool.and_true,if_true,hr];rw[Xw ex (Yv hr)]
     | false =>
       simp only[Bool.and_false,Bool.false_eq_true,if_false,hn.1,hn.2,false_and,and_false,show ¬ ((2:Int)=3) from by decide]
   · rw[if_neg h2,show (s.take 4==U5)=false from by simpa using h1,show (s.take 4==Jq)=false from by simpa using h2];simp only[Bool.or_false,Bool.and_false,Bool.false_and,Bool.false_eq_true,if_false,true_and]
     cases hr:(Z6 s box).2 with
     | true =>
       simp only[if_true];rw[Xw ex (Yv hr)]
     | false=>simp only[Bool.false_eq_true,if_false]
end
def Yp (p:Vt→Bool):List Vt→Option (List Vt×List Vt)
 | []=>none
 | v::r=>if p v then some ([],r) else (Yp p r).map fun x=>(v::x.1,x.2)
theorem Mc (p:Vt→Bool):∀ l:List Vt,Yp p l=(l.findIdx? p).map fun i=>(l.take i,l.drop (i+1))
 | []=>rfl
 | v::r=>by
   rw[Yp,List.findIdx?_cons,Mc p r]
   cases p v with
   | true=>rfl
   | false =>
     simp only[Bool.false_eq_true,if_false]
     cases r.findIdx? p<;>rfl
theorem Pn {p:Vt→Bool} (hp:∀ v,p v=true→Ud v=false):∀ l:List Vt,Yp p (Ue l)=(Yp p l).map fun x=>(Ue x.1,Ue x.2)
 | []=>rfl
 | v::r=>by
   have ih:=Pn hp r;unfold Ue at ih ⊢;rw[Yp]
   cases hv:p v with
   | true =>
     rw[List.filter_cons_of_pos (by simp[hp v hv]),Yp,if_pos hv];rfl
   | false =>
     simp only[Bool.false_eq_true,if_false]
     cases hs:Ud v with
     | true =>
       rw[List.filter_cons_of_neg (by simp[hs]),ih]
       cases Yp p r with
       | none=>rfl
       | some x=>simp[hs]
     | false =>
       rw[List.filter_cons_of_pos (by simp[hs]),Yp,if_neg (by simp[hv]),ih]
       cases Yp p r with
       | none=>rfl
       | some x=>simp[hs]
theorem Q4z {s:List UInt8} {v:Vt} (h:Zr s v=true):Ud v=false:=by
 obtain⟨t,k⟩:=v;unfold Zr at h;simp only[Qe,beq_iff_eq]at h;have h1:t.kind=9:=h.1;simp[Ud,h1]
theorem A9 {v:Vt} (h:Ug v=true):Ud v=false:=by
 obtain⟨t,k⟩:=v;unfold Ug at h
 have h1:t.kind=16:=by simpa[Vt.tok] using h
 simp[Ud,h1]
theorem Pb (l:List Vt):Ue (Ue l)=Ue l:=by
 unfold Ue;rw[List.filter_filter]
 congr 1
 funext v
 simp
theorem Ov (l:List Vt):Qy (Ue l)=Qy l:=by
 unfold Qy;rw[Pb]
section
variable (ex:Vt→Option Et)
theorem Wx (k:Int) (l:List Vt):Wy ex k (Ue l)=Wy ex k l:=by
 unfold Wy S1;rw[Pb]
theorem Ce (l:List Vt):Ko ex l=match Yp (Zr Zi) l with
  | none=>Wy ex 1 l
  | some (a,b)=>match Wy ex 1 a,Wy ex 1 b with
    | some a,some b=>some (W3 a b)
    | _,_=>none:=by
 unfold Ko;rw[Mc]
 cases l.findIdx? (Zr Zi)<;>rfl
theorem Dc (l:List Vt):Ko ex (Ue l)=Ko ex l:=by
 rw[Ce,Ce,Pn fun v h=>Q4z h]
 cases Yp (Zr Zi) l with
 | none=>exact Wx ex 1 l
 | some x =>
   simp only[Option.map_some,Wx]
theorem Q3b (l:List Vt):Xn (Ue l)=Xn l:=by
 unfold Xn;rw[Pb]
theorem Q0v (n:List UInt8) (l:List Vt):X7 ex n (Ue l)=X7 ex n l:=by
 unfold X7;rw[Wx,Wx,Dc,Q3b]
theorem Q3n (n:List UInt8) (op:Int) (l:List Vt) (box:Bool):G3 ex n op (Ue l) box=G3 ex n op l box:=by
 unfold G3;simp only[Q0v,Ov]
theorem R7 (n:List UInt8) (l:List Vt) (box:Bool):Vs ex n (Ue l) box=Vs ex n l box:=by
 unfold Vs;simp only[Q3n]
theorem Nq (l:List Vt) (box:Bool):Y4 ex l box=match Yp Ug (Ue l) with
  | none=>none
  | some (a,b)=>Vs ex (Qy a) b box:=by
 rw[Pn fun v h=>A9 h,Mc];unfold Y4
 cases l.findIdx? Ug with
 | none=>rfl
 | some i =>
   simp only[Option.map_some,Ov,R7]
theorem Q3g (l:List Vt) (box:Bool):Vs ex [] l box=none:=by
 rw[Hs];unfold Yo
 cases box<;>rfl
end
theorem Vh {a:Vt} (r:List Vt) (h:Ud a=false):Ue (a::r)=a::Ue r:=by
 unfold Ue;rw[List.filter_cons_of_pos (by simp[h])]
theorem Q62 {l:List Vt} (h:∀ v∈l,Ud v=false):Ue l=l:=by
 unfold Ue
 exact List.filter_eq_self.2 fun v hv=>by simp[h v hv]
theorem Ih {l:List Vt}:∀ v∈Ue l,Ud v=false:=fun v hv=>by
 have:=(List.mem_filter.1 hv).2;simpa using this
theorem So {v:Vt} (h:v.tok.kind=1):Ud v=false:=by
 obtain⟨t,k⟩:=v;have h1:t.kind=1:=h;simp[Ud,h1]
theorem Fs {v:Vt} (s:List UInt8) (h:v.tok.kind=1):Zr s v=false:=by unfold Zr;rw[h];rfl
theorem Aa {v:Vt} (s:List UInt8) (h:Ug v=true):Zr s v=false:=by
 unfold Ug at h;unfold Zr;rw[show v.tok.kind=16 from by simpa using h];rfl
theorem Ft {v:Vt} (h:v.tok.kind=1):Ug v=false:=by unfold Ug;rw[h];rfl
theorem Fe {l:List Vt} {v:Vt} (h:Ue l=[v]):Qy l=Wq v:=by unfold Qy;rw[h]
theorem Fd {l:List Vt} {a b:Vt} {r:List Vt} (h:Ue l=a::b::r):Qy l=[]:=by unfold Qy;rw[h]
theorem Dm {l:List Vt} (h:Qy l≠[]):∃ v,Ue l=[v]∧v.tok.kind=1:=by
 match hn:Ue l with
 | []=>unfold Qy at h;rw[hn]at h;exact absurd rfl h
 | [v] =>
   rw[Fe hn]at h;unfold Wq at h
   by_cases hk:v.tok.kind=1
   · exact⟨v,rfl,hk⟩
   · rw[if_neg hk]at h;exact absurd rfl h
 | _::_::_=>exact absurd (Fd hn) h
theorem Ap {v:Vt} (h:v.tok.kind=1):Wq v=U6 v.tok.text:=by unfold Wq;rw[if_pos h]
theorem A4 (p:Vt→Bool):∀ {l x y:List Vt},Yp p l=some (x,y)→∃ c,p c=true∧l=x++c::y
 | [],_,_,h=>by cases h
 | v::r,x,y,h=>by
   rw[Yp]at h
   cases hv:p v with
   | true =>
     rw[hv,if_pos rfl]at h;obtain⟨rfl,rfl⟩:=Prod.mk.inj (Q8 h);exact⟨v,hv,rfl⟩
   | false =>
     rw[hv]at h;simp only[Bool.false_eq_true,if_false]at h;obtain⟨⟨x2,y2⟩,h2,h3⟩:=Option.map_eq_some_iff.1 h;obtain⟨rfl,rfl⟩:=Prod.mk.inj h3;obtain⟨c,hc,rfl⟩:=A4 p h2;exact⟨c,hc,rfl⟩
theorem Q43 {l:List Vt} (hl:Ut l=false):(Xa l=none∧∀ a c r,Ue l=a::c::r→a.tok.kind=1→Ug c=false) ∨
  ∃ a c q,Xa l=some (U6 a.tok.text,q)∧Ue l=a::c::Ue q∧a.tok.kind=1∧Ug c=true:=by
 match l with
 | []=>exact Or.inl ⟨rfl,fun a c r h=>by cases h⟩
 | a::r =>
   have ha:Ud a=false:=hl;have hn:=Vh r ha
   by_cases hk:a.tok.kind=1
   · have ht:=V7 r;have hh:=K3 r
     cases hq:Z9 r with
     | nil =>
       rw[hq]at ht;refine Or.inl ⟨by rw[Xa,if_pos hk,hq],fun a2 c r2 h _=>?_⟩;rw[hn,← ht]at h
       cases h
     | cons c q =>
       rw[hq]at ht hh;have hc:Ud c=false:=hh;rw[Vh q hc]at ht
       cases hcol:Ug c with
       | true=>exact Or.inr ⟨a,c,q,by rw[Xa,if_pos hk,hq];simp[hcol],by rw[hn,← ht],hk,hcol⟩
       | false =>
         refine Or.inl ⟨by rw[Xa,if_pos hk,hq];simp[hcol],fun a2 c2 r2 h _=>?_⟩;rw[hn,← ht]at h;obtain⟨_,h2⟩:=List.cons.inj h;obtain⟨rfl,_⟩:=List.cons.inj h2;exact hcol
   · refine Or.inl ⟨by rw[Xa,if_neg hk],fun a2 c r2 h h1=>?_⟩;rw[hn]at h;obtain⟨rfl,_⟩:=List.cons.inj h;exact absurd h1 hk
section
variable (ex:Vt→Option Et)
theorem I5 {l:List Vt} (hl:Ut l=false) (box:Bool):Y4 ex l box=match Xa l with
  | some (s,q)=>Vs ex s q box
  | none=>none:=by
 rw[Nq]
 rcases Q43 hl with ⟨hp,hno⟩ | ⟨a,c,q,hp,hn,ha,hc⟩
 · rw[hp]
   cases hcut:Yp Ug (Ue l) with
   | none=>rfl
   | some x =>
     obtain⟨x,y⟩:=x;obtain⟨c,hc,hnl⟩:=A4 Ug hcut;show Vs ex (Qy x) y box=none
     by_cases hx:Qy x=[]
     · rw[hx,Q3g]
     · obtain⟨v,hv,hk⟩:=Dm hx
       have hall:Ue x=x:=Q62 fun v hv=>Ih (l:=l) v (by rw[hnl];exact List.mem_append_left _ hv)
       rw[hall]at hv;rw[hv]at hnl;rw[hno v c y hnl hk]at hc
       cases hc
 · rw[hp,hn]
   have h1:Yp Ug (a::c::Ue q)=some ([a],Ue q):=by
    rw[Yp,Ft ha,Yp,if_pos hc];rfl
   rw[h1];show Vs ex (Qy [a]) (Ue q) box=Vs ex (U6 a.tok.text) q box;rw[R7,Fe (l:=[a]) (v:=a) (by rw[Vh [] (So ha)];rfl),Ap ha]
theorem Q0u {l:List Vt} {a c:Vt} {z:List Vt} (m:List UInt8) (h:Ue l=a::c::z) (ha:Zr Zi a=false) (hc:Zr Zi c=false):X7 ex m l=none:=by
 have h1:∀ k l,(∃ a c z,Ue l=a::c::z)→Wy ex k l=none:=fun k l ⟨a,c,z,h⟩=>by
  unfold Wy S1;rw[h];rfl
 have hz:Xn l=false:=by unfold Xn;rw[h]
 unfold X7;rw[h1 1 l ⟨_,_,_,h⟩,h1 2 l ⟨_,_,_,h⟩,hz]
 have hf:Ko ex l=none:=by
  rw[← Dc,Ce,h,Yp,ha,Yp,hc];simp only[Bool.false_eq_true,if_false]
  cases hz:Yp (Zr Zi) z with
  | none=>exact(h ▸ Wx ex 1 l).trans (h1 1 l ⟨_,_,_,h⟩)
  | some x =>
    have hn:Ue (a::c::x.1)=a::c::Ue x.1:=by
     have ha2:Ud a=false:=Ih (l:=l) a (by rw[h];simp);have hc2:Ud c=false:=Ih (l:=l) c (by rw[h];simp);rw[Vh _ ha2,Vh _ hc2]
    simp only[Option.map_some,h1 1 (a::c::x.1) ⟨_,_,_,hn⟩]
 rw[hf];simp
theorem R8 {l:List Vt} {v:Vt} (m:List UInt8) (hex:ex v=none) (h:Ue l=[v]) (hk:v.tok.kind=1):X7 ex m l=none:=by
 have h1:∀ k,Wy ex k l=none:=fun k=>by
  unfold Wy S1;rw[h]
  show (match ex v with
   | some e=>_
   | none=>_)=none
  rw[hex]
 have hz:Xn l=false:=by unfold Xn;rw[h];simp[hk]
 have hf:Ko ex l=none:=by
  rw[← Dc,Ce,h,Yp,Fs _ hk];exact(h ▸ Wx ex 1 l).trans (h1 1)
 unfold X7;rw[h1,h1,hz,hf];simp
theorem Mj (n:List UInt8) (op:Int) (l:List Vt) (box:Bool):Jj ex (Jn n box) op l=if (Z6 n box).2 then (Zm ex (Z6 n box).1 l).map (Vx (Z6 n box).1 op) else none:=by
 unfold Jj;rw[W8]
 cases h:(Z6 n box).2 with
 | true=>rw[D9 h,Xw ex (Yv h)]
 | false=>rfl
theorem Pt (hex:∀ v,v.tok.kind=1→ex v=none) (l:List Vt) (box:Bool):Jl ex l box=Uk ex l box:=by
 unfold Jl Uk
 match Un 0 l with
 | []=>rfl
 | [(op,f,t)] =>
   simp only[Mj]
   cases h:(Z6 (Qy (l.take f)) box).2 with
   | true =>
     simp only[if_true]
     cases hv:Zm ex (Z6 (Qy (l.take f)) box).1 (l.drop t) with
     | some e=>rfl
     | none =>
       simp only[Option.map_none]
       have hne:Qy (l.take f)≠[]:=fun e=>by rw[e,Lk]at h;cases h
       obtain⟨v,hn,hk⟩:=Dm hne
       cases h2:(Z6 (Qy (l.drop t)) box).2 with
       | true =>
         rw[Xw ex (Yv h2),R8 ex _ (hex v hk) hn hk];rfl
       | false=>rfl
   | false=>rfl
 | [(op,f,t),(Yi,f2,t2)] =>
   simp only[Mj]
   cases h:(Z6 (Qy ((l.take f2).drop t)) box).2 with
   | true =>
     simp only[if_true]
     cases Zm ex (Z6 (Qy ((l.take f2).drop t)) box).1 (l.take f) with
     | none=>rfl
     | some a =>
       cases Zm ex (Z6 (Qy ((l.take f2).drop t)) box).1 (l.drop t2)<;>rfl
   | false=>rfl
 | _::_::_::_=>rfl
end
theorem Ia:∀ (i:Nat) (l:List Vt) (o:Int×Nat×Nat),o∈Un i l→i≤o.2.1
 | i,[],o,h=>by cases h
 | i,[v],o,h=>by
   unfold Un at h;split at h
   · obtain rfl:=Qh.1 h;exact Q6 _
   · split at h
     · obtain rfl:=Qh.1 h;exact Q6 _
     · split at h
       · obtain rfl:=Qh.1 h;exact Q6 _
       · cases h
 | i,v::x::r,o,h=>by
   have h1:=Ia (i+1) (x::r) o;have h2:=Ia (i+2) r o
   have hc:∀ (y:Int×Nat×Nat) (L:List (Int×Nat×Nat)),o∈y::L→(o∈L→i≤o.2.1)→y.2.1=i→i≤o.2.1:=fun y L h hL hy=>by
    rcases List.mem_cons.1 h with rfl|h
    · exact Qr hy.symm
    · exact hL h
   unfold Un at h;split at h
   · exact hc _ _ h (fun h=>by have:=h1 h;omega) rfl
   · split at h
     · split at h
       · exact hc _ _ h (fun h=>by have:=h2 h;omega) rfl
       · exact hc _ _ h (fun h=>by have:=h1 h;omega) rfl
     · split at h
       · split at h
         · exact hc _ _ h (fun h=>by have:=h2 h;omega) rfl
         · exact hc _ _ h (fun h=>by have:=h1 h;omega) rfl
       · have:=h1 h;omega
theorem S8 (i:Nat) {v:Vt} (r:List Vt) (h:v.tok.kind≠9):Un i (v::r)=Un (i+1) r:=by
 have hd:∀ s,Zr s v=false:=fun s=>by unfold Zr;rw[show (v.tok.kind==9)=false from by simpa using h];rfl
 match r with
 | []=>simp[Un,hd]
 | x::r=>simp[Un,hd]
theorem Nu (r:List Vt):∀ (s:List Vt) (i:Nat),(∀ v∈s,v.tok.kind≠9)→Un i (s++r)=Un (i+s.length) r
 | [],_,_=>rfl
 | v::s,i,h=>by
   rw[List.cons_append,S8 i _ (h v List.mem_cons_self),Nu r s (i+1) fun v hv=>h v (List.mem_cons_of_mem _ hv),Z8]
   congr 1
   omega
theorem O6 (box:Bool):Jn [] box=[]:=by cases box<;>decide
theorem I2 {n:List UInt8} {box:Bool} (h:(Z6 n box).2=false):(Z6 n box).1=n:=by
 unfold Z6 at h ⊢;split
 · rename_i h1
   rw[if_pos h1]at h
   cases h
 · rename_i h1
   rw[if_neg h1]at h;split
   · rename_i h2
     rw[if_pos h2]at h
     cases h
   · rfl
section
variable (ex:Vt→Option Et)
theorem Co {l:List Vt} {a c:Vt} {z:List Vt} (m:List UInt8) (op:Int) (h:Ue l=a::c::z) (ha:Zr Zi a=false) (hc:Zr Zi c=false):Jj ex m op l=none:=by
 unfold Jj;rw[Q0u ex m h ha hc];split<;>rfl
theorem Pu {l:List Vt} (hl:Ut l=false) {s:List UInt8} {q:List Vt} (hp:Xa l=some (s,q)) (box:Bool):Jl ex l box=none:=by
 have key:∀ o∈Un 0 l,∃ a c z,Ue (l.take o.2.1)=a::c::z∧Zr Zi a=false∧Zr Zi c=false:=by
  intro o ho
  match l,hl,hp,ho with
  | a::r,hl,hp,ho =>
    have ha:Ud a=false:=hl;rw[Xa]at hp;split at hp
    · rename_i hk
      split at hp
      · rename_i c q2 hq
        split at hp
        · rename_i hc
          have hcs:=A9 hc
          obtain ⟨rr,hr⟩:∃ rr,r.dropWhile Ud=c::rr:=by
           cases hd:r.dropWhile Ud with
           | nil =>
             unfold Z9 X9 at hq;rw[hd]at hq
             cases hq
           | cons x rr =>
             have hx:=Xh r x rr hd
             have h1:Ue r=x::Ue rr:=by rw[← G9,hd,Vh _ hx]
             have h2:Ue r=c::Ue q2:=by rw[← V7,hq,Vh _ hcs]
             rw[h1]at h2;obtain⟨rfl,_⟩:=List.cons.inj h2;exact⟨rr,rfl⟩
          have hsplit:a::r=(a::(r.takeWhile Ud++[c]))++rr:=by
           rw[List.cons_append,List.append_assoc,List.singleton_append,← hr,List.takeWhile_append_dropWhile]
          have hsp:∀ v∈r.takeWhile Ud,Ud v=true:=fun v hv=>List.all_eq_true.1 List.all_takeWhile v hv
          have h9:∀ v∈a::(r.takeWhile Ud++[c]),v.tok.kind≠9:=by
           intro v hv
           rcases List.mem_cons.1 hv with rfl|hv
           · omega
           · rcases Zh.1 hv with hv|hv
             · have:=hsp v hv;obtain⟨t,k⟩:=v
               have h13:t.kind=13:=by simpa[Ud] using this
               show t.kind≠9;omega
             · obtain rfl:=Qh.1 hv;unfold Ug at hc
               have:v.tok.kind=16:=by simpa using hc
               omega
          rw[hsplit,Nu _ _ 0 h9,Nat.zero_add]at ho;have hge:=Ia _ _ _ ho
          have htake:(a::r).take o.2.1=(a::(r.takeWhile Ud++[c]))++rr.take (o.2.1-(a::(r.takeWhile Ud++[c])).length):=by
           rw[hsplit,List.take_append,Zc hge]
          have hn0:Ue (r.takeWhile Ud)=[]:=by
           unfold Ue
           exact List.filter_eq_nil_iff.2 fun v hv=>by simp[hsp v hv]
          refine⟨a,c,Ue (rr.take (o.2.1-(a::(r.takeWhile Ud++[c])).length)),?_,Fs _ hk,Aa _ hc⟩;rw[htake,List.cons_append,Vh _ ha,List.append_assoc,List.singleton_append]
          have happ:∀ x y:List Vt,Ue (x++y)=Ue x++Ue y:=fun x y=>by unfold Ue;rw[List.filter_append]
          rw[happ,hn0,Vh _ hcs];rfl
        · cases hp
      · cases hp
    · cases hp
 unfold Jl
 match ho:Un 0 l with
 | []=>rfl
 | [(op,f,t)] =>
   obtain⟨a,c,z,hn,ha,hc⟩:=key (op,f,t) (by rw[ho];simp);simp only at hn ⊢;rw[Co ex _ _ hn ha hc,Fd hn,O6];rfl
 | [(op,f,t),(Yi,f2,t2)] =>
   obtain⟨a,c,z,hn,ha,hc⟩:=key (op,f,t) (by rw[ho];simp);simp only at hn ⊢;rw[Co ex _ _ hn ha hc]
 | _::_::_::_=>rfl
theorem Q2l (hex:∀ v,v.tok.kind=1→ex v=none) (v:Vt) (box:Bool):Ch ex v box=O9 ex v box:=by
 obtain⟨t,k⟩:=v;unfold Ch O9;simp only;split
 · rfl
 · have hl:=K3 k
   by_cases hal:Qy (Z9 k)=[]
   · rw[hal,O6,if_neg (by simp),if_neg (by simp),I5 ex hl]
     cases hp:Xa (Z9 k) with
     | none=>exact Pt ex hex _ _
     | some x =>
       obtain⟨s,q⟩:=x;simp only[Hs]
       cases Yo ex s q box with
       | some c=>rfl
       | none=>exact Pu ex hl hp box
   · rw[if_pos hal];obtain⟨v,hn,hk⟩:=Dm hal
     cases hr:(Z6 (Qy (Z9 k)) box).2 with
     | true =>
       have hne:Jn (Qy (Z9 k)) box≠[]:=by
        rw[D9 hr];intro e;have:=Yv hr;rw[e]at this
        revert this
        decide
       rw[if_pos hne,D9 hr];rfl
     | false =>
       rw[Lz hr,I2 hr,Bool.false_or]
       cases hw:Uf (Qy (Z9 k)) box with
       | true=>simp[hal]
       | false =>
         have hone:Z9 k=[v]:=Wr (by rw[← V7,hn])
         have hpl:Y4 ex [v] box=none:=by
          rw[Nq,Vh [] (So hk)]
          show (match Yp Ug [v] with
           | none=>none
           | some (a,b)=>Vs ex (Qy a) b box)=none
          rw[Yp,Ft hk];rfl
         have hbt:Jl ex [v] box=none:=by
          unfold Jl;rw[S8 0 [] (by omega)];rfl
         simp only[Bool.false_eq_true,if_false,ne_eq,not_true];rw[hone,hpl,hbt]
end
end Go.Proofs.YtnanffmhbjdpaaaGreatDoor
namespace Go.Proofs.YtnanffmhbjdpaaaGreatDoor
set_option maxHeartbeats 8000000
set_option maxRecDepth 20000
set_option linter.unusedVariables false
set_option linter.unusedSimpArgs false
open Go.RowKit
theorem Lb (m:List UInt8) (w:World) (hm:m.length≤9223372036854775807) :
  Calls Tryz.prog 49 #[.string ⟨m.toArray⟩] w fun e w'=>e=.returned (.string ⟨(U6 m).toArray⟩)∧Below w.heap.size w w':=by
 obtain⟨cap,w1,hrun,hb1,hbl⟩:=Bj m w;obtain⟨N,hN⟩:∃ N,m.length=N:=⟨_,rfl⟩;rw[hN]at hrun hm;have HN:=Q1 hN;obtain⟨g,hg⟩:∃ g,w.heap.size=g:=⟨_,rfl⟩;rw[hg]at hrun hb1 hbl ⊢;have HB0:=Q1 hb1;have HBL:=Q1 hbl;clear hN hb1 hbl hg
 go_enter Tryz.func49,Tryz.ntmps49
 go_wp2_with fail
 go_loopg [10] N (fun q s10 wr=>∃ (i:Nat),s10=.int .i64 i∧Hid (Below g w wr)∧Hid (Bl wr g (Yt m i))∧i≤N∧N-i≤q)
 case atStart=>exact⟨0,rfl,HB0,HBL,Qs _,by omega⟩
 case round =>
  clear HB0 HBL hrun;obtain⟨i,rfl,hb,hbl,hiN,hq⟩:=hrel
  by_cases hi:i<N
  · have gi:decide ((i:Int)<(N:Int))=true:=by simpa using hi
    have gin:decide (i<N)=true:=by simpa using hi
    have him:i<m.length:=by rw[HN.out];exact hi
    have hcell:=hbl.out.cell i _ (Dx him);have hfree:=hbl.out.free i (by rw[Vi];exact him);have hlt:=hbl.out.lt;have hst:=F3 him;obtain⟨c,hc⟩:∃ c,m[i]=c:=⟨_,rfl⟩;rw[hc]at hcell hst;have hc256:=UInt8.toNat_lt c;have hset:=hbl.out.set (i:=i) (by rw[Vi];exact him) (Pf c);rw[← hst]at hset
    by_cases hup:65≤c.toNat∧c.toNat≤90
    · rw[Pe hup]at hset;obtain⟨n,hn⟩:∃ n,c.toNat=n:=⟨_,rfl⟩;rw[hn]at hcell hset hup hc256
      have g1:decide ((65:Int)≤(n:Int))=true:=by simp;omega
      have e97:(n:Int)+97-65=(n:Int)+32:=by omega
      have g2:decide ((n:Int)≤(90:Int))=true:=by simp;omega
      have HS:=Q1 hset;clear hset hst hc hn hbl;go_wp2_with fail
      go_roundg (N-(i+1))
      case measure=>omega
      case rel=>exact⟨i+1,by go_num,Q1 (hb.out.setCell (by simp) _),Q1 (by have:=HS.out;simpa using this),hi,Q6 _⟩
    · have hsame:Yt m (i+1)=Yt m i:=by
       rw[hst,F4 hup]
       refine List.ext_getElem? fun j=>?_
       by_cases hj:i=j
       · subst hj;rw[List.getElem?_set_self (by rw[Vi];exact him),Dx him,hc]
       · rw[List.getElem?_set_ne hj]
      obtain⟨n,hn⟩:∃ n,c.toNat=n:=⟨_,rfl⟩;rw[hn]at hcell hup hc256
      have ways:decide ((65:Int)≤(n:Int))=false∨decide ((65:Int)≤(n:Int))=true∧decide ((n:Int)≤(90:Int))=false:=by
       by_cases h:65≤n
       · exact Or.inr ⟨by simp;omega,by simp;omega⟩
       · exact Or.inl (by simp;omega)
      have HBL2:=Q1 (show Bl wr g (Yt m (i+1)) by rw[hsame];exact hbl.out);clear hset hst hc hn hbl hsame
      rcases ways with g1 | ⟨g1,g2⟩
      all_goals
       go_wp2_with fail
       go_roundg (N-(i+1))
       case measure=>omega
       case rel=>exact⟨i+1,by go_num,hb,HBL2,hi,Q6 _⟩
  · obtain rfl:i=N:=by omega
    have gi:decide ((i:Int)<(i:Int))=false:=by simp
    have gin:decide (i<i)=false:=by simp
    have htx:=hbl.out.text cap;rw[Vi,HN.out]at htx
    have hall:Yt m i=U6 m:=by rw[← HN.out,Lw]
    rw[hall]at htx;clear hbl hall;go_wp2_with fail;go_ret;exact⟨rfl,hb.out⟩
theorem Zw.row {w:World} {h:Nat} {oa:Option Addr} {cap b o:Nat} {l:List Vl} (hs:Zw w h oa cap b o l) {i:Nat} {tk tn td:Int} {tt:List UInt8} {ti tid:Bool} {koa:Option Addr} {kb ko kcap:Nat} {kids:List Vl} (hi:l[i]?=some (.mk ⟨tk,tt,(tn,td),ti,tid⟩ koa kb ko kcap kids)) :
  w.cell? ⟨b,o+i*7,none⟩=some (.int .i64 tk)∧w.cell? ⟨b,o+i*7+1,none⟩=some (.string ⟨tt.toArray⟩)∧w.cell? ⟨b,o+i*7+2,none⟩=some (.int .i64 tn)∧w.cell? ⟨b,o+i*7+3,none⟩=some (.int .i64 td)∧w.cell? ⟨b,o+i*7+4,none⟩=some (.bool ti)∧w.cell? ⟨b,o+i*7+5,none⟩=some (.bool tid)∧w.cell? ⟨b,o+i*7+6,none⟩=some (.slice koa kids.length kcap) :=
 Q83 fun _ _ hv=>hs.cell hi hv
theorem Wv (n:List UInt8) (w:World):Calls Tryz.prog 47 #[.string ⟨n.toArray⟩] w fun e w'=>e=.returned (.bool (V5 n))∧w=w':=by
 have e:V5 n=(n==[119,105,100,116,104]||n==[104,101,105,103,104,116]||n==[97,115,112,101,99,116,45,114,97,116,105,111]||n==[99,111,108,111,114]):=rfl;rw[e];clear e;obtain⟨c0,q0⟩:∃ c,(n==[119,105,100,116,104])=c:=⟨_,rfl⟩;obtain⟨c1,q1⟩:∃ c,(n==[104,101,105,103,104,116])=c:=⟨_,rfl⟩;obtain⟨c2,q2⟩:∃ c,(n==[97,115,112,101,99,116,45,114,97,116,105,111])=c:=⟨_,rfl⟩;obtain⟨c3,q3⟩:∃ c,(n==[99,111,108,111,114])=c:=⟨_,rfl⟩;rw[q0,q1,q2,q3]
 cases c0<;>cases c1<;>cases c2<;>cases c3
 all_goals
  go_enter Tryz.func47,Tryz.ntmps47
  go_wp2_with fail;go_ret;exact⟨rfl,rfl⟩
def Zs (w:World) (v:Value) (D:List (List UInt8)):Prop:=∃ oa cap,v=.slice oa D.length cap∧(D≠[]→∃ b,oa=some ⟨b,0,none⟩∧∀ j x,D[j]?=some x→w.cell? ⟨b,j,none⟩=some (.string ⟨x.toArray⟩))
def Q75 (D:List (List UInt8)):List Value:=D.map fun x=>.string ⟨x.toArray⟩
theorem Ks (w:World) (t:TypeId) (D:List (List UInt8)):Zs (w.alloc (.cells (Q75 D).toArray t)) (.slice (some ⟨w.heap.size,0,none⟩) D.length D.length) D :=
 ⟨_,_,rfl,fun _=>⟨_,rfl,fun j x hj=>by rw[(Ql.new w t (Q75 D).toArray).cell j];simp[Q75,hj]⟩⟩
theorem Cs (n:List UInt8) (w:World):Calls Tryz.prog 48 #[.string ⟨n.toArray⟩] w fun e w'=>(∃ v,e=.returned v∧Zs w' v (Jo n))∧Below w.heap.size w w':=by
 obtain⟨D,hD⟩:∃ D,Jo n=D:=⟨_,rfl⟩;rw[hD];unfold Jo at hD
 by_cases h0:n=F7
 · rw[if_pos h0]at hD
   have q0:(n==[104,111,118,101,114])=true:=by rw[h0];rfl
   subst hD;clear h0
   go_enter Tryz.func48,Tryz.ntmps48
   go_wp2_with fail;go_ret;exact⟨⟨.slice (some ⟨w.heap.size,0,none⟩) 2 2,rfl,Ks w 9 [Ny,F7]⟩,Q7 _ _⟩
 rw[if_neg h0]at hD;have q0:(n==[104,111,118,101,114])=false:=beq_eq_false_iff_ne.2 h0
 by_cases h1:n=Yh
 · rw[if_pos h1]at hD
   have q1:(n==[111,114,105,101,110,116,97,116,105,111,110])=true:=by rw[h1];rfl
   subst hD;clear h1
   go_enter Tryz.func48,Tryz.ntmps48
   go_wp2_with fail;go_ret;exact⟨⟨.slice (some ⟨w.heap.size,0,none⟩) 2 2,rfl,Ks w 9 [F0,B7]⟩,Q7 _ _⟩
 rw[if_neg h1]at hD;have q1:(n==[111,114,105,101,110,116,97,116,105,111,110])=false:=beq_eq_false_iff_ne.2 h1
 by_cases h2:n=Lm
 · rw[if_pos h2]at hD
   have q2:(n==[112,111,105,110,116,101,114])=true:=by rw[h2];rfl
   subst hD;clear h2
   go_enter Tryz.func48,Tryz.ntmps48
   go_wp2_with fail;go_ret;exact⟨⟨.slice (some ⟨w.heap.size,0,none⟩) 3 3,rfl,Ks w 9 [Ny,Pq,Q4s]⟩,Q7 _ _⟩
 rw[if_neg h2]at hD;have q2:(n==[112,111,105,110,116,101,114])=false:=beq_eq_false_iff_ne.2 h2
 by_cases h3:n=P1
 · rw[if_pos h3]at hD
   have q3:(n==[112,114,101,102,101,114,115,45,99,111,108,111,114,45,115,99,104,101,109,101])=true:=by rw[h3];rfl
   subst hD;clear h3
   go_enter Tryz.func48,Tryz.ntmps48
   go_wp2_with fail;go_ret;exact⟨⟨.slice (some ⟨w.heap.size,0,none⟩) 2 2,rfl,Ks w 9 [Ir,Q50]⟩,Q7 _ _⟩
 rw[if_neg h3]at hD;have q3:(n==[112,114,101,102,101,114,115,45,99,111,108,111,114,45,115,99,104,101,109,101])=false:=beq_eq_false_iff_ne.2 h3
 by_cases h4:n=Pc
 · rw[if_pos h4]at hD
   have q4:(n==[112,114,101,102,101,114,115,45,114,101,100,117,99,101,100,45,109,111,116,105,111,110])=true:=by rw[h4];rfl
   subst hD;clear h4
   go_enter Tryz.func48,Tryz.ntmps48
   go_wp2_with fail;go_ret;exact⟨⟨.slice (some ⟨w.heap.size,0,none⟩) 2 2,rfl,Ks w 9 [Ie,P3]⟩,Q7 _ _⟩
 rw[if_neg h4]at hD;have q4:(n==[112,114,101,102,101,114,115,45,114,101,100,117,99,101,100,45,109,111,116,105,111,110])=false:=beq_eq_false_iff_ne.2 h4;subst hD
 go_enter Tryz.func48,Tryz.ntmps48
 go_wp2_with fail;go_ret;exact⟨⟨_,rfl,none,0,rfl,fun h=>absurd rfl h⟩,Below.refl _ _⟩
theorem Q2c (k:Int) (L c:Nat) :
  (c = 0∧Vb k L c=1)∨(c≠0∧k=4∧c=1∧Vb k L c=2)∨(c≠0∧k=4∧c≠1∧Vb k L c=0)∨(c≠0∧k=5∧Vb k L c=0) ∨
    (c≠0∧k≠4∧k≠5∧c=L∧Vb k L c=2)∨(c≠0∧k≠4∧k≠5∧c≠L∧Vb k L c=0):=by
 unfold Vb
 by_cases h0:c=0
 · exact Or.inl ⟨h0,if_pos h0⟩
 rw[if_neg h0]
 by_cases h4:k=4
 · by_cases h1:c=1
   · exact Or.inr (Or.inl ⟨h0,h4,h1,if_pos (Or.inl ⟨h4,h1⟩)⟩)
   · exact Or.inr (Or.inr (Or.inl ⟨h0,h4,h1,if_neg (by omega)⟩))
 · by_cases h5:k=5
   · exact Or.inr (Or.inr (Or.inr (Or.inl ⟨h0,h5,if_neg (by omega)⟩)))
   · by_cases hL:c=L
     · exact Or.inr (Or.inr (Or.inr (Or.inr (Or.inl ⟨h0,h4,h5,hL,if_pos (Or.inr ⟨h4,h5,hL⟩)⟩))))
     · exact Or.inr (Or.inr (Or.inr (Or.inr (Or.inr ⟨h0,h4,h5,hL,if_neg (by omega)⟩))))
theorem Iu (k:Int) (L a b c:Nat) :
  (0 < a∧Da k L a b c=0)∨(a=0∧k=4∧c=1∧Da k L a b c=2)∨(a=0∧k=4∧c≠1∧b=L∧Da k L a b c=1)∨(a=0∧k=4∧c≠1∧b≠L∧Da k L a b c=0) ∨
    (a=0∧k≠4∧b=L∧Da k L a b c=1)∨(a=0∧k≠4∧b≠L∧c=L∧k≠5∧Da k L a b c=2)∨(a=0∧k≠4∧b≠L∧c=L∧k=5∧Da k L a b c=0)∨(a=0∧k≠4∧b≠L∧c≠L∧Da k L a b c=0):=by
 unfold Da
 by_cases h0:0<a
 · exact Or.inl ⟨h0,if_pos h0⟩
 rw[if_neg h0]
 have h0:a=0:=by omega
 refine Or.inr ?_
 by_cases h4:k=4
 · by_cases h1:c=1
   · exact Or.inl ⟨h0,h4,h1,if_pos ⟨h4,h1⟩⟩
   · rw[if_neg (by omega)]
     by_cases hb:b=L
     · exact Or.inr (Or.inl ⟨h0,h4,h1,hb,if_pos hb⟩)
     · exact Or.inr (Or.inr (Or.inl ⟨h0,h4,h1,hb,by rw[if_neg hb,if_neg (by omega)]⟩))
 · rw[if_neg (by omega)];refine Or.inr (Or.inr (Or.inr ?_))
   by_cases hb:b=L
   · exact Or.inl ⟨h0,h4,hb,if_pos hb⟩
   · rw[if_neg hb];refine Or.inr ?_
     by_cases hc:c=L
     · by_cases h5:k=5
       · exact Or.inr (Or.inl ⟨h0,h4,hb,hc,h5,if_neg (by omega)⟩)
       · exact Or.inl ⟨h0,h4,hb,hc,h5,if_pos ⟨hc,h4,h5⟩⟩
     · exact Or.inr (Or.inr ⟨h0,h4,hb,hc,if_neg (by omega)⟩)
theorem Ju {a b:Int} (h:a=b):(Ending.returned (.int .i64 a))=.returned (.int .i64 b):=by rw[h]
theorem Q2y:∀ (h:Nat) (e:Ex) (w:World),Zy w h e →
  Calls Tryz.prog 159 #[xv e] w fun x w'=>x=.returned (.int .i64 (Jv e.c))∧Below w.heap.size w w':=by
 intro h
 induction h with
 | zero=>exact fun _ _ h=>h.elim
 | succ h ih =>
   intro e w hx;obtain⟨k,n,d,u,oa,b,o,cap,kids⟩:=e;obtain⟨h1,h2,h3,h4,h5,h6,h7,h8⟩:=hx;have hsm:kids.length≤9223372036854775807:=Qz (Qz h4 h5) (by decide);have HIH:=Q1 ih;obtain⟨K,hK⟩:∃ K,Jv (Ex.mk k n d u oa b o cap kids).c=K:=⟨_,rfl⟩;have hK2:=hK;rw[Ex.c_mk,M4,List.map_map,Qj]at hK2;clear ih h1 h2 h3 h6;rw[Vr,hK];clear hK
   by_cases hk1:k=1
   · subst hk1;rw[if_pos rfl]at hK2
     by_cases hu:u=0
     · subst hu;rw[if_pos rfl]at hK2;have HK:=Q1 hK2;clear hK2 h7 h8 HIH
       go_enter Tryz.func159,Tryz.ntmps159
       go_wp2_with fail;go_ret;exact⟨Ju HK.out,Q7 _ _⟩
     · rw[if_neg hu]at hK2
       have gu:(u==0)=false:=by simpa using hu
       have HK:=Q1 hK2;clear hK2 h7 h8 HIH
       go_enter Tryz.func159,Tryz.ntmps159
       go_wp2_with fail;go_ret;exact⟨Ju HK.out,Q7 _ _⟩
   rw[if_neg hk1]at hK2
   have gk1:(k==1)=false:=by simpa using hk1
   have HK:=Q1 hK2;obtain⟨L,hL⟩:∃ L,kids.length=L:=⟨_,rfl⟩;rw[hL]at hsm h4 h7 HK ⊢;have HL:=Q1 hL;clear hK2 hk1 hL;have hY0:K=Km k L 0 ((kids.drop 0).map (Jv ∘ Ex.c)):=HK.out.symm;have HY0:=Q1 hY0;clear hY0
   go_enter Tryz.func159,Tryz.ntmps159
   go_wp2_with fail
   go_loopg [3,15] L (fun kk s3 s15 wr=>∃ (i c:Nat),s3=.int .i64 c∧s15=.int .i64 i∧Hid (Gk w wr 32 #[.int .i64 k,.int .i64 n,.int .i64 d,.int .i64 u,.slice oa L cap])∧i≤L∧c≤i∧Hid (K=Km k L c ((kids.drop i).map (Jv ∘ Ex.c)))∧L-i≤kk)
   case atStart=>exact⟨0,0,rfl,rfl,Q1 ⟨Q7 _ _,Ql.new _ _ _⟩,Qs _,Q6 _,HY0,by omega⟩
   case round =>
    obtain⟨i,c,rfl,rfl,hg,hle,hci,hY,hk2⟩:=hrel;have hbel:=Q1 hg.out.below
    by_cases hi:i<L
    · have gi:decide ((i:Int)<(L:Int))=true:=by simpa using hi
      have gin:decide (i<L)=true:=by simpa using hi
      have hil:i<kids.length:=by rw[HL.out];exact hi
      have hr:kids[i]?=some kids[i]:=Q9 hil;have hx:=h8 i _ hr;have hdr:kids.drop i=kids[i]::kids.drop (i+1):=Qv hil;obtain⟨rfl,hbl⟩:=h7 (by omega);generalize kids[i]=x at *;obtain⟨M,hM⟩:∃ M,Jv x.c=M:=⟨_,rfl⟩;have hM3:=Ca x.c;rw[hM]at hM3
      have hX:=fun wx hb=>HIH.out x wx (hx.2.below (w':=wx) _ hb)
      rw[hM]at hX;have hlaw:=hY.out;rw[hdr,List.map_cons,Km,Function.comp_apply,hM]at hlaw;obtain⟨k',n',d',u',oa',b',o',cap',kids'⟩:=x;obtain⟨K',hK'⟩:∃ K',kids'.length=K':=⟨_,rfl⟩;simp only[Vr,hK']at hX;have HX:=Q1 hX;have f0:wr.cell? ⟨b,o+i*5,none⟩=some (.int .i64 k'):=(hbel.out.cell hbl).trans (hx.1 0 _ rfl);have f1:wr.cell? ⟨b,o+i*5+1,none⟩=some (.int .i64 n'):=(hbel.out.cell hbl).trans (hx.1 1 _ rfl);have f2:wr.cell? ⟨b,o+i*5+2,none⟩=some (.int .i64 d'):=(hbel.out.cell hbl).trans (hx.1 2 _ rfl);have f3:wr.cell? ⟨b,o+i*5+3,none⟩=some (.int .i64 u'):=(hbel.out.cell hbl).trans (hx.1 3 _ rfl)
      have f4:wr.cell? ⟨b,o+i*5+4,none⟩=some (.slice oa' K' cap'):=by rw[← hK'];exact(hbel.out.cell hbl).trans (hx.1 4 _ rfl)
      have HLW:=Q1 hlaw;clear hx hlaw hY hr hdr hil h8 h7 hX hM hK'
      rcases hM3 with rfl|rfl|rfl
      · go_wp2_with fail
        ((with_reducible refine(HX.out _ (hbel.out.alloc hbel.out.size _)).mono ?_);rintro e w' ⟨rfl,hbw⟩)
        obtain⟨m,rfl⟩:=Qf hbw;clear hbw;have hK0:=Q1 (show K=0 from HLW.out);go_wp2_with fail;go_ret;exact⟨Ju hK0.out.symm,Qa (hbel.out.alloc hbel.out.size _) m⟩
      · go_wp2_with fail
        ((with_reducible refine(HX.out _ (hbel.out.alloc hbel.out.size _)).mono ?_);rintro e w' ⟨rfl,hbw⟩)
        obtain⟨m,rfl⟩:=Qf hbw;clear hbw;go_wp2_with fail
        go_roundg (L-(i+1))
        case measure=>omega
        case rel=>exact⟨i+1,c,rfl,by go_num,Q1 ⟨Qa (hbel.out.alloc hbel.out.size _) m,(hg.out.box.old _).grow m⟩,hi,by omega,Q1 HLW.out,Q6 _⟩
      · go_wp2_with fail
        ((with_reducible refine(HX.out _ (hbel.out.alloc hbel.out.size _)).mono ?_);rintro e w' ⟨rfl,hbw⟩)
        obtain⟨m,rfl⟩:=Qf hbw;clear hbw;go_wp2_with fail
        go_roundg (L-(i+1))
        case measure=>omega
        case rel=>exact⟨i+1,c+1,by go_num,by go_num,Q1 ⟨Qa (hbel.out.alloc hbel.out.size _) m,(hg.out.box.old _).grow m⟩,hi,by omega,Q1 HLW.out,Q6 _⟩
    · obtain rfl:i=L:=by omega
      have gi:decide ((i:Int)<(i:Int))=false:=by simp
      have gin:decide (i<i)=false:=by simp
      have hKf:K=Vb k i c:=by
       rw[hY.out,Z3 (by rw[HL.out];exact Q6 _)];rfl
      have hbox:=hg.out.box;have cb0:wr.cell? ⟨w.heap.size,0,none⟩=some (.int .i64 k):=(hbox).cell 0;have fcb0:=(hbox).frozen 0;have cb1:wr.cell? ⟨w.heap.size,1,none⟩=some (.int .i64 n):=(hbox).cell 1;have fcb1:=(hbox).frozen 1;have cb2:wr.cell? ⟨w.heap.size,2,none⟩=some (.int .i64 d):=(hbox).cell 2;have fcb2:=(hbox).frozen 2;have cb3:wr.cell? ⟨w.heap.size,3,none⟩=some (.int .i64 u):=(hbox).cell 3;have fcb3:=(hbox).frozen 3;have cb4:wr.cell? ⟨w.heap.size,4,none⟩=some (.slice oa i cap):=(hbox).cell 4;have fcb4:=(hbox).frozen 4;have lcb:=(hbox).lt;have ways:=Q2c k i c;rw[← hKf]at ways;clear hKf hbox hY hg HK HY0 h8 h7 HIH
      rcases ways with ⟨e0,hK⟩ | ⟨e0,rfl,e1,hK⟩ | ⟨e0,rfl,e1,hK⟩ | ⟨e0,rfl,hK⟩ | ⟨e0,e4,e5,eL,hK⟩ | ⟨e0,e4,e5,eL,hK⟩
      · subst e0;have HK:=Q1 hK;clear hK;go_wp2_with fail;go_ret;exact⟨Ju HK.out.symm,hbel.out⟩
      · subst e1;have HK:=Q1 hK;clear hK;go_wp2_with fail;go_ret;exact⟨Ju HK.out.symm,hbel.out⟩
      · have g0:((c:Int)==0)=false:=by simp;omega
        have g1:((c:Int)==1)=false:=by simp;omega
        have HK:=Q1 hK;clear hK e0 e1;go_wp2_with fail;go_ret;exact⟨Ju HK.out.symm,hbel.out⟩
      · have g0:((c:Int)==0)=false:=by simp;omega
        have HK:=Q1 hK;clear hK e0;go_wp2_with fail;go_ret;exact⟨Ju HK.out.symm,hbel.out⟩
      · have g0:((c:Int)==0)=false:=by simp;omega
        have g4:(k==4)=false:=by simpa using e4
        have g4n:(k != 4)=true:=by simpa using e4
        have g5:(k==5)=false:=by simpa using e5
        have g5n:(k != 5)=true:=by simpa using e5
        have gL:((c:Int)==(i:Int))=true:=by simp;omega
        have HK:=Q1 hK;clear hK e0 e4 e5 eL;go_wp2_with fail;go_ret;exact⟨Ju HK.out.symm,hbel.out⟩
      · have g0:((c:Int)==0)=false:=by simp;omega
        have g4:(k==4)=false:=by simpa using e4
        have g4n:(k != 4)=true:=by simpa using e4
        have g5:(k==5)=false:=by simpa using e5
        have g5n:(k != 5)=true:=by simpa using e5
        have gL:((c:Int)==(i:Int))=false:=by simp;omega
        have HK:=Q1 hK;clear hK e0 e4 e5 eL;go_wp2_with fail;go_ret;exact⟨Ju HK.out.symm,hbel.out⟩
theorem Q1j:∀ (h:Nat) (e:Ex) (w:World),Zy w h e →
  Calls Tryz.prog 95 #[xv e] w fun x w'=>x=.returned (.int .i64 (Jv e.c))∧Below w.heap.size w w':=by
 intro h
 induction h with
 | zero=>exact fun _ _ h=>h.elim
 | succ h ih =>
   intro e w hx;obtain⟨k,n,d,u,oa,b,o,cap,kids⟩:=e;obtain⟨h1,h2,h3,h4,h5,h6,h7,h8⟩:=hx;have hsm:kids.length≤9223372036854775807:=Qz (Qz h4 h5) (by decide);have HIH:=Q1 ih;obtain⟨K,hK⟩:∃ K,Jv (Ex.mk k n d u oa b o cap kids).c=K:=⟨_,rfl⟩;have hK2:=hK;rw[Ex.c_mk,M4,List.map_map,Qj]at hK2;clear ih h1 h2 h3 h6;rw[Vr,hK];clear hK
   by_cases hk1:k=1
   · subst hk1;rw[if_pos rfl]at hK2
     by_cases hu:u=0
     · subst hu;rw[if_pos rfl]at hK2;have HK:=Q1 hK2;clear hK2 h7 h8 HIH
       go_enter Tryz.func95,Tryz.ntmps95
       go_wp2_with fail;go_ret;exact⟨Ju HK.out,Q7 _ _⟩
     · rw[if_neg hu]at hK2
       have gu:(u==0)=false:=by simpa using hu
       have HK:=Q1 hK2;clear hK2 h7 h8 HIH
       go_enter Tryz.func95,Tryz.ntmps95
       go_wp2_with fail;go_ret;exact⟨Ju HK.out,Q7 _ _⟩
   rw[if_neg hk1]at hK2
   have gk1:(k==1)=false:=by simpa using hk1
   have HK:=Q1 hK2;obtain⟨L,hL⟩:∃ L,kids.length=L:=⟨_,rfl⟩;rw[hL]at hsm h4 h7 HK ⊢;have HL:=Q1 hL;clear hK2 hk1 hL
   have hall:∀ x∈kids.map (Jv ∘ Ex.c),x=0∨x=1∨x=2:=fun x hx=>by
    obtain⟨y,_,rfl⟩:=List.mem_map.1 hx;exact Ca _
   have hkr:=Q4k k (kids.map (Jv ∘ Ex.c)) hall;rw[Qj,HL.out,HK.out]at hkr;have HKR:=Q1 hkr;obtain⟨t0,ht0⟩:∃ t,(kids.map (Jv ∘ Ex.c)).count 0=t:=⟨_,rfl⟩;obtain⟨t1,ht1⟩:∃ t,(kids.map (Jv ∘ Ex.c)).count 1=t:=⟨_,rfl⟩;obtain⟨t2,ht2⟩:∃ t,(kids.map (Jv ∘ Ex.c)).count 2=t:=⟨_,rfl⟩;rw[ht0,ht1,ht2]at HKR
   have hY0:t0=0+((kids.drop 0).map (Jv ∘ Ex.c)).count 0∧t1=0+((kids.drop 0).map (Jv ∘ Ex.c)).count 1∧t2=0+((kids.drop 0).map (Jv ∘ Ex.c)).count 2:=by
    rw[List.drop_zero,ht0,ht1,ht2];omega
   have HY0:=Q1 hY0;clear hY0 ht0 ht1 ht2 hall hkr HK
   go_enter Tryz.func95,Tryz.ntmps95
   go_wp2_with fail
   go_loopg [17] L (fun kk s17 wr=>∃ (i x0 x1 x2:Nat),s17=.int .i64 i∧Hid (Gk w wr 32 #[.int .i64 k,.int .i64 n,.int .i64 d,.int .i64 u,.slice oa L cap])∧Hid (Ql wr (w.heap.size+1) 154 #[.int .i64 x0,.int .i64 x1,.int .i64 x2])∧i≤L∧x0+x1+x2≤i ∧
    Hid (t0=x0+((kids.drop i).map (Jv ∘ Ex.c)).count 0∧t1=x1+((kids.drop i).map (Jv ∘ Ex.c)).count 1∧t2=x2+((kids.drop i).map (Jv ∘ Ex.c)).count 2)∧L-i≤kk)
   case atStart=>exact⟨0,0,0,0,rfl,Q1 ⟨(Q7 _ _).alloc (by simp) _,(Ql.new _ _ _).old _⟩,Q1 (Ql.new2 _ _ _ _),Qs _,Q6 _,HY0,by omega⟩
   case round =>
    obtain⟨i,x0,x1,x2,rfl,hg,hg2,hle,hci,hY,hk2⟩:=hrel;have hbel:=Q1 hg.out.below
    by_cases hi:i<L
    · have gi:decide ((i:Int)<(L:Int))=true:=by simpa using hi
      have gin:decide (i<L)=true:=by simpa using hi
      have hil:i<kids.length:=by rw[HL.out];exact hi
      have hr:kids[i]?=some kids[i]:=Q9 hil;have hx:=h8 i _ hr;have hdr:kids.drop i=kids[i]::kids.drop (i+1):=Qv hil;obtain⟨rfl,hbl⟩:=h7 (by omega);generalize kids[i]=x at *;obtain⟨M,hM⟩:∃ M,Jv x.c=M:=⟨_,rfl⟩;have hM3:=Ca x.c;rw[hM]at hM3
      have hX:=fun wx hb=>HIH.out x wx (hx.2.below (w':=wx) _ hb)
      rw[hM]at hX;have hlaw:=hY.out;rw[hdr,List.map_cons,List.count_cons,List.count_cons,List.count_cons,Function.comp_apply,hM]at hlaw;obtain⟨k',n',d',u',oa',b',o',cap',kids'⟩:=x;obtain⟨K',hK'⟩:∃ K',kids'.length=K':=⟨_,rfl⟩;simp only[Vr,hK']at hX;have HX:=Q1 hX;have f0:wr.cell? ⟨b,o+i*5,none⟩=some (.int .i64 k'):=(hbel.out.cell hbl).trans (hx.1 0 _ rfl);have f1:wr.cell? ⟨b,o+i*5+1,none⟩=some (.int .i64 n'):=(hbel.out.cell hbl).trans (hx.1 1 _ rfl);have f2:wr.cell? ⟨b,o+i*5+2,none⟩=some (.int .i64 d'):=(hbel.out.cell hbl).trans (hx.1 2 _ rfl);have f3:wr.cell? ⟨b,o+i*5+3,none⟩=some (.int .i64 u'):=(hbel.out.cell hbl).trans (hx.1 3 _ rfl)
      have f4:wr.cell? ⟨b,o+i*5+4,none⟩=some (.slice oa' K' cap'):=by rw[← hK'];exact(hbel.out.cell hbl).trans (hx.1 4 _ rfl)
      have HLW:=Q1 hlaw;clear hx hlaw hY hr hdr hil h8 h7 hX hM hK'
      rcases hM3 with rfl|rfl|rfl
      · go_wp2_with fail
        ((with_reducible refine(HX.out _ (hbel.out.alloc hbel.out.size _)).mono ?_);rintro e w' ⟨rfl,hbw⟩)
        obtain⟨m,rfl⟩:=Qf hbw;clear hbw;have hbm:=Q1 (Qa (hbel.out.alloc hbel.out.size (.cells #[.int .i64 k',.int .i64 n',.int .i64 d',.int .i64 u',.slice oa' K' cap'] 32)) m);have h1m:=Q1 ((hg.out.box.old (.cells #[.int .i64 k',.int .i64 n',.int .i64 d',.int .i64 u',.slice oa' K' cap'] 32)).grow m);have h2m:=(hg2.out.old (.cells #[.int .i64 k',.int .i64 n',.int .i64 d',.int .i64 u',.slice oa' K' cap'] 32)).grow m;clear f0 f1 f2 f3 f4;generalize grow _ m=wm at *;have cc0:wm.cell? ⟨w.heap.size+1,0,none⟩=some (.int .i64 x0):=(h2m).cell 0;have fcc0:=(h2m).frozen 0;have cc1:wm.cell? ⟨w.heap.size+1,1,none⟩=some (.int .i64 x1):=(h2m).cell 1;have fcc1:=(h2m).frozen 1;have cc2:wm.cell? ⟨w.heap.size+1,2,none⟩=some (.int .i64 x2):=(h2m).cell 2;have fcc2:=(h2m).frozen 2;have lcc:=(h2m).lt;have H2M:=Q1 h2m;clear h2m;go_wp2_with fail
        go_roundg (L-(i+1))
        case measure=>omega
        case rel=>exact⟨i+1,x0+1,x1,x2,by go_num,Q1 ⟨hbm.out.setCell (p:=⟨w.heap.size+1,0,none⟩) (by simp) _,h1m.out.far (p:=⟨w.heap.size+1,0,none⟩) (by simp) _⟩,Q1 (by have:=H2M.out.put 0 (.int .i64 (((x0:Nat):Int)+1));simpa using this),hi,by omega,Q1 (by simpa[Nat.add_assoc,Nat.add_comm 1] using HLW.out),Q6 _⟩
      · go_wp2_with fail
        ((with_reducible refine(HX.out _ (hbel.out.alloc hbel.out.size _)).mono ?_);rintro e w' ⟨rfl,hbw⟩)
        obtain⟨m,rfl⟩:=Qf hbw;clear hbw;have hbm:=Q1 (Qa (hbel.out.alloc hbel.out.size (.cells #[.int .i64 k',.int .i64 n',.int .i64 d',.int .i64 u',.slice oa' K' cap'] 32)) m);have h1m:=Q1 ((hg.out.box.old (.cells #[.int .i64 k',.int .i64 n',.int .i64 d',.int .i64 u',.slice oa' K' cap'] 32)).grow m);have h2m:=(hg2.out.old (.cells #[.int .i64 k',.int .i64 n',.int .i64 d',.int .i64 u',.slice oa' K' cap'] 32)).grow m;clear f0 f1 f2 f3 f4;generalize grow _ m=wm at *;have cc0:wm.cell? ⟨w.heap.size+1,0,none⟩=some (.int .i64 x0):=(h2m).cell 0;have fcc0:=(h2m).frozen 0;have cc1:wm.cell? ⟨w.heap.size+1,1,none⟩=some (.int .i64 x1):=(h2m).cell 1;have fcc1:=(h2m).frozen 1;have cc2:wm.cell? ⟨w.heap.size+1,2,none⟩=some (.int .i64 x2):=(h2m).cell 2;have fcc2:=(h2m).frozen 2;have lcc:=(h2m).lt;have H2M:=Q1 h2m;clear h2m;go_wp2_with fail
        go_roundg (L-(i+1))
        case measure=>omega
        case rel=>exact⟨i+1,x0,x1+1,x2,by go_num,Q1 ⟨hbm.out.setCell (p:=⟨w.heap.size+1,1,none⟩) (by simp) _,h1m.out.far (p:=⟨w.heap.size+1,1,none⟩) (by simp) _⟩,Q1 (by have:=H2M.out.put 1 (.int .i64 (((x1:Nat):Int)+1));simpa using this),hi,by omega,Q1 (by simpa[Nat.add_assoc,Nat.add_comm 1] using HLW.out),Q6 _⟩
      · go_wp2_with fail
        ((with_reducible refine(HX.out _ (hbel.out.alloc hbel.out.size _)).mono ?_);rintro e w' ⟨rfl,hbw⟩)
        obtain⟨m,rfl⟩:=Qf hbw;clear hbw;have hbm:=Q1 (Qa (hbel.out.alloc hbel.out.size (.cells #[.int .i64 k',.int .i64 n',.int .i64 d',.int .i64 u',.slice oa' K' cap'] 32)) m);have h1m:=Q1 ((hg.out.box.old (.cells #[.int .i64 k',.int .i64 n',.int .i64 d',.int .i64 u',.slice oa' K' cap'] 32)).grow m);have h2m:=(hg2.out.old (.cells #[.int .i64 k',.int .i64 n',.int .i64 d',.int .i64 u',.slice oa' K' cap'] 32)).grow m;clear f0 f1 f2 f3 f4;generalize grow _ m=wm at *;have cc0:wm.cell? ⟨w.heap.size+1,0,none⟩=some (.int .i64 x0):=(h2m).cell 0;have fcc0:=(h2m).frozen 0;have cc1:wm.cell? ⟨w.heap.size+1,1,none⟩=some (.int .i64 x1):=(h2m).cell 1;have fcc1:=(h2m).frozen 1;have cc2:wm.cell? ⟨w.heap.size+1,2,none⟩=some (.int .i64 x2):=(h2m).cell 2;have fcc2:=(h2m).frozen 2;have lcc:=(h2m).lt;have H2M:=Q1 h2m;clear h2m;go_wp2_with fail
        go_roundg (L-(i+1))
        case measure=>omega
        case rel=>exact⟨i+1,x0,x1,x2+1,by go_num,Q1 ⟨hbm.out.setCell (p:=⟨w.heap.size+1,2,none⟩) (by simp) _,h1m.out.far (p:=⟨w.heap.size+1,2,none⟩) (by simp) _⟩,Q1 (by have:=H2M.out.put 2 (.int .i64 (((x2:Nat):Int)+1));simpa using this),hi,by omega,Q1 (by simpa[Nat.add_assoc,Nat.add_comm 1] using HLW.out),Q6 _⟩
    · obtain rfl:i=L:=by omega
      have gi:decide ((i:Int)<(i:Int))=false:=by simp
      have gin:decide (i<i)=false:=by simp
      have hYe:=hY.out;rw[Z3 (by rw[HL.out];exact Q6 _),List.map_nil,List.count_nil,List.count_nil,List.count_nil]at hYe;have hKf:=HKR.out;rw[hYe.1,hYe.2.1,hYe.2.2]at hKf;simp only[Nat.add_zero]at hKf;have hbox:=hg.out.box;have hbox2:=hg2.out;have cb0:wr.cell? ⟨w.heap.size,0,none⟩=some (.int .i64 k):=(hbox).cell 0;have fcb0:=(hbox).frozen 0;have cb1:wr.cell? ⟨w.heap.size,1,none⟩=some (.int .i64 n):=(hbox).cell 1;have fcb1:=(hbox).frozen 1;have cb2:wr.cell? ⟨w.heap.size,2,none⟩=some (.int .i64 d):=(hbox).cell 2;have fcb2:=(hbox).frozen 2;have cb3:wr.cell? ⟨w.heap.size,3,none⟩=some (.int .i64 u):=(hbox).cell 3;have fcb3:=(hbox).frozen 3;have cb4:wr.cell? ⟨w.heap.size,4,none⟩=some (.slice oa i cap):=(hbox).cell 4;have fcb4:=(hbox).frozen 4;have lcb:=(hbox).lt;have cc0:wr.cell? ⟨w.heap.size+1,0,none⟩=some (.int .i64 x0):=(hbox2).cell 0;have fcc0:=(hbox2).frozen 0
      have cc1:wr.cell? ⟨w.heap.size+1,1,none⟩=some (.int .i64 x1):=(hbox2).cell 1;have fcc1:=(hbox2).frozen 1;have cc2:wr.cell? ⟨w.heap.size+1,2,none⟩=some (.int .i64 x2):=(hbox2).cell 2;have fcc2:=(hbox2).frozen 2;have lcc:=(hbox2).lt;have ways:=Iu k i x0 x1 x2;rw[hKf]at ways;clear hKf hbox hbox2 hY hYe hg hg2 HKR HY0 h8 h7 HIH
      rcases ways with ⟨ea,hK⟩ | ⟨ea,rfl,ec,hK⟩ | ⟨ea,rfl,ec,eb,hK⟩ | ⟨ea,rfl,ec,eb,hK⟩ | ⟨ea,e4,eb,hK⟩ | ⟨ea,e4,eb,ec,e5,hK⟩ | ⟨ea,e4,eb,ec,e5,hK⟩ | ⟨ea,e4,eb,ec,hK⟩
      · have ga:decide ((0:Int)<(x0:Int))=true:=by simpa using ea
        have gan:decide (0<x0)=true:=by simpa using ea
        have HK:=Q1 hK;clear hK;go_wp2_with fail;go_ret;exact⟨Ju HK.out.symm,hbel.out⟩
      · subst ea;subst ec;have HK:=Q1 hK;clear hK;go_wp2_with fail;go_ret;exact⟨Ju HK.out.symm,hbel.out⟩
      · subst ea
        have gc:((x2:Int)==1)=false:=by simp;omega
        have gb:((x1:Int)==(i:Int))=true:=by simp;omega
        have HK:=Q1 hK;clear hK;go_wp2_with fail;go_ret;exact⟨Ju HK.out.symm,hbel.out⟩
      · subst ea
        have gc:((x2:Int)==1)=false:=by simp;omega
        have gb:((x1:Int)==(i:Int))=false:=by simp;omega
        obtain⟨q,gq⟩:∃ q,((x2:Int)==(i:Int))=q:=⟨_,rfl⟩;have HK:=Q1 hK;clear hK
        cases q<;>(go_wp2_with fail;go_ret;exact⟨Ju HK.out.symm,hbel.out⟩)
      · subst ea
        have g4:(k==4)=false:=by simpa using e4
        have g4n:(k != 4)=true:=by simpa using e4
        have gb:((x1:Int)==(i:Int))=true:=by simp;omega
        have HK:=Q1 hK;clear hK;go_wp2_with fail;go_ret;exact⟨Ju HK.out.symm,hbel.out⟩
      · subst ea
        have g4:(k==4)=false:=by simpa using e4
        have g4n:(k != 4)=true:=by simpa using e4
        have g5:(k==5)=false:=by simpa using e5
        have g5n:(k != 5)=true:=by simpa using e5
        have gb:((x1:Int)==(i:Int))=false:=by simp;omega
        have gc:((x2:Int)==(i:Int))=true:=by simp;omega
        have HK:=Q1 hK;clear hK;go_wp2_with fail;go_ret;exact⟨Ju HK.out.symm,hbel.out⟩
      · subst ea
        have g4:(k==4)=false:=by simpa using e4
        have g4n:(k != 4)=true:=by simpa using e4
        have gb:((x1:Int)==(i:Int))=false:=by simp;omega
        have gc:((x2:Int)==(i:Int))=true:=by simp;omega
        have g5:(k==5)=true:=by simpa using e5
        have g5n:(k != 5)=false:=by simpa using e5
        have HK:=Q1 hK;clear hK;go_wp2_with fail;go_ret;exact⟨Ju HK.out.symm,hbel.out⟩
      · subst ea
        have g4:(k==4)=false:=by simpa using e4
        have g4n:(k != 4)=true:=by simpa using e4
        have gb:((x1:Int)==(i:Int))=false:=by simp;omega
        have gc:((x2:Int)==(i:Int))=false:=by simp;omega
        have HK:=Q1 hK;clear hK;go_wp2_with fail;go_ret;exact⟨Ju HK.out.symm,hbel.out⟩
def B9 (e:Ex):Int×Int:=if Va 340 e=false then (0,1) else if Jv e.c=0 then (0,4) else (Jv e.c,0)
theorem Om (h:Nat) (e:Ex) (w:World) (hx:Zy w h e) :
  Calls Tryz.prog 129 #[xv e] w fun x w'=>x=.returned (.tuple #[.int .i64 (B9 e).1,.int .i64 (B9 e).2])∧Below w.heap.size w w':=by
 have hC:=fun wx hb=>Ms h e wx (hx.below h (w':=wx) hb)
 have hD:=fun wx hb=>Q2y h e wx (hx.below h (w':=wx) hb)
 unfold B9;have hM3:=Ca e.c;generalize Va 340 e=M at *;generalize Jv e.c=K at *;obtain⟨k,n,d,u,oa,b,o,cap,kids⟩:=e;simp only[Vr]at hC hD ⊢;have HC:=Q1 hC;have HD:=Q1 hD;clear hC hD hx
 cases M with
 | false =>
   go_enter Tryz.func129,Tryz.ntmps129
   go_wp2_with fail
   ((with_reducible refine(HC.out _ (Q7 _ _)).mono ?_);rintro e w' ⟨rfl,hbw⟩)
   obtain⟨m,rfl⟩:=Qf hbw;clear hbw;go_wp2_with fail
   go_ret2
   exact⟨rfl,Qa (Q7 _ _) m⟩
 | true =>
   rcases hM3 with rfl|rfl|rfl
   all_goals
    go_enter Tryz.func129,Tryz.ntmps129
    go_wp2_with fail
    ((with_reducible refine(HC.out _ (Q7 _ _)).mono ?_);rintro e w' ⟨rfl,hbw⟩)
    obtain⟨m,rfl⟩:=Qf hbw;clear hbw;go_wp2_with fail
    ((with_reducible refine(HD.out _ (Qa (Q7 _ _) m)).mono ?_);rintro e w' ⟨rfl,hbw⟩)
    obtain⟨m2,rfl⟩:=Qf hbw;clear hbw;go_wp2_with fail
    go_ret2
    exact⟨rfl,Qa (Q7 _ _) _⟩
end Go.Proofs.YtnanffmhbjdpaaaGreatDoor
