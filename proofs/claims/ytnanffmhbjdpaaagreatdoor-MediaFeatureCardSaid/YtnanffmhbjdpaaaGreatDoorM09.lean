/- Of my texts: TokB, TokC, TokD, TokE, TxA. -/
import Derived.Test.YtnanffmhbjdpaaaGreatDoorM00
import Derived.Test.YtnanffmhbjdpaaaGreatDoorM08
import Derived.OwnWalk
import Derived.Deep.AppendLies
import Derived.Laws.BitsAllLaws
import Derived.Deep.LoopGhost
import Derived.Deep.CutBlock
import Derived.Deep.DeepCutAuto
import Derived.Laws.BytesArg
import Derived.Laws.IdiomStrings
namespace Go.Proofs.YtnanffmhbjdpaaaGreatDoor
set_option maxHeartbeats 4000000
set_option maxRecDepth 20000
set_option linter.unusedVariables false
set_option linter.unusedSimpArgs false
open Go.RowKit
structure Sl (w:World) (oa:Option Addr) (n cap b o sz:Nat) (vs:List Value):Prop where
 len:vs.length=n*sz
 le:n≤cap
 max:cap≤maxLen
 lies:0<n→oa=some ⟨b,o,none⟩∧b<w.heap.size
 cell:∀ (j:Nat) (v:Value),vs[j]?=some v→w.cell? ⟨b,o+j,none⟩=some v
theorem Sl.pos {w:World} {oa:Option Addr} {n cap b o sz:Nat} {vs:List Value} (h:Sl w oa n cap b o sz vs) {j:Nat} {v:Value} (hv:vs[j]?=some v):0<n:=by
 have:=(Qn.1 hv).1;rw[h.len]at this
 rcases Nat.eq_zero_or_pos n with rfl|h
 · omega
 · exact h
theorem Sl.grown {w w':World} {oa:Option Addr} {n cap b o sz:Nat} {vs:List Value} {row:Option Nat} (h:Sl w oa n cap b o sz vs) (hg:w.grownBy w' row) (hne:0<n→some b≠row):Sl w' oa n cap b o sz vs :=
 ⟨h.len,h.le,h.max,fun hp=>⟨(h.lies hp).1,Qg (h.lies hp).2 hg.size⟩,fun j v hv=>by
   have hp:=h.pos hv;rw[← h.cell j v hv];simp only[World.cell?]
   rw[hg.block b (h.lies hp).2 (hne hp)]⟩
theorem Sl.below {w w':World} {oa:Option Addr} {n cap b o sz:Nat} {vs:List Value} (h:Sl w oa n cap b o sz vs) (hb:Below w.heap.size w w'):Sl w' oa n cap b o sz vs :=
 ⟨h.len,h.le,h.max,fun hp=>⟨(h.lies hp).1,Qg (h.lies hp).2 hb.size⟩,fun j v hv=>(hb.cell (p:=⟨b,o+j,none⟩) (h.lies (h.pos hv)).2).trans (h.cell j v hv)⟩
theorem Sl.drop {w:World} {oa:Option Addr} {n cap b o:Nat} {vs:List Value} (h:Sl w oa n cap b o 1 vs) {k:Nat} (hk:k≤n):Sl w (some ⟨b,o+k,none⟩) (n-k) (cap-k) b (o+k) 1 (vs.drop k) :=
 ⟨by have:=h.len;rw[Zu];omega,by have:=h.le;omega,by have:=h.max;omega,fun hp=>⟨rfl,(h.lies (by omega)).2⟩,fun j v hv=>by
   rw[List.getElem?_drop]at hv;rw[show o+k+j=o+(k+j) by omega]
   exact h.cell (k+j) v hv⟩
theorem Zx {w:World} {base:Nat} {e:TypeId} {sz:Nat} {v:Value} {n:Nat} {vs:List Value} (h:w.ownsRow base e sz v n vs) :
  ∃ (oa:Option Addr) (cap g:Nat),v=.slice oa n cap∧Sl w oa n cap g 0 sz vs∧(0<n→base≤g):=by
 rcases h.2 with ⟨rfl,h0⟩ | ⟨g,cap,cur,rfl,hg,hc,h1,h2,h3,h4⟩
 · subst h0;refine⟨none,0,0,rfl,⟨h.1,Q6 _,Qs _,fun hp=>absurd hp (Nat.lt_irrefl _),fun j v hv=>?_⟩,fun hp=>absurd hp (Nat.lt_irrefl _)⟩;have h1:=h.1;have:=(Qn.1 hv).1;omega
 · refine⟨some ⟨g,0,none⟩,cap,g,rfl,⟨h.1,h1,h2,fun _=>⟨rfl,(Zt.1 hc).1⟩,fun j u hu=>?_⟩,fun _=>hg⟩;rw[Nat.zero_add,cell_of_row w g j cur e (0,0) hc];have hj:=(Qn.1 hu).1;rw[← h4,List.getElem?_take]at hu;split at hu
   · simpa using hu
   · cases hu
def Xv (l:List UInt8):List Value:=l.map fun c=>.int .u8 (c.toNat:Int)
def Vo (l:List Int):List Value:=l.map (.int .i32)
theorem Eb {l:List UInt8} {i:Nat} (h:i<l.length):(Xv l)[i]?=some (.int .u8 ((l[i]).toNat:Int)):=by simp[Xv,Q9 h]
theorem Dt {l:List Int} {i:Nat} (h:i<l.length):(Vo l)[i]?=some (.int .i32 l[i]):=by simp[Vo,Q9 h]
structure El (t e:TypeId) (z:Value) (size bytes:Nat):Prop where
 under:Tryz.prog.underlying t=some (.slice e)
 info:(Tryz.prog.info? e).map (fun i=>(i.zero,i.size,i.bytes))=some (some z,size,bytes)
 zs:z.cells.size=size
 pos:0<size
structure Rw (w0 w:World) (e:TypeId) (size:Nat) (v:Value) (n:Nat) (xs:List Value):Prop where
 below:Below w0.heap.size w0 w
 own:w.ownsRow w0.heap.size e size v n xs
theorem Qc {w w':World} (h:Below w.heap.size w w') (row:Option Nat):w.grownBy w' row:=⟨h.os,h.tape,h.output,h.size,fun k hk _=>h.block k hk⟩
theorem Z7 {w w1 w2:World} {row:Option Nat} (h1:w.grownBy w1 row) (h2:w1.grownBy w2 row):w.grownBy w2 row :=
 ⟨h2.os.trans h1.os,h2.tape.trans h1.tape,h2.output.trans h1.output,Qz h1.size h2.size,fun k hk hne=>(h2.block k (Qg hk h1.size) hne).trans (h1.block k hk hne)⟩
theorem Db {w w1 w2:World} {row row2:Option Nat} (h1:w.grownBy w1 row) (h2:w1.grownBy w2 row2) (hr:∀ k,row2=some k→w.heap.size≤k):w.grownBy w2 row :=
 ⟨h2.os.trans h1.os,h2.tape.trans h1.tape,h2.output.trans h1.output,Qz h1.size h2.size,fun k hk hne=>(h2.block k (Qg hk h1.size) (fun e=>by have:=hr k e.symm;omega)).trans (h1.block k hk hne)⟩
theorem Qu {w0 w1 w2:World} {row:Option Nat} (h1:Below w0.heap.size w0 w1) (h2:w1.grownBy w2 row) (hr:∀ k,row=some k→w0.heap.size≤k):Below w0.heap.size w0 w2 :=
 ⟨h2.os.trans h1.os,h2.tape.trans h1.tape,h2.output.trans h1.output,Qz h1.size h2.size,fun k hk=>(h2.block k (Qg hk h1.size) (fun e=>by have:=hr k e.symm;omega)).trans (h1.block k hk)⟩
section
variable {w0 w w':World} {e:TypeId} {size:Nat} {v:Value} {n:Nat} {xs:List Value}
theorem Rw.start (w0:World) (e:TypeId) (size:Nat):Rw w0 w0 e size (.slice none 0 0) 0 []:=⟨Below.refl _ _,World.ownsRow_nil _ _ _ _⟩
theorem Rw.first (h:Below w0.heap.size w0 w):Rw w0 w e size (.slice none 0 0) 0 []:=⟨h,World.ownsRow_nil _ _ _ _⟩
theorem Rw.next (h:Rw w0 w e size v n xs) (hb:Below w.heap.size w w'):Rw w0 w' e size v n xs :=
 ⟨h.below.trans (hb.mono h.below.size),h.own.kept (Qc hb none) (by cases v.ownBlock<;>simp)⟩
theorem Rw.sl (h:Rw w0 w e size v n xs):∃ (oa:Option Addr) (cap g:Nat),v=.slice oa n cap∧Sl w oa n cap g 0 size xs∧(0<n→w0.heap.size≤g):=Zx h.own
theorem Rw.base (h:Rw w w' e size v n xs) (hb:Below w0.heap.size w0 w):Rw w0 w' e size v n xs :=
 ⟨hb.trans (h.below.mono hb.size),h.own.1,by
   rcases h.own.2 with h0 | ⟨g,cap,cur,hv,hg,rest⟩
   · exact .inl h0
   · exact .inr ⟨g,cap,cur,hv,Qz hb.size hg,rest⟩⟩
theorem Rw.row (h:Rw w0 w e size v n xs):∀ k,v.ownBlock=some k→w0.heap.size≤k:=fun k hk=>(h.own.lt k hk).1
end
theorem Wo {ops:Array Oper} {rest:List Oper} {o:Oper} {a:Act} {Q:Exit→Act→World→Prop} {w0 w:World} {t e:TypeId} {z:Value} {size bytes:Nat} (E:El t e z size bytes)
  (hgd:o.guard=none) (s x:Operand) (ho:o.op=.call { callee:=.builtin .append,args:=#[s,x],argTypes:=#[t,t] }) {v:Value} {n:Nat} {xs:List Value} (hs:a.eval s=v)
  (hR:Rw w0 w e size v n xs) (m c:Nat) (cs:Array Value) (tc:TypeId) (hx:a.eval x=.slice (some ⟨w.heap.size,0,none⟩) m c) (hl:cs.toList.length=m*size) (h1:∀ u∈cs.toList,u.oneCell'=true)
  (hm:0<m) (hbytes:(n+m)*bytes≤140737488355328) (h63:n+m≤140737488355328)
  (h:∀ g cap w',Rw w0 w' e size (.slice (some ⟨g,0,none⟩) (n+m) cap) (n+m) (xs++cs.toList)→w.grownBy w' v.ownBlock→wpList Tryz.prog ops Q rest (a.put o.dst (.slice (some ⟨g,0,none⟩) (n+m) cap)) w') :
  wpList Tryz.prog ops Q (o::rest) a (w.alloc (.cells cs tc)):=by
 obtain⟨i0,hi0,hz0,hz1,hz2⟩:=info_parts E.info
 refine wpList_append_lies _ hgd s x t ho w0.heap.size e i0 z size bytes E.under hi0 hz0 hz1 hz2 E.zs E.pos v n xs hs (hR.own.alloc _) ⟨w.heap.size,0,none⟩ m c cs.toList hx hl
  (World.news_of_block (cs:=cs) (t:=tc) (fr:=(0,0)) (heap_alloc_new w _)) h1 hm (Qz h63 (by decide)) hbytes (Qz hR.below.size (by simp)) _ rfl fun g cap w' hown hg _ _=>?_
 have hg2:w.grownBy w' v.ownBlock:=Z7 (World.grownBy_alloc w _ _) hg;exact h g cap w' ⟨Qu hR.below hg2 hR.row,hown⟩ hg2
theorem Tc:El 77 21 (.int .i32 0) 1 4:=⟨Tryz.underlying77,by kernel_rfl,rfl,by decide⟩
theorem Q7m:El 46 5 (.int .u8 0) 1 1:=⟨Tryz.underlying46,by kernel_rfl,rfl,by decide⟩
theorem Sl.front {w:World} {oa oa':Option Addr} {n cap b o:Nat} {vs:List Value} (h:Sl w oa n cap b o 1 vs) {k:Nat} (hk:k≤n) (ha:0<n-k→oa'=some ⟨b,o+k,none⟩):Sl w oa' (n-k) (cap-k) b (o+k) 1 (vs.drop k) :=
 ⟨(h.drop hk).len,(h.drop hk).le,(h.drop hk).max,fun hp=>⟨ha hp,(h.lies (by omega)).2⟩,(h.drop hk).cell⟩
theorem Q6g {w:World} {oa:Option Addr} {cap b o:Nat} {l:List UInt8} (h:Sl w oa l.length cap b o 1 (Xv l)) :
  (convert 46 9 (.slice oa l.length cap)).run Tryz.prog w=.ok (.string ⟨l.toArray⟩) w:=by
 cases l with
 | nil =>
   cases oa with
   | none=>exact run_convert_bytes_nil _ _ _ Tryz.underlying46 Tryz.underlying5 _ _ _ Tryz.underlying9
   | some a=>exact run_convert_bytes_back w _ _ _ a cap [] Tryz.underlying46 Tryz.underlying5 Tryz.underlying9 (fun j hj=>absurd hj (Nat.not_lt_zero _))
 | cons c r =>
   obtain⟨rfl,_⟩:=h.lies (by simp);refine run_convert_bytes_back w _ _ _ ⟨b,o,none⟩ cap (c::r) Tryz.underlying46 Tryz.underlying5 Tryz.underlying9 (fun j hj=>?_);rw[Addr.add_lit];exact h.cell j _ (Eb hj)
def Y5 (l:List UInt8):Prop:=∀ c∈l,14≤c.toNat∧c.toNat<128
def J7 (l:List UInt8):List Int:=l.map fun c=>(c.toNat:Int)
theorem Le (l:List UInt8) {i:Nat} (h:i<l.length):J7 (l.take (i+1))=J7 (l.take i)++[((l[i]).toNat:Int)]:=by
 unfold J7;rw[Ze h,Zp];rfl
theorem Q47 (l:List UInt8) (oa:Option Addr) (cap b o i:Nat) (w:World) (hs:Sl w oa l.length cap b o 1 (Xv l)) (hi:i<l.length) (hp:Y5 l) (hm:l.length≤1000) :
  Calls Tryz.prog 126 #[.slice oa l.length cap,.int .i64 i] w fun e w'=>e=.returned (.tuple #[.int .i32 ((l[i]).toNat:Int),.int .i64 1,.bool true])∧w'=w:=by
 obtain⟨rfl,hbl⟩:=hs.lies (by omega);have hcell:=hs.cell i _ (Eb hi);have hc:=(hp _ (List.getElem_mem hi)).2;generalize (l[i]).toNat=c at *
 have g1:decide ((c:Int)<(128:Int))=true:=by simp;omega
 clear hs hp
 go_enter Tryz.func126,Tryz.ntmps126
 go_wp2_with fail;exact bodyPost_ret (v:=.tuple #[.int .i32 c,.int .i64 1,.bool true]) (by simp[results,Tryz.results126,go_sem]) rfl ⟨rfl,rfl⟩
theorem Q40 (l:List UInt8) (oa:Option Addr) (cap b o:Nat) (w:World) (hs:Sl w oa l.length cap b o 1 (Xv l)) (hp:Y5 l) (hm:l.length≤1000) :
  Calls Tryz.prog 85 #[.slice oa l.length cap] w fun e w'=>(∃ v,e=.returned v∧Rw w w' 21 1 v l.length (Vo (J7 l))):=by
 have HS:=Q1 (Q3 hs hp);clear hs hp
 go_enter Tryz.func85,Tryz.ntmps85
 go_wp2_with fail
 go_loopg [3,4] l.length (fun q s3 s4 wr=>∃ (i:Nat) (v:Value),v=s3∧s4=.int .i64 i∧Hid (Rw w wr 21 1 v i (Vo (J7 (l.take i))))∧i≤l.length∧l.length-i≤q)
 case atStart=>exact⟨0,_,rfl,rfl,Q1 (Rw.start _ _ _),Qs _,by omega⟩
 case round =>
  obtain⟨i,v,rfl,rfl,hR,hi4,hq⟩:=hrel
  by_cases hi:i<l.length
  · have gi:decide ((i:Int)<(l.length:Int))=true:=by simpa using hi
    have gin:decide (i<l.length)=true:=by simpa using hi
    have HO:=Q1 (fun wx hb=>Q47 l oa cap b o i wx (HS.out.1.below (w':=wx) hb) hi HS.out.2 hm);have HT:=Q1 (Le l hi);generalize (l[i]).toNat=x at *;go_wp2_with fail;go_wp2_with fail
    ((with_reducible refine(HO.out _ hR.out.below).mono ?_);rintro e w' ⟨rfl,rfl⟩)
    go_wp2_with (at_builtin;refine Wo Tc rfl _ _ rfl rfl hR.out 1 1 #[.int .i32 x] _ rfl rfl (by simp[Value.oneCell']) (by omega) (by omega) (by omega) ?_;intro g2 cap2 w2 hR2 hg2;have HR2:=Q1 hR2;clear hR2 hg2)
    go_roundg (l.length-(i+1))
    case measure=>omega
    case rel=>exact⟨i+1,_,rfl,by go_num,Q1 (by have:=HR2.out;rw[HT.out];simpa[Vo] using this),hi,Q6 _⟩
  · have gi:decide ((i:Int)<(l.length:Int))=false:=by simpa using hi
    have gin:decide (i<l.length)=false:=by simpa using hi
    obtain rfl:i=l.length:=by omega
    have hR2:=hR.out;rw[List.take_length]at hR2;have HR2:=Q1 hR2;clear hR2 hR;go_wp2_with fail;go_ret;exact⟨_,rfl,HR2.out⟩
theorem Sz (l:List UInt8) (oa:Option Addr) (cap b o:Nat) (w:World) (hs:Sl w oa l.length cap b o 1 (Xv l)) (hp:Y5 l) (hm:l.length≤1000) (h3:3≤l.length) :
  Calls Tryz.prog 43 #[.slice oa l.length cap] w fun e w'=>(∃ v,e=.returned v∧Rw w w' 21 1 v l.length (Vo (J7 l))):=by
 have h0:0<l.length:=by omega
 obtain⟨rfl,hbl⟩:=hs.lies h0;have f0:=hs.cell 0 _ (Eb h0);rw[Nat.add_zero]at f0;have hc0:=(hp _ (List.getElem_mem h0)).2;have HR:=Q1 (Q40 l _ cap b o w hs hp hm);have HP:=Q1 hp;generalize (l[0]).toNat=c at *
 have g0:((c:Int)==239)=false:=by simp;omega
 have hcap:=hs.le;obtain⟨N,hN⟩:∃ N,l.length=N:=⟨_,rfl⟩;have HN:=Q1 hN;rw[hN]at HR hm h3 h0 hcap ⊢
 have g1:decide ((3:Int)≤(N:Int))=true:=by simp;omega
 clear hs hp hN
 go_enter Tryz.func43,Tryz.ntmps43
 go_upto_region 1 with fail
 go_cut [28] from 8 to 28 (fun s wx=>s=.bool false∧wx=w)
 case first =>
  go_wp2_with fail;go_meet;exact⟨rfl,rfl⟩
 obtain⟨rfl,e⟩:=hcut;subst e;go_wp2_with fail
 ((with_reducible refine HR.out.mono ?_);rintro e w' ⟨v,rfl,hRw⟩)
 obtain⟨yo,yc,yb,rfl,hsl,_⟩:=hRw.sl;have HSL:=Q1 (Q3 hsl hRw.below);clear hRw hsl HR f0;go_wp2_with fail
 go_loopg [3,4,34] N (fun q s3 s4 s34 wr=>∃ (i:Nat) (last:Int) (v:Value),v=s3∧s4=.int .i32 last∧s34=.int .i64 i∧last≠13∧Hid (Rw w' wr 21 1 v i (Vo (J7 (l.take i))))∧i≤N∧N-i≤q)
 case atStart=>exact⟨0,0,_,rfl,rfl,rfl,by decide,Q1 (Rw.start _ _ _),Qs _,by omega⟩
 case round =>
  obtain⟨i,last,v,rfl,rfl,rfl,hl13,hR,hiN,hq⟩:=hrel
  by_cases hi:i<N
  · have gi:decide ((i:Int)<(N:Int))=true:=by simpa using hi
    have gin:decide (i<N)=true:=by simpa using hi
    have hil:i<l.length:=by rw[HN.out];exact hi
    have hsl2:=HSL.out.1.below hR.out.below;obtain⟨rfl,hyb⟩:=hsl2.lies (by omega);have hcell:=hsl2.cell i _ (Dt (l:=J7 l) (by unfold J7;rw[Qj];exact hil));rw[Nat.zero_add,show (J7 l)[i]'(by unfold J7;rw[Qj];exact hil)=((l[i]).toNat:Int) by unfold J7;rw[List.getElem_map]]at hcell;have HT:=Q1 (Le l hil);have hx:=HP.out _ (List.getElem_mem hil);generalize (l[i]).toNat=x at *
    have q1:((x:Int)==13)=false:=by simp;omega
    have q2:((x:Int)==12)=false:=by simp;omega
    have q3:((x:Int)==0)=false:=by simp;omega
    have q4:((x:Int) != 10)=true:=by simp;omega
    clear hsl2;go_wp2_with (at_builtin;refine Wo Tc rfl _ _ rfl rfl hR.out 1 1 #[_] _ rfl rfl (by simp[Value.oneCell']) (by omega) (by omega) (by omega) ?_;intro g2 cap2 w2 hR2 hg2;have HR2:=Q1 hR2;clear hR2 hg2)
    go_roundg (N-(i+1))
    case measure=>omega
    case rel=>exact⟨i+1,_,_,rfl,rfl,by go_num,by omega,Q1 (by have:=HR2.out;rw[HT.out];simpa[Vo] using this),hi,Q6 _⟩
  · obtain rfl:i=N:=by omega
    have gi:decide ((i:Int)<(i:Int))=false:=by simp
    have gin:decide (i<i)=false:=by simp
    have hR2:=hR.out;rw[Zc (by rw[HN.out];exact Q6 _)]at hR2;have HR2:=Q1 hR2;clear hR2 hR hcap;go_wp2_with fail;go_ret;exact⟨_,rfl,HR2.out.base HSL.out.2⟩
end Go.Proofs.YtnanffmhbjdpaaaGreatDoor
