/- Of my texts: DtW. -/
import Derived.Test.YtnbkbenkhkinoaaGreatDoorM10
import Derived.Test.YtnbkbenkhkinoaaGreatDoorM21
import Derived.Test.YtnbkbenkhkinoaaGreatDoorM25
namespace Go.Proofs.YtnbkbenkhkinoaaGreatDoor
set_option linter.unusedVariables false
set_option linter.unusedSimpArgs false
open Go.RowKit Go.Maps
structure Er where
 id:Int
 pa:Int
 tag:List UInt8
 bx:Bx
 a:Option Addr
 m:Nat
 c:Nat
 l:List Int
def Er.cells (r:Er):List Value:=[.int .i64 r.id,.int .i64 r.pa,.string ⟨r.tag.toArray⟩,.slice r.a r.m r.c,.slice none 0 0]++bxcells r.bx
def IsK (κ:Nat→Int) (els:List Me) (R:List Er):Prop:=∀ (i:Nat) (e:Me) (r:Er),els[i]?=some e→R[i]?=some r→r.id=κ i∧r.pa=piK κ e.parent∧r.tag=e.tag∧r.bx=e.bx∧r.l=e.ks.l.map κ
structure Ak (w:World) (W:Nat) (R:List Er):Prop where
 kv:∀ (i:Nat) (r:Er),R[i]?=some r→KV w r.a r.m r.c r.l∧∀ p,r.a=some p→W≤p.block
 apart:∀ (i j:Nat) (r s:Er) (p q:Addr),R[i]?=some r→R[j]?=some s→i≠j→r.a=some p→s.a=some q→p.block≠q.block
structure Lr (w:World) (W b:Nat) (R:List Er):Prop where
 ak:Ak w W R
 row:∃ cur:Array Value,Blk w b 57 cur∧∀ (i:Nat) (r:Er) (j:Nat) (u:Value),R[i]?=some r→r.cells[j]?=some u→cur[i*11+j]?=some u
 far:∀ (i:Nat) (r:Er) (p:Addr),R[i]?=some r→r.a=some p→p.block≠b
 ge:W≤b
theorem snoc_at {α:Type} {R:List α} {r s:α} {i:Nat} (h:(R++[r])[i]?=some s):R[i]?=some s∨(i=R.length∧s=r):=by
 by_cases hi:i<R.length
 · rw[List.getElem?_append_left hi]at h;exact .inl h
 · have h2:=(List.getElem?_eq_some_iff.1 h).1;rw[List.length_append,List.length_singleton]at h2
   obtain rfl:i=R.length:=by omega
   rw[List.getElem?_append_right (Nat.le_refl _),Nat.sub_self]at h;exact .inr ⟨rfl,(Option.some.inj h).symm⟩
theorem set_at {α:Type} {R:List α} {r' s:α} {i k:Nat} (h:(R.set i r')[k]?=some s):(k=i∧s=r'∧i<R.length)∨(k≠i∧R[k]?=some s):=by
 rw[List.getElem?_set]at h;split at h
 · rename_i e
   subst e;split at h
   · exact .inl ⟨rfl,(Option.some.inj h).symm,by assumption⟩
   · cases h
 · rename_i e
   exact .inr ⟨fun e2=>e e2.symm,h⟩
theorem er_flat:∀ (R:List Er) (i:Nat) (r:Er) (j:Nat) (u:Value),R[i]?=some r→r.cells[j]?=some u→(R.flatMap Er.cells)[i*11+j]?=some u
 | [],i,r,j,u,h,_=>by simp at h
 | x::R,0,r,j,u,h,hu=>by
   obtain rfl:x=r:=by simpa using h
   rw[List.flatMap_cons,Nat.zero_mul,Nat.zero_add,List.getElem?_append_left (List.getElem?_eq_some_iff.1 hu).1];exact hu
 | x::R,i+1,r,j,u,h,hu=>by
   have hl:x.cells.length=11:=rfl;rw[List.flatMap_cons,List.getElem?_append_right (by omega),hl,show (i+1)*11+j-11=i*11+j by omega];exact er_flat R i r j u (by simpa using h) hu
section
variable {w w':World} {W b i:Nat} {R:List Er} {r:Er}
theorem Ak.old (h:Ak w W R) (hb:∀ (i:Nat) (r:Er) (p:Addr),R[i]?=some r→r.a=some p→p.block<w.heap.size→w'.heap[p.block]?=w.heap[p.block]?):Ak w' W R :=
 ⟨fun i r hr=>⟨(h.kv i r hr).1.old fun p hp hl=>hb i r p hr hp hl,(h.kv i r hr).2⟩,h.apart⟩
theorem Ak.lt (h:Ak w W R) (hr:R[i]?=some r) {p:Addr} (hp:r.a=some p):p.block<w.heap.size:=(h.kv i r hr).1.lt hp
theorem Ak.snoc (h:Ak w W R) (hk:KV w r.a r.m r.c r.l) (hf:∀ p,r.a=some p→W≤p.block) (hn:∀ (i:Nat) (s:Er) (p q:Addr),R[i]?=some s→s.a=some p→r.a=some q→p.block≠q.block):Ak w W (R++[r]):=by
 refine⟨fun i s hs=>?_,fun i j s t p q hs ht hne hp hq=>?_⟩
 · rcases snoc_at hs with hs|⟨-,rfl⟩
   · exact h.kv i s hs
   · exact⟨hk,hf⟩
 · rcases snoc_at hs with hs|⟨hi,rfl⟩
   · rcases snoc_at ht with ht|⟨hj,rfl⟩
     · exact h.apart i j s t p q hs ht hne hp hq
     · exact hn i s p q (by assumption) hp hq
   · rcases snoc_at ht with ht|⟨hj,rfl⟩
     · exact(hn j t q p ht hq hp).symm
     · omega
theorem Lr.below (h:Lr w W b R) (hb:Below w.heap.size w w'):Lr w' W b R:=by
 obtain⟨cur,h1,h2⟩:=h.row;exact⟨h.ak.old fun i r p _ _ hl=>hb.block _ hl,⟨cur,h1.below hb h1.lt,h2⟩,h.far,h.ge⟩
theorem Lr.lt (h:Lr w W b R):b<w.heap.size:=by
 obtain⟨cur,h1,-⟩:=h.row;exact h1.lt
theorem Lr.cell (h:Lr w W b R) (hr:R[i]?=some r) (j:Nat) {u:Value} (hu:r.cells[j]?=some u):w.cell? ⟨b,i*11+j,none⟩=some u:=by
 obtain⟨cur,h1,h2⟩:=h.row;rw[h1.cell];exact h2 i r j u hr hu
theorem Lr.el11 (h:Lr w W b R) {id pa:Int} {tg:List UInt8} {bt:Int} {bn:List UInt8} {wn wd hn hd:Int} {a:Option Addr} {m c:Nat} {l:List Int} (hr:R[i]?=some ⟨id,pa,tg,⟨bt,bn,(wn,wd),(hn,hd)⟩,a,m,c,l⟩) :
  w.cell? ⟨b,i*11,none⟩=some (.int .i64 id)∧w.cell? ⟨b,i*11+1,none⟩=some (.int .i64 pa)∧w.cell? ⟨b,i*11+2,none⟩=some (.string ⟨tg.toArray⟩)∧w.cell? ⟨b,i*11+3,none⟩=some (.slice a m c)∧w.cell? ⟨b,i*11+4,none⟩=some (.slice none 0 0)∧w.cell? ⟨b,i*11+5,none⟩=some (.int .i64 bt)∧w.cell? ⟨b,i*11+6,none⟩=some (.string ⟨bn.toArray⟩)∧w.cell? ⟨b,i*11+7,none⟩=some (.int .i64 wn)∧w.cell? ⟨b,i*11+8,none⟩=some (.int .i64 wd)∧w.cell? ⟨b,i*11+9,none⟩=some (.int .i64 hn)∧w.cell? ⟨b,i*11+10,none⟩=some (.int .i64 hd) :=
 ⟨h.cell hr 0 rfl,h.cell hr 1 rfl,h.cell hr 2 rfl,h.cell hr 3 rfl,h.cell hr 4 rfl,h.cell hr 5 rfl,h.cell hr 6 rfl,h.cell hr 7 rfl,h.cell hr 8 rfl,h.cell hr 9 rfl,h.cell hr 10 rfl⟩
theorem Lr.put (h:Lr w W b R) (hr:R[i]?=some r) {j:Nat} {v:Value} (hj:j<11) (r':Er) (hc:r'.cells=r.cells.set j v) (hk:r'.a=r.a∧r'.m=r.m∧r'.c=r.c∧r'.l=r.l):Lr (w.setCell ⟨b,i*11+j,none⟩ v) W b (R.set i r'):=by
 obtain⟨cur,h1,h2⟩:=h.row;obtain⟨k1,k2,k3,k4⟩:=hk;have hf:=h.far
 have hold:∀ (i:Nat) (r:Er) (p:Addr),R[i]?=some r→r.a=some p→(w.setCell ⟨b,i*11+j,none⟩ v).heap[p.block]?=w.heap[p.block]?:=fun i r p hr hp=>Below.heap_setCell w _ _ _ (hf i r p hr hp)
 have hold2:∀ (k:Nat) (s:Er) (p:Addr),R[k]?=some s→s.a=some p→(w.setCell ⟨b,i*11+j,none⟩ v).heap[p.block]?=w.heap[p.block]?:=fun k s p hs hp=>Below.heap_setCell w _ _ _ (hf k s p hs hp)
 have hA:Ak (w.setCell ⟨b,i*11+j,none⟩ v) W R:=h.ak.old fun k s p hs hp _=>hold2 k s p hs hp
 have hat:∀ (k:Nat) (s:Er),(R.set i r')[k]?=some s→∃ t,R[k]?=some t∧s.a=t.a∧s.m=t.m∧s.c=t.c∧s.l=t.l:=fun k s hs=>by
  rcases set_at hs with ⟨rfl,rfl,-⟩ | ⟨-,hs⟩
  · exact⟨r,hr,k1,k2,k3,k4⟩
  · exact⟨s,hs,rfl,rfl,rfl,rfl⟩
 refine⟨⟨fun k s hs=>?_,fun k l s t p q hs ht hne hp hq=>?_⟩,⟨_,h1.put _ v,fun k s o u hs hu=>?_⟩,fun k s p hs hp=>?_,h.ge⟩
 · obtain⟨t,ht,e1,e2,e3,e4⟩:=hat k s hs;rw[e1,e2,e3,e4];exact hA.kv k t ht
 · obtain⟨s',hs',e1,-⟩:=hat k s hs;obtain⟨t',ht',f1,-⟩:=hat l t ht;exact hA.apart k l s' t' p q hs' ht' hne (e1 ▸ hp) (f1 ▸ hq)
 · have ho:o<11:=(List.getElem?_eq_some_iff.1 hu).1;rw[Array.getElem?_setIfInBounds]
   rcases set_at hs with ⟨rfl,rfl,-⟩ | ⟨hne,hs⟩
   · rw[hc,List.getElem?_set]at hu
     by_cases e:j=o
     · subst e;have hlj:j<r.cells.length:=hj;rw[if_pos rfl,if_pos hlj]at hu
       have hb:k*11+j<cur.size:=by
        have:=h2 k r j _ hr (List.getElem?_eq_getElem hlj);exact(Array.getElem?_eq_some_iff.1 this).1
       rw[if_pos rfl,if_pos hb];exact hu
     · rw[if_neg e]at hu;rw[if_neg (by omega)];exact h2 k r o u hr hu
   · rw[if_neg (by omega)];exact h2 k s o u hs hu
 · obtain⟨t,ht,e1,-⟩:=hat k s hs;exact hf k t p ht (e1 ▸ hp)
theorem Lr.kid (h:Lr w W b R) (hr:R[i]?=some r) {kb:Nat} (ha:r.a=some ⟨kb,0,none⟩) {j:Nat} (x:Int):Lr (w.setCell ⟨kb,j,none⟩ (.int .i64 x)) W b (R.set i { r with l:=r.l.set j x }):=by
 obtain⟨cur,h1,h2⟩:=h.row;have hkb:=h.far i r _ hr ha
 have hat:∀ (k:Nat) (s:Er),(R.set i { r with l:=r.l.set j x })[k]?=some s→∃ t,R[k]?=some t∧s.a=t.a∧s.m=t.m∧s.c=t.c∧s.cells=t.cells:=fun k s hs=>by
  rcases set_at hs with ⟨rfl,rfl,-⟩ | ⟨-,hs⟩
  · exact⟨r,hr,rfl,rfl,rfl,rfl⟩
  · exact⟨s,hs,rfl,rfl,rfl,rfl⟩
 refine⟨⟨fun k s hs=>?_,fun k l s t p q hs ht hne hp hq=>?_⟩,⟨cur,h1.far (p:=⟨kb,j,none⟩) (fun e=>hkb e.symm) _,fun k s o u hs hu=>?_⟩,fun k s p hs hp=>?_,h.ge⟩
 · rcases set_at hs with ⟨rfl,rfl,-⟩ | ⟨hne,hs⟩
   · refine⟨?_,(h.ak.kv k r hr).2⟩
     rcases(h.ak.kv k r hr).1 with ⟨e,-⟩ | ⟨b2,cur2,e,n1,n2,n3,n4,n5⟩
     · rw[ha]at e
       cases e
     · have e2:=e;rw[ha]at e2
       obtain rfl:kb=b2:=by simpa using e2
       refine .inr ⟨kb,_,ha,n1,n2,by rw[List.length_set];exact n3,n4.put j _,?_⟩;rw[Array.toList_setIfInBounds,List.take_set,n5,List.map_set]
   · refine⟨(h.ak.kv k s hs).1.old fun p hp _=>Below.heap_setCell w _ _ _ ?_,(h.ak.kv k s hs).2⟩;exact h.ak.apart k i s r p ⟨kb,0,none⟩ hs hr hne hp ha
 · obtain⟨s',hs',e1,-⟩:=hat k s hs;obtain⟨t',ht',f1,-⟩:=hat l t ht;exact h.ak.apart k l s' t' p q hs' ht' hne (e1 ▸ hp) (f1 ▸ hq)
 · obtain⟨t,ht,-,-,-,e⟩:=hat k s hs;exact h2 k t o u ht (e ▸ hu)
 · obtain⟨t,ht,e1,-⟩:=hat k s hs;exact h.far k t p ht (e1 ▸ hp)
end
theorem lr_own {w:World} {base n:Nat} {v:Value} {W:Nat} {R:List Er} (h:w.ownsRow base 57 11 v n (R.flatMap Er.cells)) (hA:Ak w W R) (hF:∀ (i:Nat) (r:Er) (p:Addr),R[i]?=some r→r.a=some p→v.ownBlock≠some p.block) (h0:0<n) (hW:W≤base) :
  ∃ (b cap:Nat),v=.slice (some ⟨b,0,none⟩) n cap∧n≤cap∧cap≤maxLen∧Lr w W b R:=by
 rcases h.2 with ⟨rfl,h1⟩ | ⟨g,cap,cur,rfl,hg,hc,h1,h2,h3,h4⟩
 · omega
 · refine⟨g,cap,rfl,h1,h2,hA,⟨cur,hc,fun i r j u hr hu=>?_⟩,fun i r p hr hp e=>hF i r p hr hp (congrArg some e.symm),by omega⟩;have h5:=er_flat R i r j u hr hu;rw[← h4,List.getElem?_take]at h5;split at h5
   · simpa using h5
   · cases h5
theorem elEs:El 42 57 (.agg #[.int .i64 0,.int .i64 0,.string ⟨#[]⟩,.slice none 0 0,.slice none 0 0,.int .i64 0,.string ⟨#[]⟩,.int .i64 0,.int .i64 0,.int .i64 0,.int .i64 0]) 11 136:=⟨Tryz.underlying42,by kernel_rfl,rfl,by decide⟩
theorem own_next {w w':World} {base:Nat} {e:TypeId} {size:Nat} {v:Value} {n:Nat} {xs:List Value} (h:w.ownsRow base e size v n xs) (hb:Below w.heap.size w w'):w'.ownsRow base e size v n xs:=h.kept (grownBy_of_below hb none) (by cases v.ownBlock<;>simp)
theorem ak_next {W n base:Nat} {R:List Er} {xs:List Value} {wr wb w3:World} {v:Value} {r:Er} {gg:Nat} {o:Obj} {t:TypeId} (hA:Ak wr W R) (hF:∀ (i:Nat) (s:Er) (p:Addr),R[i]?=some s→s.a=some p→v.ownBlock≠some p.block) (hown:wr.ownsRow base t 11 v n xs)
  (hbb:Below wr.heap.size wr wb) (hk:KV wb r.a r.m r.c r.l) (hf:∀ p,r.a=some p→wr.heap.size≤p.block) (hW:W≤wr.heap.size) (hg:(wb.alloc o).grownBy w3 v.ownBlock) (hat:v.ownBlock=some gg∨gg=(wb.alloc o).heap.size) :
  Ak w3 W (R++[r])∧∀ (i:Nat) (s:Er) (p:Addr),(R++[r])[i]?=some s→s.a=some p→some gg≠some p.block:=by
 have hsz:(wb.alloc o).heap.size=wb.heap.size+1:=by simp
 have hv:∀ k,v.ownBlock=some k→k<wr.heap.size:=fun k e=>(hown.lt k e).2
 have hA1:Ak wb W (R++[r]):=(hA.old fun i s p _ _ hl=>hbb.block _ hl).snoc hk (fun p hp=>Nat.le_trans hW (hf p hp)) fun i s p q hs hp hq=>by
  have:=hA.lt hs hp;have:=hf q hq;omega
 have hno:∀ (i:Nat) (s:Er) (p:Addr),(R++[r])[i]?=some s→s.a=some p→v.ownBlock≠some p.block:=fun i s p hs hp=>by
  rcases snoc_at hs with hs|⟨-,rfl⟩
  · exact hF i s p hs hp
  · intro e;have:=hv _ e;have:=hf p hp;omega
 refine⟨(hA1.old (w':=wb.alloc o) fun i s p _ _ hl=>(below_box wb o).block _ hl).old fun i s p hs hp hl=>hg.block _ hl fun e=>hno i s p hs hp e.symm,fun i s p hs hp e=>?_⟩;have hlt:=hA1.lt hs hp
 rcases hat with hat|hat
 · exact hno i s p hs hp (hat.trans e)
 · have:=Option.some.inj e;omega
set_option maxRecDepth 20000 in
set_option maxHeartbeats 8000000 in
theorem elems_any {w:World} {tB mb B:Nat} {els:List Me} (h:Dm w tB mb B els) :
  Calls Tryz.prog 7 #[.pointer (some ⟨tB,0,none⟩)] w fun x w'=>(∃ (b cap:Nat) (R:List Er),x=.returned (.slice (some ⟨b,0,none⟩) els.length cap)∧els.length≤cap∧cap≤maxLen∧Lr w' w.heap.size b R∧R.length=els.length∧IsK (fun i=>(i:Int)) els R)∧Below w.heap.size w w':=by
 have hsm:=h.small;have hpos:=h.pos;obtain⟨D,hD,hm⟩:=h.map;obtain⟨k1,kb⟩:=box_new' w 75 #[.map (some mb)];have hsE:=sortedE_any k1 (hm.kept (grownBy_of_below kb none) (fun e=>by cases e)) hD (by rw[List.length_map];omega);rw[List.length_map]at hsE;have HSE:=Lib.hid hsE;have HD:=Lib.hid h;have HKB:=Lib.hid kb;obtain⟨W,hW⟩:∃ W,W=w.heap.size:=⟨_,rfl⟩;have HWW:=Lib.hid hW;obtain⟨N,hN⟩:∃ N,els.length=N:=⟨_,rfl⟩;rw[hN]at HSE hsm hpos ⊢;have HN:=Lib.hid hN;have t0:w.cell? ⟨tB,0,none⟩=some (.map (some mb)):=(h.tree).cell 0;have ft0:=(h.tree).frozen 0;have t1:w.cell? ⟨tB,1,none⟩=some (.int .i64 0):=(h.tree).cell 1;have ft1:=(h.tree).frozen 1;have t2:w.cell? ⟨tB,2,none⟩=some (.int .i64 (els.length:Int)):=(h.tree).cell 2;have ft2:=(h.tree).frozen 2;have lt:=(h.tree).lt;clear hsE hD hm k1 kb h hN hW
 go_enter Tryz.func7,Tryz.ntmps7
 go_wp2_with fail
 ((with_reducible refine(keysE_any _ _).mono ?_);rintro e w' ⟨rfl,rfl⟩)
 go_wp2_with fail
 ((with_reducible refine HSE.out.mono ?_);rintro e w1 ⟨v,rfl,hrow,hb1⟩)
 obtain⟨oa,cap,g,rfl,hsl,-⟩:=sl_of_own hrow;have hlie:=(hsl.lies hpos).1;subst hlie;have HSL:=Lib.hid hsl;have HB1:=bfH' HKB hb1;clear t0 t1 t2 ft0 ft1 ft2 lt hrow hb1 HSE HKB;go_wp2_with fail
 go_loopg [3,13] N (fun q s3 s13 wr=>∃ (i:Nat) (R:List Er),s13=.int .i64 (i:Int)∧Hid (Below w1.heap.size w1 wr)∧Hid (wr.ownsRow w1.heap.size 57 11 s3 i (R.flatMap Er.cells))∧Hid (Ak wr W R∧(∀ (i:Nat) (r:Er) (p:Addr),R[i]?=some r→r.a=some p→s3.ownBlock≠some p.block)∧R.length=i∧IsK (fun i=>(i:Int)) els R)∧i≤N∧N-i≤q)
 case atStart=>exact⟨0,[],rfl,Lib.hid (Below.refl _ _),Lib.hid (World.ownsRow_nil _ _ _ _),Lib.hid ⟨⟨fun i r hr=>by simp at hr,fun i j r s p q hr=>by simp at hr⟩,fun i r p hr=>by simp at hr,rfl,fun i e r he hr=>by simp at hr⟩,Nat.zero_le _,by omega⟩
 case round =>
  obtain⟨i,R,rfl,HB,HP,HE,hiN,hq⟩:=hrel
  by_cases hi:i<N
  · have gi:decide ((i:Int)<(N:Int))=true:=by simpa using hi
    have gin:decide (i<N)=true:=by simpa using hi
    have hil:i<els.length:=by rw[HN.out];exact hi
    obtain⟨⟨pa,tg,⟨bt,bn,⟨wn,wd⟩,⟨hn,hd⟩⟩,ge,⟨kn,kc,ka,kb,kl⟩⟩,he⟩:∃ e,els[i]?=some e:=⟨_,List.getElem?_eq_getElem hil⟩;have HDr:=Lib.hid (HD.out.below (bfH' HB1 HB.out).out);obtain⟨hE,hK,-,hkn⟩:=HDr.out.el i _ he;have HCP:=Lib.hid (copiedE_any (i:Int) pa ⟨tg.toArray⟩ ka kn kc bt ⟨bn.toArray⟩ wn wd hn hd _ wr (hK.kv (by have h1:kn<els.length:=hkn;have:=HDr.out.small;show kn≤1000;omega)));have hLK:=HDr.out.look he;simp only at hLK
    have hpk:piK (fun i=>(i:Int)) pa=pa:=by
     unfold piK
     rcases HDr.out.par i _ he with ⟨-,h1⟩ | ⟨-,h1,-⟩
     · have h1:pa=-1:=h1;rw[if_pos (by omega)]
     · have h1:0≤pa:=h1;rw[if_neg (by omega)];simp only;omega
    have HE0:Blk wr ge 57 #[.int .i64 (i:Int),.int .i64 pa,.string ⟨tg.toArray⟩,.slice ka kn kc,.slice none 0 0,.int .i64 bt,.string ⟨bn.toArray⟩,.int .i64 wn,.int .i64 wd,.int .i64 hn,.int .i64 hd]:=hE
    have hki:wr.cell? ⟨g,i,none⟩=some (.int .i64 (i:Int)):=by
     have:=(HSL.out.below HB.out).cell i _ (by rw[List.getElem?_map,upto_at hi];rfl);rwa [Nat.zero_add]at this
    have hgl:g<wr.heap.size:=((HSL.out.below HB.out).lies (by omega)).2;obtain⟨c0,fc0,c1,fc1,c2,fc2,c3,fc3,c4,fc4,c5,fc5,c6,fc6,c7,fc7,c8,fc8,c9,fc9,c10,fc10,lc⟩:=HE0.el11;have t0:=HDr.out.tree.cell 0;have lt:=HDr.out.tree.lt;have HX:=Lib.hid he;have HPK:=Lib.hid hpk;clear hE hK hkn HE0 he HDr hil hpk;go_wp2_with fail
    ((with_reducible refine HCP.out.mono ?_);rintro e wb ⟨⟨a1,n1,c1',rfl,hkv,-,hfar⟩,hbb⟩)
    have HB2:=Lib.hid (HB.out.trans (hbb.mono HB.out.size));have HP2:=Lib.hid ((own_next HP.out hbb).alloc (.cells #[.int .i64 (i:Int),.int .i64 pa,.string ⟨tg.toArray⟩,.slice a1 n1 c1',.slice none 0 0,.int .i64 bt,.string ⟨bn.toArray⟩,.int .i64 wn,.int .i64 wd,.int .i64 hn,.int .i64 hd] 57))
    have hWr:W≤wr.heap.size:=by
     have h1:=(bfH' HB1 HB.out).out.size;have h2:=HWW.out;omega
    have HES:=Lib.hid (fun gg w3 hg hat=>ak_next (r:=⟨(i:Int),pa,tg,⟨bt,bn,(wn,wd),(hn,hd)⟩,a1,n1,c1',natI kl⟩) (gg:=gg) (w3:=w3) (o:=.cells #[.int .i64 (i:Int),.int .i64 pa,.string ⟨tg.toArray⟩,.slice a1 n1 c1',.slice none 0 0,.int .i64 bt,.string ⟨bn.toArray⟩,.int .i64 wn,.int .i64 wd,.int .i64 hn,.int .i64 hd] 57) HE.out.1 HE.out.2.1 HP.out hbb hkv hfar hWr hg hat);have HRL:=Lib.hid HE.out.2.2;have hs2:=HB2.out.size;clear c0 fc0 c1 fc1 c2 fc2 c3 fc3 c4 fc4 c5 fc5 c6 fc6 c7 fc7 c8 fc8 c9 fc9 c10 fc10 lc t0 lt hki hgl hLK HCP hbb hkv hfar hWr;go_wp2_with (at_builtin;refine wpList_add elEs rfl _ _ rfl rfl HP2.out (by simp;omega) (Blk.new wb _ _) 1 rfl rfl (by simp[Value.oneCell']) (by omega) (by omega) ?_;intro gg cap3 w3 ho3 hg3 hat hvb;have H3:=Lib.hid (And.intro ho3 (And.intro (HES.out gg w3 hg3 hat) (below_far (HB2.out.alloc hs2 _) hg3 fun k hk=>(hvb k hk).1)));clear ho3 hg3 hat hvb)
    go_roundg (N-(i+1))
    case measure=>omega
    case rel =>
     refine⟨i+1,R++[⟨(i:Int),pa,tg,⟨bt,bn,(wn,wd),(hn,hd)⟩,a1,n1,c1',natI kl⟩],by go_num,Lib.hid H3.out.2.2,Lib.hid ?_,Lib.hid ⟨H3.out.2.1.1,H3.out.2.1.2,by rw[List.length_append,HRL.out.1];rfl,fun k e s he hs=>?_⟩,hi,Nat.le_refl _⟩
     · rw[List.flatMap_append,show List.flatMap Er.cells [(⟨(i:Int),pa,tg,⟨bt,bn,(wn,wd),(hn,hd)⟩,a1,n1,c1',natI kl⟩:Er)]=Er.cells ⟨(i:Int),pa,tg,⟨bt,bn,(wn,wd),(hn,hd)⟩,a1,n1,c1',natI kl⟩ by simp];exact H3.out.1
     · rcases snoc_at hs with hs|⟨hk,rfl⟩
       · exact HRL.out.2 k e s he hs
       · rw[hk,HRL.out.1,HX.out]at he;obtain rfl:=Option.some.inj he;rw[hk,HRL.out.1];exact⟨rfl,HPK.out.symm,rfl,rfl,rfl⟩
  · obtain rfl:i=N:=by omega
    have gi:decide ((i:Int)<(i:Int))=false:=by simp
    have gin:decide (i<i)=false:=by simp
    obtain⟨b2,cap2,rfl,hc1,hc2,hlr⟩:=lr_own HP.out HE.out.1 HE.out.2.1 (by omega) (by have:=HB1.out.size;have:=HWW.out;omega);have HR:=Lib.hid hlr;rw[HWW.out]at HR;have HC:=Lib.hid (And.intro hc1 hc2);clear hlr hc1 hc2;go_wp2_with fail;go_ret;exact⟨⟨b2,cap2,R,rfl,HC.out.1,HC.out.2,HR.out,HE.out.2.2.1,HE.out.2.2.2⟩,(bfH' HB1 HB.out).out⟩
end Go.Proofs.YtnbkbenkhkinoaaGreatDoor
