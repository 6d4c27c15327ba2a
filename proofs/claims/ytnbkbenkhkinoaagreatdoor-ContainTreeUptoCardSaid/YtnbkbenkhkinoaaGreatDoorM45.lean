/- Of my texts: DtN. -/
import Derived.Test.YtnbkbenkhkinoaaGreatDoorM25
import Derived.Test.YtnbkbenkhkinoaaGreatDoorM36
import Derived.Test.YtnbkbenkhkinoaaGreatDoorM38
import Derived.Test.YtnbkbenkhkinoaaGreatDoorM44
namespace Go.Proofs.YtnbkbenkhkinoaaGreatDoor
set_option linter.unusedVariables false
set_option linter.unusedSimpArgs false
open Go.RowKit Go.Maps
def k0 (i:Nat):Int:=(i:Int)
def k1 (i:Nat):Int:=3*(i:Int)+5
def isE (κ:Nat→Int) (i:Nat) (e:Me) (r:Er):Prop:=r.id=κ i∧r.pa=piK κ e.parent∧r.tag=e.tag∧r.bx=e.bx∧r.l=e.ks.l.map κ
def Half (els:List Me) (R:List Er) (i:Nat):Prop:=∀ (k:Nat) (e:Me) (r:Er),els[k]?=some e→R[k]?=some r→(k<i→isE k1 k e r)∧(i≤k→isE k0 k e r)
theorem Half.next {els:List Me} {R:List Er} {i:Nat} (h:Half els R i) {e:Me} (he:els[i]?=some e) {r':Er} (hr:isE k1 i e r'):Half els (R.set i r') (i+1):=fun k f s hf hs=>by
 rcases set_at hs with ⟨rfl,rfl,-⟩ | ⟨hne,hs⟩
 · rw[he]at hf;obtain rfl:=Option.some.inj hf;exact⟨fun _=>hr,fun hk=>absurd hk (by omega)⟩
 · obtain⟨h1,h2⟩:=h k f s hf hs;exact⟨fun hk=>h1 (by omega),fun hk=>h2 (by omega)⟩
def mixL (kl:List Nat) (j:Nat):List Int:=(kl.take j).map k1++(kl.drop j).map k0
theorem mixL_at {kl:List Nat} {j k:Nat} (h:kl[j]?=some k):(mixL kl j)[j]?=some (k0 k):=by
 have hj:=(List.getElem?_eq_some_iff.1 h).1
 have hl:((kl.take j).map k1).length=j:=by rw[List.length_map,List.length_take];omega
 unfold mixL;rw[List.getElem?_append_right (by omega),hl,Nat.sub_self,List.getElem?_map,List.getElem?_drop,Nat.add_zero,h];rfl
theorem mixL_next {kl:List Nat} {j k:Nat} (h:kl[j]?=some k):(mixL kl j).set j (k1 k)=mixL kl (j+1):=by
 have hj:=(List.getElem?_eq_some_iff.1 h).1
 have hl:((kl.take j).map k1).length=j:=by rw[List.length_map,List.length_take];omega
 have hd:kl.drop j=k::kl.drop (j+1):=by
  rw[List.drop_eq_getElem_cons hj]
  congr 1
  exact(List.getElem?_eq_some_iff.1 h).2
 unfold mixL;rw[hd,List.take_add_one,h,List.set_append_right _ _ (by omega),hl,Nat.sub_self];simp
theorem abF_lt {els:List Me} {R:Int} {nm:List UInt8}:∀ (f:Nat) (p k:Int),abF els R nm f p=some k→0≤k∧k<(els.length:Int)
 | 0,_,_,h=>by cases h
 | f+1,p,k,h=>by
   unfold abF at h;split at h
   · cases h
   · rename_i hp
     split at h
     · rename_i x hx
       have hl:=(List.getElem?_eq_some_iff.1 hx).1;split at h
       · obtain rfl:=Option.some.inj h;omega
       · exact abF_lt f _ k h
     · cases h
theorem find_lt {els:List Me} {R:Int} {nm:List UInt8} {i:Nat} {e:Me} (he:els[i]?=some e) {k:Int} (h:findF els R nm (i:Int)=some k):0≤k∧k<(els.length:Int):=by
 rw[findF_some he]at h;exact abF_lt _ _ _ h
theorem nameB_le {l:List UInt8} (h:nameB l=true):l.length≤9223372036854775807:=by
 by_cases hl:l.length≤64
 · omega
 · rw[nameB_size (.inr (by omega))]at h
   cases h
theorem Lr.frozen {w:World} {W b:Nat} {R:List Er} (h:Lr w W b R) (k:Nat):w.frozen? ⟨b,k,none⟩=false:=by
 obtain⟨cur,h1,-⟩:=h.row;exact h1.frozen k
theorem mixL_end {kl:List Nat} {n:Nat} (h:kl.length=n):mixL kl n=kl.map k1:=by
 unfold mixL;rw[List.take_of_length_le (by omega),List.drop_of_length_le (by omega)];simp
structure Two (wz:World) (tB tC gA N:Nat) (A:Array Value):Prop where
 find:∀ i:Nat,i<N→∃ (fk gk:Int) (fb:Bool),(∀ wx,Below wz.heap.size wz wx→Calls Tryz.prog 10 #[.pointer (some ⟨tB,0,none⟩),.int .i64 (i:Int),.agg A] wx fun x w'=>x=.returned (.tuple #[.int .i64 fk,.bool fb])∧Below wx.heap.size wx w') ∧
  (∀ wx,Below wz.heap.size wz wx→Calls Tryz.prog 10 #[.pointer (some ⟨tC,0,none⟩),.int .i64 (3*(i:Int)+5),.agg A] wx fun x w'=>x=.returned (.tuple #[.int .i64 gk,.bool fb])∧Below wx.heap.size wx w')∧(fb=true→gk=3*fk+5∧0≤fk∧fk≤41)
 a:Blk wz gA 37 A
theorem two_mk {wz:World} {tB mb tC mc gA:Nat} {els ms:List Me} {nx1 nx2:Int} {nm:List UInt8} {A:Array Value} {hc:Nat} {e:Cd} (hD:Vw k0 wz tB mb 0 nx1 els) (hC:Vw k1 wz tC mc (k1 0) nx2 ms) (hl:Like ms els) (hA:Blk wz gA 37 A) (hv:askV nm e=.agg A)
  (hx:CdIn wz hc e) (hbk:(leavesC hc e).length≤1048576):Two wz tB tC gA els.length A:=by
 refine⟨fun i hi=>?_,hA⟩;obtain⟨f,hf⟩:∃ f,els[i]?=some f:=⟨_,List.getElem?_eq_getElem hi⟩;have hsm:=hD.small
 have h1:=fun wx (hz:Below wz.heap.size wz wx)=>vfind (hD.below hz) i hi nm hc e (hx.below hc hz) hbk
 have h2:=fun wx (hz:Below wz.heap.size wz wx)=>vfind (hC.below hz) i (by rw[hl.len];exact hi) nm hc e (hx.below hc hz) hbk
 rw[hv]at h1 h2;rw[Like.findF hl]at h2
 cases hF:findF els (foldN 0 ((leavesN hc e).map keyL)) nm (i:Int) with
 | none =>
   rw[hF]at h1 h2;exact⟨0,0,false,h1,h2,fun h=>by cases h⟩
 | some k =>
   rw[hF]at h1 h2;have hk:=find_lt hf hF;exact⟨k0 k.toNat,k1 k.toNat,true,h1,h2,fun _=>by unfold k0 k1;omega⟩
set_option maxRecDepth 20000 in
set_option maxHeartbeats 16000000 in
theorem law_containTree (uo:Option Addr) (uc ub uf:Nat) (U:List Int) (bo:Option Addr) (bc bb bf:Nat) (L:List Bx) (nm:List UInt8) (hc:Nat) (e:Cd) (w:World) (hU:Ints w uo U.length uc ub uf U) (hL:BxIn w bo bc bb bf L)
  (hx:CdIn w hc e) (hK:Kd w) (hbk:(leavesC hc e).length≤1048576) :
  Calls Tryz.prog 4 #[.agg #[.slice uo U.length uc,.slice bo L.length bc],askV nm e] w fun x w'=>x=.returned (.bool true)∧Below w.heap.size w w':=by
 have haw:=fun wx (hb:Below w.heap.size w wx)=>awake19_any wx (hK.below hb)
 have hro:=fun wx (hb:Below w.heap.size w wx)=>rooms_any uo uc ub uf U bo bc bb bf L wx (hU.below hb) (hL.below hb)
 have htw:=fun(wz:World) (hb:Below w.heap.size w wz) tB mb els tC mc nx1 nx2 ms gA A (hD:Vw k0 wz tB mb 0 nx1 els) (hC:Vw k1 wz tC mc (k1 0) nx2 ms) (hl:Like ms els) (ha:Blk wz gA 37 A) (hA:askV nm e=.agg A) =>
  two_mk hD hC hl ha hA (hx.below hc hb) hbk
 clear hx hbk hU hL hK;obtain⟨c,oa,b,o,cap,kids,⟨lk,lt,nmc,op,⟨k',n,d,u,oa',b',o',cap',kids'⟩,wd,vl,an⟩⟩:=e;simp only[askV_mk]at htw ⊢;obtain⟨K,hK⟩:∃ K,kids.length=K:=⟨_,rfl⟩;obtain⟨K',hK'⟩:∃ K,kids'.length=K:=⟨_,rfl⟩;obtain⟨ul,hul⟩:∃ K,U.length=K:=⟨_,rfl⟩;obtain⟨ll,hll⟩:∃ K,L.length=K:=⟨_,rfl⟩;simp only[hK,hK',hul,hll]at htw hro ⊢;obtain⟨hbx,hb1⟩:=box_new' w 25 #[.slice uo ul uc,.slice bo ll bc];obtain⟨hbx2,hb2⟩:=box_new' (w.alloc (.cells #[.slice uo ul uc,.slice bo ll bc] 25)) 37 #[.string ⟨nm.toArray⟩,.int .i64 c,.slice oa K cap,.int .i64 lk,.int .i64 lt,.string nmc,.int .i64 op,.int .i64 k',.int .i64 n,.int .i64 d,.int .i64 u,.slice oa' K' cap',.string wd,.string vl,.bool an];have hr:=hbx.below hb2 hbx.lt
 have hsz:(w.alloc (.cells #[.slice uo ul uc,.slice bo ll bc] 25)).heap.size=w.heap.size+1:=by simp
 rw[hsz]at hbx2;clear hsz;obtain⟨g,hg⟩:∃ g,w.heap.size=g:=⟨_,rfl⟩;rw[hg]at hr hbx2;have HTW:=Lib.hid htw;have HAW:=Lib.hid haw;have HRO:=Lib.hid hro;have HB1:=bfH' (Lib.hid hb1) hb2;have HR:=Lib.hid hr;have HA:=Lib.hid hbx2;clear htw haw hro hb1 hb2 hK hK' hul hll hbx hbx2 hr
 go_enter Tryz.func4,Tryz.ntmps4
 go_upto_region 1 with fail
 try simp only[hg]
 have HG:=Lib.hid hg;clear hg;generalize World.alloc _ _=wa at *;have c0:wa.cell? ⟨g,0,none⟩=some (.slice uo ul uc):=HR.out.cell 0;have c1:wa.cell? ⟨g,1,none⟩=some (.slice bo ll bc):=HR.out.cell 1;have lx:=HR.out.lt;go_wp2_with fail
 ((with_reducible refine(HRO.out _ HB1.out).mono ?_);rintro e wb ⟨⟨tB,mb,els,rfl,hD⟩,hbb⟩)
 have HBb:=bfH' HB1 hbb;have HDb:=Lib.hid hD;have HAb:=Lib.hid (HA.out.below hbb HA.out.lt);clear c0 c1 lx hD hbb HB1 HA HR HRO;have HEL:=Lib.hid (elems_any HDb.out);go_wp2_with fail
 ((with_reducible refine HEL.out.mono ?_);rintro e wc ⟨⟨eb,ec,R,rfl,hc1,hc2,hlr,hrl,hik⟩,hbc⟩)
 have HBc:=Lib.hid hbc;have HL:=Lib.hid (And.intro hlr (And.intro hrl hik));have HC:=Lib.hid (And.intro hc1 hc2);have HGd:=Lib.hid HDb.out.gr.good;have hsm:=HDb.out.small;obtain⟨W,hW⟩:∃ W,wb.heap.size=W:=⟨_,rfl⟩;obtain⟨N,hN⟩:∃ N,els.length=N:=⟨_,rfl⟩;rw[hW]at HL HBc;rw[hN]at hsm hc1;simp only[hN];have HN:=Lib.hid hN;have HW:=Lib.hid hW;clear HEL hbc hlr hrl hik hc2 hN hW
 go_upto_block 0 with fail
 go_cut [] (fun wx=>∃ R2:List Er,Hid (Below W wb wx)∧Hid (Lr wx W eb R2∧R2.length=N∧IsK k1 els R2))
 case first =>
  go_wp2_with fail
  go_loopg [26] N (fun q s26 wr=>∃ (i:Nat) (R2:List Er),s26=.int .i64 (i:Int)∧Hid (Below W wb wr)∧Hid (Lr wr W eb R2∧R2.length=N∧Half els R2 i)∧i≤N∧N-i≤q)
  case atStart=>exact⟨0,R,rfl,HBc,Lib.hid ⟨HL.out.1,HL.out.2.1.trans HN.out,fun k e r he hr=>⟨fun h=>absurd h (Nat.not_lt_zero _),fun _=>HL.out.2.2 k e r he hr⟩⟩,Nat.zero_le _,Nat.le_refl _⟩
  case round =>
   clear HBc HL;obtain⟨i,R2,rfl,HB,HL,hiN,hq⟩:=hrel
   by_cases hi:i<N
   · have gi:decide ((i:Int)<(N:Int))=true:=by simpa using hi
     have gin:decide (i<N)=true:=by simpa using hi
     have gic:i<ec:=by omega
     have hil:i<els.length:=by rw[HN.out];exact hi
     obtain⟨⟨pa,tg,⟨bt,bn,⟨wn,wd'⟩,⟨hn,hd⟩⟩,ge,⟨kn,kc,ka,kb,kl⟩⟩,hf⟩:∃ f,els[i]?=some f:=⟨_,List.getElem?_eq_getElem hil⟩;obtain⟨r,hr⟩:∃ r,R2[i]?=some r:=⟨_,List.getElem?_eq_getElem (by rw[HL.out.2.1];exact hi)⟩;obtain⟨i1,i2,i3,i4,i5⟩:=(HL.out.2.2 i _ r hf hr).2 (Nat.le_refl _);have hpar:=HGd.out.par i _ hf;simp only at hpar;obtain⟨rid,rpa,rtg,rbx,ra,rm,rc,rl⟩:=r;simp only at i1 i2 i3 i4 i5;replace i1:rid=(i:Int):=i1
     have hpk:piK k0 pa=pa:=by
      unfold piK k0
      rcases hpar with ⟨-,h1⟩ | ⟨-,h1,-⟩
      · rw[if_pos (by omega)]
      · rw[if_neg (by omega)];omega
     replace i2:rpa=pa:=i2.trans hpk;clear hpk;subst i1 i2 i3 i4 i5;obtain⟨c0,c1,c2,c3,c4,c5,c6,c7,c8,c9,c10⟩:=HL.out.1.el11 hr;have lb:=HL.out.1.lt;have HX:=Lib.hid (And.intro hf hr);clear hf hr c2 c3 c4 c5 c6 c7 c8 c9 c10;have f0:=HL.out.1.frozen (i*11)
     go_upto_region 9 with fail
     have HL1:=Lib.hid (show Lr (wr.setCell ⟨eb,i*11,none⟩ (.int .i64 (3*(i:Int)+5))) W eb (R2.set i ⟨k1 i,rpa,rtg,⟨bt,bn,(wn,wd'),(hn,hd)⟩,ra,rm,rc,kl.map k0⟩) from HL.out.1.put HX.out.2 (j:=0) (by omega) ⟨k1 i,rpa,rtg,⟨bt,bn,(wn,wd'),(hn,hd)⟩,ra,rm,rc,kl.map k0⟩ rfl ⟨rfl,rfl,rfl,rfl⟩);have HB1:=Lib.hid (show Below W wb (wr.setCell ⟨eb,i*11,none⟩ (.int .i64 (3*(i:Int)+5))) from HB.out.setCell (p:=⟨eb,i*11,none⟩) HL.out.1.ge _);have HHf:=Lib.hid HL.out.2;have HXl:=Lib.hid (show i<R2.length by rw[HL.out.2.1];exact hi);clear c0 c1 lb f0 HL HB;generalize World.setCell wr _ _=w1 at *;have hr1:=List.getElem?_set_self HXl.out (a:=(⟨k1 i,rpa,rtg,⟨bt,bn,(wn,wd'),(hn,hd)⟩,ra,rm,rc,kl.map k0⟩:Er));have c1:=(HL1.out.el11 hr1).2.1;have lb:=HL1.out.lt;have f1:=HL1.out.frozen (i*11+1);have HR1:=Lib.hid hr1;clear hr1;obtain⟨pv,hpv⟩:∃ pv,piK k1 rpa=pv:=⟨_,rfl⟩;have HPV:=Lib.hid hpv;clear hpv
     rcases hpar with ⟨hi0,hp⟩ | ⟨hi0,hp0,hp1⟩
     case' inl =>
      subst hp;have HI0:=Lib.hid hi0;clear hi0
      go_upto_region 11 with fail
      have HL2:=Lib.hid (show Lr w1 W eb (R2.set i ⟨k1 i,pv,rtg,⟨bt,bn,(wn,wd'),(hn,hd)⟩,ra,rm,rc,kl.map k0⟩) from by rw[← HPV.out,piK_neg];exact HL1.out);have HB2:=HB1;clear c1 lb f1 HL1 HB1 HR1 HI0;have hw2:w1=w1:=rfl;generalize h12:w1=w2 at *;clear h12 hw2
     case' inr =>
      have g0:decide ((0:Int)≤rpa)=true:=by simpa using hp0
      go_upto_region 11 with fail
      have HL2:=Lib.hid (show Lr (w1.setCell ⟨eb,i*11+1,none⟩ (.int .i64 (3*rpa+5))) W eb (R2.set i ⟨k1 i,pv,rtg,⟨bt,bn,(wn,wd'),(hn,hd)⟩,ra,rm,rc,kl.map k0⟩) from by
       have hpk:pv=3*rpa+5:=by
        rw[← HPV.out];unfold piK k1;rw[if_neg (by omega)];omega
       have h1:=HL1.out.put HR1.out (j:=1) (v:=.int .i64 (3*rpa+5)) (by omega) ⟨k1 i,pv,rtg,⟨bt,bn,(wn,wd'),(hn,hd)⟩,ra,rm,rc,kl.map k0⟩ (by rw[hpk];rfl) ⟨rfl,rfl,rfl,rfl⟩;rw[List.set_set]at h1
       exact h1)
      have HB2:=Lib.hid (show Below W wb (w1.setCell ⟨eb,i*11+1,none⟩ (.int .i64 (3*rpa+5))) from HB1.out.setCell (p:=⟨eb,i*11+1,none⟩) HL1.out.ge _);clear c1 lb f1 HL1 HB1 HR1 g0;generalize World.setCell w1 _ _=w2 at *
     all_goals
      have hr2:=List.getElem?_set_self HXl.out (a:=(⟨k1 i,pv,rtg,⟨bt,bn,(wn,wd'),(hn,hd)⟩,ra,rm,rc,kl.map k0⟩:Er));have hkv:=(HL2.out.ak.kv i _ hr2).1;have c3:=(HL2.out.el11 hr2).2.2.2.1;have lb:=HL2.out.lt
      have hkn:kl.length=rm∧rm≤1000∧(0<rm→∃ kb,ra=some ⟨kb,0,none⟩):=by
       rcases hkv with ⟨-,h1,-,h2⟩ | ⟨b2,cur2,h0,h1,h2,h3,-⟩
       · have h1:rm=0:=h1;have h2:kl.map k0=[]:=h2;rw[h1,List.map_eq_nil_iff.1 h2];exact⟨rfl,by omega,fun h=>absurd h (Nat.lt_irrefl _)⟩
       · rw[List.length_map]at h3;exact⟨h3,h2,fun _=>⟨b2,h0⟩⟩
      have hkn1:=hkn.2.1;have HKN:=Lib.hid hkn;have HL3:=Lib.hid (show Lr w2 W eb (R2.set i ⟨k1 i,pv,rtg,⟨bt,bn,(wn,wd'),(hn,hd)⟩,ra,rm,rc,mixL kl 0⟩) from HL2.out);clear hr2 hkv hkn HL2;go_wp2_with fail;clear c3 lb
      go_loopg [63] rm (fun q s63 wr=>∃ j:Nat,s63=.int .i64 (j:Int)∧Hid (Below W wb wr)∧Hid (Lr wr W eb (R2.set i ⟨k1 i,pv,rtg,⟨bt,bn,(wn,wd'),(hn,hd)⟩,ra,rm,rc,mixL kl j⟩))∧j≤rm∧rm-j≤q)
      case atStart=>exact⟨0,rfl,HB2,HL3,Nat.zero_le _,Nat.le_refl _⟩
      case round =>
       clear HL3 HB2;obtain⟨j,rfl,HB,HL,hj,hq2⟩:=hrel
       by_cases hjn:j<rm
       · have gj:decide ((j:Int)<(rm:Int))=true:=by simpa using hjn
         have gjn:decide (j<rm)=true:=by simpa using hjn
         obtain⟨k,hk⟩:∃ k,kl[j]?=some k:=⟨_,List.getElem?_eq_getElem (by rw[HKN.out.1];exact hjn)⟩;have hup:=HGd.out.up (i:=i) (k:=k) (by rw[kidsF_at HX.out.1];exact List.mem_of_getElem? hk)
         have hkb:k≤41:=by have:=HN.out;omega
         obtain⟨kb2,hra⟩:=HKN.out.2.2 (by omega);subst hra;have hr2:=List.getElem?_set_self HXl.out (a:=(⟨k1 i,pv,rtg,⟨bt,bn,(wn,wd'),(hn,hd)⟩,some ⟨kb2,0,none⟩,rm,rc,mixL kl j⟩:Er));have hlr:=HL.out;have c3:=(hlr.el11 hr2).2.2.2.1;have lb:=hlr.lt
         obtain ⟨cj,fj,lj⟩:wr.cell? ⟨kb2,j,none⟩=some (.int .i64 (k:Int))∧wr.frozen? ⟨kb2,j,none⟩=false∧kb2<wr.heap.size:=by
          rcases(hlr.ak.kv i _ hr2).1 with ⟨h0,-⟩ | ⟨b2,cur2,h0,-,-,-,h4,h5⟩
          · cases h0
          · obtain rfl:kb2=b2:=by simpa using h0
            refine⟨?_,h4.frozen j,h4.lt⟩;rw[h4.cell j,← Array.getElem?_toList]
            have h6:(cur2.toList.take rm)[j]?=some (.int .i64 (k0 k)):=by
             rw[h5,List.getElem?_map,mixL_at hk];rfl
            rwa [List.getElem?_take_of_lt hjn]at h6
         have HK2:=Lib.hid (And.intro hk hr2);have HNE:=Lib.hid (show W≤kb2 from (hlr.ak.kv i _ hr2).2 _ rfl);clear hk hr2 hup hlr
         go_upto_region 14 with fail
         refine wp_region_last 17 _ (by kernel_rfl) rfl (by kernel_rfl) (by kernel_rfl) ?_;simp only[headOf,hush,List.take_succ_cons,List.take_zero,List.cons_append,List.nil_append,List.drop_succ_cons,List.drop_zero]
         repeat (go_big_quiet_step (fail))
         refine wpQuiet_nil ?_;rintro _ ⟨mm,rfl⟩;have HBm:=Lib.hid (HB.out.trans ((grow_below mm).mono (Nat.le_trans HL.out.ge (Nat.le_of_lt HL.out.lt))));have HLm:=Lib.hid (HL.out.below (grow_below mm))
         obtain ⟨cj2,fj2,lj2⟩:(grow wr mm).cell? ⟨kb2,j,none⟩=some (.int .i64 (k:Int))∧(grow wr mm).frozen? ⟨kb2,j,none⟩=false∧kb2<(grow wr mm).heap.size:=by
          rcases(HLm.out.ak.kv i _ HK2.out.2).1 with ⟨h0,-⟩ | ⟨b2,cur2,h0,-,-,-,h4,-⟩
          · cases h0
          · obtain rfl:kb2=b2:=by simpa using h0
            exact⟨(grow_below mm).cell lj |>.trans cj,h4.frozen j,h4.lt⟩
         clear c3 lb cj fj lj HB HL;generalize grow wr mm=wg at *;go_wp2_with fail;have HB3:=Lib.hid (show Below W wb (wg.setCell ⟨kb2,j,none⟩ (.int .i64 (3*(k:Int)+5))) from HBm.out.setCell (p:=⟨kb2,j,none⟩) HNE.out _)
         have HL3:=Lib.hid (show Lr (wg.setCell ⟨kb2,j,none⟩ (.int .i64 (3*(k:Int)+5))) W eb (R2.set i ⟨k1 i,pv,rtg,⟨bt,bn,(wn,wd'),(hn,hd)⟩,some ⟨kb2,0,none⟩,rm,rc,mixL kl (j+1)⟩) from by
          have h1:=HLm.out.kid HK2.out.2 rfl (j:=j) (3*(k:Int)+5);rw[List.set_set]at h1;rw[← mixL_next HK2.out.1]
          exact h1)
         clear HBm HLm cj2 fj2 lj2 HK2
         go_roundg (rm-(j+1))
         case measure=>omega
         case rel=>exact⟨j+1,by go_num,HB3,HL3,hjn,Nat.le_refl _⟩
       · obtain rfl:j=rm:=by omega
         have gj:decide ((j:Int)<(j:Int))=false:=by simp
         have gjn:decide (j<j)=false:=by simp
         have HL3:=Lib.hid (show Lr wr W eb (R2.set i ⟨k1 i,pv,rtg,⟨bt,bn,(wn,wd'),(hn,hd)⟩,ra,j,rc,kl.map k1⟩) from by rw[← mixL_end HKN.out.1];exact HL.out);have HHn:=Lib.hid (HHf.out.2.next HX.out.1 (r':=⟨k1 i,pv,rtg,⟨bt,bn,(wn,wd'),(hn,hd)⟩,ra,j,rc,kl.map k1⟩) ⟨rfl,HPV.out.symm,rfl,rfl,rfl⟩);clear HL;go_wp2_with fail
         go_roundg (N-(i+1))
         case measure=>omega
         case rel=>exact⟨i+1,_,by go_num,HB,Lib.hid ⟨HL3.out,by rw[List.length_set];exact HHf.out.1,HHn.out⟩,hi,Nat.le_refl _⟩
   · obtain rfl:i=N:=by omega
     have gi:decide ((i:Int)<(i:Int))=false:=by simp
     have gin:decide (i<i)=false:=by simp
     go_wp2_with fail;go_meet;refine⟨R2,HB,Lib.hid ⟨HL.out.1,HL.out.2.1,fun k e r he hr=>(HL.out.2.2 k e r he hr).1 ?_⟩⟩;have:=(List.getElem?_eq_some_iff.1 he).1;rw[HN.out]at this;exact this
 case rest =>
  clear HL HBc;obtain⟨R2,HBx,HLx⟩:=hcut
  have hbx:Below wb.heap.size wb wc:=by rw[HW.out];exact HBx.out
  have HBw:=bfH' HBb hbx;have HDx:=Lib.hid (show Vw k0 wc tB mb (k0 0) (els.length:Int) els from (HDb.out.below hbx).vw);have HAx:=Lib.hid (HAb.out.below hbx HAb.out.lt);have HLD:=load_any HLx.out.1 (HLx.out.2.1.trans HN.out.symm) HLx.out.2.2 HGd.out (fun i e he=>⟨nameB_le (HGd.out.el i e he).1,(HDb.out.el i e he).2.2.1.1⟩) HDb.out.small HC.out (fun i hi=>by have:=HDb.out.small;unfold k1;omega) (fun i j hij=>by unfold k1;omega);rw[HN.out]at HLD;have HLD:=Lib.hid HLD;clear hbx HBb HAb HBx HLx;go_wp2_with fail
  ((with_reducible refine HLD.out.mono ?_);rintro e wd1 ⟨⟨tC,mc,nx,ms,rfl,hC,hl⟩,hbd⟩)
  have HBd:=bfH' HBw hbd;have HDd:=Lib.hid (HDx.out.below hbd);have HAd:=Lib.hid (HAx.out.below hbd HAx.out.lt);have HCd:=Lib.hid (And.intro hC hl);clear hC hl hbd HBw HDx HAx HLD;have HO1:=order_any HDd.out HGd.out;rw[HN.out]at HO1;have HO1:=Lib.hid HO1;go_wp2_with fail
  ((with_reducible refine HO1.out.mono ?_);rintro e we ⟨⟨oa1,cap1,ob1,rfl,hs1⟩,hbe⟩)
  have HBe:=bfH' HBd hbe;have HDe:=Lib.hid (HDd.out.below hbe);have HAe:=Lib.hid (HAd.out.below hbe HAd.out.lt);have HCe:=Lib.hid (And.intro (HCd.out.1.below hbe) HCd.out.2);have HS1:=Lib.hid hs1;clear hs1 hbe HBd HDd HAd HCd HO1;have HO2:=order_any HDe.out HGd.out;rw[HN.out]at HO2;have HO2:=Lib.hid HO2;go_wp2_with fail
  ((with_reducible refine HO2.out.mono ?_);rintro e wf ⟨⟨oa2,cap2,ob2,rfl,hs2⟩,hbf⟩)
  have HBf:=bfH' HBe hbf;have HDf:=Lib.hid (HDe.out.below hbf);have HAf:=Lib.hid (HAe.out.below hbf HAe.out.lt);have HCf:=Lib.hid (And.intro (HCe.out.1.below hbf) HCe.out.2);have HS1f:=Lib.hid (HS1.out.below hbf);have HI8:=Lib.hid (ints8_any HS1f.out hs2 (by omega));clear hs2 hbf HBe HDe HAe HCe HS1 HO2;go_wp2_with fail
  ((with_reducible refine HI8.out.mono ?_);rintro e wz ⟨rfl,hbz⟩)
  have HBz:=bfH' HBf hbz;have HT:=HTW.out wz HBz.out tB mb els tC mc _ nx ms (g+1) _ (HDf.out.below hbz) (HCf.out.1.below hbz) HCf.out.2 (HAf.out.below hbz HAf.out.lt) rfl;have HS:=Lib.hid (HS1f.out.below hbz);rw[HN.out]at HT;have H:=Lib.hid HT;have HB0:=Lib.hid (Below.refl wz.heap.size wz);have HPF:=Lib.hid (show ∀ x∈preF (kidsF els) N 0,x<N from fun x hx=>preF_lt (n:=N) (fun i k hk=>by have:=(HGd.out.up hk).2;rwa [HN.out]at this) _ _ (by have:=HGd.out.pos;rwa [HN.out]at this) x hx);have HPL:=Lib.hid (show (preF (kidsF els) N 0).length=N by have:=HGd.out.order;rwa [HN.out]at this);have hlie:=HS.out.lies (by have:=HGd.out.pos;rwa [HN.out]at this);obtain⟨rfl,hob⟩:=hlie;clear HT hbz HBf HDf HAf HCf HS1f HI8 hob;go_wp2_with fail
  go_loopg [105] N (fun q s105 wr=>∃ j:Nat,s105=.int .i64 (j:Int)∧Hid (Below wz.heap.size wz wr)∧j≤N∧N-j≤q)
  case atStart=>exact⟨0,rfl,HB0,Nat.zero_le _,Nat.le_refl _⟩
  case round =>
   clear HB0;obtain⟨j,rfl,HB,hj,hq⟩:=hrel
   by_cases hjn:j<N
   · have gj:decide ((j:Int)<(N:Int))=true:=by simpa using hjn
     have gjn:decide (j<N)=true:=by simpa using hjn
     obtain⟨i,hi⟩:∃ i,(preF (kidsF els) N 0)[j]?=some i:=⟨_,List.getElem?_eq_getElem (by rw[HPL.out];exact hjn)⟩;have hiN:=HPF.out i (List.mem_of_getElem? hi);obtain⟨fk,gk,fb,hf1,hf2,hfg⟩:=H.out.find i hiN;have HF1:=Lib.hid hf1;have HF2:=Lib.hid hf2;have HFG:=Lib.hid hfg
     have cj:wr.cell? ⟨ob1,j,none⟩=some (.int .i64 (i:Int)):=by
      have:=(HS.out.below HB.out).cell j (.int .i64 (i:Int)) (by unfold intV;rw[List.getElem?_map,List.getElem?_map,hi];rfl);rwa [Nat.zero_add]at this
     have lo:ob1<wr.heap.size:=((HS.out.below HB.out).lies (by omega)).2;obtain⟨e0,fe0,e1,fe1,e2,fe2,e3,fe3,e4,fe4,e5,fe5,e6,fe6,e7,fe7,e8,fe8,e9,fe9,e10,fe10,e11,fe11,e12,fe12,e13,fe13,e14,fe14,le⟩:=(H.out.a.below HB.out H.out.a.lt).many15;clear hi hf1 hf2 hfg;go_wp2_with fail
     ((with_reducible refine(HF1.out _ HB.out).mono ?_);rintro e w2 ⟨rfl,hb2⟩)
     have HB2:=bfH' HB hb2;clear e0 fe0 e1 fe1 e2 fe2 e3 fe3 e4 fe4 e5 fe5 e6 fe6 e7 fe7 e8 fe8 e9 fe9 e10 fe10 e11 fe11 e12 fe12 e13 fe13 e14 fe14 le hb2 HB HF1 cj lo;obtain⟨e0,fe0,e1,fe1,e2,fe2,e3,fe3,e4,fe4,e5,fe5,e6,fe6,e7,fe7,e8,fe8,e9,fe9,e10,fe10,e11,fe11,e12,fe12,e13,fe13,e14,fe14,le⟩:=(H.out.a.below HB2.out H.out.a.lt).many15;go_wp2_with fail
     ((with_reducible refine(HF2.out _ HB2.out).mono ?_);rintro e w3 ⟨rfl,hb3⟩)
     have HB3:=bfH' HB2 hb3;clear e0 fe0 e1 fe1 e2 fe2 e3 fe3 e4 fe4 e5 fe5 e6 fe6 e7 fe7 e8 fe8 e9 fe9 e10 fe10 e11 fe11 e12 fe12 e13 fe13 e14 fe14 le hb3 HB2 HF2
     cases fb with
     | true =>
       obtain⟨rfl,hf0,hf4⟩:=HFG.out rfl;clear HFG;go_wp2_with fail
       go_roundg (N-(j+1))
       case measure=>omega
       case rel=>exact⟨j+1,by go_num,HB3,hjn,Nat.le_refl _⟩
     | false =>
       clear HFG;go_wp2_with fail
       go_roundg (N-(j+1))
       case measure=>omega
       case rel=>exact⟨j+1,by go_num,HB3,hjn,Nat.le_refl _⟩
   · obtain rfl:j=N:=by omega
     have gj:decide ((j:Int)<(j:Int))=false:=by simp
     have gjn:decide (j<j)=false:=by simp
     go_wp2_with fail
     ((with_reducible refine(HAW.out _ (bfH' HBz HB.out).out).mono ?_);rintro e wg ⟨rfl,hbg⟩)
     go_wp2_with fail;go_ret;exact⟨rfl,(bfH' (bfH' HBz HB.out) hbg).out⟩
end Go.Proofs.YtnbkbenkhkinoaaGreatDoor
