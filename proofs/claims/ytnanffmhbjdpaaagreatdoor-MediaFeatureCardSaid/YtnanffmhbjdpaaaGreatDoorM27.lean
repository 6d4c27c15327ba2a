/- Of my texts: RefB, SplitS, RefC, OfM. -/
import Derived.Test.YtnanffmhbjdpaaaGreatDoorM00
import Derived.Test.YtnanffmhbjdpaaaGreatDoorM19
import Derived.Test.YtnanffmhbjdpaaaGreatDoorM22
import Derived.Test.YtnanffmhbjdpaaaGreatDoorM24
import Derived.OwnWalk
namespace Go.Proofs.YtnanffmhbjdpaaaGreatDoor
set_option maxHeartbeats 8000000
set_option maxRecDepth 20000
set_option linter.unusedVariables false
set_option linter.unusedSimpArgs false
open Go.RowKit
def R2 (h:Nat):Prop:=∀ (l:List Vl) (oa:Option Addr) (cap b o:Nat) (w:World),Zw w h oa cap b o l →
 Calls Tryz.prog 164 #[.slice oa l.length cap] w fun e w'=>Ys (· < w.heap.size) (Ux (Kb Ux h) (l.map Vl.c)) e w'∧Below w.heap.size w w'
def N1 (h:Nat):Prop:=∀ (v:Vl) (w:World),Uu w h v →
 Calls Tryz.prog 131 #[vv v] w fun e w'=>Ys (· < w.heap.size) (Cr Ux h v.c) e w'∧Below w.heap.size w w'
theorem Rx (h:Nat) (hX:N1 h) (l:List Vl) (oa:Option Addr) (cap b o:Nat) (w:World) (hs:Zw w h oa cap b o l) :
  Calls Tryz.prog 93 #[.slice oa l.length cap] w fun e w'=>Q5t (· < w.heap.size) (Jz Ux h (l.map Vl.c)) e w'∧Below w.heap.size w w':=by
 obtain⟨Y,hY⟩:∃ Y,Jz Ux h (l.map Vl.c)=Y:=⟨_,rfl⟩;rw[hY];have hb0:=Q7 w (.cells #[.int .i64 0,.int .i64 0,.int .i64 0,.int .i64 0,.slice none 0 0] 32);have h2:=Ql.new w 32 #[.int .i64 0,.int .i64 0,.int .i64 0,.int .i64 0,.slice none 0 0];have hs1:=hs.below hb0;have hmay:=Nz h l oa cap b o _ hs1
 have htr:=fun w' (hb:Below _ _ w')=>W0 h l oa cap b o w' (hs1.below hb).safe
 have hw01:(w.alloc (.cells #[.int .i64 0,.int .i64 0,.int .i64 0,.int .i64 0,.slice none 0 0] 32)).heap.size=w.heap.size+1:=by simp
 obtain⟨X,hXX⟩:∃ X,l.map Vl.c=X:=⟨_,rfl⟩;obtain⟨N,hN⟩:∃ N,l.length=N:=⟨_,rfl⟩;rw[hXX]at hmay hY;rw[hN]at hmay;rw[hN];simp only[hXX,hN]at htr;have HY:=Q1 hY;have HMAY:=Q1 hmay;have HTR:=Q1 htr;have HB0:=Q1 hb0;have H2:=Q1 h2;have HW01:=Q1 hw01;obtain⟨m,hm⟩:∃ m,Jf 64 X=m:=⟨_,rfl⟩;rw[hm]at HMAY;have HM:=Q1 hm;clear hY hmay htr hb0 h2 hw01 hXX hN hs hs1 hm
 go_enter Tryz.func93,Tryz.ntmps93
 go_upto_region 1 with fail
 obtain⟨g2,hg2⟩:∃ g2,w.heap.size=g2:=⟨_,rfl⟩;have HG:=Q1 hg2;rw[hg2]at H2;simp only[hg2];clear hg2;generalize w.alloc _=w1 at *;go_wp2_with fail
 ((with_reducible refine HMAY.out.mono ?_);rintro e w2 ⟨rfl,hb2⟩)
 have hb12:=hb2.size;have H22:=Q1 (H2.out.below hb2 H2.out.lt);have HB2:=Q1 (Qu HB0.out (Qc hb2 none) (fun _ e=>by cases e));have HT2:=Q1 (HTR.out w2 hb2);have HWG:=Q1 (show w.heap.size≤g2 by have:=HG.out;omega);clear hb2 HTR HMAY HB0;have ca0:w2.cell? ⟨g2,0,none⟩=some (.int .i64 0):=(H22.out).cell 0;have fca0:=(H22.out).frozen 0;have ca1:w2.cell? ⟨g2,1,none⟩=some (.int .i64 0):=(H22.out).cell 1;have fca1:=(H22.out).frozen 1;have ca2:w2.cell? ⟨g2,2,none⟩=some (.int .i64 0):=(H22.out).cell 2;have fca2:=(H22.out).frozen 2;have ca3:w2.cell? ⟨g2,3,none⟩=some (.int .i64 0):=(H22.out).cell 3;have fca3:=(H22.out).frozen 3;have ca4:w2.cell? ⟨g2,4,none⟩=some (.slice none 0 0):=(H22.out).cell 4;have fca4:=(H22.out).frozen 4;have lca:=(H22.out).lt
 cases m with
 | false =>
   have hYk:Y=(none,1):=by rw[← HY.out,Jz,if_pos HM.out]
   go_wp2_with fail;have hputs:=(H22.out).put5 (.int .i64 0) (.int .i64 0) (.int .i64 0) (.int .i64 0) (.slice none 0 0);refine bodyPost_ret (v:=.tuple #[.agg #[.int .i64 0,.int .i64 0,.int .i64 0,.int .i64 0,.slice none 0 0],.int .i64 1]) ?_ rfl ?_
   · refine Zj Tryz.results93 ?_ ?_ hputs rfl
     all_goals rfl
   · exact⟨⟨_,by first|rfl|rw[hYk],by first|exact Xe _ _ | (rw[hYk];exact Xe _ _)⟩,Jh HB2.out HWG.out _ _ _ _ _⟩
 | true =>
   have hY2:Y=match Z9 X with
     | [v]=>(match Cr Ux h v with
       | none=>(none,3)
       | some e=>(some e,0))
     | _=>(none,3):=by
    rw[← HY.out,Jz,if_neg (by rw[HM.out];decide)];rfl
   have HY2:=Q1 hY2;clear hY2 HY;go_wp2_with fail
   ((with_reducible refine HT2.out.mono ?_);rintro e w3 ⟨⟨v,rfl,oa2,cap2,b2,o2,l2,rfl,hc2,hs2⟩,hb3⟩)
   have H23:=Q1 (H22.out.below hb3 H22.out.lt);have HB3:=Q1 (Qu HB2.out (Qc hb3 none) (fun _ e=>by cases e));have hb23:=hb3.size;have hcm2:=hs2.here.sl.max;have hcl2:=hs2.here.sl.le;unfold maxLen at hcm2;clear hb3 HT2 H22 HB2 ca0 ca1 ca2 ca3 ca4 fca0 fca1 fca2 fca3 fca4 lca;have ca0:w3.cell? ⟨g2,0,none⟩=some (.int .i64 0):=(H23.out).cell 0;have fca0:=(H23.out).frozen 0;have ca1:w3.cell? ⟨g2,1,none⟩=some (.int .i64 0):=(H23.out).cell 1;have fca1:=(H23.out).frozen 1;have ca2:w3.cell? ⟨g2,2,none⟩=some (.int .i64 0):=(H23.out).cell 2;have fca2:=(H23.out).frozen 2;have ca3:w3.cell? ⟨g2,3,none⟩=some (.int .i64 0):=(H23.out).cell 3;have fca3:=(H23.out).frozen 3;have ca4:w3.cell? ⟨g2,4,none⟩=some (.slice none 0 0):=(H23.out).cell 4;have fca4:=(H23.out).frozen 4;have lca:=(H23.out).lt
   by_cases hl1:l2.length=1
   · obtain⟨x,rfl⟩:=Zo.1 hl1;obtain⟨rfl,hbl⟩:=hs2.here.sl.lies (by simp);have hli:[x][0]?=some x:=rfl;have hvs:=hs2.here;have HVX:=Q1 (hs2.here.each 0 x hli);have hxp:=hX x w3 (hs2.here.each 0 x hli)
     have hYx:Y=match Cr Ux h x.c with
      | none=>(none,3)
      | some e=>(some e,0):=by rw[HY2.out,← hc2];rfl
     obtain⟨r,hr⟩:∃ r,Cr Ux h x.c=r:=⟨_,rfl⟩;rw[hr]at hxp hYx;obtain⟨t,koa,kb,ko,kcap,kids⟩:=x;obtain⟨K,hK⟩:∃ K,kids.length=K:=⟨_,rfl⟩;have f0:=hvs.cell hli (j:=0) rfl;have f1:=hvs.cell hli (j:=1) rfl;have f2:=hvs.cell hli (j:=2) rfl;have f3:=hvs.cell hli (j:=3) rfl;have f4:=hvs.cell hli (j:=4) rfl;have f5:=hvs.cell hli (j:=5) rfl;have f6:=hvs.cell hli (j:=6) rfl;rw[hK]at f6;simp only[Nat.zero_mul,Nat.add_zero]at f0 f1 f2 f3 f4 f5 f6;obtain⟨tk,tt,⟨tn,td⟩,ti,tid⟩:=t
     have hvv:vv (Vl.mk ⟨tk,tt,(tn,td),ti,tid⟩ koa kb ko kcap kids)=.agg #[.int .i64 tk,.string ⟨tt.toArray⟩,.int .i64 tn,.int .i64 td,.bool ti,.bool tid,.slice koa K kcap]:=by rw[← hK];rfl
     rw[hvv]at hxp;have HXP:=Q1 hxp;have HYX:=Q1 hYx;simp only[Qi]at hcl2 ⊢;clear hvv hxp hYx hK hvs hli hr hs2 hc2 hX HY2 hl1;go_wp2_with fail
     ((with_reducible refine HXP.out.mono ?_);rintro e w4 ⟨⟨ev,ok,rfl,hok,h5,hE⟩,hb4⟩)
     obtain⟨vk,vn,vd,vu,voa,vL,vc,rfl⟩:=h5;have HE:=Q1 (Q3 hok hE);have H24:=Q1 (H23.out.below hb4 H23.out.lt);have hbB:=Qu HB3.out (Qc hb4 none) (fun _ e=>by cases e);have hw34:=hb4.size;clear hok hE hb4 H23 HB3 ca0 ca1 ca2 ca3 ca4 fca0 fca1 fca2 fca3 fca4 lca f0 f1 f2 f3 f4 f5 f6 HXP
     go_upto_region 7 with fail
     have h25:=H24.out.old (.cells #[.int .i64 vk,.int .i64 vn,.int .i64 vd,.int .i64 vu,.slice voa vL vc] 32);have h55:=Ql.new w4 32 #[.int .i64 vk,.int .i64 vn,.int .i64 vd,.int .i64 vu,.slice voa vL vc];have HB4:=Q1 (hbB.alloc (by have:=hbB.size;omega) (.cells #[.int .i64 vk,.int .i64 vn,.int .i64 vd,.int .i64 vu,.slice voa vL vc] 32));have HE5:=Q1 (Q3 HE.out.1 (fun E hE=>(HE.out.2 E hE).below (Q7 w4 (.cells #[.int .i64 vk,.int .i64 vn,.int .i64 vd,.int .i64 vu,.slice voa vL vc] 32))));clear H24 hbB HE;generalize w4.heap.size=g5 at *;generalize w4.alloc _=w5 at *;have cb0:w5.cell? ⟨g5,0,none⟩=some (.int .i64 vk):=(h55).cell 0;have fcb0:=(h55).frozen 0;have cb1:w5.cell? ⟨g5,1,none⟩=some (.int .i64 vn):=(h55).cell 1;have fcb1:=(h55).frozen 1;have cb2:w5.cell? ⟨g5,2,none⟩=some (.int .i64 vd):=(h55).cell 2;have fcb2:=(h55).frozen 2
     have cb3:w5.cell? ⟨g5,3,none⟩=some (.int .i64 vu):=(h55).cell 3;have fcb3:=(h55).frozen 3;have cb4:w5.cell? ⟨g5,4,none⟩=some (.slice voa vL vc):=(h55).cell 4;have fcb4:=(h55).frozen 4;have lcb:=(h55).lt;have ca0:w5.cell? ⟨g2,0,none⟩=some (.int .i64 0):=(h25).cell 0;have fca0:=(h25).frozen 0;have ca1:w5.cell? ⟨g2,1,none⟩=some (.int .i64 0):=(h25).cell 1;have fca1:=(h25).frozen 1;have ca2:w5.cell? ⟨g2,2,none⟩=some (.int .i64 0):=(h25).cell 2;have fca2:=(h25).frozen 2;have ca3:w5.cell? ⟨g2,3,none⟩=some (.int .i64 0):=(h25).cell 3;have fca3:=(h25).frozen 3;have ca4:w5.cell? ⟨g2,4,none⟩=some (.slice none 0 0):=(h25).cell 4;have fca4:=(h25).frozen 4;have lca:=(h25).lt;have H25:=Q1 h25;clear h25 h55;have hg2w:=H2.out.lt
     cases r with
     | none =>
       obtain rfl:ok=false:=HE5.out.1;have hYk:Y=(none,3):=HYX.out;go_wp2_with fail;have hputs:=(H25.out).put5 (.int .i64 0) (.int .i64 0) (.int .i64 0) (.int .i64 0) (.slice none 0 0);refine bodyPost_ret (v:=.tuple #[.agg #[.int .i64 0,.int .i64 0,.int .i64 0,.int .i64 0,.slice none 0 0],.int .i64 3]) ?_ rfl ?_
       · refine Zj Tryz.results93 ?_ ?_ hputs rfl
         all_goals rfl
       · exact⟨⟨_,by first|rfl|rw[hYk],by first|exact Xe _ _ | (rw[hYk];exact Xe _ _)⟩,Jh HB4.out HWG.out _ _ _ _ _⟩
     | some E =>
       obtain rfl:ok=true:=HE5.out.1;have hYk:Y=(some E,0):=HYX.out
       have hee:=((HE5.out.2 E rfl).grown (Qm [.int .i64 vk,.int .i64 vn,.int .i64 vd,.int .i64 vu,.slice voa vL vc] w5 g2 0) (fun k e _=>by have e:g2=k:=Q8 e;show k<w3.heap.size;omega)).anti (A':=(· < w.heap.size)) fun b hb=>Or.inl (by have:=HWG.out;have hb:b<w.heap.size:=hb;show b<w3.heap.size;omega)
       simp only[J5,Nat.zero_add,Nat.reduceAdd]at hee;go_wp2_with fail;have hputs:=(H25.out).put5 (.int .i64 vk) (.int .i64 vn) (.int .i64 vd) (.int .i64 vu) (.slice voa vL vc);refine bodyPost_ret (v:=.tuple #[.agg #[.int .i64 vk,.int .i64 vn,.int .i64 vd,.int .i64 vu,.slice voa vL vc],.int .i64 0]) ?_ rfl ?_
       · refine Zj Tryz.results93 ?_ ?_ hputs rfl
         all_goals rfl
       · exact⟨⟨_,by first|rfl|rw[hYk],by first|exact hee | (rw[hYk];exact hee)⟩,Jh HB4.out HWG.out _ _ _ _ _⟩
   · have q1:((l2.length:Int)==1)=false:=beq_eq_false_iff_ne.2 (by omega)
     have hYk:Y=(none,3):=by
      rw[HY2.out,← hc2]
      match l2,hl1 with
      | [],_=>rfl
      | [x],h=>exact absurd rfl h
      | x::y::l,_=>rfl
     generalize l2.length=N2 at *;have HB4:=HB3;go_wp2_with fail;have hputs:=(H23.out).put5 (.int .i64 0) (.int .i64 0) (.int .i64 0) (.int .i64 0) (.slice none 0 0);refine bodyPost_ret (v:=.tuple #[.agg #[.int .i64 0,.int .i64 0,.int .i64 0,.int .i64 0,.slice none 0 0],.int .i64 3]) ?_ rfl ?_
     · refine Zj Tryz.results93 ?_ ?_ hputs rfl
       all_goals rfl
     · exact⟨⟨_,by first|rfl|rw[hYk],by first|exact Xe _ _ | (rw[hYk];exact Xe _ _)⟩,Jh HB4.out HWG.out _ _ _ _ _⟩
theorem Ro {A:Nat→Prop} (h:Nat) (l:List Vl) (oa:Option Addr) (cap b o:Nat) (w:World) (hA:∀ b,w.heap.size≤b→A b) (hs:J3 A w fun w=>Zw w h oa cap b o l) :
  Calls Tryz.prog 38 #[.slice oa l.length cap] w fun e w'=>(∃ v,e=.returned v∧Q7j A (· < w.heap.size) h (Y0 (l.map Vl.c)) v w')∧Below w.heap.size w w':=by
 obtain⟨XL,hXL⟩:∃ XL,l.map Vl.c=XL:=⟨_,rfl⟩;obtain⟨Y,hY⟩:∃ Y,Y0 XL=Y:=⟨_,rfl⟩;rw[hXL,hY];obtain⟨N,hN⟩:∃ N,l.length=N:=⟨_,rfl⟩
 have hNX:XL.length=N:=by rw[← hXL,Qj,hN]
 have hsm:=hs.here.small;have hcm:=hs.here.sl.max;have hcl:=hs.here.sl.le;unfold maxLen at hcm;rw[hN]at hsm hcl
 have hYl:Y.length≤N+1:=by rw[← hY,← hNX];exact Y2 XL []
 have HS:=Q1 hs;have HA:=Q1 hA;have HN:=Q1 (Q3 hN (Q3 hXL (Q3 hNX hY)))
 have HT:=Q1 (fun(a c:Nat) (hac:a≤c) (hc:c≤l.length) (wx:World) (hb:Below w.heap.size w wx) =>
  (show (∃ (oa':Option Addr) (c':Nat),oa'=(if cap=a then oa else oa.map (·.add (a*7)))∧c'=cap-a∧Calls Tryz.prog 22 #[.slice oa' (c-a) c'] wx fun e w'=>(∃ v,e=.returned v∧Us A h (Z9 ((XL.take c).drop a)) v w')∧Below wx.heap.size wx w') from by
    obtain⟨oa',ho⟩:∃ oa',oa'=(if cap=a then oa else oa.map (·.add (a*7))):=⟨_,rfl⟩;obtain⟨c',hc'⟩:∃ c',c'=cap-a:=⟨_,rfl⟩;refine⟨oa',c',ho,hc',?_⟩;subst ho hc';generalize hoa':(if cap=a then oa else oa.map (·.add (a*7)))=oa';obtain⟨c',hc'⟩:∃ c',cap-a=c':=⟨_,rfl⟩
    have hlen:((l.take c).drop a).length=c-a:=by rw[Zu,Zb];omega
    have hmap:((l.take c).drop a).map Vl.c=(XL.take c).drop a:=by rw[List.map_drop,List.map_take,hXL]
    rw[← hlen,← hmap,hc'];subst hoa' hc'
    exact W0 h ((l.take c).drop a) _ _ b (o+a*7) wx ((hs.below hb).mono fun _ hz=>hz.part hac hc)))
 clear hs hA hN hXL hNX hY;rw[HN.out.1]
 go_enter Tryz.func38,Tryz.ntmps38
 go_upto_block 0 with fail
 go_cut [3,4] (fun s3 s4 wx=>∃ (a:Nat) (v:Value) (D:List Value) (P:List (List Vt)),s4=.int .i64 a∧v=s3∧a≤N∧Hid (Below w.heap.size w wx)∧Hid (wx.ownsRow w.heap.size 26 1 v D.length D)∧Hid (D.length=P.length∧P++[Z9 (XL.drop a)]=Y)∧Hid (∀ (i:Nat) (s:Value) (X:List Vt),D[i]?=some s→P[i]?=some X→Us (fun b=>A b∨v.ownBlock=some b) h X s wx))
 case first =>
  go_wp2_with fail
  go_loopg [3,4,9] N (fun q s3 s4 s wr=>∃ (i a:Nat) (v:Value) (D:List Value) (P:List (List Vt)),s=.int .i64 i∧s4=.int .i64 a∧v=s3∧a≤i∧i≤N∧Hid (Below w.heap.size w wr)∧Hid (wr.ownsRow w.heap.size 26 1 v D.length D)∧Hid (D.length=P.length∧P++Y3 ((XL.take i).drop a) (XL.drop i)=Y)∧Hid (∀ (i:Nat) (s:Value) (X:List Vt),D[i]?=some s→P[i]?=some X→Us (fun b=>A b∨v.ownBlock=some b) h X s wr)∧D.length≤i∧N-i≤q)
  case atStart=>exact⟨0,0,_,[],[],rfl,rfl,rfl,Q6 _,Qs _,Q1 (Below.refl _ _),Q1 (World.ownsRow_nil _ _ _ _),Q1 ⟨rfl,HN.out.2.2.2⟩,Q1 (fun i s X h1 _=>by cases h1),Q6 _,by omega⟩
  case round =>
   obtain⟨i,a,v,D,P,rfl,rfl,rfl,hai,hiN,hb,hO,hP,hV,hDi,hq⟩:=hrel
   by_cases hi:i<N
   · have gi:decide ((i:Int)<(N:Int))=true:=by simpa using hi
     have gin:decide (i<N)=true:=by simpa using hi
     have hil:i<l.length:=by rw[HN.out.1];exact hi
     have hli:l[i]?=some l[i]:=Q9 hil;have hs2:=(HS.out.below hb.out).here;obtain⟨rfl,hbl⟩:=hs2.sl.lies (by omega);obtain⟨x,hx⟩:∃ x,l[i]=x:=⟨_,rfl⟩;rw[hx]at hli
     have hxl:i<XL.length:=by rw[HN.out.2.2.1];exact hi
     have hxi:XL[i]=x.c:=by
      have:XL[i]?=some x.c:=by rw[← HN.out.2.1,Z5,hli];rfl
      exact Q8 ((Q9 hxl).symm.trans this)
     have hdr:XL.drop i=x.c::XL.drop (i+1):=by rw[Qv hxl,hxi]
     have htk:(XL.take (i+1)).drop a=(XL.take i).drop a++[x.c]:=by rw[Ze hxl,hxi,List.drop_append_of_le_length (by rw[Zb];omega)]
     obtain⟨t,koa,kb,ko,kcap,kids⟩:=x;obtain⟨K,hK⟩:∃ K,kids.length=K:=⟨_,rfl⟩;have f0:=hs2.cell hli (j:=0) rfl;have f1:=hs2.cell hli (j:=1) rfl;have f2:=hs2.cell hli (j:=2) rfl;have f3:=hs2.cell hli (j:=3) rfl;have f4:=hs2.cell hli (j:=4) rfl;have f5:=hs2.cell hli (j:=5) rfl;have f6:=hs2.cell hli (j:=6) rfl;rw[Nat.add_zero]at f0;rw[hK]at f6;obtain⟨tk,tt,⟨tn,td⟩,ti,tid⟩:=t;rw[Vl.c_mk]at hdr htk;have HD:=Q1 (Q3 hdr htk);clear hs2 hli hil hx hxi hxl hdr htk hK
     go_upto_region 6 with fail
     have hb1:=Q1 (hb.out.alloc hb.out.size (.cells #[.int .i64 tk,.string ⟨tt.toArray⟩,.int .i64 tn,.int .i64 td,.bool ti,.bool tid,.slice koa K kcap] 28));have hbx:=Ql.new wr 28 #[.int .i64 tk,.string ⟨tt.toArray⟩,.int .i64 tn,.int .i64 td,.bool ti,.bool tid,.slice koa K kcap];have hO1:=Q1 (hO.out.alloc (.cells #[.int .i64 tk,.string ⟨tt.toArray⟩,.int .i64 tn,.int .i64 td,.bool ti,.bool tid,.slice koa K kcap] 28));have hV1:=Q1 (fun i s X h1 h2=>Vc _ _ _ s _ _ (hV.out i s X h1 h2) (Q7 wr (.cells #[.int .i64 tk,.string ⟨tt.toArray⟩,.int .i64 tn,.int .i64 td,.bool ti,.bool tid,.slice koa K kcap] 28)));clear f0 f1 f2 f3 f4 f5 f6 hb hO hV;generalize wr.heap.size=g6 at *;generalize wr.alloc _=w1 at *;have cb0:w1.cell? ⟨g6,0,none⟩=some (.int .i64 tk):=(hbx).cell 0;have fcb0:=(hbx).frozen 0;have cb1:w1.cell? ⟨g6,1,none⟩=some (.string ⟨tt.toArray⟩):=(hbx).cell 1
     have fcb1:=(hbx).frozen 1;have cb2:w1.cell? ⟨g6,2,none⟩=some (.int .i64 tn):=(hbx).cell 2;have fcb2:=(hbx).frozen 2;have cb3:w1.cell? ⟨g6,3,none⟩=some (.int .i64 td):=(hbx).cell 3;have fcb3:=(hbx).frozen 3;have cb4:w1.cell? ⟨g6,4,none⟩=some (.bool ti):=(hbx).cell 4;have fcb4:=(hbx).frozen 4;have cb5:w1.cell? ⟨g6,5,none⟩=some (.bool tid):=(hbx).cell 5;have fcb5:=(hbx).frozen 5;have cb6:w1.cell? ⟨g6,6,none⟩=some (.slice koa K kcap):=(hbx).cell 6;have fcb6:=(hbx).frozen 6;have lcb:=(hbx).lt;clear hbx
     by_cases hk:tk=18
     · have hcomma:Dh (.mk ⟨tk,tt,(tn,td),ti,tid⟩ (kids.map Vl.c))=true:=by rw[Cp];simpa using hk
       have HC:=Q1 hcomma;clear hcomma;subst hk
       have iai:(a:Int)≤(i:Int):=by omega
       have iic:(i:Int)≤(cap:Int):=by omega
       obtain⟨oa',c',hoa',hc',hcall⟩:=HT.out a i hai (by rw[HN.out.1];omega) w1 hb1.out;obtain⟨M,hM⟩:∃ M,i-a=M:=⟨_,rfl⟩;rw[hM]at hcall;rw[if_neg (by omega),Option.map_some,Addr.add_lit]at hoa';subst hoa' hc';have HCALL:=Q1 hcall;have HO1:=hO1;clear hcall;go_wp2_with fail
       ((with_reducible refine HCALL.out.mono ?_);rintro e w2 ⟨⟨s,rfl,hvs⟩,hbb⟩)
       obtain⟨soa,sn,scap,rfl⟩:=hvs.slice;have HV2:=Q1 hvs;have HB2:=Q1 hbb;have hO2:=Q1 (Jc hO1.out hbb);have hV2:=Q1 (fun i s X h1 h2=>Vc _ _ _ s _ _ (hV1.out i s X h1 h2) hbb);have HVL:=Q1 (fun k hk=>(hO1.out.lt k hk));have hw2:=(hb1.out.trans (Below.mono hbb hb1.out.size)).size;clear hvs hbb HCALL hV1 cb0 cb1 cb2 cb3 cb4 cb5 cb6 fcb0 fcb1 fcb2 fcb3 fcb4 fcb5 fcb6 lcb;go_wp2_with (at_builtin;refine J4 Q2q rfl _ _ rfl rfl (hO2.out.alloc _) (by simp;omega) (Ql.new w2 _ _) 1 rfl rfl (by simp[Value.oneCell']) (by omega) (by omega) ?_;intro gg cap3 w3 ho3 hg3 hat hvb;have H3:=Q1 (Q3 ho3 (Q3 hg3 hat));clear ho3 hg3 hat hvb)
       go_roundg (N-(i+1))
       case measure=>omega
       case rel =>
        obtain⟨ho3,hg3,hat⟩:=H3.out;have hgc:=Z7 (World.grownBy_alloc w2 _ _) hg3;refine⟨i+1,i+1,_,D++[.slice soa sn scap],P++[Z9 ((XL.take i).drop a)],by go_num,by go_num,rfl,Q6 _,hi,Q1 ?_,Q1 ?_,Q1 ⟨by rw[Qd,Qd,hP.out.1];rfl,?_⟩,Q1 ?_,by rw[Qd,Qi];omega,Q6 _⟩
        · exact(hb1.out.trans (Below.mono HB2.out hb1.out.size)).grown hgc hw2 (fun k hk=>(HVL.out k hk).1)
        · rw[Qd,Qi];simpa using ho3
        · have hp:=hP.out.2;rw[HD.out.1,Bv HC.out]at hp;have e:(XL.take (i+1)).drop (i+1)=[]:=Z3 (by rw[Zb];omega);rw[← hp,List.append_assoc,e];rfl
        · intro j s X h1 h2
          have hggw:∀ b,b=gg→v.ownBlock=some b∨w2.heap.size≤b:=fun b e=>by
           subst e
           exact hat.imp id fun e=>by rw[e];simp
          have hA:∀ b,(A b∨b=gg)→(A b∨v.ownBlock=some b)∨w2.heap.size≤b:=fun b hb=>by
           rcases hb with hb|hb
           · exact Or.inl (Or.inl hb)
           · exact(hggw b hb).imp Or.inr id
          rcases Nat.lt_or_ge j D.length with hj|hj
          · rw[List.getElem?_append_left hj]at h1;rw[List.getElem?_append_left (by rw[← hP.out.1];exact hj)]at h2;have hv0:=hV2.out j s X h1 h2;have hv1:=Us.anti (A':=fun b=>(A b∨v.ownBlock=some b)∨w2.heap.size≤b) hv0 (fun b hb=>hb)
            refine(hv1.grown hgc fun k hk _=>Or.inl (Or.inr hk)).anti fun b hb=>?_
            refine Or.inl (hA b (hb.imp id fun e=>(Q8 e).symm))
          · have hjD:j=D.length:=by
             have:=(Qn.1 h1).1;rw[Qd,Qi]at this;omega
            subst hjD;rw[Z0 (Q6 _),Nat.sub_self]at h1;rw[hP.out.1,Z0 (Q6 _),Nat.sub_self]at h2;obtain rfl:=Q8 h1;obtain rfl:=Q8 h2
            have hv1:=Us.anti (A':=fun b=>(A b∨v.ownBlock=some b∨b=gg)) HV2.out (fun b hb=>by
             rcases hb with hb|hb|hb
             · exact Or.inl hb
             · exact Or.inl (HA.out b (HVL.out b hb).1)
             · rcases hggw b hb with h3 | h3
               · exact Or.inl (HA.out b (HVL.out b h3).1)
               · exact Or.inr h3)
            refine(hv1.grown hgc fun k hk _=>Or.inr (Or.inl hk)).anti fun b hb=>?_
            rcases hb with hb|hb
            · exact Or.inl (Or.inl hb)
            · exact Or.inl (Or.inr (Or.inr (Q8 hb).symm))
     · have hcomma:Dh (.mk ⟨tk,tt,(tn,td),ti,tid⟩ (kids.map Vl.c))=false:=by rw[Cp];simpa using hk
       have HC:=Q1 hcomma
       have gk:(tk==(18:Int))=false:=by simpa using hk
       clear hcomma hk;go_wp2_with fail
       go_roundg (N-(i+1))
       case measure=>omega
       case rel=>exact⟨i+1,a,v,D,P,by go_num,rfl,rfl,by omega,hi,hb1,hO1,Q1 ⟨hP.out.1,by rw[← hP.out.2,HD.out.1,HD.out.2,Bu HC.out]⟩,hV1,by omega,Q6 _⟩
   · obtain rfl:i=N:=by omega
     have gi:decide ((i:Int)<(i:Int))=false:=by simp
     have gin:decide (i<i)=false:=by simp
     go_wp2_with fail;go_meet
     case rel=>exact⟨a,v,D,P,rfl,rfl,hai,hb,hO,Q1 ⟨hP.out.1,by rw[← hP.out.2,Z3 (show XL.length≤i by rw[HN.out.2.2.1];exact Q6 _),Zc (by rw[HN.out.2.2.1];exact Q6 _)];rfl⟩,hV⟩
 case rest =>
  obtain⟨a,v,D,P,rfl,rfl,haN,hb,hO,hP,hV⟩:=hcut;obtain⟨oa',c',hoa',hc',hcall⟩:=HT.out a N haN (by rw[HN.out.1];exact Q6 _) wc hb.out
  have hPl:D.length≤N:=by
   have h1:=congrArg List.length hP.out.2;rw[Qd,Qi]at h1;have:=hP.out.1;omega
  have hXd:(XL.take N).drop a=XL.drop a:=by rw[Zc (by rw[HN.out.2.2.1];exact Q6 _)]
  rw[hXd]at hcall
  have iai:(a:Int)≤(N:Int):=by omega
  have iaN:a≤N:=haN
  have iic:(N:Int)≤(cap:Int):=by omega
  have hDX:=Q1 (show ∀ s X (DD:List Value),DD=D++[s]→X=Z9 (XL.drop a)→∀ (wz:World),(∀ (i:Nat) (s:Value) (X:List Vt),D[i]?=some s→P[i]?=some X→Us A h X s wz)→Us A h X s wz→∀ (i:Nat) (s:Value) (X:List Vt),DD[i]?=some s→Y[i]?=some X→Us A h X s wz from by
   rintro s X DD rfl rfl wz k1 k2 j s' X' h1 h2;rw[← hP.out.2]at h2
   rcases Nat.lt_or_ge j D.length with hj|hj
   · rw[List.getElem?_append_left hj]at h1;rw[List.getElem?_append_left (by rw[← hP.out.1];exact hj)]at h2;exact k1 j s' X' h1 h2
   · have hjD:j=D.length:=by
      have:=(Qn.1 h1).1;rw[Qd,Qi]at this;omega
     subst hjD;rw[Z0 (Q6 _),Nat.sub_self]at h1;rw[hP.out.1,Z0 (Q6 _),Nat.sub_self]at h2;obtain rfl:=Q8 h1;obtain rfl:=Q8 h2
     exact k2)
  have hYD:Y.length=D.length+1:=by rw[← hP.out.2,Qd,Qi,hP.out.1]
  obtain⟨M,hM⟩:∃ M,N-a=M:=⟨_,rfl⟩;rw[hM]at hcall;clear hXd;go_wp2_with fail
  all_goals
   first
    | (have e:cap=a:=by assumption
       rw[if_pos e]at hoa'
       have hc0:c'=0:=by omega
       rw[hoa',hc0]at hcall)
    | (have e:¬ cap=a:=by assumption
       rw[if_neg e]at hoa'
       rw[hoa',hc']at hcall)
   ((with_reducible refine hcall.mono ?_);rintro e w2 ⟨⟨s,rfl,hvs⟩,hbb⟩)
   obtain⟨soa,sn,scap,rfl⟩:=hvs.slice;have HV2:=Q1 hvs;have HB2:=Q1 hbb;have hO2:=Q1 (Jc hO.out hbb);have hV2:=Q1 (fun i s X h1 h2=>Vc _ _ _ s _ _ (hV.out i s X h1 h2) hbb);have HVL:=Q1 (fun k hk=>(hO.out.lt k hk));have hw2:=(hb.out.trans (Below.mono hbb hb.out.size)).size;have HBS:=Q1 hb.out.size;clear hvs hbb hcall hV hoa' hc';go_wp2_with (at_builtin;refine J4 Q2q rfl _ _ rfl rfl (hO2.out.alloc _) (by simp;omega) (Ql.new w2 _ _) 1 rfl rfl (by simp[Value.oneCell']) (by omega) (by omega) ?_;intro gg cap3 w3 ho3 hg3 hat hvb;have H3:=Q1 (Q3 ho3 (Q3 hg3 hat));clear ho3 hg3 hat hvb);go_ret;obtain⟨ho3,hg3,hat⟩:=H3.out;have hgc:=Z7 (World.grownBy_alloc w2 _ _) hg3;have hggB:=(ho3.lt gg rfl).1
   refine⟨⟨_,rfl,some ⟨gg,0,none⟩,cap3,gg,D++[.slice soa sn scap],by rw[Qd,Qi];rfl,by rw[Qd,Qi,hYD],?_,hDX.out _ _ _ rfl rfl w3 (fun j s X h1 h2=>?_) ?_⟩,(hb.out.trans (Below.mono HB2.out hb.out.size)).grown hgc hw2 (fun k hk=>(HVL.out k hk).1)⟩
   · obtain⟨oa2,cap2,g2,hv2,hsl,hpos⟩:=Zx ho3
     injection hv2 with e1 _ e2
     subst e1 e2
     have hsl2:Sl w3 (some ⟨gg,0,none⟩) (D++[Value.slice soa sn scap]).length cap3 gg 0 1 (D++[.slice soa sn scap]):=by
      obtain⟨e3,_⟩:=hsl.lies (Nat.succ_pos _)
      injection e3 with e3
      injection e3 with e3
      subst e3;rw[Qd,Qi];simpa using hsl
     exact hsl2.safe (fun _ h=>by omega)
   · have hv1:=Us.anti (A':=fun b=>(A b∨v.ownBlock=some b)∨w2.heap.size≤b) (hV2.out j s X h1 h2) (fun b hb=>hb)
     exact(hv1.grown hgc fun k hk _=>Or.inl (Or.inr hk)).anti fun b hb=>Or.inl (Or.inl (Or.inl hb))
   · have hv1:=Us.anti (A':=fun b=>(A b∨v.ownBlock=some b)) HV2.out (fun b hb=>by
      rcases hb with hb|hb
      · exact Or.inl hb
      · exact Or.inl (HA.out b (HVL.out b hb).1))
     exact(hv1.grown hgc fun k hk _=>Or.inr hk).anti fun b hb=>Or.inl (Or.inl hb)
theorem Rp {A:Nat→Prop} (h:Nat) (l:List Vl) (oa:Option Addr) (cap b o:Nat) (w:World) (hs:J3 A w fun w=>Zw w h oa cap b o l) :
  Calls Tryz.prog 38 #[.slice oa l.length cap] w fun e w'=>(∃ v,e=.returned v∧Q7j A (· < w.heap.size) h (Y0 (l.map Vl.c)) v w')∧Below w.heap.size w w' :=
 (Ro (A:=fun b=>A b∨w.heap.size≤b) h l oa cap b o w (fun _ h=>Or.inr h) (hs.wide fun _ h=>h)).mono fun _ w' ⟨⟨v,he,oa2,cap2,b2,D,hv,hl,h1,h2⟩,hb⟩=>⟨⟨v,he,oa2,cap2,b2,D,hv,hl,h1,fun i s X hi hj=>(h2 i s X hi hj).anti fun _ h=>Or.inl (Or.inl h)⟩,hb⟩
theorem Q1f (h:Nat) (hW:R2 h):N1 (h+1):=by
 intro v w hv;obtain⟨t,oa,b,o,cap,kids⟩:=v;obtain⟨tk,tt,⟨tn,td⟩,ti,tid⟩:=t;have h64:=hv.1;have hks:=hv.kids;have hkl:=hks.small;have hcl:=hks.sl.le;have hcm:=hks.sl.max;unfold maxLen at hcm;have htl:tt.length≤9223372036854775807:=h64.2.2;have hi64:U2 (tn,td):=h64.2.1;rw[Vl.c_mk,Cr];obtain⟨XL,hXL⟩:∃ XL,kids.map Vl.c=XL:=⟨_,rfl⟩;obtain⟨N,hN⟩:∃ N,kids.length=N:=⟨_,rfl⟩;obtain⟨W,hWd⟩:∃ W,Ux (Kb Ux h)=W:=⟨_,rfl⟩;rw[hXL,hWd]
 have hvv:vv (Vl.mk ⟨tk,tt,(tn,td),ti,tid⟩ oa b o cap kids)=.agg #[.int .i64 tk,.string ⟨tt.toArray⟩,.int .i64 tn,.int .i64 td,.bool ti,.bool tid,.slice oa N cap]:=by rw[← hN];rfl
 rw[hvv];rw[hN]at hkl hcl;obtain⟨Y,hY⟩:∃ Y,K8 W ⟨tk,tt,(tn,td),ti,tid⟩ XL=Y:=⟨_,rfl⟩;rw[hY];have HY:=Q1 hY;have HK:=Q1 (Q3 hN (Q3 hXL hWd));have HI:=Q1 hi64;have HT:=Q1 htl;have HKS:=Q1 hks;clear hY hN hXL hWd hvv hi64 htl hks hv h64
 go_enter Tryz.func131,Tryz.ntmps131
 go_upto_region 2 with fail
 have hb1:=Q7 w (.cells #[.int .i64 tk,.string ⟨tt.toArray⟩,.int .i64 tn,.int .i64 td,.bool ti,.bool tid,.slice oa N cap] 28);have hb2:=(hb1.alloc (by simp) (.cells #[.int .i64 0,.int .i64 0,.int .i64 0,.int .i64 0,.slice none 0 0] 32)).alloc (by simp;omega) (.cells #[.int .i64 tk,.string ⟨tt.toArray⟩,.int .i64 tn,.int .i64 td,.bool ti,.bool tid] 25)
 have B1:Ql (((w.alloc (.cells #[.int .i64 tk,.string ⟨tt.toArray⟩,.int .i64 tn,.int .i64 td,.bool ti,.bool tid,.slice oa N cap] 28)).alloc (.cells #[.int .i64 0,.int .i64 0,.int .i64 0,.int .i64 0,.slice none 0 0] 32)).alloc (.cells #[.int .i64 tk,.string ⟨tt.toArray⟩,.int .i64 tn,.int .i64 td,.bool ti,.bool tid] 25)) w.heap.size 28 #[.int .i64 tk,.string ⟨tt.toArray⟩,.int .i64 tn,.int .i64 td,.bool ti,.bool tid,.slice oa N cap]:=((Ql.new w 28 #[.int .i64 tk,.string ⟨tt.toArray⟩,.int .i64 tn,.int .i64 td,.bool ti,.bool tid,.slice oa N cap]).old _).old _
 have B2:Ql (((w.alloc (.cells #[.int .i64 tk,.string ⟨tt.toArray⟩,.int .i64 tn,.int .i64 td,.bool ti,.bool tid,.slice oa N cap] 28)).alloc (.cells #[.int .i64 0,.int .i64 0,.int .i64 0,.int .i64 0,.slice none 0 0] 32)).alloc (.cells #[.int .i64 tk,.string ⟨tt.toArray⟩,.int .i64 tn,.int .i64 td,.bool ti,.bool tid] 25)) (w.heap.size+1) 32 #[.int .i64 0,.int .i64 0,.int .i64 0,.int .i64 0,.slice none 0 0]:=by
  have h:=(Ql.new (w.alloc (.cells #[.int .i64 tk,.string ⟨tt.toArray⟩,.int .i64 tn,.int .i64 td,.bool ti,.bool tid,.slice oa N cap] 28)) 32 #[.int .i64 0,.int .i64 0,.int .i64 0,.int .i64 0,.slice none 0 0]).old (.cells #[.int .i64 tk,.string ⟨tt.toArray⟩,.int .i64 tn,.int .i64 td,.bool ti,.bool tid] 25);simpa using h
 have B4:Ql (((w.alloc (.cells #[.int .i64 tk,.string ⟨tt.toArray⟩,.int .i64 tn,.int .i64 td,.bool ti,.bool tid,.slice oa N cap] 28)).alloc (.cells #[.int .i64 0,.int .i64 0,.int .i64 0,.int .i64 0,.slice none 0 0] 32)).alloc (.cells #[.int .i64 tk,.string ⟨tt.toArray⟩,.int .i64 tn,.int .i64 td,.bool ti,.bool tid] 25)) (w.heap.size+1+1) 25 #[.int .i64 tk,.string ⟨tt.toArray⟩,.int .i64 tn,.int .i64 td,.bool ti,.bool tid]:=by
  have h:=Ql.new ((w.alloc (.cells #[.int .i64 tk,.string ⟨tt.toArray⟩,.int .i64 tn,.int .i64 td,.bool ti,.bool tid,.slice oa N cap] 28)).alloc (.cells #[.int .i64 0,.int .i64 0,.int .i64 0,.int .i64 0,.slice none 0 0] 32)) 25 #[.int .i64 tk,.string ⟨tt.toArray⟩,.int .i64 tn,.int .i64 td,.bool ti,.bool tid];simpa using h
 have HKV:=Q1 (HKS.out.below hb2)
 have hws:(((w.alloc (.cells #[.int .i64 tk,.string ⟨tt.toArray⟩,.int .i64 tn,.int .i64 td,.bool ti,.bool tid,.slice oa N cap] 28)).alloc (.cells #[.int .i64 0,.int .i64 0,.int .i64 0,.int .i64 0,.slice none 0 0] 32)).alloc (.cells #[.int .i64 tk,.string ⟨tt.toArray⟩,.int .i64 tn,.int .i64 td,.bool ti,.bool tid] 25)).heap.size=w.heap.size+3:=by simp
 have HB:=Q1 hb2;have HWS:=Q1 hws;obtain⟨g1,hg1⟩:∃ g1,w.heap.size=g1:=⟨_,rfl⟩;obtain⟨g2,hg2⟩:∃ g2,w.heap.size+1=g2:=⟨_,rfl⟩;rw[hg2]at B2 B4;obtain⟨g4,hg4⟩:∃ g4,g2+1=g4:=⟨_,rfl⟩;have HG:=Q1 (Q3 hg1 (Q3 hg2 hg4));rw[hg4]at B4;rw[hg1]at B1;simp only[hg2];simp only[hg4];simp only[hg1];clear hg1 hg2 hg4 hb1 hb2 hws HKS;generalize World.alloc (World.alloc (World.alloc w _) _) _=w4 at *;have ca0:w4.cell? ⟨g1,0,none⟩=some (.int .i64 tk):=(B1).cell 0;have fca0:=(B1).frozen 0;have ca1:w4.cell? ⟨g1,1,none⟩=some (.string ⟨tt.toArray⟩):=(B1).cell 1;have fca1:=(B1).frozen 1;have ca2:w4.cell? ⟨g1,2,none⟩=some (.int .i64 tn):=(B1).cell 2;have fca2:=(B1).frozen 2;have ca3:w4.cell? ⟨g1,3,none⟩=some (.int .i64 td):=(B1).cell 3;have fca3:=(B1).frozen 3;have ca4:w4.cell? ⟨g1,4,none⟩=some (.bool ti):=(B1).cell 4;have fca4:=(B1).frozen 4
 have ca5:w4.cell? ⟨g1,5,none⟩=some (.bool tid):=(B1).cell 5;have fca5:=(B1).frozen 5;have ca6:w4.cell? ⟨g1,6,none⟩=some (.slice oa N cap):=(B1).cell 6;have fca6:=(B1).frozen 6;have lca:=(B1).lt;have cb0:w4.cell? ⟨g2,0,none⟩=some (.int .i64 0):=(B2).cell 0;have fcb0:=(B2).frozen 0;have cb1:w4.cell? ⟨g2,1,none⟩=some (.int .i64 0):=(B2).cell 1;have fcb1:=(B2).frozen 1;have cb2:w4.cell? ⟨g2,2,none⟩=some (.int .i64 0):=(B2).cell 2;have fcb2:=(B2).frozen 2;have cb3:w4.cell? ⟨g2,3,none⟩=some (.int .i64 0):=(B2).cell 3;have fcb3:=(B2).frozen 3;have cb4:w4.cell? ⟨g2,4,none⟩=some (.slice none 0 0):=(B2).cell 4;have fcb4:=(B2).frozen 4;have lcb:=(B2).lt;have cc0:w4.cell? ⟨g4,0,none⟩=some (.int .i64 tk):=(B4).cell 0;have fcc0:=(B4).frozen 0;have cc1:w4.cell? ⟨g4,1,none⟩=some (.string ⟨tt.toArray⟩):=(B4).cell 1;have fcc1:=(B4).frozen 1;have cc2:w4.cell? ⟨g4,2,none⟩=some (.int .i64 tn):=(B4).cell 2
 have fcc2:=(B4).frozen 2;have cc3:w4.cell? ⟨g4,3,none⟩=some (.int .i64 td):=(B4).cell 3;have fcc3:=(B4).frozen 3;have cc4:w4.cell? ⟨g4,4,none⟩=some (.bool ti):=(B4).cell 4;have fcc4:=(B4).frozen 4;have cc5:w4.cell? ⟨g4,5,none⟩=some (.bool tid):=(B4).cell 5;have fcc5:=(B4).frozen 5;have lcc:=(B4).lt;have HB1:=Q1 B1;have HB2:=Q1 B2;have HB4:=Q1 B4
 have HFIN:=Q1 (show ∀ (v:Value) (ok:Bool) (w6 w7:World),ok=Y.isSome→Sh v→(∀ E,Y=some E→Jk (· < w4.heap.size) E v w6)→Below w4.heap.size w4 w6→w6.grownBy w7 (some g2)→Ys (· < w.heap.size) Y (.returned (.tuple #[v,.bool ok])) w7∧Below w.heap.size w w7 from
  fun v ok w6 w7 h1 h2 h3 h4 h5=>⟨⟨v,ok,rfl,h1,h2,fun E hE=>((h3 E hE).grown h5 (fun k e _=>by injection e with e;omega)).anti fun b hb=>Or.inl (by have:=HWS.out;omega)⟩,
   Qu (Qu HB.out (Qc h4 none) (fun _ e=>by cases e)) h5 (fun k e=>by injection e with e;have:=HG.out;omega)⟩)
 clear B1 B2 B4
 by_cases hk10:tk=10
 · have hYk:Y=some (Pa (tn,td) 0):=by
    rw[← HY.out,K8,if_pos hk10]
   subst hk10;have hnum:=Oi (tn,td) w4 HI.out;go_wp2_with fail
   ((with_reducible refine hnum.mono ?_);rintro e w6 ⟨rfl,hbb⟩)
   have h26:=HB2.out.below hbb HB2.out.lt;have HBB:=Q1 hbb;have cd0:w6.cell? ⟨g2,0,none⟩=some (.int .i64 0):=(h26).cell 0;have fcd0:=(h26).frozen 0;have cd1:w6.cell? ⟨g2,1,none⟩=some (.int .i64 0):=(h26).cell 1;have fcd1:=(h26).frozen 1;have cd2:w6.cell? ⟨g2,2,none⟩=some (.int .i64 0):=(h26).cell 2;have fcd2:=(h26).frozen 2;have cd3:w6.cell? ⟨g2,3,none⟩=some (.int .i64 0):=(h26).cell 3;have fcd3:=(h26).frozen 3;have cd4:w6.cell? ⟨g2,4,none⟩=some (.slice none 0 0):=(h26).cell 4;have fcd4:=(h26).frozen 4;have lcd:=(h26).lt;have H26:=Q1 h26;clear h26 hnum hbb;go_wp2_with fail;have hputs:=(H26.out).put5 (.int .i64 1) (.int .i64 (Je (tn,td)).1) (.int .i64 (Je (tn,td)).2) (.int .i64 0) (.slice none 0 0);refine bodyPost_ret (v:=.tuple #[.agg #[.int .i64 1,.int .i64 (Je (tn,td)).1,.int .i64 (Je (tn,td)).2,.int .i64 0,.slice none 0 0],.bool true]) ?_ rfl ?_
   · refine Zj Tryz.results131 ?_ ?_ hputs rfl
     all_goals rfl
   · exact HFIN.out _ _ w6 _ (by rw[hYk];rfl) ⟨_,_,_,_,_,_,_,rfl⟩ (fun E hE=>by rw[hYk]at hE;injection hE with hE;subst hE;exact P9 _ HI.out (Z1 _ (by decide)) w6) HBB.out (Qm [.int .i64 1,.int .i64 (Je (tn,td)).1,.int .i64 (Je (tn,td)).2,.int .i64 0,.slice none 0 0] w6 g2 0)
 by_cases hk12:tk=12
 · have hYk:Y=if Xx tt=0 then none else some (Pa (tn,td) (Xx tt)):=by
    rw[← HY.out,K8,if_neg hk10,if_pos hk12]
   subst hk12;have HU:=Q1 (fun w=>Q1e tt w HT.out);have hU7:=Rj tt;generalize Xx tt=U at *;have HYK:=Q1 hYk;have HCL:=Q1 (fun w=>Oi (tn,td) w HI.out);clear hYk;obtain⟨bz,hbz⟩:∃ bz,decide ((0:Int)<(U:Int))=bz:=⟨_,rfl⟩
   have hbz2:decide (0<U)=bz:=by rw[← hbz,decide_eq_decide];omega
   go_wp2_with fail
   ((with_reducible refine(HU.out _).mono ?_);rintro e w5 ⟨rfl,hb5⟩)
   have h45:=HB4.out.below hb5 HB4.out.lt;have cd0:w5.cell? ⟨g4,0,none⟩=some (.int .i64 12):=(h45).cell 0;have fcd0:=(h45).frozen 0;have cd1:w5.cell? ⟨g4,1,none⟩=some (.string ⟨tt.toArray⟩):=(h45).cell 1;have fcd1:=(h45).frozen 1;have cd2:w5.cell? ⟨g4,2,none⟩=some (.int .i64 tn):=(h45).cell 2;have fcd2:=(h45).frozen 2;have cd3:w5.cell? ⟨g4,3,none⟩=some (.int .i64 td):=(h45).cell 3;have fcd3:=(h45).frozen 3;have cd4:w5.cell? ⟨g4,4,none⟩=some (.bool ti):=(h45).cell 4;have fcd4:=(h45).frozen 4;have cd5:w5.cell? ⟨g4,5,none⟩=some (.bool tid):=(h45).cell 5;have fcd5:=(h45).frozen 5;have lcd:=(h45).lt;have HB5:=Q1 hb5;clear hb5 h45;go_wp2_with fail
   ((with_reducible refine(HCL.out _).mono ?_);rintro e w7 ⟨rfl,hb7⟩)
   have HB7:=Q1 (Qu HB5.out (Qc hb7 none) (fun _ e=>by cases e));have h27:=HB2.out.below HB7.out HB2.out.lt;have ce0:w7.cell? ⟨g2,0,none⟩=some (.int .i64 0):=(h27).cell 0;have fce0:=(h27).frozen 0;have ce1:w7.cell? ⟨g2,1,none⟩=some (.int .i64 0):=(h27).cell 1;have fce1:=(h27).frozen 1;have ce2:w7.cell? ⟨g2,2,none⟩=some (.int .i64 0):=(h27).cell 2;have fce2:=(h27).frozen 2;have ce3:w7.cell? ⟨g2,3,none⟩=some (.int .i64 0):=(h27).cell 3;have fce3:=(h27).frozen 3;have ce4:w7.cell? ⟨g2,4,none⟩=some (.slice none 0 0):=(h27).cell 4;have fce4:=(h27).frozen 4;have lce:=(h27).lt;have H27:=Q1 h27;clear hb7 h27
   have hok:bz=Y.isSome:=by
    rw[HYK.out,← hbz2]
    by_cases hu:U=0
    · subst hu;rfl
    · rw[if_neg hu,decide_eq_true (by omega)];rfl
   have HOK:=Q1 hok;clear hok
   have hEE:∀ E,Y=some E→Pa (tn,td) (U:Int)=E:=fun E hE=>by
    rw[HYK.out]at hE
    by_cases hu:U=0
    · rw[if_pos hu]at hE;cases hE
    · rw[if_neg hu]at hE;exact Q8 hE
   go_wp2_with fail;have hputs:=(H27.out).put5 (.int .i64 1) (.int .i64 (Je (tn,td)).1) (.int .i64 (Je (tn,td)).2) (.int .i64 (U:Int)) (.slice none 0 0);refine bodyPost_ret (v:=.tuple #[.agg #[.int .i64 1,.int .i64 (Je (tn,td)).1,.int .i64 (Je (tn,td)).2,.int .i64 (U:Int),.slice none 0 0],.bool bz]) ?_ rfl ?_
   · refine Zj Tryz.results131 ?_ ?_ hputs rfl
     all_goals rfl
   · exact HFIN.out _ _ w7 _ HOK.out ⟨_,_,_,_,_,_,_,rfl⟩ (fun E hE=>by rw[← hEE E hE];exact P9 _ HI.out (Z1 _ (by omega)) w7) HB7.out (Qm [.int .i64 1,.int .i64 (Je (tn,td)).1,.int .i64 (Je (tn,td)).2,.int .i64 (U:Int),.slice none 0 0] w7 g2 0)
 obtain⟨L,hLd⟩:∃ L,U6 tt=L:=⟨_,rfl⟩
 have his:=fun(s:List UInt8) (hs:s.length≤9223372036854775807) (w:World)=>Q1o tk tn td 2 tt s ti tid oa N cap w HT.out hs
 have hq:∀ (s c:List UInt8),c=U6 s→(tk==2&&Ga tt s)=decide (tk=2∧L=c):=fun s c e=>by
  unfold Ga;rw[e,hLd,Qt];simp
 obtain⟨c1,hc1⟩:∃ c,decide (tk=2∧L=Cq)=c:=⟨_,rfl⟩;obtain⟨c2,hc2⟩:∃ c,decide (tk=2∧L=Q64)=c:=⟨_,rfl⟩;obtain⟨c3,hc3⟩:∃ c,decide (tk=2∧L=Q66)=c:=⟨_,rfl⟩;obtain⟨c4,hc4⟩:∃ c,decide (tk=2∧L=Ps)=c:=⟨_,rfl⟩;have HC1:=Q1 (fun w=>by have h:=his [99,97,108,99] (by simp) w;rw[hq _ Cq (by decide),hc1]at h;exact h);have HC2:=Q1 (fun w=>by have h:=his [109,105,110] (by simp) w;rw[hq _ Q64 (by decide),hc2]at h;exact h);have HC3:=Q1 (fun w=>by have h:=his [109,97,120] (by simp) w;rw[hq _ Q66 (by decide),hc3]at h;exact h);have HC4:=Q1 (fun w=>by have h:=his [99,108,97,109,112] (by simp) w;rw[hq _ Ps (by decide),hc4]at h;exact h);have HCD:=Q1 (Q3 hc1 (Q3 hc2 (Q3 hc3 hc4)));have HLD:=Q1 hLd;have HBw4:=Q1 (Below.refl w4.heap.size w4)
 have q10:(tk==(10:Int))=false:=by simpa using hk10
 have q12:(tk==(12:Int))=false:=by simpa using hk12
 clear his hq hLd hc1 hc2 hc3 hc4;go_wp2_with fail
 ((with_reducible refine(HC1.out _).mono ?_);rintro e w5 ⟨rfl,hb5⟩)
 have HBw5:=Q1 (Qu HBw4.out (Qc hb5 none) (fun _ e=>by cases e));have h15:=HB1.out.below HBw5.out HB1.out.lt;have cw50:w5.cell? ⟨g1,0,none⟩=some (.int .i64 tk):=(h15).cell 0;have fcw50:=(h15).frozen 0;have cw51:w5.cell? ⟨g1,1,none⟩=some (.string ⟨tt.toArray⟩):=(h15).cell 1;have fcw51:=(h15).frozen 1;have cw52:w5.cell? ⟨g1,2,none⟩=some (.int .i64 tn):=(h15).cell 2;have fcw52:=(h15).frozen 2;have cw53:w5.cell? ⟨g1,3,none⟩=some (.int .i64 td):=(h15).cell 3;have fcw53:=(h15).frozen 3;have cw54:w5.cell? ⟨g1,4,none⟩=some (.bool ti):=(h15).cell 4;have fcw54:=(h15).frozen 4;have cw55:w5.cell? ⟨g1,5,none⟩=some (.bool tid):=(h15).cell 5;have fcw55:=(h15).frozen 5;have cw56:w5.cell? ⟨g1,6,none⟩=some (.slice oa N cap):=(h15).cell 6;have fcw56:=(h15).frozen 6;have lcw5:=(h15).lt;clear hb5 h15
 cases c1 with
 | true =>
   have hk2:tk=2∧L=Cq:=by simpa using HCD.out.1
   have hYk:W XL=Y:=by rw[← HY.out,K8,if_neg hk10,if_neg hk12,if_pos hk2.1,if_pos (by rw[HLD.out];exact hk2.2)]
   have hwc:=hW kids oa cap b o w5 (HKV.out.below HBw5.out);rw[HK.out.2.2,HK.out.2.1,HK.out.1,hYk]at hwc;have HC:=Q1 hwc;clear hwc hYk hk2;go_wp2_with fail
   ((with_reducible refine HC.out.mono ?_);rintro e w6 ⟨⟨v,ok,rfl,hok,h5,hE⟩,hbb⟩)
   obtain⟨vk,vn,vd,vu,voa,vL,vc,rfl⟩:=h5;have HB6:=Q1 (Qu HBw5.out (Qc hbb none) (fun _ e=>by cases e));have h26:=HB2.out.below HB6.out HB2.out.lt;have cf0:w6.cell? ⟨g2,0,none⟩=some (.int .i64 0):=(h26).cell 0;have fcf0:=(h26).frozen 0;have cf1:w6.cell? ⟨g2,1,none⟩=some (.int .i64 0):=(h26).cell 1;have fcf1:=(h26).frozen 1;have cf2:w6.cell? ⟨g2,2,none⟩=some (.int .i64 0):=(h26).cell 2;have fcf2:=(h26).frozen 2;have cf3:w6.cell? ⟨g2,3,none⟩=some (.int .i64 0):=(h26).cell 3;have fcf3:=(h26).frozen 3;have cf4:w6.cell? ⟨g2,4,none⟩=some (.slice none 0 0):=(h26).cell 4;have fcf4:=(h26).frozen 4;have lcf:=(h26).lt;have hw45:=HBw5.out.size;have HE:=Q1 (Q3 hok hE);have H26:=Q1 h26;clear h26 hok hE hbb;go_wp2_with fail;have hputs:=(H26.out).put5 (.int .i64 vk) (.int .i64 vn) (.int .i64 vd) (.int .i64 vu) (.slice voa vL vc)
   refine bodyPost_ret (v:=.tuple #[.agg #[.int .i64 vk,.int .i64 vn,.int .i64 vd,.int .i64 vu,.slice voa vL vc],.bool ok]) ?_ rfl ?_
   · refine Zj Tryz.results131 ?_ ?_ hputs rfl
     all_goals rfl
   · exact HFIN.out _ _ w6 _ HE.out.1 ⟨_,_,_,_,_,_,_,rfl⟩ (fun E hE=>(HE.out.2 E hE).anti fun b hb=>Or.inl (show b<w5.heap.size by have hb:b<w4.heap.size:=hb;omega)) HB6.out (Qm [.int .i64 vk,.int .i64 vn,.int .i64 vd,.int .i64 vu,.slice voa vL vc] w6 g2 0)
 | false =>
   go_upto_block 1 with fail
   go_cut [6] from 44 to 52 (fun s wx=>∃ k:Int,s=.int .i64 k∧Hid (k=6∨k=7∨k=8)∧Hid (tk=2∧Gg L=k∧L≠Cq)∧Hid (Below w4.heap.size w4 wx))
   case first =>
    go_wp2_with fail
    ((with_reducible refine(HC2.out _).mono ?_);rintro e w6 ⟨rfl,hb5⟩)
    have HBw6:=Q1 (Qu HBw5.out (Qc hb5 none) (fun _ e=>by cases e));have h15:=HB1.out.below HBw6.out HB1.out.lt;have cw60:w6.cell? ⟨g1,0,none⟩=some (.int .i64 tk):=(h15).cell 0;have fcw60:=(h15).frozen 0;have cw61:w6.cell? ⟨g1,1,none⟩=some (.string ⟨tt.toArray⟩):=(h15).cell 1;have fcw61:=(h15).frozen 1;have cw62:w6.cell? ⟨g1,2,none⟩=some (.int .i64 tn):=(h15).cell 2;have fcw62:=(h15).frozen 2;have cw63:w6.cell? ⟨g1,3,none⟩=some (.int .i64 td):=(h15).cell 3;have fcw63:=(h15).frozen 3;have cw64:w6.cell? ⟨g1,4,none⟩=some (.bool ti):=(h15).cell 4;have fcw64:=(h15).frozen 4;have cw65:w6.cell? ⟨g1,5,none⟩=some (.bool tid):=(h15).cell 5;have fcw65:=(h15).frozen 5;have cw66:w6.cell? ⟨g1,6,none⟩=some (.slice oa N cap):=(h15).cell 6;have fcw66:=(h15).frozen 6;have lcw6:=(h15).lt;clear hb5 h15
    cases c2 with
    | true =>
      go_wp2_with fail;go_meet;exact⟨6,rfl,Q1 (by omega),Q1 (by have h:=HCD.out.2.1;rw[decide_eq_true_eq]at h;exact⟨h.1,by rw[h.2];decide,by rw[h.2];decide⟩),HBw6⟩
    | false =>
      go_wp2_with fail
      ((with_reducible refine(HC3.out _).mono ?_);rintro e w7 ⟨rfl,hb5⟩)
      have HBw7:=Q1 (Qu HBw6.out (Qc hb5 none) (fun _ e=>by cases e));have h15:=HB1.out.below HBw7.out HB1.out.lt;have cw70:w7.cell? ⟨g1,0,none⟩=some (.int .i64 tk):=(h15).cell 0;have fcw70:=(h15).frozen 0;have cw71:w7.cell? ⟨g1,1,none⟩=some (.string ⟨tt.toArray⟩):=(h15).cell 1;have fcw71:=(h15).frozen 1;have cw72:w7.cell? ⟨g1,2,none⟩=some (.int .i64 tn):=(h15).cell 2;have fcw72:=(h15).frozen 2;have cw73:w7.cell? ⟨g1,3,none⟩=some (.int .i64 td):=(h15).cell 3;have fcw73:=(h15).frozen 3;have cw74:w7.cell? ⟨g1,4,none⟩=some (.bool ti):=(h15).cell 4;have fcw74:=(h15).frozen 4;have cw75:w7.cell? ⟨g1,5,none⟩=some (.bool tid):=(h15).cell 5;have fcw75:=(h15).frozen 5;have cw76:w7.cell? ⟨g1,6,none⟩=some (.slice oa N cap):=(h15).cell 6;have fcw76:=(h15).frozen 6;have lcw7:=(h15).lt;clear hb5 h15
      cases c3 with
      | true =>
        go_wp2_with fail;go_meet;exact⟨7,rfl,Q1 (by omega),Q1 (by have h:=HCD.out.2.2.1;rw[decide_eq_true_eq]at h;exact⟨h.1,by rw[h.2];decide,by rw[h.2];decide⟩),HBw7⟩
      | false =>
        go_wp2_with fail
        ((with_reducible refine(HC4.out _).mono ?_);rintro e w8 ⟨rfl,hb5⟩)
        have HBw8:=Q1 (Qu HBw7.out (Qc hb5 none) (fun _ e=>by cases e));have h15:=HB1.out.below HBw8.out HB1.out.lt;have cw80:w8.cell? ⟨g1,0,none⟩=some (.int .i64 tk):=(h15).cell 0;have fcw80:=(h15).frozen 0;have cw81:w8.cell? ⟨g1,1,none⟩=some (.string ⟨tt.toArray⟩):=(h15).cell 1;have fcw81:=(h15).frozen 1;have cw82:w8.cell? ⟨g1,2,none⟩=some (.int .i64 tn):=(h15).cell 2;have fcw82:=(h15).frozen 2;have cw83:w8.cell? ⟨g1,3,none⟩=some (.int .i64 td):=(h15).cell 3;have fcw83:=(h15).frozen 3;have cw84:w8.cell? ⟨g1,4,none⟩=some (.bool ti):=(h15).cell 4;have fcw84:=(h15).frozen 4;have cw85:w8.cell? ⟨g1,5,none⟩=some (.bool tid):=(h15).cell 5;have fcw85:=(h15).frozen 5;have cw86:w8.cell? ⟨g1,6,none⟩=some (.slice oa N cap):=(h15).cell 6;have fcw86:=(h15).frozen 6;have lcw8:=(h15).lt;clear hb5 h15
        cases c4 with
        | true =>
          go_wp2_with fail;go_meet;exact⟨8,rfl,Q1 (by omega),Q1 (by have h:=HCD.out.2.2.2;rw[decide_eq_true_eq]at h;exact⟨h.1,by rw[h.2];decide,by rw[h.2];decide⟩),HBw8⟩
        | false =>
          have h28:=HB2.out.below HBw8.out HB2.out.lt;have cz0:w8.cell? ⟨g2,0,none⟩=some (.int .i64 0):=(h28).cell 0;have fcz0:=(h28).frozen 0;have cz1:w8.cell? ⟨g2,1,none⟩=some (.int .i64 0):=(h28).cell 1;have fcz1:=(h28).frozen 1;have cz2:w8.cell? ⟨g2,2,none⟩=some (.int .i64 0):=(h28).cell 2;have fcz2:=(h28).frozen 2;have cz3:w8.cell? ⟨g2,3,none⟩=some (.int .i64 0):=(h28).cell 3;have fcz3:=(h28).frozen 3;have cz4:w8.cell? ⟨g2,4,none⟩=some (.slice none 0 0):=(h28).cell 4;have fcz4:=(h28).frozen 4;have lcz:=(h28).lt;have H28:=Q1 h28;clear h28
          have hYk:Y=none:=by
           have h:=HCD.out;simp only[decide_eq_false_iff_not]at h;rw[← HY.out,K8,if_neg hk10,if_neg hk12]
           by_cases hk2:tk=2
           · rw[if_pos hk2,HLD.out,if_neg (fun e=>h.1 ⟨hk2,e⟩),if_pos (by unfold Gg;rw[if_neg (fun e=>h.2.1 ⟨hk2,e⟩),if_neg (fun e=>h.2.2.1 ⟨hk2,e⟩),if_neg (fun e=>h.2.2.2 ⟨hk2,e⟩)])]
           · rw[if_neg hk2]
          go_wp2_with fail;have hputs:=(H28.out).put5 (.int .i64 0) (.int .i64 0) (.int .i64 0) (.int .i64 0) (.slice none 0 0);refine bodyPost_ret (v:=.tuple #[.agg #[.int .i64 0,.int .i64 0,.int .i64 0,.int .i64 0,.slice none 0 0],.bool false]) ?_ rfl ?_
          · refine Zj Tryz.results131 ?_ ?_ hputs rfl
            all_goals rfl
          · exact HFIN.out _ _ w8 _ (by first|rfl | (rw[hYk];rfl)) ⟨_,_,_,_,_,_,_,rfl⟩ (fun E hE=>by first | (cases hE;done) | (rw[hYk]at hE;cases hE)) HBw8.out (Qm [.int .i64 0,.int .i64 0,.int .i64 0,.int .i64 0,.slice none 0 0] w8 g2 0)
   case rest =>
    obtain⟨k,rfl,hk,hkA,hbc⟩:=hcut;obtain rfl:tk=2:=hkA.out.1;have hkS:=Q1 hkA.out.2.1;have hnc:=Q1 hkA.out.2.2;have HB5:=hbc;have H15:=Q1 (HB1.out.below hbc.out HB1.out.lt);have H25:=Q1 (HB2.out.below hbc.out HB2.out.lt);have HKV5:=Q1 (HKV.out.safe.below hbc.out);have hw45:=hbc.out.size
    have HYK:=Q1 (show Y=if L=Cq then W XL else if Gg L=0 then none else match N5 W (Y0 XL) with
     | none=>none
     | some es=>if Gg L=8∧es.length≠3 then none else some (.mk (Gg L) 0 0 0 es) from by
     rw[← HY.out,K8,if_neg (show ¬ (2:Int)=10 by decide),if_neg (show ¬ (2:Int)=12 by decide),if_pos rfl,HLD.out]
     rfl)
    clear hkA hbc HCD HC1 HC2 HC3 HC4;obtain⟨P,hP⟩:∃ P,Y0 XL=P:=⟨_,rfl⟩
    have hY2:Y=K5 W k [] P:=by
     rw[HYK.out,if_neg hnc.out,if_neg (by rw[hkS.out];have:=hk.out;omega),hkS.out,hP];rfl
    have HY2:=Q1 hY2;clear hY2
    go_upto_region 18 with fail
    have h26:=H25.out.old (.cells #[.int .i64 k,.int .i64 0,.int .i64 0,.int .i64 0,.slice none 0 0] 32);have h16:=H15.out.old (.cells #[.int .i64 k,.int .i64 0,.int .i64 0,.int .i64 0,.slice none 0 0] 32);have h66:=Ql.new wc 32 #[.int .i64 k,.int .i64 0,.int .i64 0,.int .i64 0,.slice none 0 0];have hb6:=Qu HB5.out (Qc (Q7 wc (.cells #[.int .i64 k,.int .i64 0,.int .i64 0,.int .i64 0,.slice none 0 0] 32)) none) (fun _ e=>by cases e);have hsp:=Rp (A:=(w4.heap.size≤·)) h kids oa cap b o _ (HKV5.out.below (Q7 wc (.cells #[.int .i64 k,.int .i64 0,.int .i64 0,.int .i64 0,.slice none 0 0] 32)));rw[HK.out.2.1,HK.out.1,hP]at hsp;have HSP:=Q1 hsp;have HP:=Q1 hP;have H66:=Q1 h66;have H26:=Q1 h26;have HB6:=Q1 hb6
    have hw56:(wc.alloc (.cells #[.int .i64 k,.int .i64 0,.int .i64 0,.int .i64 0,.slice none 0 0] 32)).heap.size=wc.heap.size+1:=by simp
    have HW56:=Q1 hw56;clear hw56 hsp h66 h26 hb6 HKV5 hP;obtain⟨g6,hg6⟩:∃ g6,wc.heap.size=g6:=⟨_,rfl⟩;have HG6:=Q1 hg6;rw[hg6]at H66 hw45;simp only[hg6];clear hg6;generalize wc.alloc _=w6 at *;have cf0:w6.cell? ⟨g1,0,none⟩=some (.int .i64 2):=(h16).cell 0;have fcf0:=(h16).frozen 0;have cf1:w6.cell? ⟨g1,1,none⟩=some (.string ⟨tt.toArray⟩):=(h16).cell 1;have fcf1:=(h16).frozen 1;have cf2:w6.cell? ⟨g1,2,none⟩=some (.int .i64 tn):=(h16).cell 2;have fcf2:=(h16).frozen 2;have cf3:w6.cell? ⟨g1,3,none⟩=some (.int .i64 td):=(h16).cell 3;have fcf3:=(h16).frozen 3;have cf4:w6.cell? ⟨g1,4,none⟩=some (.bool ti):=(h16).cell 4;have fcf4:=(h16).frozen 4;have cf5:w6.cell? ⟨g1,5,none⟩=some (.bool tid):=(h16).cell 5;have fcf5:=(h16).frozen 5;have cf6:w6.cell? ⟨g1,6,none⟩=some (.slice oa N cap):=(h16).cell 6;have fcf6:=(h16).frozen 6;have lcf:=(h16).lt;clear h16;go_wp2_with fail
    ((with_reducible refine HSP.out.mono ?_);rintro e w7 ⟨⟨pv,rfl,poa,pcap,pb,D,rfl,hDP,hsl,hps⟩,hb67⟩)
    have hM1:P.length≤N+1:=by
     rw[← HP.out,← HK.out.1];have h:=Y2 XL [];rw[← HK.out.2.1,Qj]at h;unfold Y0;rw[← HK.out.2.1];omega
    obtain⟨M,hM⟩:∃ M,D.length=M:=⟨_,rfl⟩
    have hMN:M≤N+1:=by omega
    have HSL:=Q1 hsl;have HPS:=Q1 hps;have HD:=Q1 (Q3 hM (hDP.symm.trans hM));have hcl7:=hsl.here.le;have hcm7:=hsl.here.max;unfold maxLen at hcm7;rw[hM]at hcl7;simp only[hM];have h67:=hb67.size;have H67:=Q1 (H66.out.below hb67 H66.out.lt);have H27:=Q1 (H26.out.below hb67 H26.out.lt);have HB7:=Q1 (Qu HB6.out (Qc hb67 none) (fun _ e=>by cases e));have hg67:g6<w6.heap.size:=H66.out.lt;have hg24:g2<w4.heap.size:=HB2.out.lt;clear hM hsl hps hDP hM1 hb67 HSP H66 H26 HB6 H15 H25;go_wp2_with fail
    go_loopg [60] M (fun q s60 wr=>∃ (i:Nat) (E:List Ex) (v:Value),s60=.int .i64 (i:Int)∧i≤M∧Hid (w7.grownBy wr (some g6))∧Hid (wr.ownsRow w7.heap.size 32 5 v E.length (E.flatMap J6))∧Hid (Ql wr g6 32 #[.int .i64 k,.int .i64 0,.int .i64 0,.int .i64 0,v]) ∧
     Hid (∃ hh,J3 (fun b=>b<w7.heap.size∨v.ownBlock=some b) wr fun w=>∀ x∈E,Zy w hh x)∧Hid (E.length=i)∧Hid (Y=K5 W k (E.map Ex.c) (P.drop i))∧M-i≤q)
    case atStart=>exact⟨0,[],.slice none 0 0,rfl,Qs _,Q1 (Vy _ _),Q1 (World.ownsRow_nil _ _ _ _),H67,Q1 ⟨0,fun _ _ _ _ hx=>by cases hx⟩,Q1 rfl,HY2,by omega⟩
    case round =>
     obtain⟨i,E,v,rfl,hiM,hg,hO,h6,hS,hE,hY,hq⟩:=hrel;have h7r:=hg.out.size;have hr2:=Q1 (show Ql wr g2 32 #[.int .i64 0,.int .i64 0,.int .i64 0,.int .i64 0,.slice none 0 0] from (hg.out.block g2 H27.out.lt (fun e=>by have e:=Q8 e;omega)).trans H27.out)
     by_cases hi:i<M
     · have gi:decide ((i:Int)<(M:Int))=true:=by simp;omega
       have ij0:(0:Int)≤(i:Int):=Int.natCast_nonneg _
       have ijM:(i:Int)<(M:Int):=by omega
       have hil:i<D.length:=by rw[HD.out.1];exact hi
       have hip:i<P.length:=by rw[HD.out.2];exact hi
       obtain⟨s,hs⟩:∃ s,D[i]?=some s:=⟨_,Q9 hil⟩;obtain⟨X,hX⟩:∃ X,P[i]?=some X:=⟨_,Q9 hip⟩
       have hdrop:P.drop i=X::P.drop (i+1):=by
        rw[Q9 hip]at hX
        injection hX with hX
        rw[← hX];exact Qv hip
       have hv:=(HPS.out i s X hs hX).grown hg.out (fun k e _=>by have e:=Q8 e;show w4.heap.size≤k;omega);obtain⟨oa',cap',b',o',l',rfl,hc',hs'⟩:=hv;have hslr:=(HSL.out.grown hg.out (fun k e _=>by have e:=Q8 e;show k<w6.heap.size;omega)).here;have hcell:=hslr.cell i _ hs;obtain⟨rfl,hpb⟩:=hslr.lies (by omega);rw[Nat.zero_add]at hcell;have hwc:=hW l' oa' cap' b' o' wr hs'.here;rw[HK.out.2.2,hc']at hwc;obtain⟨N',hN'⟩:∃ N',l'.length=N':=⟨_,rfl⟩;rw[hN']at hwc hcell;obtain⟨r,hr⟩:∃ r,W X=r:=⟨_,rfl⟩;rw[hr]at hwc;have HWC:=Q1 hwc;have HR:=Q1 hr;have HDR:=Q1 hdrop;clear hwc hr hdrop hil hip hs hX hc' hs' hslr hN';go_wp2_with fail
       ((with_reducible refine HWC.out.mono ?_);rintro e w8 ⟨⟨ev,ok,rfl,hok,h5,hE8⟩,hb8⟩)
       obtain⟨vk,vn,vd,vu,voa,vL,vc,rfl⟩:=h5;have HE8:=Q1 (Q3 hok hE8);have hr8:=hb8.size;have HG8:=Q1 (Z7 hg.out (Qc hb8 _));have HO8:=Q1 (Jc hO.out hb8);have H68:=Q1 (h6.out.below hb8 h6.out.lt);have H28:=Q1 (hr2.out.below hb8 hr2.out.lt)
       have HS8:=Q1 (show ∃ hh,J3 (fun b=>b<w7.heap.size∨v.ownBlock=some b) w8 fun w=>∀ x∈E,Zy w hh x from by
        obtain⟨hh,hs⟩:=hS.out
        exact⟨hh,hs.below hb8⟩)
       have HV7:=Q1 (show ∀ b,v.ownBlock=some b→w7.heap.size≤b∧b<wr.heap.size from fun b e=>hO.out.lt b e);clear hok hE8 hb8 hg hO h6 hr2 hS HWC hcell
       go_upto_region 22 with fail
       have hg9:=Q1 (Z7 HG8.out (Qc (Q7 w8 (.cells #[.int .i64 vk,.int .i64 vn,.int .i64 vd,.int .i64 vu,.slice voa vL vc] 32)) _));have ho9:=Q1 (HO8.out.alloc (.cells #[.int .i64 vk,.int .i64 vn,.int .i64 vd,.int .i64 vu,.slice voa vL vc] 32));have h69:=Q1 (H68.out.old (.cells #[.int .i64 vk,.int .i64 vn,.int .i64 vd,.int .i64 vu,.slice voa vL vc] 32));have h29:=Q1 (H28.out.old (.cells #[.int .i64 vk,.int .i64 vn,.int .i64 vd,.int .i64 vu,.slice voa vL vc] 32));have h99:=Ql.new w8 32 #[.int .i64 vk,.int .i64 vn,.int .i64 vd,.int .i64 vu,.slice voa vL vc]
       have hs9:=Q1 (show ∃ hh,J3 (fun b=>b<w7.heap.size∨v.ownBlock=some b) (w8.alloc (.cells #[.int .i64 vk,.int .i64 vn,.int .i64 vd,.int .i64 vu,.slice voa vL vc] 32)) fun w=>∀ x∈E,Zy w hh x from by
        obtain⟨hh,hs⟩:=HS8.out
        exact⟨hh,hs.alloc _⟩)
       have he9:=Q1 (Q3 HE8.out.1 (fun E2 hE2=>(HE8.out.2 E2 hE2).below (Q7 w8 (.cells #[.int .i64 vk,.int .i64 vn,.int .i64 vd,.int .i64 vu,.slice voa vL vc] 32))))
       have hw89:w8.heap.size≤(w8.alloc (.cells #[.int .i64 vk,.int .i64 vn,.int .i64 vd,.int .i64 vu,.slice voa vL vc] 32)).heap.size:=by simp
       clear HG8 HO8 H68 H28 HS8 HE8;generalize w8.heap.size=g9 at *;generalize w8.alloc _=w9 at *;have cg0:w9.cell? ⟨g9,0,none⟩=some (.int .i64 vk):=(h99).cell 0;have fcg0:=(h99).frozen 0;have cg1:w9.cell? ⟨g9,1,none⟩=some (.int .i64 vn):=(h99).cell 1;have fcg1:=(h99).frozen 1;have cg2:w9.cell? ⟨g9,2,none⟩=some (.int .i64 vd):=(h99).cell 2;have fcg2:=(h99).frozen 2;have cg3:w9.cell? ⟨g9,3,none⟩=some (.int .i64 vu):=(h99).cell 3;have fcg3:=(h99).frozen 3;have cg4:w9.cell? ⟨g9,4,none⟩=some (.slice voa vL vc):=(h99).cell 4;have fcg4:=(h99).frozen 4;have lcg:=(h99).lt;have ch0:w9.cell? ⟨g6,0,none⟩=some (.int .i64 k):=(h69.out).cell 0;have fch0:=(h69.out).frozen 0;have ch1:w9.cell? ⟨g6,1,none⟩=some (.int .i64 0):=(h69.out).cell 1;have fch1:=(h69.out).frozen 1;have ch2:w9.cell? ⟨g6,2,none⟩=some (.int .i64 0):=(h69.out).cell 2;have fch2:=(h69.out).frozen 2
       have ch3:w9.cell? ⟨g6,3,none⟩=some (.int .i64 0):=(h69.out).cell 3;have fch3:=(h69.out).frozen 3;have ch4:w9.cell? ⟨g6,4,none⟩=some (v):=(h69.out).cell 4;have fch4:=(h69.out).frozen 4;have lch:=(h69.out).lt;have ci0:w9.cell? ⟨g2,0,none⟩=some (.int .i64 0):=(h29.out).cell 0;have fci0:=(h29.out).frozen 0;have ci1:w9.cell? ⟨g2,1,none⟩=some (.int .i64 0):=(h29.out).cell 1;have fci1:=(h29.out).frozen 1;have ci2:w9.cell? ⟨g2,2,none⟩=some (.int .i64 0):=(h29.out).cell 2;have fci2:=(h29.out).frozen 2;have ci3:w9.cell? ⟨g2,3,none⟩=some (.int .i64 0):=(h29.out).cell 3;have fci3:=(h29.out).frozen 3;have ci4:w9.cell? ⟨g2,4,none⟩=some (.slice none 0 0):=(h29.out).cell 4;have fci4:=(h29.out).frozen 4;have lci:=(h29.out).lt;clear h99
       cases r with
       | none =>
         obtain rfl:ok=false:=he9.out.1
         have hYk:Y=none:=by rw[hY.out,HDR.out,Lo HR.out]
         go_wp2_with fail;have hputs:=(h29.out).put5 (.int .i64 0) (.int .i64 0) (.int .i64 0) (.int .i64 0) (.slice none 0 0);refine bodyPost_ret (v:=.tuple #[.agg #[.int .i64 0,.int .i64 0,.int .i64 0,.int .i64 0,.slice none 0 0],.bool false]) ?_ rfl ?_
         · refine Zj Tryz.results131 ?_ ?_ hputs rfl
           all_goals rfl
         · exact HFIN.out _ _ w9 _ (by rw[hYk];rfl) ⟨_,_,_,_,_,_,_,rfl⟩ (fun E hE=>by rw[hYk]at hE;cases hE) (Qu HB7.out hg9.out (fun k e=>by have e:=Q8 e;omega)) (Qm [.int .i64 0,.int .i64 0,.int .i64 0,.int .i64 0,.slice none 0 0] w9 g2 0)
       | some E2 =>
         obtain rfl:ok=true:=he9.out.1;obtain⟨x2,hx2,hxv,hxc,hxs⟩:=he9.out.2 E2 rfl;have HX2:=Q1 (Q3 hxv (Q3 hxc hxs));clear hxv hxc hxs he9
         go_upto_region 24 with fail
         have hbs:=Q1 (show w7.heap.size≤w9.heap.size from hg9.out.size);have hEi:E.length≤i:=Qr hE.out;go_wp2_with (at_builtin;refine J4 Dd rfl _ _ rfl rfl (ho9.out.alloc _) (by have:=hbs.out;simp;omega) (Ql.new w9 _ _) 1 rfl rfl (by simp[Value.oneCell']) (by omega) (by omega) ?_;intro gg cap3 wA hoA hgA hatA hvbA;have HA:=Q1 (Q3 hoA (Q3 hgA (Q3 hatA hvbA)));have ch4':=(hgA.cell_far (a:=⟨g6,4,none⟩) (by simp;omega) (fun e=>by have:=(HV7.out g6 e.symm).1;omega)).trans ((Below.cell (B:=w9.heap.size) (Q7 w9 _) lch).trans ch4);have fch4':=(hgA.frozen_far (a:=⟨g6,4,none⟩) (by simp;omega) (fun e=>by have:=(HV7.out g6 e.symm).1;omega)).trans ((Below.frozen (B:=w9.heap.size) (Q7 w9 _) lch).trans fch4);clear hoA hgA hatA hvbA)
         go_roundg (M-(i+1))
         case measure=>omega
         case rel =>
          obtain⟨hoA,hgA,hatA,_⟩:=HA.out
          have hxcl:J6 x2=[.int .i64 vk,.int .i64 vn,.int .i64 vd,.int .i64 vu,.slice voa vL vc]:=by
           have e:=HX2.out.1;unfold xv at e
           injection e with e
           have:=congrArg Array.toList e;simpa using this.symm
          obtain⟨a1,a2,a3,a4⟩:=Q07 (B3:=wr.heap.size) hg9.out (by omega) h69.out HV7.out h7r (by omega) hs9.out (HX2.out.2.2.wide (A':=fun b=>b<wr.heap.size∨w9.heap.size≤b) fun b hb=>hb) hoA hxcl (show World.grownBy _ _ v.ownBlock from hgA) (show v.ownBlock=some gg∨_ from hatA);refine⟨i+1,E++[x2],_,by go_num,hi,Q1 a1,Q1 a2,Q1 a3,Q1 a4,Q1 (by rw[Qd,hE.out];rfl),Q1 ?_,Q6 _⟩;rw[hY.out,HDR.out,Ln HR.out,Zp,List.map_cons,List.map_nil,HX2.out.2.1]
     · have gi:decide ((i:Int)<(M:Int))=false:=by simp;omega
       obtain rfl:i=M:=by omega
       have hYe:Y=if k=8∧(E.map Ex.c).length≠3 then none else some (.mk k 0 0 0 (E.map Ex.c)):=by
        rw[hY.out,Z3 (by rw[HD.out.2];exact Q6 _)];unfold K5 N5;simp only[List.append_nil]
       have HYE:=Q1 hYe;obtain⟨voa,vcap,gv,rfl,hsl,hpos⟩:=Zx hO.out
       have hex:Jk (· < w4.heap.size) (.mk k 0 0 0 (E.map Ex.c)) (.agg #[.int .i64 k,.int .i64 0,.int .i64 0,.int .i64 0,.slice voa E.length vcap]) wr:=by
        obtain⟨hh,hs⟩:=hS.out;refine⟨.mk k 0 0 0 voa gv 0 vcap E,hh+1,rfl,Ex.c_mk _ _ _ _ _ _ _ _ _,Zy.made (Z1 _ (by have:=hk.out;omega)) (by unfold U2;decide) (Z1 _ (by decide)) (by have:=hE.out;omega) hsl (fun hp hb=>?_) (hs.anti fun b hb _=>Or.inl ?_)⟩
        · have:=hpos hp;omega
        · have hb:b<w4.heap.size:=hb;omega
       have HXE:=Q1 hex;have hEl:(E.map Ex.c).length=E.length:=Qj _;have HEL:=Q1 hEl;have HELM:=Q1 hE.out;obtain⟨EL,hEL⟩:∃ EL,E.length=EL:=⟨_,rfl⟩;rw[hEL]at h6 HXE HEL HELM;clear hYe hex hsl hpos hEl hEL hO hS hY;have ch0:wr.cell? ⟨g6,0,none⟩=some (.int .i64 k):=(h6.out).cell 0;have fch0:=(h6.out).frozen 0;have ch1:wr.cell? ⟨g6,1,none⟩=some (.int .i64 0):=(h6.out).cell 1;have fch1:=(h6.out).frozen 1;have ch2:wr.cell? ⟨g6,2,none⟩=some (.int .i64 0):=(h6.out).cell 2;have fch2:=(h6.out).frozen 2;have ch3:wr.cell? ⟨g6,3,none⟩=some (.int .i64 0):=(h6.out).cell 3;have fch3:=(h6.out).frozen 3;have ch4:wr.cell? ⟨g6,4,none⟩=some (.slice voa EL vcap):=(h6.out).cell 4;have fch4:=(h6.out).frozen 4;have lch:=(h6.out).lt;have ci0:wr.cell? ⟨g2,0,none⟩=some (.int .i64 0):=(hr2.out).cell 0;have fci0:=(hr2.out).frozen 0
       have ci1:wr.cell? ⟨g2,1,none⟩=some (.int .i64 0):=(hr2.out).cell 1;have fci1:=(hr2.out).frozen 1;have ci2:wr.cell? ⟨g2,2,none⟩=some (.int .i64 0):=(hr2.out).cell 2;have fci2:=(hr2.out).frozen 2;have ci3:wr.cell? ⟨g2,3,none⟩=some (.int .i64 0):=(hr2.out).cell 3;have fci3:=(hr2.out).frozen 3;have ci4:wr.cell? ⟨g2,4,none⟩=some (.slice none 0 0):=(hr2.out).cell 4;have fci4:=(hr2.out).frozen 4;have lci:=(hr2.out).lt
       have hn26:¬ g6=g2:=by omega
       have hn62:¬ g2=g6:=by omega
       clear h6
       go_upto_region 26 with fail
       have hk3:=hk.out
       rcases hk3 with rfl|rfl|rfl
       · refine wp_region_held_drew (S:=(fun w'=>w'.cell? ⟨g6,0,none⟩=some (.int .i64 6)∧w'.cell? ⟨g6,1,none⟩=some (.int .i64 0)∧w'.cell? ⟨g6,2,none⟩=some (.int .i64 0)∧w'.cell? ⟨g6,3,none⟩=some (.int .i64 0)∧w'.cell? ⟨g6,4,none⟩=some (.slice voa EL vcap))) (by kernel_rfl) (by (try dsimp only);go_keep) (fun hHeld=>?_);refine wpAnyH_take (i:=0) (v:=?hvv0_1) rfl (by kernel_rfl) (by kernel_rfl) (by kernel_rfl) (fun _ _ _ h=>h) (Or.inl ⟨by rfl,?hhy0_1⟩) (by assumption) ?_
         case hhy0_1=>(intro w hSw;(try dsimp only at hSw);go_simp;try with_reducible rfl)
         change wpAnyH _ _ _ _ _ _ _ (Act.put _ (some 79) _) _
         try simp only[Act.put,Q2,Q4,Q5]
         refine wpAnyH_take (i:=1) (v:=?hvv1_2) rfl (by kernel_rfl) (by kernel_rfl) (by kernel_rfl) (fun _ _ _ h=>h) (Or.inl ⟨by rfl,?hhy1_2⟩) (by assumption) ?_
         case hhy1_2=>(intro w hSw;(try dsimp only at hSw);go_simp;try with_reducible rfl)
         change wpAnyH _ _ _ _ _ _ _ (Act.put _ (some 80) _) _
         try simp only[Act.put,Q2,Q4,Q5]
         refine wpAnyH_take (i:=2) (v:=?hvv2_3) rfl (by kernel_rfl) (by kernel_rfl) (by kernel_rfl) (fun _ _ _ h=>h) (Or.inl ⟨by rfl,?hhy2_3⟩) (by assumption) ?_
         case hhy2_3=>(intro w hSw;(try dsimp only at hSw);go_simp;try with_reducible rfl)
         change wpAnyH _ _ _ _ _ _ _ (Act.put _ (some 81) _) _
         try simp only[Act.put,Q2,Q4,Q5]
         refine wpAnyH_take (i:=3) (v:=?hvv3_4) rfl (by kernel_rfl) (by kernel_rfl) (by kernel_rfl) (fun _ _ _ h=>h) (Or.inl ⟨by rfl,?hhy3_4⟩) (by assumption) ?_
         case hhy3_4=>(intro w hSw;(try dsimp only at hSw);go_simp;try with_reducible rfl)
         change wpAnyH _ _ _ _ _ _ _ (Act.put _ (some 82) _) _
         try simp only[Act.put,Q2,Q4,Q5]
         refine wpAnyH_take (i:=4) (v:=undef) rfl (by kernel_rfl) (by kernel_rfl) (by kernel_rfl) (fun _ _ _ h=>h) (Or.inr ⟨by rfl,rfl⟩) (by assumption) ?_;change wpAnyH _ _ _ _ _ _ _ (Act.put _ (some 83) _) _
         try simp only[Act.put,Q2,Q4,Q5]
         refine wpAnyH_take (i:=5) (v:=undef) rfl (by kernel_rfl) (by kernel_rfl) (by kernel_rfl) (fun _ _ _ h=>h) (Or.inr ⟨by rfl,rfl⟩) (by assumption) ?_;change wpAnyH _ _ _ _ _ _ _ (Act.put _ (some 84) _) _
         try simp only[Act.put,Q2,Q4,Q5]
         refine wpAnyH_take (i:=6) (v:=undef) rfl (by kernel_rfl) (by kernel_rfl) (by kernel_rfl) (fun _ _ _ h=>h) (Or.inr ⟨by rfl,rfl⟩) (by assumption) ?_;change wpAnyH _ _ _ _ _ _ _ (Act.put _ (some 85) _) _
         try simp only[Act.put,Q2,Q4,Q5]
         refine wpAnyH_take (i:=7) (v:=undef) rfl (by kernel_rfl) (by kernel_rfl) (by kernel_rfl) (fun _ _ _ h=>h) (Or.inr ⟨by rfl,rfl⟩) (by assumption) ?_;change wpAnyH _ _ _ _ _ _ _ (Act.put _ (some 86) _) _
         try simp only[Act.put,Q2,Q4,Q5]
         refine wpAnyH_take (i:=8) (v:=?hvv8_5) rfl (by kernel_rfl) (by kernel_rfl) (by kernel_rfl) (fun _ _ _ h=>h) (Or.inl ⟨by rfl,?hhy8_5⟩) (by assumption) ?_
         case hhy8_5=>(intro w hSw;(try dsimp only at hSw);go_simp;try with_reducible rfl)
         change wpAnyH _ _ _ _ _ _ _ (Act.put _ (some 87) _) _
         try simp only[Act.put,Q2,Q4,Q5]
         refine wpAnyH_ready (rs:=[9]) (by kernel_rfl) (by simp) ?_;refine AllReadyH.cons rfl (fun K hK=>?_) AllReadyH.nil
         go_simp
         refine hK.out _ _ (by (try dsimp only);go_keep) (fun hHeld=>?_);clear hK K;refine wpAnyH_take (i:=10) (v:=?hvv10_6) rfl (by kernel_rfl) (by kernel_rfl) (by kernel_rfl) (fun _ _ _ h=>h) (Or.inl ⟨by rfl,?hhy10_6⟩) (by assumption) ?_
         case hhy10_6=>(intro w hSw;(try dsimp only at hSw);go_simp;try with_reducible rfl)
         change wpAnyH _ _ _ _ _ _ _ (Act.put _ (some 3) _) _
         try simp only[Act.put,Q2,Q4,Q5]
         refine wpAnyH_done (by kernel_rfl) ?_ _;go_wp2_with fail
         have hYk:Y=some (.mk 6 0 0 0 (E.map Ex.c)):=by rw[HYE.out,if_neg (by omega)]
         have hputs:=Jy (hr2.out.put5 (.int .i64 6) (.int .i64 0) (.int .i64 0) (.int .i64 0) (.slice voa EL vcap));refine bodyPost_ret (v:=.tuple #[.agg #[.int .i64 6,.int .i64 0,.int .i64 0,.int .i64 0,.slice voa EL vcap],.bool true]) ?_ rfl ?_
         · refine Zj Tryz.results131 ?_ ?_ hputs rfl
           all_goals rfl
         · exact HFIN.out _ _ wr _ (by rw[hYk];rfl) ⟨_,_,_,_,_,_,_,rfl⟩ (fun E2 hE2=>by rw[hYk]at hE2;injection hE2 with hE2;subst hE2;exact HXE.out) (Qu HB7.out hg.out (fun k e=>by have e:=Q8 e;omega)) (Vd (Qm [.int .i64 6,.int .i64 0,.int .i64 0,.int .i64 0,.slice voa EL vcap] wr g2 0))
       · refine wp_region_held_drew (S:=(fun w'=>w'.cell? ⟨g6,0,none⟩=some (.int .i64 7)∧w'.cell? ⟨g6,1,none⟩=some (.int .i64 0)∧w'.cell? ⟨g6,2,none⟩=some (.int .i64 0)∧w'.cell? ⟨g6,3,none⟩=some (.int .i64 0)∧w'.cell? ⟨g6,4,none⟩=some (.slice voa EL vcap))) (by kernel_rfl) (by (try dsimp only);go_keep) (fun hHeld=>?_);refine wpAnyH_take (i:=0) (v:=?hvv0_7) rfl (by kernel_rfl) (by kernel_rfl) (by kernel_rfl) (fun _ _ _ h=>h) (Or.inl ⟨by rfl,?hhy0_7⟩) (by assumption) ?_
         case hhy0_7=>(intro w hSw;(try dsimp only at hSw);go_simp;try with_reducible rfl)
         change wpAnyH _ _ _ _ _ _ _ (Act.put _ (some 79) _) _
         try simp only[Act.put,Q2,Q4,Q5]
         refine wpAnyH_take (i:=1) (v:=?hvv1_8) rfl (by kernel_rfl) (by kernel_rfl) (by kernel_rfl) (fun _ _ _ h=>h) (Or.inl ⟨by rfl,?hhy1_8⟩) (by assumption) ?_
         case hhy1_8=>(intro w hSw;(try dsimp only at hSw);go_simp;try with_reducible rfl)
         change wpAnyH _ _ _ _ _ _ _ (Act.put _ (some 80) _) _
         try simp only[Act.put,Q2,Q4,Q5]
         refine wpAnyH_take (i:=2) (v:=?hvv2_9) rfl (by kernel_rfl) (by kernel_rfl) (by kernel_rfl) (fun _ _ _ h=>h) (Or.inl ⟨by rfl,?hhy2_9⟩) (by assumption) ?_
         case hhy2_9=>(intro w hSw;(try dsimp only at hSw);go_simp;try with_reducible rfl)
         change wpAnyH _ _ _ _ _ _ _ (Act.put _ (some 81) _) _
         try simp only[Act.put,Q2,Q4,Q5]
         refine wpAnyH_take (i:=3) (v:=?hvv3_10) rfl (by kernel_rfl) (by kernel_rfl) (by kernel_rfl) (fun _ _ _ h=>h) (Or.inl ⟨by rfl,?hhy3_10⟩) (by assumption) ?_
         case hhy3_10=>(intro w hSw;(try dsimp only at hSw);go_simp;try with_reducible rfl)
         change wpAnyH _ _ _ _ _ _ _ (Act.put _ (some 82) _) _
         try simp only[Act.put,Q2,Q4,Q5]
         refine wpAnyH_take (i:=4) (v:=undef) rfl (by kernel_rfl) (by kernel_rfl) (by kernel_rfl) (fun _ _ _ h=>h) (Or.inr ⟨by rfl,rfl⟩) (by assumption) ?_;change wpAnyH _ _ _ _ _ _ _ (Act.put _ (some 83) _) _
         try simp only[Act.put,Q2,Q4,Q5]
         refine wpAnyH_take (i:=5) (v:=undef) rfl (by kernel_rfl) (by kernel_rfl) (by kernel_rfl) (fun _ _ _ h=>h) (Or.inr ⟨by rfl,rfl⟩) (by assumption) ?_;change wpAnyH _ _ _ _ _ _ _ (Act.put _ (some 84) _) _
         try simp only[Act.put,Q2,Q4,Q5]
         refine wpAnyH_take (i:=6) (v:=undef) rfl (by kernel_rfl) (by kernel_rfl) (by kernel_rfl) (fun _ _ _ h=>h) (Or.inr ⟨by rfl,rfl⟩) (by assumption) ?_;change wpAnyH _ _ _ _ _ _ _ (Act.put _ (some 85) _) _
         try simp only[Act.put,Q2,Q4,Q5]
         refine wpAnyH_take (i:=7) (v:=undef) rfl (by kernel_rfl) (by kernel_rfl) (by kernel_rfl) (fun _ _ _ h=>h) (Or.inr ⟨by rfl,rfl⟩) (by assumption) ?_;change wpAnyH _ _ _ _ _ _ _ (Act.put _ (some 86) _) _
         try simp only[Act.put,Q2,Q4,Q5]
         refine wpAnyH_take (i:=8) (v:=?hvv8_11) rfl (by kernel_rfl) (by kernel_rfl) (by kernel_rfl) (fun _ _ _ h=>h) (Or.inl ⟨by rfl,?hhy8_11⟩) (by assumption) ?_
         case hhy8_11=>(intro w hSw;(try dsimp only at hSw);go_simp;try with_reducible rfl)
         change wpAnyH _ _ _ _ _ _ _ (Act.put _ (some 87) _) _
         try simp only[Act.put,Q2,Q4,Q5]
         refine wpAnyH_ready (rs:=[9]) (by kernel_rfl) (by simp) ?_;refine AllReadyH.cons rfl (fun K hK=>?_) AllReadyH.nil
         go_simp
         refine hK.out _ _ (by (try dsimp only);go_keep) (fun hHeld=>?_);clear hK K;refine wpAnyH_take (i:=10) (v:=?hvv10_12) rfl (by kernel_rfl) (by kernel_rfl) (by kernel_rfl) (fun _ _ _ h=>h) (Or.inl ⟨by rfl,?hhy10_12⟩) (by assumption) ?_
         case hhy10_12=>(intro w hSw;(try dsimp only at hSw);go_simp;try with_reducible rfl)
         change wpAnyH _ _ _ _ _ _ _ (Act.put _ (some 3) _) _
         try simp only[Act.put,Q2,Q4,Q5]
         refine wpAnyH_done (by kernel_rfl) ?_ _;go_wp2_with fail
         have hYk:Y=some (.mk 7 0 0 0 (E.map Ex.c)):=by rw[HYE.out,if_neg (by omega)]
         have hputs:=Jy (hr2.out.put5 (.int .i64 7) (.int .i64 0) (.int .i64 0) (.int .i64 0) (.slice voa EL vcap));refine bodyPost_ret (v:=.tuple #[.agg #[.int .i64 7,.int .i64 0,.int .i64 0,.int .i64 0,.slice voa EL vcap],.bool true]) ?_ rfl ?_
         · refine Zj Tryz.results131 ?_ ?_ hputs rfl
           all_goals rfl
         · exact HFIN.out _ _ wr _ (by rw[hYk];rfl) ⟨_,_,_,_,_,_,_,rfl⟩ (fun E2 hE2=>by rw[hYk]at hE2;injection hE2 with hE2;subst hE2;exact HXE.out) (Qu HB7.out hg.out (fun k e=>by have e:=Q8 e;omega)) (Vd (Qm [.int .i64 7,.int .i64 0,.int .i64 0,.int .i64 0,.slice voa EL vcap] wr g2 0))
       · refine wp_region_held_drew (S:=(fun w'=>w'.cell? ⟨g6,0,none⟩=some (.int .i64 8)∧w'.cell? ⟨g6,1,none⟩=some (.int .i64 0)∧w'.cell? ⟨g6,2,none⟩=some (.int .i64 0)∧w'.cell? ⟨g6,3,none⟩=some (.int .i64 0)∧w'.cell? ⟨g6,4,none⟩=some (.slice voa EL vcap))) (by kernel_rfl) (by (try dsimp only);go_keep) (fun hHeld=>?_);refine wpAnyH_take (i:=0) (v:=?hvv0_13) rfl (by kernel_rfl) (by kernel_rfl) (by kernel_rfl) (fun _ _ _ h=>h) (Or.inl ⟨by rfl,?hhy0_13⟩) (by assumption) ?_
         case hhy0_13=>(intro w hSw;(try dsimp only at hSw);go_simp;try with_reducible rfl)
         change wpAnyH _ _ _ _ _ _ _ (Act.put _ (some 79) _) _
         try simp only[Act.put,Q2,Q4,Q5]
         refine wpAnyH_take (i:=1) (v:=?hvv1_14) rfl (by kernel_rfl) (by kernel_rfl) (by kernel_rfl) (fun _ _ _ h=>h) (Or.inl ⟨by rfl,?hhy1_14⟩) (by assumption) ?_
         case hhy1_14=>(intro w hSw;(try dsimp only at hSw);go_simp;try with_reducible rfl)
         change wpAnyH _ _ _ _ _ _ _ (Act.put _ (some 80) _) _
         try simp only[Act.put,Q2,Q4,Q5]
         refine wpAnyH_take (i:=2) (v:=?hvv2_15) rfl (by kernel_rfl) (by kernel_rfl) (by kernel_rfl) (fun _ _ _ h=>h) (Or.inl ⟨by rfl,?hhy2_15⟩) (by assumption) ?_
         case hhy2_15=>(intro w hSw;(try dsimp only at hSw);go_simp;try with_reducible rfl)
         change wpAnyH _ _ _ _ _ _ _ (Act.put _ (some 81) _) _
         try simp only[Act.put,Q2,Q4,Q5]
         refine wpAnyH_take (i:=3) (v:=?hvv3_16) rfl (by kernel_rfl) (by kernel_rfl) (by kernel_rfl) (fun _ _ _ h=>h) (Or.inl ⟨by rfl,?hhy3_16⟩) (by assumption) ?_
         case hhy3_16=>(intro w hSw;(try dsimp only at hSw);go_simp;try with_reducible rfl)
         change wpAnyH _ _ _ _ _ _ _ (Act.put _ (some 82) _) _
         try simp only[Act.put,Q2,Q4,Q5]
         refine wpAnyH_take (i:=4) (v:=?hvv4_17) rfl (by kernel_rfl) (by kernel_rfl) (by kernel_rfl) (fun _ _ _ h=>h) (Or.inl ⟨by rfl,?hhy4_17⟩) (by assumption) ?_
         case hhy4_17=>(intro w hSw;(try dsimp only at hSw);go_simp;try with_reducible rfl)
         change wpAnyH _ _ _ _ _ _ _ (Act.put _ (some 83) _) _
         try simp only[Act.put,Q2,Q4,Q5]
         refine wpAnyH_take (i:=5) (v:=?hvv5_18) rfl (by kernel_rfl) (by kernel_rfl) (by kernel_rfl) (fun _ _ _ h=>h) (Or.inl ⟨by rfl,?hhy5_18⟩) (by assumption) ?_
         case hhy5_18=>(intro w hSw;(try dsimp only at hSw);go_simp;try with_reducible rfl)
         change wpAnyH _ _ _ _ _ _ _ (Act.put _ (some 84) _) _
         try simp only[Act.put,Q2,Q4,Q5]
         refine wpAnyH_take (i:=6) (v:=?hvv6_19) rfl (by kernel_rfl) (by kernel_rfl) (by kernel_rfl) (fun _ _ _ h=>h) (Or.inl ⟨by rfl,?hhy6_19⟩) (by assumption) ?_
         case hhy6_19=>(intro w hSw;(try dsimp only at hSw);go_simp;try with_reducible rfl)
         change wpAnyH _ _ _ _ _ _ _ (Act.put _ (some 85) _) _
         try simp only[Act.put,Q2,Q4,Q5]
         refine wpAnyH_take (i:=7) (v:=?hvv7_20) rfl (by kernel_rfl) (by kernel_rfl) (by kernel_rfl) (fun _ _ _ h=>h) (Or.inl ⟨by rfl,?hhy7_20⟩) (by assumption) ?_
         case hhy7_20=>(intro w hSw;(try dsimp only at hSw);go_simp;try with_reducible rfl)
         change wpAnyH _ _ _ _ _ _ _ (Act.put _ (some 86) _) _
         try simp only[Act.put,Q2,Q4,Q5]
         refine wpAnyH_take (i:=8) (v:=?hvv8_21) rfl (by kernel_rfl) (by kernel_rfl) (by kernel_rfl) (fun _ _ _ h=>h) (Or.inl ⟨by rfl,?hhy8_21⟩) (by assumption) ?_
         case hhy8_21=>(intro w hSw;(try dsimp only at hSw);go_simp;try with_reducible rfl)
         change wpAnyH _ _ _ _ _ _ _ (Act.put _ (some 87) _) _
         try simp only[Act.put,Q2,Q4,Q5]
         refine wpAnyH_ready (rs:=[9]) (by kernel_rfl) (by simp) ?_;refine AllReadyH.cons rfl (fun K hK=>?_) AllReadyH.nil
         go_simp
         refine hK.out _ _ (by (try dsimp only);go_keep) (fun hHeld=>?_);clear hK K;refine wpAnyH_take (i:=10) (v:=?hvv10_22) rfl (by kernel_rfl) (by kernel_rfl) (by kernel_rfl) (fun _ _ _ h=>h) (Or.inl ⟨by rfl,?hhy10_22⟩) (by assumption) ?_
         case hhy10_22=>(intro w hSw;(try dsimp only at hSw);go_simp;try with_reducible rfl)
         change wpAnyH _ _ _ _ _ _ _ (Act.put _ (some 3) _) _
         try simp only[Act.put,Q2,Q4,Q5]
         refine wpAnyH_done (by kernel_rfl) ?_ _;go_wp2_with fail
         have hok:((EL:Int)==3)=Y.isSome:=by
          rw[HYE.out,HEL.out]
          by_cases he:EL=3
          · subst he;rfl
          · rw[if_pos ⟨by trivial,he⟩,beq_eq_false_iff_ne.2 (by omega)];rfl
         have hYk:∀ E2,Y=some E2→E2=.mk 8 0 0 0 (E.map Ex.c):=fun E2 hE2=>by
          rw[HYE.out,HEL.out]at hE2
          by_cases he:EL=3
          · rw[if_neg (by omega)]at hE2;exact(Q8 hE2).symm
          · rw[if_pos ⟨by trivial,he⟩]at hE2
            cases hE2
         have hputs:=Jy (hr2.out.put5 (.int .i64 8) (.int .i64 0) (.int .i64 0) (.int .i64 0) (.slice voa EL vcap));refine bodyPost_ret (v:=.tuple #[.agg #[.int .i64 8,.int .i64 0,.int .i64 0,.int .i64 0,.slice voa EL vcap],.bool ((EL:Int)==3)]) ?_ rfl ?_
         · refine Zj Tryz.results131 ?_ ?_ hputs rfl
           all_goals rfl
         · exact HFIN.out _ _ wr _ hok ⟨_,_,_,_,_,_,_,rfl⟩ (fun E2 hE2=>by rw[hYk E2 hE2];exact HXE.out) (Qu HB7.out hg.out (fun k e=>by have e:=Q8 e;omega)) (Vd (Qm [.int .i64 8,.int .i64 0,.int .i64 0,.int .i64 0,.slice voa EL vcap] wr g2 0))
end Go.Proofs.YtnanffmhbjdpaaaGreatDoor
namespace Go.Proofs.YtnanffmhbjdpaaaGreatDoor
set_option maxHeartbeats 8000000
set_option maxRecDepth 20000
set_option linter.unusedVariables false
set_option linter.unusedSimpArgs false
open Go.RowKit Go.Lib
theorem Ti (m:List UInt8) (w:World) (hm:m.length≤maxLen):∃ (cap:Nat) (w1:World),(convert 9 46 (.string ⟨m.toArray⟩)).run Tryz.prog w=.ok (.slice (some ⟨w.heap.size,0,none⟩) m.length cap) w1∧Below w.heap.size w w1 ∧
  Sl w1 (some ⟨w.heap.size,0,none⟩) m.length cap w.heap.size 0 1 (Xv m):=by
 have h:=run_bytes_of_string (P:=Tryz.prog) w 9 46 5 ⟨m.toArray⟩ Tryz.underlying9 Tryz.underlying46 Tryz.underlying5;have hge:=grownCap_ge w m.length 0 5;have hcm:=grownCap_le_maxLen w m.length 0 5 hm;refine⟨_,_,h,((Below.refl _ _).drew.alloc (Q6 _) _),by simp[Xv],hge,hcm,fun _=>⟨rfl,by simp⟩,fun i v hv=>?_⟩
 have hi:i<m.length:=by have:=(Qn.1 hv).1;simpa[Xv] using this
 rw[Eb hi]at hv;obtain rfl:=Q8 hv;rw[Nat.zero_add,cell_of_row _ w.heap.size i _ _ _ (heap_alloc_new w.drew _)];exact bytesRow_at ⟨m.toArray⟩ _ i hi
end Go.Proofs.YtnanffmhbjdpaaaGreatDoor
