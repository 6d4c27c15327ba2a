/- Of my texts: RefD, RefE, RefF, CdSame. -/
import Derived.Test.YtnanffmhbjdpaaaGreatDoorM00
import Derived.Test.YtnanffmhbjdpaaaGreatDoorM05
import Derived.Test.YtnanffmhbjdpaaaGreatDoorM14
import Derived.Test.YtnanffmhbjdpaaaGreatDoorM22
import Derived.Test.YtnanffmhbjdpaaaGreatDoorM23
import Derived.Test.YtnanffmhbjdpaaaGreatDoorM27
namespace Go.Proofs.YtnanffmhbjdpaaaGreatDoor
set_option maxHeartbeats 8000000
set_option maxRecDepth 20000
set_option linter.unusedVariables false
set_option linter.unusedSimpArgs false
open Go.RowKit
theorem Og {read:List Vt→Option Et} {cut:Nat→Bool} {l:List Vt} {turn:List UInt8} {k:Int} {n i s:Nat} {o:Bool} (h:i<l.length∧cut i=false):Ye read cut l turn k (n+1) i s o=Ye read cut l turn k n (i+1) s o:=by rw[Ye,if_pos h]
theorem F8 {read:List Vt→Option Et} {cut:Nat→Bool} {l:List Vt} {turn:List UInt8} {k:Int} {n i s:Nat} {o:Bool} (h:¬ (i<l.length∧cut i=false)) (hr:read ((l.take i).drop s)=none):Ye read cut l turn k (n+1) i s o=none:=by rw[Ye,if_neg h,hr]
theorem Md {read:List Vt→Option Et} {cut:Nat→Bool} {l:List Vt} {turn:List UInt8} {k:Int} {n i s:Nat} {o:Bool} {e:Et} (h:¬ (i<l.length∧cut i=false)) (hr:read ((l.take i).drop s)=some e) :
 Ye read cut l turn k (n+1) i s o=(Ye read cut l turn k n (i+1) (i+1) ((l[i]?.map Xy).getD []==turn)).map ((if o then .mk k 0 0 0 [e] else e)::·):=by rw[Ye,if_neg h,hr]
theorem Q06 {w7 w8 w9:World} {B3 gg cap3 h2:Nat} {D:List Ex} {x2:Ex} {v:Value} {O:Obj} {xs:List Value}
  (hg8:Below w7.heap.size w7 w8) (hv7:∀ b,v.ownBlock=some b→w7.heap.size≤b∧b<B3) (h73:w7.heap.size≤B3) (h38:B3≤w8.heap.size)
  (hS:∃ hh,J3 (fun b=>b<w7.heap.size∨v.ownBlock=some b) w8 fun w=>∀ x∈D,Zy w hh x)
  (hx:J3 (· < B3) w8 fun w=>Zy w h2 x2)
  (ho:w9.ownsRow w7.heap.size 32 5 (.slice (some ⟨gg,0,none⟩) (D.length+1) cap3) (D.length+1) (D.flatMap J6++xs)) (hxs:J6 x2=xs)
  (hg:(w8.alloc O).grownBy w9 v.ownBlock) (hat:v.ownBlock=some gg∨gg=(w8.alloc O).heap.size) :
  Below w7.heap.size w7 w9 ∧
  w9.ownsRow w7.heap.size 32 5 (.slice (some ⟨gg,0,none⟩) (D.length+1) cap3) (D++[x2]).length ((D++[x2]).flatMap J6) ∧
  (∃ hh,J3 (fun b=>b<w7.heap.size∨(Value.slice (some ⟨gg,0,none⟩) (D.length+1) cap3).ownBlock=some b) w9 fun w=>∀ x∈D++[x2],Zy w hh x):=by
 have hs8:(w8.alloc O).heap.size=w8.heap.size+1:=by simp
 have hG:w8.grownBy w9 v.ownBlock:=Z7 (Qc (Q7 w8 O) _) hg;have h78:=hg8.size;refine⟨Qu hg8 hG (fun k e=>(hv7 k e).1),?_,?_⟩
 · rw[Qd,List.flatMap_append,Zd,hxs];exact ho
 · obtain⟨hh,hS⟩:=hS;refine⟨max hh h2,?_⟩
   have hA:∀ b,(b<w7.heap.size∨(Value.slice (some ⟨gg,0,none⟩) (D.length+1) cap3).ownBlock=some b)→(b<w7.heap.size∨v.ownBlock=some b)∨w8.heap.size≤b:=by
    intro b hb
    rcases hb with hb|hb
    · exact Or.inl (Or.inl hb)
    · have e:gg=b:=Q8 hb;subst e
      rcases hat with h|h
      · exact Or.inl (Or.inr h)
      · exact Or.inr (by omega)
   have s1:=((hS.wide (A':=fun b=>(b<w7.heap.size∨v.ownBlock=some b)∨w8.heap.size≤b) fun b h=>h).grown hG (fun k e _=>Or.inl (Or.inr e))).anti fun b hb _=>hA b hb
   have s2:=((hx.wide (A':=fun b=>b<B3∨w8.heap.size≤b) fun b h=>h).grown hG (fun k e _=>Or.inl (hv7 k e).2)).anti (A':=fun b=>b<w7.heap.size∨(Value.slice (some ⟨gg,0,none⟩) (D.length+1) cap3).ownBlock=some b) fun b hb _=>by
    rcases hA b hb with (hb|hb) | hb
    · exact Or.inl (by omega)
    · exact Or.inl (hv7 b hb).2
    · exact Or.inr hb
   exact (s1.and s2).mono fun w ⟨a,c⟩ x hm=>by
    rcases Zh.1 hm with hm|hm
    · exact Wa _ _ (Nat.le_max_left _ _) (a x hm)
    · obtain rfl:=Qh.1 hm;exact Wa _ _ (Nat.le_max_right _ _) c
theorem Q03 {w7:World} {g4 B3 h2:Nat} {kk:Int} {x2:Ex} {V:Array Value} {cs:List Value} (hV:J6 x2=V.toList) (hsz:V.size=5) (h4:g4<w7.heap.size) (h37:B3≤w7.heap.size) (hkk:Wj kk)
  (hx:J3 (fun b=>b<B3∨b=g4) w7 fun w=>Zy w h2 x2) :
  J3 (fun b=>b<B3∨b=g4) ((J5 w7 g4 0 cs).alloc (.cells V 32)) fun w=>Zy w (h2+1) (.mk kk 0 0 0 (some ⟨w7.heap.size,0,none⟩) w7.heap.size 0 1 [x2]):=by
 have hpu:=Qm cs w7 g4 0;have hs8:=Jp cs w7 g4 0
 have hs7:((J5 w7 g4 0 cs).alloc (.cells V 32)).heap.size=w7.heap.size+1:=by simp[hs8]
 have B8:Ql ((J5 w7 g4 0 cs).alloc (.cells V 32)) (J5 w7 g4 0 cs).heap.size _ _:=Ql.new (J5 w7 g4 0 cs) 32 V;rw[hs8]at B8;obtain⟨oa,cap,g,hv,hsl,_⟩:=Zx (Vv (base:=0) (n:=1) (size:=5) B8 (Qs _) hsz (by decide))
 injection hv with e1 _ e3
 subst e1 e3;have e4:=(hsl.lies (by omega)).1
 injection e4 with e4
 injection e4 with e4
 subst e4
 have e5:V.toList=[x2].flatMap J6:=by rw[Zd,hV]
 rw[e5]at hsl;refine Zy.made hkk (by unfold U2;decide) (Z1 _ (by decide)) (by simp) hsl (fun _ hb=>?_) ?_
 · omega
 · have s1:=(hx.grown hpu (fun k e _=>Or.inr (Q8 e).symm)).alloc (.cells V 32)
   exact s1.mono fun w hw x hm=>by
    obtain rfl:=Qh.1 hm;exact hw
theorem Dq {x:Ex} {a0 a1 a2 a3 a4:Value} (h:(.agg #[a0,a1,a2,a3,a4]:Value)=xv x):J6 x=[a0,a1,a2,a3,a4]:=by
 unfold xv at h
 injection h with h
 have:=congrArg Array.toList h;simpa using this.symm
def Q0o (h:Nat):Prop:=∀ (l:List Vl) (oa:Option Addr) (cap b o:Nat) (w:World),Zw w h oa cap b o l →
 Calls Tryz.prog 192 #[.slice oa l.length cap] w fun e w'=>Ys (· < w.heap.size) (Kj (Kb Ux h) (l.map Vl.c)) e w'∧Below w.heap.size w w'
theorem Lh (h:Nat) (hX:N1 h) (hSum:∀ h',h=h'+1→R2 h'):Q0o h:=by
 intro l oa cap b o w hs;obtain⟨Y,hY⟩:∃ Y,Kj (Kb Ux h) (l.map Vl.c)=Y:=⟨_,rfl⟩;rw[hY];have hb0:=Q7 w (.cells #[.int .i64 0,.int .i64 0,.int .i64 0,.int .i64 0,.slice none 0 0] 32);have h2:=Ql.new w 32 #[.int .i64 0,.int .i64 0,.int .i64 0,.int .i64 0,.slice none 0 0];have hs7:=hs.below hb0;have H27:=Q1 h2;have HB7:=Q1 hb0;have HX:=Q1 hX;have HSUM:=Q1 hSum;clear hs hb0 h2 hX hSum
 go_enter Tryz.func192,Tryz.ntmps192
 go_upto_region 1 with fail
 obtain⟨g2,hg2⟩:∃ g2,w.heap.size=g2:=⟨_,rfl⟩;have HG:=Q1 hg2;rw[hg2]at H27;simp only[hg2];clear hg2;generalize w.alloc _=w7 at *
 have HFIN:=Q1 (show ∀ (v:Value) (ok:Bool) (wx we:World),ok=Y.isSome→Sh v→(∀ E,Y=some E→Jk (· < w7.heap.size) E v wx)→Below w7.heap.size w7 wx→wx.grownBy we (some g2)→Ys (· < w.heap.size) Y (.returned (.tuple #[v,.bool ok])) we∧Below w.heap.size w we from
  fun v ok wx we h1 h2 h3 h4 h5=>⟨⟨v,ok,rfl,h1,h2,fun E hE=>((h3 E hE).grown h5 (fun k e _=>by injection e with e;have:=H27.out.lt;omega)).anti fun b hb=>Or.inl (by have:=HB7.out.size;have hb:b<w.heap.size:=hb;show b<w7.heap.size;omega)⟩,
   Qu (Qu HB7.out (Qc h4 none) (fun _ e=>by cases e)) h5 (fun k e=>by injection e with e;have:=HG.out;omega)⟩)
 obtain⟨XL,hXL⟩:∃ XL,l.map Vl.c=XL:=⟨_,rfl⟩;obtain⟨N,hN⟩:∃ N,l.length=N:=⟨_,rfl⟩
 have hNX:XL.length=N:=by rw[← hXL,Qj,hN]
 have hsm:=hs7.small;have hcm:=hs7.sl.max;have hcl:=hs7.sl.le;unfold maxLen at hcm;rw[hN]at hsm hcl;have HS:=Q1 hs7;have HN:=Q1 (Q3 hN (Q3 hXL hNX));rw[hXL]at hY
 have hY1:Y=(Ye (Wk (Kb Ux h)) (N8 XL) XL Zi 5 (N+1) 0 0 false).map fun r=>Jm 4 (([]:List Ex).map Ex.c++r):=by
  rw[← hY];unfold Kj;rw[hNX];rfl
 have HY1:=Q1 hY1
 have HT:=Q1 (fun(a c:Nat) (hac:a≤c) (hc:c≤l.length) (wx:World) (hb:Below w7.heap.size w7 wx) =>
  (show (∃ (oa':Option Addr) (c':Nat),oa'=(if cap=a then oa else oa.map (·.add (a*7)))∧c'=cap-a∧Calls Tryz.prog 22 #[.slice oa' (c-a) c'] wx fun e w'=>(∃ v,e=.returned v∧Us (w7.heap.size≤·) h (Z9 ((XL.take c).drop a)) v w')∧Below wx.heap.size wx w') from by
    obtain⟨oa',ho⟩:∃ oa',oa'=(if cap=a then oa else oa.map (·.add (a*7))):=⟨_,rfl⟩;obtain⟨c',hc'⟩:∃ c',c'=cap-a:=⟨_,rfl⟩;refine⟨oa',c',ho,hc',?_⟩;subst ho hc';generalize hoa':(if cap=a then oa else oa.map (·.add (a*7)))=oa';obtain⟨c',hc'⟩:∃ c',cap-a=c':=⟨_,rfl⟩
    have hlen:((l.take c).drop a).length=c-a:=by rw[Zu,Zb];omega
    have hmap:((l.take c).drop a).map Vl.c=(XL.take c).drop a:=by rw[List.map_drop,List.map_take,hXL]
    rw[← hlen,← hmap,hc'];subst hoa' hc'
    exact W0 h ((l.take c).drop a) _ _ b (o+a*7) wx ((hs7.safe.below hb).mono fun _ hz=>hz.part hac hc)))
 simp only[hN];clear hs7 hN hXL hNX hY hY1;go_wp2_with fail
 go_loopg [4,5,6,7] (N+1) (fun q s4 s5 s6 s7 wr=>∃ (i a n:Nat) (ov:Bool) (D:List Ex) (v:Value),v=s4∧s5=.int .i64 (a:Int)∧s6=.bool ov∧s7=.int .i64 (i:Int)∧a≤i∧i≤N+1∧D.length≤i∧n+i=N+1∧Hid (Below w7.heap.size w7 wr) ∧
  Hid (wr.ownsRow w7.heap.size 32 5 v D.length (D.flatMap J6))∧Hid (∃ hh,J3 (fun b=>b<w7.heap.size∨v.ownBlock=some b) wr fun w=>∀ x∈D,Zy w hh x) ∧
  Hid (Y=(Ye (Wk (Kb Ux h)) (N8 XL) XL Zi 5 n i a ov).map fun r=>Jm 4 (D.map Ex.c++r))∧N+1-i≤q)
 case atStart=>exact⟨0,0,N+1,false,[],_,rfl,rfl,rfl,rfl,Q6 _,Qs _,Q6 _,rfl,Q1 (Below.refl _ _),Q1 (World.ownsRow_nil _ _ _ _),Q1 ⟨0,fun _ _ _ _ hx=>by cases hx⟩,HY1,by omega⟩
 case round =>
  obtain⟨i,a,n,ov,D,v,rfl,rfl,rfl,rfl,hai,hiN,hDi,hni,hb,hO,hS,hY,hq⟩:=hrel;have h7r:=hb.out.size
  by_cases hi:i≤N
  · have gi:decide ((i:Int)≤(N:Int))=true:=by simpa using hi
    have gin:decide (i≤N)=true:=by simpa using hi
    obtain⟨n,rfl⟩:∃ n',n=n'+1:=⟨n-1,by omega⟩;have HW:=Q1 (HS.out.below hb.out);have HVB:=Q1 (show ∀ b,v.ownBlock=some b→w7.heap.size≤b∧b<wr.heap.size from fun b e=>hO.out.lt b e)
    go_upto_region 6 with fail
    obtain⟨ct,hct⟩:∃ ct,N8 XL i=ct:=⟨_,rfl⟩;have HCT:=Q1 hct;obtain⟨cb,hcb⟩:∃ cb,(decide (i<N)&&!ct)=cb:=⟨_,rfl⟩;have HCB:=Q1 hcb;clear hcb hct
    go_cut [28] from 17 to 28 (fun s wx=>s=.bool cb∧Hid (Below wr.heap.size wr wx))
    case first =>
     by_cases h1:i<N
     · have gj:decide ((i:Int)<(N:Int))=true:=by simpa using h1
       have gjn:decide (i<N)=true:=by simpa using h1
       have hil:i<l.length:=by rw[HN.out.1];exact h1
       have hli:l[i]?=some l[i]:=Q9 hil;obtain⟨rfl,hbl⟩:=HW.out.sl.lies (by omega);obtain⟨x,hx⟩:∃ x,l[i]=x:=⟨_,rfl⟩;rw[hx]at hli
       have hxl:XL[i]?=some x.c:=by rw[← HN.out.2.1,Z5,hli];rfl
       have hvs:=HW.out;obtain⟨t,koa,kb,ko,kcap,kids⟩:=x;obtain⟨K,hK⟩:∃ K,kids.length=K:=⟨_,rfl⟩;have f0:=hvs.cell hli (j:=0) rfl;have f1:=hvs.cell hli (j:=1) rfl;have f2:=hvs.cell hli (j:=2) rfl;have f3:=hvs.cell hli (j:=3) rfl;have f4:=hvs.cell hli (j:=4) rfl;have f5:=hvs.cell hli (j:=5) rfl;have f6:=hvs.cell hli (j:=6) rfl;rw[Nat.add_zero]at f0;rw[hK]at f6;obtain⟨tk,tt,⟨tn,td⟩,ti,tid⟩:=t;rw[Vl.c_mk]at hxl
       have hsb:(tk==9&&(tt==[42]||tt==[47]))=ct:=by rw[← HCT.out,N8,hxl];rfl
       have hsg:=fun w=>Fo tk tn td tt [42] [47] ti tid koa K kcap w
       simp only[hsb]at hsg;have HSG:=Q1 hsg;clear hvs hli hil hx hxl hK hsb hsg;go_wp2_with fail
       ((with_reducible refine(HSG.out _).mono ?_);rintro e w5 ⟨rfl,hb5⟩)
       have HB5:=Q1 hb5;clear hb5;go_wp2_with fail;go_meet;exact⟨by rw[← HCB.out];simp[h1],HB5⟩
     · have gj:decide ((i:Int)<(N:Int))=false:=by simpa using h1
       have gjn:decide (i<N)=false:=by simpa using h1
       go_wp2_with fail;go_meet;exact⟨by rw[← HCB.out];simp[h1],Q1 (Below.refl _ _)⟩
    obtain⟨rfl,HWC⟩:=hcut
    obtain hcb|hcb:cb=true∨cb=false:=by cases cb<;>simp
    · subst hcb
      have hic:i<N∧ct=false:=by have:=HCB.out;simpa using this
      have hyn:=hY.out;rw[Og (show i<XL.length∧(N8 XL) i=false by rw[HN.out.2.2,HCT.out];exact hic)]at hyn;have HYN:=Q1 hyn;obtain⟨hi2,rfl⟩:=hic;clear hyn;go_wp2_with fail
      go_roundg (N+1-(i+1))
      case measure=>omega
      case rel=>exact⟨i+1,a,n,ov,D,v,rfl,rfl,rfl,by go_num,by omega,by omega,by omega,by omega,Q1 (Qu hb.out (Qc HWC.out none) (fun _ e=>by cases e)),Q1 (Jc hO.out HWC.out),Q1 (by obtain⟨hh,hs⟩:=hS.out;exact⟨hh,hs.below HWC.out⟩),HYN,Q6 _⟩
    subst hcb
    have hic:¬ (i<N∧ct=false):=by
     rintro⟨h1,rfl⟩;have:=HCB.out;simp[h1]at this
    have HNC:=Q1 (show ¬ (i<XL.length∧(N8 XL) i=false) by rw[HN.out.2.2,HCT.out];exact hic)
    have HWAYS:=Q1 (show i<N→ct=true from fun h=>by
     rcases Bool.eq_false_or_eq_true ct with e|e
     · exact e
     · exact absurd ⟨h,e⟩ hic)
    clear hic HCB;obtain⟨r,hr⟩:∃ r,(Wk (Kb Ux h)) ((XL.take i).drop a)=r:=⟨_,rfl⟩;have HR:=Q1 hr;have hrc:=HWC.out.size;clear hr
    go_upto_region 7 with fail
    go_cut [8] from 29 to 33 (fun s wx=>Hid (Us (w7.heap.size≤·) h (Z9 ((XL.take i).drop a)) s wx)∧Hid (Below wr.heap.size wr wx))
    case first =>
     obtain⟨oa',c',hoa',hc',hcall⟩:=HT.out a i hai (by rw[HN.out.1];exact hi) wc (Qu hb.out (Qc HWC.out none) (fun _ e=>by cases e))
     have iai:(a:Int)≤(i:Int):=by omega
     have iic:(i:Int)≤(cap:Int):=by omega
     obtain⟨M,hM⟩:∃ M,i-a=M:=⟨_,rfl⟩;rw[hM]at hcall;go_wp2_with fail
     all_goals
      first
       | (have e:cap=a:=by assumption
          rw[if_pos e]at hoa'
          have hc0:c'=0:=by omega
          rw[hoa',hc0]at hcall
          subst e)
       | (have e:¬ cap=a:=by assumption
          rw[if_neg e]at hoa'
          rw[hoa',hc']at hcall)
      ((with_reducible refine hcall.mono ?_);rintro e w2 ⟨⟨s,rfl,hvs⟩,hbb⟩)
      obtain⟨soa,sn,scap,rfl⟩:=hvs.slice;have HV2:=Q1 hvs;have HB2:=Q1 (Qu HWC.out (Qc hbb none) (fun _ e=>by cases e));clear hvs hbb hcall hoa' hc';go_wp2_with fail;go_meet;exact⟨HV2,HB2⟩
    obtain⟨hv8,HW8⟩:=hcut;obtain⟨oa2,cap2,b2,o2,l2,rfl,hc2,hs2⟩:=hv8.out;have hcm2:=hs2.here.sl.max;have hcl2:=hs2.here.sl.le;unfold maxLen at hcm2;have hr8:=HW8.out.size;clear HWC hrc hv8
    by_cases hl1:l2.length≠1
    · have hYr:r=none:=by
       rw[← HR.out,Wk,← hc2]
       match l2,hl1 with
       | [],_=>rfl
       | [x],h=>exact absurd rfl h
       | x::y::t,_=>rfl
      have hYk:Y=none:=by rw[hY.out,F8 HNC.out (HR.out.trans hYr)];rfl
      have h2p:=H27.out.below (Qu hb.out (Qc HW8.out none) (fun _ e=>by cases e)) H27.out.lt;have ca0:wc.cell? ⟨g2,0,none⟩=some (.int .i64 0):=(h2p).cell 0;have fca0:=(h2p).frozen 0;have ca1:wc.cell? ⟨g2,1,none⟩=some (.int .i64 0):=(h2p).cell 1;have fca1:=(h2p).frozen 1;have ca2:wc.cell? ⟨g2,2,none⟩=some (.int .i64 0):=(h2p).cell 2;have fca2:=(h2p).frozen 2;have ca3:wc.cell? ⟨g2,3,none⟩=some (.int .i64 0):=(h2p).cell 3;have fca3:=(h2p).frozen 3;have ca4:wc.cell? ⟨g2,4,none⟩=some (.slice none 0 0):=(h2p).cell 4;have fca4:=(h2p).frozen 4;have lca:=(h2p).lt;have H2P:=Q1 h2p;obtain⟨L2,hL2⟩:∃ L2,l2.length=L2:=⟨_,rfl⟩;rw[hL2]at hl1 hcl2;simp only[hL2]
      have q1:((L2:Int) != 1)=true:=by simp;omega
      clear h2p hYr hs2 hc2 hL2;go_wp2_with fail;have hputs:=(H2P.out).put5 (.int .i64 0) (.int .i64 0) (.int .i64 0) (.int .i64 0) (.slice none 0 0);refine bodyPost_ret (v:=.tuple #[.agg #[.int .i64 0,.int .i64 0,.int .i64 0,.int .i64 0,.slice none 0 0],.bool false]) ?_ rfl ?_
      · refine Zj Tryz.results192 ?_ ?_ hputs rfl
        all_goals rfl
      · exact HFIN.out _ _ wc _ (by rw[hYk];rfl) ⟨_,_,_,_,_,_,_,rfl⟩ (fun E hE=>by rw[hYk]at hE;cases hE) (Qu hb.out (Qc HW8.out none) (fun _ e=>by cases e)) (Qm [.int .i64 0,.int .i64 0,.int .i64 0,.int .i64 0,.slice none 0 0] wc g2 0)
    obtain⟨x,rfl⟩:=Zo.1 (Decidable.not_not.1 hl1);obtain⟨rfl,hbl⟩:=hs2.here.sl.lies (by simp);have hli:[x][0]?=some x:=rfl;have hvs:=hs2.here;have hvx:=hs2.here.each 0 x hli;have hxp:=HX.out x wc hvx
    have hRf:Kb Ux h x.c=r:=by rw[← HR.out,Wk,← hc2];rfl
    obtain ⟨h',hh⟩:∃ h',h=h'+1:=by
     cases h with
     | zero=>exact hvx.elim
     | succ h'=>exact⟨h',rfl⟩
    obtain⟨t,koa,kb,ko,kcap,kids⟩:=x;obtain⟨K,hK⟩:∃ K,kids.length=K:=⟨_,rfl⟩;have f0:=hvs.cell hli (j:=0) rfl;have f1:=hvs.cell hli (j:=1) rfl;have f2:=hvs.cell hli (j:=2) rfl;have f3:=hvs.cell hli (j:=3) rfl;have f4:=hvs.cell hli (j:=4) rfl;have f5:=hvs.cell hli (j:=5) rfl;have f6:=hvs.cell hli (j:=6) rfl;rw[hK]at f6;simp only[Nat.zero_mul,Nat.add_zero]at f0 f1 f2 f3 f4 f5 f6;obtain⟨tk,tt,⟨tn,td⟩,ti,tid⟩:=t
    have hkids:Zw wc h' koa kcap kb ko kids:=by subst hh;exact hvx.kids
    have hr21:tk=21→Ux (Kb Ux h') (kids.map Vl.c)=r:=fun e=>by subst hh;rw[← hRf,Vl.c_mk,Kb,if_pos e]
    obtain⟨r1,hr1⟩:∃ r1,Cr Ux h (Vl.mk ⟨tk,tt,(tn,td),ti,tid⟩ koa kb ko kcap kids).c=r1:=⟨_,rfl⟩
    have hrn:tk≠21→r1=r:=fun e=>by subst hh;rw[← hRf,← hr1,Vl.c_mk,Kb,if_neg e,Cr]
    have hvv:vv (Vl.mk ⟨tk,tt,(tn,td),ti,tid⟩ koa kb ko kcap kids)=.agg #[.int .i64 tk,.string ⟨tt.toArray⟩,.int .i64 tn,.int .i64 td,.bool ti,.bool tid,.slice koa K kcap]:=by rw[← hK];rfl
    rw[hvv,hr1]at hxp
    have hks:=fun wx (hb:Below wc.heap.size wc wx)=>HSUM.out h' hh kids koa kcap kb ko wx (hkids.below hb)
    simp only[hK]at hks;have HXP:=Q1 hxp;have HKS:=Q1 hks;have HRN:=Q1 hrn;have HR21:=Q1 hr21;simp only[Qi]at hcl2 ⊢;clear hvv hxp hks hK hvs hli hs2 hc2 hRf hr1 hrn hr21 hkids hvx hl1 hh;go_wp2_with fail
    ((with_reducible refine HXP.out.mono ?_);rintro e w4 ⟨⟨ev,ok,rfl,hok,h5,hE⟩,hb4⟩)
    obtain⟨vk,vn,vd,vu,voa,vL,vc,rfl⟩:=h5;have HE4:=Q1 (Q3 hok hE);have hw4:=hb4.size;have HB4:=Q1 hb4;clear hok hE hb4
    go_upto_region 11 with fail
    have h95:=Ql.new w4 32 #[.int .i64 vk,.int .i64 vn,.int .i64 vd,.int .i64 vu,.slice voa vL vc];have hB5:=HB4.out.alloc HB4.out.size (.cells #[.int .i64 vk,.int .i64 vn,.int .i64 vd,.int .i64 vu,.slice voa vL vc] 32)
    have HE5:=Q1 (show ok=r1.isSome∧∀ E,r1=some E→Jk (fun b=>b<wr.heap.size∨b=w4.heap.size) E (.agg #[.int .i64 vk,.int .i64 vn,.int .i64 vd,.int .i64 vu,.slice voa vL vc]) (w4.alloc (.cells #[.int .i64 vk,.int .i64 vn,.int .i64 vd,.int .i64 vu,.slice voa vL vc] 32)) from
     ⟨HE4.out.1,fun E hE=>((HE4.out.2 E hE).anti fun b hb=>by
       rcases hb with hb|hb
       · exact Or.inl (show b<wc.heap.size by omega)
       · exact Or.inr (by omega)).below (Q7 w4 _)⟩)
    have g0:=(hB5.cell (p:=⟨b2,o2,none⟩) hbl).trans f0;have g6:=(hB5.cell (p:=⟨b2,o2+6,none⟩) hbl).trans f6
    have hw45:w4.heap.size<(w4.alloc (.cells #[.int .i64 vk,.int .i64 vn,.int .i64 vd,.int .i64 vu,.slice voa vL vc] 32)).heap.size:=by simp
    have HB5:=Q1 hB5;have H95:=Q1 h95;clear f0 f1 f2 f3 f4 f5 f6 h95 hB5 HE4 HB4 HXP
    have hg9:wr.heap.size≤w4.heap.size:=by omega
    generalize w4.heap.size=g9 at *;generalize w4.alloc _=w5 at *
    go_upto_if 50 with fail
    go_cut [10] from 51 to 58 (fun s wx=>∃ (ok:Bool) (vk vn vd vu:Int) (voa:Option Addr) (vL vc:Nat),s=.bool ok∧Hid (Below wr.heap.size wr wx)∧Hid (Ql wx g9 32 #[.int .i64 vk,.int .i64 vn,.int .i64 vd,.int .i64 vu,.slice voa vL vc])∧Hid (ok=r.isSome∧∀ E,r=some E→Jk (fun b=>b<wr.heap.size∨b=g9) E (.agg #[.int .i64 vk,.int .i64 vn,.int .i64 vd,.int .i64 vu,.slice voa vL vc]) wx))
    case first =>
     by_cases hk:tk=21
     · subst hk;have hkc:=HKS.out w5 HB5.out;rw[HR21.out rfl]at hkc;have HKC:=Q1 hkc;clear hkc;go_wp2_with fail
       ((with_reducible refine HKC.out.mono ?_);rintro e w6 ⟨⟨ev,ok2,rfl,hok2,h5,hE2⟩,hb6⟩)
       obtain⟨yk,yn,yd,yu,yoa,yL,yc,rfl⟩:=h5;have h96:=H95.out.below hb6 H95.out.lt;have hw56:=hb6.size;have hw8:=HB5.out.size;have hpu:=Qm [.int .i64 yk,.int .i64 yn,.int .i64 yd,.int .i64 yu,.slice yoa yL yc] w6 g9 0;have hbm:=Qu (Qu (Qu HW8.out (Qc HB5.out none) (fun _ e=>by cases e)) (Qc hb6 none) (fun _ e=>by cases e)) hpu (fun k e=>by have e:=Q8 e;omega)
       have hex:∀ E,r=some E→Jk (fun b=>b<wr.heap.size∨b=g9) E (.agg #[.int .i64 yk,.int .i64 yn,.int .i64 yd,.int .i64 yu,.slice yoa yL yc]) (J5 w6 g9 0 [.int .i64 yk,.int .i64 yn,.int .i64 yd,.int .i64 yu,.slice yoa yL yc]):=fun E hE=>((hE2 E hE).grown hpu (fun k e _=>by have e:=Q8 e;omega)).anti fun b hb=>Or.inl (by rcases hb with hb|hb<;>omega)
       simp only[J5,Nat.zero_add,Nat.reduceAdd]at hbm hex;have HBM:=Q1 hbm;have HEX:=Q1 (Q3 hok2 hex);have H9M:=Q1 (h96.put5 (.int .i64 yk) (.int .i64 yn) (.int .i64 yd) (.int .i64 yu) (.slice yoa yL yc));have cg0:w6.cell? ⟨g9,0,none⟩=some (.int .i64 vk):=(h96).cell 0;have fcg0:=(h96).frozen 0;have cg1:w6.cell? ⟨g9,1,none⟩=some (.int .i64 vn):=(h96).cell 1;have fcg1:=(h96).frozen 1;have cg2:w6.cell? ⟨g9,2,none⟩=some (.int .i64 vd):=(h96).cell 2;have fcg2:=(h96).frozen 2;have cg3:w6.cell? ⟨g9,3,none⟩=some (.int .i64 vu):=(h96).cell 3;have fcg3:=(h96).frozen 3;have cg4:w6.cell? ⟨g9,4,none⟩=some (.slice voa vL vc):=(h96).cell 4;have fcg4:=(h96).frozen 4;have lcg:=(h96).lt;clear hok2 hE2 hb6 hpu hbm hex h96;go_wp2_with fail;go_meet;exact⟨ok2,yk,yn,yd,yu,yoa,yL,yc,rfl,HBM,H9M,HEX⟩
     · have gk:(tk==(21:Int))=false:=by simpa using hk
       have HEX:=Q1 (HE5.out);rw[HRN.out hk]at HEX;go_wp2_with fail;go_meet;exact⟨ok,vk,vn,vd,vu,voa,vL,vc,rfl,Q1 (Qu HW8.out (Qc HB5.out none) (fun _ e=>by cases e)),H95,HEX⟩
    clear HE5 H95 HB5 HKS HRN HR21 g0 g6 hw45 HW8 hr8;obtain⟨ok,vk,vn,vd,vu,voa,vL,vc,rfl,HWP,H9,HE⟩:=hcut;generalize wc=wp at *;have h2p:=H27.out.below (Qu hb.out (Qc HWP.out none) (fun _ e=>by cases e)) H27.out.lt;have ca0:wp.cell? ⟨g2,0,none⟩=some (.int .i64 0):=(h2p).cell 0;have fca0:=(h2p).frozen 0;have ca1:wp.cell? ⟨g2,1,none⟩=some (.int .i64 0):=(h2p).cell 1;have fca1:=(h2p).frozen 1;have ca2:wp.cell? ⟨g2,2,none⟩=some (.int .i64 0):=(h2p).cell 2;have fca2:=(h2p).frozen 2;have ca3:wp.cell? ⟨g2,3,none⟩=some (.int .i64 0):=(h2p).cell 3;have fca3:=(h2p).frozen 3;have ca4:wp.cell? ⟨g2,4,none⟩=some (.slice none 0 0):=(h2p).cell 4;have fca4:=(h2p).frozen 4;have lca:=(h2p).lt;have H2P:=Q1 h2p;clear h2p
    cases r with
    | none =>
      obtain rfl:ok=false:=HE.out.1
      have hYk:Y=none:=by rw[hY.out,F8 HNC.out HR.out];rfl
      go_wp2_with fail;have hputs:=(H2P.out).put5 (.int .i64 0) (.int .i64 0) (.int .i64 0) (.int .i64 0) (.slice none 0 0);refine bodyPost_ret (v:=.tuple #[.agg #[.int .i64 0,.int .i64 0,.int .i64 0,.int .i64 0,.slice none 0 0],.bool false]) ?_ rfl ?_
      · refine Zj Tryz.results192 ?_ ?_ hputs rfl
        all_goals rfl
      · exact HFIN.out _ _ wp _ (by rw[hYk];rfl) ⟨_,_,_,_,_,_,_,rfl⟩ (fun E hE=>by rw[hYk]at hE;cases hE) (Qu hb.out (Qc HWP.out none) (fun _ e=>by cases e)) (Qm [.int .i64 0,.int .i64 0,.int .i64 0,.int .i64 0,.slice none 0 0] wp g2 0)
    | some E =>
      obtain rfl:ok=true:=HE.out.1;obtain⟨E9,hE9⟩:∃ E9,(if ov=true then Et.mk 5 0 0 0 [E] else E)=E9:=⟨_,rfl⟩
      have HYP:=Q1 (show Y=(Ye (Wk (Kb Ux h)) (N8 XL) XL Zi 5 n (i+1) (i+1) ((XL[i]?.map Xy).getD []==Zi)).map fun r=>Jm 4 (D.map Ex.c++E9::r) from by
       rw[hY.out,Md HNC.out HR.out,Option.map_map,hE9]
       rfl)
      clear hY HR HNC H2P ca0 ca1 ca2 ca3 ca4 fca0 fca1 fca2 fca3 fca4 lca
      go_upto_if 62 with fail
      go_cut [] from 63 to 65 (fun wx=>∃ (yk yn yd yu:Int) (yoa:Option Addr) (yL yc:Nat),Hid (Below wr.heap.size wr wx)∧Hid (Ql wx g9 32 #[.int .i64 yk,.int .i64 yn,.int .i64 yd,.int .i64 yu,.slice yoa yL yc])∧Hid (Jk (fun b=>b<wr.heap.size∨b=g9) E9 (.agg #[.int .i64 yk,.int .i64 yn,.int .i64 yd,.int .i64 yu,.slice yoa yL yc]) wx))
      case first =>
       cases ov with
       | false =>
         have e9:E=E9:=by rw[← hE9];rfl
         clear hE9;go_wp2_with fail;go_meet;exact⟨vk,vn,vd,vu,voa,vL,vc,HWP,H9,Q1 (by rw[← e9];exact HE.out.2 E rfl)⟩
       | true =>
         have e9:Et.mk 5 0 0 0 [E]=E9:=by rw[← hE9];rfl
         obtain⟨x2,hx2,hxv,hxc,hxs⟩:=HE.out.2 E rfl;have hxl2:=Dq hxv;have h9B:=H9.out.lt;have hrp:=HWP.out.size;have hpu:=Qm [.int .i64 5,.int .i64 0,.int .i64 0,.int .i64 0,.slice (some ⟨wp.heap.size,0,none⟩) 1 1] wp g9 0;have hm:=Q03 (kk:=5) (cs:=[.int .i64 5,.int .i64 0,.int .i64 0,.int .i64 0,.slice (some ⟨wp.heap.size,0,none⟩) 1 1]) (V:=#[.int .i64 vk,.int .i64 vn,.int .i64 vd,.int .i64 vu,.slice voa vL vc]) hxl2 rfl h9B hrp (Z1 _ (by decide)) hxs;have hbm:=(Qu HWP.out hpu (fun k e=>by have e:=Q8 e;omega)).alloc (by rw[Jp];omega) (.cells #[.int .i64 vk,.int .i64 vn,.int .i64 vd,.int .i64 vu,.slice voa vL vc] 32);simp only[J5,Nat.zero_add,Nat.reduceAdd]at hm hbm;have HXM:=Q1 (Q3 hm (Q3 hxc e9));have HBM:=Q1 hbm
         have H9M:=Q1 ((H9.out.put5 (.int .i64 5) (.int .i64 0) (.int .i64 0) (.int .i64 0) (.slice (some ⟨wp.heap.size,0,none⟩) 1 1)).old (.cells #[.int .i64 vk,.int .i64 vn,.int .i64 vd,.int .i64 vu,.slice voa vL vc] 32));have h9:=H9.out;have cg0:wp.cell? ⟨g9,0,none⟩=some (.int .i64 vk):=(h9).cell 0;have fcg0:=(h9).frozen 0;have cg1:wp.cell? ⟨g9,1,none⟩=some (.int .i64 vn):=(h9).cell 1;have fcg1:=(h9).frozen 1;have cg2:wp.cell? ⟨g9,2,none⟩=some (.int .i64 vd):=(h9).cell 2;have fcg2:=(h9).frozen 2;have cg3:wp.cell? ⟨g9,3,none⟩=some (.int .i64 vu):=(h9).cell 3;have fcg3:=(h9).frozen 3;have cg4:wp.cell? ⟨g9,4,none⟩=some (.slice voa vL vc):=(h9).cell 4;have fcg4:=(h9).frozen 4;have lcg:=(h9).lt;clear hE9 hxl2 hxv hxc hxs e9 hpu h9 hm hbm;go_wp2_with fail;go_meet
         exact⟨5,0,0,0,some ⟨wp.heap.size,0,none⟩,1,1,HBM,H9M,Q1 ⟨_,_,rfl,by rw[Ex.c_mk,List.map_cons,List.map_nil,HXM.out.2.1];exact HXM.out.2.2,HXM.out.1⟩⟩
      obtain⟨yk,yn,yd,yu,yoa,yL,yc,hwx,h9x,hex⟩:=hcut;obtain⟨x9,hx9,hxv,hxc,hxs⟩:=hex.out;have HXL:=Q1 (Q3 (Dq hxv) (Q3 hxc hxs));have h9:=h9x.out;have cg0:wc.cell? ⟨g9,0,none⟩=some (.int .i64 yk):=(h9).cell 0;have fcg0:=(h9).frozen 0;have cg1:wc.cell? ⟨g9,1,none⟩=some (.int .i64 yn):=(h9).cell 1;have fcg1:=(h9).frozen 1;have cg2:wc.cell? ⟨g9,2,none⟩=some (.int .i64 yd):=(h9).cell 2;have fcg2:=(h9).frozen 2;have cg3:wc.cell? ⟨g9,3,none⟩=some (.int .i64 yu):=(h9).cell 3;have fcg3:=(h9).frozen 3;have cg4:wc.cell? ⟨g9,4,none⟩=some (.slice yoa yL yc):=(h9).cell 4;have fcg4:=(h9).frozen 4;have lcg:=(h9).lt;have hOx:=Q1 (Jc hO.out hwx.out);have hSx:=Q1 (show ∃ hh,J3 (fun b=>b<w7.heap.size∨v.ownBlock=some b) wc fun w=>∀ x∈D,Zy w hh x by obtain⟨hh,hs⟩:=hS.out;exact⟨hh,hs.below hwx.out⟩)
      have hBx:=Q1 (Qu hb.out (Qc hwx.out none) (fun _ e=>by cases e));have hrx:=hwx.out.size;clear hxv hxc hxs hex h9 hE9 HE h9x HWP H9
      go_upto_region 18 with (at_builtin;refine J4 Dd rfl _ _ rfl rfl (hOx.out.alloc _) (by simp;omega) (Ql.new wc _ _) 1 rfl rfl (by simp[Value.oneCell']) (by omega) (by omega) ?_;intro gg cap3 wA hoA hgA hatA hvbA;have HA:=Q1 (Q3 hoA (Q3 hgA (Q3 hatA hvbA)));clear hoA hgA hatA hvbA)
      have HP:=Q1 (Q06 (B3:=wr.heap.size) hBx.out HVB.out h7r hrx hSx.out (HXL.out.2.2.anti fun b hb _=>Or.inl hb) HA.out.1 HXL.out.1 (show World.grownBy _ _ v.ownBlock from HA.out.2.1) (show v.ownBlock=some gg∨_ from HA.out.2.2.1));have HXC:=Q1 HXL.out.2.1;clear HA hSx hOx HXL hS hO HVB cg0 cg1 cg2 cg3 cg4 fcg0 fcg1 fcg2 fcg3 fcg4 lcg;obtain⟨ov2,hov⟩:∃ ov2,((XL[i]?.map Xy).getD []==Zi)=ov2:=⟨_,rfl⟩;have HOV:=Q1 (show ov2=((XL[i]?.map Xy).getD []==Zi)∨n=0 from Or.inl hov.symm);have HOW:=Q1 hov;clear hov
      go_cut [6] from 70 to 82 (fun s wx=>s=.bool ov2∧wx=wA)
      case first =>
       by_cases h1:i<N
       · have gj:decide ((i:Int)<(N:Int))=true:=by simpa using h1
         have gjn:decide (i<N)=true:=by simpa using h1
         have HW:=Q1 (HS.out.below HP.out.1)
         have hil:i<l.length:=by rw[HN.out.1];exact h1
         have hli:l[i]?=some l[i]:=Q9 hil;obtain⟨rfl,hbl⟩:=HW.out.sl.lies (by omega);obtain⟨x,hx⟩:∃ x,l[i]=x:=⟨_,rfl⟩;rw[hx]at hli
         have hxl:XL[i]?=some x.c:=by rw[← HN.out.2.1,Z5,hli];rfl
         have hvs:=HW.out;obtain⟨t,koa,kb,ko,kcap,kids⟩:=x;obtain⟨K,hK⟩:∃ K,kids.length=K:=⟨_,rfl⟩;have f0:=hvs.cell hli (j:=0) rfl;have f1:=hvs.cell hli (j:=1) rfl;have f2:=hvs.cell hli (j:=2) rfl;have f3:=hvs.cell hli (j:=3) rfl;have f4:=hvs.cell hli (j:=4) rfl;have f5:=hvs.cell hli (j:=5) rfl;have f6:=hvs.cell hli (j:=6) rfl;rw[Nat.add_zero]at f0;rw[hK]at f6;obtain⟨tk,tt,⟨tn,td⟩,ti,tid⟩:=t;rw[Vl.c_mk]at hxl
         have hsb:(tt==[47])=ov2:=by rw[← HOW.out,hxl];rfl
         clear hvs hli hil hx hxl hK;go_wp2_with fail;go_meet;exact⟨by first|rfl|rw[hsb],rfl⟩
       · have gj:decide ((i:Int)<(N:Int))=false:=by simpa using h1
         have gjn:decide (i<N)=false:=by simpa using h1
         have hsb:ov2=false:=by
          rw[← HOW.out,Zf (by rw[HN.out.2.2];omega)];rfl
         go_wp2_with fail;go_meet;exact⟨by rw[hsb],rfl⟩
      obtain⟨rfl,e⟩:=hcut;subst e;go_wp2_with fail
      go_roundg (N+1-(i+1))
      case measure=>omega
      case rel =>
       obtain⟨a1,a2,a3⟩:=HP.out;refine⟨i+1,i+1,n,ov2,D++[x9],_,rfl,by go_num,rfl,by go_num,Q6 _,by omega,by rw[Qd,Qi];omega,by omega,Q1 a1,Q1 ?_,Q1 a3,Q1 ?_,Q6 _⟩
       · rw[Qd,Qi]at a2 ⊢;exact a2
       · rw[HYP.out,Zp,List.map_cons,List.map_nil,HXC.out]
         rcases HOV.out with h|h
         · rw[h];simp only[List.append_assoc,List.singleton_append]
         · subst h;simp only[Ye,Option.map_some,List.append_assoc,List.singleton_append]
  · have hiE:i=N+1:=by omega
    have gi:decide ((i:Int)≤(N:Int))=false:=by simp;omega
    have gin:decide (i≤N)=false:=by simp;omega
    obtain rfl:n=0:=by omega
    have hYe:Y=some (Jm 4 (D.map Ex.c)):=by rw[hY.out];simp[Ye]
    have HYE:=Q1 hYe;obtain⟨voa,vcap,gv,rfl,hsl,hpos⟩:=Zx hO.out;have h2r:=H27.out.below hb.out H27.out.lt;have ca0:wr.cell? ⟨g2,0,none⟩=some (.int .i64 0):=(h2r).cell 0;have fca0:=(h2r).frozen 0;have ca1:wr.cell? ⟨g2,1,none⟩=some (.int .i64 0):=(h2r).cell 1;have fca1:=(h2r).frozen 1;have ca2:wr.cell? ⟨g2,2,none⟩=some (.int .i64 0):=(h2r).cell 2;have fca2:=(h2r).frozen 2;have ca3:wr.cell? ⟨g2,3,none⟩=some (.int .i64 0):=(h2r).cell 3;have fca3:=(h2r).frozen 3;have ca4:wr.cell? ⟨g2,4,none⟩=some (.slice none 0 0):=(h2r).cell 4;have fca4:=(h2r).frozen 4;have lca:=(h2r).lt;have H2R:=Q1 h2r;clear h2r hYe hY HY1
    by_cases hD1:D.length=1
    · obtain⟨x,rfl⟩:=Zo.1 hD1;obtain⟨rfl,hgl⟩:=hsl.lies (by simp)
      have HEX:=Q1 (show Jk (· < w7.heap.size) x.c (xv x) wr from by
       obtain⟨hh,hs⟩:=hS.out
       exact⟨x,hh,rfl,rfl,(hs.mono fun w hw=>hw x (Qh.2 rfl)).anti fun b hb _=>Or.inl hb⟩)
      have HXC:=Q1 (show Y=some x.c from HYE.out);obtain⟨k',n',d',u',oa',b',o',cap',kids'⟩:=x;obtain⟨K',hK'⟩:∃ K',kids'.length=K':=⟨_,rfl⟩
      have f0:wr.cell? ⟨gv,0,none⟩=some (.int .i64 k'):=by have:=hsl.cell 0 _ rfl;simpa using this
      have f1:wr.cell? ⟨gv,1,none⟩=some (.int .i64 n'):=by have:=hsl.cell 1 _ rfl;simpa using this
      have f2:wr.cell? ⟨gv,2,none⟩=some (.int .i64 d'):=by have:=hsl.cell 2 _ rfl;simpa using this
      have f3:wr.cell? ⟨gv,3,none⟩=some (.int .i64 u'):=by have:=hsl.cell 3 _ rfl;simpa using this
      have f4:wr.cell? ⟨gv,4,none⟩=some (.slice oa' K' cap'):=by have:=hsl.cell 4 _ rfl;rw[← hK'];simpa using this
      have hxv:xv (Ex.mk k' n' d' u' oa' b' o' cap' kids')=.agg #[.int .i64 k',.int .i64 n',.int .i64 d',.int .i64 u',.slice oa' K' cap']:=by rw[← hK'];rfl
      rw[hxv]at HEX;clear hxv hK' hsl hO hS HYE hpos;simp only[Qi]at *;go_wp2_with fail;have hputs:=(H2R.out).put5 (.int .i64 k') (.int .i64 n') (.int .i64 d') (.int .i64 u') (.slice oa' K' cap');refine bodyPost_ret (v:=.tuple #[.agg #[.int .i64 k',.int .i64 n',.int .i64 d',.int .i64 u',.slice oa' K' cap'],.bool true]) ?_ rfl ?_
      · refine Zj Tryz.results192 ?_ ?_ hputs rfl
        all_goals rfl
      · exact HFIN.out _ _ wr _ (by rw[HXC.out];rfl) ⟨_,_,_,_,_,_,_,rfl⟩ (fun E hE=>by rw[HXC.out]at hE;injection hE with hE;subst hE;exact HEX.out) hb.out (Qm [.int .i64 k',.int .i64 n',.int .i64 d',.int .i64 u',.slice oa' K' cap'] wr g2 0)
    · have g1:((D.length:Int)==1)=false:=by simp;omega
      have hex:Jk (· < w7.heap.size) (.mk 4 0 0 0 (D.map Ex.c)) (.agg #[.int .i64 4,.int .i64 0,.int .i64 0,.int .i64 0,.slice voa D.length vcap]) wr:=by
       obtain⟨hh,hs⟩:=hS.out;refine⟨.mk 4 0 0 0 voa gv 0 vcap D,hh+1,rfl,Ex.c_mk _ _ _ _ _ _ _ _ _,Zy.made (Z1 _ (by decide)) (by unfold U2;decide) (Z1 _ (by decide)) (by omega) hsl (fun hp hb=>?_) (hs.anti fun b hb _=>Or.inl hb)⟩;have:=hpos hp;have hb:gv<w7.heap.size:=hb;omega
      have HXC:=Q1 (show Y=some (.mk 4 0 0 0 (D.map Ex.c)) from by
       rw[HYE.out]
       match D,hD1 with
       | [],_=>rfl
       | [x],e=>exact absurd rfl e
       | x::y::r,_=>rfl)
      obtain⟨L,hL⟩:∃ L,D.length=L:=⟨_,rfl⟩;rw[hL]at hex g1 hDi;have HEX:=Q1 hex;simp only[hL];clear hsl hO hS HYE hpos hD1 hex hL;go_wp2_with fail;have hputs:=(H2R.out).put5 (.int .i64 4) (.int .i64 0) (.int .i64 0) (.int .i64 0) (.slice voa L vcap);refine bodyPost_ret (v:=.tuple #[.agg #[.int .i64 4,.int .i64 0,.int .i64 0,.int .i64 0,.slice voa L vcap],.bool true]) ?_ rfl ?_
      · refine Zj Tryz.results192 ?_ ?_ hputs rfl
        all_goals rfl
      · exact HFIN.out _ _ wr _ (by rw[HXC.out];rfl) ⟨_,_,_,_,_,_,_,rfl⟩ (fun E hE=>by rw[HXC.out]at hE;injection hE with hE;subst hE;exact HEX.out) hb.out (Qm [.int .i64 4,.int .i64 0,.int .i64 0,.int .i64 0,.slice voa L vcap] wr g2 0)
def Q82 (f:Vt→Option Et) (l:List Vt):Option Et:=(Ye (Kj f) (Cl l) l J1 3 (l.length+1) 0 0 false).map (Jm 2)
theorem Q74 (f:Vt→Option Et) (l:List Vt):Ux f l=Q82 f (Z9 l):=rfl
theorem Q6f {l:List Vt} {i:Nat} {v:Vt} (h:l[i]?=some v):Cl l i=(decide (0<i)&&decide (i+1<l.length)&&V8 Um J1 v&&(l[i-1]?.map Ud).getD false&&(l[i+1]?.map Ud).getD false):=by rw[Cl,h]
theorem A5 {l:List Vt} {i:Nat} (h:l.length≤i):Cl l i=false:=by rw[Cl,Zf h]
theorem Np (h:Nat) (hP:Q0o h):R2 h:=by
 intro l oa cap b o w hs;obtain⟨Y,hY⟩:∃ Y,Ux (Kb Ux h) (l.map Vl.c)=Y:=⟨_,rfl⟩;rw[hY];rw[Q74]at hY;have hb0:=Q7 w (.cells #[.int .i64 0,.int .i64 0,.int .i64 0,.int .i64 0,.slice none 0 0] 32);have h2:=Ql.new w 32 #[.int .i64 0,.int .i64 0,.int .i64 0,.int .i64 0,.slice none 0 0];have htr:=W0 h l oa cap b o _ (hs.below hb0).safe;obtain⟨L0,hL0⟩:∃ L0,l.length=L0:=⟨_,rfl⟩;rw[hL0]at htr ⊢;have H20:=Q1 h2;have HB0:=Q1 hb0;have HTR:=Q1 htr;clear hs hb0 h2 htr hL0
 go_enter Tryz.func164,Tryz.ntmps164
 go_upto_region 1 with fail
 obtain⟨g2,hg2⟩:∃ g2,w.heap.size=g2:=⟨_,rfl⟩;have HG:=Q1 hg2;rw[hg2]at H20;simp only[hg2];clear hg2;generalize w.alloc _=w1 at *;go_wp2_with fail
 ((with_reducible refine HTR.out.mono ?_);rintro e w7 ⟨⟨v,rfl,oa,cap,b,o,l,rfl,hc2,hs2⟩,hb1⟩)
 rw[← hc2]at hY;have hs7:=hs2.here;have H27:=Q1 (H20.out.below hb1 H20.out.lt);have HB7:=Q1 (Qu HB0.out (Qc hb1 none) (fun _ e=>by cases e));clear hc2 hs2 hb1 HTR H20 HB0
 have HFIN:=Q1 (show ∀ (v:Value) (ok:Bool) (wx we:World),ok=Y.isSome→Sh v→(∀ E,Y=some E→Jk (· < w7.heap.size) E v wx)→Below w7.heap.size w7 wx→wx.grownBy we (some g2)→Ys (· < w.heap.size) Y (.returned (.tuple #[v,.bool ok])) we∧Below w.heap.size w we from
  fun v ok wx we h1 h2 h3 h4 h5=>⟨⟨v,ok,rfl,h1,h2,fun E hE=>((h3 E hE).grown h5 (fun k e _=>by injection e with e;have:=H27.out.lt;omega)).anti fun b hb=>Or.inl (by have:=HB7.out.size;have hb:b<w.heap.size:=hb;show b<w7.heap.size;omega)⟩,
   Qu (Qu HB7.out (Qc h4 none) (fun _ e=>by cases e)) h5 (fun k e=>by injection e with e;have:=HG.out;omega)⟩)
 obtain⟨XL,hXL⟩:∃ XL,l.map Vl.c=XL:=⟨_,rfl⟩;obtain⟨N,hN⟩:∃ N,l.length=N:=⟨_,rfl⟩
 have hNX:XL.length=N:=by rw[← hXL,Qj,hN]
 have hsm:=hs7.small;have hcm:=hs7.sl.max;have hcl:=hs7.sl.le;unfold maxLen at hcm;rw[hN]at hsm hcl;have HS:=Q1 hs7;have HN:=Q1 (Q3 hN (Q3 hXL hNX));rw[hXL]at hY
 have hY1:Y=(Ye (Kj (Kb Ux h)) (Cl XL) XL J1 3 (N+1) 0 0 false).map fun r=>Jm 2 (([]:List Ex).map Ex.c++r):=by
  rw[← hY];unfold Q82;rw[hNX];rfl
 have HY1:=Q1 hY1
 have HT:=Q1 (fun(a c:Nat) (hac:a≤c) (hc:c≤l.length) (wx:World) (hb:Below w7.heap.size w7 wx) =>
  (show (∃ (oa':Option Addr) (c':Nat),oa'=(if cap=a then oa else oa.map (·.add (a*7)))∧c'=cap-a∧Calls Tryz.prog 192 #[.slice oa' (c-a) c'] wx fun e w'=>Ys (· < wx.heap.size) (Kj (Kb Ux h) ((XL.take c).drop a)) e w'∧Below wx.heap.size wx w') from by
    obtain⟨oa',ho⟩:∃ oa',oa'=(if cap=a then oa else oa.map (·.add (a*7))):=⟨_,rfl⟩;obtain⟨c',hc'⟩:∃ c',c'=cap-a:=⟨_,rfl⟩;refine⟨oa',c',ho,hc',?_⟩;subst ho hc';generalize hoa':(if cap=a then oa else oa.map (·.add (a*7)))=oa';obtain⟨c',hc'⟩:∃ c',cap-a=c':=⟨_,rfl⟩
    have hlen:((l.take c).drop a).length=c-a:=by rw[Zu,Zb];omega
    have hmap:((l.take c).drop a).map Vl.c=(XL.take c).drop a:=by rw[List.map_drop,List.map_take,hXL]
    rw[← hlen,← hmap,hc'];subst hoa' hc'
    exact hP ((l.take c).drop a) _ _ b (o+a*7) wx ((hs7.below hb).part hac hc)))
 simp only[hN];clear hs7 hN hXL hNX hY hY1;go_wp2_with fail
 go_loopg [4,5,6,7] (N+1) (fun q s4 s5 s6 s7 wr=>∃ (i a n:Nat) (ov:Bool) (D:List Ex) (v:Value),v=s4∧s5=.int .i64 (a:Int)∧s6=.bool ov∧s7=.int .i64 (i:Int)∧a≤i∧i≤N+1∧D.length≤i∧n+i=N+1∧Hid (Below w7.heap.size w7 wr) ∧
  Hid (wr.ownsRow w7.heap.size 32 5 v D.length (D.flatMap J6))∧Hid (∃ hh,J3 (fun b=>b<w7.heap.size∨v.ownBlock=some b) wr fun w=>∀ x∈D,Zy w hh x) ∧
  Hid (Y=(Ye (Kj (Kb Ux h)) (Cl XL) XL J1 3 n i a ov).map fun r=>Jm 2 (D.map Ex.c++r))∧N+1-i≤q)
 case atStart=>exact⟨0,0,N+1,false,[],_,rfl,rfl,rfl,rfl,Q6 _,Qs _,Q6 _,rfl,Q1 (Below.refl _ _),Q1 (World.ownsRow_nil _ _ _ _),Q1 ⟨0,fun _ _ _ _ hx=>by cases hx⟩,HY1,by omega⟩
 case round =>
  obtain⟨i,a,n,ov,D,v,rfl,rfl,rfl,rfl,hai,hiN,hDi,hni,hb,hO,hS,hY,hq⟩:=hrel;have h7r:=hb.out.size
  by_cases hi:i≤N
  · have gi:decide ((i:Int)≤(N:Int))=true:=by simpa using hi
    have gin:decide (i≤N)=true:=by simpa using hi
    obtain⟨n,rfl⟩:∃ n',n=n'+1:=⟨n-1,by omega⟩;have HW:=Q1 (HS.out.below hb.out);have HVB:=Q1 (show ∀ b,v.ownBlock=some b→w7.heap.size≤b∧b<wr.heap.size from fun b e=>hO.out.lt b e)
    go_upto_region 7 with fail
    obtain⟨ct,hct⟩:∃ ct,Cl XL i=ct:=⟨_,rfl⟩;have HCT:=Q1 hct;clear hct
    go_cut [8] from 19 to 56 (fun s wx=>s=.bool ct∧Hid (Below wr.heap.size wr wx))
    case first =>
     by_cases h1:i<N
     · have gj:decide ((i:Int)<(N:Int))=true:=by simpa using h1
       have gjn:decide (i<N)=true:=by simpa using h1
       have hil:i<l.length:=by rw[HN.out.1];exact h1
       have hli:l[i]?=some l[i]:=Q9 hil;obtain⟨rfl,hbl⟩:=HW.out.sl.lies (by omega);obtain⟨x,hx⟩:∃ x,l[i]=x:=⟨_,rfl⟩;rw[hx]at hli
       have hxl:XL[i]?=some x.c:=by rw[← HN.out.2.1,Z5,hli];rfl
       have hvs:=HW.out;obtain⟨t,koa,kb,ko,kcap,kids⟩:=x;obtain⟨K,hK⟩:∃ K,kids.length=K:=⟨_,rfl⟩;have f0:=hvs.cell hli (j:=0) rfl;have f1:=hvs.cell hli (j:=1) rfl;have f2:=hvs.cell hli (j:=2) rfl;have f3:=hvs.cell hli (j:=3) rfl;have f4:=hvs.cell hli (j:=4) rfl;have f5:=hvs.cell hli (j:=5) rfl;have f6:=hvs.cell hli (j:=6) rfl;rw[Nat.add_zero]at f0;rw[hK]at f6;obtain⟨tk,tt,⟨tn,td⟩,ti,tid⟩:=t;rw[Vl.c_mk]at hxl;rw[Q6f hxl,HN.out.2.2]at HCT;have hsb:V8 Um J1 (.mk ⟨tk,tt,(tn,td),ti,tid⟩ (kids.map Vl.c))=(tk==9&&(tt==[43]||tt==[45])):=rfl;rw[hsb]at HCT
       by_cases h2:0<i∧i+1<N
       · obtain⟨h2,h3⟩:=h2
         have g2:decide ((0:Int)<(i:Int))=true:=by simpa using h2
         have g2n:decide (0<i)=true:=by simpa using h2
         have g3:decide ((i:Int)+1<(N:Int))=true:=by simp;omega
         have g3n:decide (i+1<N)=true:=by simpa using h3
         have hsg:=fun w=>Fo tk tn td tt [43] [45] ti tid koa K kcap w
         obtain⟨sb,hsb2⟩:∃ sb,(tk==9&&(tt==[43]||tt==[45]))=sb:=⟨_,rfl⟩;rw[hsb2]at HCT;simp only[hsb2]at hsg;have HSG:=Q1 hsg;have HC2:=Q1 (show (sb&&(XL[i-1]?.map Ud).getD false&&(XL[i+1]?.map Ud).getD false)=ct by rw[← HCT.out,g2n,g3n];rfl);clear hvs hli hil hx hxl hK hsb hsg hsb2;obtain⟨j,rfl⟩:∃ j,i=j+1:=⟨i-1,by omega⟩
         have hix:(((j+1:Nat):Int))-1=(j:Int):=by omega
         go_wp2_with fail
         ((with_reducible refine(HSG.out _).mono ?_);rintro e w5 ⟨rfl,hb5⟩)
         have HB5:=Q1 hb5;have HW5:=Q1 (HW.out.below hb5);clear hb5 f0 f1 f2 f3 f4 f5 f6
         cases sb with
         | false =>
           obtain rfl:false=ct:=HC2.out;go_wp2_with fail;go_meet;exact⟨rfl,HB5⟩
         | true =>
           have uil:j<l.length:=by rw[HN.out.1];omega
           have uli:l[j]?=some l[j]:=Q9 uil;obtain⟨ux,uhx⟩:∃ x,l[j]=x:=⟨_,rfl⟩;rw[uhx]at uli
           have uxl:XL[j]?=some ux.c:=by rw[← HN.out.2.1,Z5,uli];rfl
           have uvs:=HW5.out;obtain⟨ut,uoa,ub,uo,ucap,ukids⟩:=ux;obtain⟨uK,uhK⟩:∃ K,ukids.length=K:=⟨_,rfl⟩;have uf0:=uvs.cell uli (j:=0) rfl;have uf1:=uvs.cell uli (j:=1) rfl;have uf2:=uvs.cell uli (j:=2) rfl;have uf3:=uvs.cell uli (j:=3) rfl;have uf4:=uvs.cell uli (j:=4) rfl;have uf5:=uvs.cell uli (j:=5) rfl;have uf6:=uvs.cell uli (j:=6) rfl;rw[Nat.add_zero]at uf0;rw[uhK]at uf6;obtain⟨uk,utt,⟨un,ud⟩,ui,uid⟩:=ut;rw[Vl.c_mk]at uxl
           have usp:(XL[j]?.map Ud).getD false=(uk==13):=by rw[uxl];rfl
           have hbl5:b<w5.heap.size:=Qg hbl HB5.out.size;have HSP:=Q1 (fun w=>Bz uk un ud utt ui uid uoa uK ucap w);obtain⟨s1,hs1⟩:∃ s1,(uk==13)=s1:=⟨_,rfl⟩;have HC3:=Q1 (show (s1&&(XL[j+1+1]?.map Ud).getD false)=ct by rw[← HC2.out,← hs1,← usp];rfl);simp only[hs1]at HSP;clear uvs uli uil uhx uxl uhK usp hs1;go_wp2_with fail
           ((with_reducible refine(HSP.out _).mono ?_);rintro e w6 ⟨rfl,hb6⟩)
           have HB6:=Q1 (Qu HB5.out (Qc hb6 none) (fun _ e=>by cases e));have HW6:=Q1 (HW5.out.below hb6);clear hb6 uf0 uf1 uf2 uf3 uf4 uf5 uf6
           cases s1 with
           | false =>
             obtain rfl:false=ct:=HC3.out;go_wp2_with fail;go_meet;exact⟨rfl,HB6⟩
           | true =>
             have yil:j+1+1<l.length:=by rw[HN.out.1];omega
             have yli:l[j+1+1]?=some l[j+1+1]:=Q9 yil;obtain⟨yx,yhx⟩:∃ x,l[j+1+1]=x:=⟨_,rfl⟩;rw[yhx]at yli
             have yxl:XL[j+1+1]?=some yx.c:=by rw[← HN.out.2.1,Z5,yli];rfl
             have yvs:=HW6.out;obtain⟨yt,yoa,yb,yo,ycap,ykids⟩:=yx;obtain⟨yK,yhK⟩:∃ K,ykids.length=K:=⟨_,rfl⟩;have yf0:=yvs.cell yli (j:=0) rfl;have yf1:=yvs.cell yli (j:=1) rfl;have yf2:=yvs.cell yli (j:=2) rfl;have yf3:=yvs.cell yli (j:=3) rfl;have yf4:=yvs.cell yli (j:=4) rfl;have yf5:=yvs.cell yli (j:=5) rfl;have yf6:=yvs.cell yli (j:=6) rfl;rw[Nat.add_zero]at yf0;rw[yhK]at yf6;obtain⟨yk,ytt,⟨yn,yd⟩,yi,yid⟩:=yt;rw[Vl.c_mk]at yxl
             have ysp:(XL[j+1+1]?.map Ud).getD false=(yk==13):=by rw[yxl];rfl
             have hbl6:b<w6.heap.size:=Qg hbl HB6.out.size;have HSQ:=Q1 (fun w=>Bz yk yn yd ytt yi yid yoa yK ycap w)
             have hs2:(yk==13)=ct:=by rw[← HC3.out,← ysp];rfl
             simp only[hs2]at HSQ;clear yvs yli yil yhx yxl yhK ysp hs2;go_wp2_with fail
             ((with_reducible refine(HSQ.out _).mono ?_);rintro e w8 ⟨rfl,hb8⟩)
             have HB8:=Q1 (Qu HB6.out (Qc hb8 none) (fun _ e=>by cases e));clear hb8;go_wp2_with fail;go_meet;exact⟨rfl,HB8⟩
       · obtain rfl:ct=false:=by
          rw[← HCT.out]
          by_cases h3:0<i
          · have h4:¬ i+1<N:=fun h=>h2 ⟨h3,h⟩
            simp[h4]
          · simp[h3]
         clear hvs hli hil hx hxl hK hsb
         by_cases h3:0<i
         · have g2:decide ((0:Int)<(i:Int))=true:=by simpa using h3
           have g2n:decide (0<i)=true:=by simpa using h3
           have h4:¬ i+1<N:=fun h=>h2 ⟨h3,h⟩
           have g3:decide ((i:Int)+1<(N:Int))=false:=by simp;omega
           have g3n:decide (i+1<N)=false:=by simpa using h4
           go_wp2_with fail;go_meet;exact⟨rfl,Q1 (Below.refl _ _)⟩
         · have g2:decide ((0:Int)<(i:Int))=false:=by simp;omega
           have g2n:decide (0<i)=false:=by simpa using h3
           go_wp2_with fail;go_meet;exact⟨rfl,Q1 (Below.refl _ _)⟩
     · have gj:decide ((i:Int)<(N:Int))=false:=by simpa using h1
       have gjn:decide (i<N)=false:=by simpa using h1
       have hc0:ct=false:=by rw[← HCT.out];exact A5 (by rw[HN.out.2.2];omega)
       subst hc0;go_wp2_with fail;go_meet;exact⟨rfl,Q1 (Below.refl _ _)⟩
    obtain⟨rfl,HWC⟩:=hcut;obtain⟨cb,hcb⟩:∃ cb,(decide (i<N)&&!ct)=cb:=⟨_,rfl⟩;have HCB:=Q1 hcb;clear hcb
    go_upto_region 8 with fail
    go_cut [64] from 57 to 64 (fun s wx=>s=.bool cb∧wx=wc)
    case first =>
     by_cases h1:i<N
     · have gj:decide ((i:Int)<(N:Int))=true:=by simpa using h1
       have gjn:decide (i<N)=true:=by simpa using h1
       go_wp2_with fail;go_meet;exact⟨by rw[← HCB.out];simp[h1],rfl⟩
     · have gj:decide ((i:Int)<(N:Int))=false:=by simpa using h1
       have gjn:decide (i<N)=false:=by simpa using h1
       go_wp2_with fail;go_meet;exact⟨by rw[← HCB.out];simp[h1],rfl⟩
    obtain⟨rfl,e⟩:=hcut;subst e
    obtain hcb|hcb:cb=true∨cb=false:=by cases cb<;>simp
    · subst hcb
      have hic:i<N∧ct=false:=by have:=HCB.out;simpa using this
      have hyn:=hY.out;rw[Og (show i<XL.length∧(Cl XL) i=false by rw[HN.out.2.2,HCT.out];exact hic)]at hyn;have HYN:=Q1 hyn;obtain⟨hi2,rfl⟩:=hic;clear hyn;go_wp2_with fail
      go_roundg (N+1-(i+1))
      case measure=>omega
      case rel=>exact⟨i+1,a,n,ov,D,v,rfl,rfl,rfl,by go_num,by omega,by omega,by omega,by omega,Q1 (Qu hb.out (Qc HWC.out none) (fun _ e=>by cases e)),Q1 (Jc hO.out HWC.out),Q1 (by obtain⟨hh,hs⟩:=hS.out;exact⟨hh,hs.below HWC.out⟩),HYN,Q6 _⟩
    subst hcb
    have hic:¬ (i<N∧ct=false):=by
     rintro⟨h1,rfl⟩;have:=HCB.out;simp[h1]at this
    have HNC:=Q1 (show ¬ (i<XL.length∧(Cl XL) i=false) by rw[HN.out.2.2,HCT.out];exact hic)
    have HWAYS:=Q1 (show i<N→ct=true from fun h=>by
     rcases Bool.eq_false_or_eq_true ct with e|e
     · exact e
     · exact absurd ⟨h,e⟩ hic)
    clear hic HCB;obtain⟨r,hr⟩:∃ r,(Kj (Kb Ux h)) ((XL.take i).drop a)=r:=⟨_,rfl⟩;have HR:=Q1 hr;have hrc:=HWC.out.size;clear hr
    go_upto_region 9 with fail
    go_cut [9,10] from 65 to 72 (fun s9 s10 wx=>∃ (g9:Nat) (ok:Bool) (vk vn vd vu:Int) (voa:Option Addr) (vL vc:Nat),s9=.pointer (some ⟨g9,0,none⟩)∧s10=.bool ok∧wr.heap.size≤g9∧Hid (Below wr.heap.size wr wx)∧Hid (Ql wx g9 32 #[.int .i64 vk,.int .i64 vn,.int .i64 vd,.int .i64 vu,.slice voa vL vc])∧Hid (ok=r.isSome∧∀ E,r=some E→Jk (fun b=>b<wr.heap.size∨b=g9) E (.agg #[.int .i64 vk,.int .i64 vn,.int .i64 vd,.int .i64 vu,.slice voa vL vc]) wx))
    case first =>
     obtain⟨oa',c',hoa',hc',hcall⟩:=HT.out a i hai (by rw[HN.out.1];exact hi) wc (Qu hb.out (Qc HWC.out none) (fun _ e=>by cases e));rw[HR.out]at hcall
     have iai:(a:Int)≤(i:Int):=by omega
     have iic:(i:Int)≤(cap:Int):=by omega
     obtain⟨M,hM⟩:∃ M,i-a=M:=⟨_,rfl⟩;rw[hM]at hcall;go_wp2_with fail
     all_goals
      first
       | (have e:cap=a:=by assumption
          rw[if_pos e]at hoa'
          have hc0:c'=0:=by omega
          rw[hoa',hc0]at hcall
          subst e)
       | (have e:¬ cap=a:=by assumption
          rw[if_neg e]at hoa'
          rw[hoa',hc']at hcall)
      ((with_reducible refine hcall.mono ?_);rintro e w4 ⟨⟨ev,ok,rfl,hok,h5,hE⟩,hb4⟩)
      obtain⟨vk,vn,vd,vu,voa,vL,vc,rfl⟩:=h5;have hw4:=hb4.size;have hB5:=(Qu HWC.out (Qc hb4 none) (fun _ e=>by cases e)).alloc (by omega) (.cells #[.int .i64 vk,.int .i64 vn,.int .i64 vd,.int .i64 vu,.slice voa vL vc] 32)
      have HE5:=Q1 (show ok=r.isSome∧∀ E,r=some E→Jk (fun b=>b<wr.heap.size∨b=w4.heap.size) E (.agg #[.int .i64 vk,.int .i64 vn,.int .i64 vd,.int .i64 vu,.slice voa vL vc]) (w4.alloc (.cells #[.int .i64 vk,.int .i64 vn,.int .i64 vd,.int .i64 vu,.slice voa vL vc] 32)) from
       ⟨hok,fun E hE'=>((hE E hE').anti fun b hb=>by
         rcases hb with hb|hb
         · exact Or.inl (show b<wc.heap.size by omega)
         · exact Or.inr (by omega)).below (Q7 w4 _)⟩)
      have H95:=Q1 (Ql.new w4 32 #[.int .i64 vk,.int .i64 vn,.int .i64 vd,.int .i64 vu,.slice voa vL vc]);have HB5:=Q1 hB5;clear hE hb4 hcall hoa' hc' hB5 hok;go_wp2_with fail;go_meet;exact⟨w4.heap.size,ok,vk,vn,vd,vu,voa,vL,vc,rfl,rfl,by omega,HB5,H95,HE5⟩
    clear HWC hrc;obtain⟨g9,ok,vk,vn,vd,vu,voa,vL,vc,rfl,rfl,hg9,HWP,H9,HE⟩:=hcut;generalize wc=wp at *;have h2p:=H27.out.below (Qu hb.out (Qc HWP.out none) (fun _ e=>by cases e)) H27.out.lt;have ca0:wp.cell? ⟨g2,0,none⟩=some (.int .i64 0):=(h2p).cell 0;have fca0:=(h2p).frozen 0;have ca1:wp.cell? ⟨g2,1,none⟩=some (.int .i64 0):=(h2p).cell 1;have fca1:=(h2p).frozen 1;have ca2:wp.cell? ⟨g2,2,none⟩=some (.int .i64 0):=(h2p).cell 2;have fca2:=(h2p).frozen 2;have ca3:wp.cell? ⟨g2,3,none⟩=some (.int .i64 0):=(h2p).cell 3;have fca3:=(h2p).frozen 3;have ca4:wp.cell? ⟨g2,4,none⟩=some (.slice none 0 0):=(h2p).cell 4;have fca4:=(h2p).frozen 4;have lca:=(h2p).lt;have H2P:=Q1 h2p;clear h2p
    cases r with
    | none =>
      obtain rfl:ok=false:=HE.out.1
      have hYk:Y=none:=by rw[hY.out,F8 HNC.out HR.out];rfl
      go_wp2_with fail;have hputs:=(H2P.out).put5 (.int .i64 0) (.int .i64 0) (.int .i64 0) (.int .i64 0) (.slice none 0 0);refine bodyPost_ret (v:=.tuple #[.agg #[.int .i64 0,.int .i64 0,.int .i64 0,.int .i64 0,.slice none 0 0],.bool false]) ?_ rfl ?_
      · refine Zj Tryz.results164 ?_ ?_ hputs rfl
        all_goals rfl
      · exact HFIN.out _ _ wp _ (by rw[hYk];rfl) ⟨_,_,_,_,_,_,_,rfl⟩ (fun E hE=>by rw[hYk]at hE;cases hE) (Qu hb.out (Qc HWP.out none) (fun _ e=>by cases e)) (Qm [.int .i64 0,.int .i64 0,.int .i64 0,.int .i64 0,.slice none 0 0] wp g2 0)
    | some E =>
      obtain rfl:ok=true:=HE.out.1;obtain⟨E9,hE9⟩:∃ E9,(if ov=true then Et.mk 3 0 0 0 [E] else E)=E9:=⟨_,rfl⟩
      have HYP:=Q1 (show Y=(Ye (Kj (Kb Ux h)) (Cl XL) XL J1 3 n (i+1) (i+1) ((XL[i]?.map Xy).getD []==J1)).map fun r=>Jm 2 (D.map Ex.c++E9::r) from by
       rw[hY.out,Md HNC.out HR.out,Option.map_map,hE9]
       rfl)
      clear hY HR HNC H2P ca0 ca1 ca2 ca3 ca4 fca0 fca1 fca2 fca3 fca4 lca
      go_upto_if 76 with fail
      go_cut [] from 77 to 79 (fun wx=>∃ (yk yn yd yu:Int) (yoa:Option Addr) (yL yc:Nat),Hid (Below wr.heap.size wr wx)∧Hid (Ql wx g9 32 #[.int .i64 yk,.int .i64 yn,.int .i64 yd,.int .i64 yu,.slice yoa yL yc])∧Hid (Jk (fun b=>b<wr.heap.size∨b=g9) E9 (.agg #[.int .i64 yk,.int .i64 yn,.int .i64 yd,.int .i64 yu,.slice yoa yL yc]) wx))
      case first =>
       cases ov with
       | false =>
         have e9:E=E9:=by rw[← hE9];rfl
         clear hE9;go_wp2_with fail;go_meet;exact⟨vk,vn,vd,vu,voa,vL,vc,HWP,H9,Q1 (by rw[← e9];exact HE.out.2 E rfl)⟩
       | true =>
         have e9:Et.mk 3 0 0 0 [E]=E9:=by rw[← hE9];rfl
         obtain⟨x2,hx2,hxv,hxc,hxs⟩:=HE.out.2 E rfl;have hxl2:=Dq hxv;have h9B:=H9.out.lt;have hrp:=HWP.out.size;have hpu:=Qm [.int .i64 3,.int .i64 0,.int .i64 0,.int .i64 0,.slice (some ⟨wp.heap.size,0,none⟩) 1 1] wp g9 0;have hm:=Q03 (kk:=3) (cs:=[.int .i64 3,.int .i64 0,.int .i64 0,.int .i64 0,.slice (some ⟨wp.heap.size,0,none⟩) 1 1]) (V:=#[.int .i64 vk,.int .i64 vn,.int .i64 vd,.int .i64 vu,.slice voa vL vc]) hxl2 rfl h9B hrp (Z1 _ (by decide)) hxs;have hbm:=(Qu HWP.out hpu (fun k e=>by have e:=Q8 e;omega)).alloc (by rw[Jp];omega) (.cells #[.int .i64 vk,.int .i64 vn,.int .i64 vd,.int .i64 vu,.slice voa vL vc] 32);simp only[J5,Nat.zero_add,Nat.reduceAdd]at hm hbm;have HXM:=Q1 (Q3 hm (Q3 hxc e9));have HBM:=Q1 hbm
         have H9M:=Q1 ((H9.out.put5 (.int .i64 3) (.int .i64 0) (.int .i64 0) (.int .i64 0) (.slice (some ⟨wp.heap.size,0,none⟩) 1 1)).old (.cells #[.int .i64 vk,.int .i64 vn,.int .i64 vd,.int .i64 vu,.slice voa vL vc] 32));have h9:=H9.out;have cg0:wp.cell? ⟨g9,0,none⟩=some (.int .i64 vk):=(h9).cell 0;have fcg0:=(h9).frozen 0;have cg1:wp.cell? ⟨g9,1,none⟩=some (.int .i64 vn):=(h9).cell 1;have fcg1:=(h9).frozen 1;have cg2:wp.cell? ⟨g9,2,none⟩=some (.int .i64 vd):=(h9).cell 2;have fcg2:=(h9).frozen 2;have cg3:wp.cell? ⟨g9,3,none⟩=some (.int .i64 vu):=(h9).cell 3;have fcg3:=(h9).frozen 3;have cg4:wp.cell? ⟨g9,4,none⟩=some (.slice voa vL vc):=(h9).cell 4;have fcg4:=(h9).frozen 4;have lcg:=(h9).lt;clear hE9 hxl2 hxv hxc hxs e9 hpu h9 hm hbm;go_wp2_with fail;go_meet
         exact⟨3,0,0,0,some ⟨wp.heap.size,0,none⟩,1,1,HBM,H9M,Q1 ⟨_,_,rfl,by rw[Ex.c_mk,List.map_cons,List.map_nil,HXM.out.2.1];exact HXM.out.2.2,HXM.out.1⟩⟩
      obtain⟨yk,yn,yd,yu,yoa,yL,yc,hwx,h9x,hex⟩:=hcut;obtain⟨x9,hx9,hxv,hxc,hxs⟩:=hex.out;have HXL:=Q1 (Q3 (Dq hxv) (Q3 hxc hxs));have h9:=h9x.out;have cg0:wc.cell? ⟨g9,0,none⟩=some (.int .i64 yk):=(h9).cell 0;have fcg0:=(h9).frozen 0;have cg1:wc.cell? ⟨g9,1,none⟩=some (.int .i64 yn):=(h9).cell 1;have fcg1:=(h9).frozen 1;have cg2:wc.cell? ⟨g9,2,none⟩=some (.int .i64 yd):=(h9).cell 2;have fcg2:=(h9).frozen 2;have cg3:wc.cell? ⟨g9,3,none⟩=some (.int .i64 yu):=(h9).cell 3;have fcg3:=(h9).frozen 3;have cg4:wc.cell? ⟨g9,4,none⟩=some (.slice yoa yL yc):=(h9).cell 4;have fcg4:=(h9).frozen 4;have lcg:=(h9).lt;have hOx:=Q1 (Jc hO.out hwx.out);have hSx:=Q1 (show ∃ hh,J3 (fun b=>b<w7.heap.size∨v.ownBlock=some b) wc fun w=>∀ x∈D,Zy w hh x by obtain⟨hh,hs⟩:=hS.out;exact⟨hh,hs.below hwx.out⟩)
      have hBx:=Q1 (Qu hb.out (Qc hwx.out none) (fun _ e=>by cases e));have hrx:=hwx.out.size;clear hxv hxc hxs hex h9 hE9 HE h9x HWP H9
      go_upto_if 84 with (at_builtin;refine J4 Dd rfl _ _ rfl rfl (hOx.out.alloc _) (by simp;omega) (Ql.new wc _ _) 1 rfl rfl (by simp[Value.oneCell']) (by omega) (by omega) ?_;intro gg cap3 wA hoA hgA hatA hvbA;have HA:=Q1 (Q3 hoA (Q3 hgA (Q3 hatA hvbA)));clear hoA hgA hatA hvbA)
      have HP:=Q1 (Q06 (B3:=wr.heap.size) hBx.out HVB.out h7r hrx hSx.out (HXL.out.2.2.anti fun b hb _=>Or.inl hb) HA.out.1 HXL.out.1 (show World.grownBy _ _ v.ownBlock from HA.out.2.1) (show v.ownBlock=some gg∨_ from HA.out.2.2.1));have HXC:=Q1 HXL.out.2.1;clear HA hSx hOx HXL hS hO HVB cg0 cg1 cg2 cg3 cg4 fcg0 fcg1 fcg2 fcg3 fcg4 lcg;obtain⟨ov2,hov⟩:∃ ov2,(if ct=true then ((XL[i]?.map Xy).getD []==J1) else ov)=ov2:=⟨_,rfl⟩
      have HOV:=Q1 (show ov2=((XL[i]?.map Xy).getD []==J1)∨n=0 from by
       by_cases h1:i<N
       · exact Or.inl (by rw[← hov,if_pos (HWAYS.out h1)])
       · exact Or.inr (by omega))
      have HOW:=Q1 hov;clear hov
      go_cut [6] from 85 to 91 (fun s wx=>s=.bool ov2∧wx=wA)
      case first =>
       cases ct with
       | true =>
         have h1:i<N:=by
          rcases Nat.lt_or_ge i N with h|h
          · exact h
          · have:=HCT.out;rw[A5 (by rw[HN.out.2.2];exact h)]at this
            cases this
         have gj:decide ((i:Int)<(N:Int))=true:=by simpa using h1
         have gjn:decide (i<N)=true:=by simpa using h1
         have HW:=Q1 (HS.out.below HP.out.1)
         have hil:i<l.length:=by rw[HN.out.1];exact h1
         have hli:l[i]?=some l[i]:=Q9 hil;obtain⟨rfl,hbl⟩:=HW.out.sl.lies (by omega);obtain⟨x,hx⟩:∃ x,l[i]=x:=⟨_,rfl⟩;rw[hx]at hli
         have hxl:XL[i]?=some x.c:=by rw[← HN.out.2.1,Z5,hli];rfl
         have hvs:=HW.out;obtain⟨t,koa,kb,ko,kcap,kids⟩:=x;obtain⟨K,hK⟩:∃ K,kids.length=K:=⟨_,rfl⟩;have f0:=hvs.cell hli (j:=0) rfl;have f1:=hvs.cell hli (j:=1) rfl;have f2:=hvs.cell hli (j:=2) rfl;have f3:=hvs.cell hli (j:=3) rfl;have f4:=hvs.cell hli (j:=4) rfl;have f5:=hvs.cell hli (j:=5) rfl;have f6:=hvs.cell hli (j:=6) rfl;rw[Nat.add_zero]at f0;rw[hK]at f6;obtain⟨tk,tt,⟨tn,td⟩,ti,tid⟩:=t;rw[Vl.c_mk]at hxl
         have hsb:(tt==[45])=ov2:=by rw[← HOW.out,if_pos rfl,hxl];rfl
         clear hvs hli hil hx hxl hK;go_wp2_with fail;go_meet;exact⟨by first|rfl|rw[hsb],rfl⟩
       | false =>
         have hsb:ov=ov2:=by rw[← HOW.out];rfl
         go_wp2_with fail;go_meet;exact⟨by first|rfl|rw[hsb],rfl⟩
      obtain⟨rfl,e⟩:=hcut;subst e;go_wp2_with fail
      go_roundg (N+1-(i+1))
      case measure=>omega
      case rel =>
       obtain⟨a1,a2,a3⟩:=HP.out;refine⟨i+1,i+1,n,ov2,D++[x9],_,rfl,by go_num,rfl,by go_num,Q6 _,by omega,by rw[Qd,Qi];omega,by omega,Q1 a1,Q1 ?_,Q1 a3,Q1 ?_,Q6 _⟩
       · rw[Qd,Qi]at a2 ⊢;exact a2
       · rw[HYP.out,Zp,List.map_cons,List.map_nil,HXC.out]
         rcases HOV.out with h|h
         · rw[h];simp only[List.append_assoc,List.singleton_append]
         · subst h;simp only[Ye,Option.map_some,List.append_assoc,List.singleton_append]
  · have hiE:i=N+1:=by omega
    have gi:decide ((i:Int)≤(N:Int))=false:=by simp;omega
    have gin:decide (i≤N)=false:=by simp;omega
    obtain rfl:n=0:=by omega
    have hYe:Y=some (Jm 2 (D.map Ex.c)):=by rw[hY.out];simp[Ye]
    have HYE:=Q1 hYe;obtain⟨voa,vcap,gv,rfl,hsl,hpos⟩:=Zx hO.out;have h2r:=H27.out.below hb.out H27.out.lt;have ca0:wr.cell? ⟨g2,0,none⟩=some (.int .i64 0):=(h2r).cell 0;have fca0:=(h2r).frozen 0;have ca1:wr.cell? ⟨g2,1,none⟩=some (.int .i64 0):=(h2r).cell 1;have fca1:=(h2r).frozen 1;have ca2:wr.cell? ⟨g2,2,none⟩=some (.int .i64 0):=(h2r).cell 2;have fca2:=(h2r).frozen 2;have ca3:wr.cell? ⟨g2,3,none⟩=some (.int .i64 0):=(h2r).cell 3;have fca3:=(h2r).frozen 3;have ca4:wr.cell? ⟨g2,4,none⟩=some (.slice none 0 0):=(h2r).cell 4;have fca4:=(h2r).frozen 4;have lca:=(h2r).lt;have H2R:=Q1 h2r;clear h2r hYe hY HY1
    by_cases hD1:D.length=1
    · obtain⟨x,rfl⟩:=Zo.1 hD1;obtain⟨rfl,hgl⟩:=hsl.lies (by simp)
      have HEX:=Q1 (show Jk (· < w7.heap.size) x.c (xv x) wr from by
       obtain⟨hh,hs⟩:=hS.out
       exact⟨x,hh,rfl,rfl,(hs.mono fun w hw=>hw x (Qh.2 rfl)).anti fun b hb _=>Or.inl hb⟩)
      have HXC:=Q1 (show Y=some x.c from HYE.out);obtain⟨k',n',d',u',oa',b',o',cap',kids'⟩:=x;obtain⟨K',hK'⟩:∃ K',kids'.length=K':=⟨_,rfl⟩
      have f0:wr.cell? ⟨gv,0,none⟩=some (.int .i64 k'):=by have:=hsl.cell 0 _ rfl;simpa using this
      have f1:wr.cell? ⟨gv,1,none⟩=some (.int .i64 n'):=by have:=hsl.cell 1 _ rfl;simpa using this
      have f2:wr.cell? ⟨gv,2,none⟩=some (.int .i64 d'):=by have:=hsl.cell 2 _ rfl;simpa using this
      have f3:wr.cell? ⟨gv,3,none⟩=some (.int .i64 u'):=by have:=hsl.cell 3 _ rfl;simpa using this
      have f4:wr.cell? ⟨gv,4,none⟩=some (.slice oa' K' cap'):=by have:=hsl.cell 4 _ rfl;rw[← hK'];simpa using this
      have hxv:xv (Ex.mk k' n' d' u' oa' b' o' cap' kids')=.agg #[.int .i64 k',.int .i64 n',.int .i64 d',.int .i64 u',.slice oa' K' cap']:=by rw[← hK'];rfl
      rw[hxv]at HEX;clear hxv hK' hsl hO hS HYE hpos;simp only[Qi]at *;go_wp2_with fail;have hputs:=(H2R.out).put5 (.int .i64 k') (.int .i64 n') (.int .i64 d') (.int .i64 u') (.slice oa' K' cap');refine bodyPost_ret (v:=.tuple #[.agg #[.int .i64 k',.int .i64 n',.int .i64 d',.int .i64 u',.slice oa' K' cap'],.bool true]) ?_ rfl ?_
      · refine Zj Tryz.results164 ?_ ?_ hputs rfl
        all_goals rfl
      · exact HFIN.out _ _ wr _ (by rw[HXC.out];rfl) ⟨_,_,_,_,_,_,_,rfl⟩ (fun E hE=>by rw[HXC.out]at hE;injection hE with hE;subst hE;exact HEX.out) hb.out (Qm [.int .i64 k',.int .i64 n',.int .i64 d',.int .i64 u',.slice oa' K' cap'] wr g2 0)
    · have g1:((D.length:Int)==1)=false:=by simp;omega
      have hex:Jk (· < w7.heap.size) (.mk 2 0 0 0 (D.map Ex.c)) (.agg #[.int .i64 2,.int .i64 0,.int .i64 0,.int .i64 0,.slice voa D.length vcap]) wr:=by
       obtain⟨hh,hs⟩:=hS.out;refine⟨.mk 2 0 0 0 voa gv 0 vcap D,hh+1,rfl,Ex.c_mk _ _ _ _ _ _ _ _ _,Zy.made (Z1 _ (by decide)) (by unfold U2;decide) (Z1 _ (by decide)) (by omega) hsl (fun hp hb=>?_) (hs.anti fun b hb _=>Or.inl hb)⟩;have:=hpos hp;have hb:gv<w7.heap.size:=hb;omega
      have HXC:=Q1 (show Y=some (.mk 2 0 0 0 (D.map Ex.c)) from by
       rw[HYE.out]
       match D,hD1 with
       | [],_=>rfl
       | [x],e=>exact absurd rfl e
       | x::y::r,_=>rfl)
      obtain⟨L,hL⟩:∃ L,D.length=L:=⟨_,rfl⟩;rw[hL]at hex g1 hDi;have HEX:=Q1 hex;simp only[hL];clear hsl hO hS HYE hpos hD1 hex hL;go_wp2_with fail;have hputs:=(H2R.out).put5 (.int .i64 2) (.int .i64 0) (.int .i64 0) (.int .i64 0) (.slice voa L vcap);refine bodyPost_ret (v:=.tuple #[.agg #[.int .i64 2,.int .i64 0,.int .i64 0,.int .i64 0,.slice voa L vcap],.bool true]) ?_ rfl ?_
      · refine Zj Tryz.results164 ?_ ?_ hputs rfl
        all_goals rfl
      · exact HFIN.out _ _ wr _ (by rw[HXC.out];rfl) ⟨_,_,_,_,_,_,_,rfl⟩ (fun E hE=>by rw[HXC.out]at hE;injection hE with hE;subst hE;exact HEX.out) hb.out (Qm [.int .i64 2,.int .i64 0,.int .i64 0,.int .i64 0,.slice voa L vcap] wr g2 0)
theorem Q08:∀ h,N1 h∧R2 h
 | 0=>by
   have h0:N1 0:=fun v w hv=>hv.elim
   exact⟨h0,Np 0 (Lh 0 h0 (fun h' e=>by omega))⟩
 | h+1=>by
   have ih:=Q08 h;have h1:=Q1f h ih.2
   exact ⟨h1,Np (h+1) (Lh (h+1) h1 (fun h' e=>by
    obtain rfl:h=h':=(by omega)
    exact ih.2))⟩
theorem P4 (h:Nat) (l:List Vl) (oa:Option Addr) (cap b o:Nat) (w:World) (hs:Zw w h oa cap b o l) :
 Calls Tryz.prog 93 #[.slice oa l.length cap] w fun e w'=>Q5t (· < w.heap.size) (Jz Ux h (l.map Vl.c)) e w'∧Below w.heap.size w w':=Rx h (Q08 h).1 l oa cap b o w hs
theorem Fb {a b:ByteArray} (h:a.data.toList=b.data.toList):a=b:=by
 obtain⟨⟨a⟩⟩:=a;obtain⟨⟨b⟩⟩:=b;obtain rfl:a=b:=h;rfl
theorem Q7e {l m:Lf} (h:l.t=m.t):Kl l m true=true:=by
 obtain⟨k,t,n,op,ex,wd,vl,an⟩:=l;obtain⟨k',t',n',op',ex',wd',vl',an'⟩:=m;unfold Lf.t at h;simp only[Lt.mk.injEq]at h;obtain⟨rfl,rfl,h3,rfl,_,h6,h7,rfl⟩:=h;obtain rfl:=Fb h3;obtain rfl:=Fb h6;obtain rfl:=Fb h7;simp[Kl]
theorem Q7f (l m:Lf) (h:Nat) (w:World) (hl:Hj w h l) (hm:Hj w h m) (e:l.t=m.t) :
  Calls Tryz.prog 30 #[lv l,lv m] w fun x w'=>x=.returned (.bool true)∧Below w.heap.size w w':=by
 have:=Q1i l m true w fun wx hb=>Az h l.ex h m.ex wx (hl.2.2.2.below h hb) (hm.2.2.2.below h hb) (congrArg Lt.ex e)
 rwa [Q7e e]at this
theorem Q6l:∀ (h:Nat) (x y:Cd) (w:World),Wg w h x→Wg w h y→x.t=y.t →
  Calls Tryz.prog 8 #[cv x,cv y] w fun e w'=>e=.returned (.bool true)∧Below w.heap.size w w':=by
 intro h
 induction h with
 | zero=>exact fun _ _ _ h=>h.elim
 | succ h ih =>
   intro x y w hx hy hxy;obtain⟨k,oa,b,o,cap,kids,lf⟩:=x;obtain⟨k',oa',b',o',cap',kids',lf'⟩:=y;rw[Cd.t_mk,Cd.t_mk]at hxy
   injection hxy with g1 g2 g3
   subst g1;obtain⟨_,hl,h4,h5,_,h7,h8⟩:=hx;obtain⟨_,hl',h4',h5',_,h7',h8'⟩:=hy
   have hls:=fun wx (hb:Below w.heap.size w wx)=>Q7f lf lf' h wx (hl.below hb) (hl'.below hb) g3
   obtain⟨lk,lt,nm,op,⟨e0,e1,e2,e3,pa,pb,po,pc,pl⟩,wd,vl,an⟩:=lf;obtain⟨lk',lt',nm',op',⟨e0',e1',e2',e3',qa,qb,qo,qc,ql⟩,wd',vl',an'⟩:=lf';unfold Lf.t at g3;simp only[Lt.mk.injEq,Ex.c_mk,Et.mk.injEq]at g3;obtain⟨rfl,rfl,i3,rfl,⟨rfl,rfl,rfl,rfl,i5⟩,i6,i7,rfl⟩:=g3;obtain rfl:=Fb i3;obtain rfl:=Fb i6;obtain rfl:=Fb i7;obtain⟨en,hen⟩:∃ n,pl.length=n:=⟨_,rfl⟩
   have hen':ql.length=en:=by
    have:=congrArg List.length i5;simpa[hen] using this.symm
   obtain⟨n,hn⟩:∃ n,kids.length=n:=⟨_,rfl⟩
   have hn':kids'.length=n:=by
    have:=congrArg List.length g2;simpa[hn] using this.symm
   rw[hn]at h4 h7;rw[hn']at h4' h7';simp only[Lv,hen,hen']at hls
   have hcv:cv (.mk k oa b o cap kids ⟨lk,lt,nm,op,.mk e0 e1 e2 e3 pa pb po pc pl,wd,vl,an⟩)=.agg #[.int .i64 k,.slice oa n cap,.int .i64 lk,.int .i64 lt,.string nm,.int .i64 op,.int .i64 e0,.int .i64 e1,.int .i64 e2,.int .i64 e3,.slice pa en pc,.string wd,.string vl,.bool an]:=by
    rw[← hn,← hen];rfl
   have hcv':cv (.mk k oa' b' o' cap' kids' ⟨lk,lt,nm,op,.mk e0 e1 e2 e3 qa qb qo qc ql,wd,vl,an⟩)=.agg #[.int .i64 k,.slice oa' n cap',.int .i64 lk,.int .i64 lt,.string nm,.int .i64 op,.int .i64 e0,.int .i64 e1,.int .i64 e2,.int .i64 e3,.slice qa en qc,.string wd,.string vl,.bool an]:=by
    rw[← hn',← hen'];rfl
   rw[hcv,hcv'];have hsm:n≤9223372036854775807:=Qz (Qz h4 h5) (by decide);have HIH:=Q1 (Q3 ih g2);have HN:=Q1 (Q3 hn hn');have HLS:=Q1 hls;have HK:=Q1 (Q3 (Q3 h7 h8) (Q3 h7' h8'));clear ih g2 i3 i5 i6 i7 hl hl' hls hn hn' hen hen' hcv hcv' h7 h8 h7' h8';have hb:=Q7 w (.cells #[.int .i64 k,.slice oa n cap,.int .i64 lk,.int .i64 lt,.string nm,.int .i64 op,.int .i64 e0,.int .i64 e1,.int .i64 e2,.int .i64 e3,.slice pa en pc,.string wd,.string vl,.bool an] 36)
   have h1:=(Ql.new w 36 #[.int .i64 k,.slice oa n cap,.int .i64 lk,.int .i64 lt,.string nm,.int .i64 op,.int .i64 e0,.int .i64 e1,.int .i64 e2,.int .i64 e3,.slice pa en pc,.string wd,.string vl,.bool an]).old (.cells #[.int .i64 k,.slice oa' n cap',.int .i64 lk,.int .i64 lt,.string nm,.int .i64 op,.int .i64 e0,.int .i64 e1,.int .i64 e2,.int .i64 e3,.slice qa en qc,.string wd,.string vl,.bool an] 36);have h2:=Ql.new (w.alloc (.cells #[.int .i64 k,.slice oa n cap,.int .i64 lk,.int .i64 lt,.string nm,.int .i64 op,.int .i64 e0,.int .i64 e1,.int .i64 e2,.int .i64 e3,.slice pa en pc,.string wd,.string vl,.bool an] 36)) 36 #[.int .i64 k,.slice oa' n cap',.int .i64 lk,.int .i64 lt,.string nm,.int .i64 op,.int .i64 e0,.int .i64 e1,.int .i64 e2,.int .i64 e3,.slice qa en qc,.string wd,.string vl,.bool an]
   have hb2:=hb.alloc (by simp) (.cells #[.int .i64 k,.slice oa' n cap',.int .i64 lk,.int .i64 lt,.string nm,.int .i64 op,.int .i64 e0,.int .i64 e1,.int .i64 e2,.int .i64 e3,.slice qa en qc,.string wd,.string vl,.bool an] 36)
   have hs2:(w.alloc (.cells #[.int .i64 k,.slice oa n cap,.int .i64 lk,.int .i64 lt,.string nm,.int .i64 op,.int .i64 e0,.int .i64 e1,.int .i64 e2,.int .i64 e3,.slice pa en pc,.string wd,.string vl,.bool an] 36)).heap.size=w.heap.size+1:=by simp
   rw[hs2]at h2;have H:=Q1 (Q3 h1 (Q3 h2 hb2));clear h1 h2 hb hb2 hs2
   go_enter Tryz.func8,Tryz.ntmps8
   go_upto_region 1 with fail
   obtain⟨g,hg⟩:∃ g,w.heap.size=g:=⟨_,rfl⟩;rw[hg]at H;have HG:=Q1 hg;have HLW:=Q1 (fun wx (hb:Below g w wx)=>HLS.out wx (by rw[hg];exact hb));simp only[hg];clear hg HLS;generalize World.alloc (World.alloc w _) _=wa at *;have HL1:=Q1 (HLW.out wa H.out.2.2);obtain⟨ca0,fca0,ca1,fca1,ca2,fca2,ca3,fca3,ca4,fca4,ca5,fca5,ca6,fca6,ca7,fca7,ca8,fca8,ca9,fca9,ca10,fca10,ca11,fca11,ca12,fca12,ca13,fca13,lca⟩:=Ql.many14 (H.out.1);obtain⟨cb0,fcb0,cb1,fcb1,cb2,fcb2,cb3,fcb3,cb4,fcb4,cb5,fcb5,cb6,fcb6,cb7,fcb7,cb8,fcb8,cb9,fcb9,cb10,fcb10,cb11,fcb11,cb12,fcb12,cb13,fcb13,lcb⟩:=Ql.many14 (H.out.2.1);go_wp2_with fail
   ((with_reducible refine(HL1.out).mono ?_);rintro e w' ⟨rfl,hbw⟩)
   obtain⟨m0,rfl⟩:=Qf hbw;clear hbw;have HB:=Q1 (Q3 (H.out.1.grow m0) (Q3 (H.out.2.1.grow m0) (H.out.2.2.trans ((Qk m0).mono (Zg lca)))));clear H HL1 ca0 fca0 ca1 fca1 ca2 fca2 ca3 fca3 ca4 fca4 ca5 fca5 ca6 fca6 ca7 fca7 ca8 fca8 ca9 fca9 ca10 fca10 ca11 fca11 ca12 fca12 ca13 fca13 lca cb0 fcb0 cb1 fcb1 cb2 fcb2 cb3 fcb3 cb4 fcb4 cb5 fcb5 cb6 fcb6 cb7 fcb7 cb8 fcb8 cb9 fcb9 cb10 fcb10 cb11 fcb11 cb12 fcb12 cb13 fcb13 lcb;generalize grow wa m0=wb at *;obtain⟨ca0,fca0,ca1,fca1,ca2,fca2,ca3,fca3,ca4,fca4,ca5,fca5,ca6,fca6,ca7,fca7,ca8,fca8,ca9,fca9,ca10,fca10,ca11,fca11,ca12,fca12,ca13,fca13,lca⟩:=Ql.many14 (HB.out.1);obtain⟨cb0,fcb0,cb1,fcb1,cb2,fcb2,cb3,fcb3,cb4,fcb4,cb5,fcb5,cb6,fcb6,cb7,fcb7,cb8,fcb8,cb9,fcb9,cb10,fcb10,cb11,fcb11,cb12,fcb12,cb13,fcb13,lcb⟩:=Ql.many14 (HB.out.2.1);go_wp2_with fail
   go_loopg [31] n (fun kk sv wr=>∃ (i:Nat),sv=.int .i64 i∧Hid (Ql wr g 36 #[.int .i64 k,.slice oa n cap,.int .i64 lk,.int .i64 lt,.string nm,.int .i64 op,.int .i64 e0,.int .i64 e1,.int .i64 e2,.int .i64 e3,.slice pa en pc,.string wd,.string vl,.bool an])∧Hid (Ql wr (g+1) 36 #[.int .i64 k,.slice oa' n cap',.int .i64 lk,.int .i64 lt,.string nm,.int .i64 op,.int .i64 e0,.int .i64 e1,.int .i64 e2,.int .i64 e3,.slice qa en qc,.string wd,.string vl,.bool an])∧Hid (Below g w wr)∧i≤n∧n-i≤kk)
   case atStart=>exact⟨0,rfl,Q1 HB.out.1,Q1 HB.out.2.1,Q1 HB.out.2.2,Qs _,Q6 _⟩
   case round =>
    clear ca0 fca0 ca1 fca1 ca2 fca2 ca3 fca3 ca4 fca4 ca5 fca5 ca6 fca6 ca7 fca7 ca8 fca8 ca9 fca9 ca10 fca10 ca11 fca11 ca12 fca12 ca13 fca13 lca cb0 fcb0 cb1 fcb1 cb2 fcb2 cb3 fcb3 cb4 fcb4 cb5 fcb5 cb6 fcb6 cb7 fcb7 cb8 fcb8 cb9 fcb9 cb10 fcb10 cb11 fcb11 cb12 fcb12 cb13 fcb13 lcb HB;obtain⟨i,rfl,hA,hBk,hbel,hle,hk2⟩:=hrel
    by_cases hi:i<n
    · have gi:decide ((i:Int)<(n:Int))=true:=by simpa using hi
      have gin:decide (i<n)=true:=by simpa using hi
      have hil:i<kids.length:=by rw[HN.out.1];exact hi
      have hil':i<kids'.length:=by rw[HN.out.2];exact hi
      have hr:kids[i]?=some kids[i]:=Q9 hil;have hr':kids'[i]?=some kids'[i]:=Q9 hil';obtain⟨⟨h7,h8⟩,h7',h8'⟩:=HK.out;have hx:=h8 i _ hr;have hx':=h8' i _ hr'
      have hqq:kids[i].t=kids'[i].t:=by
       have e:=congrArg (·[i]?) HIH.out.2;simp only[Z5,hr,hr']at e;exact Q8 e
      obtain⟨rfl,hbl⟩:=h7 (by omega);obtain⟨rfl,hbl'⟩:=h7' (by omega);have hbw:=Q1 (show Below w.heap.size w wr by rw[HG.out];exact hbel.out)
      have hX:=fun wx (hb:Below w.heap.size w wx)=>HIH.out.1 kids[i] kids'[i] wx (hx.2.below (w':=wx) _ hb) (hx'.2.below (w':=wx) _ hb) hqq
      clear hqq hr hr';generalize kids[i]=x at *;generalize kids'[i]=y at *;obtain⟨xk,xo,xn,xc,⟨x1,x2,x3,x4,x5,x6,x7,x8,x9,x10,x11,x12,x13,x14⟩,hxc⟩:=Ok x;obtain⟨yk,yo,yn,yc,⟨y1,y2,y3,y4,y5,y6,y7,y8,y9,y10,y11,y12,y13,y14⟩,hyc⟩:=Ok y;simp only[Hn]at hxc hyc
      have hvx:cv x=.agg #[.int .i64 xk,.slice xo xn xc,.int .i64 x1,.int .i64 x2,.string x3,.int .i64 x4,.int .i64 x5,.int .i64 x6,.int .i64 x7,.int .i64 x8,.slice x9 x10 x11,.string x12,.string x13,.bool x14]:=by unfold cv;rw[hxc]
      have hvy:cv y=.agg #[.int .i64 yk,.slice yo yn yc,.int .i64 y1,.int .i64 y2,.string y3,.int .i64 y4,.int .i64 y5,.int .i64 y6,.int .i64 y7,.int .i64 y8,.slice y9 y10 y11,.string y12,.string y13,.bool y14]:=by unfold cv;rw[hyc]
      rw[hvx,hvy]at hX;have HX:=Q1 hX
      obtain⟨f0,f1,f2,f3,f4,f5,f6,f7,f8,f9,f10,f11,f12,f13⟩:=Q3t (w:=wr) (b:=b) (o:=o+i*14) fun j v hv=>(hbw.out.cell hbl).trans (hx.1 j v (by rw[hxc];exact hv))
      obtain⟨j0,j1,j2,j3,j4,j5,j6,j7,j8,j9,j10,j11,j12,j13⟩:=Q3t (w:=wr) (b:=b') (o:=o'+i*14) fun j v hv=>(hbw.out.cell hbl').trans (hx'.1 j v (by rw[hyc];exact hv))
      have lb:b<wr.heap.size:=Qg hbl hbw.out.size;have lb':b'<wr.heap.size:=Qg hbl' hbw.out.size;obtain⟨ca0,fca0,ca1,fca1,ca2,fca2,ca3,fca3,ca4,fca4,ca5,fca5,ca6,fca6,ca7,fca7,ca8,fca8,ca9,fca9,ca10,fca10,ca11,fca11,ca12,fca12,ca13,fca13,lca⟩:=Ql.many14 (hA.out);obtain⟨cb0,fcb0,cb1,fcb1,cb2,fcb2,cb3,fcb3,cb4,fcb4,cb5,fcb5,cb6,fcb6,cb7,fcb7,cb8,fcb8,cb9,fcb9,cb10,fcb10,cb11,fcb11,cb12,fcb12,cb13,fcb13,lcb⟩:=Ql.many14 (hBk.out);clear hx hx' h7 h8 h7' h8' hvx hvy hX hxc hyc;go_wp2_with fail;refine Qx (by kernel_rfl) (by kernel_rfl) ?_
      repeat (go_big_quiet_step ((first | (go_at_call 8;exact Vg (HX.out _ (Qa hbw.out _))))))
      refine wpQuiet_nil ?_;rintro _ ⟨m,rfl⟩;go_wp2_with fail
      go_roundg (n-(i+1))
      case measure=>omega
      case rel=>exact⟨i+1,by go_num,Q1 (hA.out.grow m),Q1 (hBk.out.grow m),Q1 (hbel.out.trans ((Qk m).mono (Zg lca))),hi,Q6 _⟩
    · obtain rfl:i=n:=by omega
      have gi:decide ((i:Int)<(i:Int))=false:=by simp
      have gin:decide (i<i)=false:=by simp
      go_wp2_with fail;go_ret;exact⟨Qw rfl,by rw[HG.out];exact hbel.out⟩
theorem Mq {A A':Nat→Prop} {C:Ct} {v v2:Value} {w:World} (h:Vj A C v w) (h2:Vj A' C v2 w) :
  Calls Tryz.prog 8 #[v,v2] w fun e w'=>e=.returned (.bool true)∧Below w.heap.size w w':=by
 obtain⟨x,hx,rfl,hc,hs⟩:=h;obtain⟨y,hy,rfl,hc2,hs2⟩:=h2;exact Q6l (max hx hy) x y w (Wg.mono _ _ (Nat.le_max_left _ _) hs.here) (Wg.mono _ _ (Nat.le_max_right _ _) hs2.here) (hc.trans hc2.symm)
end Go.Proofs.YtnanffmhbjdpaaaGreatDoor
