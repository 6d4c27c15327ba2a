/- Of my texts: MedB, AwA, AwB. -/
import Derived.Test.YtnanffmhbjdpaaaGreatDoorM00
import Derived.Test.YtnanffmhbjdpaaaGreatDoorM02
import Derived.Test.YtnanffmhbjdpaaaGreatDoorM12
import Derived.Test.YtnanffmhbjdpaaaGreatDoorM18
import Derived.Test.YtnanffmhbjdpaaaGreatDoorM19
import Derived.Test.YtnanffmhbjdpaaaGreatDoorM20
import Derived.Shelf.Strings.Search1
namespace Go.Proofs.YtnanffmhbjdpaaaGreatDoor
set_option maxHeartbeats 8000000
set_option maxRecDepth 20000
set_option linter.unusedVariables false
set_option linter.unusedSimpArgs false
open Go.RowKit
theorem Z2 (w:World) (t:TypeId) (cs:Array Value):Ql (w.alloc (.cells cs t)) w.heap.size t cs∧Below w.heap.size w (w.alloc (.cells cs t)):=⟨Ql.new w t cs,Q7 w (.cells cs t)⟩
theorem J8 {w0 w w':World} (h:Hid (Below w0.heap.size w0 w)) (hb:Below w.heap.size w w'):Hid (Below w0.heap.size w0 w'):=Q1 (Qu h.out (Qc hb none) fun _ e=>by cases e)
theorem Bt {w:World} {h:Nat} {t:Tk} {oa:Option Addr} {b o cap:Nat} {kids:List Vl} (hx:Uu w h (.mk t oa b o cap kids)):Bo t:=by
 obtain _ | h:=h
 · exact hx.elim
 · exact hx.1
theorem K7 (n:List UInt8) (box:Bool) (w:World):Calls Tryz.prog 16 #[.string ⟨n.toArray⟩,.bool box] w fun e w'=>e=.returned (.string ⟨(Jn n box).toArray⟩)∧Below w.heap.size w w':=by
 obtain⟨R,hR⟩:∃ R,Jn n box=R:=⟨_,rfl⟩;rw[hR];unfold Jn at hR
 cases box with
 | false =>
   have HA:=Q1 (Wv n);have HW:=Q1 (Cs n);simp only[Bool.false_eq_true,if_false]at hR
   cases hr:V5 n with
   | true =>
     rw[hr,Bool.true_or,if_pos rfl]at hR;rw[hr]at HA;subst hR;clear hr HW
     go_enter Tryz.func16,Tryz.ntmps16
     go_wp2_with fail
     ((with_reducible refine(HA.out _).mono ?_);rintro e w' ⟨rfl,rfl⟩)
     go_wp2_with fail;go_ret;exact⟨rfl,Below.refl _ _⟩
   | false =>
     rw[hr,Bool.false_or]at hR;rw[hr]at HA;generalize Jo n=D at *;have HR:=Q1 hR;clear hr hR
     go_enter Tryz.func16,Tryz.ntmps16
     go_wp2_with fail
     ((with_reducible refine(HA.out _).mono ?_);rintro e w' ⟨rfl,rfl⟩)
     go_wp2_with fail
     ((with_reducible refine(HW.out _).mono ?_);rintro e w' ⟨⟨v,rfl,oa,cap,rfl,_⟩,hb⟩)
     have HB:=Q1 hb;clear hb;obtain⟨N,hN⟩:∃ N,D.length=N:=⟨_,rfl⟩;rw[hN];have HN:=Q1 hN;clear hN
     by_cases h0:0<N
     · have hR2:n=R:=by have:=HR.out;rwa [HN.out,if_pos (by simpa using h0)]at this
       subst hR2
       have g0:decide ((0:Int)<(N:Int))=true:=by simpa using h0
       go_wp2_with fail;go_ret;exact⟨rfl,HB.out⟩
     · have hR2:[]=R:=by have:=HR.out;rwa [HN.out,if_neg (by simpa using h0)]at this
       subst hR2
       have g0:decide ((0:Int)<(N:Int))=false:=by simpa using h0
       go_wp2_with fail;go_ret;exact⟨rfl,HB.out⟩
 | true =>
   simp only[if_true]at hR
   by_cases h0:n=Kn
   · rw[if_pos h0]at hR
     have q0:(n==[105,110,108,105,110,101,45,115,105,122,101])=true:=by rw[h0];rfl
     subst hR;clear h0
     go_enter Tryz.func16,Tryz.ntmps16
     go_wp2_with fail;go_ret;exact⟨rfl,Below.refl _ _⟩
   have q0:(n==[105,110,108,105,110,101,45,115,105,122,101])=false:=beq_eq_false_iff_ne.2 h0;rw[if_neg h0]at hR
   by_cases h1:n=Dk
   · rw[if_pos h1]at hR
     have q1:(n==[98,108,111,99,107,45,115,105,122,101])=true:=by rw[h1];rfl
     subst hR;clear h1
     go_enter Tryz.func16,Tryz.ntmps16
     go_wp2_with fail;go_ret;exact⟨rfl,Below.refl _ _⟩
   have q1:(n==[98,108,111,99,107,45,115,105,122,101])=false:=beq_eq_false_iff_ne.2 h1;rw[if_neg h1]at hR
   by_cases h2:n=Js
   · rw[if_pos (by simp[h2])]at hR
     have q2:(n==[119,105,100,116,104])=true:=by rw[h2];rfl
     subst hR;clear h2
     go_enter Tryz.func16,Tryz.ntmps16
     go_wp2_with fail;go_ret;exact⟨rfl,Below.refl _ _⟩
   have q2:(n==[119,105,100,116,104])=false:=beq_eq_false_iff_ne.2 h2
   by_cases h3:n=Uy
   · rw[if_pos (by simp[h3])]at hR
     have q3:(n==[104,101,105,103,104,116])=true:=by rw[h3];rfl
     subst hR;clear h3
     go_enter Tryz.func16,Tryz.ntmps16
     go_wp2_with fail;go_ret;exact⟨rfl,Below.refl _ _⟩
   have q3:(n==[104,101,105,103,104,116])=false:=beq_eq_false_iff_ne.2 h3
   by_cases h4:n=Vp
   · rw[if_pos (by simp[h4])]at hR
     have q4:(n==[97,115,112,101,99,116,45,114,97,116,105,111])=true:=by rw[h4];rfl
     subst hR;clear h4
     go_enter Tryz.func16,Tryz.ntmps16
     go_wp2_with fail;go_ret;exact⟨rfl,Below.refl _ _⟩
   have q4:(n==[97,115,112,101,99,116,45,114,97,116,105,111])=false:=beq_eq_false_iff_ne.2 h4
   by_cases h5:n=Yh
   · rw[if_pos (by simp[h5])]at hR
     have q5:(n==[111,114,105,101,110,116,97,116,105,111,110])=true:=by rw[h5];rfl
     subst hR;clear h5
     go_enter Tryz.func16,Tryz.ntmps16
     go_wp2_with fail;go_ret;exact⟨rfl,Below.refl _ _⟩
   have q5:(n==[111,114,105,101,110,116,97,116,105,111,110])=false:=beq_eq_false_iff_ne.2 h5;rw[if_neg (by simp[h2,h3,h4,h5])]at hR;subst hR
   go_enter Tryz.func16,Tryz.ntmps16
   go_wp2_with fail;go_ret;exact⟨rfl,Below.refl _ _⟩
theorem Tw (tk tn td:Int) (tt:List UInt8) (ti tid:Bool) (koa:Option Addr) (K kcap:Nat) (w:World) :
  Calls Tryz.prog 75 #[.agg #[.int .i64 tk,.string ⟨tt.toArray⟩,.int .i64 tn,.int .i64 td,.bool ti,.bool tid,.slice koa K kcap]] w fun e w'=>e=.returned (.bool (tk==13))∧Below w.heap.size w w':=by
 go_enter Tryz.func75,Tryz.ntmps75
 go_wp2_with fail;go_ret;exact⟨rfl,Q7 _ _⟩
theorem Eu (h:Nat) (l:List Vl) (oa:Option Addr) (cap bb o:Nat) (w:World) (hs:Zw w h oa cap bb o l) :
  Calls Tryz.prog 37 #[.slice oa l.length cap] w fun e w'=>(∃ oa' cap' b' D,e=.returned (.slice oa' (D:List Vl).length cap')∧Zw w' h oa' cap' b' 0 D∧D.map Vl.c=Ue (l.map Vl.c))∧Below w.heap.size w w':=by
 obtain⟨N,hN⟩:∃ N,l.length=N:=⟨_,rfl⟩;obtain⟨L,hL⟩:∃ L,l.map Vl.c=L:=⟨_,rfl⟩;rw[hN,hL];have hsm:=hs.small;have hcl:=hs.sl.le;have hcm:=hs.sl.max;unfold maxLen at hcm;rw[hN]at hsm hcl;have hb0:=Below.refl w.heap.size w;have HS:=Q1 hs;have HL:=Q1 (Q3 hN hL);clear hs hN hL
 go_enter Tryz.func37,Tryz.ntmps37
 go_wp2_with fail
 go_loopg [3,8] N (fun q s3 s8 wr=>∃ (i:Nat) (D:List Vl),s8=.int .i64 i∧Hid (Below w.heap.size w wr)∧Hid (wr.ownsRow w.heap.size 28 7 s3 D.length (D.flatMap U3))∧Hid (D.map Vl.c=Ue (L.take i))∧Hid (∀ x∈D,x∈l)∧D.length≤i∧i≤N∧N-i≤q)
 case atStart=>exact⟨0,[],rfl,Q1 hb0,Q1 (World.ownsRow_nil _ _ _ _),Q1 rfl,Q1 (fun x hx=>by cases hx),Q6 _,Qs _,Q6 _⟩
 case round =>
  obtain⟨i,D,rfl,hB,hO,hD,hE,hDi,hiN,hq⟩:=hrel
  by_cases hi:i<N
  · have gi:decide ((i:Int)<(N:Int))=true:=by simpa using hi
    have gin:decide (i<N)=true:=by simpa using hi
    have ij0:(0:Int)≤(i:Int):=Int.natCast_nonneg _
    have ijN:(i:Int)<(N:Int):=by omega
    have hil:i<l.length:=by rw[HL.out.1];exact hi
    have hli:l[i]?=some l[i]:=Q9 hil;obtain⟨x,hx⟩:∃ x,l[i]=x:=⟨_,rfl⟩;rw[hx]at hli
    have hLi:Ue (L.take (i+1))=Ue (L.take i)++Ue [x.c]:=by
     unfold Ue;rw[← List.filter_append,← HL.out.2,List.take_add_one,Z5,hli];rfl
    have hxl:=List.mem_of_getElem? hli;have hvs:=HS.out.below hB.out;obtain⟨rfl,hbl⟩:=hvs.sl.lies (by omega);obtain⟨⟨tk,tt,⟨tn,td⟩,ti,tid⟩,koa,kb,ko,kcap,kids⟩:=x;obtain⟨f0,f1,f2,f3,f4,f5,f6⟩:=hvs.row hli;obtain⟨K,hK⟩:∃ K,kids.length=K:=⟨_,rfl⟩;rw[hK]at f6
    have hvc:U3 (.mk ⟨tk,tt,(tn,td),ti,tid⟩ koa kb ko kcap kids)=[.int .i64 tk,.string ⟨tt.toArray⟩,.int .i64 tn,.int .i64 td,.bool ti,.bool tid,.slice koa K kcap]:=by rw[← hK];rfl
    have HXL:=Q1 (Q3 hxl (Q3 hvc hLi));clear hvs hli hil hx hxl hvc hLi hK
    go_upto_region 5 with fail
    obtain⟨h8,hbx⟩:=Z2 wr 28 #[.int .i64 tk,.string ⟨tt.toArray⟩,.int .i64 tn,.int .i64 td,.bool ti,.bool tid,.slice koa K kcap];have HB2:=Q1 (hB.out.trans (hbx.mono hB.out.size));have HO2:=Q1 (hO.out.alloc (.cells #[.int .i64 tk,.string ⟨tt.toArray⟩,.int .i64 tn,.int .i64 td,.bool ti,.bool tid,.slice koa K kcap] 28));clear hB hO hbx f0 f1 f2 f3 f4 f5 f6;generalize wr.heap.size=g8 at *;generalize World.alloc wr _=wv at *;obtain⟨cv0,fcv0,cv1,fcv1,cv2,fcv2,cv3,fcv3,cv4,fcv4,cv5,fcv5,cv6,fcv6,lcv⟩:=Ql.seven (h8);go_wp2_with fail
    ((with_reducible refine(Tw tk tn td tt ti tid koa K kcap _).mono ?_);rintro e w3 ⟨rfl,hb3⟩)
    have h9:=h8.below hb3 lcv;obtain⟨m,rfl⟩:=Qf hb3;have HB3:=Q1 (Qa HB2.out m);have HO3:=Q1 (G5 HO2.out m);clear cv0 cv1 cv2 cv3 cv4 cv5 cv6 fcv0 fcv1 fcv2 fcv3 fcv4 fcv5 fcv6 lcv h8 hb3 HB2 HO2;generalize grow wv m=wx at *;obtain⟨cv0,fcv0,cv1,fcv1,cv2,fcv2,cv3,fcv3,cv4,fcv4,cv5,fcv5,cv6,fcv6,lcv⟩:=Ql.seven (h9);clear h9
    by_cases h13:tk=13
    · subst h13;go_wp2_with fail
      go_roundg (N-(i+1))
      case measure=>omega
      case rel =>
       refine⟨i+1,D,by go_num,HB3,HO3,Q1 ?_,hE,by omega,hi,Q6 _⟩;rw[HXL.out.2.2,hD.out,Vl.c_mk];show _=_++[];rw[List.append_nil]
    · have gk:(tk==13)=false:=beq_eq_false_iff_ne.2 h13;have hbs:=HB3.out.size;go_wp2_with (at_builtin;refine J4 Fx rfl _ _ rfl rfl (HO3.out.alloc _) (by simp;omega) (Ql.new wx _ _) 1 rfl rfl (by simp[Value.oneCell']) (by omega) (by omega) ?_;intro gg cap3 w3 ho3 hg3 hat hvb;have H3:=Q1 (Q3 ho3 (Q3 hg3 hvb));clear ho3 hg3 hat hvb)
      go_roundg (N-(i+1))
      case measure=>omega
      case rel =>
       obtain⟨ho3,hg3,hvb⟩:=H3.out;refine⟨i+1,D++[.mk ⟨tk,tt,(tn,td),ti,tid⟩ koa kb ko kcap kids],by go_num,Q1 (Qu (HB3.out.alloc hbs _) hg3 fun k hk=>(hvb k hk).1),Q1 ?_,Q1 ?_,Q1 ?_,by simp;omega,hi,Q6 _⟩
       · rw[Qd,List.flatMap_append,Zd,HXL.out.2.1];exact ho3
       · rw[HXL.out.2.2,Zp,hD.out,List.map_cons,List.map_nil]
         congr 1
         unfold Ue;rw[List.filter_cons_of_pos]
         · rfl
         · rw[Vl.c_mk];simpa[Ud] using h13
       · intro y hy
         rcases Zh.1 hy with hy|hy
         · exact hE.out y hy
         · obtain rfl:=Qh.1 hy;exact HXL.out.1
  · obtain rfl:i=N:=by omega
    have gi:decide ((i:Int)<(i:Int))=false:=by simp
    have gin:decide (i<i)=false:=by simp
    obtain⟨voa,vcap,vg,rfl,hsl,hpos⟩:=Zx hO.out
    have hDL:D.map Vl.c=Ue L:=by
     rw[hD.out,Zc];rw[← HL.out.2,Qj,HL.out.1];exact Q6 _
    have hvs:=HS.out.below hB.out
    have HV:=Q1 (show Zw wr h voa vcap vg 0 D from ⟨by omega,hsl,fun j y hy=>by
     obtain⟨j2,hj2,e⟩:=List.getElem_of_mem (hE.out y (List.mem_of_getElem? hy))
     exact hvs.each j2 y (by rw[Q9 hj2,e])⟩)
    have HDL:=Q1 hDL;clear hsl hpos hvs hDL hO hD hE;go_wp2_with fail;go_ret;exact⟨⟨voa,vcap,vg,D,rfl,HV.out,HDL.out⟩,hB.out⟩
theorem Yf (h:Nat) (l:List Vl) (oa:Option Addr) (cap b o:Nat) (w:World) (hs:Zw w h oa cap b o l) :
  Calls Tryz.prog 17 #[.slice oa l.length cap] w fun e w'=>e=.returned (.string ⟨(Qy (l.map Vl.c)).toArray⟩)∧Below w.heap.size w w':=by
 have HA:=Q1 (Eu h l oa cap b o w hs);obtain⟨R,hR⟩:∃ R,Qy (l.map Vl.c)=R:=⟨_,rfl⟩;have HR:=Q1 hR;rw[hR];clear hs hR
 go_enter Tryz.func17,Tryz.ntmps17
 go_wp2_with fail
 ((with_reducible refine HA.out.mono ?_);rintro e w1 ⟨⟨oa1,cap1,b1,D,rfl,hd,hc⟩,hb⟩)
 have HB:=Q1 hb
 have hR2:Qy (l.map Vl.c)=match D.map Vl.c with
  | [v]=>Wq v
  | _=>[]:=by unfold Qy;rw[hc];rfl
 rw[HR.out]at hR2;clear hb HA HR hc
 by_cases hN:D.length=1
 · obtain⟨x,rfl⟩:∃ x,D=[x]:=Zo.1 hN;obtain⟨⟨tk,tt,⟨tn,td⟩,ti,tid⟩,koa,kb,ko,kcap,kids⟩:=x;obtain⟨f0,f1,f2,f3,f4,f5,f6⟩:=hd.row (i:=0) rfl;obtain⟨rfl,hbl⟩:=hd.sl.lies (by simp);have htl:=(Bt (hd.each 0 _ rfl)).2.2;have HSM:=Q1 (fun w=>Lb tt w htl);simp only[List.map_cons,List.map_nil,Vl.c_mk]at hR2;simp only[Nat.zero_mul,Nat.add_zero,Nat.zero_add]at f0 f1 f2 f3 f4 f5 f6;rw[hN];have hcp:=hd.sl.le;rw[hN]at hcp;clear hd hN f2 f3 f4 f5 f6 htl
   by_cases hk:tk=1
   · have hR3:R=U6 tt:=by rw[hR2];unfold Wq;exact if_pos hk
     subst hR3 hk;clear hR2;go_wp2_with fail
     ((with_reducible refine(HSM.out _).mono ?_);rintro e w2 ⟨rfl,hb2⟩)
     have HB2:=J8 HB hb2;clear hb2;go_wp2_with fail;go_ret;exact⟨rfl,HB2.out⟩
   · have hR3:R=[]:=by rw[hR2];unfold Wq;exact if_neg hk
     have gk:(tk != (1:Int))=true:=by simpa using hk
     subst hR3;clear hR2;go_wp2_with fail;go_ret;exact⟨rfl,HB.out⟩
 · have hR3:R=[]:=by
    rw[hR2]
    match D,hN with
    | [],_=>rfl
    | [_],h=>exact absurd rfl h
    | _::_::_,_=>rfl
   obtain⟨N,hNe⟩:∃ N,D.length=N:=⟨_,rfl⟩;rw[hNe]at hN ⊢
   have gk:((N:Int) != (1:Int))=true:=by rw[bne_iff_ne];omega
   subst hR3;clear hR2 hd hNe;go_wp2_with fail;go_ret;exact⟨rfl,HB.out⟩
theorem Ql.keeps {w w':World} {g:Nat} {t:TypeId} {cs:Array Value} {row:Option Nat} (h:Ql w g t cs) (hg:w.grownBy w' row) (hr:row≠some g):Ql w' g t cs:=(hg.block g h.lt (fun e=>hr e.symm)).trans h
def lfT (t:Tk):Vt:=.mk t []
theorem I0 (h:Nat) (l:List Vl) (Y:List Tk) (oa:Option Addr) (cap b o:Nat) (w:World) (hs:Zw w h oa cap b o l) (hY:l.map Vl.c=Y.map lfT) (hk:∀ t∈Y,J2 t.kind=0) (hz:l.length≤1000000) :
  Calls Tryz.prog 240 #[.slice oa l.length cap] w fun e w'=>∃ v,e=.returned v∧Rw w w' 25 6 v Y.length (Kh Y):=by
 have hcl:=hs.sl.le;have hcm:=hs.sl.max;unfold maxLen at hcm
 have hYl:Y.length≤1000000:=by
  have:=congrArg List.length hY;rw[Qj,Qj]at this;omega
 obtain⟨hBS,hBB⟩:=Z2 w 249 #[.slice oa l.length cap,.int .i64 0];have HB0:=Q1 hBB;have HS0:=Q1 hBS;have HS:=Q1 (Q3 hs (Q3 hY hk));clear hs hY hk hBS hBB;obtain⟨g,hg⟩:∃ g,w.heap.size=g:=⟨_,rfl⟩;rw[hg]at HS0;have HG:=Q1 hg;have hgl:=HS0.out.lt
 go_enter Tryz.func240,Tryz.ntmps240
 go_upto_block 0 with fail
 clear hg;generalize World.alloc w _=w0 at *;go_wp2_with fail
 go_loopg [3,4] 1000001 (fun q s3 s4 wr=>∃ (m:Nat) (pl:List Vl) (Q T:List Tk) (poa:Option Addr) (pcap pb po:Nat) (ov:Value),ov=s3∧s4=.slice (some ⟨g,0,none⟩) m 1∧m≤1∧(m=0→Q=[])∧Q.length+m≤q∧Hid (pl.map Vl.c=Q.map lfT∧T++Q=Y)∧Hid (Zw w h poa pcap pb po pl)∧Hid (Ql wr g 249 #[.slice poa pl.length pcap,.int .i64 0]) ∧
  Hid (Below w.heap.size w wr)∧Hid (wr.ownsRow w.heap.size 25 6 ov T.length (Kh T)))
 case atStart=>exact⟨1,l,Y,[],oa,cap,b,o,_,rfl,rfl,Q6 _,fun h=>absurd h (by decide),by omega,Q1 ⟨HS.out.2.1,rfl⟩,Q1 HS.out.1,HS0,HB0,Q1 (World.ownsRow_nil _ _ _ _)⟩
 case round =>
  obtain⟨m,pl,Q,T,poa,pcap,pb,po,ov,rfl,rfl,hm,hmq,hq,hE,hV,hS,hb,hO⟩:=hrel;obtain⟨n,hn⟩:∃ n,pl.length=n:=⟨_,rfl⟩;rw[hn]at hS
  rcases m with _ | _ | m
  · have hT:T=Y:=by have:=hE.out.2;rw[hmq rfl,List.append_nil]at this;exact this
    have HT:=Q1 hT;clear hT hn;go_wp2_with fail;go_ret;exact⟨_,rfl,hb.out,by rw[← HT.out];exact hO.out⟩
  · have cs0:wr.cell? ⟨g,0,none⟩=some (.slice poa n pcap):=(hS.out).cell 0;have fcs0:=(hS.out).frozen 0;have cs1:wr.cell? ⟨g,1,none⟩=some (.int .i64 0):=(hS.out).cell 1;have fcs1:=(hS.out).frozen 1;have lcs:=(hS.out).lt
    rcases Q with _ | ⟨t,Q⟩
    · have h0:pl=[]:=by have:=hE.out.1;simpa using this
      subst h0;obtain rfl:0=n:=hn;go_wp2_with fail
      go_roundg 0
      case measure=>simp at hq;omega
      case rel=>exact⟨0,[],[],T,poa,pcap,pb,po,ov,rfl,rfl,by omega,fun _=>rfl,Q6 _,hE,hV,hS,hb,hO⟩
    · obtain ⟨x,r,rfl⟩:∃ x r,pl=x::r:=by
       cases pl with
       | nil=>have:=hE.out.1;simp at this
       | cons x r=>exact⟨x,r,rfl⟩
      obtain⟨k,hk⟩:∃ k,r.length=k:=⟨_,rfl⟩
      obtain rfl:k+1=n:=by rw[← hn,Z8,hk]
      have hxc:=hE.out.1;rw[List.map_cons,List.map_cons]at hxc;obtain⟨hx1,hx2⟩:=List.cons.inj hxc;obtain⟨t2,koa,kb,ko,kcap,kids⟩:=x;rw[Vl.c_mk]at hx1;unfold lfT at hx1
      injection hx1 with ht hki
      subst ht;obtain rfl:kids=[]:=List.map_eq_nil_iff.1 hki;obtain⟨tk,tt,⟨tn,td⟩,ti,tid⟩:=t2
      have hTQ:(T++[(⟨tk,tt,(tn,td),ti,tid⟩:Tk)])++Q=Y:=by rw[List.append_assoc];exact hE.out.2
      have hck:J2 tk=0:=HS.out.2.2 ⟨tk,tt,(tn,td),ti,tid⟩ (by rw[← hTQ];simp)
      have hTl:T.length≤1000000:=by
       have:=congrArg List.length hTQ;simp only[Qd]at this;omega
      have hpv:=hV.out;have hcap1:=hpv.sl.le;rw[hn]at hcap1;have hcapm:=hpv.sl.max;unfold maxLen at hcapm;obtain⟨f0,f1,f2,f3,f4,f5,f6⟩:=(hpv.below hb.out).row (i:=0) rfl;simp only[Nat.zero_mul,Nat.add_zero,Nat.zero_add,List.length_nil]at f0 f1 f2 f3 f4 f5 f6;have hpart:=hpv.part (a:=1) (c:=(Vl.mk ⟨tk,tt,(tn,td),ti,tid⟩ koa kb ko kcap []::r).length) (by rw[hn];omega) (Q6 _);rw[List.take_length,List.drop_one,List.tail_cons,Nat.one_mul]at hpart;obtain⟨hpoa,hpbl⟩:=hpv.sl.lies (by rw[hn];omega);subst hpoa;have HPART:=Q1 hpart;have HX:=Q1 (Q3 hx2 (Q3 hTQ hck))
      have gz:(((k+1:Nat):Int)==0)=false:=by simp;omega
      have gz2:((k:Int)+1==0)=false:=by simp;omega
      clear hpart hx2 hTQ hck hxc hki hE hV hpv hn
      go_upto_region 10 with fail
      obtain⟨h9,hb3⟩:=Z2 wr 28 #[.int .i64 tk,.string ⟨tt.toArray⟩,.int .i64 tn,.int .i64 td,.bool ti,.bool tid,.slice koa 0 kcap];have HB3:=J8 hb hb3;have HO3:=Q1 (hO.out.alloc (.cells #[.int .i64 tk,.string ⟨tt.toArray⟩,.int .i64 tn,.int .i64 td,.bool ti,.bool tid,.slice koa 0 kcap] 28));have HS3:=Q1 (hS.out.below hb3 hS.out.lt);have HOV:=Q1 (show ∀ k,ov.ownBlock=some k→w.heap.size≤k∧k<wr.heap.size from fun k e=>hO.out.lt k e);have hg6:=hS.out.lt;clear hb3 f0 f1 f2 f3 f4 f5 f6 cs0 fcs0 cs1 fcs1 lcs hb hO hS;generalize wr.heap.size=g6 at *;generalize wr.alloc _=w3 at *;have H9:=Q1 h9;have hw3:=h9.lt;obtain⟨cg0,fcg0,cg1,fcg1,cg2,fcg2,cg3,fcg3,cg4,fcg4,cg5,fcg5,cg6,fcg6,lcg⟩:=Ql.seven (h9);have cs0:w3.cell? ⟨g,0,none⟩=some (.slice (some ⟨pb,po,none⟩) (k+1) pcap):=(HS3.out).cell 0;have fcs0:=(HS3.out).frozen 0
      have cs1:w3.cell? ⟨g,1,none⟩=some (.int .i64 0):=(HS3.out).cell 1;have fcs1:=(HS3.out).frozen 1;have lcs:=(HS3.out).lt;clear h9
      go_cut [] from 49 to 56 (fun wx=>∃ oa',wx=w3.setCell ⟨g,0,none⟩ (.slice oa' k (pcap-1))∧oa'=if pcap=1 then some ⟨pb,po,none⟩ else (some (⟨pb,po,none⟩:Addr)).map (·.add 7))
      case first =>
       go_wp2_with fail
       all_goals
        first
         | (have e:pcap=1:=by assumption
            subst e;go_meet
            exact⟨_,rfl,by rw[if_pos rfl]⟩)
         | (have e:¬ pcap=1:=by assumption
            go_meet
            exact⟨_,rfl,by rw[if_neg e];rfl⟩)
      obtain⟨oa',e,hoa'⟩:=hcut;subst e;rw[← hoa']at HPART;have hset:=J9 w3 ⟨g,0,none⟩ (.slice oa' k (pcap-1));have HB4:=Q1 (Qu HB3.out hset (fun q e=>by have e:g=q:=Q8 e;rw[← e,HG.out];exact Q6 _));have HO4:=Q1 (HO3.out.kept hset (.inr (U7 HS3.out HO3.out (by decide))));have HS4:=Q1 (show Ql (w3.setCell ⟨g,0,none⟩ (.slice oa' k (pcap-1))) g 249 #[.slice oa' k (pcap-1),.int .i64 0] from HS3.out.put 0 _);have H94:=Q1 (H9.out.far (p:=⟨g,0,none⟩) (by simp;omega) (.slice oa' k (pcap-1)));clear hset hw3 cg0 cg1 cg2 cg3 cg4 cg5 cg6 fcg0 fcg1 fcg2 fcg3 fcg4 fcg5 fcg6 lcg cs0 fcs0 cs1 fcs1 lcs H9 HB3 HO3 HS3;generalize w3.setCell _ _=w4 at *;have hww4:=HB4.out.size;obtain⟨cg0,fcg0,cg1,fcg1,cg2,fcg2,cg3,fcg3,cg4,fcg4,cg5,fcg5,cg6,fcg6,lcg⟩:=Ql.seven (H94.out)
      go_upto_region 12 with (at_builtin;refine J4 Q6v rfl _ _ rfl rfl (HO4.out.alloc _) (by simp;omega) (Ql.new w4 _ _) 1 rfl rfl (by simp[Value.oneCell']) (by omega) (by omega) ?_;intro gg cap3 wA hoA hgA hatA hvbA;have HA:=Q1 (Q3 hoA (Q3 hgA (Q3 hatA hvbA)));clear hoA hgA hatA hvbA)
      have hgc:=Z7 (World.grownBy_alloc w4 _ _) HA.out.2.1;have HBA:=Q1 (Qu HB4.out hgc (fun k e=>(HOV.out k e).1));have HSA:=Q1 (HS4.out.keeps hgc (U7 HS4.out HO4.out (by decide)));have H9A:=Q1 (H94.out.keeps hgc (U7 H94.out HO4.out (by decide)))
      have HOA:=Q1 (show wA.ownsRow w.heap.size 25 6 (.slice (some ⟨gg,0,none⟩) (T.length+1) cap3) (T++[(⟨tk,tt,(tn,td),ti,tid⟩:Tk)]).length (Kh (T++[(⟨tk,tt,(tn,td),ti,tid⟩:Tk)])) from by
       rw[Qd,Qi,show Kh (T++[(⟨tk,tt,(tn,td),ti,tid⟩:Tk)])=Kh T++[.int .i64 tk,.string ⟨tt.toArray⟩,.int .i64 tn,.int .i64 td,.bool ti,.bool tid] by simp[Kh,U1]]
       exact HA.out.1)
      clear hgc HA HS4 HO4 HB4 H94 HOV cg0 cg1 cg2 cg3 cg4 cg5 cg6 fcg0 fcg1 fcg2 fcg3 fcg4 fcg5 fcg6 lcg;obtain⟨cg0,fcg0,cg1,fcg1,cg2,fcg2,cg3,fcg3,cg4,fcg4,cg5,fcg5,cg6,fcg6,lcg⟩:=Ql.seven (H9A.out);have HCL:=Q1 (Wu tk wA);rw[HX.out.2.2]at HCL;go_wp2_with fail
      ((with_reducible refine HCL.out.mono ?_);rintro e wz ⟨rfl,rfl⟩)
      go_wp2_with fail
      go_roundg (Q.length+1)
      case measure=>simp at hq;omega
      case rel=>exact⟨1,r,Q,_,oa',pcap-1,pb,po+7,_,rfl,rfl,Q6 _,fun h=>absurd h (by decide),Q6 _,Q1 ⟨HX.out.1,HX.out.2.1⟩,HPART,by rw[hk];exact HSA,HBA,HOA⟩
  · omega
def Kg (t:Tk):List Value:=[.int .i64 t.kind,.string ⟨t.text.toArray⟩,.int .i64 t.num.1,.int .i64 t.num.2,.bool t.int,.bool t.id,.slice none 0 0]
theorem L5 (t:Tk):(Kg t).length=7:=rfl
structure Sv (B gS gO gs:Nat) (w:World) (v:Value) (L:List Tk):Prop where
 bs:Ql w gS 68 #[.slice (some ⟨gs,0,none⟩) 1 1]
 bo:Ql w gO 48 #[.slice none 0 0]
 bv:Ql w gs 26 #[v]
 row:w.ownsRow B 28 7 v L.length (L.flatMap Kg)
 ne1:gs≠gS
 ne2:gs≠gO
 le:B≤gs
theorem Sv.below {B gS gO gs:Nat} {w w':World} {v:Value} {L:List Tk} (h:Sv B gS gO gs w v L) (hb:Below w.heap.size w w'):Sv B gS gO gs w' v L :=
 ⟨h.bs.below hb h.bs.lt,h.bo.below hb h.bo.lt,h.bv.below hb h.bv.lt,Jc h.row hb,h.ne1,h.ne2,h.le⟩
theorem Sv.put {B gS gO gs gg:Nat} {w w3 w5:World} {v v':Value} {L:List Tk} {t:Tk} {xs3:List Value} (h:Sv B gS gO gs w v L) (hB:B≤w.heap.size) (g1:w.grownBy w3 v.ownBlock) (g2:(w3.setCell ⟨gs,0,none⟩ v').grownBy w5 (some gg)) (hg:v'.ownBlock=some gg)
  (hr3:w3.ownsRow B 28 7 v' (L.length+1) xs3) (hr:w5.ownsRow B 28 7 v' (L.length+1) (L.flatMap Kg++Kg t)) :
  Sv B gS gO gs w5 v' (L++[t])∧Below B w w5:=by
 have b3:=h.bs.keeps g1 (U7 h.bs h.row (by decide));have o3:=h.bo.keeps g1 (U7 h.bo h.row (by decide));have v3:=h.bv.keeps g1 (U7 h.bv h.row (by decide));have gv:=J9 w3 ⟨gs,0,none⟩ v';have n1:=U7 b3 hr3 (by decide);have n2:=U7 o3 hr3 (by decide);have n3:=U7 v3 hr3 (by decide);rw[hg]at n1 n2 n3;refine⟨⟨(b3.keeps gv fun e=>h.ne1 (Q8 e)).keeps g2 n1,(o3.keeps gv fun e=>h.ne2 (Q8 e)).keeps g2 n2,(show Ql (w3.setCell ⟨gs,0,none⟩ v') gs 26 #[v'] from v3.put 0 v').keeps g2 n3,?_,h.ne1,h.ne2,h.le⟩,?_⟩
 · rw[Qd,List.flatMap_append,Zd];exact hr
 · have b1:Below B w w3:=Below.grown (Below.refl B w) g1 hB (fun k hk=>(h.row.lt k hk).1);have b2:Below B w (w3.setCell ⟨gs,0,none⟩ v'):=b1.setCell h.le _;exact b2.trans (Below.grown (Below.refl B _) g2 (Qz hB b2.size) (fun k hk=>by rw[← hg]at hk;exact(hr3.lt k hk).1))
theorem P2 (Y:List Tk) (oa:Option Addr) (cap b o:Nat) (w:World) (hs:Sl w oa Y.length cap b o 6 (Kh Y)) (hk:∀ t∈Y,J2 t.kind=0) (hm:Y.length≤1000000) :
  Calls Tryz.prog 239 #[.slice oa Y.length cap] w fun e w'=>∃ v,e=.returned v∧w'.ownsRow w.heap.size 28 7 v Y.length (Y.flatMap Kg)∧Below w.heap.size w w':=by
 obtain⟨N,hN⟩:∃ N,Y.length=N:=⟨_,rfl⟩;rw[hN]at hm ⊢;obtain⟨B,hB⟩:∃ B,w.heap.size=B:=⟨_,rfl⟩;simp only[hB];have hcl:=hs.le;have hcm:=hs.max;unfold maxLen at hcm;rw[hN]at hcl;have HS:=Q1 (Q3 hs hk);have HN:=Q1 hN;have HB:=Q1 hB;clear hs hk hN hB
 go_enter Tryz.func239,Tryz.ntmps239
 go_upto_region 4 with fail
 have hb0:Below B w (((w.alloc (.cells #[.slice none 0 0] 26)).alloc (.cells #[.slice (some ⟨w.heap.size,0,none⟩) 1 1] 68)).alloc (.cells #[.slice none 0 0] 48)) :=
  (((Below.refl B w).alloc (by rw[HB.out];exact Q6 _) _).alloc (by simp;have:=HB.out;omega) _).alloc (by simp;have:=HB.out;omega) _
 have hz:Sv B (w.heap.size+1) (w.heap.size+1+1) w.heap.size (((w.alloc (.cells #[.slice none 0 0] 26)).alloc (.cells #[.slice (some ⟨w.heap.size,0,none⟩) 1 1] 68)).alloc (.cells #[.slice none 0 0] 48)) (.slice none 0 0) [] :=
  ⟨(Ql.new2 w _ _ _).old _,by have:=Ql.new ((w.alloc (.cells #[.slice none 0 0] 26)).alloc (.cells #[.slice (some ⟨w.heap.size,0,none⟩) 1 1] 68)) 48 #[.slice none 0 0];simpa using this,((Ql.new w _ _).old _).old _,World.ownsRow_nil _ _ _ _,by omega,by omega,by rw[HB.out];exact Q6 _⟩
 have HK0:=Q1 hz;have HB0:=Q1 hb0;clear hz hb0;obtain⟨gS,hgS⟩:∃ gS,w.heap.size+1=gS:=⟨_,rfl⟩;rw[hgS]at HK0 ⊢;obtain⟨gO,hgO⟩:∃ gO,gS+1=gO:=⟨_,rfl⟩;rw[hgO]at HK0 ⊢;clear hgS hgO;generalize w.heap.size=gs at HK0 HB0 ⊢;generalize World.alloc _ _=w0 at *;go_wp2_with fail
 go_loopg [13] N (fun q s wr=>∃ (i:Nat) (v:Value),s=.int .i64 i∧Hid (Sv B gS gO gs wr v (Y.take i))∧Hid (Below B w wr)∧i≤N∧N-i≤q)
 case atStart=>exact⟨0,_,rfl,HK0,HB0,Qs _,by omega⟩
 case round =>
  clear HK0 HB0;obtain⟨i,v,rfl,hK,hb,hiN,hq⟩:=hrel
  by_cases hi:i<N
  · have gi:decide ((i:Int)<(N:Int))=true:=by simpa using hi
    have gin:decide (i<N)=true:=by simpa using hi
    have hil:i<Y.length:=by rw[HN.out];exact hi
    have hli:Y[i]?=some Y[i]:=Q9 hil;have hs2:=HS.out.1.below (by rw[HB.out];exact hb.out);obtain⟨rfl,hbl⟩:=hs2.lies (by omega);have htake:Y.take (i+1)=Y.take i++[Y[i]]:=Ze hil;obtain⟨t,ht⟩:∃ t,Y[i]=t:=⟨_,rfl⟩;rw[ht]at hli htake;have hck:=HS.out.2 t (List.mem_of_getElem? hli)
    have hcell:∀ j v,(U1 t)[j]?=some v→wr.cell? ⟨b,o+(i*6+j),none⟩=some v:=fun j v hv=>hs2.cell _ _ (Yu (f:=U1) (sz:=6) (fun _=>rfl) Y i t j v hli hv)
    obtain⟨tk,tt,⟨tn,td⟩,ti,tid⟩:=t;have f0:wr.cell? ⟨b,o+i*6,none⟩=some (.int .i64 tk):=hcell 0 _ rfl;have f1:wr.cell? ⟨b,o+i*6+1,none⟩=some (.string ⟨tt.toArray⟩):=hcell 1 _ rfl;have f2:wr.cell? ⟨b,o+i*6+2,none⟩=some (.int .i64 tn):=hcell 2 _ rfl;have f3:wr.cell? ⟨b,o+i*6+3,none⟩=some (.int .i64 td):=hcell 3 _ rfl;have f4:wr.cell? ⟨b,o+i*6+4,none⟩=some (.bool ti):=hcell 4 _ rfl;have f5:wr.cell? ⟨b,o+i*6+5,none⟩=some (.bool tid):=hcell 5 _ rfl;have HT:=Q1 (Q3 htake (Q3 (show J2 tk=0 from hck) (show (Y.take i).length=i by rw[Zb];omega)));clear hcell htake hck hs2 hli hil ht
    go_upto_region 7 with fail
    obtain⟨hbx,hbb⟩:=Z2 wr 25 #[.int .i64 tk,.string ⟨tt.toArray⟩,.int .i64 tn,.int .i64 td,.bool ti,.bool tid]
    have hwB:B≤wr.heap.size:=by have:=hb.out.size;rw[HB.out]at this;exact this
    have hb1:=Q1 (hb.out.trans (hbb.mono hwB));have hK1:=Q1 (hK.out.below hbb)
    have hwB1:B≤(wr.alloc (.cells #[.int .i64 tk,.string ⟨tt.toArray⟩,.int .i64 tn,.int .i64 td,.bool ti,.bool tid] 25)).heap.size:=by simp;omega
    clear f0 f1 f2 f3 f4 f5 hb hK hbb hwB;generalize wr.heap.size=g5 at *;generalize wr.alloc _=w1 at *;have cb0:w1.cell? ⟨g5,0,none⟩=some (.int .i64 tk):=(hbx).cell 0;have fcb0:=(hbx).frozen 0;have cb1:w1.cell? ⟨g5,1,none⟩=some (.string ⟨tt.toArray⟩):=(hbx).cell 1;have fcb1:=(hbx).frozen 1;have cb2:w1.cell? ⟨g5,2,none⟩=some (.int .i64 tn):=(hbx).cell 2;have fcb2:=(hbx).frozen 2;have cb3:w1.cell? ⟨g5,3,none⟩=some (.int .i64 td):=(hbx).cell 3;have fcb3:=(hbx).frozen 3;have cb4:w1.cell? ⟨g5,4,none⟩=some (.bool ti):=(hbx).cell 4;have fcb4:=(hbx).frozen 4;have cb5:w1.cell? ⟨g5,5,none⟩=some (.bool tid):=(hbx).cell 5;have fcb5:=(hbx).frozen 5;have lcb:=(hbx).lt;have cs0:w1.cell? ⟨gS,0,none⟩=some (.slice (some ⟨gs,0,none⟩) 1 1):=(hK1.out.bs).cell 0;have fcs0:=(hK1.out.bs).frozen 0;have lcs:=(hK1.out.bs).lt;have co0:w1.cell? ⟨gO,0,none⟩=some (.slice none 0 0):=(hK1.out.bo).cell 0
    have fco0:=(hK1.out.bo).frozen 0;have lco:=(hK1.out.bo).lt;have HBX:=Q1 hbx;clear hbx;have HCL:=Q1 (Wu tk w1);rw[HT.out.2.1]at HCL;go_wp2_with fail
    ((with_reducible refine HCL.out.mono ?_);rintro e wz ⟨rfl,rfl⟩)
    clear HCL
    go_upto_region 15 with fail
    go_cut [55] (fun s wx=>s=.bool false∧Hid (Below wz.heap.size wz wx))
    case first =>
     refine Qx (by kernel_rfl) (by kernel_rfl) ?_
     repeat (go_big_quiet_step ((first | (fail))))
     refine wpQuiet_nil ?_;rintro _ ⟨m1,rfl⟩;go_wp2_with fail;go_meet
     case rel=>exact⟨rfl,Q1 (Qk m1)⟩
    obtain⟨rfl,hbv⟩:=hcut
    go_upto_region 8 with fail
    generalize wc=wp at *
    go_cut [20] (fun s wx=>∃ b:Bool,s=.bool b∧Hid (Below wp.heap.size wp wx))
    case first =>
     go_region
     all_goals
      go_wp2_with fail;go_meet
      case rel=>exact⟨_,rfl,Q1 (Below.drew (Q7 _ _))⟩
    case rest =>
     obtain⟨bb,rfl,hbw0⟩:=hcut;have hbw:=Q1 (hbv.out.trans (hbw0.out.mono hbv.out.size));clear hbw0 hbv;have hp2:=hK1.out.below hbw.out;have hb3:=Q1 (hb1.out.trans (Below.mono hbw.out hwB1));have hbx:=HBX.out.below hbw.out HBX.out.lt;have hBw:B≤wc.heap.size:=Qz hwB1 hbw.out.size;clear hbw hb1 hK1 hwB1 HBX cb0 cb1 cb2 cb3 cb4 cb5 fcb0 fcb1 fcb2 fcb3 fcb4 fcb5 lcb cs0 fcs0 lcs co0 fco0 lco;have hcP:wc.cell? ⟨gs,0,none⟩=some v:=hp2.bv.cell 0;have hfP:=hp2.bv.frozen 0;have hgsl:=hp2.bv.lt;have hneP:=U7 hp2.bv hp2.row (by decide);have hneS:=U7 hp2.bs hp2.row (by decide);have hkP:=hp2.row;rw[HT.out.2.2]at hkP;obtain⟨poa,pc,pg,rfl,_,_⟩:=Zx hkP;have HP:=Q1 hp2;have HKP:=Q1 hkP;have cb0:wc.cell? ⟨g5,0,none⟩=some (.int .i64 tk):=(hbx).cell 0;have fcb0:=(hbx).frozen 0;have cb1:wc.cell? ⟨g5,1,none⟩=some (.string ⟨tt.toArray⟩):=(hbx).cell 1
     have fcb1:=(hbx).frozen 1;have cb2:wc.cell? ⟨g5,2,none⟩=some (.int .i64 tn):=(hbx).cell 2;have fcb2:=(hbx).frozen 2;have cb3:wc.cell? ⟨g5,3,none⟩=some (.int .i64 td):=(hbx).cell 3;have fcb3:=(hbx).frozen 3;have cb4:wc.cell? ⟨g5,4,none⟩=some (.bool ti):=(hbx).cell 4;have fcb4:=(hbx).frozen 4;have cb5:wc.cell? ⟨g5,5,none⟩=some (.bool tid):=(hbx).cell 5;have fcb5:=(hbx).frozen 5;have lcb:=(hbx).lt;have cs0:wc.cell? ⟨gS,0,none⟩=some (.slice (some ⟨gs,0,none⟩) 1 1):=(hp2.bs).cell 0;have fcs0:=(hp2.bs).frozen 0;have lcs:=(hp2.bs).lt;clear hp2 hkP hbx
     have hln:((Y.take i).flatMap Kg).length=i*7:=by rw[Jg L5,HT.out.2.2]
     have HLN:=Q1 hln;clear hln
     cases bb with
     | true =>
       go_wp2_with fail;refine Ym 8 [Qb.claim 5 26 (.agg #[.int .i64 tk,.string ⟨tt.toArray⟩,.int .i64 tn,.int .i64 td,.bool ti,.bool tid,.slice none 0 0]),Qb.claim 6 27 (.int .i64 i),Qb.rowL 7 28 28 1 Fh wc.heap.size] (by kernel_rfl) (by kernel_rfl) (by kernel_rfl) rfl (by kernel_rfl) (by kernel_rfl) (by kernel_rfl) (by kernel_rfl) ?_;simp only[List.take_succ_cons,List.take_zero,Jw,X6,List.find?,Qb.claim_i,Qb.cells_i,Qb.rowL_i,Qb.claim_hush,Qb.cells_hush,Qb.rowL_hush,Qb.val_i,Qb.rowS_i,Qb.val_hush,Qb.rowS_hush,Qb.fw_i,Qb.fw_hush,Qb.rw_i,Qb.rw_hush,Nat.reduceBEq,Nat.reduceAdd]
       repeat (go_big_quiet_step (fail))
       refine wpQuiet_nil ⟨fun V m=>?_,fun V m=>?_⟩
       · simp only[List.take_succ_cons,List.take_zero,G8,Du,Qq,Qo,Vk,Ua,Ub,Uw,Qb.claim_i,Qb.cells_i,Qb.rowL_i,Act.put,Q2,Q4,Q5,Xc,Vn,Qb.val_i,Qb.rowS_i,Yk,Qb.fw_i,Yj,Qb.rw_i];refine⟨fun _=>?_,fun _=>?_,fun _=>?_,trivial⟩
         · go_wp2_with fail;exact Vu rfl (Below.refl _ _)
         · go_wp2_with fail;exact Vu rfl (Below.refl _ _)
         · go_wp2_with fail;exact Cz rfl (Zn m)
       · simp only[Ge,Y8,Y9,Yx,D8,Gc,C7,C6,Gn,Ya,Yb,Yy,Df,Gl,Ck,Cj,Yz,Xl,Xm,Yc,Gq,Dg,Uj,Ui,Z8,List.length_nil,Nat.reduceAdd,Nat.reduceSub,and_true,Vk,Ua,Ub,Uw,Qb.claim_i,Qb.cells_i,Qb.rowL_i,Act.put,Q2,Q4,Q5,Xc,Vn,Qb.val_i,Qb.rowS_i,Yk,Qb.fw_i,Yj,Qb.rw_i];rintro⟨gb,hv10,hgb,hbk⟩ _;rw[hv10];clear hv10;have hgm:=Qk m;generalize grow wc m=wd at *;refine wpAny_ready (rs:=[8]) (by kernel_rfl) (by simp) ?_;refine AllReady.cons rfl (fun K hK=>?_) AllReady.nil
         refine Ky Fx (by rfl) _ _ (by rfl) (by rfl) (Jc HKP.out hgm) (by have:=hgm.size;omega) hbk 1 (by rfl) (by rfl) (by simp[Fh,Value.oneCell']) (by omega) (by omega) ?_;intro gg cap3 w3 ho3 hg3 hat;refine hK _ _ ?_;clear hK K;change wpAny _ _ _ _ _ _ (Act.put _ (some 29) _) _
         try simp only[Act.put,Q2,Q4,Q5]
         refine wpAny_take (i:=9) (v:=?vv9) rfl (by kernel_rfl) (by kernel_rfl) (by kernel_rfl) (fun _ _ _ h=>h) (Or.inl ⟨by rfl,?hy9⟩) ?_
         case hy9=>(intro w;go_simp;try with_reducible rfl)
         change wpAny _ _ _ _ _ _ (Act.put _ (some 30) _) _
         try simp only[Act.put,Q2,Q4,Q5]
         have q1:w3.cell? ⟨gs,0,none⟩=some (.slice poa i pc):=(hg3.cell_far _ (by have:=hgm.size;simp;omega) (Ne.symm hneP)).trans ((hgm.cell hgsl).trans hcP);have q2:w3.frozen? ⟨gs,0,none⟩=false:=(hg3.frozen_far _ (by have:=hgm.size;simp;omega) (Ne.symm hneP)).trans ((hgm.frozen hgsl).trans hfP);refine wpAny_ready (rs:=[10]) (by kernel_rfl) (by simp) ?_;refine AllReady.cons rfl (fun K hK=>?_) AllReady.nil
         go_simp
         refine hK _ _ ?_;clear hK K;refine wpAny_done (by kernel_rfl) ?_ _
         have hgne:gg≠gs:=fun e=>by
          have:=U7 ((HP.out.bv.below hgm hgsl).keeps hg3 hneP) ho3 (by decide);exact this (by rw[← e];rfl)
         have ho4:=ho3.kept (J9 w3 ⟨gs,0,none⟩ (.slice (some ⟨gg,0,none⟩) (i+1) cap3)) (.inr fun e=>hgne (Q8 e))
         have z:∀ j u,Fh.toList[j]?=some u→(w3.setCell ⟨gs,0,none⟩ (.slice (some ⟨gg,0,none⟩) (i+1) cap3)).cell? ⟨gg,i*7+j,none⟩=some u:=fun j u hu=>Uv ho4 (by rw[Z0 (by have:=HLN.out;omega),HLN.out,show i*7+j-i*7=j by omega];exact hu)
         obtain⟨z0,z1,z2,z3,z4,z5,z6⟩:=Q83 z;have y0:=Zz ho4 (i*7);have y1:=Zz ho4 (i*7+1);have y2:=Zz ho4 (i*7+2);have y3:=Zz ho4 (i*7+3);have y4:=Zz ho4 (i*7+4);have y5:=Zz ho4 (i*7+5);have y6:=Zz ho4 (i*7+6);have hcap3:=G6 ho3
         have HZ:=Q1 (show Sv B gS gO gs (J5 (w3.setCell ⟨gs,0,none⟩ (.slice (some ⟨gg,0,none⟩) (i+1) cap3)) gg (i*7) [.int .i64 tk,.string ⟨tt.toArray⟩,.int .i64 tn,.int .i64 td,.bool ti,.bool tid,.slice none 0 0]) (.slice (some ⟨gg,0,none⟩) (i+1) cap3) (Y.take i++[⟨tk,tt,(tn,td),ti,tid⟩])∧Below B wc (J5 (w3.setCell ⟨gs,0,none⟩ (.slice (some ⟨gg,0,none⟩) (i+1) cap3)) gg (i*7) [.int .i64 tk,.string ⟨tt.toArray⟩,.int .i64 tn,.int .i64 td,.bool ti,.bool tid,.slice none 0 0]) from
          Sv.put HP.out hBw (Z7 (Qc hgm _) hg3) (Qm _ _ gg _) rfl (by rw[HT.out.2.2];exact ho3) (by rw[HT.out.2.2];exact G4 [.int .i64 tk,.string ⟨tt.toArray⟩,.int .i64 tn,.int .i64 td,.bool ti,.bool tid,.slice none 0 0] (i*7) _ _ _ ho4 HLN.out rfl (by simp;omega)))
         clear z ho3 ho4 hg3 hgm hat q1 q2 cb0 cb1 cb2 cb3 cb4 cb5 fcb0 fcb1 fcb2 fcb3 fcb4 fcb5 lcb hcP hfP hbk cs0 fcs0 lcs;generalize w3.setCell _ _=w4 at *;go_wp2_with fail;clear z0 z1 z2 z3 z4 z5 z6 y0 y1 y2 y3 y4 y5 y6;simp only[J5]at HZ;generalize World.setCell _ _ _=w5 at *
         go_roundg (N-(i+1))
         case measure=>omega
         case rel=>exact⟨i+1,_,by go_num,by rw[HT.out.1];exact Q1 HZ.out.1,Q1 (hb3.out.trans HZ.out.2),hi,Q6 _⟩
     | false =>
       go_wp2_with fail
       go_region_law
        ((refine Ky Fx (by rfl) _ _ (by rfl) (by rfl) ((HKP.out.alloc _).drew) (by have:=hBw;simp;omega) (B:=wc.heap.size) (cs:=#[.int .i64 tk,.string ⟨tt.toArray⟩,.int .i64 tn,.int .i64 td,.bool ti,.bool tid,.slice none 0 0]) (tc:=28) (Ql.new wc _ _) 1 (by rfl) (by rfl) (by simp[Value.oneCell']) (by omega) (by omega) ?_;intro gg cap3 w3 ho3 hg3 hat;have q1:w3.cell? ⟨gs,0,none⟩=some (.slice poa i pc):=(hg3.cell_far _ (by simp;omega) (Ne.symm hneP)).trans ((Below.cell (B:=wc.heap.size) (Below.drew (Q7 wc _)) hgsl).trans hcP);have q2:w3.frozen? ⟨gs,0,none⟩=false:=(hg3.frozen_far _ (by simp;omega) (Ne.symm hneP)).trans ((Below.frozen (B:=wc.heap.size) (Below.drew (Q7 wc _)) hgsl).trans hfP);have qS:w3.cell? ⟨gS,0,none⟩=some (.slice (some ⟨gs,0,none⟩) 1 1):=(hg3.cell_far _ (by simp;omega) (Ne.symm hneS)).trans ((Below.cell (B:=wc.heap.size) (Below.drew (Q7 wc _)) lcs).trans cs0)))
       all_goals
        have hgm:Below wc.heap.size wc (wc.alloc (.cells #[.int .i64 tk,.string ⟨tt.toArray⟩,.int .i64 tn,.int .i64 td,.bool ti,.bool tid,.slice none 0 0] 28)).drew:=Below.drew (Q7 wc _)
        have hgne:gg≠gs:=fun e=>by
         have:=U7 ((HP.out.bv.below hgm hgsl).keeps hg3 hneP) ho3 (by decide);exact this (by rw[← e];rfl)
        have ho4:=ho3.kept (J9 w3 ⟨gs,0,none⟩ (.slice (some ⟨gg,0,none⟩) (i+1) cap3)) (.inr fun e=>hgne (Q8 e));have HZ:=Q1 (Sv.put (t:=⟨tk,tt,(tn,td),ti,tid⟩) HP.out hBw (Z7 (Qc hgm _) hg3) (Vy _ (some gg)) rfl (by rw[HT.out.2.2];exact ho3) (by rw[HT.out.2.2];exact ho4));clear ho3 ho4 hg3 hat hgm q1 q2 qS cb0 cb1 cb2 cb3 cb4 cb5 fcb0 fcb1 fcb2 fcb3 fcb4 fcb5 lcb hcP hfP cs0 fcs0 lcs;generalize w3.setCell _ _=w4 at *;go_wp2_with fail
        go_roundg (N-(i+1))
        case measure=>omega
        case rel=>exact⟨i+1,_,by go_num,by rw[HT.out.1];exact Q1 HZ.out.1,Q1 (hb3.out.trans HZ.out.2),hi,Q6 _⟩
  · obtain rfl:i=N:=by omega
    have gi:decide ((i:Int)<(i:Int))=false:=by simp
    have gin:decide (i<i)=false:=by simp
    have hY:Y.take i=Y:=by rw[← HN.out,List.take_length]
    rw[hY]at hK;have cs0:wr.cell? ⟨gS,0,none⟩=some (.slice (some ⟨gs,0,none⟩) 1 1):=(hK.out.bs).cell 0;have fcs0:=(hK.out.bs).frozen 0;have lcs:=(hK.out.bs).lt;have co0:wr.cell? ⟨gO,0,none⟩=some (.slice none 0 0):=(hK.out.bo).cell 0;have fco0:=(hK.out.bo).frozen 0;have lco:=(hK.out.bo).lt;have cv0:wr.cell? ⟨gs,0,none⟩=some (v):=(hK.out.bv).cell 0;have fcv0:=(hK.out.bv).frozen 0;have lcv:=(hK.out.bv).lt;have hrow:=hK.out.row;rw[HN.out]at hrow;have HR:=Q1 hrow;clear hrow hY hK;go_wp2_with fail
    go_loopg [] 0 (fun q wx=>wx=wr)
    case atStart=>rfl
    case round =>
     subst hrel;go_wp2_with fail;go_ret;exact⟨_,rfl,HR.out,hb.out⟩
end Go.Proofs.YtnanffmhbjdpaaaGreatDoor
