/- Of my texts: MedT, AwM, AwN, AwO, AwR, AwS, AwT. -/
import Derived.Test.YtnanffmhbjdpaaaGreatDoorM00
import Derived.Test.YtnanffmhbjdpaaaGreatDoorM05
import Derived.Test.YtnanffmhbjdpaaaGreatDoorM19
import Derived.Test.YtnanffmhbjdpaaaGreatDoorM20
import Derived.Test.YtnanffmhbjdpaaaGreatDoorM25
import Derived.Test.YtnanffmhbjdpaaaGreatDoorM26
import Derived.Test.YtnanffmhbjdpaaaGreatDoorM29
import Derived.Test.YtnanffmhbjdpaaaGreatDoorM30
namespace Go.Proofs.YtnanffmhbjdpaaaGreatDoor
set_option maxHeartbeats 16000000
set_option maxRecDepth 20000
set_option linter.unusedVariables false
set_option linter.unusedSimpArgs false
open Go.RowKit
def S5 (T:List Vt):Bool:=match T with
 | x::_::_=>x.tok.kind==1
 | _=>false
theorem Q5w {T:List Vt} (h:S5 T=false):Xa T=none:=by
 match T,h with
 | [],_=>rfl
 | [x],_ =>
   unfold Xa;simp only[show Z9 []=[] from rfl,ite_self]
 | x::y::r,h =>
   unfold Xa;exact if_neg (by simpa[S5] using h)
theorem Q42 {T:List Vt} (h:S5 T=true):∃ a r,T=a::r∧a.tok.kind=1∧1≤r.length∧Xa T=match Z9 r with
  | c::q=>if Ug c then some (U6 a.tok.text,q) else none
  | []=>none:=by
 match T,h with
 | x::y::r,h =>
   have hk:x.tok.kind=1:=by simpa[S5] using h
   exact⟨x,y::r,rfl,hk,by simp,by unfold Xa;exact if_pos hk⟩
theorem Q3v {A:Nat→Prop} {X:Option Ct} {e:Ending} {w:World} (h:Bw A X e w):∃ (vk:Int) (voa:Option Addr) (vn vc:Nat) (vk2 vt:Int) (vnm:ByteArray) (vop ve0 ve1 ve2 ve3:Int) (vea:Option Addr) (ven vec:Nat) (vwd vvl:ByteArray) (van:Bool),e=.returned (.tuple #[.agg #[.int .i64 vk,.slice voa vn vc,.int .i64 vk2,.int .i64 vt,.string vnm,.int .i64 vop,.int .i64 ve0,.int .i64 ve1,.int .i64 ve2,.int .i64 ve3,.slice vea ven vec,.string vwd,.string vvl,.bool van],.bool X.isSome])∧Hid (∀ C,X=some C→Vj A C (.agg #[.int .i64 vk,.slice voa vn vc,.int .i64 vk2,.int .i64 vt,.string vnm,.int .i64 vop,.int .i64 ve0,.int .i64 ve1,.int .i64 ve2,.int .i64 ve3,.slice vea ven vec,.string vwd,.string vvl,.bool van]) w):=by
 obtain⟨v,ok,rfl,rfl,⟨vk,voa,vn,vc,vk2,vt,vnm,vop,ve0,ve1,ve2,ve3,vea,ven,vec,vwd,vvl,van,rfl⟩,hC⟩:=h;exact⟨_,_,_,_,_,_,_,_,_,_,_,_,_,_,_,_,_,_,rfl,Q1 hC⟩
theorem Q4u (ex:Vt→Option Et) (t:Tk) (k:List Vt) (box:Bool):O9 ex (.mk t k) box=if t.kind≠21∨Jf 64 [.mk t k]=false then none
 else if Qy (Z9 k)≠[] then (if (Z6 (Qy (Z9 k)) box).2||Uf (Qy (Z9 k)) box then some (Ep (Z6 (Qy (Z9 k)) box).1) else none)
 else match Xa (Z9 k) with
  | some (s,q)=>Yo ex s q box
  | none=>Uk ex (Z9 k) box:=rfl
theorem M8 (h:Nat) (tk tn td:Int) (tt:List UInt8) (ti tid:Bool) (koa:Option Addr) (kb ko kcap:Nat) (kids:List Vl) (w:World) (hv:Uu w (h+1) (.mk ⟨tk,tt,(tn,td),ti,tid⟩ koa kb ko kcap kids)) (box:Bool) :
  Calls Tryz.prog 7 #[.agg #[.int .i64 tk,.string ⟨tt.toArray⟩,.int .i64 tn,.int .i64 td,.bool ti,.bool tid,.slice koa kids.length kcap],.bool box] w fun e w'=>Bw (· < w.heap.size) (O9 (Jx h) (.mk ⟨tk,tt,(tn,td),ti,tid⟩ (kids.map Vl.c)) box) e w'∧Below w.heap.size w w':=by
 obtain⟨Y,hY⟩:∃ Y,O9 (Jx h) (.mk ⟨tk,tt,(tn,td),ti,tid⟩ (kids.map Vl.c)) box=Y:=⟨_,rfl⟩;rw[hY];rw[Q4u]at hY;obtain⟨K,hK⟩:∃ K,kids.length=K:=⟨_,rfl⟩;have hkv:=hv.kids;have HV:=Q1 (Q3 hv hkv);have HK:=Q1 hK;have HY:=Q1 hY;rw[hK];clear hv hkv hK hY
 go_enter Tryz.func7,Tryz.ntmps7
 go_upto_region 1 with fail
 have h1:=(Ql.new w 28 #[.int .i64 tk,.string ⟨tt.toArray⟩,.int .i64 tn,.int .i64 td,.bool ti,.bool tid,.slice koa K kcap]).old (.cells Zl 36);have h2:=Ql.new2 w (.cells #[.int .i64 tk,.string ⟨tt.toArray⟩,.int .i64 tn,.int .i64 td,.bool ti,.bool tid,.slice koa K kcap] 28) 36 Zl;have hb0:=(Q7 w (.cells #[.int .i64 tk,.string ⟨tt.toArray⟩,.int .i64 tn,.int .i64 td,.bool ti,.bool tid,.slice koa K kcap] 28)).alloc (by simp) (.cells Zl 36);obtain⟨g,hg⟩:∃ g,w.heap.size=g:=⟨_,rfl⟩;have HG:=Q1 hg;have hl2:=h2.lt;rw[hg]at h1 h2 hl2;have H1:=Q1 h1;have H2:=Q1 h2;have HB:=Q1 hb0;simp only[Zl]at H1 H2 HB hl2
 try simp only[hg]
 clear h1 h2 hb0 hg;generalize World.alloc (World.alloc w _) _=w1 at *;obtain⟨q0,fq0,q1,fq1,q2,fq2,q3,fq3,q4,fq4,q5,fq5,q6,fq6,lq⟩:=Ql.seven H1.out
 have hle:w.heap.size≤g+1:=by have:=HG.out;omega
 by_cases hk:tk=21
 · subst hk;have hm:=Nz (h+1) [.mk ⟨21,tt,(tn,td),ti,tid⟩ koa kb ko kcap kids] _ 1 w1.heap.size 0 _ (Q3i (HV.out.1.below (h+1) HB.out) #[.int .i64 21,.string ⟨tt.toArray⟩,.int .i64 tn,.int .i64 td,.bool ti,.bool tid,.slice koa K kcap] (by rw[← HK.out];rfl));obtain⟨X,hX⟩:∃ X,kids.map Vl.c=X:=⟨_,rfl⟩;simp only[List.map_cons,List.map_nil,Vl.c_mk,hX,Qi]at hm;rw[hX]at HY;obtain⟨m,hmm⟩:∃ m,Jf 64 [.mk ⟨21,tt,(tn,td),ti,tid⟩ X]=m:=⟨_,rfl⟩;rw[hmm]at hm;have HMM:=Q1 hmm;have HX:=Q1 hX;have HM:=Q1 hm;clear hm hmm hX
   cases m with
   | false =>
     have HYN:=Q1 (show Y=none by rw[← HY.out,if_pos (Or.inr HMM.out)]);go_wp2_with fail
     ((with_reducible refine HM.out.mono ?_);rintro e w2 ⟨rfl,hb2⟩)
     have hb12:=(Q7 w1 (.cells #[.int .i64 21,.string ⟨tt.toArray⟩,.int .i64 tn,.int .i64 td,.bool ti,.bool tid,.slice koa K kcap] 28)).trans (hb2.mono (Q7 w1 _).size);have H22:=Q1 (H2.out.below hb12 H2.out.lt);have HB2:=J8 HB hb12;clear hb2 hb12;obtain⟨c0,fc0,c1,fc1,c2,fc2,c3,fc3,c4,fc4,c5,fc5,c6,fc6,c7,fc7,c8,fc8,c9,fc9,c10,fc10,c11,fc11,c12,fc12,c13,fc13,lc⟩:=Ql.z14 (H22.out);go_wp2_with fail;refine bodyPost_ret (v:=.tuple #[.agg #[.int .i64 0,.slice none 0 0,.int .i64 0,.int .i64 0,.string ⟨#[]⟩,.int .i64 0,.int .i64 0,.int .i64 0,.int .i64 0,.int .i64 0,.slice none 0 0,.string ⟨#[]⟩,.string ⟨#[]⟩,.bool false],.bool false]) ?_ rfl ?_
     · exact Zq Tryz.results7 rfl rfl (Ql.zput (H22.out)) rfl
     · exact Jr (HB2.out) (hle) (HYN.out) rfl
   | true =>
     have hT:=O0 (k:=X) HMM.out rfl
     have hY2:Y=if Qy (Z9 X)≠[] then (if (Z6 (Qy (Z9 X)) box).2||Uf (Qy (Z9 X)) box then some (Ep (Z6 (Qy (Z9 X)) box).1) else none)
      else match Xa (Z9 X) with
       | some (s,q)=>Yo (Jx h) s q box
       | none=>Uk (Jx h) (Z9 X) box:=by rw[← HY.out,if_neg (by rw[HMM.out];simp)]
     obtain⟨T,hTe⟩:∃ T,Z9 X=T:=⟨_,rfl⟩;rw[hTe]at hT hY2;obtain⟨n1,hn1⟩:∃ n,Qy T=n:=⟨_,rfl⟩;obtain⟨⟨rn,is⟩,hk1⟩:∃ n,Z6 n1 box=n:=⟨_,rfl⟩;obtain⟨wd,hwd⟩:∃ n,Uf n1 box=n:=⟨_,rfl⟩;rw[hn1,hk1,hwd]at hY2;have HY2:=Q1 hY2;have HTT:=Q1 (Q3 hTe (Q3 hT hn1));have HRN:=Q1 (fun w=>Xk n1 box w);have HWD:=Q1 (fun w=>Fi n1 box w);rw[hk1]at HRN;rw[hwd]at HWD;clear hT hY2 hTe hn1 hk1 HY HMM hwd;go_wp2_with fail
     ((with_reducible refine HM.out.mono ?_);rintro e w2 ⟨rfl,hb2⟩)
     have hb12:=(Q7 w1 (.cells #[.int .i64 21,.string ⟨tt.toArray⟩,.int .i64 tn,.int .i64 td,.bool ti,.bool tid,.slice koa K kcap] 28)).trans (hb2.mono (Q7 w1 _).size);have H22:=Q1 (H2.out.below hb12 H2.out.lt);have h12:=H1.out.below hb12 H1.out.lt;have HB2:=J8 HB hb12;have HKV:=Q1 ((HV.out.2.below HB.out).below hb12);have ht:=Kx h kids koa kcap kb ko w2 HKV.out;rw[HK.out]at ht;have HTR:=Q1 ht;have HDT:=Q1 (show (V4 kids).map Vl.c=T by rw[Cv,HX.out,HTT.out.1]);clear q0 fq0 q1 fq1 q2 fq2 q3 fq3 q4 fq4 q5 fq5 q6 fq6 lq hb2 hb12 H1 H2 HB HM ht;obtain⟨q0,fq0,q1,fq1,q2,fq2,q3,fq3,q4,fq4,q5,fq5,q6,fq6,lq⟩:=Ql.seven h12;clear h12;go_wp2_with fail
     ((with_reducible refine HTR.out.mono ?_);rintro e w3 ⟨⟨oa2,cap2,o2,rfl,hd⟩,hb3⟩)
     have hs2:=hd _ _ (HKV.out.below hb3);have HSW:=Q1 (hd _ _ HV.out.2);have H23:=Q1 (H22.out.below hb3 H22.out.lt);have HB3:=J8 HB2 hb3;generalize V4 kids=D at *;obtain⟨N,hN⟩:∃ N,D.length=N:=⟨_,rfl⟩;have hal:=Bn h D oa2 cap2 kb o2 w3 hs2;rw[HDT.out,HTT.out.2.2,hN]at hal;have hcl:=hs2.sl.le;have hcm:=hs2.sl.max;unfold maxLen at hcm;rw[hN]at hcl ⊢;have HAL:=Q1 hal;have HD:=Q1 (Q3 hs2 (Q3 hN HDT.out));clear q0 fq0 q1 fq1 q2 fq2 q3 fq3 q4 fq4 q5 fq5 q6 fq6 lq hb3 hal hs2 hd hN HTR H22 HB2 HDT HKV;go_wp2_with fail
     ((with_reducible refine HAL.out.mono ?_);rintro e w4 ⟨rfl,hb4⟩)
     have H24:=Q1 (H23.out.below hb4 H23.out.lt);have HB4:=J8 HB3 hb4;have HD4:=Q1 (HD.out.1.below hb4);have hgl:=H24.out.lt;clear hb4 H23 HB3 HAL
     by_cases h0:n1=[]
     · subst h0
       have hY3:Y=match Xa T with
        | some (s,q)=>Yo (Jx h) s q box
        | none=>Uk (Jx h) T box:=by rw[HY2.out,if_neg (by simp)]
       have HY3:=Q1 hY3;clear hY3 HY2 HRN HWD;obtain⟨p,hp⟩:∃ p,S5 T=p:=⟨_,rfl⟩;have HPP:=Q1 hp;clear hp
       go_upto_region 10 with fail
       go_cut [55] from 45 to 55 (fun s wx=>s=.bool p∧w4=wx)
       case first =>
        have HQ:=Q1 (Q3 HD4.out (Q3 HD.out.2.1 (Q3 HD.out.2.2 HPP.out)));clear HPP HD HD4 HTT HY3
        rcases D with _ | ⟨⟨⟨xk,xt,⟨xn,xd⟩,xi,xid⟩,xoa,xb,xo,xcap,xkids⟩,_ | ⟨y,r⟩⟩
        · obtain rfl:0=N:=HQ.out.2.1
          obtain rfl:false=p:=by rw[← HQ.out.2.2.2,← HQ.out.2.2.1];rfl
          clear HQ;go_wp2_with fail;go_meet;exact⟨rfl,rfl⟩
        · obtain rfl:1=N:=HQ.out.2.1
          obtain rfl:false=p:=by rw[← HQ.out.2.2.2,← HQ.out.2.2.1];rfl
          clear HQ;go_wp2_with fail;go_meet;exact⟨rfl,rfl⟩
        · obtain⟨f0,-,-,-,-,-,-⟩:=HQ.out.1.row (i:=0) rfl;obtain⟨rfl,hbl⟩:=HQ.out.1.sl.lies (by simp);have gn:decide ((1:Int)<(N:Int))=true:=decide_eq_true (by rw[← HQ.out.2.1,Z8,Z8];omega)
          have gn2:(0:Int)<(N:Int):=by rw[← HQ.out.2.1,Z8];omega
          have gn3:0<N:=by omega
          have gp:(xk==1)=p:=by rw[← HQ.out.2.2.2,← HQ.out.2.2.1];rfl
          simp only[Nat.zero_mul,Nat.add_zero,Nat.zero_add]at f0;clear HQ;go_wp2_with fail;go_meet;exact⟨by rw[← gp],rfl⟩
       obtain⟨rfl,rfl⟩:=hcut
       rename_i hK
       refine hK _ _ ?_
       go_cut [] from 56 to 81 (fun wx=>Hid (Below w4.heap.size w4 wx)∧Hid (Xa T=none))
       case first =>
        cases p with
        | false =>
          go_wp2_with fail;go_meet;exact⟨Q1 (Below.refl _ _),Q1 (Q5w HPP.out)⟩
        | true =>
          obtain⟨a,r,hTa,hak,hrl,hpr⟩:=Q42 HPP.out
          have hDl:D.length=r.length+1:=by rw[← Qj (f:=Vl.c),HD.out.2.2,hTa];rfl
          have hN1:1≤N:=by rw[← HD.out.2.1];omega
          obtain⟨x,hx⟩:∃ x,D[0]?=some x:=⟨_,Q9 (by omega)⟩
          have hxa:x.c=a:=by
           have:(D.map Vl.c)[0]?=some x.c:=by rw[Z5,hx];rfl
           rw[HD.out.2.2,hTa]at this;exact(Q8 this).symm
          have he1:(D.drop 1).map Vl.c=r:=by rw[List.map_drop,HD.out.2.2,hTa];rfl
          obtain⟨oa3,cap3,o3,hr3,hv3⟩:=Xo HD4.out HD.out.2.1 hN1
          have hr4:=fun w=>hr3 1 w rfl
          have ht:=Kx h (D.drop 1) oa3 cap3 kb o3 w4 (hv3 _ HD4.out)
          have hDT:(V4 (D.drop 1)).map Vl.c=Z9 r:=by rw[Cv,he1]
          have HV3:=Q1 (hv3 _ HD4.out);have hmr:Jf 64 (Z9 r)=true:=F2 (by have:=(Uh HTT.out.2.1 1).2;rw[hTa]at this;exact this);obtain⟨n3,hn3⟩:∃ n,(D.drop 1).length=n:=⟨_,rfl⟩;rw[hn3]at ht hr4;have HTR:=Q1 ht;have HPR:=Q1 (Q3 hpr (Q3 hDT hmr));have HXA:=Q1 (Q3 hx (Q3 hxa hak));have gN:decide ((1:Int)≤(N:Int))=true:=decide_eq_true (by omega);clear hr3 hv3 ht hDT hmr he1 hTa hpr hx hxa hak hDl;go_wp2_with fail
          ((with_reducible refine HTR.out.mono ?_);rintro e w6 ⟨⟨oa5,cap5,o5,rfl,hd⟩,hb6⟩)
          have hs6:=hd _ _ (HV3.out.below hb6);have hd46:=HD4.out.below hb6;obtain⟨⟨xk,xt,⟨xn,xd⟩,xi,xid⟩,xoa,xb,xo,xcap,xkids⟩:=x;obtain⟨-,f1,-,-,-,-,-⟩:=hd46.row HXA.out.1;obtain⟨rfl,hbl⟩:=hd46.sl.lies (by rw[HD.out.2.1];omega);have htl:=(Bt (hd46.each 0 _ HXA.out.1)).2.2;have hkw:=(HSW.out.sl.lies (by rw[HD.out.2.1];omega)).2;simp only[Nat.zero_mul,Nat.add_zero]at f1;have HLW:=Q1 (fun w=>Kk xt w htl)
          have hat:a.tok.text=xt:=by rw[← HXA.out.2.1];rfl
          have HB46:=Q1 hb6;have H26:=Q1 (H24.out.below hb6 hgl);have HB6:=J8 HB4 hb6;generalize V4 (D.drop 1)=D2 at *;obtain⟨n5,hn5⟩:∃ n,D2.length=n:=⟨_,rfl⟩;rw[hn5];have hcl5:=hs6.sl.le;rw[hn5]at hcl5;have hpr:=HPR.out.1;rw[hat,← HPR.out.2.1]at hpr;have HPX:=Q1 (Q3 hpr (show Jf 64 (D2.map Vl.c)=true by rw[HPR.out.2.1];exact HPR.out.2.2));have HS6:=Q1 (Q3 hs6 hn5);have HF1:=Q1 (Q3 f1 hbl)
          obtain ⟨bb,hbb⟩:∃ p,(match D2.map Vl.c with
           | c::_=>Ug c
           | []=>false)=p:=⟨_,rfl⟩
          have HBB:=Q1 hbb;clear hd hs6 hd46 hb6 hn5 hpr hbb htl hat f1 HV3 HTR HPR HXA gN hr4 hn3 H24 HB4
          go_upto_region 12 with fail
          go_cut [69] from 59 to 69 (fun s wx=>s=.bool bb∧w6=wx)
          case first =>
           rcases D2 with _ | ⟨⟨⟨yk,yt,⟨yn,yd⟩,yi,yid⟩,yoa,yb,yo,ycap,ykids⟩,q⟩
           · obtain rfl:0=n5:=HS6.out.2;obtain rfl:false=bb:=HBB.out;clear HS6 HBB HPX;go_wp2_with fail;go_meet;exact⟨rfl,rfl⟩
           · obtain⟨y0,-,-,-,-,-,-⟩:=HS6.out.1.row (i:=0) rfl;obtain⟨rfl,hbl5⟩:=HS6.out.1.sl.lies (by simp);have gn:decide ((0:Int)<(n5:Int))=true:=decide_eq_true (by rw[← HS6.out.2,Z8];omega)
             have gn2:(0:Int)<(n5:Int):=by rw[← HS6.out.2,Z8];omega
             have gn3:0<n5:=by omega
             have gp:(yk==16)=bb:=by rw[← HBB.out];rfl
             simp only[Nat.zero_mul,Nat.add_zero,Nat.zero_add]at y0;clear HS6 HBB HPX;go_wp2_with fail;go_meet;exact⟨by rw[← gp],rfl⟩
          obtain⟨rfl,rfl⟩:=hcut
          cases bb with
          | false =>
            go_wp2_with fail;go_meet;refine⟨HB46,Q1 ?_⟩;rw[HPX.out.1];have:=HBB.out
            cases hD:D2.map Vl.c with
            | nil=>rfl
            | cons c q =>
              rw[hD]at this;exact if_neg (by rw[show Ug c=false from this];simp)
          | true =>
            obtain ⟨c,q,hcq,hcc⟩:∃ c q,D2.map Vl.c=c::q∧Ug c=true:=by
             have:=HBB.out
             cases hD:D2.map Vl.c with
             | nil=>rw[hD]at this;cases this
             | cons c q=>rw[hD]at this;exact⟨c,q,rfl,this⟩
            have hpt:Xa T=some (U6 xt,q):=by rw[HPX.out.1,hcq];exact if_pos hcc
            have HYD:=Q1 (show Y=Yo (Jx h) (U6 xt) q box by rw[HY3.out,hpt])
            have hn1:1≤n5:=by rw[← HS6.out.2,← Qj (f:=Vl.c),hcq,Z8];omega
            obtain⟨oa7,cap7,o7,hr7,hv7⟩:=Xo HS6.out.1 HS6.out.2 hn1
            have hr8:=fun w=>hr7 1 w rfl
            have he7:(D2.drop 1).map Vl.c=q:=by rw[List.map_drop,hcq];rfl
            have hmq:Jf 64 q=true:=by have:=(Uh HPX.out.2 1).2;rw[hcq]at this;exact this
            obtain⟨Z,hZ⟩:∃ Z,Yo (Jx h) (U6 xt) q box=Z:=⟨_,rfl⟩;rw[hZ]at HYD;obtain⟨okz,hokz⟩:∃ k,Z.isSome=k:=⟨_,rfl⟩
            have hpl:=fun wx (hx:Bel w6 wx)=>(P5 h (D2.drop 1) oa7 cap7 kb o7 wx (hv7 _ (HS6.out.1.below hx.out)) (by rw[he7];exact hmq) (U6 xt) box).mono fun e w' hh=>Q3 (Q3v hh.1) hh.2
            rw[he7,hZ,hokz]at hpl;generalize (D2.drop 1).length=n7 at *;have HPL:=Q1 hpl;have HOZ:=Q1 hokz;have KEEP:=Q1 (show ∀ wx,Bel w6 wx→wx.cell? ⟨kb,o2+1,none⟩=some (.string ⟨xt.toArray⟩) from fun wx hx=>(Below.cell hx.out (p:=⟨kb,o2+1,none⟩) HF1.out.2).trans HF1.out.1)
            have hz:=fun m:Kc w6.drew=>Ql.z14 ((Jy H26.out).grow m)
            have hg6:=H26.out.lt;have gN:decide ((0:Int)<(N:Int))=true:=decide_eq_true (by omega)
            have gN2:(0:Int)<(N:Int):=by omega
            have gN3:0<N:=by omega
            generalize U6 xt=lx at *;clear hr7 hv7 hpl hokz hmq he7 hpt hcq hcc hZ HPX HY3 hrl
            have hk1:kb≠g+1:=by omega
            have hk2:g+1≠kb:=by omega
            go_upto_region 13 with fail
            go_region_held3 (fun wx=>wx.cell? ⟨kb,o2+1,none⟩=some (.string ⟨xt.toArray⟩)) (first|exact KEEP.out _ inferInstance|go_keep) (first | (go_at_call 28;(with_reducible refine(HLW.out _).mono ?_);rintro e w7 ⟨rfl,hb7⟩;(first|obtain⟨m7,rfl⟩:=Qf ((Qk _).trans (hb7.mono (Zn _))) | obtain⟨m7,rfl⟩:=Qf hb7);clear hb7) | (go_at_call 27;(with_reducible refine(HPL.out _ inferInstance).mono ?_);rintro e w7 ⟨⟨vk,voa,vn,vc,vk2,vt,vnm,vop,ve0,ve1,ve2,ve3,vea,ven,vec,vwd,vvl,van,rfl,HQ⟩,hb7⟩;(first|obtain⟨m7,rfl⟩:=Qf ((Qk _).trans (hb7.mono (Zn _))) | obtain⟨m7,rfl⟩:=Qf hb7);clear hb7))
            go_wp2_with fail;refine bodyPost_ret (v:=.tuple #[.agg #[.int .i64 vk,.slice voa vn vc,.int .i64 vk2,.int .i64 vt,.string vnm,.int .i64 vop,.int .i64 ve0,.int .i64 ve1,.int .i64 ve2,.int .i64 ve3,.slice vea ven vec,.string vwd,.string vvl,.bool van],.bool okz]) ?_ rfl ?_
            · exact Zq Tryz.results7 rfl rfl (((Jy H26.out).grow m7).put14 _ _ _ _ _ _ _ _ _ _ _ _ _ _) rfl
            · exact by rw[HYD.out];exact Uq (Qa HB6.out.drew m7) hle (Qg (show g+1<w6.drew.heap.size from hg6) (Zn _)) HOZ.out.symm ⟨_,_,_,_,_,_,_,_,_,_,_,_,_,_,_,_,_,_,rfl⟩ (fun C hC=>HQ.out C hC) rfl
       case rest =>
        have HYD:=Q1 (show Y=Uk (Jx h) T box by rw[HY3.out,hcut.2.out]);have H25:=Q1 (H24.out.below hcut.1.out hgl);have HB5:=J8 HB4 hcut.1.out;have hp:=Hg h D oa2 cap2 kb o2 wc (HD4.out.below hcut.1.out) (by rw[HD.out.2.2];exact HTT.out.2.1) box;rw[HD.out.2.1,HD.out.2.2]at hp;obtain⟨Z,hZ⟩:∃ Z,Uk (Jx h) T box=Z:=⟨_,rfl⟩;rw[hZ]at hp HYD;have HP:=Q1 hp;clear hp hcut H24 HB4 HD4 HY3 HPP hZ hK;go_wp2_with fail
        ((with_reducible refine HP.out.mono ?_);rintro e w6 ⟨⟨v,ok,rfl,hok,⟨vk,voa,vn,vc,vk2,vt,vnm,vop,ve0,ve1,ve2,ve3,vea,ven,vec,vwd,vvl,van,rfl⟩,hC⟩,hb6⟩)
        have hg5:=H25.out.lt;have H26:=Q1 (H25.out.below hb6 hg5);have HB6:=J8 HB5 hb6;have HC:=Q1 hC;have HOK:=Q1 hok;clear hok hb6 hC HP H25 HB5;obtain⟨c0,fc0,c1,fc1,c2,fc2,c3,fc3,c4,fc4,c5,fc5,c6,fc6,c7,fc7,c8,fc8,c9,fc9,c10,fc10,c11,fc11,c12,fc12,c13,fc13,lc⟩:=Ql.z14 (H26.out);go_wp2_with fail;refine bodyPost_ret (v:=.tuple #[.agg #[.int .i64 vk,.slice voa vn vc,.int .i64 vk2,.int .i64 vt,.string vnm,.int .i64 vop,.int .i64 ve0,.int .i64 ve1,.int .i64 ve2,.int .i64 ve3,.slice vea ven vec,.string vwd,.string vvl,.bool van],.bool ok]) ?_ rfl ?_
        · exact Zq Tryz.results7 rfl rfl (H26.out.put14 _ _ _ _ _ _ _ _ _ _ _ _ _ _) rfl
        · exact by rw[HYD.out];exact Uq HB6.out hle hg5 HOK.out ⟨_,_,_,_,_,_,_,_,_,_,_,_,_,_,_,_,_,_,rfl⟩ HC.out rfl
     · have g0:(n1==[])=false:=beq_eq_false_iff_ne.2 h0;have g1:(n1 != [])=true:=bne_iff_ne.2 h0;have HYC:=Q1 (show Y=if is||wd then some (Ep rn) else none by rw[HY2.out,if_pos h0]);clear h0 HY2;go_wp2_with fail
       ((with_reducible refine(HRN.out _).mono ?_);rintro e w5 ⟨rfl,rfl⟩)
       rcases(show (is=true)∨(is=false∧wd=true)∨(is=false∧wd=false) by cases is<;>cases wd<;>simp) with rfl|⟨rfl,rfl⟩ | ⟨rfl,rfl⟩
       · have HYD:=Q1 (show Y=some (Ep rn) from HYC.out);go_wp2_with fail
         ((with_reducible refine(Dz 3 0 0 0 0 0 0 _ _ _ none 0 0 false _).mono ?_);rintro e w6 ⟨rfl,hb6⟩)
         have H26:=Q1 (H24.out.below hb6 H24.out.lt);have HB6:=J8 HB4 hb6;clear hb6;obtain⟨c0,fc0,c1,fc1,c2,fc2,c3,fc3,c4,fc4,c5,fc5,c6,fc6,c7,fc7,c8,fc8,c9,fc9,c10,fc10,c11,fc11,c12,fc12,c13,fc13,lc⟩:=Ql.z14 (H26.out);go_wp2_with fail;refine bodyPost_ret (v:=.tuple #[.agg #[.int .i64 4,.slice none 0 0,.int .i64 3,.int .i64 0,.string ⟨rn.toArray⟩,.int .i64 0,.int .i64 0,.int .i64 0,.int .i64 0,.int .i64 0,.slice none 0 0,.string ⟨#[]⟩,.string ⟨#[]⟩,.bool false],.bool true]) ?_ rfl ?_
         · exact Zq Tryz.results7 rfl rfl (H26.out.put14 _ _ _ _ _ _ _ _ _ _ _ _ _ _) rfl
         · exact by rw[HYD.out];exact Uq HB6.out hle hgl rfl ⟨_,_,_,_,_,_,_,_,_,_,_,_,_,_,_,_,_,_,rfl⟩ (fun C hC=>by obtain rfl:=Q8 hC;exact Bs _ _ 3 rn [] (by decide)) rfl
       · have HYD:=Q1 (show Y=some (Ep rn) from HYC.out);go_wp2_with fail
         ((with_reducible refine(HWD.out _).mono ?_);rintro e w5 ⟨rfl,hb5⟩)
         have H25:=Q1 (H24.out.below hb5 H24.out.lt);have HB5:=J8 HB4 hb5;clear hb5;go_wp2_with fail
         ((with_reducible refine(Dz 3 0 0 0 0 0 0 _ _ _ none 0 0 false _).mono ?_);rintro e w6 ⟨rfl,hb6⟩)
         have H26:=Q1 (H25.out.below hb6 H25.out.lt);have HB6:=J8 HB5 hb6;clear hb6;obtain⟨c0,fc0,c1,fc1,c2,fc2,c3,fc3,c4,fc4,c5,fc5,c6,fc6,c7,fc7,c8,fc8,c9,fc9,c10,fc10,c11,fc11,c12,fc12,c13,fc13,lc⟩:=Ql.z14 (H26.out);go_wp2_with fail;refine bodyPost_ret (v:=.tuple #[.agg #[.int .i64 4,.slice none 0 0,.int .i64 3,.int .i64 0,.string ⟨rn.toArray⟩,.int .i64 0,.int .i64 0,.int .i64 0,.int .i64 0,.int .i64 0,.slice none 0 0,.string ⟨#[]⟩,.string ⟨#[]⟩,.bool false],.bool true]) ?_ rfl ?_
         · exact Zq Tryz.results7 rfl rfl (H26.out.put14 _ _ _ _ _ _ _ _ _ _ _ _ _ _) rfl
         · exact by rw[HYD.out];exact Uq HB6.out hle hgl rfl ⟨_,_,_,_,_,_,_,_,_,_,_,_,_,_,_,_,_,_,rfl⟩ (fun C hC=>by obtain rfl:=Q8 hC;exact Bs _ _ 3 rn [] (by decide)) rfl
       · have HYN:=Q1 (show Y=none from HYC.out);go_wp2_with fail
         ((with_reducible refine(HWD.out _).mono ?_);rintro e w5 ⟨rfl,hb5⟩)
         have H25:=Q1 (H24.out.below hb5 H24.out.lt);have HB5:=J8 HB4 hb5;clear hb5;obtain⟨c0,fc0,c1,fc1,c2,fc2,c3,fc3,c4,fc4,c5,fc5,c6,fc6,c7,fc7,c8,fc8,c9,fc9,c10,fc10,c11,fc11,c12,fc12,c13,fc13,lc⟩:=Ql.z14 (H25.out);go_wp2_with fail;refine bodyPost_ret (v:=.tuple #[.agg #[.int .i64 0,.slice none 0 0,.int .i64 0,.int .i64 0,.string ⟨#[]⟩,.int .i64 0,.int .i64 0,.int .i64 0,.int .i64 0,.int .i64 0,.slice none 0 0,.string ⟨#[]⟩,.string ⟨#[]⟩,.bool false],.bool false]) ?_ rfl ?_
         · exact Zq Tryz.results7 rfl rfl (Ql.zput (H25.out)) rfl
         · exact Jr (HB5.out) (hle) (HYN.out) rfl
 · have gk:(tk != 21)=true:=by simpa using hk
   have HYN:=Q1 (show Y=none by rw[← HY.out,if_pos (Or.inl hk)]);obtain⟨c0,fc0,c1,fc1,c2,fc2,c3,fc3,c4,fc4,c5,fc5,c6,fc6,c7,fc7,c8,fc8,c9,fc9,c10,fc10,c11,fc11,c12,fc12,c13,fc13,lc⟩:=Ql.z14 (H2.out);go_wp2_with fail;refine bodyPost_ret (v:=.tuple #[.agg #[.int .i64 0,.slice none 0 0,.int .i64 0,.int .i64 0,.string ⟨#[]⟩,.int .i64 0,.int .i64 0,.int .i64 0,.int .i64 0,.int .i64 0,.slice none 0 0,.string ⟨#[]⟩,.string ⟨#[]⟩,.bool false],.bool false]) ?_ rfl ?_
   · exact Zq Tryz.results7 rfl rfl (Ql.zput (H2.out)) rfl
   · exact Jr (HB.out) (hle) (HYN.out) rfl
theorem Ql.fif {w:World} {g:Nat} {t:TypeId} {a0 a1 a2 a3 a4 a5 a6 a7 a8 a9 a10 a11 a12 a13 a14:Value} (h:Ql w g t #[a0,a1,a2,a3,a4,a5,a6,a7,a8,a9,a10,a11,a12,a13,a14]):w.cell? ⟨g,0,none⟩=some a0∧w.frozen? ⟨g,0,none⟩=false∧w.cell? ⟨g,1,none⟩=some a1∧w.frozen? ⟨g,1,none⟩=false∧w.cell? ⟨g,2,none⟩=some a2∧w.frozen? ⟨g,2,none⟩=false∧w.cell? ⟨g,3,none⟩=some a3∧w.frozen? ⟨g,3,none⟩=false∧w.cell? ⟨g,4,none⟩=some a4∧w.frozen? ⟨g,4,none⟩=false∧w.cell? ⟨g,5,none⟩=some a5∧w.frozen? ⟨g,5,none⟩=false∧w.cell? ⟨g,6,none⟩=some a6∧w.frozen? ⟨g,6,none⟩=false∧w.cell? ⟨g,7,none⟩=some a7∧w.frozen? ⟨g,7,none⟩=false∧w.cell? ⟨g,8,none⟩=some a8∧w.frozen? ⟨g,8,none⟩=false∧w.cell? ⟨g,9,none⟩=some a9∧w.frozen? ⟨g,9,none⟩=false∧w.cell? ⟨g,10,none⟩=some a10∧w.frozen? ⟨g,10,none⟩=false∧w.cell? ⟨g,11,none⟩=some a11∧w.frozen? ⟨g,11,none⟩=false∧w.cell? ⟨g,12,none⟩=some a12∧w.frozen? ⟨g,12,none⟩=false∧w.cell? ⟨g,13,none⟩=some a13∧w.frozen? ⟨g,13,none⟩=false∧w.cell? ⟨g,14,none⟩=some a14∧w.frozen? ⟨g,14,none⟩=false∧g<w.heap.size :=
 ⟨h.cell 0,h.frozen 0,h.cell 1,h.frozen 1,h.cell 2,h.frozen 2,h.cell 3,h.frozen 3,h.cell 4,h.frozen 4,h.cell 5,h.frozen 5,h.cell 6,h.frozen 6,h.cell 7,h.frozen 7,h.cell 8,h.frozen 8,h.cell 9,h.frozen 9,h.cell 10,h.frozen 10,h.cell 11,h.frozen 11,h.cell 12,h.frozen 12,h.cell 13,h.frozen 13,h.cell 14,h.frozen 14,h.lt⟩
theorem Ql.put15 {w:World} {g:Nat} {t:TypeId} {a0 a1 a2 a3 a4 a5 a6 a7 a8 a9 a10 a11 a12 a13 a14:Value} (h:Ql w g t #[a0,a1,a2,a3,a4,a5,a6,a7,a8,a9,a10,a11,a12,a13,a14]) (v0 v1 v2 v3 v4 v5 v6 v7 v8 v9 v10 v11 v12 v13 v14:Value):Ql ((((((((((((((((w).setCell ⟨g,0,none⟩ v0).setCell ⟨g,1,none⟩ v1).setCell ⟨g,2,none⟩ v2).setCell ⟨g,3,none⟩ v3).setCell ⟨g,4,none⟩ v4).setCell ⟨g,5,none⟩ v5).setCell ⟨g,6,none⟩ v6).setCell ⟨g,7,none⟩ v7).setCell ⟨g,8,none⟩ v8).setCell ⟨g,9,none⟩ v9).setCell ⟨g,10,none⟩ v10).setCell ⟨g,11,none⟩ v11).setCell ⟨g,12,none⟩ v12).setCell ⟨g,13,none⟩ v13).setCell ⟨g,14,none⟩ v14) g t #[v0,v1,v2,v3,v4,v5,v6,v7,v8,v9,v10,v11,v12,v13,v14]:=by
 have hz:=Gr [v0,v1,v2,v3,v4,v5,v6,v7,v8,v9,v10,v11,v12,v13,v14] [a0,a1,a2,a3,a4,a5,a6,a7,a8,a9,a10,a11,a12,a13,a14] w 0 [] h rfl rfl;simp only[J5,Nat.zero_add,Nat.reduceAdd]at hz;exact hz
theorem Ed {B:Nat} {w0 w:World} {g:Nat} (h:Below B w0 w) (hg:B≤g) (v0 v1 v2 v3 v4 v5 v6 v7 v8 v9 v10 v11 v12 v13 v14:Value):Below B w0 ((((((((((((((((w).setCell ⟨g,0,none⟩ v0).setCell ⟨g,1,none⟩ v1).setCell ⟨g,2,none⟩ v2).setCell ⟨g,3,none⟩ v3).setCell ⟨g,4,none⟩ v4).setCell ⟨g,5,none⟩ v5).setCell ⟨g,6,none⟩ v6).setCell ⟨g,7,none⟩ v7).setCell ⟨g,8,none⟩ v8).setCell ⟨g,9,none⟩ v9).setCell ⟨g,10,none⟩ v10).setCell ⟨g,11,none⟩ v11).setCell ⟨g,12,none⟩ v12).setCell ⟨g,13,none⟩ v13).setCell ⟨g,14,none⟩ v14):=by
 have hz:=h.trans ((V3 [v0,v1,v2,v3,v4,v5,v6,v7,v8,v9,v10,v11,v12,v13,v14] w g 0).mono hg);simp only[J5,Nat.zero_add,Nat.reduceAdd]at hz;exact hz
theorem I1 {fn:Func} {p:Tmp} {tmps:Array Value} {w:World} {g:Nat} {t:TypeId} {cs:Array Value} (hr:fn.results=#[.cell p 189]) (hp:tmps.getD p undef=.pointer (some ⟨g,0,none⟩)) (h:Ql w g t cs) (hs:cs.size=15):(results fn tmps).run Tryz.prog w=.ok (.agg cs) w :=
 results_cell_row hr tmps w g t cs (0,0) _ hp h Tryz.underlying189 rfl (by rw[hs];kernel_rfl)
theorem Sc (w:World):Calls Tryz.prog 233 #[] w fun e w'=>e=.returned (.agg #[.int .i64 0,.int .i64 1])∧Below w.heap.size w w':=by
 have hb:=Q7 w (.cells #[.int .i64 0,.int .i64 1] 23)
 go_enter Tryz.func233,Tryz.ntmps233
 go_wp2_with fail;exact bodyPost_ret (v:=.agg #[.int .i64 0,.int .i64 1]) (by simp[results,Tryz.results233,go_sem]) rfl ⟨rfl,hb⟩
def zf (i:Nat):Array Value:=(((List.range 7).flatMap fun j=>[Value.int .i64 0,.int .i64 (if j<i then 1 else 0)])++[Value.slice none 0 0]).toArray
theorem Q3s {i:Nat} (h:i<7):i=0∨i=1∨i=2∨i=3∨i=4∨i=5∨i=6:=by omega
theorem Q3c (w:World):Calls Tryz.prog 232 #[] w fun e w'=>e=.returned (.agg #[.int .i64 0,.int .i64 1,.int .i64 0,.int .i64 1,.int .i64 0,.int .i64 1,.int .i64 0,.int .i64 1,.int .i64 0,.int .i64 1,.int .i64 0,.int .i64 1,.int .i64 0,.int .i64 1,.slice none 0 0])∧Below w.heap.size w w':=by
 have h1:=(Ql.new w 189 (zf 0)).old (.cells (zf 0) 189);have h2:=Ql.new2 w (.cells (zf 0) 189) 189 (zf 0);have hb:=(Q7 w (.cells (zf 0) 189)).alloc (by simp) (.cells (zf 0) 189);obtain⟨g,hg⟩:∃ g,w.heap.size=g:=⟨_,rfl⟩;rw[hg]at h1 h2;rw[show zf 0=#[.int .i64 0,.int .i64 0,.int .i64 0,.int .i64 0,.int .i64 0,.int .i64 0,.int .i64 0,.int .i64 0,.int .i64 0,.int .i64 0,.int .i64 0,.int .i64 0,.int .i64 0,.int .i64 0,.slice none 0 0] from rfl]at h1 h2 hb;have H1:=Q1 h1;have H2:=Q1 (show Ql _ _ _ (zf 0) from h2);have HB:=Q1 hb;have HG:=Q1 hg;clear h1 h2 hb
 go_enter Tryz.func232,Tryz.ntmps232
 go_upto_region 2 with fail
 try simp only[hg]
 clear hg;generalize World.alloc (World.alloc w _) _=wa at *;go_wp2_with fail
 go_loopg [3] 7 (fun q s wr=>∃ i:Nat,s=.int .i64 i∧Hid (Below g wa wr)∧Hid (Ql wr g 189 #[.int .i64 0,.int .i64 0,.int .i64 0,.int .i64 0,.int .i64 0,.int .i64 0,.int .i64 0,.int .i64 0,.int .i64 0,.int .i64 0,.int .i64 0,.int .i64 0,.int .i64 0,.int .i64 0,.slice none 0 0])∧Hid (Ql wr (g+1) 189 (zf i))∧i≤7∧7-i≤q)
 case atStart=>exact⟨0,rfl,Q1 (Below.refl _ _),H1,H2,by omega,by omega⟩
 case round =>
  obtain⟨i,rfl,hb,hz,hf,hi,hq⟩:=hrel;have hlt:=hz.out.lt
  by_cases h4:i<7
  · have hN:=Q1 (Sc wr)
    rcases Q3s h4 with rfl|rfl|rfl|rfl|rfl|rfl|rfl
    · go_wp2_with fail
      ((with_reducible refine hN.out.mono ?_);rintro e wd ⟨rfl,hbd⟩)
      have hf2:=hf.out.below hbd hf.out.lt;have c0:wd.cell? ⟨g+1,0,none⟩=some (.int .i64 0):=hf2.cell 0;have c1:wd.cell? ⟨g+1,1,none⟩=some (.int .i64 0):=hf2.cell 1;have k0:=hf2.frozen 0;have k1:=hf2.frozen 1;have HF:=Q1 (show Ql ((wd.setCell ⟨g+1,0,none⟩ (.int .i64 0)).setCell ⟨g+1,1,none⟩ (.int .i64 1)) (g+1) 189 (zf 1) from (hf2.put 0 (.int .i64 0)).put 1 (.int .i64 1));have HZ:=Q1 (((hz.out.below hbd hlt).far (p:=⟨g+1,0,none⟩) (by simp) (.int .i64 0)).far (p:=⟨g+1,1,none⟩) (by simp) (.int .i64 1));have HD:=Q1 (((hb.out.trans (hbd.mono (Zg hlt))).setCell (p:=⟨g+1,0,none⟩) (Zk g) (.int .i64 0)).setCell (p:=⟨g+1,1,none⟩) (Zk g) (.int .i64 1));clear hf2 hbd hN;go_wp2_with fail
      go_roundg 6
      case measure=>omega
      case rel=>exact⟨1,rfl,HD,HZ,HF,by omega,by omega⟩
    · go_wp2_with fail
      ((with_reducible refine hN.out.mono ?_);rintro e wd ⟨rfl,hbd⟩)
      have hf2:=hf.out.below hbd hf.out.lt;have c0:wd.cell? ⟨g+1,2,none⟩=some (.int .i64 0):=hf2.cell 2;have c1:wd.cell? ⟨g+1,3,none⟩=some (.int .i64 0):=hf2.cell 3;have k0:=hf2.frozen 2;have k1:=hf2.frozen 3;have HF:=Q1 (show Ql ((wd.setCell ⟨g+1,2,none⟩ (.int .i64 0)).setCell ⟨g+1,3,none⟩ (.int .i64 1)) (g+1) 189 (zf 2) from (hf2.put 2 (.int .i64 0)).put 3 (.int .i64 1));have HZ:=Q1 (((hz.out.below hbd hlt).far (p:=⟨g+1,2,none⟩) (by simp) (.int .i64 0)).far (p:=⟨g+1,3,none⟩) (by simp) (.int .i64 1));have HD:=Q1 (((hb.out.trans (hbd.mono (Zg hlt))).setCell (p:=⟨g+1,2,none⟩) (Zk g) (.int .i64 0)).setCell (p:=⟨g+1,3,none⟩) (Zk g) (.int .i64 1));clear hf2 hbd hN;go_wp2_with fail
      go_roundg 5
      case measure=>omega
      case rel=>exact⟨2,rfl,HD,HZ,HF,by omega,by omega⟩
    · go_wp2_with fail
      ((with_reducible refine hN.out.mono ?_);rintro e wd ⟨rfl,hbd⟩)
      have hf2:=hf.out.below hbd hf.out.lt;have c0:wd.cell? ⟨g+1,4,none⟩=some (.int .i64 0):=hf2.cell 4;have c1:wd.cell? ⟨g+1,5,none⟩=some (.int .i64 0):=hf2.cell 5;have k0:=hf2.frozen 4;have k1:=hf2.frozen 5;have HF:=Q1 (show Ql ((wd.setCell ⟨g+1,4,none⟩ (.int .i64 0)).setCell ⟨g+1,5,none⟩ (.int .i64 1)) (g+1) 189 (zf 3) from (hf2.put 4 (.int .i64 0)).put 5 (.int .i64 1));have HZ:=Q1 (((hz.out.below hbd hlt).far (p:=⟨g+1,4,none⟩) (by simp) (.int .i64 0)).far (p:=⟨g+1,5,none⟩) (by simp) (.int .i64 1));have HD:=Q1 (((hb.out.trans (hbd.mono (Zg hlt))).setCell (p:=⟨g+1,4,none⟩) (Zk g) (.int .i64 0)).setCell (p:=⟨g+1,5,none⟩) (Zk g) (.int .i64 1));clear hf2 hbd hN;go_wp2_with fail
      go_roundg 4
      case measure=>omega
      case rel=>exact⟨3,rfl,HD,HZ,HF,by omega,by omega⟩
    · go_wp2_with fail
      ((with_reducible refine hN.out.mono ?_);rintro e wd ⟨rfl,hbd⟩)
      have hf2:=hf.out.below hbd hf.out.lt;have c0:wd.cell? ⟨g+1,6,none⟩=some (.int .i64 0):=hf2.cell 6;have c1:wd.cell? ⟨g+1,7,none⟩=some (.int .i64 0):=hf2.cell 7;have k0:=hf2.frozen 6;have k1:=hf2.frozen 7;have HF:=Q1 (show Ql ((wd.setCell ⟨g+1,6,none⟩ (.int .i64 0)).setCell ⟨g+1,7,none⟩ (.int .i64 1)) (g+1) 189 (zf 4) from (hf2.put 6 (.int .i64 0)).put 7 (.int .i64 1));have HZ:=Q1 (((hz.out.below hbd hlt).far (p:=⟨g+1,6,none⟩) (by simp) (.int .i64 0)).far (p:=⟨g+1,7,none⟩) (by simp) (.int .i64 1));have HD:=Q1 (((hb.out.trans (hbd.mono (Zg hlt))).setCell (p:=⟨g+1,6,none⟩) (Zk g) (.int .i64 0)).setCell (p:=⟨g+1,7,none⟩) (Zk g) (.int .i64 1));clear hf2 hbd hN;go_wp2_with fail
      go_roundg 3
      case measure=>omega
      case rel=>exact⟨4,rfl,HD,HZ,HF,by omega,by omega⟩
    · go_wp2_with fail
      ((with_reducible refine hN.out.mono ?_);rintro e wd ⟨rfl,hbd⟩)
      have hf2:=hf.out.below hbd hf.out.lt;have c0:wd.cell? ⟨g+1,8,none⟩=some (.int .i64 0):=hf2.cell 8;have c1:wd.cell? ⟨g+1,9,none⟩=some (.int .i64 0):=hf2.cell 9;have k0:=hf2.frozen 8;have k1:=hf2.frozen 9;have HF:=Q1 (show Ql ((wd.setCell ⟨g+1,8,none⟩ (.int .i64 0)).setCell ⟨g+1,9,none⟩ (.int .i64 1)) (g+1) 189 (zf 5) from (hf2.put 8 (.int .i64 0)).put 9 (.int .i64 1));have HZ:=Q1 (((hz.out.below hbd hlt).far (p:=⟨g+1,8,none⟩) (by simp) (.int .i64 0)).far (p:=⟨g+1,9,none⟩) (by simp) (.int .i64 1));have HD:=Q1 (((hb.out.trans (hbd.mono (Zg hlt))).setCell (p:=⟨g+1,8,none⟩) (Zk g) (.int .i64 0)).setCell (p:=⟨g+1,9,none⟩) (Zk g) (.int .i64 1));clear hf2 hbd hN;go_wp2_with fail
      go_roundg 2
      case measure=>omega
      case rel=>exact⟨5,rfl,HD,HZ,HF,by omega,by omega⟩
    · go_wp2_with fail
      ((with_reducible refine hN.out.mono ?_);rintro e wd ⟨rfl,hbd⟩)
      have hf2:=hf.out.below hbd hf.out.lt;have c0:wd.cell? ⟨g+1,10,none⟩=some (.int .i64 0):=hf2.cell 10;have c1:wd.cell? ⟨g+1,11,none⟩=some (.int .i64 0):=hf2.cell 11;have k0:=hf2.frozen 10;have k1:=hf2.frozen 11;have HF:=Q1 (show Ql ((wd.setCell ⟨g+1,10,none⟩ (.int .i64 0)).setCell ⟨g+1,11,none⟩ (.int .i64 1)) (g+1) 189 (zf 6) from (hf2.put 10 (.int .i64 0)).put 11 (.int .i64 1));have HZ:=Q1 (((hz.out.below hbd hlt).far (p:=⟨g+1,10,none⟩) (by simp) (.int .i64 0)).far (p:=⟨g+1,11,none⟩) (by simp) (.int .i64 1));have HD:=Q1 (((hb.out.trans (hbd.mono (Zg hlt))).setCell (p:=⟨g+1,10,none⟩) (Zk g) (.int .i64 0)).setCell (p:=⟨g+1,11,none⟩) (Zk g) (.int .i64 1));clear hf2 hbd hN;go_wp2_with fail
      go_roundg 1
      case measure=>omega
      case rel=>exact⟨6,rfl,HD,HZ,HF,by omega,by omega⟩
    · go_wp2_with fail
      ((with_reducible refine hN.out.mono ?_);rintro e wd ⟨rfl,hbd⟩)
      have hf2:=hf.out.below hbd hf.out.lt;have c0:wd.cell? ⟨g+1,12,none⟩=some (.int .i64 0):=hf2.cell 12;have c1:wd.cell? ⟨g+1,13,none⟩=some (.int .i64 0):=hf2.cell 13;have k0:=hf2.frozen 12;have k1:=hf2.frozen 13;have HF:=Q1 (show Ql ((wd.setCell ⟨g+1,12,none⟩ (.int .i64 0)).setCell ⟨g+1,13,none⟩ (.int .i64 1)) (g+1) 189 (zf 7) from (hf2.put 12 (.int .i64 0)).put 13 (.int .i64 1));have HZ:=Q1 (((hz.out.below hbd hlt).far (p:=⟨g+1,12,none⟩) (by simp) (.int .i64 0)).far (p:=⟨g+1,13,none⟩) (by simp) (.int .i64 1));have HD:=Q1 (((hb.out.trans (hbd.mono (Zg hlt))).setCell (p:=⟨g+1,12,none⟩) (Zk g) (.int .i64 0)).setCell (p:=⟨g+1,13,none⟩) (Zk g) (.int .i64 1));clear hf2 hbd hN;go_wp2_with fail
      go_roundg 0
      case measure=>omega
      case rel=>exact⟨7,rfl,HD,HZ,HF,by omega,by omega⟩
  · obtain rfl:i=7:=by omega
    have HF:=Q1 (show Ql wr (g+1) 189 #[.int .i64 0,.int .i64 1,.int .i64 0,.int .i64 1,.int .i64 0,.int .i64 1,.int .i64 0,.int .i64 1,.int .i64 0,.int .i64 1,.int .i64 0,.int .i64 1,.int .i64 0,.int .i64 1,.slice none 0 0] from hf.out);obtain⟨c0,fc0,c1,fc1,c2,fc2,c3,fc3,c4,fc4,c5,fc5,c6,fc6,c7,fc7,c8,fc8,c9,fc9,c10,fc10,c11,fc11,c12,fc12,c13,fc13,c14,fc14,lc⟩:=Ql.fif (HF.out);obtain⟨d0,fd0,d1,fd1,d2,fd2,d3,fd3,d4,fd4,d5,fd5,d6,fd6,d7,fd7,d8,fd8,d9,fd9,d10,fd10,d11,fd11,d12,fd12,d13,fd13,d14,fd14,ld⟩:=Ql.fif (hz.out);go_wp2_with fail;have hz2:=hz.out.put15 (.int .i64 0) (.int .i64 1) (.int .i64 0) (.int .i64 1) (.int .i64 0) (.int .i64 1) (.int .i64 0) (.int .i64 1) (.int .i64 0) (.int .i64 1) (.int .i64 0) (.int .i64 1) (.int .i64 0) (.int .i64 1) (.slice none 0 0)
    refine bodyPost_ret (v:=.agg #[.int .i64 0,.int .i64 1,.int .i64 0,.int .i64 1,.int .i64 0,.int .i64 1,.int .i64 0,.int .i64 1,.int .i64 0,.int .i64 1,.int .i64 0,.int .i64 1,.int .i64 0,.int .i64 1,.slice none 0 0]) ?_ rfl ?_
    · exact I1 Tryz.results232 rfl hz2 rfl
    · refine⟨rfl,Ed (HB.out.trans (hb.out.mono ?_)) ?_ (.int .i64 0) (.int .i64 1) (.int .i64 0) (.int .i64 1) (.int .i64 0) (.int .i64 1) (.int .i64 0) (.int .i64 1) (.int .i64 0) (.int .i64 1) (.int .i64 0) (.int .i64 1) (.int .i64 0) (.int .i64 1) (.slice none 0 0)⟩
      all_goals rw[HG.out];exact Q6 _
theorem Q15 (w:World):Calls Tryz.prog 234 #[.agg #[.int .i64 600,.int .i64 1]] w fun e w'=>e=.returned (.agg #[.int .i64 600,.int .i64 1])∧Below w.heap.size w w':=by
 have h1:=(Ql.new w 23 #[.int .i64 600,.int .i64 1]).old (.cells #[.int .i64 0,.int .i64 0] 23);have h2:=Ql.new2 w (.cells #[.int .i64 600,.int .i64 1] 23) 23 #[.int .i64 0,.int .i64 0];have hb:=(Q7 w (.cells #[.int .i64 600,.int .i64 1] 23)).alloc (by simp) (.cells #[.int .i64 0,.int .i64 0] 23);obtain⟨g,hg⟩:∃ g,w.heap.size=g:=⟨_,rfl⟩;have HM:=Q1 (C3 (600,1) ((w.alloc (.cells #[.int .i64 600,.int .i64 1] 23)).alloc (.cells #[.int .i64 0,.int .i64 0] 23)) (U9 (by decide)));rw[show D6 (600,1)=true by decide]at HM;simp only[rv]at HM;rw[hg]at h1 h2;have H:=Q1 (Q3 h1 h2);have HB:=Q1 hb;have HG:=Q1 hg;clear h1 h2 hb
 go_enter Tryz.func234,Tryz.ntmps234
 go_upto_region 1 with fail
 try simp only[hg]
 clear hg;generalize World.alloc (World.alloc w _) _=wa at *;have c0:wa.cell? ⟨g,0,none⟩=some (.int .i64 600):=(H.out.1).cell 0;have fc0:=(H.out.1).frozen 0;have c1:wa.cell? ⟨g,1,none⟩=some (.int .i64 1):=(H.out.1).cell 1;have fc1:=(H.out.1).frozen 1;have lc:=(H.out.1).lt;go_wp2_with fail
 ((with_reducible refine HM.out.mono ?_);rintro e wb ⟨rfl,hbb⟩)
 have d0:wb.cell? ⟨g,0,none⟩=some (.int .i64 600):=((H.out.1.below hbb lc)).cell 0;have fd0:=((H.out.1.below hbb lc)).frozen 0;have d1:wb.cell? ⟨g,1,none⟩=some (.int .i64 1):=((H.out.1.below hbb lc)).cell 1;have fd1:=((H.out.1.below hbb lc)).frozen 1;have ld:=((H.out.1.below hbb lc)).lt;have k0:wb.cell? ⟨g+1,0,none⟩=some (.int .i64 0):=((H.out.2.below hbb H.out.2.lt)).cell 0;have fk0:=((H.out.2.below hbb H.out.2.lt)).frozen 0;have k1:wb.cell? ⟨g+1,1,none⟩=some (.int .i64 0):=((H.out.2.below hbb H.out.2.lt)).cell 1;have fk1:=((H.out.2.below hbb H.out.2.lt)).frozen 1;have lk:=((H.out.2.below hbb H.out.2.lt)).lt;have HB2:=J8 HB hbb;clear hbb;go_wp2_with fail
 exact bodyPost_ret (v:=.agg #[.int .i64 600,.int .i64 1]) (by simp[results,Tryz.results234,go_sem,k0,k1]) rfl ⟨rfl,(HB2.out.setCell (p:=⟨g+1,0,none⟩) (by rw[HG.out];exact Zk g) _).setCell (p:=⟨g+1,1,none⟩) (by rw[HG.out];exact Zk g) _⟩
theorem Q4c (w:World):Calls Tryz.prog 220 #[.int .i64 1,.agg #[.int .i64 600,.int .i64 1]] w fun e w'=>e=.returned (.agg #[.int .i64 600,.int .i64 1,.int .i64 0,.int .i64 1,.int .i64 0,.int .i64 1,.int .i64 0,.int .i64 1,.int .i64 0,.int .i64 1,.int .i64 0,.int .i64 1,.int .i64 0,.int .i64 1,.slice none 0 0])∧Below w.heap.size w w':=by
 have h1:=(Ql.new w 23 #[.int .i64 600,.int .i64 1]).old (.cells #[.int .i64 0,.int .i64 0,.int .i64 0,.int .i64 0,.int .i64 0,.int .i64 0,.int .i64 0,.int .i64 0,.int .i64 0,.int .i64 0,.int .i64 0,.int .i64 0,.int .i64 0,.int .i64 0,.slice none 0 0] 189);have h2:=Ql.new2 w (.cells #[.int .i64 600,.int .i64 1] 23) 189 #[.int .i64 0,.int .i64 0,.int .i64 0,.int .i64 0,.int .i64 0,.int .i64 0,.int .i64 0,.int .i64 0,.int .i64 0,.int .i64 0,.int .i64 0,.int .i64 0,.int .i64 0,.int .i64 0,.slice none 0 0];have hb:=(Q7 w (.cells #[.int .i64 600,.int .i64 1] 23)).alloc (by simp) (.cells #[.int .i64 0,.int .i64 0,.int .i64 0,.int .i64 0,.int .i64 0,.int .i64 0,.int .i64 0,.int .i64 0,.int .i64 0,.int .i64 0,.int .i64 0,.int .i64 0,.int .i64 0,.int .i64 0,.slice none 0 0] 189);obtain⟨g,hg⟩:∃ g,w.heap.size=g:=⟨_,rfl⟩;rw[hg]at h1 h2;have H:=Q1 (Q3 h1 h2);have HB:=Q1 hb
 have HG:=Q1 hg;clear h1 h2 hb
 go_enter Tryz.func220,Tryz.ntmps220
 go_upto_region 1 with fail
 try simp only[hg]
 clear hg;generalize World.alloc (World.alloc w _) _=wa at *;go_wp2_with fail
 ((with_reducible refine(Q3c _).mono ?_);rintro e wb ⟨rfl,hbb⟩)
 go_upto_region 2 with fail
 obtain⟨h5,hb5⟩:=Z2 wb 189 #[.int .i64 0,.int .i64 1,.int .i64 0,.int .i64 1,.int .i64 0,.int .i64 1,.int .i64 0,.int .i64 1,.int .i64 0,.int .i64 1,.int .i64 0,.int .i64 1,.int .i64 0,.int .i64 1,.slice none 0 0];have hbc:=hbb.trans (hb5.mono hbb.size);have H2:=Q1 (Q3 (H.out.1.below hbc H.out.1.lt) (H.out.2.below hbc H.out.2.lt));have HB2:=J8 HB hbc;have hg5:g+1<wb.heap.size:=(H.out.2.below hbb H.out.2.lt).lt;clear hbb hb5 hbc H HB;generalize wb.heap.size=g5 at *;generalize World.alloc wb _=wc at *;have H5:=Q1 h5;clear h5;have c0:wc.cell? ⟨g,0,none⟩=some (.int .i64 600):=(H2.out.1).cell 0;have fc0:=(H2.out.1).frozen 0;have c1:wc.cell? ⟨g,1,none⟩=some (.int .i64 1):=(H2.out.1).cell 1;have fc1:=(H2.out.1).frozen 1;have lc:=(H2.out.1).lt;go_wp2_with fail
 ((with_reducible refine(Q15 _).mono ?_);rintro e wd ⟨rfl,hbd⟩)
 have H6:=Q1 (H5.out.below hbd H5.out.lt);have H3:=Q1 (H2.out.2.below hbd H2.out.2.lt);have HB3:=J8 HB2 hbd;clear c0 c1 fc0 fc1 lc hbd H5 H2 HB2;obtain⟨k0,fk0,k1,fk1,k2,fk2,k3,fk3,k4,fk4,k5,fk5,k6,fk6,k7,fk7,k8,fk8,k9,fk9,k10,fk10,k11,fk11,k12,fk12,k13,fk13,k14,fk14,lk⟩:=Ql.fif (H6.out);obtain⟨d0,fd0,d1,fd1,d2,fd2,d3,fd3,d4,fd4,d5,fd5,d6,fd6,d7,fd7,d8,fd8,d9,fd9,d10,fd10,d11,fd11,d12,fd12,d13,fd13,d14,fd14,ld⟩:=Ql.fif (H3.out);go_wp2_with fail;have hz2:=((H3.out.far (p:=⟨g5,0,none⟩) (by simp;omega) (.int .i64 600)).far (p:=⟨g5,1,none⟩) (by simp;omega) (.int .i64 1)).put15 (.int .i64 600) (.int .i64 1) (.int .i64 0) (.int .i64 1) (.int .i64 0) (.int .i64 1) (.int .i64 0) (.int .i64 1) (.int .i64 0) (.int .i64 1) (.int .i64 0) (.int .i64 1) (.int .i64 0) (.int .i64 1) (.slice none 0 0)
 have hz3:=Ed (g:=g+1) ((HB3.out.setCell (p:=⟨g5,0,none⟩) (show w.heap.size≤g5 by have:=HG.out;omega) (.int .i64 600)).setCell (p:=⟨g5,1,none⟩) (show w.heap.size≤g5 by have:=HG.out;omega) (.int .i64 1)) (by rw[HG.out];exact Zk g) (.int .i64 600) (.int .i64 1) (.int .i64 0) (.int .i64 1) (.int .i64 0) (.int .i64 1) (.int .i64 0) (.int .i64 1) (.int .i64 0) (.int .i64 1) (.int .i64 0) (.int .i64 1) (.int .i64 0) (.int .i64 1) (.slice none 0 0);refine bodyPost_ret (v:=.agg #[.int .i64 600,.int .i64 1,.int .i64 0,.int .i64 1,.int .i64 0,.int .i64 1,.int .i64 0,.int .i64 1,.int .i64 0,.int .i64 1,.int .i64 0,.int .i64 1,.int .i64 0,.int .i64 1,.slice none 0 0]) ?_ rfl ⟨rfl,hz3⟩;exact I1 Tryz.results220 rfl hz2 rfl
theorem Q5s {fn:Func} {p u:Tmp} {tmps:Array Value} {w:World} {g:Nat} {t:TypeId} {cs:Array Value} {x:Value} (hr:fn.results=#[.cell p 189,.tmp u]) (hp:tmps.getD p undef=.pointer (some ⟨g,0,none⟩)) (hu:tmps.getD u undef=x) (h:Ql w g t cs) (hs:cs.size=15):(results fn tmps).run Tryz.prog w=.ok (.tuple #[.agg cs,x]) w:=by
 rw[results_cell_tmp hr,hp,hu];simp only[asAddr,Sem.run_pure,Result.andThen_ok,run_loadVar_row w g t _ cs (0,0) _ h Tryz.underlying189 rfl (by rw[hs];kernel_rfl)]
theorem Q1z (w:World):Calls Tryz.prog 199 #[.agg #[.int .i64 1,.int .i64 600,.int .i64 1,.int .i64 1,.slice none 0 0]] w fun e w'=>e=.returned (.agg #[.int .i64 600,.int .i64 1,.int .i64 0,.int .i64 1,.int .i64 0,.int .i64 1,.int .i64 0,.int .i64 1,.int .i64 0,.int .i64 1,.int .i64 0,.int .i64 1,.int .i64 0,.int .i64 1,.slice none 0 0])∧Below w.heap.size w w':=by
 have h1:=(Ql.new w 32 #[.int .i64 1,.int .i64 600,.int .i64 1,.int .i64 1,.slice none 0 0]).old (.cells #[.int .i64 0,.int .i64 0,.int .i64 0,.int .i64 0,.int .i64 0,.int .i64 0,.int .i64 0,.int .i64 0,.int .i64 0,.int .i64 0,.int .i64 0,.int .i64 0,.int .i64 0,.int .i64 0,.slice none 0 0] 189);have h2:=Ql.new2 w (.cells #[.int .i64 1,.int .i64 600,.int .i64 1,.int .i64 1,.slice none 0 0] 32) 189 #[.int .i64 0,.int .i64 0,.int .i64 0,.int .i64 0,.int .i64 0,.int .i64 0,.int .i64 0,.int .i64 0,.int .i64 0,.int .i64 0,.int .i64 0,.int .i64 0,.int .i64 0,.int .i64 0,.slice none 0 0]
 have hb:=(Q7 w (.cells #[.int .i64 1,.int .i64 600,.int .i64 1,.int .i64 1,.slice none 0 0] 32)).alloc (by simp) (.cells #[.int .i64 0,.int .i64 0,.int .i64 0,.int .i64 0,.int .i64 0,.int .i64 0,.int .i64 0,.int .i64 0,.int .i64 0,.int .i64 0,.int .i64 0,.int .i64 0,.int .i64 0,.int .i64 0,.slice none 0 0] 189);obtain⟨g,hg⟩:∃ g,w.heap.size=g:=⟨_,rfl⟩;rw[hg]at h1 h2;have H:=Q1 (Q3 h1 h2);have HB:=Q1 hb;have HG:=Q1 hg;clear h1 h2 hb
 go_enter Tryz.func199,Tryz.ntmps199
 go_upto_region 1 with fail
 try simp only[hg]
 clear hg;generalize World.alloc (World.alloc w _) _=wa at *;obtain⟨c0,fc0,c1,fc1,c2,fc2,c3,fc3,c4,fc4,lc⟩:=Ql.five (H.out.1);go_wp2_with fail
 go_loopg [14] 0 (fun q s wr=>s=.int .i64 0∧wr=wa)
 case atStart=>exact⟨rfl,rfl⟩
 case round =>
  obtain⟨rfl,rfl⟩:=hrel;go_wp2_with fail
  ((with_reducible refine(Q4c _).mono ?_);rintro e wd ⟨rfl,hbd⟩)
  have H3:=Q1 (H.out.2.below hbd H.out.2.lt);have HB3:=J8 HB hbd;clear c0 c1 c2 c3 c4 fc0 fc1 fc2 fc3 fc4 lc hbd H HB;obtain⟨d0,fd0,d1,fd1,d2,fd2,d3,fd3,d4,fd4,d5,fd5,d6,fd6,d7,fd7,d8,fd8,d9,fd9,d10,fd10,d11,fd11,d12,fd12,d13,fd13,d14,fd14,ld⟩:=Ql.fif (H3.out);go_wp2_with fail;refine bodyPost_ret (v:=.agg #[.int .i64 600,.int .i64 1,.int .i64 0,.int .i64 1,.int .i64 0,.int .i64 1,.int .i64 0,.int .i64 1,.int .i64 0,.int .i64 1,.int .i64 0,.int .i64 1,.int .i64 0,.int .i64 1,.slice none 0 0]) ?_ rfl ⟨rfl,Ed HB3.out (by rw[HG.out];exact Zk g) _ _ _ _ _ _ _ _ _ _ _ _ _ _ _⟩;exact I1 Tryz.results199 rfl (H3.out.put15 _ _ _ _ _ _ _ _ _ _ _ _ _ _ _) rfl
theorem Q39 (w:World):Calls Tryz.prog 172 #[.agg #[.int .i64 1,.int .i64 600,.int .i64 1,.int .i64 1,.slice none 0 0],.int .i64 2] w fun e w'=>e=.returned (.int .i64 0)∧Below w.heap.size w w':=by
 obtain⟨h1,hb1⟩:=Z2 w 32 #[.int .i64 1,.int .i64 600,.int .i64 1,.int .i64 1,.slice none 0 0];obtain⟨g,hg⟩:∃ g,w.heap.size=g:=⟨_,rfl⟩;have hk:=Om 1 (.mk 1 600 1 1 none 0 0 0 []) (w.alloc (.cells #[.int .i64 1,.int .i64 600,.int .i64 1,.int .i64 1,.slice none 0 0] 32)) ((Zy.leaf (A:=fun _=>False) (Z1 _ (by decide)) (by unfold U2;decide) (Z1 _ (by decide))).here);rw[show B9 (.mk 1 600 1 1 none 0 0 0 [])=(2,0) by decide]at hk;have HK:=Q1 (show Calls Tryz.prog _ #[.agg #[.int .i64 1,.int .i64 600,.int .i64 1,.int .i64 1,.slice none 0 0]] _ _ from hk);rw[hg]at h1;have H1:=Q1 h1;have HB1:=Q1 hb1;have HG:=Q1 hg;clear h1 hb1 hk
 go_enter Tryz.func172,Tryz.ntmps172
 go_upto_region 1 with fail
 try simp only[hg]
 clear hg;generalize World.alloc w _=wa at *;obtain⟨c0,fc0,c1,fc1,c2,fc2,c3,fc3,c4,fc4,lc⟩:=Ql.five (H1.out);go_wp2_with fail
 ((with_reducible refine HK.out.mono ?_);rintro e wb ⟨rfl,hbb⟩)
 have HB2:=J8 HB1 hbb;clear hbb;go_wp2_with fail;go_ret;exact⟨rfl,HB2.out⟩
theorem Q35 (w:World):Calls Tryz.prog 170 #[.agg #[.int .i64 1,.int .i64 600,.int .i64 1,.int .i64 1,.slice none 0 0]] w fun e w'=>e=.returned (.tuple #[.agg #[.int .i64 600,.int .i64 1,.int .i64 0,.int .i64 1,.int .i64 0,.int .i64 1,.int .i64 0,.int .i64 1,.int .i64 0,.int .i64 1,.int .i64 0,.int .i64 1,.int .i64 0,.int .i64 1,.slice none 0 0],.int .i64 0])∧Below w.heap.size w w':=by
 have h1:=(Ql.new w 32 #[.int .i64 1,.int .i64 600,.int .i64 1,.int .i64 1,.slice none 0 0]).old (.cells #[.int .i64 0,.int .i64 0,.int .i64 0,.int .i64 0,.int .i64 0,.int .i64 0,.int .i64 0,.int .i64 0,.int .i64 0,.int .i64 0,.int .i64 0,.int .i64 0,.int .i64 0,.int .i64 0,.slice none 0 0] 189);have h2:=Ql.new2 w (.cells #[.int .i64 1,.int .i64 600,.int .i64 1,.int .i64 1,.slice none 0 0] 32) 189 #[.int .i64 0,.int .i64 0,.int .i64 0,.int .i64 0,.int .i64 0,.int .i64 0,.int .i64 0,.int .i64 0,.int .i64 0,.int .i64 0,.int .i64 0,.int .i64 0,.int .i64 0,.int .i64 0,.slice none 0 0]
 have hb:=(Q7 w (.cells #[.int .i64 1,.int .i64 600,.int .i64 1,.int .i64 1,.slice none 0 0] 32)).alloc (by simp) (.cells #[.int .i64 0,.int .i64 0,.int .i64 0,.int .i64 0,.int .i64 0,.int .i64 0,.int .i64 0,.int .i64 0,.int .i64 0,.int .i64 0,.int .i64 0,.int .i64 0,.int .i64 0,.int .i64 0,.slice none 0 0] 189);obtain⟨g,hg⟩:∃ g,w.heap.size=g:=⟨_,rfl⟩;rw[hg]at h1 h2;have H:=Q1 (Q3 h1 h2);have HB:=Q1 hb;have HG:=Q1 hg;clear h1 h2 hb
 go_enter Tryz.func170,Tryz.ntmps170
 go_upto_region 1 with fail
 try simp only[hg]
 clear hg;generalize World.alloc (World.alloc w _) _=wa at *;obtain⟨c0,fc0,c1,fc1,c2,fc2,c3,fc3,c4,fc4,lc⟩:=Ql.five (H.out.1);go_wp2_with fail
 ((with_reducible refine(Q39 _).mono ?_);rintro e wb ⟨rfl,hbb⟩)
 have H2:=Q1 (Q3 (H.out.1.below hbb lc) (H.out.2.below hbb H.out.2.lt));have HB2:=J8 HB hbb;clear c0 c1 c2 c3 c4 fc0 fc1 fc2 fc3 fc4 lc hbb H HB;obtain⟨c0,fc0,c1,fc1,c2,fc2,c3,fc3,c4,fc4,lc⟩:=Ql.five (H2.out.1);go_wp2_with fail
 ((with_reducible refine(Q1z _).mono ?_);rintro e wd ⟨rfl,hbd⟩)
 have H3:=Q1 (H2.out.2.below hbd H2.out.2.lt);have HB3:=J8 HB2 hbd;clear c0 c1 c2 c3 c4 fc0 fc1 fc2 fc3 fc4 lc hbd H2 HB2;obtain⟨d0,fd0,d1,fd1,d2,fd2,d3,fd3,d4,fd4,d5,fd5,d6,fd6,d7,fd7,d8,fd8,d9,fd9,d10,fd10,d11,fd11,d12,fd12,d13,fd13,d14,fd14,ld⟩:=Ql.fif (H3.out);go_wp2_with fail;refine bodyPost_ret (v:=.tuple #[.agg #[.int .i64 600,.int .i64 1,.int .i64 0,.int .i64 1,.int .i64 0,.int .i64 1,.int .i64 0,.int .i64 1,.int .i64 0,.int .i64 1,.int .i64 0,.int .i64 1,.int .i64 0,.int .i64 1,.slice none 0 0],.int .i64 0]) ?_ rfl ⟨rfl,Ed HB3.out (by rw[HG.out];exact Zk g) _ _ _ _ _ _ _ _ _ _ _ _ _ _ _⟩;exact Q5s Tryz.results170 rfl rfl (H3.out.put15 _ _ _ _ _ _ _ _ _ _ _ _ _ _ _) rfl
def Ic (i:Nat):Int:=if i=0 then 600 else 0
theorem M7 (i:Nat) (hi:i<7) (w:World):(Instr.index 186 (.agg #[.int .i64 600,.int .i64 1,.int .i64 0,.int .i64 1,.int .i64 0,.int .i64 1,.int .i64 0,.int .i64 1,.int .i64 0,.int .i64 1,.int .i64 0,.int .i64 1,.int .i64 0,.int .i64 1]) (.int .i64 i)).run Tryz.prog w=.ok (.agg #[.int .i64 (Ic i),.int .i64 1]) w:=by
 rcases Q3s hi with rfl|rfl|rfl|rfl|rfl|rfl|rfl
 all_goals kernel_rfl
theorem Q49 (i:Nat):D6 (Ic i,1)=true∧U2 (Ic i,1):=by
 unfold Ic
 by_cases h:i=0
 · rw[if_pos h];exact⟨by decide,U9 (by decide)⟩
 · rw[if_neg h];exact⟨by decide,U9 (by decide)⟩
theorem Q1y (w:World):Calls Tryz.prog 221 #[.agg #[.int .i64 600,.int .i64 1,.int .i64 0,.int .i64 1,.int .i64 0,.int .i64 1,.int .i64 0,.int .i64 1,.int .i64 0,.int .i64 1,.int .i64 0,.int .i64 1,.int .i64 0,.int .i64 1,.slice none 0 0],.int .i64 1] w fun e w'=>e=.returned (.bool true)∧Below w.heap.size w w':=by
 obtain⟨h1,hb1⟩:=Z2 w 189 #[.int .i64 600,.int .i64 1,.int .i64 0,.int .i64 1,.int .i64 0,.int .i64 1,.int .i64 0,.int .i64 1,.int .i64 0,.int .i64 1,.int .i64 0,.int .i64 1,.int .i64 0,.int .i64 1,.slice none 0 0];obtain⟨g,hg⟩:∃ g,w.heap.size=g:=⟨_,rfl⟩;rw[hg]at h1;have H1:=Q1 h1;have HB1:=Q1 hb1;clear h1 hb1
 go_enter Tryz.func221,Tryz.ntmps221
 go_upto_region 1 with fail
 try simp only[hg]
 clear hg;generalize World.alloc w _=wa at *;obtain⟨c0,fc0,c1,fc1,c2,fc2,c3,fc3,c4,fc4,c5,fc5,c6,fc6,c7,fc7,c8,fc8,c9,fc9,c10,fc10,c11,fc11,c12,fc12,c13,fc13,c14,fc14,lc⟩:=Ql.fif (H1.out);go_wp2_with fail;clear c0 fc0 c1 fc1 c2 fc2 c3 fc3 c4 fc4 c5 fc5 c6 fc6 c7 fc7 c8 fc8 c9 fc9 c10 fc10 c11 fc11 c12 fc12 c13 fc13 c14 fc14 lc
 go_loopg [15] 7 (fun q s wr=>∃ i:Nat,s=.int .i64 i∧Hid (Below wa.heap.size wa wr)∧i≤7∧7-i≤q)
 case atStart=>exact⟨0,rfl,Q1 (Below.refl _ _),by omega,by omega⟩
 case round =>
  obtain⟨i,rfl,hb,hi,hq⟩:=hrel
  by_cases h7:i<7
  · have gi:decide ((i:Int)<7)=true:=decide_eq_true (by omega)
    have hix:=fun w=>M7 i h7 w
    obtain⟨hm,h64⟩:=Q49 i
    have hmx:=fun w=>C3 (Ic i,1) w h64
    rw[hm]at hmx;simp only[rv]at hmx;have HM:=Q1 hmx;generalize Ic i=n at *;clear hm h64 hmx
    go_upto_region 6 with fail
    obtain⟨h6,hb6⟩:=Z2 wr 23 #[.int .i64 n,.int .i64 1];have HB2:=J8 hb hb6;clear hb hb6;generalize wr.heap.size=g6 at *;generalize World.alloc wr _=wb at *;have c0:wb.cell? ⟨g6,0,none⟩=some (.int .i64 n):=(h6).cell 0;have fc0:=(h6).frozen 0;have c1:wb.cell? ⟨g6,1,none⟩=some (.int .i64 1):=(h6).cell 1;have fc1:=(h6).frozen 1;have lc:=(h6).lt;clear h6;go_wp2_with fail
    ((with_reducible refine(HM.out _).mono ?_);rintro e wc ⟨rfl,hbc⟩)
    have HB3:=J8 HB2 hbc;clear hbc HB2 c0 c1 fc0 fc1 lc HM;go_wp2_with fail
    go_roundg (7-(i+1))
    case measure=>omega
    case rel=>exact⟨i+1,by go_num,HB3,by omega,Q6 _⟩
  · obtain rfl:i=7:=by omega
    have H2:=Q1 (H1.out.below hb.out H1.out.lt);have HB2:=J8 HB1 hb.out;obtain⟨c0,fc0,c1,fc1,c2,fc2,c3,fc3,c4,fc4,c5,fc5,c6,fc6,c7,fc7,c8,fc8,c9,fc9,c10,fc10,c11,fc11,c12,fc12,c13,fc13,c14,fc14,lc⟩:=Ql.fif (H2.out);go_wp2_with fail
    go_loopg [25] 0 (fun q s wx=>s=.int .i64 0∧wx=wr)
    case atStart=>exact⟨rfl,rfl⟩
    case round =>
     obtain⟨rfl,rfl⟩:=hrel;go_wp2_with fail;go_ret;exact⟨rfl,HB2.out⟩
theorem Q4a (w:World):Calls Tryz.prog 200 #[.agg #[.int .i64 600,.int .i64 1,.int .i64 0,.int .i64 1,.int .i64 0,.int .i64 1,.int .i64 0,.int .i64 1,.int .i64 0,.int .i64 1,.int .i64 0,.int .i64 1,.int .i64 0,.int .i64 1,.slice none 0 0]] w fun e w'=>e=.returned (.bool true)∧Below w.heap.size w w':=by
 obtain⟨h1,hb1⟩:=Z2 w 189 #[.int .i64 600,.int .i64 1,.int .i64 0,.int .i64 1,.int .i64 0,.int .i64 1,.int .i64 0,.int .i64 1,.int .i64 0,.int .i64 1,.int .i64 0,.int .i64 1,.int .i64 0,.int .i64 1,.slice none 0 0];obtain⟨g,hg⟩:∃ g,w.heap.size=g:=⟨_,rfl⟩;rw[hg]at h1;have H1:=Q1 h1;have HB1:=Q1 hb1;clear h1 hb1
 go_enter Tryz.func200,Tryz.ntmps200
 go_upto_region 1 with fail
 try simp only[hg]
 clear hg;generalize World.alloc w _=wa at *;obtain⟨c0,fc0,c1,fc1,c2,fc2,c3,fc3,c4,fc4,c5,fc5,c6,fc6,c7,fc7,c8,fc8,c9,fc9,c10,fc10,c11,fc11,c12,fc12,c13,fc13,c14,fc14,lc⟩:=Ql.fif (H1.out);go_wp2_with fail
 ((with_reducible refine(Q1y _).mono ?_);rintro e wc ⟨rfl,hbc⟩)
 have HB2:=J8 HB1 hbc;go_wp2_with fail;go_ret;exact⟨rfl,HB2.out⟩
theorem Ql.twel {w:World} {g:Nat} {t:TypeId} {a0 a1 a2 a3 a4 a5 a6 a7 a8 a9 a10 a11:Value} (h:Ql w g t #[a0,a1,a2,a3,a4,a5,a6,a7,a8,a9,a10,a11]):w.cell? ⟨g,0,none⟩=some a0∧w.cell? ⟨g,1,none⟩=some a1∧w.cell? ⟨g,2,none⟩=some a2∧w.cell? ⟨g,3,none⟩=some a3∧w.cell? ⟨g,4,none⟩=some a4∧w.cell? ⟨g,5,none⟩=some a5∧w.cell? ⟨g,6,none⟩=some a6∧w.cell? ⟨g,7,none⟩=some a7∧w.cell? ⟨g,8,none⟩=some a8∧w.cell? ⟨g,9,none⟩=some a9∧w.cell? ⟨g,10,none⟩=some a10∧w.cell? ⟨g,11,none⟩=some a11∧g<w.heap.size :=
 ⟨h.cell 0,h.cell 1,h.cell 2,h.cell 3,h.cell 4,h.cell 5,h.cell 6,h.cell 7,h.cell 8,h.cell 9,h.cell 10,h.cell 11,h.lt⟩
theorem Q0w (w:World):Calls Tryz.prog 222 #[.int .i64 1,.agg #[.int .i64 16,.int .i64 1,.int .i64 16,.int .i64 1,.int .i64 800,.int .i64 1,.int .i64 600,.int .i64 1,.int .i64 0,.int .i64 0,.int .i64 0,.int .i64 0]] w fun e w'=>e=.returned (.agg #[.int .i64 1,.int .i64 1])∧Below w.heap.size w w':=by
 have h2:=Ql.new2 w (.cells #[.int .i64 16,.int .i64 1,.int .i64 16,.int .i64 1,.int .i64 800,.int .i64 1,.int .i64 600,.int .i64 1,.int .i64 0,.int .i64 0,.int .i64 0,.int .i64 0] 162) 23 #[.int .i64 0,.int .i64 0];have hb:=(Q7 w (.cells #[.int .i64 16,.int .i64 1,.int .i64 16,.int .i64 1,.int .i64 800,.int .i64 1,.int .i64 600,.int .i64 1,.int .i64 0,.int .i64 0,.int .i64 0,.int .i64 0] 162)).alloc (by simp) (.cells #[.int .i64 0,.int .i64 0] 23);obtain⟨g,hg⟩:∃ g,w.heap.size=g:=⟨_,rfl⟩;rw[hg]at h2;have H2:=Q1 h2;have HB:=Q1 hb;have HG:=Q1 hg;clear h2 hb
 go_enter Tryz.func222,Tryz.ntmps222
 go_upto_region 1 with fail
 try simp only[hg]
 clear hg;generalize World.alloc (World.alloc w _) _=wa at *
 go_upto_region 2 with fail
 obtain⟨h5,hb5⟩:=Z2 wa 23 #[.int .i64 1,.int .i64 100];have H3:=H2.out.below hb5 H2.out.lt;have HB3:=J8 HB hb5;clear H2 HB hb5 h5;generalize wa.heap.size=g5 at *;generalize World.alloc wa _=wb at *;have d0:wb.cell? ⟨g+1,0,none⟩=some (.int .i64 0):=(H3).cell 0;have fd0:=(H3).frozen 0;have d1:wb.cell? ⟨g+1,1,none⟩=some (.int .i64 0):=(H3).cell 1;have fd1:=(H3).frozen 1;have ld:=(H3).lt;clear H3;go_wp2_with fail;exact bodyPost_ret (v:=.agg #[.int .i64 1,.int .i64 1]) (by simp[results,Tryz.results222,go_sem,d0,d1]) rfl ⟨rfl,(HB3.out.setCell (p:=⟨g+1,0,none⟩) (by rw[HG.out];exact Zk g) _).setCell (p:=⟨g+1,1,none⟩) (by rw[HG.out];exact Zk g) _⟩
theorem Q4e (w:World) (b:Nat) (h:Ql w b 23 #[.int .i64 600,.int .i64 1,.int .i64 1,.int .i64 1]):Calls Tryz.prog 169 #[.slice (some ⟨b,0,none⟩) 2 2] w fun e w'=>e=.returned (.agg #[.int .i64 600,.int .i64 1])∧Below w.heap.size w w':=by
 have hr:Pz w (some ⟨b,0,none⟩) 2 2 b 0 [(600,1),(1,1)]:=by
  refine⟨rfl,Q6 _,by decide,fun _=>rfl,fun _=>h.lt,fun i x hi=>?_,fun i x hi=>?_,fun i x hi=>?_⟩
  all_goals
   match i,hi with
   | 0,hi=>obtain rfl:=Q8 hi;first|exact U9 (by decide) | exact h.cell 0 | exact h.cell 1
   | 1,hi=>obtain rfl:=Q8 hi;first|exact U9 (by decide) | exact h.cell 2 | exact h.cell 3
   | i+2,hi=>simp at hi
 have:=Q63 w hr;rw[show O8 N4 (1,1) [(600,1),(1,1)]=(600,1) by decide]at this;exact this
theorem Q87:El 211 23 (.agg #[.int .i64 0,.int .i64 0]) 2 16:=⟨Tryz.underlying211,by kernel_rfl,rfl,by decide⟩
theorem Q79 (w:World):Calls Tryz.prog 201 #[.agg #[.int .i64 600,.int .i64 1,.int .i64 0,.int .i64 1,.int .i64 0,.int .i64 1,.int .i64 0,.int .i64 1,.int .i64 0,.int .i64 1,.int .i64 0,.int .i64 1,.int .i64 0,.int .i64 1,.slice none 0 0],.agg #[.int .i64 16,.int .i64 1,.int .i64 16,.int .i64 1,.int .i64 800,.int .i64 1,.int .i64 600,.int .i64 1,.int .i64 0,.int .i64 0,.int .i64 0,.int .i64 0]] w fun e w'=>e=.returned (.agg #[.int .i64 600,.int .i64 1])∧Below w.heap.size w w':=by
 have h1:=((Ql.new w 189 #[.int .i64 600,.int .i64 1,.int .i64 0,.int .i64 1,.int .i64 0,.int .i64 1,.int .i64 0,.int .i64 1,.int .i64 0,.int .i64 1,.int .i64 0,.int .i64 1,.int .i64 0,.int .i64 1,.slice none 0 0]).old (.cells #[.int .i64 16,.int .i64 1,.int .i64 16,.int .i64 1,.int .i64 800,.int .i64 1,.int .i64 600,.int .i64 1,.int .i64 0,.int .i64 0,.int .i64 0,.int .i64 0] 162)).old (.cells #[.int .i64 0,.int .i64 0] 23);have h2:=(Ql.new2 w (.cells #[.int .i64 600,.int .i64 1,.int .i64 0,.int .i64 1,.int .i64 0,.int .i64 1,.int .i64 0,.int .i64 1,.int .i64 0,.int .i64 1,.int .i64 0,.int .i64 1,.int .i64 0,.int .i64 1,.slice none 0 0] 189) 162 #[.int .i64 16,.int .i64 1,.int .i64 16,.int .i64 1,.int .i64 800,.int .i64 1,.int .i64 600,.int .i64 1,.int .i64 0,.int .i64 0,.int .i64 0,.int .i64 0]).old (.cells #[.int .i64 0,.int .i64 0] 23)
 have h3:=Ql.new ((w.alloc (.cells #[.int .i64 600,.int .i64 1,.int .i64 0,.int .i64 1,.int .i64 0,.int .i64 1,.int .i64 0,.int .i64 1,.int .i64 0,.int .i64 1,.int .i64 0,.int .i64 1,.int .i64 0,.int .i64 1,.slice none 0 0] 189)).alloc (.cells #[.int .i64 16,.int .i64 1,.int .i64 16,.int .i64 1,.int .i64 800,.int .i64 1,.int .i64 600,.int .i64 1,.int .i64 0,.int .i64 0,.int .i64 0,.int .i64 0] 162)) 23 #[.int .i64 0,.int .i64 0]
 have hb:=((Q7 w (.cells #[.int .i64 600,.int .i64 1,.int .i64 0,.int .i64 1,.int .i64 0,.int .i64 1,.int .i64 0,.int .i64 1,.int .i64 0,.int .i64 1,.int .i64 0,.int .i64 1,.int .i64 0,.int .i64 1,.slice none 0 0] 189)).alloc (by simp) (.cells #[.int .i64 16,.int .i64 1,.int .i64 16,.int .i64 1,.int .i64 800,.int .i64 1,.int .i64 600,.int .i64 1,.int .i64 0,.int .i64 0,.int .i64 0,.int .i64 0] 162)).alloc (by simp;omega) (.cells #[.int .i64 0,.int .i64 0] 23);obtain⟨g,hg⟩:∃ g,w.heap.size=g:=⟨_,rfl⟩
 rw[show ((w.alloc (.cells #[.int .i64 600,.int .i64 1,.int .i64 0,.int .i64 1,.int .i64 0,.int .i64 1,.int .i64 0,.int .i64 1,.int .i64 0,.int .i64 1,.int .i64 0,.int .i64 1,.int .i64 0,.int .i64 1,.slice none 0 0] 189)).alloc (.cells #[.int .i64 16,.int .i64 1,.int .i64 16,.int .i64 1,.int .i64 800,.int .i64 1,.int .i64 600,.int .i64 1,.int .i64 0,.int .i64 0,.int .i64 0,.int .i64 0] 162)).heap.size=w.heap.size+1+1 by simp]at h3;rw[hg]at h1 h2 h3;have H:=Q1 (Q3 h1 (Q3 h2 h3));have HB:=Q1 hb;have HG:=Q1 hg;clear h1 h2 h3 hb
 go_enter Tryz.func201,Tryz.ntmps201
 go_upto_region 1 with fail
 try simp only[hg]
 clear hg;generalize World.alloc (World.alloc (World.alloc w _) _) _=wa at *;obtain⟨c0,fc0,c1,fc1,c2,fc2,c3,fc3,c4,fc4,c5,fc5,c6,fc6,c7,fc7,c8,fc8,c9,fc9,c10,fc10,c11,fc11,c12,fc12,c13,fc13,c14,fc14,lc⟩:=Ql.fif (H.out.1);go_wp2_with fail;clear c0 fc0 c1 fc1 c2 fc2 c3 fc3 c4 fc4 c5 fc5 c6 fc6 c7 fc7 c8 fc8 c9 fc9 c10 fc10 c11 fc11 c12 fc12 c13 fc13 c14 fc14 lc
 go_loopg [5,15] 7 (fun q s5 s15 wr=>(s5=.slice none 0 0∧s15=.int .i64 0∧wr=wa∧7≤q)∨∃ (i gk ck:Nat),s5=.slice (some ⟨gk,0,none⟩) 1 ck∧s15=.int .i64 i∧1≤i∧i≤7∧7-i≤q∧1≤ck∧gk<wr.heap.size∧wr.cell? ⟨gk,0,none⟩=some (.int .i64 600)∧wr.cell? ⟨gk,1,none⟩=some (.int .i64 1)∧Hid (Below wa.heap.size wa wr))
 case atStart=>exact .inl ⟨rfl,rfl,rfl,Q6 _⟩
 case round =>
  rcases hrel with ⟨rfl,rfl,rfl,hq⟩ | ⟨i,gk,ck,rfl,rfl,hi1,hi7,hq,hck,hgk,k0,k1,hb⟩
  · have hix:=fun w=>M7 0 (by decide) w
    change ∀ w,(Instr.index _ _ (.int .i64 0)).run _ w=.ok (.agg #[.int .i64 600,.int .i64 1]) w at hix
    go_upto_region 5 with fail
    obtain⟨h7,hb7⟩:=Z2 wr 23 #[.int .i64 600,.int .i64 1];have HB2:=Q1 hb7;have H2:=Q1 (H.out.2.1.below hb7 H.out.2.1.lt);have hszz:=hb7.size;have HSZ:=Q1 hszz;clear hb7 hszz;generalize hw7:wr.heap.size=g7 at *;generalize World.alloc wr _=wb at *;have c0:wb.cell? ⟨g7,0,none⟩=some (.int .i64 600):=(h7).cell 0;have fc0:=(h7).frozen 0;have c1:wb.cell? ⟨g7,1,none⟩=some (.int .i64 1):=(h7).cell 1;have fc1:=(h7).frozen 1;have lc:=(h7).lt;clear h7;obtain⟨e0,e1,e2,e3,e4,e5,e6,e7,e8,e9,e10,e11,le⟩:=Ql.twel (H2.out);clear hw7
    go_upto_region 6 with fail
    have KEEP:=Q1 (show ∀ wx,Bel wb wx→wx.cell? ⟨g7,0,none⟩=some (.int .i64 600)∧wx.cell? ⟨g7,1,none⟩=some (.int .i64 1)∧wx.cell? ⟨g+1,0,none⟩=some (.int .i64 16)∧wx.cell? ⟨g+1,1,none⟩=some (.int .i64 1)∧wx.cell? ⟨g+1,2,none⟩=some (.int .i64 16)∧wx.cell? ⟨g+1,3,none⟩=some (.int .i64 1)∧wx.cell? ⟨g+1,4,none⟩=some (.int .i64 800)∧wx.cell? ⟨g+1,5,none⟩=some (.int .i64 1)∧wx.cell? ⟨g+1,6,none⟩=some (.int .i64 600)∧wx.cell? ⟨g+1,7,none⟩=some (.int .i64 1)∧wx.cell? ⟨g+1,8,none⟩=some (.int .i64 0)∧wx.cell? ⟨g+1,9,none⟩=some (.int .i64 0)∧wx.cell? ⟨g+1,10,none⟩=some (.int .i64 0)∧wx.cell? ⟨g+1,11,none⟩=some (.int .i64 0) from fun wx hx=>⟨(hx.out.cell (p:=⟨g7,0,none⟩) lc).trans c0,(hx.out.cell (p:=⟨g7,1,none⟩) lc).trans c1,(hx.out.cell (p:=⟨g+1,0,none⟩) le).trans e0,(hx.out.cell (p:=⟨g+1,1,none⟩) le).trans e1,(hx.out.cell (p:=⟨g+1,2,none⟩) le).trans e2,(hx.out.cell (p:=⟨g+1,3,none⟩) le).trans e3,(hx.out.cell (p:=⟨g+1,4,none⟩) le).trans e4,(hx.out.cell (p:=⟨g+1,5,none⟩) le).trans e5,(hx.out.cell (p:=⟨g+1,6,none⟩) le).trans e6,(hx.out.cell (p:=⟨g+1,7,none⟩) le).trans e7,(hx.out.cell (p:=⟨g+1,8,none⟩) le).trans e8,(hx.out.cell (p:=⟨g+1,9,none⟩) le).trans e9,(hx.out.cell (p:=⟨g+1,10,none⟩) le).trans e10,(hx.out.cell (p:=⟨g+1,11,none⟩) le).trans e11⟩)
    refine wp_region_held_drew (S:=(fun wx=>wx.cell? ⟨g7,0,none⟩=some (.int .i64 600)∧wx.cell? ⟨g7,1,none⟩=some (.int .i64 1)∧wx.cell? ⟨g+1,0,none⟩=some (.int .i64 16)∧wx.cell? ⟨g+1,1,none⟩=some (.int .i64 1)∧wx.cell? ⟨g+1,2,none⟩=some (.int .i64 16)∧wx.cell? ⟨g+1,3,none⟩=some (.int .i64 1)∧wx.cell? ⟨g+1,4,none⟩=some (.int .i64 800)∧wx.cell? ⟨g+1,5,none⟩=some (.int .i64 1)∧wx.cell? ⟨g+1,6,none⟩=some (.int .i64 600)∧wx.cell? ⟨g+1,7,none⟩=some (.int .i64 1)∧wx.cell? ⟨g+1,8,none⟩=some (.int .i64 0)∧wx.cell? ⟨g+1,9,none⟩=some (.int .i64 0)∧wx.cell? ⟨g+1,10,none⟩=some (.int .i64 0)∧wx.cell? ⟨g+1,11,none⟩=some (.int .i64 0))) (by kernel_rfl) (by (try dsimp only);go_keep) (fun hHeld=>?_);have HL7:=Q1 (show Below wb.heap.size wb wb.drew from (Below.refl _ _).drew);generalize wb.drew=w7 at *
    refine wpAnyH_take (i:=0) (v:=?hvv0_1) rfl (by kernel_rfl) (by kernel_rfl) (by kernel_rfl) (fun _ _ _ h=>h) (Or.inl ⟨by rfl,?hhy0_1⟩) (by assumption) ?_
    case hhy0_1=>(intro w hSw;(try dsimp only at hSw);go_simp;try with_reducible rfl)
    change wpAnyH _ _ _ _ _ _ _ (Act.put _ (some 22) _) _
    try simp only[Act.put,Q2,Q4,Q5]
    refine wpAnyH_take (i:=1) (v:=?hvv1_2) rfl (by kernel_rfl) (by kernel_rfl) (by kernel_rfl) (fun _ _ _ h=>h) (Or.inl ⟨by rfl,?hhy1_2⟩) (by assumption) ?_
    case hhy1_2=>(intro w hSw;(try dsimp only at hSw);go_simp;try with_reducible rfl)
    change wpAnyH _ _ _ _ _ _ _ (Act.put _ (some 23) _) _
    try simp only[Act.put,Q2,Q4,Q5]
    refine wpAnyH_take (i:=2) (v:=?hvv2_3) rfl (by kernel_rfl) (by kernel_rfl) (by kernel_rfl) (fun _ _ _ h=>h) (Or.inl ⟨by rfl,?hhy2_3⟩) (by assumption) ?_
    case hhy2_3=>(intro w hSw;(try dsimp only at hSw);go_simp;try with_reducible rfl)
    change wpAnyH _ _ _ _ _ _ _ (Act.put _ (some 24) _) _
    try simp only[Act.put,Q2,Q4,Q5]
    refine wpAnyH_take (i:=3) (v:=?hvv3_4) rfl (by kernel_rfl) (by kernel_rfl) (by kernel_rfl) (fun _ _ _ h=>h) (Or.inl ⟨by rfl,?hhy3_4⟩) (by assumption) ?_
    case hhy3_4=>(intro w hSw;(try dsimp only at hSw);go_simp;try with_reducible rfl)
    change wpAnyH _ _ _ _ _ _ _ (Act.put _ (some 25) _) _
    try simp only[Act.put,Q2,Q4,Q5]
    refine wpAnyH_take (i:=4) (v:=?hvv4_5) rfl (by kernel_rfl) (by kernel_rfl) (by kernel_rfl) (fun _ _ _ h=>h) (Or.inl ⟨by rfl,?hhy4_5⟩) (by assumption) ?_
    case hhy4_5=>(intro w hSw;(try dsimp only at hSw);go_simp;try with_reducible rfl)
    change wpAnyH _ _ _ _ _ _ _ (Act.put _ (some 26) _) _
    try simp only[Act.put,Q2,Q4,Q5]
    clear c0 fc0 c1 fc1 e0 e1 e2 e3 e4 e5 e6 e7 e8 e9 e10 e11;refine wpAnyH_ready (rs:=[5]) (by kernel_rfl) (by simp) ?_;refine AllReadyH.cons rfl (fun K hK=>?_) AllReadyH.nil
    go_simp
    rw[show IntKind.i64.wrap 1=1 by decide]
    ((with_reducible refine(Q0w _).mono ?_);rintro e w8 ⟨rfl,hb8⟩)
    have hbl:Below wb.heap.size wb w8:=HL7.out.trans (hb8.mono HL7.out.size);refine hK.out _ _ (KEEP.out _ ⟨hbl⟩) (fun hHeld=>?_);have HL8:=Q1 hbl;clear hK K hb8 hbl HL7;refine wpAnyH_ready (rs:=[6]) (by kernel_rfl) (by simp) ?_;refine AllReadyH.cons rfl (fun K hK=>?_) AllReadyH.nil
    go_simp
    obtain⟨h9,hb9⟩:=Z2 w8 23 #[.int .i64 600,.int .i64 1,.int .i64 1,.int .i64 1];have hbl:Below wb.heap.size wb (w8.alloc (.cells #[.int .i64 600,.int .i64 1,.int .i64 1,.int .i64 1] 23)):=HL8.out.trans (hb9.mono HL8.out.size);refine hK.out _ _ (KEEP.out _ ⟨hbl⟩) (fun hHeld=>?_);have HL9:=Q1 hbl;have HM:=Q1 (Q4e _ _ h9);clear hK K hb9 hbl HL8 h9;generalize w8.heap.size=g9 at *;generalize World.alloc w8 _=w9 at *;refine wpAnyH_ready (rs:=[7]) (by kernel_rfl) (by simp) ?_;refine AllReadyH.cons rfl (fun K hK=>?_) AllReadyH.nil
    go_simp
    ((with_reducible refine HM.out.mono ?_);rintro e w10 ⟨rfl,hb10⟩)
    have hbl:Below wb.heap.size wb w10:=HL9.out.trans (hb10.mono HL9.out.size);refine hK.out _ _ (KEEP.out _ ⟨hbl⟩) (fun hHeld=>?_);have HL10:=Q1 hbl;clear hK K hb10 hbl HL9 HM;refine wpAnyH_ready (rs:=[8]) (by kernel_rfl) (by simp) ?_;refine AllReadyH.cons rfl (fun K hK=>?_) AllReadyH.nil
    go_simp
    obtain⟨h11,hb11⟩:=Z2 w10 23 #[.int .i64 600,.int .i64 1];have hbl:Below wb.heap.size wb (w10.alloc (.cells #[.int .i64 600,.int .i64 1] 23)):=HL10.out.trans (hb11.mono HL10.out.size);refine hK.out _ _ (KEEP.out _ ⟨hbl⟩) (fun hHeld=>?_);have HL11:=Q1 hbl;have H11:=Q1 h11;have hgg:wb.heap.size≤w10.heap.size:=HL10.out.size;clear hK K hb11 hbl HL10 h11;have HN:=Q1 (World.ownsRow_nil (w10.alloc (.cells #[.int .i64 600,.int .i64 1] 23)) wb.heap.size 23 2);generalize w10.heap.size=g11 at *;generalize World.alloc w10 _=w11 at *;refine wpAnyH_ready (rs:=[9]) (by kernel_rfl) (by simp) ?_;refine AllReadyH.cons rfl (fun K hK=>?_) AllReadyH.nil;refine Ky Q87 (by rfl) _ _ (by rfl) (by rfl) HN.out HL11.out.size H11.out 1 (by rfl) (by rfl) (by simp[Value.oneCell']) (by omega) (by omega) ?_;intro gg cap3 w3 ho3 hg3 hat;replace hg3:w11.grownBy w3 none:=hg3
    have hbl:Below wb.heap.size wb w3:=Below.grown HL11.out hg3 HL11.out.size (fun k e=>by cases e);refine hK.out _ _ (KEEP.out _ ⟨hbl⟩) (fun hHeld=>?_);clear hK K;refine wpAnyH_ready (rs:=[10]) (by kernel_rfl) (by simp) ?_;refine AllReadyH.cons rfl (fun K hK=>?_) AllReadyH.nil
    go_simp
    refine hK.out _ _ (by (try dsimp only);go_keep) (fun hHeld=>?_);clear hK K;refine wpAnyH_done (by kernel_rfl) ?_ _;have k0:w3.cell? ⟨gg,0,none⟩=some (.int .i64 600):=Uv ho3 rfl;have k1:w3.cell? ⟨gg,1,none⟩=some (.int .i64 1):=Uv ho3 rfl;have HR:=Q1 (Q3 (HB2.out.trans (hbl.mono HSZ.out)) (Q3 (G6 ho3) (P6 ho3)));clear ho3 hg3 hat hbl HL11 H11 HN hgg KEEP;go_wp2_with fail
    go_roundg 6
    case measure=>omega
    case rel=>exact .inr ⟨1,gg,cap3,rfl,rfl,by omega,by omega,by omega,HR.out.2.1.1,HR.out.2.2.2,k0,k1,Q1 HR.out.1⟩
  · by_cases h7:i<7
    · have gi:decide ((i:Int)<7)=true:=decide_eq_true (by omega)
      have hix:=fun w=>M7 i h7 w
      rw[show Ic i=0 from if_neg (by omega)]at hix
      go_upto_region 5 with fail
      obtain⟨h7',hb7⟩:=Z2 wr 23 #[.int .i64 0,.int .i64 1];have HR:=Q1 (Q3 (J8 hb hb7) (Q3 ((hb7.cell (p:=⟨gk,0,none⟩) hgk).trans k0) (Q3 ((hb7.cell (p:=⟨gk,1,none⟩) hgk).trans k1) (Qg hgk hb7.size))));clear hb hb7 k0 k1 hgk;generalize wr.heap.size=g7 at *;generalize World.alloc wr _=wb at *;have c0:wb.cell? ⟨g7,0,none⟩=some (.int .i64 0):=(h7').cell 0;have fc0:=(h7').frozen 0;have c1:wb.cell? ⟨g7,1,none⟩=some (.int .i64 1):=(h7').cell 1;have fc1:=(h7').frozen 1;have lc:=(h7').lt;clear h7';go_wp2_with fail
      go_roundg (7-(i+1))
      case measure=>omega
      case rel=>exact .inr ⟨i+1,gk,ck,rfl,by go_num,by omega,by omega,Q6 _,hck,HR.out.2.2.2,HR.out.2.1,HR.out.2.2.1,HR.out.1⟩
    · obtain rfl:i=7:=by omega
      have HAD:=Q1 (Q5e gk 0 ck wr hck hgk k0 k1);have H3:=Q1 (H.out.2.2.below hb.out H.out.2.2.lt);have q14:wr.cell? ⟨g,14,none⟩=some (.slice none 0 0):=(H.out.1.below hb.out H.out.1.lt).cell 14;have HB3:=J8 HB hb.out;clear H HB hb k0 k1 hgk;go_wp2_with fail
      go_loopg [5,36] 0 (fun q s5 s wx=>s5=.slice (some ⟨gk,0,none⟩) 1 ck∧s=.int .i64 0∧wx=wr)
      case atStart=>exact⟨rfl,rfl,rfl⟩
      case round =>
       obtain⟨rfl,rfl,rfl⟩:=hrel;go_wp2_with fail
       ((with_reducible refine HAD.out.mono ?_);rintro e wd ⟨rfl,hbd⟩)
       have d0:wd.cell? ⟨g+1+1,0,none⟩=some (.int .i64 0):=((H3.out.below hbd H3.out.lt)).cell 0;have fd0:=((H3.out.below hbd H3.out.lt)).frozen 0;have d1:wd.cell? ⟨g+1+1,1,none⟩=some (.int .i64 0):=((H3.out.below hbd H3.out.lt)).cell 1;have fd1:=((H3.out.below hbd H3.out.lt)).frozen 1;have ld:=((H3.out.below hbd H3.out.lt)).lt;have HB4:=J8 HB3 hbd;clear hbd HB3;go_wp2_with fail;exact bodyPost_ret (v:=.agg #[.int .i64 600,.int .i64 1]) (by simp[results,Tryz.results201,go_sem,d0,d1]) rfl ⟨rfl,(HB4.out.setCell (p:=⟨g+1+1,0,none⟩) (show w.heap.size≤g+1+1 by have:=HG.out;omega) _).setCell (p:=⟨g+1+1,1,none⟩) (show w.heap.size≤g+1+1 by have:=HG.out;omega) _⟩
end Go.Proofs.YtnanffmhbjdpaaaGreatDoor
