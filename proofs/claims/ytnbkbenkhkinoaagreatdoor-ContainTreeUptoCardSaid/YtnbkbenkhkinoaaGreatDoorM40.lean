/- Of my texts: MedN, AwD, CnA, AwE, AwF, CnB, AwG, CnG, CnC. -/
import Derived.Test.YtnbkbenkhkinoaaGreatDoorM23
import Derived.Test.YtnbkbenkhkinoaaGreatDoorM30
import Derived.Test.YtnbkbenkhkinoaaGreatDoorM32
import Derived.Test.YtnbkbenkhkinoaaGreatDoorM33
import Derived.Test.YtnbkbenkhkinoaaGreatDoorM35
import Derived.Test.YtnbkbenkhkinoaaGreatDoorM39
import Derived.Deep.RegionHeld3
import Derived.Defers
import Derived.Recover
import Derived.Tactics2
namespace Go.Proofs.YtnbkbenkhkinoaaGreatDoor
set_option linter.unusedVariables false
set_option linter.unusedSimpArgs false
open Go.RowKit
def retF (A:Nat→Prop) (r:Option Ct) (e:Ending) (w:World):Prop:=∃ v,e=.returned (.tuple #[v,.bool r.isSome])∧isCd A (r.getD zeroCt) v w
theorem retF_some {A:Nat→Prop} {C:Ct} {e:Ending} {w:World} (h:retC A (some C) e w):retF A (some C) e w:=by
 obtain⟨v,ok,rfl,rfl,_,hC⟩:=h;exact⟨v,rfl,hC C rfl⟩
theorem none_F {w W:World} {Y:Option Ct} (hY:Y=none) (hb:Below w.heap.size w W):retF (· < w.heap.size) Y (.returned (.tuple #[.agg #[.int .i64 0,.slice none 0 0,.int .i64 0,.int .i64 0,.string ⟨#[]⟩,.int .i64 0,.int .i64 0,.int .i64 0,.int .i64 0,.int .i64 0,.slice none 0 0,.string ⟨#[]⟩,.string ⟨#[]⟩,.bool false],.bool false])) W∧Below w.heap.size w W:=by
 subst hY;exact⟨⟨_,rfl,zero_cd _ _⟩,hb⟩
theorem vs_one {w:World} {h:Nat} {v:Vl} (hv:VlIn w h v) (V:Array Value) (hV:V.toList=vcells v):VsIn (w.alloc (.cells V 104)) h (some ⟨w.heap.size,0,none⟩) 1 w.heap.size 0 [v]:=by
 have hsz:V.size=1*7:=by rw[← Array.length_toList,hV,vcells_length]
 obtain⟨oa,cap,gg,he,hsl,_⟩:=sl_of_own (owns_fresh (base:=0) (n:=1) (size:=7) (Blk.new w 104 V) (Nat.zero_le _) hsz (by decide))
 injection he with e1 _ e3
 subst e1 e3;have e4:=(hsl.lies (by omega)).1
 injection e4 with e4
 injection e4 with e4
 subst e4;rw[hV,← List.flatMap_singleton (f:=vcells)]at hsl
 exact ⟨by simp,hsl,fun i x hx=>by
  obtain rfl:=List.mem_singleton.1 (List.mem_of_getElem? hx)
  exact hv.below h (below_box _ _)⟩
theorem featN_mk (h:Nat) (t:Tk) (k:List Vt) (box:Bool):featN (exH h) (.mk t k) box=if t.kind≠21∨mayV 64 [.mk t k]=false then none
 else if knownN (aloneN (trimV k)) box≠[] then some (boolC (knownN (aloneN (trimV k)) box))
 else match plainN (exH h) (trimV k) box with
  | some c=>some c
  | none=>betweenN (exH h) (trimV k) box:=rfl
set_option maxRecDepth 20000 in
set_option maxHeartbeats 4000000 in
theorem featureM_any (h:Nat) (tk tn td:Int) (tt:List UInt8) (ti tid:Bool) (koa:Option Addr) (kb ko kcap:Nat) (kids:List Vl) (w:World) (hv:VlIn w (h+1) (.mk ⟨tk,tt,(tn,td),ti,tid⟩ koa kb ko kcap kids)) (box:Bool) :
  Calls Tryz.prog 69 #[.agg #[.int .i64 tk,.string ⟨tt.toArray⟩,.int .i64 tn,.int .i64 td,.bool ti,.bool tid,.slice koa kids.length kcap],.bool box] w fun e w'=>retF (· < w.heap.size) (featN (exH h) (.mk ⟨tk,tt,(tn,td),ti,tid⟩ (kids.map Vl.c)) box) e w'∧Below w.heap.size w w':=by
 obtain⟨Y,hY⟩:∃ Y,featN (exH h) (.mk ⟨tk,tt,(tn,td),ti,tid⟩ (kids.map Vl.c)) box=Y:=⟨_,rfl⟩;rw[hY];rw[featN_mk]at hY;obtain⟨K,hK⟩:∃ K,kids.length=K:=⟨_,rfl⟩;have hkv:=hv.kids;have HV:=Lib.hid (And.intro hv hkv);have HK:=Lib.hid hK;have HY:=Lib.hid hY;rw[hK];clear hv hkv hK hY
 go_enter Tryz.func69,Tryz.ntmps69
 go_upto_region 1 with fail
 have h1:=(Blk.new w 104 #[.int .i64 tk,.string ⟨tt.toArray⟩,.int .i64 tn,.int .i64 td,.bool ti,.bool tid,.slice koa K kcap]).old (.cells zero14 35);have h2:=Blk.new2 w (.cells #[.int .i64 tk,.string ⟨tt.toArray⟩,.int .i64 tn,.int .i64 td,.bool ti,.bool tid,.slice koa K kcap] 104) 35 zero14;have hb0:=(below_box w (.cells #[.int .i64 tk,.string ⟨tt.toArray⟩,.int .i64 tn,.int .i64 td,.bool ti,.bool tid,.slice koa K kcap] 104)).alloc (by simp) (.cells zero14 35);obtain⟨g,hg⟩:∃ g,w.heap.size=g:=⟨_,rfl⟩;have HG:=Lib.hid hg;have hl2:=h2.lt;rw[hg]at h1 h2 hl2;have H1:=Lib.hid h1;have H2:=Lib.hid h2;have HB:=Lib.hid hb0;simp only[zero14]at H1 H2 HB hl2
 try simp only[hg]
 clear h1 h2 hb0 hg;generalize World.alloc (World.alloc w _) _=w1 at *;obtain⟨q0,fq0,q1,fq1,q2,fq2,q3,fq3,q4,fq4,q5,fq5,q6,fq6,lq⟩:=Blk.seven H1.out
 have hle:w.heap.size≤g+1:=by have:=HG.out;omega
 by_cases hk:tk=21
 · subst hk;have hm:=mayvr_any (h+1) [.mk ⟨21,tt,(tn,td),ti,tid⟩ koa kb ko kcap kids] _ 1 w1.heap.size 0 _ (vs_one (HV.out.1.below (h+1) HB.out) #[.int .i64 21,.string ⟨tt.toArray⟩,.int .i64 tn,.int .i64 td,.bool ti,.bool tid,.slice koa K kcap] (by rw[← HK.out];rfl));obtain⟨X,hX⟩:∃ X,kids.map Vl.c=X:=⟨_,rfl⟩;simp only[List.map_cons,List.map_nil,Vl.c_mk,hX,List.length_singleton]at hm;rw[hX]at HY;obtain⟨m,hmm⟩:∃ m,mayV 64 [.mk ⟨21,tt,(tn,td),ti,tid⟩ X]=m:=⟨_,rfl⟩;rw[hmm]at hm;have HMM:=Lib.hid hmm;have HX:=Lib.hid hX;have HM:=Lib.hid hm;clear hm hmm hX
   cases m with
   | false =>
     have HYN:=Lib.hid (show Y=none by rw[← HY.out,if_pos (Or.inr HMM.out)]);go_wp2_with fail
     ((with_reducible refine HM.out.mono ?_);rintro e w2 ⟨rfl,hb2⟩)
     have hb12:=(below_box w1 (.cells #[.int .i64 21,.string ⟨tt.toArray⟩,.int .i64 tn,.int .i64 td,.bool ti,.bool tid,.slice koa K kcap] 104)).trans (hb2.mono (below_box w1 _).size);have H22:=Lib.hid (H2.out.below hb12 H2.out.lt);have HB2:=bfH HB hb12;clear hb2 hb12;obtain⟨c0,fc0,c1,fc1,c2,fc2,c3,fc3,c4,fc4,c5,fc5,c6,fc6,c7,fc7,c8,fc8,c9,fc9,c10,fc10,c11,fc11,c12,fc12,c13,fc13,lc⟩:=Blk.z14 (H22.out);go_wp2_with fail;refine bodyPost_ret (v:=.tuple #[.agg #[.int .i64 0,.slice none 0 0,.int .i64 0,.int .i64 0,.string ⟨#[]⟩,.int .i64 0,.int .i64 0,.int .i64 0,.int .i64 0,.int .i64 0,.slice none 0 0,.string ⟨#[]⟩,.string ⟨#[]⟩,.bool false],.bool false]) ?_ rfl ?_
     · exact ret_cd2 Tryz.results69 rfl rfl (Blk.zput H22.out) rfl
     · exact none_F HYN.out (none_cd (Y:=none) HB2.out hle rfl rfl).2
   | true =>
     have hT:=mayW_kids (k:=X) HMM.out rfl
     have hY2:Y=if knownN (aloneN (trimV X)) box≠[] then some (boolC (knownN (aloneN (trimV X)) box)) else match plainN (exH h) (trimV X) box with
      | some c=>some c
      | none=>betweenN (exH h) (trimV X) box:=by rw[← HY.out,if_neg (by rw[HMM.out];simp)]
     obtain⟨T,hTe⟩:∃ T,trimV X=T:=⟨_,rfl⟩;rw[hTe]at hT hY2;obtain⟨n1,hn1⟩:∃ n,aloneN T=n:=⟨_,rfl⟩;obtain⟨k1,hk1⟩:∃ n,knownN n1 box=n:=⟨_,rfl⟩;rw[hn1,hk1]at hY2;have HY2:=Lib.hid hY2;have HTT:=Lib.hid (And.intro hTe (And.intro hT hn1));have HKN:=Lib.hid (fun w=>knownM_any n1 box w);rw[hk1]at HKN;clear hT hY2 hTe hn1 hk1 HY HMM;go_wp2_with fail
     ((with_reducible refine HM.out.mono ?_);rintro e w2 ⟨rfl,hb2⟩)
     have hb12:=(below_box w1 (.cells #[.int .i64 21,.string ⟨tt.toArray⟩,.int .i64 tn,.int .i64 td,.bool ti,.bool tid,.slice koa K kcap] 104)).trans (hb2.mono (below_box w1 _).size);have H22:=Lib.hid (H2.out.below hb12 H2.out.lt);have h12:=H1.out.below hb12 H1.out.lt;have HB2:=bfH HB hb12;have ht:=rtrim_any h kids koa kcap kb ko w2 ((HV.out.2.below HB.out).below hb12);rw[HX.out,HTT.out.1,HK.out]at ht;have HTR:=Lib.hid ht;clear q0 fq0 q1 fq1 q2 fq2 q3 fq3 q4 fq4 q5 fq5 q6 fq6 lq hb2 hb12 H1 H2 HB HM ht;obtain⟨q0,fq0,q1,fq1,q2,fq2,q3,fq3,q4,fq4,q5,fq5,q6,fq6,lq⟩:=Blk.seven h12;clear h12;go_wp2_with fail
     ((with_reducible refine HTR.out.mono ?_);rintro e w3 ⟨⟨v,rfl,oa2,cap2,b2,o2,l2,rfl,hc2,hs2⟩,hb3⟩)
     have hs2:=hs2.here;have H23:=Lib.hid (H22.out.below hb3 H22.out.lt);have HB3:=bfH HB2 hb3;have hal:=aloneM_any h l2 oa2 cap2 b2 o2 w3 hs2;rw[hc2,HTT.out.2.2]at hal;have HAL:=Lib.hid hal;have HL2:=Lib.hid (And.intro hs2 hc2);clear q0 fq0 q1 fq1 q2 fq2 q3 fq3 q4 fq4 q5 fq5 q6 fq6 lq hb3 hal hs2 hc2 HTR H22 HB2;go_wp2_with fail
     ((with_reducible refine HAL.out.mono ?_);rintro e w4 ⟨rfl,hb4⟩)
     go_wp2_with fail
     ((with_reducible refine(HKN.out _).mono ?_);rintro e w5 ⟨rfl,hb5⟩)
     have hb35:=hb4.trans (hb5.mono hb4.size);have H25:=Lib.hid (H23.out.below hb35 H23.out.lt);have HB5:=bfH HB3 hb35;have HL5:=Lib.hid (HL2.out.1.below hb35);have hgl:=H25.out.lt;clear hb4 hb5 hb35 H23 HB3 HAL HKN
     by_cases h0:k1=[]
     · subst h0
       have hY3:Y=match plainN (exH h) T box with
        | some c=>some c
        | none=>betweenN (exH h) T box:=by rw[HY2.out,if_neg (by simp)]
       have hmT:mayV 64 (l2.map Vl.c)=true:=by rw[HL2.out.2];exact HTT.out.2.1
       have hp:=plainM_any h l2 oa2 cap2 b2 o2 w5 HL5.out hmT box;rw[HL2.out.2]at hp;obtain⟨X1,hX1⟩:∃ X,plainN (exH h) T box=X:=⟨_,rfl⟩;rw[hX1]at hp hY3;have HP:=Lib.hid hp;have HY3:=Lib.hid hY3;have HMT:=Lib.hid hmT;clear hp hX1 hY3 hmT HY2;go_wp2_with fail
       ((with_reducible refine HP.out.mono ?_);rintro e w6 ⟨⟨v,ok,rfl,hok,⟨vk,voa,vn,vc,vk2,vt,vnm,vop,ve0,ve1,ve2,ve3,vea,ven,vec,vwd,vvl,van,rfl⟩,hC⟩,hb6⟩)
       have h26:=H25.out.below hb6 H25.out.lt;have HB6:=bfH HB5 hb6;have HL6:=Lib.hid (HL5.out.below hb6);have HC:=Lib.hid hC;have HOK:=Lib.hid hok;clear hok hb6 hC HP HL5 HB5
       go_upto_region 8 with fail
       obtain⟨h8,hb7⟩:=box_new w6 35 #[.int .i64 vk,.slice voa vn vc,.int .i64 vk2,.int .i64 vt,.string vnm,.int .i64 vop,.int .i64 ve0,.int .i64 ve1,.int .i64 ve2,.int .i64 ve3,.slice vea ven vec,.string vwd,.string vvl,.bool van];have h27:=h26.below hb7 h26.lt;have HB7:=bfH HB6 hb7;have HL7:=Lib.hid (HL6.out.below hb7)
       have HC7:=Lib.hid fun C (h:X1=some C)=>(HC.out C h).below hb7
       have hne:w6.heap.size≠g+1:=by have:=h26.lt;omega
       clear h26 hb7 HB6 HL6 HC;generalize w6.heap.size=g8 at *;generalize w6.alloc _=w7 at *;have H27:=Lib.hid h27;clear h27
       cases ok with
       | true =>
         obtain⟨C1,rfl⟩:∃ C,X1=some C:=Option.isSome_iff_exists.1 HOK.out.symm;have HYC:=Lib.hid (show Y=some C1 from HY3.out);obtain⟨d0,fd0,d1,fd1,d2,fd2,d3,fd3,d4,fd4,d5,fd5,d6,fd6,d7,fd7,d8,fd8,d9,fd9,d10,fd10,d11,fd11,d12,fd12,d13,fd13,ld⟩:=Blk.many14 (h8);obtain⟨c0,fc0,c1,fc1,c2,fc2,c3,fc3,c4,fc4,c5,fc5,c6,fc6,c7,fc7,c8,fc8,c9,fc9,c10,fc10,c11,fc11,c12,fc12,c13,fc13,lc⟩:=Blk.z14 (H27.out);clear h8 HOK;go_wp2_with fail;refine bodyPost_ret (v:=.tuple #[.agg #[.int .i64 vk,.slice voa vn vc,.int .i64 vk2,.int .i64 vt,.string vnm,.int .i64 vop,.int .i64 ve0,.int .i64 ve1,.int .i64 ve2,.int .i64 ve3,.slice vea ven vec,.string vwd,.string vvl,.bool van],.bool true]) ?_ rfl ?_
         · exact ret_cd2 Tryz.results69 rfl rfl (H27.out.put14 _ _ _ _ _ _ _ _ _ _ _ _ _ _) rfl
         · exact by rw[HYC.out];exact(fun⟨a,b⟩=>⟨retF_some a,b⟩) (tail_cd HB7.out hle hgl rfl ⟨_,_,_,_,_,_,_,_,_,_,_,_,_,_,_,_,_,_,rfl⟩ (fun C hC=>HC7.out C hC) rfl)
       | false =>
         obtain rfl:X1=none:=by cases X1 with
          | none=>rfl
          | some _=>cases HOK.out
         clear HOK h8 HC7;have HY4:=Lib.hid (show Y=betweenN (exH h) T box from HY3.out);have hp:=betweenM_any h l2 oa2 cap2 b2 o2 w7 HL7.out HMT.out box;rw[HL2.out.2]at hp;obtain⟨X2,hX2⟩:∃ X,betweenN (exH h) T box=X:=⟨_,rfl⟩;rw[hX2]at hp HY4;have HP:=Lib.hid hp;clear hp hX2 HY3;go_wp2_with fail
         ((with_reducible refine HP.out.mono ?_);rintro e w8 ⟨⟨v,ok,rfl,hok,⟨vk,voa,vn,vc,vk2,vt,vnm,vop,ve0,ve1,ve2,ve3,vea,ven,vec,vwd,vvl,van,rfl⟩,hC⟩,hb6⟩)
         have h26:=H27.out.below hb6 H27.out.lt;have HB6:=bfH HB7 hb6;have HC:=Lib.hid hC;have HOK:=Lib.hid hok;clear hok hb6 hC HP HL7 HB7
         go_upto_region 11 with fail
         obtain⟨h8,hb7⟩:=box_new w8 35 #[.int .i64 vk,.slice voa vn vc,.int .i64 vk2,.int .i64 vt,.string vnm,.int .i64 vop,.int .i64 ve0,.int .i64 ve1,.int .i64 ve2,.int .i64 ve3,.slice vea ven vec,.string vwd,.string vvl,.bool van];have h27:=h26.below hb7 h26.lt;have HB7:=bfH HB6 hb7
         have HC7:=Lib.hid fun C (h:X2=some C)=>(HC.out C h).below hb7
         have hne2:w8.heap.size≠g+1:=by have:=h26.lt;omega
         have hgl2:=H27.out.lt;clear h26 hb7 HB6 HC;generalize w8.heap.size=g9 at *;generalize w8.alloc _=w9 at *;have H29:=Lib.hid h27;clear h27;obtain⟨c0,fc0,c1,fc1,c2,fc2,c3,fc3,c4,fc4,c5,fc5,c6,fc6,c7,fc7,c8,fc8,c9,fc9,c10,fc10,c11,fc11,c12,fc12,c13,fc13,lc⟩:=Blk.z14 (H29.out)
         cases ok with
         | true =>
           obtain⟨C1,rfl⟩:∃ C,X2=some C:=Option.isSome_iff_exists.1 HOK.out.symm;obtain⟨d0,fd0,d1,fd1,d2,fd2,d3,fd3,d4,fd4,d5,fd5,d6,fd6,d7,fd7,d8,fd8,d9,fd9,d10,fd10,d11,fd11,d12,fd12,d13,fd13,ld⟩:=Blk.many14 (h8);clear h8 HOK;go_wp2_with fail;refine bodyPost_ret (v:=.tuple #[.agg #[.int .i64 vk,.slice voa vn vc,.int .i64 vk2,.int .i64 vt,.string vnm,.int .i64 vop,.int .i64 ve0,.int .i64 ve1,.int .i64 ve2,.int .i64 ve3,.slice vea ven vec,.string vwd,.string vvl,.bool van],.bool true]) ?_ rfl ?_
           · exact ret_cd2 Tryz.results69 rfl rfl (H29.out.put14 _ _ _ _ _ _ _ _ _ _ _ _ _ _) rfl
           · exact by rw[HY4.out];exact(fun⟨a,b⟩=>⟨retF_some a,b⟩) (tail_cd HB7.out hle hgl2 rfl ⟨_,_,_,_,_,_,_,_,_,_,_,_,_,_,_,_,_,_,rfl⟩ (fun C hC=>HC7.out C hC) rfl)
         | false =>
           obtain rfl:X2=none:=by cases X2 with
            | none=>rfl
            | some _=>cases HOK.out
           clear HOK h8;go_wp2_with fail;refine bodyPost_ret (v:=.tuple #[.agg #[.int .i64 0,.slice none 0 0,.int .i64 0,.int .i64 0,.string ⟨#[]⟩,.int .i64 0,.int .i64 0,.int .i64 0,.int .i64 0,.int .i64 0,.slice none 0 0,.string ⟨#[]⟩,.string ⟨#[]⟩,.bool false],.bool false]) ?_ rfl ?_
           · exact ret_cd2 Tryz.results69 rfl rfl (Blk.zput H29.out) rfl
           · exact none_F HY4.out (none_cd (Y:=none) HB7.out hle rfl rfl).2
     · have g0:(k1==[])=false:=beq_eq_false_iff_ne.2 h0;have g1:(k1 != [])=true:=bne_iff_ne.2 h0;have HYC:=Lib.hid (show Y=some (boolC k1) by rw[HY2.out,if_pos h0]);clear h0 HY2;go_wp2_with fail
       ((with_reducible refine(leafM_any 3 0 0 0 0 0 0 _ _ _ none 0 0 false _).mono ?_);rintro e w6 ⟨rfl,hb6⟩)
       have H26:=Lib.hid (H25.out.below hb6 H25.out.lt);have HB6:=bfH HB5 hb6;clear hb6;obtain⟨c0,fc0,c1,fc1,c2,fc2,c3,fc3,c4,fc4,c5,fc5,c6,fc6,c7,fc7,c8,fc8,c9,fc9,c10,fc10,c11,fc11,c12,fc12,c13,fc13,lc⟩:=Blk.z14 (H26.out);go_wp2_with fail;refine bodyPost_ret (v:=.tuple #[.agg #[.int .i64 4,.slice none 0 0,.int .i64 3,.int .i64 0,.string ⟨k1.toArray⟩,.int .i64 0,.int .i64 0,.int .i64 0,.int .i64 0,.int .i64 0,.slice none 0 0,.string ⟨#[]⟩,.string ⟨#[]⟩,.bool false],.bool true]) ?_ rfl ?_
       · exact ret_cd2 Tryz.results69 rfl rfl (H26.out.put14 _ _ _ _ _ _ _ _ _ _ _ _ _ _) rfl
       · exact by rw[HYC.out];exact(fun⟨a,b⟩=>⟨retF_some a,b⟩) (tail_cd HB6.out hle hgl rfl ⟨_,_,_,_,_,_,_,_,_,_,_,_,_,_,_,_,_,_,rfl⟩ (fun C hC=>by obtain rfl:=Option.some.inj hC;exact word_cd _ _ 3 k1 [] (by decide)) rfl)
 · have gk:(tk != 21)=true:=by simpa using hk
   have HYN:=Lib.hid (show Y=none by rw[← HY.out,if_pos (Or.inl hk)]);obtain⟨c0,fc0,c1,fc1,c2,fc2,c3,fc3,c4,fc4,c5,fc5,c6,fc6,c7,fc7,c8,fc8,c9,fc9,c10,fc10,c11,fc11,c12,fc12,c13,fc13,lc⟩:=Blk.z14 (H2.out);go_wp2_with fail;refine bodyPost_ret (v:=.tuple #[.agg #[.int .i64 0,.slice none 0 0,.int .i64 0,.int .i64 0,.string ⟨#[]⟩,.int .i64 0,.int .i64 0,.int .i64 0,.int .i64 0,.int .i64 0,.slice none 0 0,.string ⟨#[]⟩,.string ⟨#[]⟩,.bool false],.bool false]) ?_ rfl ?_
   · exact ret_cd2 Tryz.results69 rfl rfl (Blk.zput H2.out) rfl
   · exact none_F HYN.out (none_cd (Y:=none) HB.out hle rfl rfl).2
theorem bytes_lit {a:ByteArray} {l:List UInt8} (h:a.data.toList=l):a=⟨l.toArray⟩:=by
 obtain⟨⟨a⟩⟩:=a;obtain rfl:a=l:=h;rfl
theorem isCd.lit {A:Nat→Prop} {nm:List UInt8} {op k n d u:Int} {v:Value} {w:World} (h:isCd A (cmpC nm op (.mk k n d u [])) v w):∃ (oa:Option Addr) (cap:Nat) (ea:Option Addr) (ec:Nat),v=.agg #[.int .i64 4,.slice oa 0 cap,.int .i64 4,.int .i64 0,.string ⟨nm.toArray⟩,.int .i64 op,.int .i64 k,.int .i64 n,.int .i64 d,.int .i64 u,.slice ea 0 ec,.string ⟨#[]⟩,.string ⟨#[]⟩,.bool false]:=by
 obtain⟨⟨k',oa,b,o,cap,kids,⟨k2,t,n',op',⟨a0,a1,a2,a3,a4,a5,a6,a7,a8⟩,wd,vl,an⟩⟩,hh,rfl,hc,-⟩:=h;rw[Cd.t_mk]at hc;unfold cmpC leafC lt0 Lf.t at hc;simp only[Ct.mk.injEq,Lt.mk.injEq,Ex.c_mk,Et.mk.injEq,List.map_eq_nil_iff]at hc;obtain⟨rfl,rfl,rfl,rfl,hn,rfl,⟨rfl,rfl,rfl,rfl,rfl⟩,hw,hv,rfl⟩:=hc;obtain rfl:=bytes_lit hn;obtain rfl:=bytes_lit hw;obtain rfl:=bytes_lit hv;exact⟨_,_,_,_,rfl⟩
theorem leaf_nil0 (f:Fn) (a c:Array Value) (w:World) (d:Nat):(Op.equalIn (d+1) 108 (.func f a c) .nilFunc).run Tryz.prog w=.ok false w:=by
 simp[Op.equalIn,run_underlying Tryz.underlying108]
@[go_sem] theorem leaf_nil (f:Fn) (a c:Array Value) (w:World):Sem.run Tryz.prog (binOp .eql 108 (.func f a c) .nilFunc) w=.ok (.bool false) w:=by
 have h2:(Op.equal 108 (.func f a c) .nilFunc).run Tryz.prog w=.ok false w:=leaf_nil0 f a c w 9999;simp only[binOp];simp[h2]
def mkLf (t:Tk):Vl:=.mk t none 0 0 0 []
theorem mkLf_c (Y:List Tk):(Y.map mkLf).map Vl.c=Y.map lfT:=by
 rw[List.map_map]
 exact List.map_congr_left fun t _=>by show Vl.c (mkLf t)=lfT t;unfold mkLf;rw[Vl.c_mk];rfl
theorem mkLf_cells (Y:List Tk):(Y.map mkLf).flatMap vcells=Y.flatMap tvcells:=by
 rw[List.flatMap_map];rfl
theorem lf_in {Y:List Tk} {B N:Nat} {v:Value} {w:World} (h:w.ownsRow B 104 7 v N (Y.flatMap tvcells)) (hN:Y.length=N) (hy:∀ t∈Y,Tk64 t) (hl:N≤1000000) (t:Tk) (ht:Tk64 t):∃ oa cap b,v=.slice oa N cap∧VlIn w (1+1) (.mk t oa b 0 cap (Y.map mkLf)):=by
 obtain⟨oa,cap,b,rfl,hsl,-⟩:=sl_of_own h;refine⟨oa,cap,b,rfl,ht,by rw[List.length_map,hN];omega,by rw[List.length_map,hN,mkLf_cells];exact hsl,fun i x hi=>?_⟩;rw[List.getElem?_map]at hi
 cases hx:Y[i]? with
 | none=>rw[hx]at hi;cases hi
 | some t2 =>
   rw[hx]at hi;obtain rfl:=Option.some.inj hi;exact⟨hy t2 (List.mem_of_getElem? hx),Nat.zero_le _,⟨rfl,Nat.le_refl _,Nat.zero_le _,fun h=>absurd h (Nat.lt_irrefl 0),fun j v h=>by simp at h⟩,fun i x h=>by simp at h⟩
set_option maxRecDepth 20000 in
set_option maxHeartbeats 8000000 in
theorem leafc_any (tn td:Int) (tt:List UInt8) (ti tid:Bool) (koa:Option Addr) (kb ko kcap:Nat) (kids:List Vl) (w:World) (hv:VlIn w (1+1) (.mk ⟨21,tt,(tn,td),ti,tid⟩ koa kb ko kcap kids)) {nm:List UInt8} {op k n d u:Int}
  (hF:featN (exH 1) (.mk ⟨21,tt,(tn,td),ti,tid⟩ (kids.map Vl.c)) true=some (cmpC nm op (.mk k n d u []))) :
  Calls Tryz.prog 50 #[.agg #[.int .i64 21,.string ⟨tt.toArray⟩,.int .i64 tn,.int .i64 td,.bool ti,.bool tid,.slice koa kids.length kcap]] w fun e w'=>(∃ (oa:Option Addr) (cap:Nat) (ea:Option Addr) (ec:Nat),e=.returned (.tuple #[.agg #[.int .i64 4,.slice oa 0 cap,.int .i64 4,.int .i64 0,.string ⟨nm.toArray⟩,.int .i64 op,.int .i64 k,.int .i64 n,.int .i64 d,.int .i64 u,.slice ea 0 ec,.string ⟨#[]⟩,.string ⟨#[]⟩,.bool false],.bool true]))∧Below w.heap.size w w':=by
 obtain⟨K,hK⟩:∃ K,kids.length=K:=⟨_,rfl⟩;have h1:=(Blk.new w 104 #[.int .i64 21,.string ⟨tt.toArray⟩,.int .i64 tn,.int .i64 td,.bool ti,.bool tid,.slice koa K kcap]).old (.cells zero14 35);have h2:=Blk.new2 w (.cells #[.int .i64 21,.string ⟨tt.toArray⟩,.int .i64 tn,.int .i64 td,.bool ti,.bool tid,.slice koa K kcap] 104) 35 zero14;have hb:=(below_box w (.cells #[.int .i64 21,.string ⟨tt.toArray⟩,.int .i64 tn,.int .i64 td,.bool ti,.bool tid,.slice koa K kcap] 104)).alloc (by simp) (.cells zero14 35);have H:=Lib.hid (And.intro h1 (And.intro h2 hb));have HV:=Lib.hid (And.intro hv (And.intro hF hK));rw[hK];clear h1 h2 hb hv hF hK;simp only[zero14]at H
 go_enter Tryz.func50,Tryz.ntmps50
 go_upto_region 1 with fail
 obtain⟨g,hg⟩:∃ g,w.heap.size=g:=⟨_,rfl⟩;rw[hg]at H;simp only[hg];have HG:=Lib.hid hg;clear hg;generalize World.alloc (World.alloc w _) _=wa at *;obtain⟨ca0,fca0,ca1,fca1,ca2,fca2,ca3,fca3,ca4,fca4,ca5,fca5,ca6,fca6,lca⟩:=Blk.seven (H.out.1);have hft:=featureM_any 1 21 tn td tt ti tid koa kb ko kcap kids wa (HV.out.1.below 2 (by rw[HG.out];exact H.out.2.2)) true;rw[HV.out.2.1,HV.out.2.2]at hft;have HFT:=Lib.hid hft;clear hft;go_wp2_with fail
 ((with_reducible refine HFT.out.mono ?_);rintro e wb ⟨⟨v,rfl,hC⟩,hbb⟩)
 obtain⟨oa,cap,ea,ec,rfl⟩:=hC.lit;have H2:=Lib.hid (H.out.2.1.below hbb H.out.2.1.lt);have HB:=Lib.hid (H.out.2.2.trans (hbb.mono (by have:=H.out.2.1.lt;omega)));clear hbb hC HFT H ca0 ca1 ca2 ca3 ca4 ca5 ca6 fca0 fca1 fca2 fca3 fca4 fca5 fca6 lca;obtain⟨c0,fc0,c1,fc1,c2,fc2,c3,fc3,c4,fc4,c5,fc5,c6,fc6,c7,fc7,c8,fc8,c9,fc9,c10,fc10,c11,fc11,c12,fc12,c13,fc13,lc⟩:=Blk.z14 (H2.out);go_wp2_with fail;refine bodyPost_ret (v:=.tuple #[.agg #[.int .i64 4,.slice oa 0 cap,.int .i64 4,.int .i64 0,.string ⟨nm.toArray⟩,.int .i64 op,.int .i64 k,.int .i64 n,.int .i64 d,.int .i64 u,.slice ea 0 ec,.string ⟨#[]⟩,.string ⟨#[]⟩,.bool false],.bool true]) ?_ rfl ?_
 · exact ret_cd2 Tryz.results50 rfl rfl (H2.out.put14 _ _ _ _ _ _ _ _ _ _ _ _ _ _) rfl
 · exact⟨⟨_,_,_,_,rfl⟩,by rw[HG.out];exact below_p14 HB.out (Nat.le_succ g) _ _ _ _ _ _ _ _ _ _ _ _ _ _⟩
set_option maxRecDepth 20000 in
set_option maxHeartbeats 16000000 in
theorem toldc_any (gR h:Nat) (tn td:Int) (tt:List UInt8) (ti tid:Bool) (oa:Option Addr) (cap bb o:Nat) (l:List Vl) (Y:List Tk) (w:World) (hR:Blk w gR 129 #[.func (.func 50) #[] #[]]) (hs:VsIn w h oa cap bb o l) (hY:l.map Vl.c=Y.map lfT) (hk:∀ t∈Y,closeF t.kind=0) (hy:∀ t∈Y,Tk64 t) (ht:Tk64 ⟨21,tt,(tn,td),ti,tid⟩) (hz:l.length≤1000000) {nm:List UInt8} {op k n d u:Int}
  (hF:featN (exH 1) (.mk ⟨21,tt,(tn,td),ti,tid⟩ (Y.map lfT)) true=some (cmpC nm op (.mk k n d u []))) :
  Calls Tryz.prog 166 #[.pointer (some ⟨gR,0,none⟩),.agg #[.int .i64 21,.string ⟨tt.toArray⟩,.int .i64 tn,.int .i64 td,.bool ti,.bool tid,.slice oa l.length cap]] w fun e w'=>e=.returned (.tuple #[.agg #[.int .i64 4,.slice none 0 0,.int .i64 4,.int .i64 0,.string ⟨nm.toArray⟩,.int .i64 op,.int .i64 k,.int .i64 n,.int .i64 d,.int .i64 u,.slice none 0 0,.string ⟨#[]⟩,.string ⟨#[]⟩,.bool false],.bool true])∧Below w.heap.size w w':=by
 obtain⟨N,hN⟩:∃ N,l.length=N:=⟨_,rfl⟩
 have hYN:Y.length=N:=by rw[← hN,← List.length_map (f:=lfT),← hY,List.length_map]
 have h1:=(Blk.new w 104 #[.int .i64 21,.string ⟨tt.toArray⟩,.int .i64 tn,.int .i64 td,.bool ti,.bool tid,.slice oa N cap]).old (.cells zero14 35);have h2:=Blk.new2 w (.cells #[.int .i64 21,.string ⟨tt.toArray⟩,.int .i64 tn,.int .i64 td,.bool ti,.bool tid,.slice oa N cap] 104) 35 zero14;have hb:=(below_box w (.cells #[.int .i64 21,.string ⟨tt.toArray⟩,.int .i64 tn,.int .i64 td,.bool ti,.bool tid,.slice oa N cap] 104)).alloc (by simp) (.cells zero14 35);have hRg:=hR.lt;have H:=Lib.hid (And.intro h1 (And.intro h2 (And.intro hb (hR.below hb hRg))));have HS:=Lib.hid (And.intro (hs.below hb) (And.intro hY hN));have HY:=Lib.hid (And.intro hk (And.intro hy (And.intro ht (And.intro hF hYN))));rw[hN]at hz ⊢;clear h1 h2 hb hR hs hY hk hy ht hF hN hYN;simp only[zero14]at H HS
 go_enter Tryz.func166,Tryz.ntmps166
 go_upto_region 1 with fail
 obtain⟨g,hg⟩:∃ g,w.heap.size=g:=⟨_,rfl⟩;rw[hg]at H hRg;simp only[hg];have HG:=Lib.hid hg;clear hg;generalize World.alloc (World.alloc w _) _=wa at *;obtain⟨ca0,fca0,ca1,fca1,ca2,fca2,ca3,fca3,ca4,fca4,ca5,fca5,ca6,fca6,lca⟩:=Blk.seven (H.out.1);have cr0:wa.cell? ⟨gR,0,none⟩=some (.func (.func 50) #[] #[]):=H.out.2.2.2.cell 0;have lr:=H.out.2.2.2.lt
 go_upto_region 3 with fail
 have KEEP:=Lib.hid (show ∀ wx,Bel wa wx→wx.cell? ⟨gR,0,none⟩=some (.func (.func 50) #[] #[])∧wx.cell? ⟨g,0,none⟩=some (.int .i64 21)∧wx.cell? ⟨g,1,none⟩=some (.string ⟨tt.toArray⟩)∧wx.cell? ⟨g,2,none⟩=some (.int .i64 tn)∧wx.cell? ⟨g,3,none⟩=some (.int .i64 td)∧wx.cell? ⟨g,4,none⟩=some (.bool ti)∧wx.cell? ⟨g,5,none⟩=some (.bool tid)∧wx.cell? ⟨g,6,none⟩=some (.slice oa N cap) from
  fun wx hx=>⟨(hx.out.cell (p:=⟨gR,0,none⟩) lr).trans cr0,(hx.out.cell (p:=⟨g,0,none⟩) lca).trans ca0,(hx.out.cell (p:=⟨g,1,none⟩) lca).trans ca1,(hx.out.cell (p:=⟨g,2,none⟩) lca).trans ca2,(hx.out.cell (p:=⟨g,3,none⟩) lca).trans ca3,(hx.out.cell (p:=⟨g,4,none⟩) lca).trans ca4,(hx.out.cell (p:=⟨g,5,none⟩) lca).trans ca5,(hx.out.cell (p:=⟨g,6,none⟩) lca).trans ca6⟩)
 have HFL:=Lib.hid (show ∀ wx,Bel wa wx→Calls Tryz.prog 72 #[.slice oa N cap] wx fun e w'=>∃ v,e=.returned v∧Below wx.heap.size wx w'∧Hid (∀ wy,Bel w' wy→Calls Tryz.prog 201 #[v] wy fun e w2=>∃ (a2:Option Addr) (c2:Nat),e=.returned (.slice a2 N c2)∧Below wy.heap.size wy w2∧Hid (∀ wz,Bel w2 wz→Calls Tryz.prog 50 #[.agg #[.int .i64 21,.string ⟨tt.toArray⟩,.int .i64 tn,.int .i64 td,.bool ti,.bool tid,.slice a2 N c2]] wz fun e w3=>(∃ (qa:Option Addr) (qc:Nat) (ea:Option Addr) (ec:Nat),e=.returned (.tuple #[.agg #[.int .i64 4,.slice qa 0 qc,.int .i64 4,.int .i64 0,.string ⟨nm.toArray⟩,.int .i64 op,.int .i64 k,.int .i64 n,.int .i64 d,.int .i64 u,.slice ea 0 ec,.string ⟨#[]⟩,.string ⟨#[]⟩,.bool false],.bool true]))∧Below wz.heap.size wz w3)) from fun wx hx=>by
  obtain⟨hk,hy,ht,hF,hYN⟩:=HY.out;have:=rflat_leaf h l Y oa cap bb o wx (HS.out.1.below hx.out) HS.out.2.1 hk (by rw[HS.out.2.2];exact hz);rw[HS.out.2.2]at this;refine this.mono ?_;rintro e w' ⟨v,rfl,hr⟩;refine⟨v,rfl,hr.below,Lib.hid fun wy hy2=>?_⟩;obtain⟨oa1,cap1,g1,rfl,hsl,_⟩:=sl_of_own (owns_belowW hr.own hy2.out);have:=rvalues_leaf Y oa1 cap1 g1 0 wy hsl hk (by rw[hYN];exact hz);refine this.mono ?_;rintro e w2 ⟨v2,rfl,ho2,hb2⟩;rw[hYN]at ho2;obtain⟨oa2,cap2,b2,rfl,hv⟩:=lf_in ho2 hYN hy hz ⟨21,tt,(tn,td),ti,tid⟩ ht;refine⟨_,_,rfl,hb2,Lib.hid fun wz hz2=>?_⟩;have:=leafc_any tn td tt ti tid oa2 b2 0 cap2 (Y.map mkLf) wz (hv.below 2 hz2.out) (by rw[mkLf_c];exact hF);rw[List.length_map,hYN]at this
  exact this)
 clear cr0 ca0 fca0 ca1 fca1 ca2 fca2 ca3 fca3 ca4 fca4 ca5 fca5 ca6 fca6
 go_cut [6,7] from 14 to 28 (fun s6 s7 wx=>∃ (g6:Nat) (qa:Option Addr) (qc:Nat) (ea:Option Addr) (ec:Nat),s6=.pointer (some ⟨g6,0,none⟩)∧s7=.bool true∧wa.heap.size≤g6∧Hid (Below wa.heap.size wa wx)∧Hid (Blk wx g6 35 #[.int .i64 4,.slice qa 0 qc,.int .i64 4,.int .i64 0,.string ⟨nm.toArray⟩,.int .i64 op,.int .i64 k,.int .i64 n,.int .i64 d,.int .i64 u,.slice ea 0 ec,.string ⟨#[]⟩,.string ⟨#[]⟩,.bool false]))
 case first =>
  go_region_held3 (fun wx=>wx.cell? ⟨gR,0,none⟩=some (.func (.func 50) #[] #[])∧wx.cell? ⟨g,0,none⟩=some (.int .i64 21)∧wx.cell? ⟨g,1,none⟩=some (.string ⟨tt.toArray⟩)∧wx.cell? ⟨g,2,none⟩=some (.int .i64 tn)∧wx.cell? ⟨g,3,none⟩=some (.int .i64 td)∧wx.cell? ⟨g,4,none⟩=some (.bool ti)∧wx.cell? ⟨g,5,none⟩=some (.bool tid)∧wx.cell? ⟨g,6,none⟩=some (.slice oa N cap)) (first|exact KEEP.out _ inferInstance|go_keep) (first | (go_at_call 72;(with_reducible refine(HFL.out _ inferInstance).mono ?_);rintro e w1 ⟨v1,rfl,hb1,HV1⟩;(first|obtain⟨m1,rfl⟩:=grow_mk ((grow_below _).trans (hb1.mono (grow_size _))) | obtain⟨m1,rfl⟩:=grow_mk hb1);clear hb1) | (go_at_call 201;(with_reducible refine(HV1.out _ inferInstance).mono ?_);rintro e w2 ⟨a2,c2,rfl,hb2,HN2⟩;(first|obtain⟨m2,rfl⟩:=grow_mk ((grow_below _).trans (hb2.mono (grow_size _))) | obtain⟨m2,rfl⟩:=grow_mk hb2);clear hb2) | (go_at_call 50;(with_reducible refine(HN2.out _ inferInstance).mono ?_);rintro e w3 ⟨⟨qa,qc,ea,ec,rfl⟩,hb3⟩;(first|obtain⟨m3,rfl⟩:=grow_mk ((grow_below _).trans (hb3.mono (grow_size _))) | obtain⟨m3,rfl⟩:=grow_mk hb3);clear hb3))
  all_goals go_wp2_with fail
  all_goals go_meet
  all_goals refine⟨_,qa,qc,ea,ec,rfl,rfl,(inferInstance:Up wa _).out,?_⟩
  · exact⟨Lib.hid (inferInstance:Bel wa _).out,Lib.hid (Blk.new _ _ _)⟩
  all_goals exact⟨Lib.hid (below_p14 (inferInstance:Bel wa _).out (inferInstance:Up wa _).out _ _ _ _ _ _ _ _ _ _ _ _ _ _),Lib.hid ((show Blk _ _ _ zero14 from (inferInstance:Has _ _ 35 #[.int .i64 0,.slice none 0 0,.int .i64 0,.int .i64 0,.string ⟨#[]⟩,.int .i64 0,.int .i64 0,.int .i64 0,.int .i64 0,.int .i64 0,.slice none 0 0,.string ⟨#[]⟩,.string ⟨#[]⟩,.bool false]).out).put14 _ _ _ _ _ _ _ _ _ _ _ _ _ _)⟩
 case rest =>
  obtain⟨g6,qa,qc,ea,ec,rfl,rfl,hg6,hbx,hN6⟩:=hcut;have hb6:=H.out.2.2.1.trans (hbx.out.mono (Nat.le_of_lt lca));have H26:=Lib.hid (H.out.2.1.below hbx.out H.out.2.1.lt);have H6:=Lib.hid hb6
  have hn6:g+1<g6:=by have:=H.out.2.1.lt;omega
  clear hb6 hbx HFL KEEP H HS HY;obtain⟨cn0,fcn0,cn1,fcn1,cn2,fcn2,cn3,fcn3,cn4,fcn4,cn5,fcn5,cn6,fcn6,cn7,fcn7,cn8,fcn8,cn9,fcn9,cn10,fcn10,cn11,fcn11,cn12,fcn12,cn13,fcn13,lcn⟩:=Blk.many14 (hN6.out);go_wp2_with fail
  ((with_reducible refine(copiedL_any _ _ _ _ _ _ _ _ _ _ _ _ _ _ _ _ _).mono ?_);rintro e wd ⟨rfl,hbd⟩)
  have H27:=Lib.hid (H26.out.below hbd H26.out.lt);have H7:=Lib.hid (H6.out.trans (hbd.mono (by have:=H26.out.lt;omega)));clear H26 H6 hN6 hbd;obtain⟨c0,fc0,c1,fc1,c2,fc2,c3,fc3,c4,fc4,c5,fc5,c6,fc6,c7,fc7,c8,fc8,c9,fc9,c10,fc10,c11,fc11,c12,fc12,c13,fc13,lc⟩:=Blk.z14 (H27.out);go_wp2_with fail;refine bodyPost_ret (v:=.tuple #[.agg #[.int .i64 4,.slice none 0 0,.int .i64 4,.int .i64 0,.string ⟨nm.toArray⟩,.int .i64 op,.int .i64 k,.int .i64 n,.int .i64 d,.int .i64 u,.slice none 0 0,.string ⟨#[]⟩,.string ⟨#[]⟩,.bool false],.bool true]) ?_ rfl ?_
  · exact ret_cd2 Tryz.results166 rfl rfl (H27.out.put14 _ _ _ _ _ _ _ _ _ _ _ _ _ _) rfl
  · exact⟨rfl,by rw[HG.out];exact below_p14 H7.out (Nat.le_succ g) _ _ _ _ _ _ _ _ _ _ _ _ _ _⟩
def tpar:Tk:=⟨21,[],(0,0),false,false⟩
def ParIn (w:World) (koa:Option Addr) (K kcap:Nat) (b o cap:Nat):Prop:=∃ h kb ko kids,kids.length=K∧VsIn w h (some ⟨b,o,none⟩) cap b o [.mk tpar koa kb ko kcap kids]
theorem ParIn.below {w w':World} {koa:Option Addr} {K kcap b o cap:Nat} (h:ParIn w koa K kcap b o cap) (hb:Below w.heap.size w w'):ParIn w' koa K kcap b o cap:=by
 obtain⟨hh,kb,ko,kids,hK,hs⟩:=h;exact⟨hh,kb,ko,kids,hK,hs.below hb⟩
theorem ParIn.row {w:World} {koa:Option Addr} {K kcap b o cap:Nat} (h:ParIn w koa K kcap b o cap):(w.cell? ⟨b,o,none⟩=some (.int .i64 21)∧w.cell? ⟨b,o+1,none⟩=some (.string ⟨#[]⟩)∧w.cell? ⟨b,o+2,none⟩=some (.int .i64 0)∧w.cell? ⟨b,o+3,none⟩=some (.int .i64 0)∧w.cell? ⟨b,o+4,none⟩=some (.bool false)∧w.cell? ⟨b,o+5,none⟩=some (.bool false)∧w.cell? ⟨b,o+6,none⟩=some (.slice koa K kcap))∧b<w.heap.size:=by
 obtain⟨hh,kb,ko,kids,rfl,hs⟩:=h;exact⟨hs.row (i:=0) rfl,(hs.sl.lies (Nat.zero_lt_one)).2⟩
theorem wordp_any {koa:Option Addr} {K kcap b o cap:Nat} (w:World) (hp:ParIn w koa K kcap b o cap):Calls Tryz.prog 122 #[.slice (some ⟨b,o,none⟩) 1 cap,.int .i64 0] w fun e w'=>e=.returned (.string ⟨#[]⟩)∧w=w':=by
 obtain⟨⟨f0,-,-,-,-,-,-⟩,hb⟩:=hp.row;clear hp
 go_enter Tryz.func122,Tryz.ntmps122
 go_wp2_with fail;go_ret;exact⟨rfl,rfl⟩
set_option maxRecDepth 20000 in
set_option maxHeartbeats 8000000 in
theorem parta_any {nm:List UInt8} {op k n d u:Int} (gR:Nat) {koa:Option Addr} {K kcap b o cap:Nat} (w:World) (hp:ParIn w koa K kcap b o cap) (hT:∀ wx,Bel w wx→Calls Tryz.prog 166 #[.pointer (some ⟨gR,0,none⟩),.agg #[.int .i64 21,.string ⟨#[]⟩,.int .i64 0,.int .i64 0,.bool false,.bool false,.slice koa K kcap]] wx fun e w'=>e=.returned (.tuple #[.agg #[.int .i64 4,.slice none 0 0,.int .i64 4,.int .i64 0,.string ⟨nm.toArray⟩,.int .i64 op,.int .i64 k,.int .i64 n,.int .i64 d,.int .i64 u,.slice none 0 0,.string ⟨#[]⟩,.string ⟨#[]⟩,.bool false],.bool true])∧Below wx.heap.size wx w') :
  Calls Tryz.prog 123 #[.pointer (some ⟨gR,0,none⟩),.slice (some ⟨b,o,none⟩) 1 cap,.int .i64 0] w fun e w'=>e=.returned (.agg #[.int .i64 4,.slice none 0 0,.int .i64 4,.int .i64 0,.string ⟨nm.toArray⟩,.int .i64 op,.int .i64 k,.int .i64 n,.int .i64 d,.int .i64 u,.slice none 0 0,.string ⟨#[]⟩,.string ⟨#[]⟩,.bool false])∧Below w.heap.size w w':=by
 obtain⟨h1,hb1⟩:=box_new w 35 zero14;have H1:=Lib.hid h1;have HB1:=Lib.hid hb1;obtain⟨⟨f0,f1,f2,f3,f4,f5,f6⟩,hlb⟩:=(hp.below hb1).row;have HT:=Lib.hid hT;obtain⟨g,hg⟩:∃ g,w.heap.size=g:=⟨_,rfl⟩;rw[hg]at H1;have HG:=Lib.hid hg;clear h1 hb1 hp hT;simp only[zero14]at H1 HB1 f0 f1 f2 f3 f4 f5 f6 hlb
 go_enter Tryz.func123,Tryz.ntmps123
 go_upto_region 1 with fail
 try simp only[hg]
 generalize World.alloc w _=wa at *;clear hg
 go_upto_region 4 with fail
 obtain⟨h7,hb7⟩:=box_new wa 104 #[.int .i64 21,.string ⟨#[]⟩,.int .i64 0,.int .i64 0,.bool false,.bool false,.slice koa K kcap];have H2:=Lib.hid (H1.out.below hb7 H1.out.lt);have HB2:=bfH HB1 hb7;clear f0 f1 f2 f3 f4 f5 f6 hlb H1 HB1 hb7;generalize wa.heap.size=g7 at *;generalize World.alloc wa _=wb at *;obtain⟨cv0,fcv0,cv1,fcv1,cv2,fcv2,cv3,fcv3,cv4,fcv4,cv5,fcv5,cv6,fcv6,lcv⟩:=Blk.seven (h7);clear h7;go_wp2_with fail
 ((with_reducible refine(HT.out _ ⟨HB2.out⟩).mono ?_);rintro e wc ⟨rfl,hbc⟩)
 have H3:=H2.out.below hbc H2.out.lt;have HB3:=bfH HB2 hbc;clear cv0 cv1 cv2 cv3 cv4 cv5 cv6 fcv0 fcv1 fcv2 fcv3 fcv4 fcv5 fcv6 lcv H2 HB2 hbc
 go_upto_region 5 with fail
 obtain⟨h8,hb8⟩:=box_new wc 35 #[.int .i64 4,.slice none 0 0,.int .i64 4,.int .i64 0,.string ⟨nm.toArray⟩,.int .i64 op,.int .i64 k,.int .i64 n,.int .i64 d,.int .i64 u,.slice none 0 0,.string ⟨#[]⟩,.string ⟨#[]⟩,.bool false];have H4:=Lib.hid (H3.below hb8 H3.lt);have HB4:=bfH HB3 hb8;clear H3 HB3 hb8;generalize wc.heap.size=g8 at *;generalize World.alloc wc _=wd at *;obtain⟨cv0,fcv0,cv1,fcv1,cv2,fcv2,cv3,fcv3,cv4,fcv4,cv5,fcv5,cv6,fcv6,cv7,fcv7,cv8,fcv8,cv9,fcv9,cv10,fcv10,cv11,fcv11,cv12,fcv12,cv13,fcv13,lcv⟩:=Blk.many14 (h8);clear h8;obtain⟨c0,fc0,c1,fc1,c2,fc2,c3,fc3,c4,fc4,c5,fc5,c6,fc6,c7,fc7,c8,fc8,c9,fc9,c10,fc10,c11,fc11,c12,fc12,c13,fc13,lc⟩:=Blk.z14 (H4.out);go_wp2_with fail
 refine bodyPost_ret (v:=.agg #[.int .i64 4,.slice none 0 0,.int .i64 4,.int .i64 0,.string ⟨nm.toArray⟩,.int .i64 op,.int .i64 k,.int .i64 n,.int .i64 d,.int .i64 u,.slice none 0 0,.string ⟨#[]⟩,.string ⟨#[]⟩,.bool false]) ?_ rfl ?_
 · exact ret_cd Tryz.results123 rfl (H4.out.put14 _ _ _ _ _ _ _ _ _ _ _ _ _ _) rfl
 · exact⟨rfl,below_p14 HB4.out (by rw[HG.out];exact Nat.le_refl _) _ _ _ _ _ _ _ _ _ _ _ _ _ _⟩
set_option maxRecDepth 20000 in
set_option maxHeartbeats 8000000 in
theorem reada_any {nm:List UInt8} {op k n d u:Int} (gR:Nat) {koa:Option Addr} {K kcap b o cap:Nat} (w:World) (hp:ParIn w koa K kcap b o cap) (hT:∀ wx,Bel w wx→Calls Tryz.prog 166 #[.pointer (some ⟨gR,0,none⟩),.agg #[.int .i64 21,.string ⟨#[]⟩,.int .i64 0,.int .i64 0,.bool false,.bool false,.slice koa K kcap]] wx fun e w'=>e=.returned (.tuple #[.agg #[.int .i64 4,.slice none 0 0,.int .i64 4,.int .i64 0,.string ⟨nm.toArray⟩,.int .i64 op,.int .i64 k,.int .i64 n,.int .i64 d,.int .i64 u,.slice none 0 0,.string ⟨#[]⟩,.string ⟨#[]⟩,.bool false],.bool true])∧Below wx.heap.size wx w') :
  Calls Tryz.prog 95 #[.pointer (some ⟨gR,0,none⟩),.slice (some ⟨b,o,none⟩) 1 cap] w fun e w'=>e=.returned (.agg #[.int .i64 4,.slice none 0 0,.int .i64 4,.int .i64 0,.string ⟨nm.toArray⟩,.int .i64 op,.int .i64 k,.int .i64 n,.int .i64 d,.int .i64 u,.slice none 0 0,.string ⟨#[]⟩,.string ⟨#[]⟩,.bool false])∧Below w.heap.size w w':=by
 obtain⟨h1,hb1⟩:=box_new w 35 zero14;have H1:=Lib.hid h1;have HB1:=Lib.hid hb1;have HW:=Lib.hid (wordp_any _ (hp.below hb1));have HP:=Lib.hid (parta_any gR _ (hp.below hb1) fun wx hx=>hT wx ⟨hb1.trans (hx.out.mono hb1.size)⟩);obtain⟨g,hg⟩:∃ g,w.heap.size=g:=⟨_,rfl⟩;rw[hg]at H1;have HG:=Lib.hid hg;clear h1 hb1 hp hT;simp only[zero14]at H1 HB1 HW HP
 go_enter Tryz.func95,Tryz.ntmps95
 go_upto_region 1 with fail
 try simp only[hg]
 generalize World.alloc w _=wa at *;clear hg;go_wp2_with fail
 ((with_reducible refine HW.out.mono ?_);rintro e wb ⟨rfl,rfl⟩)
 go_wp2_with fail
 ((with_reducible refine HP.out.mono ?_);rintro e wc ⟨rfl,hbc⟩)
 have H3:=H1.out.below hbc H1.out.lt;have HB3:=bfH HB1 hbc;clear H1 HB1 hbc HW HP
 go_upto_region 7 with fail
 obtain⟨h8,hb8⟩:=box_new wc 35 #[.int .i64 4,.slice none 0 0,.int .i64 4,.int .i64 0,.string ⟨nm.toArray⟩,.int .i64 op,.int .i64 k,.int .i64 n,.int .i64 d,.int .i64 u,.slice none 0 0,.string ⟨#[]⟩,.string ⟨#[]⟩,.bool false];have H4:=Lib.hid (H3.below hb8 H3.lt);have HB4:=bfH HB3 hb8;clear H3 HB3 hb8;generalize wc.heap.size=g8 at *;generalize World.alloc wc _=wd at *;obtain⟨cv0,fcv0,cv1,fcv1,cv2,fcv2,cv3,fcv3,cv4,fcv4,cv5,fcv5,cv6,fcv6,cv7,fcv7,cv8,fcv8,cv9,fcv9,cv10,fcv10,cv11,fcv11,cv12,fcv12,cv13,fcv13,lcv⟩:=Blk.many14 (h8);clear h8;obtain⟨c0,fc0,c1,fc1,c2,fc2,c3,fc3,c4,fc4,c5,fc5,c6,fc6,c7,fc7,c8,fc8,c9,fc9,c10,fc10,c11,fc11,c12,fc12,c13,fc13,lc⟩:=Blk.z14 (H4.out);go_wp2_with fail
 refine bodyPost_ret (v:=.agg #[.int .i64 4,.slice none 0 0,.int .i64 4,.int .i64 0,.string ⟨nm.toArray⟩,.int .i64 op,.int .i64 k,.int .i64 n,.int .i64 d,.int .i64 u,.slice none 0 0,.string ⟨#[]⟩,.string ⟨#[]⟩,.bool false]) ?_ rfl ?_
 · exact ret_cd Tryz.results95 rfl (H4.out.put14 _ _ _ _ _ _ _ _ _ _ _ _ _ _) rfl
 · exact⟨rfl,below_p14 HB4.out (by rw[HG.out];exact Nat.le_refl _) _ _ _ _ _ _ _ _ _ _ _ _ _ _⟩
theorem results_cell_cell {fn:Func} {p u:Tmp} {ty ty2:TypeId} (h:fn.results=#[.cell p ty,.cell u ty2]) (tmps:Array Value) (P:Program) (w:World) :
  (results fn tmps).run P w =
    ((asAddr (tmps.getD p undef)).run P w).andThen fun a w₁=>((loadVar ty a).run P w₁).andThen fun v w₂=>((asAddr (tmps.getD u undef)).run P w₂).andThen fun b w₃=>((loadVar ty2 b).run P w₃).andThen fun v2 w₄=>.ok (.tuple #[v,v2]) w₄:=by
 simp only[results,h];simp[Sem.run_bind,Result.andThen]
theorem load_errno {w:World} {p:Addr} {n:Int} (h:w.cell? p=some (.int .i64 n)):(loadVar 58 p).run Tryz.prog w=.ok (.int .i64 n) w:=by
 simp[go_sem,loadVar,h]
theorem ret_cdcd {fn:Func} {p u:Tmp} {tmps:Array Value} {w:World} {g ge:Nat} {t:TypeId} {cs:Array Value} {n:Int} (hr:fn.results=#[.cell p 35,.cell u 58]) (hp:tmps.getD p undef=.pointer (some ⟨g,0,none⟩)) (hu:tmps.getD u undef=.pointer (some ⟨ge,0,none⟩)) (h:Blk w g t cs) (hs:cs.size=14) (he:w.cell? ⟨ge,0,none⟩=some (.int .i64 n)):(results fn tmps).run Tryz.prog w=.ok (.tuple #[.agg cs,.int .i64 n]) w:=by
 rw[results_cell_cell hr,hp,hu];simp only[asAddr,Sem.run_pure,Result.andThen_ok,load_cd h hs,load_errno he]
theorem trap_idle (gc ge:Nat) (w:World):CallsD Tryz.prog 94 #[.pointer (some ⟨gc,0,none⟩),.pointer (some ⟨ge,0,none⟩)] .returning w fun e u' w' =>
  e=.returned (.tuple #[])∧u'=.returning∧w'=w:=by
 refine callsD_of_wpS Tryz.func94 rfl fun c₀ cs hu=>?_
 simp only[Tryz.ntmps94,List.size_toArray,List.length_cons,List.length_nil,Nat.reduceAdd,Nat.reduceSub,Array.replicate_succ,Array.replicate_zero,List.push_toArray,List.append_toArray,List.nil_append,List.cons_append]
 apply wpS_seq
 apply wpS_region
 simp[wpOpsS,go_sem,recoverD,hu,Exit.thenS];refine wpS_of_wp ?_;go_wp2_with fail
 cases c₀
 simp_all [bodyPostS,results,Tryz.results94]
theorem ParIn.add {w w3:World} {koa:Option Addr} {K kcap b o cap gg cap3 B:Nat} (hp:ParIn w koa K kcap b o cap) (hb:Below w.heap.size w w3) (ho:w3.ownsRow B 104 7 (.slice (some ⟨gg,0,none⟩) 1 cap3) 1 [.int .i64 21,.string ⟨#[]⟩,.int .i64 0,.int .i64 0,.bool false,.bool false,.slice koa K kcap]):ParIn w3 koa K kcap gg 0 cap3:=by
 obtain⟨h,kb,ko,kids,rfl,hs⟩:=hp.below hb;obtain⟨voa,vcap,vg,hv,hsl,-⟩:=sl_of_own ho
 injection hv with e1 _ e3
 subst e1 e3;have e:=(hsl.lies Nat.zero_lt_one).1
 injection e with e
 injection e with e _ _
 subst e;exact⟨h,kb,ko,kids,rfl,hs.small,hsl,hs.each⟩
def SpIn (w:World) (koa:Option Addr) (K kcap:Nat) (b o cap:Nat):Prop:=∃ h kb ko kids toa tb tf tcap tk,kids.length=K∧VsIn w h (some ⟨b,o,none⟩) cap b o [.mk ⟨13,[],(0,0),false,false⟩ toa tb tf tcap tk,.mk tpar koa kb ko kcap kids]
theorem SpIn.below {w w':World} {koa:Option Addr} {K kcap b o cap:Nat} (h:SpIn w koa K kcap b o cap) (hb:Below w.heap.size w w'):SpIn w' koa K kcap b o cap:=by
 obtain⟨hh,kb,ko,kids,toa,tb,tf,tcap,tk,hK,hs⟩:=h;exact⟨hh,kb,ko,kids,toa,tb,tf,tcap,tk,hK,hs.below hb⟩
theorem SpIn.row {w:World} {koa:Option Addr} {K kcap b o cap:Nat} (h:SpIn w koa K kcap b o cap):(∃ toa tn tcap,w.cell? ⟨b,o,none⟩=some (.int .i64 13)∧w.cell? ⟨b,o+1,none⟩=some (.string ⟨#[]⟩)∧w.cell? ⟨b,o+2,none⟩=some (.int .i64 0)∧w.cell? ⟨b,o+3,none⟩=some (.int .i64 0)∧w.cell? ⟨b,o+4,none⟩=some (.bool false)∧w.cell? ⟨b,o+5,none⟩=some (.bool false)∧w.cell? ⟨b,o+6,none⟩=some (.slice toa tn tcap)) ∧
  (w.cell? ⟨b,o+7,none⟩=some (.int .i64 21)∧w.cell? ⟨b,o+7+1,none⟩=some (.string ⟨#[]⟩)∧w.cell? ⟨b,o+7+2,none⟩=some (.int .i64 0)∧w.cell? ⟨b,o+7+3,none⟩=some (.int .i64 0)∧w.cell? ⟨b,o+7+4,none⟩=some (.bool false)∧w.cell? ⟨b,o+7+5,none⟩=some (.bool false)∧w.cell? ⟨b,o+7+6,none⟩=some (.slice koa K kcap))∧b<w.heap.size:=by
 obtain⟨hh,kb,ko,kids,toa,tb,tf,tcap,tk,rfl,hs⟩:=h;exact⟨⟨_,_,_,hs.row (i:=0) rfl⟩,hs.row (i:=1) rfl,(hs.sl.lies (by simp)).2⟩
theorem SpIn.add {w w3:World} {koa:Option Addr} {K kcap b o cap gg cap3 B:Nat} (hp:SpIn w koa K kcap b o cap) (hb:Below w.heap.size w w3) (ho:w3.ownsRow B 104 7 (.slice (some ⟨gg,0,none⟩) 1 cap3) 1 [.int .i64 21,.string ⟨#[]⟩,.int .i64 0,.int .i64 0,.bool false,.bool false,.slice koa K kcap]):ParIn w3 koa K kcap gg 0 cap3:=by
 obtain⟨h,kb,ko,kids,toa,tb,tf,tcap,tk,rfl,hs⟩:=hp.below hb;obtain⟨voa,vcap,vg,hv,hsl,-⟩:=sl_of_own ho
 injection hv with e1 _ e3
 subst e1 e3;have e:=(hsl.lies Nat.zero_lt_one).1
 injection e with e
 injection e with e _ _
 subst e
 exact ⟨h,kb,ko,kids,rfl,by simp,hsl,fun i x hi=>by
  cases i with
  | zero=>exact hs.each 1 x hi
  | succ i=>cases i<;>cases hi⟩
set_option maxRecDepth 20000 in
set_option maxHeartbeats 16000000 in
theorem wholec_any {nm:List UInt8} {op k n d u:Int} (gR:Nat) {koa:Option Addr} {K kcap b o cap:Nat} (w:World) (hp:SpIn w koa K kcap b o cap) (hT:∀ wx,Bel w wx→Calls Tryz.prog 166 #[.pointer (some ⟨gR,0,none⟩),.agg #[.int .i64 21,.string ⟨#[]⟩,.int .i64 0,.int .i64 0,.bool false,.bool false,.slice koa K kcap]] wx fun e w'=>e=.returned (.tuple #[.agg #[.int .i64 4,.slice none 0 0,.int .i64 4,.int .i64 0,.string ⟨nm.toArray⟩,.int .i64 op,.int .i64 k,.int .i64 n,.int .i64 d,.int .i64 u,.slice none 0 0,.string ⟨#[]⟩,.string ⟨#[]⟩,.bool false],.bool true])∧Below wx.heap.size wx w') :
  Calls Tryz.prog 68 #[.pointer (some ⟨gR,0,none⟩),.slice (some ⟨b,o,none⟩) 2 cap] w fun e w'=>e=.returned (.tuple #[.agg #[.int .i64 4,.slice none 0 0,.int .i64 4,.int .i64 0,.string ⟨nm.toArray⟩,.int .i64 op,.int .i64 k,.int .i64 n,.int .i64 d,.int .i64 u,.slice none 0 0,.string ⟨#[]⟩,.string ⟨#[]⟩,.bool false],.int .i64 0])∧Below w.heap.size w w':=by
 have h1:=(Blk.new w 35 zero14).old (.cells #[.int .i64 0] 58);have h2:=Blk.new2 w (.cells zero14 35) 58 #[.int .i64 0];have hb:=(below_box w (.cells zero14 35)).alloc (by simp) (.cells #[.int .i64 0] 58);obtain⟨g,hg⟩:∃ g,w.heap.size=g:=⟨_,rfl⟩;have HP:=Lib.hid (hp.below hb);have HT:=Lib.hid (fun wx (hx:Bel _ wx)=>hT wx ⟨hb.trans (hx.out.mono hb.size)⟩);rw[hg]at h1 h2 hb;have H:=Lib.hid (And.intro h1 (And.intro h2 hb));have HG:=Lib.hid hg;clear h1 h2 hb hp hT;simp only[zero14]at H HP HT
 have hmf:∀ (fn:Fn) (first cap:Array Value) (w:World),(Instr.makeFunc fn first cap).run Tryz.prog w=.ok (.func fn first cap) w:=fun _ _ _ _=>rfl
 go_enter_defers Tryz.func68,Tryz.ntmps68
 go_upto_region 3 with fail
 try simp only[hg]
 clear hg;generalize World.alloc (World.alloc w _) _=wa at *;have lcg:=H.out.1.lt;have lce:=H.out.2.1.lt;go_wp2_with fail
 go_loopg [6,12] 2 (fun q s6 s12 wr=>(s12=.int .i64 0∧s6=.slice none 0 0∧wr=wa∧2≤q)∨(s12=.int .i64 1∧s6=.slice none 0 0∧Hid (Below wa.heap.size wa wr)∧1≤q)∨∃ gg cap3,s12=.int .i64 2∧s6=.slice (some ⟨gg,0,none⟩) 1 cap3∧Hid (Below wa.heap.size wa wr)∧Hid (ParIn wr koa K kcap gg 0 cap3))
 case atStart=>exact .inl ⟨rfl,rfl,rfl,Nat.le_refl _⟩
 case round =>
  rcases hrel with ⟨rfl,rfl,rfl,hq⟩ | ⟨rfl,rfl,hb,hq⟩ | ⟨gg,cap3,rfl,rfl,hb,hpn⟩
  · obtain⟨⟨toa,tn,tcap,f0,f1,f2,f3,f4,f5,f6⟩,-,hlb⟩:=HP.out.row
    go_upto_region 6 with fail
    obtain⟨h8,hb8⟩:=box_new wr 104 #[.int .i64 13,.string ⟨#[]⟩,.int .i64 0,.int .i64 0,.bool false,.bool false,.slice toa tn tcap];have HB2:=Lib.hid hb8;clear f0 f1 f2 f3 f4 f5 f6 hb8;generalize wr.heap.size=g8 at *;generalize World.alloc wr _=wv at *;obtain⟨cv0,fcv0,cv1,fcv1,cv2,fcv2,cv3,fcv3,cv4,fcv4,cv5,fcv5,cv6,fcv6,lcv⟩:=Blk.seven (h8);clear h8;go_wp2_with fail
    go_roundg 1
    case measure=>omega
    case rel=>exact .inr (.inl ⟨rfl,rfl,HB2,Nat.le_refl _⟩)
  · have HPr:=Lib.hid (HP.out.below hb.out);have HSZ:=Lib.hid hb.out.size;obtain⟨-,⟨f0,f1,f2,f3,f4,f5,f6⟩,hlb⟩:=HPr.out.row
    go_upto_region 6 with fail
    obtain⟨h8,hb8⟩:=box_new wr 104 #[.int .i64 21,.string ⟨#[]⟩,.int .i64 0,.int .i64 0,.bool false,.bool false,.slice koa K kcap];have HB2:=Lib.hid hb8;have hl8:=h8.lt;have HPA:=Lib.hid (fun(w3:World) (gg cap3:Nat) (hb:Below wr.heap.size wr w3) (ho:w3.ownsRow wr.heap.size 104 7 (.slice (some ⟨gg,0,none⟩) 1 cap3) 1 [.int .i64 21,.string ⟨#[]⟩,.int .i64 0,.int .i64 0,.bool false,.bool false,.slice koa K kcap])=>HPr.out.add hb ho);have HN:=Lib.hid (World.ownsRow_nil (wr.alloc (.cells #[.int .i64 21,.string ⟨#[]⟩,.int .i64 0,.int .i64 0,.bool false,.bool false,.slice koa K kcap] 104)) wr.heap.size 104 7);clear f0 f1 f2 f3 f4 f5 f6 hb8;generalize wr.heap.size=g8 at *;generalize World.alloc wr _=wv at *;obtain⟨cv0,fcv0,cv1,fcv1,cv2,fcv2,cv3,fcv3,cv4,fcv4,cv5,fcv5,cv6,fcv6,lcv⟩:=Blk.seven (h8);clear h8
    go_wp2_with (at_builtin;refine wpList_add elVal rfl _ _ rfl rfl (HN.out.alloc _) (by simp;omega) (Blk.new wv _ _) 1 rfl rfl (by simp[Value.oneCell']) (by omega) (by omega) ?_;intro gg cap3 w3 ho3 hg3 hat hvb;have H3:=Lib.hid (And.intro ho3 hg3);clear ho3 hg3 hat hvb)
    go_roundg 0
    case measure=>omega
    case rel =>
     have hb3:Below g8 wr w3:=Below.grown HB2.out (grownBy_trans (World.grownBy_alloc wv _ _) H3.out.2) (Nat.le_of_lt hl8) (fun k e=>by cases e);exact .inr (.inr ⟨gg,cap3,rfl,rfl,Lib.hid (hb.out.trans (hb3.mono HSZ.out)),Lib.hid (HPA.out w3 gg cap3 hb3 H3.out.1)⟩)
  · obtain⟨⟨f0,f1,f2,f3,f4,f5,f6⟩,hlb⟩:=hpn.out.row;have HRD:=Lib.hid (reada_any gR wr hpn.out fun wx hx=>HT.out wx ⟨hb.out.trans (hx.out.mono hb.out.size)⟩);have h1:=H.out.1.below hb.out lcg;have h2:=H.out.2.1.below hb.out lce;have HB2:=Lib.hid (H.out.2.2.trans (hb.out.mono (Nat.le_of_lt lcg)));have HZ:=Lib.hid (And.intro h1 h2);clear f0 f1 f2 f3 f4 f5 f6 h1 h2 hb hpn;go_wp2_with fail
    ((with_reducible refine HRD.out.mono ?_);rintro e we ⟨rfl,hbe⟩)
    have h1:=HZ.out.1.below hbe HZ.out.1.lt;have h2:=HZ.out.2.below hbe HZ.out.2.lt;have HB3:=Lib.hid (HB2.out.trans (hbe.mono (by have:=HZ.out.1.lt;omega)));have HZ3:=Lib.hid (And.intro h1 h2);clear HRD HZ HB2 hbe h1;obtain⟨ca0,fca0,ca1,fca1,ca2,fca2,ca3,fca3,ca4,fca4,ca5,fca5,ca6,fca6,ca7,fca7,ca8,fca8,ca9,fca9,ca10,fca10,ca11,fca11,ca12,fca12,ca13,fca13,lca⟩:=Blk.z14 (HZ3.out.1);have ce0:we.cell? ⟨g+1,0,none⟩=some (.int .i64 0):=(h2).cell 0;have fce0:=(h2).frozen 0;have lce:=(h2).lt;clear h2;go_wp2_with fail;have hgz:=grownBy_puts [.int .i64 4,.slice none 0 0,.int .i64 4,.int .i64 0,.string ⟨nm.toArray⟩,.int .i64 op,.int .i64 k,.int .i64 n,.int .i64 d,.int .i64 u,.slice none 0 0,.string ⟨#[]⟩,.string ⟨#[]⟩,.bool false] we g 0;have hez:=HZ3.out.2.keeps hgz (fun e=>by have:=Option.some.inj e;omega);simp only[puts,Nat.zero_add,Nat.reduceAdd]at hgz hez
    have hz2:=(HZ3.out.1.put14 (.int .i64 4) (.slice none 0 0) (.int .i64 4) (.int .i64 0) (.string ⟨nm.toArray⟩) (.int .i64 op) (.int .i64 k) (.int .i64 n) (.int .i64 d) (.int .i64 u) (.slice none 0 0) (.string ⟨#[]⟩) (.string ⟨#[]⟩) (.bool false)).far (p:=⟨g+1,0,none⟩) (by simp) (.int .i64 0);have hez2:=hez.put 0 (.int .i64 0);have hbz2:=(below_p14 HB3.out (Nat.le_refl g) (.int .i64 4) (.slice none 0 0) (.int .i64 4) (.int .i64 0) (.string ⟨nm.toArray⟩) (.int .i64 op) (.int .i64 k) (.int .i64 n) (.int .i64 d) (.int .i64 u) (.slice none 0 0) (.string ⟨#[]⟩) (.string ⟨#[]⟩) (.bool false)).setCell (p:=⟨g+1,0,none⟩) (Nat.le_succ g) (.int .i64 0);refine leaves_cons (f:=94) (args:=#[.pointer (some ⟨g,0,none⟩),.pointer (some ⟨g+1,0,none⟩)]) (by simp) (by simp[go_sem]) ?_;refine(trap_idle g (g+1) _).mono ?_;rintro e u' wf ⟨rfl,rfl,rfl⟩
    refine⟨.tuple #[.agg #[.int .i64 4,.slice none 0 0,.int .i64 4,.int .i64 0,.string ⟨nm.toArray⟩,.int .i64 op,.int .i64 k,.int .i64 n,.int .i64 d,.int .i64 u,.slice none 0 0,.string ⟨#[]⟩,.string ⟨#[]⟩,.bool false],.int .i64 0],?_,rfl,by rw[HG.out];exact hbz2⟩;refine ret_cdcd Tryz.results68 ?_ ?_ hz2 rfl (hez2.cell 0)
    all_goals rfl
def AwIn (w:World) (b o cap:Nat):Prop:=∃ h koa kb ko kcap kids,VsIn w (h+1) (some ⟨b,o,none⟩) cap b o [.mk tpar koa kb ko kcap kids]∧kids.map Vl.c=awK.map lfT
theorem AwIn.below {w w':World} {b o cap:Nat} (h:AwIn w b o cap) (hb:Below w.heap.size w w'):AwIn w' b o cap:=by
 obtain⟨hh,koa,kb,ko,kcap,kids,hs,hk⟩:=h;exact⟨hh,koa,kb,ko,kcap,kids,hs.below hb,hk⟩
theorem tk_lit {k n d:Int} {s:List UInt8} {a b:Bool} (h:decide (-9223372036854775808≤k∧k≤9223372036854775807∧-9223372036854775808≤n∧n≤9223372036854775807∧-9223372036854775808≤d∧d≤9223372036854775807∧s.length≤9223372036854775807)=true):Tk64 ⟨k,s,(n,d),a,b⟩:=by
 obtain⟨h1,h2,h3,h4,h5,h6,h7⟩:=of_decide_eq_true h;exact⟨⟨h1,h2⟩,⟨h3,h4,h5,h6⟩,h7⟩
def CnIn (w:World) (b o cap:Nat):Prop:=∃ h koa kb ko kcap kids toa tb tf tcap tk,VsIn w (h+1) (some ⟨b,o,none⟩) cap b o [.mk csp toa tb tf tcap tk,.mk tpar koa kb ko kcap kids]∧kids.map Vl.c=cnK.map lfT∧tk.map Vl.c=[]
theorem CnIn.below {w w':World} {b o cap:Nat} (h:CnIn w b o cap) (hb:Below w.heap.size w w'):CnIn w' b o cap:=by
 obtain⟨hh,koa,kb,ko,kcap,kids,toa,tb,tf,tcap,tk,hs,hk⟩:=h;exact⟨hh,koa,kb,ko,kcap,kids,toa,tb,tf,tcap,tk,hs.below hb,hk⟩
theorem cnK_shut:∀ t∈cnK,closeF t.kind=0:=by decide
theorem cnK_64:∀ t∈cnK,Tk64 t:=fun t ht=>by
 unfold cnK at ht;simp only[List.mem_cons,List.not_mem_nil,or_false]at ht
 rcases ht with rfl|rfl|rfl|rfl|rfl<;>exact tk_lit (by decide)
set_option maxRecDepth 20000 in
set_option maxHeartbeats 8000000 in
theorem parsec_any {b o cap:Nat} (w:World) (hA:CnIn w b o cap) :
  Calls Tryz.prog 49 #[.slice (some ⟨b,o,none⟩) 2 cap,.func (.func 50) #[] #[]] w fun e w'=>e=.returned (.tuple #[.agg #[.int .i64 4,.slice none 0 0,.int .i64 4,.int .i64 0,.string ⟨widthS.toArray⟩,.int .i64 5,.int .i64 1,.int .i64 10,.int .i64 1,.int .i64 2,.slice none 0 0,.string ⟨#[]⟩,.string ⟨#[]⟩,.bool false],.int .i64 0])∧Below w.heap.size w w':=by
 obtain⟨h1,hb1⟩:=box_new w 35 zero14;obtain⟨g,hg⟩:∃ g,w.heap.size=g:=⟨_,rfl⟩;obtain⟨hh,koa,kb,ko,kcap,kids,toa,tb,tf,tcap,tk,hs,hk,hk2⟩:=hA.below hb1;have hm:=mayvr_any (hh+1) _ _ cap b o _ hs;simp only[List.map_cons,List.map_nil,Vl.c_mk,hk,hk2,List.length_cons,List.length_nil,Nat.zero_add,Nat.reduceAdd]at hm;rw[show mayV 64 [.mk csp [],.mk tpar (cnK.map lfT)]=true from cn_may2]at hm;have HM:=Lib.hid hm;have HS:=Lib.hid (And.intro hs hk);rw[hg]at h1;have H1:=Lib.hid h1;have HB1:=Lib.hid hb1;have HG:=Lib.hid hg;clear h1 hb1 hA hm hs hk hk2;simp only[zero14]at H1 HB1 HS HM
 go_enter Tryz.func49,Tryz.ntmps49
 go_upto_region 1 with fail
 try simp only[hg]
 clear hg;generalize World.alloc w _=wa at *;go_wp2_with fail
 ((with_reducible refine HM.out.mono ?_);rintro e wb ⟨rfl,hbb⟩)
 have H2:=H1.out.below hbb H1.out.lt;have HB2:=bfH HB1 hbb;have hs2:=HS.out.1.below hbb
 go_upto_region 4 with fail
 obtain⟨hr,hb3⟩:=box_new wb 129 #[.func (.func 50) #[] #[]];have hs3:=hs2.below hb3
 have hkl:kids.length=5:=by have:=congrArg List.length HS.out.2;simpa[cnK] using this
 have HW:=Lib.hid (wholec_any (nm:=widthS) (op:=5) (k:=1) (n:=10) (d:=1) (u:=2) (koa:=koa) (kcap:=kcap) wb.heap.size (wb.alloc (.cells #[.func (.func 50) #[] #[]] 129)) ⟨_,kb,ko,kids,toa,tb,tf,tcap,tk,rfl,hs3⟩ fun wx hx =>
  toldc_any wb.heap.size hh 0 0 [] false false koa kcap kb ko kids cnK wx (hr.below hx.out hr.lt) ((hs3.each 1 _ rfl).kids.below hx.out) HS.out.2 cnK_shut cnK_64 (tk_lit (by decide)) (by omega) cn_feat)
 have H3:=Lib.hid (H2.below hb3 H2.lt);have HB3:=bfH HB2 hb3;clear H1 HB1 HB2 H2 hbb hs2 hs3 hkl hb3 HM HS hr;generalize wb.heap.size=gR at *;generalize World.alloc wb _=wc at *;go_wp2_with fail
 ((with_reducible refine HW.out.mono ?_);rintro e wd ⟨rfl,hbd⟩)
 have H4:=Lib.hid (H3.out.below hbd H3.out.lt);have HB4:=bfH HB3 hbd;clear HW H3 HB3 hbd;obtain⟨c0,fc0,c1,fc1,c2,fc2,c3,fc3,c4,fc4,c5,fc5,c6,fc6,c7,fc7,c8,fc8,c9,fc9,c10,fc10,c11,fc11,c12,fc12,c13,fc13,lc⟩:=Blk.z14 (H4.out);go_wp2_with fail;refine bodyPost_ret (v:=.tuple #[.agg #[.int .i64 4,.slice none 0 0,.int .i64 4,.int .i64 0,.string ⟨widthS.toArray⟩,.int .i64 5,.int .i64 1,.int .i64 10,.int .i64 1,.int .i64 2,.slice none 0 0,.string ⟨#[]⟩,.string ⟨#[]⟩,.bool false],.int .i64 0]) ?_ rfl ?_
 · exact ret_cd2 Tryz.results49 rfl rfl (H4.out.put14 _ _ _ _ _ _ _ _ _ _ _ _ _ _) rfl
 · exact⟨rfl,below_p14 HB4.out (by rw[HG.out];exact Nat.le_refl _) _ _ _ _ _ _ _ _ _ _ _ _ _ _⟩
set_option maxRecDepth 20000 in
set_option maxHeartbeats 4000000 in
theorem smallC_any (m:List UInt8) (w:World) (hm:m.length≤9223372036854775807) :
  Calls Tryz.prog 48 #[.string ⟨m.toArray⟩] w fun e w'=>e=.returned (.string ⟨(lowS m).toArray⟩)∧Below w.heap.size w w':=by
 obtain⟨cap,w1,hrun,hb1,hbl⟩:=bytes_made m w;obtain⟨N,hN⟩:∃ N,m.length=N:=⟨_,rfl⟩;rw[hN]at hrun hm;have HN:=Lib.hid hN;obtain⟨g,hg⟩:∃ g,w.heap.size=g:=⟨_,rfl⟩;rw[hg]at hrun hb1 hbl ⊢;have HB0:=Lib.hid hb1;have HBL:=Lib.hid hbl;clear hN hb1 hbl hg
 go_enter Tryz.func48,Tryz.ntmps48
 go_wp2_with fail
 go_loopg [10] N (fun q s10 wr=>∃ (i:Nat),s10=.int .i64 i∧Hid (Below g w wr)∧Hid (Bl wr g (lowG m i))∧i≤N∧N-i≤q)
 case atStart=>exact⟨0,rfl,HB0,HBL,Nat.zero_le _,by omega⟩
 case round =>
  clear HB0 HBL hrun;obtain⟨i,rfl,hb,hbl,hiN,hq⟩:=hrel
  by_cases hi:i<N
  · have gi:decide ((i:Int)<(N:Int))=true:=by simpa using hi
    have gin:decide (i<N)=true:=by simpa using hi
    have him:i<m.length:=by rw[HN.out];exact hi
    have hcell:=hbl.out.cell i _ (lowG_at him);have hfree:=hbl.out.free i (by rw[lowG_len];exact him);have hlt:=hbl.out.lt;have hst:=lowG_step him;obtain⟨c,hc⟩:∃ c,m[i]=c:=⟨_,rfl⟩;rw[hc]at hcell hst;have hc256:=UInt8.toNat_lt c;have hset:=hbl.out.set (i:=i) (by rw[lowG_len];exact him) (lowB c);rw[← hst]at hset
    by_cases hup:65≤c.toNat∧c.toNat≤90
    · rw[lowB_up hup]at hset;obtain⟨n,hn⟩:∃ n,c.toNat=n:=⟨_,rfl⟩;rw[hn]at hcell hset hup hc256
      have g1:decide ((65:Int)≤(n:Int))=true:=by simp;omega
      have e97:(n:Int)+97-65=(n:Int)+32:=by omega
      have g2:decide ((n:Int)≤(90:Int))=true:=by simp;omega
      have HS:=Lib.hid hset;clear hset hst hc hn hbl;go_wp2_with fail
      go_roundg (N-(i+1))
      case measure=>omega
      case rel=>exact⟨i+1,by go_num,Lib.hid (hb.out.setCell (by simp) _),Lib.hid (by have:=HS.out;simpa using this),hi,Nat.le_refl _⟩
    · have hsame:lowG m (i+1)=lowG m i:=by
       rw[hst,lowB_same hup]
       refine List.ext_getElem? fun j=>?_
       by_cases hj:i=j
       · subst hj;rw[List.getElem?_set_self (by rw[lowG_len];exact him),lowG_at him,hc]
       · rw[List.getElem?_set_ne hj]
      obtain⟨n,hn⟩:∃ n,c.toNat=n:=⟨_,rfl⟩;rw[hn]at hcell hup hc256
      have ways:decide ((65:Int)≤(n:Int))=false∨decide ((65:Int)≤(n:Int))=true∧decide ((n:Int)≤(90:Int))=false:=by
       by_cases h:65≤n
       · exact Or.inr ⟨by simp;omega,by simp;omega⟩
       · exact Or.inl (by simp;omega)
      have HBL2:=Lib.hid (show Bl wr g (lowG m (i+1)) by rw[hsame];exact hbl.out);clear hset hst hc hn hbl hsame
      rcases ways with g1 | ⟨g1,g2⟩
      all_goals
       go_wp2_with fail
       go_roundg (N-(i+1))
       case measure=>omega
       case rel=>exact⟨i+1,by go_num,hb,HBL2,hi,Nat.le_refl _⟩
  · obtain rfl:i=N:=by omega
    have gi:decide ((i:Int)<(i:Int))=false:=by simp
    have gin:decide (i<i)=false:=by simp
    have htx:=hbl.out.text cap;rw[lowG_len,HN.out]at htx
    have hall:lowG m i=lowS m:=by rw[← HN.out,lowG_all]
    rw[hall]at htx;clear hbl hall;go_wp2_with fail;go_ret;exact⟨rfl,hb.out⟩
def cnL:List Vt:=[.mk cbt [],.mk csp [],cnV]
theorem cnL_trim:trimV cnL=cnL:=by rfl
theorem isVs.cn {A:Nat→Prop} {h:Nat} {v:Value} {w:World} (hv:isVs A h cnL v w):∃ cap b o l,v=.slice (some ⟨b,o,none⟩) 3 cap∧l.length=3∧l.map Vl.c=cnL∧VsIn w h (some ⟨b,o,none⟩) cap b o l:=by
 obtain⟨oa,cap,b,o,l,rfl,hc,hs⟩:=hv
 have hl:l.length=3:=by rw[← List.length_map (f:=Vl.c),hc];rfl
 obtain⟨rfl,-⟩:=hs.here.sl.lies (by rw[hl];decide);exact⟨cap,b,o,l,by rw[hl],hl,hc,hs.here⟩
theorem cn_in {w:World} {h:Nat} {cap b o:Nat} {l:List Vl} (hs:VsIn w h (some ⟨b,o,none⟩) cap b o l) (hl:l.map Vl.c=cnL):l.length=3∧b<w.heap.size∧3≤cap∧cap≤9223372036854775807∧w.cell? ⟨b,o,none⟩=some (.int .i64 1)∧w.cell? ⟨b,o+1,none⟩=some (.string ⟨#[98]⟩) ∧
  ∃ o2 cap2,(∀ w,(Instr.slice 86 (.slice (some ⟨b,o,none⟩) 3 cap) (some (.int .i64 1)) none none).run Tryz.prog w=.ok (.slice (some ⟨b,o2,none⟩) 2 cap2) w)∧CnIn w b o2 cap2:=by
 have hlen:l.length=3:=by have:=congrArg List.length hl;rw[List.length_map]at this;exact this
 have hlt:=(hs.sl.lies (by rw[hlen];decide)).2;have hcap:=hs.sl.le;have hcm:=hs.sl.max;unfold maxLen at hcm;obtain⟨oa1,cap1,o1,hr1,hv1⟩:=slice_lo hs (i:=1) hlen (by decide)
 have hd1:(l.drop 1).map Vl.c=[.mk csp [],cnV]:=by rw[List.map_drop,hl];rfl
 have hl1:(l.drop 1).length=2:=by rw[List.length_drop,hlen]
 obtain⟨rfl,-⟩:=(hv1 w hs).sl.lies (by rw[hl1];decide)
 obtain ⟨x,y,z,rfl⟩:∃ x y z,l=[x,y,z]:=by
  match l,hlen with
  | [x,y,z],_=>exact⟨x,y,z,rfl⟩
 have hv:=hv1 w hs;obtain⟨⟨tk,tt,⟨tn,td⟩,ti,tid⟩,koa,kb,ko,kcap,kids⟩:=x;obtain⟨f0,f1,-,-,-,-,-⟩:=hs.row (i:=0) rfl;obtain⟨ty,yoa,yb,yo,ycap,yk⟩:=y;obtain⟨tz,zoa,zb,zo,zcap,zk⟩:=z;simp only[List.map_cons,List.map_nil,Vl.c_mk,cnL,cnV,List.cons.injEq,Vt.mk.injEq,and_true]at hl;obtain⟨⟨e1,-⟩,⟨e2,e3⟩,e4,e5⟩:=hl
 injection e1 with e1 e6
 subst e1 e6 e2 e4;obtain _ | h:=h
 · exact(hs.each 0 _ rfl).elim
 refine⟨rfl,hlt,by simpa using hcap,by omega,by simpa using f0,by simpa using f1,o1,cap1,fun w=>by rw[hr1 1 w rfl];rfl,h,zoa,zb,zo,zcap,zk,yoa,yb,yo,ycap,yk,hv,?_,e3⟩;rw[e5];rfl
theorem Blk.many15 {w:World} {g:Nat} {t:TypeId} {a0 a1 a2 a3 a4 a5 a6 a7 a8 a9 a10 a11 a12 a13 a14:Value} (h:Blk w g t #[a0,a1,a2,a3,a4,a5,a6,a7,a8,a9,a10,a11,a12,a13,a14]):w.cell? ⟨g,0,none⟩=some a0∧w.frozen? ⟨g,0,none⟩=false∧w.cell? ⟨g,1,none⟩=some a1∧w.frozen? ⟨g,1,none⟩=false∧w.cell? ⟨g,2,none⟩=some a2∧w.frozen? ⟨g,2,none⟩=false∧w.cell? ⟨g,3,none⟩=some a3∧w.frozen? ⟨g,3,none⟩=false∧w.cell? ⟨g,4,none⟩=some a4∧w.frozen? ⟨g,4,none⟩=false∧w.cell? ⟨g,5,none⟩=some a5∧w.frozen? ⟨g,5,none⟩=false∧w.cell? ⟨g,6,none⟩=some a6∧w.frozen? ⟨g,6,none⟩=false∧w.cell? ⟨g,7,none⟩=some a7∧w.frozen? ⟨g,7,none⟩=false∧w.cell? ⟨g,8,none⟩=some a8∧w.frozen? ⟨g,8,none⟩=false∧w.cell? ⟨g,9,none⟩=some a9∧w.frozen? ⟨g,9,none⟩=false∧w.cell? ⟨g,10,none⟩=some a10∧w.frozen? ⟨g,10,none⟩=false∧w.cell? ⟨g,11,none⟩=some a11∧w.frozen? ⟨g,11,none⟩=false∧w.cell? ⟨g,12,none⟩=some a12∧w.frozen? ⟨g,12,none⟩=false∧w.cell? ⟨g,13,none⟩=some a13∧w.frozen? ⟨g,13,none⟩=false∧w.cell? ⟨g,14,none⟩=some a14∧w.frozen? ⟨g,14,none⟩=false∧g<w.heap.size :=
 ⟨h.cell 0,h.frozen 0,h.cell 1,h.frozen 1,h.cell 2,h.frozen 2,h.cell 3,h.frozen 3,h.cell 4,h.frozen 4,h.cell 5,h.frozen 5,h.cell 6,h.frozen 6,h.cell 7,h.frozen 7,h.cell 8,h.frozen 8,h.cell 9,h.frozen 9,h.cell 10,h.frozen 10,h.cell 11,h.frozen 11,h.cell 12,h.frozen 12,h.cell 13,h.frozen 13,h.cell 14,h.frozen 14,h.lt⟩
theorem sizeAsked:(Tryz.prog.info? 37).map (·.size)=some 15:=by kernel_rfl
theorem load_asked {w:World} {g:Nat} {t:TypeId} {cs:Array Value} (h:Blk w g t cs) (hs:cs.size=15):(loadVar 37 ⟨g,0,none⟩).run Tryz.prog w=.ok (.agg cs) w :=
 run_loadVar_row w g t _ cs (0,0) _ h Tryz.underlying37 rfl (by rw[hs];exact sizeAsked)
theorem ret_asked {fn:Func} {p u:Tmp} {tmps:Array Value} {w:World} {g:Nat} {t:TypeId} {cs:Array Value} {x:Value} (hr:fn.results=#[.cell p 37,.tmp u]) (hp:tmps.getD p undef=.pointer (some ⟨g,0,none⟩)) (hu:tmps.getD u undef=x) (h:Blk w g t cs) (hs:cs.size=15):(results fn tmps).run Tryz.prog w=.ok (.tuple #[.agg cs,x]) w:=by
 rw[results_cell_tmp hr,hp,hu];simp only[asAddr,Sem.run_pure,Result.andThen_ok,load_asked h hs]
def zero15:Array Value:=#[.string ⟨#[]⟩,.int .i64 0,.slice none 0 0,.int .i64 0,.int .i64 0,.string ⟨#[]⟩,.int .i64 0,.int .i64 0,.int .i64 0,.int .i64 0,.int .i64 0,.slice none 0 0,.string ⟨#[]⟩,.string ⟨#[]⟩,.bool false]
set_option maxRecDepth 20000 in
set_option maxHeartbeats 16000000 in
theorem parse19_any (h:Nat) (l:List Vl) (cap b o:Nat) (w:World) (hs:VsIn w h (some ⟨b,o,none⟩) cap b o l) (hl:l.map Vl.c=cnL) :
  Calls Tryz.prog 30 #[.slice (some ⟨b,o,none⟩) 3 cap] w fun e w'=>e=.returned (.tuple #[.agg #[.string ⟨#[98]⟩,.int .i64 4,.slice none 0 0,.int .i64 4,.int .i64 0,.string ⟨widthS.toArray⟩,.int .i64 5,.int .i64 1,.int .i64 10,.int .i64 1,.int .i64 2,.slice none 0 0,.string ⟨#[]⟩,.string ⟨#[]⟩,.bool false],.int .i64 0])∧Below w.heap.size w w':=by
 have hlen:l.length=3:=by rw[← List.length_map (f:=Vl.c),hl];rfl
 obtain⟨h1,hb1⟩:=box_new w 37 zero15;obtain⟨g,hg⟩:∃ g,w.heap.size=g:=⟨_,rfl⟩;have hm:=mayvr_any h l (some ⟨b,o,none⟩) cap b o _ (hs.below hb1);rw[hl,hlen,show mayV 64 cnL=true from cn_may]at hm;have HM:=Lib.hid hm;have HS:=Lib.hid (hs.below hb1);rw[hg]at h1;have H1:=Lib.hid h1;have HB1:=Lib.hid hb1;have HG:=Lib.hid hg;have HL:=Lib.hid (And.intro hl hlen);clear h1 hb1 hs hl hm hlen;simp only[zero15]at H1 HB1 HM HS
 go_enter Tryz.func30,Tryz.ntmps30
 go_upto_region 1 with fail
 try simp only[hg]
 clear hg;generalize World.alloc w _=wa at *;go_wp2_with fail
 ((with_reducible refine HM.out.mono ?_);rintro e wb ⟨rfl,hbb⟩)
 have ht:=rtrim_any h l (some ⟨b,o,none⟩) cap b o wb (HS.out.below hbb);rw[HL.out.1,HL.out.2,cnL_trim]at ht;have HT:=Lib.hid ht;have H2:=Lib.hid (H1.out.below hbb H1.out.lt);have HB2:=bfH HB1 hbb;clear HM HS HL H1 HB1 hbb ht;go_wp2_with fail
 ((with_reducible refine HT.out.mono ?_);rintro e wc ⟨⟨v,rfl,hv⟩,hbc⟩)
 obtain⟨cap2,b2,o2,l2,rfl,hl2,hc2,hs2⟩:=hv.cn;have H3:=H2.out.below hbc H2.out.lt;have HB3:=bfH HB2 hbc;clear HT H2 HB2 hbc hv hl2
 go_upto_region 5 with fail
 obtain⟨h4,hb4⟩:=box_new wc 37 zero15;obtain⟨-,hlb,hcl,hcm,f0,f1,o3,cap3,hr3,hCI⟩:=cn_in hs2 hc2;have hlb0:b2<wc.heap.size:=hlb;have f0':=(hb4.cell (p:=⟨b2,o2,none⟩) hlb).trans f0;have f1':=(hb4.cell (p:=⟨b2,o2+1,none⟩) hlb).trans f1;have hlb':=Nat.lt_of_lt_of_le hlb hb4.size;have H4:=Lib.hid (And.intro (H3.below hb4 H3.lt) h4);have HB4:=bfH HB3 hb4;have hne4:=H3.lt;have HCI:=Lib.hid (fun wx (hb:Below wc.heap.size wc wx)=>hCI.below hb);have HC4:=Lib.hid hb4;have HSW:=Lib.hid HB3.out.size;clear H3 HB3 hb4 h4 hs2 hc2 hCI f0 f1 hlb;simp only[zero15]at H4 HB4 HC4 f0' f1' hlb';generalize wc.heap.size=g4 at *;generalize World.alloc wc _=wd at *;have HSM:=Lib.hid (fun w=>smallC_any [98] w (by decide));rw[show lowS [98]=[98] by decide]at HSM;go_wp2_with fail
 ((with_reducible refine(HSM.out _).mono ?_);rintro e we ⟨rfl,hbe⟩)
 have H5:=Lib.hid (And.intro (H4.out.1.below hbe H4.out.1.lt) (H4.out.2.below hbe H4.out.2.lt));have HB5:=bfH HB4 hbe;have HC5:=Lib.hid (HC4.out.trans (hbe.mono (Nat.le_of_lt H4.out.2.lt)));have f0:=(hbe.cell (p:=⟨b2,o2,none⟩) hlb').trans f0';have f1:=(hbe.cell (p:=⟨b2,o2+1,none⟩) hlb').trans f1';have hlb:=Nat.lt_of_lt_of_le hlb' hbe.size;clear f0' f1' hlb' H4 HB4 HC4 HSM hbe;obtain⟨e0,fe0,e1,fe1,e2,fe2,e3,fe3,e4,fe4,e5,fe5,e6,fe6,e7,fe7,e8,fe8,e9,fe9,e10,fe10,e11,fe11,e12,fe12,e13,fe13,e14,fe14,le⟩:=H5.out.2.many15
 go_upto_region 7 with fail
 have hnb:¬ b2=g4:=by omega
 have hnb2:¬ g4=b2:=by omega
 refine wp_region_held_drew (S:=(fun wx=>wx.cell? ⟨b2,o2,none⟩=some (.int .i64 1)∧wx.cell? ⟨b2,o2+1,none⟩=some (.string ⟨#[98]⟩))) (by kernel_rfl) (by (try dsimp only);go_keep) (fun hHeld=>?_);refine wpAnyH_take (i:=0) (v:=?hvv0_1) rfl (by kernel_rfl) (by kernel_rfl) (by kernel_rfl) (fun _ _ _ h=>h) (Or.inl ⟨by rfl,?hhy0_1⟩) (by assumption) ?_
 case hhy0_1=>(intro w hSw;(try dsimp only at hSw);go_simp;try with_reducible rfl)
 change wpAnyH _ _ _ _ _ _ _ (Act.put _ (some 30) _) _
 try simp only[Act.put,List.setIfInBounds_toArray,List.set_cons_zero,List.set_cons_succ]
 refine wpAnyH_take (i:=1) (v:=?hvv1_2) rfl (by kernel_rfl) (by kernel_rfl) (by kernel_rfl) (fun _ _ _ h=>h) (Or.inl ⟨by rfl,?hhy1_2⟩) (by assumption) ?_
 case hhy1_2=>(intro w hSw;(try dsimp only at hSw);go_simp;try with_reducible rfl)
 change wpAnyH _ _ _ _ _ _ _ (Act.put _ (some 31) _) _
 try simp only[Act.put,List.setIfInBounds_toArray,List.set_cons_zero,List.set_cons_succ]
 refine wpAnyH_take (i:=2) (v:=?hvv2_3) rfl (by kernel_rfl) (by kernel_rfl) (by kernel_rfl) (fun _ _ _ h=>h) (Or.inl ⟨by rfl,?hhy2_3⟩) (by assumption) ?_
 case hhy2_3=>(intro w hSw;(try dsimp only at hSw);go_simp;try with_reducible rfl)
 change wpAnyH _ _ _ _ _ _ _ (Act.put _ (some 32) _) _
 try simp only[Act.put,List.setIfInBounds_toArray,List.set_cons_zero,List.set_cons_succ]
 refine wpAnyH_take (i:=3) (v:=?hvv3_4) rfl (by kernel_rfl) (by kernel_rfl) (by kernel_rfl) (fun _ _ _ h=>h) (Or.inl ⟨by rfl,?hhy3_4⟩) (by assumption) ?_
 case hhy3_4=>(intro w hSw;(try dsimp only at hSw);go_simp;try with_reducible rfl)
 change wpAnyH _ _ _ _ _ _ _ (Act.put _ (some 33) _) _
 try simp only[Act.put,List.setIfInBounds_toArray,List.set_cons_zero,List.set_cons_succ]
 refine wpAnyH_take (i:=4) (v:=?hvv4_5) rfl (by kernel_rfl) (by kernel_rfl) (by kernel_rfl) (fun _ _ _ h=>h) (Or.inl ⟨by rfl,?hhy4_5⟩) (by assumption) ?_
 case hhy4_5=>(intro w hSw;(try dsimp only at hSw);go_simp;try with_reducible rfl)
 change wpAnyH _ _ _ _ _ _ _ (Act.put _ (some 34) _) _
 try simp only[Act.put,List.setIfInBounds_toArray,List.set_cons_zero,List.set_cons_succ]
 refine wpAnyH_take (i:=5) (v:=?hvv5_6) rfl (by kernel_rfl) (by kernel_rfl) (by kernel_rfl) (fun _ _ _ h=>h) (Or.inl ⟨by rfl,?hhy5_6⟩) (by assumption) ?_
 case hhy5_6=>(intro w hSw;(try dsimp only at hSw);go_simp;try with_reducible rfl)
 change wpAnyH _ _ _ _ _ _ _ (Act.put _ (some 35) _) _
 try simp only[Act.put,List.setIfInBounds_toArray,List.set_cons_zero,List.set_cons_succ]
 refine wpAnyH_take (i:=6) (v:=?hvv6_7) rfl (by kernel_rfl) (by kernel_rfl) (by kernel_rfl) (fun _ _ _ h=>h) (Or.inl ⟨by rfl,?hhy6_7⟩) (by assumption) ?_
 case hhy6_7=>(intro w hSw;(try dsimp only at hSw);go_simp;try with_reducible rfl)
 change wpAnyH _ _ _ _ _ _ _ (Act.put _ (some 36) _) _
 try simp only[Act.put,List.setIfInBounds_toArray,List.set_cons_zero,List.set_cons_succ]
 refine wpAnyH_take (i:=7) (v:=?hvv7_8) rfl (by kernel_rfl) (by kernel_rfl) (by kernel_rfl) (fun _ _ _ h=>h) (Or.inl ⟨by rfl,?hhy7_8⟩) (by assumption) ?_
 case hhy7_8=>(intro w hSw;(try dsimp only at hSw);go_simp;try with_reducible rfl)
 change wpAnyH _ _ _ _ _ _ _ (Act.put _ (some 37) _) _
 try simp only[Act.put,List.setIfInBounds_toArray,List.set_cons_zero,List.set_cons_succ]
 refine wpAnyH_ready (rs:=[8]) (by kernel_rfl) (by simp) ?_;refine AllReadyH.cons rfl (fun K hK=>?_) AllReadyH.nil
 go_simp
 refine hK.out _ _ (by (try dsimp only);go_keep) (fun hHeld=>?_);clear hK K;refine wpAnyH_take (i:=9) (v:=?hvv9_9) rfl (by kernel_rfl) (by kernel_rfl) (by kernel_rfl) (fun _ _ _ h=>h) (Or.inl ⟨by rfl,?hhy9_9⟩) (by assumption) ?_
 case hhy9_9=>(intro w hSw;(try dsimp only at hSw);go_simp;try with_reducible rfl)
 change wpAnyH _ _ _ _ _ _ _ (Act.put _ (some 0) _) _
 try simp only[Act.put,List.setIfInBounds_toArray,List.set_cons_zero,List.set_cons_succ]
 refine wpAnyH_done (by kernel_rfl) ?_ _;have H7:=Lib.hid (show Blk (we.setCell ⟨g4,0,none⟩ (.string ⟨#[98]⟩)).drew g 37 #[.string ⟨#[]⟩,.int .i64 0,.slice none 0 0,.int .i64 0,.int .i64 0,.string ⟨#[]⟩,.int .i64 0,.int .i64 0,.int .i64 0,.int .i64 0,.int .i64 0,.slice none 0 0,.string ⟨#[]⟩,.string ⟨#[]⟩,.bool false]∧Blk (we.setCell ⟨g4,0,none⟩ (.string ⟨#[98]⟩)).drew g4 37 #[.string ⟨#[98]⟩,.int .i64 0,.slice none 0 0,.int .i64 0,.int .i64 0,.string ⟨#[]⟩,.int .i64 0,.int .i64 0,.int .i64 0,.int .i64 0,.int .i64 0,.slice none 0 0,.string ⟨#[]⟩,.string ⟨#[]⟩,.bool false] from ⟨H5.out.1.far (p:=⟨g4,0,none⟩) (by simp;omega) (.string ⟨#[98]⟩),(H5.out.2.put 0 (.string ⟨#[98]⟩)).to rfl⟩);have HB7:=Lib.hid (HB5.out.setCell (p:=⟨g4,0,none⟩) HSW.out (.string ⟨#[98]⟩)).drew;have HC7:=Lib.hid (HC5.out.setCell (p:=⟨g4,0,none⟩) (Nat.le_refl _) (.string ⟨#[98]⟩)).drew
 clear e0 fe0 e1 fe1 e2 fe2 e3 fe3 e4 fe4 e5 fe5 e6 fe6 e7 fe7 e8 fe8 e9 fe9 e10 fe10 e11 fe11 e12 fe12 e13 fe13 e14 fe14 le;clear H5 HB5 HC5 f0 f1 hlb hHeld;generalize World.drew (World.setCell we _ _)=wg at *
 go_upto_region 12 with fail
 have HP:=Lib.hid (parsec_any wg (HCI.out wg HC7.out));clear HCI HC7;go_wp2_with fail
 ((with_reducible refine HP.out.mono ?_);rintro e wh ⟨rfl,hbh⟩)
 have H8:=H7.out.1.below hbh H7.out.1.lt;have H9:=H7.out.2.below hbh H7.out.2.lt;have HB8:=bfH HB7 hbh;clear HP H7 HB7 hbh
 go_upto_region 13 with fail
 obtain⟨h5,hb5⟩:=box_new wh 35 #[.int .i64 4,.slice none 0 0,.int .i64 4,.int .i64 0,.string ⟨widthS.toArray⟩,.int .i64 5,.int .i64 1,.int .i64 10,.int .i64 1,.int .i64 2,.slice none 0 0,.string ⟨#[]⟩,.string ⟨#[]⟩,.bool false];have H10:=Lib.hid (And.intro (H8.below hb5 H8.lt) (H9.below hb5 H9.lt));have HB10:=bfH HB8 hb5;clear H8 H9 HB8 hb5;generalize wh.heap.size=g5 at *;generalize World.alloc wh _=wi at *;obtain⟨c0,fc0,c1,fc1,c2,fc2,c3,fc3,c4,fc4,c5,fc5,c6,fc6,c7,fc7,c8,fc8,c9,fc9,c10,fc10,c11,fc11,c12,fc12,c13,fc13,lc⟩:=Blk.many14 (h5);clear h5;obtain⟨e0,fe0,e1,fe1,e2,fe2,e3,fe3,e4,fe4,e5,fe5,e6,fe6,e7,fe7,e8,fe8,e9,fe9,e10,fe10,e11,fe11,e12,fe12,e13,fe13,e14,fe14,le⟩:=H10.out.2.many15
 go_upto_region 16 with fail
 have hz:=blk_puts [.int .i64 4,.slice none 0 0,.int .i64 4,.int .i64 0,.string ⟨widthS.toArray⟩,.int .i64 5,.int .i64 1,.int .i64 10,.int .i64 1,.int .i64 2,.slice none 0 0,.string ⟨#[]⟩,.string ⟨#[]⟩,.bool false] [.int .i64 0,.slice none 0 0,.int .i64 0,.int .i64 0,.string ⟨#[]⟩,.int .i64 0,.int .i64 0,.int .i64 0,.int .i64 0,.int .i64 0,.slice none 0 0,.string ⟨#[]⟩,.string ⟨#[]⟩,.bool false] wi 1 [.string ⟨#[98]⟩] H10.out.2 rfl rfl;have hgz:=grownBy_puts [.int .i64 4,.slice none 0 0,.int .i64 4,.int .i64 0,.string ⟨widthS.toArray⟩,.int .i64 5,.int .i64 1,.int .i64 10,.int .i64 1,.int .i64 2,.slice none 0 0,.string ⟨#[]⟩,.string ⟨#[]⟩,.bool false] wi g4 1;simp only[puts,Nat.reduceAdd]at hz hgz;have H11:=Lib.hid (And.intro (H10.out.1.keeps hgz (by simp;omega)) hz);have HB11:=Lib.hid (below_far HB10.out hgz (fun k e=>by obtain rfl:=Option.some.inj e;exact HSW.out))
 clear e0 fe0 e1 fe1 e2 fe2 e3 fe3 e4 fe4 e5 fe5 e6 fe6 e7 fe7 e8 fe8 e9 fe9 e10 fe10 e11 fe11 e12 fe12 e13 fe13 e14 fe14 le;clear hz hgz H10 HB10 c0 c1 c2 c3 c4 c5 c6 c7 c8 c9 c10 c11 c12 c13 fc0 fc1 fc2 fc3 fc4 fc5 fc6 fc7 fc8 fc9 fc10 fc11 fc12 fc13 lc;generalize World.setCell _ ⟨g4,14,none⟩ _=wj at *;obtain⟨e0,fe0,e1,fe1,e2,fe2,e3,fe3,e4,fe4,e5,fe5,e6,fe6,e7,fe7,e8,fe8,e9,fe9,e10,fe10,e11,fe11,e12,fe12,e13,fe13,e14,fe14,le⟩:=(show Blk wj g4 37 #[.string ⟨#[98]⟩,.int .i64 4,.slice none 0 0,.int .i64 4,.int .i64 0,.string ⟨widthS.toArray⟩,.int .i64 5,.int .i64 1,.int .i64 10,.int .i64 1,.int .i64 2,.slice none 0 0,.string ⟨#[]⟩,.string ⟨#[]⟩,.bool false] from H11.out.2).many15;obtain⟨z0,fz0,z1,fz1,z2,fz2,z3,fz3,z4,fz4,z5,fz5,z6,fz6,z7,fz7,z8,fz8,z9,fz9,z10,fz10,z11,fz11,z12,fz12,z13,fz13,z14,fz14,lz⟩:=H11.out.1.many15;go_wp2_with fail
 have hz:=blk_puts [.string ⟨#[98]⟩,.int .i64 4,.slice none 0 0,.int .i64 4,.int .i64 0,.string ⟨widthS.toArray⟩,.int .i64 5,.int .i64 1,.int .i64 10,.int .i64 1,.int .i64 2,.slice none 0 0,.string ⟨#[]⟩,.string ⟨#[]⟩,.bool false] [.string ⟨#[]⟩,.int .i64 0,.slice none 0 0,.int .i64 0,.int .i64 0,.string ⟨#[]⟩,.int .i64 0,.int .i64 0,.int .i64 0,.int .i64 0,.int .i64 0,.slice none 0 0,.string ⟨#[]⟩,.string ⟨#[]⟩,.bool false] wj 0 [] H11.out.1 rfl rfl;have hgz:=grownBy_puts [.string ⟨#[98]⟩,.int .i64 4,.slice none 0 0,.int .i64 4,.int .i64 0,.string ⟨widthS.toArray⟩,.int .i64 5,.int .i64 1,.int .i64 10,.int .i64 1,.int .i64 2,.slice none 0 0,.string ⟨#[]⟩,.string ⟨#[]⟩,.bool false] wj g 0;simp only[puts,Nat.zero_add,Nat.reduceAdd]at hz hgz
 refine bodyPost_ret (v:=.tuple #[.agg #[.string ⟨#[98]⟩,.int .i64 4,.slice none 0 0,.int .i64 4,.int .i64 0,.string ⟨widthS.toArray⟩,.int .i64 5,.int .i64 1,.int .i64 10,.int .i64 1,.int .i64 2,.slice none 0 0,.string ⟨#[]⟩,.string ⟨#[]⟩,.bool false],.int .i64 0]) ?_ rfl ⟨rfl,?_⟩
 · exact ret_asked Tryz.results30 rfl rfl hz rfl
 · exact below_far HB11.out hgz (fun k e=>by obtain rfl:=Option.some.inj e;exact Nat.le_of_eq HG.out)
end Go.Proofs.YtnbkbenkhkinoaaGreatDoor
