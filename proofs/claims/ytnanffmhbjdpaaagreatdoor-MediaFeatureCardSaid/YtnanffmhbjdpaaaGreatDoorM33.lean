/- Of my texts: AwD, AwE, AwF, AwG, AwH, AwI, AwJ. -/
import Derived.Test.YtnanffmhbjdpaaaGreatDoorM00
import Derived.Test.YtnanffmhbjdpaaaGreatDoorM18
import Derived.Test.YtnanffmhbjdpaaaGreatDoorM19
import Derived.Test.YtnanffmhbjdpaaaGreatDoorM21
import Derived.Test.YtnanffmhbjdpaaaGreatDoorM22
import Derived.Test.YtnanffmhbjdpaaaGreatDoorM26
import Derived.Test.YtnanffmhbjdpaaaGreatDoorM32
import Derived.Deep.RegionHeld3
import Derived.Defers
import Derived.Recover
import Derived.Tactics2
namespace Go.Proofs.YtnanffmhbjdpaaaGreatDoor
set_option maxHeartbeats 16000000
set_option maxRecDepth 20000
set_option linter.unusedVariables false
set_option linter.unusedSimpArgs false
open Go.RowKit
theorem Fa {a:ByteArray} {l:List UInt8} (h:a.data.toList=l):a=⟨l.toArray⟩:=by
 obtain⟨⟨a⟩⟩:=a;obtain rfl:a=l:=h;rfl
theorem Vj.lit {A:Nat→Prop} {nm:List UInt8} {op k n d u:Int} {v:Value} {w:World} (h:Vj A (Vx nm op (.mk k n d u [])) v w):∃ (oa:Option Addr) (cap:Nat) (ea:Option Addr) (ec:Nat),v=.agg #[.int .i64 4,.slice oa 0 cap,.int .i64 4,.int .i64 0,.string ⟨nm.toArray⟩,.int .i64 op,.int .i64 k,.int .i64 n,.int .i64 d,.int .i64 u,.slice ea 0 ec,.string ⟨#[]⟩,.string ⟨#[]⟩,.bool false]:=by
 obtain⟨⟨k',oa,b,o,cap,kids,⟨k2,t,n',op',⟨a0,a1,a2,a3,a4,a5,a6,a7,a8⟩,wd,vl,an⟩⟩,hh,rfl,hc,-⟩:=h;rw[Cd.t_mk]at hc;unfold Vx O3 lt0 Lf.t at hc;simp only[Ct.mk.injEq,Lt.mk.injEq,Ex.c_mk,Et.mk.injEq,List.map_eq_nil_iff]at hc;obtain⟨rfl,rfl,rfl,rfl,hn,rfl,⟨rfl,rfl,rfl,rfl,rfl⟩,hw,hv,rfl⟩:=hc;obtain rfl:=Fa hn;obtain rfl:=Fa hw;obtain rfl:=Fa hv;exact⟨_,_,_,_,rfl⟩
theorem Q2w (tk tn td:Int) (tt:List UInt8) (ti tid:Bool) (koa:Option Addr) (kb ko kcap:Nat) (kids:List Vl) (w:World) (hv:Uu w (1+1) (.mk ⟨tk,tt,(tn,td),ti,tid⟩ koa kb ko kcap kids)) {nm:List UInt8} {op k n d u:Int}
  (hF:Ch (Jx 1) (.mk ⟨tk,tt,(tn,td),ti,tid⟩ (kids.map Vl.c)) false=some (Vx nm op (.mk k n d u []))) :
  Calls Tryz.prog 109 #[.agg #[.int .i64 tk,.string ⟨tt.toArray⟩,.int .i64 tn,.int .i64 td,.bool ti,.bool tid,.slice koa kids.length kcap]] w fun e w'=>(∃ (oa:Option Addr) (cap:Nat) (ea:Option Addr) (ec:Nat),e=.returned (.tuple #[.agg #[.int .i64 4,.slice oa 0 cap,.int .i64 4,.int .i64 0,.string ⟨nm.toArray⟩,.int .i64 op,.int .i64 k,.int .i64 n,.int .i64 d,.int .i64 u,.slice ea 0 ec,.string ⟨#[]⟩,.string ⟨#[]⟩,.bool false],.bool true]))∧Below w.heap.size w w':=by
 obtain⟨K,hK⟩:∃ K,kids.length=K:=⟨_,rfl⟩;have h1:=(Ql.new w 28 #[.int .i64 tk,.string ⟨tt.toArray⟩,.int .i64 tn,.int .i64 td,.bool ti,.bool tid,.slice koa K kcap]).old (.cells Zl 36);have h2:=Ql.new2 w (.cells #[.int .i64 tk,.string ⟨tt.toArray⟩,.int .i64 tn,.int .i64 td,.bool ti,.bool tid,.slice koa K kcap] 28) 36 Zl;have hb:=(Q7 w (.cells #[.int .i64 tk,.string ⟨tt.toArray⟩,.int .i64 tn,.int .i64 td,.bool ti,.bool tid,.slice koa K kcap] 28)).alloc (by simp) (.cells Zl 36);have H:=Q1 (Q3 h1 (Q3 h2 hb));have HV:=Q1 (Q3 hv (Q3 hF hK));rw[hK];clear h1 h2 hb hv hF hK;simp only[Zl]at H
 go_enter Tryz.func109,Tryz.ntmps109
 go_upto_region 1 with fail
 obtain⟨g,hg⟩:∃ g,w.heap.size=g:=⟨_,rfl⟩;rw[hg]at H;simp only[hg];have HG:=Q1 hg;clear hg;generalize World.alloc (World.alloc w _) _=wa at *;obtain⟨ca0,fca0,ca1,fca1,ca2,fca2,ca3,fca3,ca4,fca4,ca5,fca5,ca6,fca6,lca⟩:=Ql.seven (H.out.1);have hft:=Cg 1 tk tn td tt ti tid koa kb ko kcap kids wa (HV.out.1.below 2 (by rw[HG.out];exact H.out.2.2)) false;rw[HV.out.2.1,HV.out.2.2]at hft;have HFT:=Q1 hft;clear hft;go_wp2_with fail
 ((with_reducible refine HFT.out.mono ?_);rintro e wb ⟨⟨v,rfl,hC⟩,hbb⟩)
 obtain⟨oa,cap,ea,ec,rfl⟩:=hC.lit;have H2:=Q1 (H.out.2.1.below hbb H.out.2.1.lt);have HB:=Q1 (H.out.2.2.trans (hbb.mono (by have:=H.out.2.1.lt;omega)));clear hbb hC HFT H ca0 ca1 ca2 ca3 ca4 ca5 ca6 fca0 fca1 fca2 fca3 fca4 fca5 fca6 lca;obtain⟨c0,fc0,c1,fc1,c2,fc2,c3,fc3,c4,fc4,c5,fc5,c6,fc6,c7,fc7,c8,fc8,c9,fc9,c10,fc10,c11,fc11,c12,fc12,c13,fc13,lc⟩:=Ql.z14 (H2.out);go_wp2_with fail;refine bodyPost_ret (v:=.tuple #[.agg #[.int .i64 4,.slice oa 0 cap,.int .i64 4,.int .i64 0,.string ⟨nm.toArray⟩,.int .i64 op,.int .i64 k,.int .i64 n,.int .i64 d,.int .i64 u,.slice ea 0 ec,.string ⟨#[]⟩,.string ⟨#[]⟩,.bool false],.bool true]) ?_ rfl ?_
 · exact Zq Tryz.results109 rfl rfl (H2.out.put14 _ _ _ _ _ _ _ _ _ _ _ _ _ _) rfl
 · exact⟨⟨_,_,_,_,rfl⟩,by rw[HG.out];exact Ul HB.out (Zk g) _ _ _ _ _ _ _ _ _ _ _ _ _ _⟩
theorem Q28 (f:Fn) (a c:Array Value) (w:World) (d:Nat):(Op.equalIn (d+1) 136 (.func f a c) .nilFunc).run Tryz.prog w=.ok false w:=by
 simp[Op.equalIn,run_underlying Tryz.underlying136]
@[go_sem] theorem Q86 (f:Fn) (a c:Array Value) (w:World):Sem.run Tryz.prog (binOp .eql 136 (.func f a c) .nilFunc) w=.ok (.bool false) w:=by
 have h2:(Op.equal 136 (.func f a c) .nilFunc).run Tryz.prog w=.ok false w:=Q28 f a c w 9999;simp only[binOp];simp[h2]
def Q24 (t:Tk):Vl:=.mk t none 0 0 0 []
theorem Q7d (Y:List Tk):(Y.map Q24).map Vl.c=Y.map lfT:=by
 rw[List.map_map]
 exact List.map_congr_left fun t _=>by show Vl.c (Q24 t)=lfT t;unfold Q24;rw[Vl.c_mk];rfl
theorem Ik (Y:List Tk):(Y.map Q24).flatMap U3=Y.flatMap Kg:=by
 rw[List.flatMap_map];rfl
theorem Q85 {Y:List Tk} {B N:Nat} {v:Value} {w:World} (h:w.ownsRow B 28 7 v N (Y.flatMap Kg)) (hN:Y.length=N) (hy:∀ t∈Y,Bo t) (hl:N≤1000000) (t:Tk) (ht:Bo t):∃ oa cap b,v=.slice oa N cap∧Uu w (1+1) (.mk t oa b 0 cap (Y.map Q24)):=by
 obtain⟨oa,cap,b,rfl,hsl,-⟩:=Zx h;refine⟨oa,cap,b,rfl,ht,by rw[Qj,hN];omega,by rw[Qj,hN,Ik];exact hsl,fun i x hi=>?_⟩;rw[Z5]at hi
 cases hx:Y[i]? with
 | none=>rw[hx]at hi;cases hi
 | some t2 =>
   rw[hx]at hi;obtain rfl:=Q8 hi;exact⟨hy t2 (List.mem_of_getElem? hx),Qs _,⟨rfl,Q6 _,Qs _,fun h=>absurd h (Nat.lt_irrefl 0),fun j v h=>by simp at h⟩,fun i x h=>by simp at h⟩
theorem Q11 (gR h:Nat) (tk tn td:Int) (tt:List UInt8) (ti tid:Bool) (oa:Option Addr) (cap bb o:Nat) (l:List Vl) (Y:List Tk) (w:World) (hR:Ql w gR 169 #[.func (.func 109) #[] #[]]) (hs:Zw w h oa cap bb o l) (hY:l.map Vl.c=Y.map lfT) (hk:∀ t∈Y,J2 t.kind=0) (hy:∀ t∈Y,Bo t) (ht:Bo ⟨tk,tt,(tn,td),ti,tid⟩) (hz:l.length≤1000000) {nm:List UInt8} {op k n d u:Int}
  (hF:Ch (Jx 1) (.mk ⟨tk,tt,(tn,td),ti,tid⟩ (Y.map lfT)) false=some (Vx nm op (.mk k n d u []))) :
  Calls Tryz.prog 226 #[.pointer (some ⟨gR,0,none⟩),.agg #[.int .i64 tk,.string ⟨tt.toArray⟩,.int .i64 tn,.int .i64 td,.bool ti,.bool tid,.slice oa l.length cap]] w fun e w'=>e=.returned (.tuple #[.agg #[.int .i64 4,.slice none 0 0,.int .i64 4,.int .i64 0,.string ⟨nm.toArray⟩,.int .i64 op,.int .i64 k,.int .i64 n,.int .i64 d,.int .i64 u,.slice none 0 0,.string ⟨#[]⟩,.string ⟨#[]⟩,.bool false],.bool true])∧Below w.heap.size w w':=by
 obtain⟨N,hN⟩:∃ N,l.length=N:=⟨_,rfl⟩
 have hYN:Y.length=N:=by rw[← hN,← Qj (f:=lfT),← hY,Qj]
 have h1:=(Ql.new w 28 #[.int .i64 tk,.string ⟨tt.toArray⟩,.int .i64 tn,.int .i64 td,.bool ti,.bool tid,.slice oa N cap]).old (.cells Zl 36);have h2:=Ql.new2 w (.cells #[.int .i64 tk,.string ⟨tt.toArray⟩,.int .i64 tn,.int .i64 td,.bool ti,.bool tid,.slice oa N cap] 28) 36 Zl;have hb:=(Q7 w (.cells #[.int .i64 tk,.string ⟨tt.toArray⟩,.int .i64 tn,.int .i64 td,.bool ti,.bool tid,.slice oa N cap] 28)).alloc (by simp) (.cells Zl 36);have hRg:=hR.lt;have H:=Q1 (Q3 h1 (Q3 h2 (Q3 hb (hR.below hb hRg))));have HS:=Q1 (Q3 (hs.below hb) (Q3 hY hN));have HY:=Q1 (Q3 hk (Q3 hy (Q3 ht (Q3 hF hYN))));rw[hN]at hz ⊢;clear h1 h2 hb hR hs hY hk hy ht hF hN hYN;simp only[Zl]at H HS
 go_enter Tryz.func226,Tryz.ntmps226
 go_upto_region 1 with fail
 obtain⟨g,hg⟩:∃ g,w.heap.size=g:=⟨_,rfl⟩;rw[hg]at H hRg;simp only[hg];have HG:=Q1 hg;clear hg;generalize World.alloc (World.alloc w _) _=wa at *;obtain⟨ca0,fca0,ca1,fca1,ca2,fca2,ca3,fca3,ca4,fca4,ca5,fca5,ca6,fca6,lca⟩:=Ql.seven (H.out.1);have cr0:wa.cell? ⟨gR,0,none⟩=some (.func (.func 109) #[] #[]):=H.out.2.2.2.cell 0;have lr:=H.out.2.2.2.lt
 go_upto_region 3 with fail
 have KEEP:=Q1 (show ∀ wx,Bel wa wx→wx.cell? ⟨gR,0,none⟩=some (.func (.func 109) #[] #[])∧wx.cell? ⟨g,0,none⟩=some (.int .i64 tk)∧wx.cell? ⟨g,1,none⟩=some (.string ⟨tt.toArray⟩)∧wx.cell? ⟨g,2,none⟩=some (.int .i64 tn)∧wx.cell? ⟨g,3,none⟩=some (.int .i64 td)∧wx.cell? ⟨g,4,none⟩=some (.bool ti)∧wx.cell? ⟨g,5,none⟩=some (.bool tid)∧wx.cell? ⟨g,6,none⟩=some (.slice oa N cap) from
  fun wx hx=>⟨(hx.out.cell (p:=⟨gR,0,none⟩) lr).trans cr0,(hx.out.cell (p:=⟨g,0,none⟩) lca).trans ca0,(hx.out.cell (p:=⟨g,1,none⟩) lca).trans ca1,(hx.out.cell (p:=⟨g,2,none⟩) lca).trans ca2,(hx.out.cell (p:=⟨g,3,none⟩) lca).trans ca3,(hx.out.cell (p:=⟨g,4,none⟩) lca).trans ca4,(hx.out.cell (p:=⟨g,5,none⟩) lca).trans ca5,(hx.out.cell (p:=⟨g,6,none⟩) lca).trans ca6⟩)
 have HFL:=Q1 (show ∀ wx,Bel wa wx→Calls Tryz.prog 240 #[.slice oa N cap] wx fun e w'=>∃ v,e=.returned v∧Below wx.heap.size wx w'∧Hid (∀ wy,Bel w' wy→Calls Tryz.prog 239 #[v] wy fun e w2=>∃ (a2:Option Addr) (c2:Nat),e=.returned (.slice a2 N c2)∧Below wy.heap.size wy w2∧Hid (∀ wz,Bel w2 wz→Calls Tryz.prog 109 #[.agg #[.int .i64 tk,.string ⟨tt.toArray⟩,.int .i64 tn,.int .i64 td,.bool ti,.bool tid,.slice a2 N c2]] wz fun e w3=>(∃ (qa:Option Addr) (qc:Nat) (ea:Option Addr) (ec:Nat),e=.returned (.tuple #[.agg #[.int .i64 4,.slice qa 0 qc,.int .i64 4,.int .i64 0,.string ⟨nm.toArray⟩,.int .i64 op,.int .i64 k,.int .i64 n,.int .i64 d,.int .i64 u,.slice ea 0 ec,.string ⟨#[]⟩,.string ⟨#[]⟩,.bool false],.bool true]))∧Below wz.heap.size wz w3)) from fun wx hx=>by
  obtain⟨hk,hy,ht,hF,hYN⟩:=HY.out;have:=I0 h l Y oa cap bb o wx (HS.out.1.below hx.out) HS.out.2.1 hk (by rw[HS.out.2.2];exact hz);rw[HS.out.2.2]at this;refine this.mono ?_;rintro e w' ⟨v,rfl,hr⟩;refine⟨v,rfl,hr.below,Q1 fun wy hy2=>?_⟩;obtain⟨oa1,cap1,g1,rfl,hsl,_⟩:=Zx (Jc hr.own hy2.out);have:=P2 Y oa1 cap1 g1 0 wy hsl hk (by rw[hYN];exact hz);refine this.mono ?_;rintro e w2 ⟨v2,rfl,ho2,hb2⟩;rw[hYN]at ho2;obtain⟨oa2,cap2,b2,rfl,hv⟩:=Q85 ho2 hYN hy hz ⟨tk,tt,(tn,td),ti,tid⟩ ht;refine⟨_,_,rfl,hb2,Q1 fun wz hz2=>?_⟩;have:=Q2w tk tn td tt ti tid oa2 b2 0 cap2 (Y.map Q24) wz (hv.below 2 hz2.out) (by rw[Q7d];exact hF);rw[Qj,hYN]at this
  exact this)
 clear cr0 ca0 fca0 ca1 fca1 ca2 fca2 ca3 fca3 ca4 fca4 ca5 fca5 ca6 fca6
 go_cut [6,7] from 14 to 28 (fun s6 s7 wx=>∃ (g6:Nat) (qa:Option Addr) (qc:Nat) (ea:Option Addr) (ec:Nat),s6=.pointer (some ⟨g6,0,none⟩)∧s7=.bool true∧wa.heap.size≤g6∧Hid (Below wa.heap.size wa wx)∧Hid (Ql wx g6 36 #[.int .i64 4,.slice qa 0 qc,.int .i64 4,.int .i64 0,.string ⟨nm.toArray⟩,.int .i64 op,.int .i64 k,.int .i64 n,.int .i64 d,.int .i64 u,.slice ea 0 ec,.string ⟨#[]⟩,.string ⟨#[]⟩,.bool false]))
 case first =>
  go_region_held3 (fun wx=>wx.cell? ⟨gR,0,none⟩=some (.func (.func 109) #[] #[])∧wx.cell? ⟨g,0,none⟩=some (.int .i64 tk)∧wx.cell? ⟨g,1,none⟩=some (.string ⟨tt.toArray⟩)∧wx.cell? ⟨g,2,none⟩=some (.int .i64 tn)∧wx.cell? ⟨g,3,none⟩=some (.int .i64 td)∧wx.cell? ⟨g,4,none⟩=some (.bool ti)∧wx.cell? ⟨g,5,none⟩=some (.bool tid)∧wx.cell? ⟨g,6,none⟩=some (.slice oa N cap)) (first|exact KEEP.out _ inferInstance|go_keep) (first | (go_at_call 240;(with_reducible refine(HFL.out _ inferInstance).mono ?_);rintro e w1 ⟨v1,rfl,hb1,HV1⟩;(first|obtain⟨m1,rfl⟩:=Qf ((Qk _).trans (hb1.mono (Zn _))) | obtain⟨m1,rfl⟩:=Qf hb1);clear hb1) | (go_at_call 239;(with_reducible refine(HV1.out _ inferInstance).mono ?_);rintro e w2 ⟨a2,c2,rfl,hb2,HN2⟩;(first|obtain⟨m2,rfl⟩:=Qf ((Qk _).trans (hb2.mono (Zn _))) | obtain⟨m2,rfl⟩:=Qf hb2);clear hb2) | (go_at_call 109;(with_reducible refine(HN2.out _ inferInstance).mono ?_);rintro e w3 ⟨⟨qa,qc,ea,ec,rfl⟩,hb3⟩;(first|obtain⟨m3,rfl⟩:=Qf ((Qk _).trans (hb3.mono (Zn _))) | obtain⟨m3,rfl⟩:=Qf hb3);clear hb3))
  all_goals go_wp2_with fail
  all_goals go_meet
  all_goals refine⟨_,qa,qc,ea,ec,rfl,rfl,(inferInstance:Up wa _).out,?_⟩
  · exact⟨Q1 (inferInstance:Bel wa _).out,Q1 (Ql.new _ _ _)⟩
  all_goals exact⟨Q1 (Ul (inferInstance:Bel wa _).out (inferInstance:Up wa _).out _ _ _ _ _ _ _ _ _ _ _ _ _ _),Q1 ((show Ql _ _ _ Zl from (inferInstance:Has _ _ 36 #[.int .i64 0,.slice none 0 0,.int .i64 0,.int .i64 0,.string ⟨#[]⟩,.int .i64 0,.int .i64 0,.int .i64 0,.int .i64 0,.int .i64 0,.slice none 0 0,.string ⟨#[]⟩,.string ⟨#[]⟩,.bool false]).out).put14 _ _ _ _ _ _ _ _ _ _ _ _ _ _)⟩
 case rest =>
  obtain⟨g6,qa,qc,ea,ec,rfl,rfl,hg6,hbx,hN6⟩:=hcut;have hb6:=H.out.2.2.1.trans (hbx.out.mono (Zg lca));have H26:=Q1 (H.out.2.1.below hbx.out H.out.2.1.lt);have H6:=Q1 hb6
  have hn6:g+1<g6:=by have:=H.out.2.1.lt;omega
  clear hb6 hbx HFL KEEP H HS HY;obtain⟨cn0,fcn0,cn1,fcn1,cn2,fcn2,cn3,fcn3,cn4,fcn4,cn5,fcn5,cn6,fcn6,cn7,fcn7,cn8,fcn8,cn9,fcn9,cn10,fcn10,cn11,fcn11,cn12,fcn12,cn13,fcn13,lcn⟩:=Ql.many14 (hN6.out);go_wp2_with fail
  ((with_reducible refine(A7 _ _ _ _ _ _ _ _ _ _ _ _ _ _ _ _ _).mono ?_);rintro e wd ⟨rfl,hbd⟩)
  have H27:=Q1 (H26.out.below hbd H26.out.lt);have H7:=Q1 (H6.out.trans (hbd.mono (by have:=H26.out.lt;omega)));clear H26 H6 hN6 hbd;obtain⟨c0,fc0,c1,fc1,c2,fc2,c3,fc3,c4,fc4,c5,fc5,c6,fc6,c7,fc7,c8,fc8,c9,fc9,c10,fc10,c11,fc11,c12,fc12,c13,fc13,lc⟩:=Ql.z14 (H27.out);go_wp2_with fail;refine bodyPost_ret (v:=.tuple #[.agg #[.int .i64 4,.slice none 0 0,.int .i64 4,.int .i64 0,.string ⟨nm.toArray⟩,.int .i64 op,.int .i64 k,.int .i64 n,.int .i64 d,.int .i64 u,.slice none 0 0,.string ⟨#[]⟩,.string ⟨#[]⟩,.bool false],.bool true]) ?_ rfl ?_
  · exact Zq Tryz.results226 rfl rfl (H27.out.put14 _ _ _ _ _ _ _ _ _ _ _ _ _ _) rfl
  · exact⟨rfl,by rw[HG.out];exact Ul H7.out (Zk g) _ _ _ _ _ _ _ _ _ _ _ _ _ _⟩
def Q72:Tk:=⟨21,[],(0,0),false,false⟩
def Gv (w:World) (koa:Option Addr) (K kcap:Nat) (b o cap:Nat):Prop:=∃ h kb ko kids,kids.length=K∧Zw w h (some ⟨b,o,none⟩) cap b o [.mk Q72 koa kb ko kcap kids]
theorem Gv.below {w w':World} {koa:Option Addr} {K kcap b o cap:Nat} (h:Gv w koa K kcap b o cap) (hb:Below w.heap.size w w'):Gv w' koa K kcap b o cap:=by
 obtain⟨hh,kb,ko,kids,hK,hs⟩:=h;exact⟨hh,kb,ko,kids,hK,hs.below hb⟩
theorem Gv.row {w:World} {koa:Option Addr} {K kcap b o cap:Nat} (h:Gv w koa K kcap b o cap):(w.cell? ⟨b,o,none⟩=some (.int .i64 21)∧w.cell? ⟨b,o+1,none⟩=some (.string ⟨#[]⟩)∧w.cell? ⟨b,o+2,none⟩=some (.int .i64 0)∧w.cell? ⟨b,o+3,none⟩=some (.int .i64 0)∧w.cell? ⟨b,o+4,none⟩=some (.bool false)∧w.cell? ⟨b,o+5,none⟩=some (.bool false)∧w.cell? ⟨b,o+6,none⟩=some (.slice koa K kcap))∧b<w.heap.size:=by
 obtain⟨hh,kb,ko,kids,rfl,hs⟩:=h;exact⟨hs.row (i:=0) rfl,(hs.sl.lies (Nat.zero_lt_one)).2⟩
theorem Q0s {koa:Option Addr} {K kcap b o cap:Nat} (w:World) (hp:Gv w koa K kcap b o cap):Calls Tryz.prog 206 #[.slice (some ⟨b,o,none⟩) 1 cap,.int .i64 0] w fun e w'=>e=.returned (.string ⟨#[]⟩)∧w=w':=by
 obtain⟨⟨f0,-,-,-,-,-,-⟩,hb⟩:=hp.row;clear hp
 go_enter Tryz.func206,Tryz.ntmps206
 go_wp2_with fail;go_ret;exact⟨rfl,rfl⟩
theorem Q1t {nm:List UInt8} {op k n d u:Int} (gR:Nat) {koa:Option Addr} {K kcap b o cap:Nat} (w:World) (hp:Gv w koa K kcap b o cap) (hT:∀ wx,Bel w wx→Calls Tryz.prog 226 #[.pointer (some ⟨gR,0,none⟩),.agg #[.int .i64 21,.string ⟨#[]⟩,.int .i64 0,.int .i64 0,.bool false,.bool false,.slice koa K kcap]] wx fun e w'=>e=.returned (.tuple #[.agg #[.int .i64 4,.slice none 0 0,.int .i64 4,.int .i64 0,.string ⟨nm.toArray⟩,.int .i64 op,.int .i64 k,.int .i64 n,.int .i64 d,.int .i64 u,.slice none 0 0,.string ⟨#[]⟩,.string ⟨#[]⟩,.bool false],.bool true])∧Below wx.heap.size wx w') :
  Calls Tryz.prog 207 #[.pointer (some ⟨gR,0,none⟩),.slice (some ⟨b,o,none⟩) 1 cap,.int .i64 0] w fun e w'=>e=.returned (.agg #[.int .i64 4,.slice none 0 0,.int .i64 4,.int .i64 0,.string ⟨nm.toArray⟩,.int .i64 op,.int .i64 k,.int .i64 n,.int .i64 d,.int .i64 u,.slice none 0 0,.string ⟨#[]⟩,.string ⟨#[]⟩,.bool false])∧Below w.heap.size w w':=by
 obtain⟨h1,hb1⟩:=Z2 w 36 Zl;have H1:=Q1 h1;have HB1:=Q1 hb1;obtain⟨⟨f0,f1,f2,f3,f4,f5,f6⟩,hlb⟩:=(hp.below hb1).row;have HT:=Q1 hT;obtain⟨g,hg⟩:∃ g,w.heap.size=g:=⟨_,rfl⟩;rw[hg]at H1;have HG:=Q1 hg;clear h1 hb1 hp hT;simp only[Zl]at H1 HB1 f0 f1 f2 f3 f4 f5 f6 hlb
 go_enter Tryz.func207,Tryz.ntmps207
 go_upto_region 1 with fail
 try simp only[hg]
 generalize World.alloc w _=wa at *;clear hg
 go_upto_region 4 with fail
 obtain⟨h7,hb7⟩:=Z2 wa 28 #[.int .i64 21,.string ⟨#[]⟩,.int .i64 0,.int .i64 0,.bool false,.bool false,.slice koa K kcap];have H2:=Q1 (H1.out.below hb7 H1.out.lt);have HB2:=J8 HB1 hb7;clear f0 f1 f2 f3 f4 f5 f6 hlb H1 HB1 hb7;generalize wa.heap.size=g7 at *;generalize World.alloc wa _=wb at *;obtain⟨cv0,fcv0,cv1,fcv1,cv2,fcv2,cv3,fcv3,cv4,fcv4,cv5,fcv5,cv6,fcv6,lcv⟩:=Ql.seven (h7);clear h7;go_wp2_with fail
 ((with_reducible refine(HT.out _ ⟨HB2.out⟩).mono ?_);rintro e wc ⟨rfl,hbc⟩)
 have H3:=H2.out.below hbc H2.out.lt;have HB3:=J8 HB2 hbc;clear cv0 cv1 cv2 cv3 cv4 cv5 cv6 fcv0 fcv1 fcv2 fcv3 fcv4 fcv5 fcv6 lcv H2 HB2 hbc
 go_upto_region 5 with fail
 obtain⟨h8,hb8⟩:=Z2 wc 36 #[.int .i64 4,.slice none 0 0,.int .i64 4,.int .i64 0,.string ⟨nm.toArray⟩,.int .i64 op,.int .i64 k,.int .i64 n,.int .i64 d,.int .i64 u,.slice none 0 0,.string ⟨#[]⟩,.string ⟨#[]⟩,.bool false];have H4:=Q1 (H3.below hb8 H3.lt);have HB4:=J8 HB3 hb8;clear H3 HB3 hb8;generalize wc.heap.size=g8 at *;generalize World.alloc wc _=wd at *;obtain⟨cv0,fcv0,cv1,fcv1,cv2,fcv2,cv3,fcv3,cv4,fcv4,cv5,fcv5,cv6,fcv6,cv7,fcv7,cv8,fcv8,cv9,fcv9,cv10,fcv10,cv11,fcv11,cv12,fcv12,cv13,fcv13,lcv⟩:=Ql.many14 (h8);clear h8;obtain⟨c0,fc0,c1,fc1,c2,fc2,c3,fc3,c4,fc4,c5,fc5,c6,fc6,c7,fc7,c8,fc8,c9,fc9,c10,fc10,c11,fc11,c12,fc12,c13,fc13,lc⟩:=Ql.z14 (H4.out);go_wp2_with fail
 refine bodyPost_ret (v:=.agg #[.int .i64 4,.slice none 0 0,.int .i64 4,.int .i64 0,.string ⟨nm.toArray⟩,.int .i64 op,.int .i64 k,.int .i64 n,.int .i64 d,.int .i64 u,.slice none 0 0,.string ⟨#[]⟩,.string ⟨#[]⟩,.bool false]) ?_ rfl ?_
 · exact Ey Tryz.results207 rfl (H4.out.put14 _ _ _ _ _ _ _ _ _ _ _ _ _ _) rfl
 · exact⟨rfl,Ul HB4.out (by rw[HG.out];exact Q6 _) _ _ _ _ _ _ _ _ _ _ _ _ _ _⟩
theorem Q1l {nm:List UInt8} {op k n d u:Int} (gR:Nat) {koa:Option Addr} {K kcap b o cap:Nat} (w:World) (hp:Gv w koa K kcap b o cap) (hT:∀ wx,Bel w wx→Calls Tryz.prog 226 #[.pointer (some ⟨gR,0,none⟩),.agg #[.int .i64 21,.string ⟨#[]⟩,.int .i64 0,.int .i64 0,.bool false,.bool false,.slice koa K kcap]] wx fun e w'=>e=.returned (.tuple #[.agg #[.int .i64 4,.slice none 0 0,.int .i64 4,.int .i64 0,.string ⟨nm.toArray⟩,.int .i64 op,.int .i64 k,.int .i64 n,.int .i64 d,.int .i64 u,.slice none 0 0,.string ⟨#[]⟩,.string ⟨#[]⟩,.bool false],.bool true])∧Below wx.heap.size wx w') :
  Calls Tryz.prog 177 #[.pointer (some ⟨gR,0,none⟩),.slice (some ⟨b,o,none⟩) 1 cap] w fun e w'=>e=.returned (.agg #[.int .i64 4,.slice none 0 0,.int .i64 4,.int .i64 0,.string ⟨nm.toArray⟩,.int .i64 op,.int .i64 k,.int .i64 n,.int .i64 d,.int .i64 u,.slice none 0 0,.string ⟨#[]⟩,.string ⟨#[]⟩,.bool false])∧Below w.heap.size w w':=by
 obtain⟨h1,hb1⟩:=Z2 w 36 Zl;have H1:=Q1 h1;have HB1:=Q1 hb1;have HW:=Q1 (Q0s _ (hp.below hb1));have HP:=Q1 (Q1t gR _ (hp.below hb1) fun wx hx=>hT wx ⟨hb1.trans (hx.out.mono hb1.size)⟩);obtain⟨g,hg⟩:∃ g,w.heap.size=g:=⟨_,rfl⟩;rw[hg]at H1;have HG:=Q1 hg;clear h1 hb1 hp hT;simp only[Zl]at H1 HB1 HW HP
 go_enter Tryz.func177,Tryz.ntmps177
 go_upto_region 1 with fail
 try simp only[hg]
 generalize World.alloc w _=wa at *;clear hg;go_wp2_with fail
 ((with_reducible refine HW.out.mono ?_);rintro e wb ⟨rfl,rfl⟩)
 go_wp2_with fail
 ((with_reducible refine HP.out.mono ?_);rintro e wc ⟨rfl,hbc⟩)
 have H3:=H1.out.below hbc H1.out.lt;have HB3:=J8 HB1 hbc;clear H1 HB1 hbc HW HP
 go_upto_region 7 with fail
 obtain⟨h8,hb8⟩:=Z2 wc 36 #[.int .i64 4,.slice none 0 0,.int .i64 4,.int .i64 0,.string ⟨nm.toArray⟩,.int .i64 op,.int .i64 k,.int .i64 n,.int .i64 d,.int .i64 u,.slice none 0 0,.string ⟨#[]⟩,.string ⟨#[]⟩,.bool false];have H4:=Q1 (H3.below hb8 H3.lt);have HB4:=J8 HB3 hb8;clear H3 HB3 hb8;generalize wc.heap.size=g8 at *;generalize World.alloc wc _=wd at *;obtain⟨cv0,fcv0,cv1,fcv1,cv2,fcv2,cv3,fcv3,cv4,fcv4,cv5,fcv5,cv6,fcv6,cv7,fcv7,cv8,fcv8,cv9,fcv9,cv10,fcv10,cv11,fcv11,cv12,fcv12,cv13,fcv13,lcv⟩:=Ql.many14 (h8);clear h8;obtain⟨c0,fc0,c1,fc1,c2,fc2,c3,fc3,c4,fc4,c5,fc5,c6,fc6,c7,fc7,c8,fc8,c9,fc9,c10,fc10,c11,fc11,c12,fc12,c13,fc13,lc⟩:=Ql.z14 (H4.out);go_wp2_with fail
 refine bodyPost_ret (v:=.agg #[.int .i64 4,.slice none 0 0,.int .i64 4,.int .i64 0,.string ⟨nm.toArray⟩,.int .i64 op,.int .i64 k,.int .i64 n,.int .i64 d,.int .i64 u,.slice none 0 0,.string ⟨#[]⟩,.string ⟨#[]⟩,.bool false]) ?_ rfl ?_
 · exact Ey Tryz.results177 rfl (H4.out.put14 _ _ _ _ _ _ _ _ _ _ _ _ _ _) rfl
 · exact⟨rfl,Ul HB4.out (by rw[HG.out];exact Q6 _) _ _ _ _ _ _ _ _ _ _ _ _ _ _⟩
theorem Bx {fn:Func} {p u:Tmp} {ty ty2:TypeId} (h:fn.results=#[.cell p ty,.cell u ty2]) (tmps:Array Value) (P:Program) (w:World) :
  (results fn tmps).run P w =
    ((asAddr (tmps.getD p undef)).run P w).andThen fun a w₁=>((loadVar ty a).run P w₁).andThen fun v w₂=>((asAddr (tmps.getD u undef)).run P w₂).andThen fun b w₃=>((loadVar ty2 b).run P w₃).andThen fun v2 w₄=>.ok (.tuple #[v,v2]) w₄:=by
 simp only[results,h];simp[Sem.run_bind,Result.andThen]
theorem Iq {w:World} {p:Addr} {n:Int} (h:w.cell? p=some (.int .i64 n)):(loadVar 42 p).run Tryz.prog w=.ok (.int .i64 n) w:=by
 simp[go_sem,loadVar,h]
theorem Q3w {fn:Func} {p u:Tmp} {tmps:Array Value} {w:World} {g ge:Nat} {t:TypeId} {cs:Array Value} {n:Int} (hr:fn.results=#[.cell p 36,.cell u 42]) (hp:tmps.getD p undef=.pointer (some ⟨g,0,none⟩)) (hu:tmps.getD u undef=.pointer (some ⟨ge,0,none⟩)) (h:Ql w g t cs) (hs:cs.size=14) (he:w.cell? ⟨ge,0,none⟩=some (.int .i64 n)):(results fn tmps).run Tryz.prog w=.ok (.tuple #[.agg cs,.int .i64 n]) w:=by
 rw[Bx hr,hp,hu];simp only[asAddr,Sem.run_pure,Result.andThen_ok,Q0f h hs,Iq he]
theorem Q10 (gc ge:Nat) (w:World):CallsD Tryz.prog 176 #[.pointer (some ⟨gc,0,none⟩),.pointer (some ⟨ge,0,none⟩)] .returning w fun e u' w' =>
  e=.returned (.tuple #[])∧u'=.returning∧w'=w:=by
 refine callsD_of_wpS Tryz.func176 rfl fun c₀ cs hu=>?_
 simp only[Tryz.ntmps176,List.size_toArray,Z8,List.length_nil,Nat.reduceAdd,Nat.reduceSub,Array.replicate_succ,Array.replicate_zero,List.push_toArray,List.append_toArray,List.nil_append,List.cons_append]
 apply wpS_seq
 apply wpS_region
 simp[wpOpsS,go_sem,recoverD,hu,Exit.thenS];refine wpS_of_wp ?_;go_wp2_with fail
 cases c₀
 simp_all [bodyPostS,results,Tryz.results176]
theorem Gv.add {w w3:World} {koa:Option Addr} {K kcap b o cap gg cap3 B:Nat} (hp:Gv w koa K kcap b o cap) (hb:Below w.heap.size w w3) (ho:w3.ownsRow B 28 7 (.slice (some ⟨gg,0,none⟩) 1 cap3) 1 [.int .i64 21,.string ⟨#[]⟩,.int .i64 0,.int .i64 0,.bool false,.bool false,.slice koa K kcap]):Gv w3 koa K kcap gg 0 cap3:=by
 obtain⟨h,kb,ko,kids,rfl,hs⟩:=hp.below hb;obtain⟨voa,vcap,vg,hv,hsl,-⟩:=Zx ho
 injection hv with e1 _ e3
 subst e1 e3;have e:=(hsl.lies Nat.zero_lt_one).1
 injection e with e
 injection e with e _ _
 subst e;exact⟨h,kb,ko,kids,rfl,hs.small,hsl,hs.each⟩
theorem Aq {nm:List UInt8} {op k n d u:Int} (gR:Nat) {koa:Option Addr} {K kcap b o cap:Nat} (w:World) (hp:Gv w koa K kcap b o cap) (hT:∀ wx,Bel w wx→Calls Tryz.prog 226 #[.pointer (some ⟨gR,0,none⟩),.agg #[.int .i64 21,.string ⟨#[]⟩,.int .i64 0,.int .i64 0,.bool false,.bool false,.slice koa K kcap]] wx fun e w'=>e=.returned (.tuple #[.agg #[.int .i64 4,.slice none 0 0,.int .i64 4,.int .i64 0,.string ⟨nm.toArray⟩,.int .i64 op,.int .i64 k,.int .i64 n,.int .i64 d,.int .i64 u,.slice none 0 0,.string ⟨#[]⟩,.string ⟨#[]⟩,.bool false],.bool true])∧Below wx.heap.size wx w') :
  Calls Tryz.prog 145 #[.pointer (some ⟨gR,0,none⟩),.slice (some ⟨b,o,none⟩) 1 cap] w fun e w'=>e=.returned (.tuple #[.agg #[.int .i64 4,.slice none 0 0,.int .i64 4,.int .i64 0,.string ⟨nm.toArray⟩,.int .i64 op,.int .i64 k,.int .i64 n,.int .i64 d,.int .i64 u,.slice none 0 0,.string ⟨#[]⟩,.string ⟨#[]⟩,.bool false],.int .i64 0])∧Below w.heap.size w w':=by
 have h1:=(Ql.new w 36 Zl).old (.cells #[.int .i64 0] 42);have h2:=Ql.new2 w (.cells Zl 36) 42 #[.int .i64 0];have hb:=(Q7 w (.cells Zl 36)).alloc (by simp) (.cells #[.int .i64 0] 42);obtain⟨g,hg⟩:∃ g,w.heap.size=g:=⟨_,rfl⟩;have HP:=Q1 (hp.below hb);have HT:=Q1 (fun wx (hx:Bel _ wx)=>hT wx ⟨hb.trans (hx.out.mono hb.size)⟩);rw[hg]at h1 h2 hb;have H:=Q1 (Q3 h1 (Q3 h2 hb));have HG:=Q1 hg;clear h1 h2 hb hp hT;simp only[Zl]at H HP HT
 have hmf:∀ (fn:Fn) (first cap:Array Value) (w:World),(Instr.makeFunc fn first cap).run Tryz.prog w=.ok (.func fn first cap) w:=fun _ _ _ _=>rfl
 go_enter_defers Tryz.func145,Tryz.ntmps145
 go_upto_region 3 with fail
 try simp only[hg]
 clear hg;generalize World.alloc (World.alloc w _) _=wa at *;have lcg:=H.out.1.lt;have lce:=H.out.2.1.lt;go_wp2_with fail
 go_loopg [6,12] 1 (fun q s6 s12 wr=>(s12=.int .i64 0∧s6=.slice none 0 0∧wr=wa∧1≤q)∨∃ gg cap3,s12=.int .i64 1∧s6=.slice (some ⟨gg,0,none⟩) 1 cap3∧Hid (Below wa.heap.size wa wr)∧Hid (Gv wr koa K kcap gg 0 cap3))
 case atStart=>exact .inl ⟨rfl,rfl,rfl,Q6 _⟩
 case round =>
  rcases hrel with ⟨rfl,rfl,rfl,hq⟩ | ⟨gg,cap3,rfl,rfl,hb,hpn⟩
  · obtain⟨⟨f0,f1,f2,f3,f4,f5,f6⟩,hlb⟩:=HP.out.row
    go_upto_region 6 with fail
    obtain⟨h8,hb8⟩:=Z2 wr 28 #[.int .i64 21,.string ⟨#[]⟩,.int .i64 0,.int .i64 0,.bool false,.bool false,.slice koa K kcap];have HB2:=Q1 hb8;have hl8:=h8.lt;have HPA:=Q1 (fun(w3:World) (gg cap3:Nat) (hb:Below wr.heap.size wr w3) (ho:w3.ownsRow wr.heap.size 28 7 (.slice (some ⟨gg,0,none⟩) 1 cap3) 1 [.int .i64 21,.string ⟨#[]⟩,.int .i64 0,.int .i64 0,.bool false,.bool false,.slice koa K kcap])=>HP.out.add hb ho);have HN:=Q1 (World.ownsRow_nil (wr.alloc (.cells #[.int .i64 21,.string ⟨#[]⟩,.int .i64 0,.int .i64 0,.bool false,.bool false,.slice koa K kcap] 28)) wr.heap.size 28 7);clear f0 f1 f2 f3 f4 f5 f6 hb8;generalize wr.heap.size=g8 at *;generalize World.alloc wr _=wv at *;obtain⟨cv0,fcv0,cv1,fcv1,cv2,fcv2,cv3,fcv3,cv4,fcv4,cv5,fcv5,cv6,fcv6,lcv⟩:=Ql.seven (h8);clear h8
    go_wp2_with (at_builtin;refine J4 Fx rfl _ _ rfl rfl (HN.out.alloc _) (by simp;omega) (Ql.new wv _ _) 1 rfl rfl (by simp[Value.oneCell']) (by omega) (by omega) ?_;intro gg cap3 w3 ho3 hg3 hat hvb;have H3:=Q1 (Q3 ho3 hg3);clear ho3 hg3 hat hvb)
    go_roundg 0
    case measure=>omega
    case rel =>
     have hb3:Below g8 wr w3:=Below.grown HB2.out (Z7 (World.grownBy_alloc wv _ _) H3.out.2) (Zg hl8) (fun k e=>by cases e);exact .inr ⟨gg,cap3,rfl,rfl,Q1 hb3,Q1 (HPA.out w3 gg cap3 hb3 H3.out.1)⟩
  · obtain⟨⟨f0,f1,f2,f3,f4,f5,f6⟩,hlb⟩:=hpn.out.row;have HRD:=Q1 (Q1l gR wr hpn.out fun wx hx=>HT.out wx ⟨hb.out.trans (hx.out.mono hb.out.size)⟩);have h1:=H.out.1.below hb.out lcg;have h2:=H.out.2.1.below hb.out lce;have HB2:=Q1 (H.out.2.2.trans (hb.out.mono (Zg lcg)));have HZ:=Q1 (Q3 h1 h2);clear f0 f1 f2 f3 f4 f5 f6 h1 h2 hb hpn;go_wp2_with fail
    ((with_reducible refine HRD.out.mono ?_);rintro e we ⟨rfl,hbe⟩)
    have h1:=HZ.out.1.below hbe HZ.out.1.lt;have h2:=HZ.out.2.below hbe HZ.out.2.lt;have HB3:=Q1 (HB2.out.trans (hbe.mono (by have:=HZ.out.1.lt;omega)));have HZ3:=Q1 (Q3 h1 h2);clear HRD HZ HB2 hbe h1;obtain⟨ca0,fca0,ca1,fca1,ca2,fca2,ca3,fca3,ca4,fca4,ca5,fca5,ca6,fca6,ca7,fca7,ca8,fca8,ca9,fca9,ca10,fca10,ca11,fca11,ca12,fca12,ca13,fca13,lca⟩:=Ql.z14 (HZ3.out.1);have ce0:we.cell? ⟨g+1,0,none⟩=some (.int .i64 0):=(h2).cell 0;have fce0:=(h2).frozen 0;have lce:=(h2).lt;clear h2;go_wp2_with fail;have hgz:=Qm [.int .i64 4,.slice none 0 0,.int .i64 4,.int .i64 0,.string ⟨nm.toArray⟩,.int .i64 op,.int .i64 k,.int .i64 n,.int .i64 d,.int .i64 u,.slice none 0 0,.string ⟨#[]⟩,.string ⟨#[]⟩,.bool false] we g 0;have hez:=HZ3.out.2.keeps hgz (fun e=>by have:=Q8 e;omega);simp only[J5,Nat.zero_add,Nat.reduceAdd]at hgz hez
    have hz2:=(HZ3.out.1.put14 (.int .i64 4) (.slice none 0 0) (.int .i64 4) (.int .i64 0) (.string ⟨nm.toArray⟩) (.int .i64 op) (.int .i64 k) (.int .i64 n) (.int .i64 d) (.int .i64 u) (.slice none 0 0) (.string ⟨#[]⟩) (.string ⟨#[]⟩) (.bool false)).far (p:=⟨g+1,0,none⟩) (by simp) (.int .i64 0);have hez2:=hez.put 0 (.int .i64 0);have hbz2:=(Ul HB3.out (Q6 g) (.int .i64 4) (.slice none 0 0) (.int .i64 4) (.int .i64 0) (.string ⟨nm.toArray⟩) (.int .i64 op) (.int .i64 k) (.int .i64 n) (.int .i64 d) (.int .i64 u) (.slice none 0 0) (.string ⟨#[]⟩) (.string ⟨#[]⟩) (.bool false)).setCell (p:=⟨g+1,0,none⟩) (Zk g) (.int .i64 0);refine leaves_cons (f:=176) (args:=#[.pointer (some ⟨g,0,none⟩),.pointer (some ⟨g+1,0,none⟩)]) (by simp) (by simp[go_sem]) ?_;refine(Q10 g (g+1) _).mono ?_;rintro e u' wf ⟨rfl,rfl,rfl⟩
    refine⟨.tuple #[.agg #[.int .i64 4,.slice none 0 0,.int .i64 4,.int .i64 0,.string ⟨nm.toArray⟩,.int .i64 op,.int .i64 k,.int .i64 n,.int .i64 d,.int .i64 u,.slice none 0 0,.string ⟨#[]⟩,.string ⟨#[]⟩,.bool false],.int .i64 0],?_,rfl,by rw[HG.out];exact hbz2⟩;refine Q3w Tryz.results145 ?_ ?_ hz2 rfl (hez2.cell 0)
    all_goals rfl
def Q3a (w:World) (b o cap:Nat):Prop:=∃ h koa kb ko kcap kids,Zw w (h+1) (some ⟨b,o,none⟩) cap b o [.mk Q72 koa kb ko kcap kids]∧kids.map Vl.c=awK.map lfT
theorem Q3a.below {w w':World} {b o cap:Nat} (h:Q3a w b o cap) (hb:Below w.heap.size w w'):Q3a w' b o cap:=by
 obtain⟨hh,koa,kb,ko,kcap,kids,hs,hk⟩:=h;exact⟨hh,koa,kb,ko,kcap,kids,hs.below hb,hk⟩
theorem Q5c:∀ t∈awK,J2 t.kind=0:=by decide
theorem As {k n d:Int} {s:List UInt8} {a b:Bool} (h:decide (-9223372036854775808≤k∧k≤9223372036854775807∧-9223372036854775808≤n∧n≤9223372036854775807∧-9223372036854775808≤d∧d≤9223372036854775807∧s.length≤9223372036854775807)=true):Bo ⟨k,s,(n,d),a,b⟩:=by
 obtain⟨h1,h2,h3,h4,h5,h6,h7⟩:=of_decide_eq_true h;exact⟨⟨h1,h2⟩,⟨h3,h4,h5,h6⟩,h7⟩
theorem Q7x:∀ t∈awK,Bo t:=fun t ht=>by
 unfold awK at ht;simp only[List.mem_cons,List.not_mem_nil,or_false]at ht
 rcases ht with rfl|rfl|rfl|rfl<;>exact As (by decide)
theorem I7 {b o cap:Nat} (w:World) (hA:Q3a w b o cap) :
  Calls Tryz.prog 108 #[.slice (some ⟨b,o,none⟩) 1 cap,.func (.func 109) #[] #[]] w fun e w'=>e=.returned (.tuple #[.agg #[.int .i64 4,.slice none 0 0,.int .i64 4,.int .i64 0,.string ⟨Js.toArray⟩,.int .i64 4,.int .i64 1,.int .i64 600,.int .i64 1,.int .i64 1,.slice none 0 0,.string ⟨#[]⟩,.string ⟨#[]⟩,.bool false],.int .i64 0])∧Below w.heap.size w w':=by
 obtain⟨h1,hb1⟩:=Z2 w 36 Zl;obtain⟨g,hg⟩:∃ g,w.heap.size=g:=⟨_,rfl⟩;obtain⟨hh,koa,kb,ko,kcap,kids,hs,hk⟩:=hA.below hb1;have hm:=Dw (hh+1) _ _ cap b o _ hs;simp only[List.map_cons,List.map_nil,Vl.c_mk,hk,Qi]at hm;rw[show Jf 64 [.mk Q72 (awK.map lfT)]=true from Q0l]at hm;have HM:=Q1 hm;have HS:=Q1 (Q3 hs hk);rw[hg]at h1;have H1:=Q1 h1;have HB1:=Q1 hb1;have HG:=Q1 hg;clear h1 hb1 hA hm hs hk;simp only[Zl]at H1 HB1 HS HM
 go_enter Tryz.func108,Tryz.ntmps108
 go_upto_region 1 with fail
 try simp only[hg]
 clear hg;generalize World.alloc w _=wa at *;go_wp2_with fail
 ((with_reducible refine HM.out.mono ?_);rintro e wb ⟨rfl,hbb⟩)
 have H2:=H1.out.below hbb H1.out.lt;have HB2:=J8 HB1 hbb;have hs2:=HS.out.1.below hbb
 go_upto_region 4 with fail
 obtain⟨hr,hb3⟩:=Z2 wb 169 #[.func (.func 109) #[] #[]];have hs3:=hs2.below hb3
 have hkl:kids.length=4:=by have:=congrArg List.length HS.out.2;simpa[awK] using this
 have HW:=Q1 (Aq (nm:=Js) (op:=4) (k:=1) (n:=600) (d:=1) (u:=1) (koa:=koa) (kcap:=kcap) wb.heap.size (wb.alloc (.cells #[.func (.func 109) #[] #[]] 169)) ⟨_,kb,ko,kids,rfl,hs3⟩ fun wx hx =>
  Q11 wb.heap.size hh 21 0 0 [] false false koa kcap kb ko kids awK wx (hr.below hx.out hr.lt) ((hs3.each 0 _ rfl).kids.below hx.out) HS.out.2 Q5c Q7x (As (by decide)) (by omega) Q6n)
 have H3:=Q1 (H2.below hb3 H2.lt);have HB3:=J8 HB2 hb3;clear H1 HB1 HB2 H2 hbb hs2 hs3 hkl hb3 HM HS hr;generalize wb.heap.size=gR at *;generalize World.alloc wb _=wc at *;go_wp2_with fail
 ((with_reducible refine HW.out.mono ?_);rintro e wd ⟨rfl,hbd⟩)
 have H4:=Q1 (H3.out.below hbd H3.out.lt);have HB4:=J8 HB3 hbd;clear HW H3 HB3 hbd;obtain⟨c0,fc0,c1,fc1,c2,fc2,c3,fc3,c4,fc4,c5,fc5,c6,fc6,c7,fc7,c8,fc8,c9,fc9,c10,fc10,c11,fc11,c12,fc12,c13,fc13,lc⟩:=Ql.z14 (H4.out);go_wp2_with fail;refine bodyPost_ret (v:=.tuple #[.agg #[.int .i64 4,.slice none 0 0,.int .i64 4,.int .i64 0,.string ⟨Js.toArray⟩,.int .i64 4,.int .i64 1,.int .i64 600,.int .i64 1,.int .i64 1,.slice none 0 0,.string ⟨#[]⟩,.string ⟨#[]⟩,.bool false],.int .i64 0]) ?_ rfl ?_
 · exact Zq Tryz.results108 rfl rfl (H4.out.put14 _ _ _ _ _ _ _ _ _ _ _ _ _ _) rfl
 · exact⟨rfl,Ul HB4.out (by rw[HG.out];exact Q6 _) _ _ _ _ _ _ _ _ _ _ _ _ _ _⟩
theorem N9 {b o cap:Nat} (w:World) (hA:Q3a w b o cap) :
  Calls Tryz.prog 74 #[.slice (some ⟨b,o,none⟩) 1 cap] w fun e w'=>e=.returned (.tuple #[.agg #[.int .i64 4,.slice none 0 0,.int .i64 4,.int .i64 0,.string ⟨Js.toArray⟩,.int .i64 4,.int .i64 1,.int .i64 600,.int .i64 1,.int .i64 1,.slice none 0 0,.string ⟨#[]⟩,.string ⟨#[]⟩,.bool false],.int .i64 0])∧Below w.heap.size w w':=by
 obtain⟨h1,hb1⟩:=Z2 w 36 Zl;obtain⟨g,hg⟩:∃ g,w.heap.size=g:=⟨_,rfl⟩;have HP:=Q1 (I7 _ (hA.below hb1));rw[hg]at h1;have H1:=Q1 h1;have HB1:=Q1 hb1;have HG:=Q1 hg;clear h1 hb1 hA;simp only[Zl]at H1 HB1 HP
 go_enter Tryz.func74,Tryz.ntmps74
 go_upto_region 1 with fail
 try simp only[hg]
 clear hg;generalize World.alloc w _=wa at *;go_wp2_with fail
 ((with_reducible refine HP.out.mono ?_);rintro e wd ⟨rfl,hbd⟩)
 have H4:=Q1 (H1.out.below hbd H1.out.lt);have HB4:=J8 HB1 hbd;clear HP H1 HB1 hbd;obtain⟨c0,fc0,c1,fc1,c2,fc2,c3,fc3,c4,fc4,c5,fc5,c6,fc6,c7,fc7,c8,fc8,c9,fc9,c10,fc10,c11,fc11,c12,fc12,c13,fc13,lc⟩:=Ql.z14 (H4.out);go_wp2_with fail;refine bodyPost_ret (v:=.tuple #[.agg #[.int .i64 4,.slice none 0 0,.int .i64 4,.int .i64 0,.string ⟨Js.toArray⟩,.int .i64 4,.int .i64 1,.int .i64 600,.int .i64 1,.int .i64 1,.slice none 0 0,.string ⟨#[]⟩,.string ⟨#[]⟩,.bool false],.int .i64 0]) ?_ rfl ?_
 · exact Zq Tryz.results74 rfl rfl (H4.out.put14 _ _ _ _ _ _ _ _ _ _ _ _ _ _) rfl
 · exact⟨rfl,Ul HB4.out (by rw[HG.out];exact Q6 _) _ _ _ _ _ _ _ _ _ _ _ _ _ _⟩
def T8:List Vt→List UInt8
 | .mk t _::_=>if t.kind=1 then U6 t.text else []
 | []=>[]
theorem Bd (h:Nat) (l:List Vl) (oa:Option Addr) (cap b o:Nat) (w:World) (hs:Zw w h oa cap b o l) :
  Calls Tryz.prog 73 #[.slice oa l.length cap] w fun e w'=>e=.returned (.string ⟨(T8 (l.map Vl.c)).toArray⟩)∧Below w.heap.size w w':=by
 have hb0:=Below.refl w.heap.size w;have hcl:=hs.sl.le;have hcm:=hs.sl.max;unfold maxLen at hcm
 rcases l with _ | ⟨⟨⟨tk,tt,⟨tn,td⟩,ti,tid⟩,koa,kb,ko,kcap,kids⟩,r⟩
 · clear hs
   go_enter Tryz.func73,Tryz.ntmps73
   go_wp2_with fail;go_ret;exact⟨rfl,hb0⟩
 · obtain⟨f0,f1,-,-,-,-,-⟩:=hs.row (i:=0) rfl;obtain⟨rfl,hbl⟩:=hs.sl.lies (by simp);have htl:=(Bt (hs.each 0 _ rfl)).2.2;obtain⟨N,hN⟩:∃ N,r.length=N:=⟨_,rfl⟩;simp only[Nat.zero_mul,Nat.add_zero,Z8,hN,List.map_cons,Vl.c_mk,T8]at f0 f1 hcl ⊢;have HSM:=Q1 (fun w=>Lb tt w htl)
   have gz:(((N+1:Nat):Int)==0)=false:=by simp;omega
   have gz2:((N:Int)+1==0)=false:=by simp;omega
   clear hs htl hN
   by_cases hk:tk=1
   · subst hk;rw[if_pos rfl]
     go_enter Tryz.func73,Tryz.ntmps73
     go_wp2_with fail
     ((with_reducible refine(HSM.out _).mono ?_);rintro e w5 ⟨rfl,hb5⟩)
     go_wp2_with fail;go_ret;exact⟨rfl,hb5⟩
   · have gk:(tk != 1)=true:=bne_iff_ne.2 hk;rw[if_neg hk]
     go_enter Tryz.func73,Tryz.ntmps73
     go_wp2_with fail;go_ret;exact⟨rfl,hb0⟩
theorem Q1q (w:World) (g:Nat) (v0 v1 v2 v3 v4 v5 v6 v7 v8 v9 v10 v11 v12 v13:Value) (V:Array Value) (t:TypeId):Ql ((((((((((((((((w).setCell ⟨g,0,none⟩ v0).setCell ⟨g,1,none⟩ v1).setCell ⟨g,2,none⟩ v2).setCell ⟨g,3,none⟩ v3).setCell ⟨g,4,none⟩ v4).setCell ⟨g,5,none⟩ v5).setCell ⟨g,6,none⟩ v6).setCell ⟨g,7,none⟩ v7).setCell ⟨g,8,none⟩ v8).setCell ⟨g,9,none⟩ v9).setCell ⟨g,10,none⟩ v10).setCell ⟨g,11,none⟩ v11).setCell ⟨g,12,none⟩ v12).setCell ⟨g,13,none⟩ v13).alloc (.cells V t)) w.heap.size t V:=by
 have h:=Ql.new (J5 w g 0 [v0,v1,v2,v3,v4,v5,v6,v7,v8,v9,v10,v11,v12,v13]) t V;rw[Jp]at h;simpa only[J5,Nat.zero_add,Nat.reduceAdd] using h
theorem Q3m {w:World} {h:Nat} {oa:Option Addr} {cap b o:Nat} {l:List Vl} (hs:Zw w h oa cap b o l) (hl:l.map Vl.c=[.mk He [],.mk Cw [],An]):oa=some ⟨b,o,none⟩∧l.length=3∧b<w.heap.size∧w.cell? ⟨b,o,none⟩=some (.int .i64 1)∧(∃ oa1 cap1,(∀ w,(Instr.slice 26 (.slice oa 3 cap) (some (.int .i64 1)) none none).run Tryz.prog w=.ok (.slice oa1 2 cap1) w)∧∀ wx,Bel w wx→Calls Tryz.prog 73 #[.slice oa1 2 cap1] wx fun e w'=>e=.returned (.string ⟨#[97,110,100]⟩)∧Below wx.heap.size wx w') ∧
  ∃ b2 o2 cap2,(∀ w,(Instr.slice 26 (.slice oa 3 cap) (some (.int .i64 2)) none none).run Tryz.prog w=.ok (.slice (some ⟨b2,o2,none⟩) 1 cap2) w)∧(∀ wx,Bel w wx→Calls Tryz.prog 73 #[.slice (some ⟨b2,o2,none⟩) 1 cap2] wx fun e w'=>e=.returned (.string ⟨#[]⟩)∧Below wx.heap.size wx w')∧Q3a w b2 o2 cap2:=by
 have hlen:l.length=3:=by have:=congrArg List.length hl;simpa using this
 obtain⟨rfl,hlt⟩:=hs.sl.lies (by rw[hlen];decide);obtain⟨oa1,cap1,o1,hr1,hv1⟩:=Xo hs (i:=1) hlen (by decide);obtain⟨oa2,cap2,o2,hr2,hv2⟩:=Xo hs (i:=2) hlen (by decide)
 have hd1:(l.drop 1).map Vl.c=[.mk Cw [],An]:=by rw[List.map_drop,hl];rfl
 have hd2:(l.drop 2).map Vl.c=[An]:=by rw[List.map_drop,hl];rfl
 have hl1:(l.drop 1).length=2:=by rw[Zu,hlen]
 have hl2:(l.drop 2).length=1:=by rw[Zu,hlen]
 obtain⟨rfl,-⟩:=(hv2 w hs).sl.lies (by rw[hl2];decide);refine⟨rfl,hlen,hlt,?_,⟨oa1,cap1,fun w=>by rw[hr1 1 w rfl,hl1],fun wx hx=>?_⟩,b,o2,cap2,fun w=>by rw[hr2 2 w rfl,hl2],fun wx hx=>?_,?_⟩
 · obtain ⟨x,r,rfl⟩:∃ x r,l=x::r:=by cases l with
    | nil=>cases hlen
    | cons x r=>exact⟨x,r,rfl⟩
   obtain⟨⟨tk,tt,⟨tn,td⟩,ti,tid⟩,koa,kb,ko,kcap,kids⟩:=x;have h0:=(hs.row (i:=0) rfl).1;rw[List.map_cons,Vl.c_mk]at hl
   injection hl with hl _
   injection hl with hl _
   injection hl with hl
   subst hl;simpa using h0
 · have:=Bd h (l.drop 1) oa1 cap1 b o1 wx ((hv1 w hs).below hx.out);rw[hd1,hl1]at this;exact this
 · have:=Bd h (l.drop 2) _ cap2 b o2 wx ((hv2 w hs).below hx.out);rw[hd2,hl2]at this;exact this
 · obtain⟨x,hx⟩:=Zo.1 hl2;have hv:=hv2 w hs;rw[hx]at hv hd2;obtain⟨t,koa,kb,ko,kcap,kids⟩:=x;rw[List.map_cons,Vl.c_mk]at hd2
   injection hd2 with hd2 _
   injection hd2 with h1 h2
   subst h1;obtain _ | h:=h
   · exact(hv.each 0 _ rfl).elim
   · exact⟨h,koa,kb,ko,kcap,kids,hv,h2⟩
theorem Im (h:Nat) (l:List Vl) (oa:Option Addr) (cap b o:Nat) (w:World) (hs:Zw w h oa cap b o l) (hl:l.map Vl.c=[.mk He [],.mk Cw [],An]) :
  Calls Tryz.prog 72 #[.slice oa 3 cap] w fun e w'=>(∃ gB,e=.returned (.tuple #[.agg #[.int .i64 1,.slice (some ⟨gB,0,none⟩) 2 2,.int .i64 0,.int .i64 0,.string ⟨#[]⟩,.int .i64 0,.int .i64 0,.int .i64 0,.int .i64 0,.int .i64 0,.slice none 0 0,.string ⟨#[]⟩,.string ⟨#[]⟩,.bool false],.bool true])∧w.heap.size≤gB∧Ql w' gB 36 #[.int .i64 4,.slice none 0 0,.int .i64 2,.int .i64 0,.string ⟨#[115,99,114,101,101,110]⟩,.int .i64 0,.int .i64 0,.int .i64 0,.int .i64 0,.int .i64 0,.slice none 0 0,.string ⟨#[]⟩,.string ⟨#[]⟩,.bool false,.int .i64 4,.slice none 0 0,.int .i64 4,.int .i64 0,.string ⟨Js.toArray⟩,.int .i64 4,.int .i64 1,.int .i64 600,.int .i64 1,.int .i64 1,.slice none 0 0,.string ⟨#[]⟩,.string ⟨#[]⟩,.bool false])∧Below w.heap.size w w':=by
 obtain⟨h1,hb1⟩:=Z2 w 36 Zl;obtain⟨g,hg⟩:∃ g,w.heap.size=g:=⟨_,rfl⟩;obtain⟨rfl,hlen,hlt,f0,⟨oa1,cap1,hr1,hf1⟩,b2,o2,cap2,hr2,hf2,hA⟩:=Q3m (hs.below hb1) hl
 have hf0:=fun wx (hx:Bel (w.alloc (.cells Zl 36)) wx)=>Bd h l _ cap b o wx ((hs.below hb1).below hx.out)
 rw[hl,hlen,show T8 [.mk He [],.mk Cw [],An]=[115,99,114,101,101,110] by decide]at hf0;have hcl:=hs.sl.le;have hcm:=hs.sl.max;unfold maxLen at hcm;rw[hlen]at hcl;have HF0:=Q1 hf0;have HF1:=Q1 hf1;have HF2:=Q1 hf2;have HA:=Q1 hA;rw[hg]at h1;have H1:=Q1 h1;have HB1:=Q1 hb1;have HG:=Q1 hg;clear h1 hb1 hs hl hf0 hf1 hf2 hA hlen;simp only[Zl]at H1 HB1 HF0 HF1 HF2 HA f0 hlt
 go_enter Tryz.func72,Tryz.ntmps72
 go_upto_region 1 with fail
 try simp only[hg]
 clear hg;generalize World.alloc w _=wa at *;go_wp2_with fail
 ((with_reducible refine(HF0.out _ inferInstance).mono ?_);rintro e wb ⟨rfl,hbb⟩)
 go_wp2_with fail
 ((with_reducible refine(Gb _ _ _ _ _ _ _ _ _ _ _ _ _ _ _).mono ?_);rintro e wc ⟨rfl,hbc⟩)
 go_upto_region 13 with fail
 have hbc2:=hbb.trans (hbc.mono hbb.size);obtain⟨h5,hb5⟩:=Z2 wc 36 #[.int .i64 4,.slice none 0 0,.int .i64 2,.int .i64 0,.string ⟨#[115,99,114,101,101,110]⟩,.int .i64 0,.int .i64 0,.int .i64 0,.int .i64 0,.int .i64 0,.slice none 0 0,.string ⟨#[]⟩,.string ⟨#[]⟩,.bool false];have HW:=Q1 (hbc2.trans (hb5.mono hbc2.size));have H5:=Q1 h5;clear hbb hbc hbc2 hb5 f0;generalize wc.heap.size=g5 at *;generalize World.alloc wc _=wd at *;clear h5;go_wp2_with fail
 ((with_reducible refine(HF1.out _ ⟨HW.out⟩).mono ?_);rintro e we ⟨rfl,hbe⟩)
 have HW2:=Q1 (HW.out.trans (hbe.mono HW.out.size));have H52:=Q1 (H5.out.below hbe H5.out.lt);clear HW H5 hbe HF1 HF0;go_wp2_with fail
 go_loopg [47] 1 (fun q s wr=>((s=.int .i64 0∧1≤q)∨s=.int .i64 1)∧Hid (Below we.heap.size we wr))
 case atStart=>exact⟨.inl ⟨rfl,Q6 _⟩,Q1 (Below.refl _ _)⟩
 case round =>
  obtain⟨hrel,hbr⟩:=hrel
  rcases hrel with ⟨rfl,hq⟩ | rfl
  · go_wp2_with fail
    ((with_reducible refine(HF2.out _ ⟨HW2.out.trans (hbr.out.mono HW2.out.size)⟩).mono ?_);rintro e wf ⟨rfl,hbf⟩)
    go_wp2_with fail
    go_roundg 0
    case measure=>omega
    case rel=>exact⟨.inr rfl,J8 hbr hbf⟩
  · have HW3:=Q1 (HW2.out.trans (hbr.out.mono HW2.out.size));have H53:=H52.out.below hbr.out H52.out.lt;have HC:=Q1 (N9 wr (HA.out.below HW3.out));clear HF2 HA HW2 H52 hbr;go_wp2_with fail
    ((with_reducible refine HC.out.mono ?_);rintro e wf ⟨rfl,hbf⟩)
    have HW4:=HW3.out.trans (hbf.mono HW3.out.size);have H54:=H53.below hbf H53.lt;clear HW3 H53 HC hbf
    go_upto_region 24 with fail
    obtain⟨h7,hb7⟩:=Z2 wf 36 #[.int .i64 4,.slice none 0 0,.int .i64 4,.int .i64 0,.string ⟨Js.toArray⟩,.int .i64 4,.int .i64 1,.int .i64 600,.int .i64 1,.int .i64 1,.slice none 0 0,.string ⟨#[]⟩,.string ⟨#[]⟩,.bool false];have HW5:=HW4.trans (hb7.mono HW4.size);have H55:=Q1 (H54.below hb7 H54.lt);have H15:=Q1 (H1.out.below HW5 H1.out.lt);have HB5:=J8 HB1 HW5;clear HW4 H54 hb7 H1 HB1 HW5;generalize wf.heap.size=g7 at *;generalize World.alloc wf _=wg at *;obtain⟨cv0,fcv0,cv1,fcv1,cv2,fcv2,cv3,fcv3,cv4,fcv4,cv5,fcv5,cv6,fcv6,cv7,fcv7,cv8,fcv8,cv9,fcv9,cv10,fcv10,cv11,fcv11,cv12,fcv12,cv13,fcv13,lcv⟩:=Ql.many14 (h7);obtain⟨cu0,fcu0,cu1,fcu1,cu2,fcu2,cu3,fcu3,cu4,fcu4,cu5,fcu5,cu6,fcu6,cu7,fcu7,cu8,fcu8,cu9,fcu9,cu10,fcu10,cu11,fcu11,cu12,fcu12,cu13,fcu13,lcu⟩:=Ql.many14 (H55.out)
    obtain⟨c0,fc0,c1,fc1,c2,fc2,c3,fc3,c4,fc4,c5,fc5,c6,fc6,c7,fc7,c8,fc8,c9,fc9,c10,fc10,c11,fc11,c12,fc12,c13,fc13,lc⟩:=Ql.z14 (H15.out);go_wp2_with fail;have hz:=Ul (g:=g) HB5.out (by rw[HG.out];exact Q6 _) (.int .i64 1) (.slice (some ⟨wg.heap.size,0,none⟩) 2 2) (.int .i64 0) (.int .i64 0) (.string ⟨#[]⟩) (.int .i64 0) (.int .i64 0) (.int .i64 0) (.int .i64 0) (.int .i64 0) (.slice none 0 0) (.string ⟨#[]⟩) (.string ⟨#[]⟩) (.bool false);refine bodyPost_ret (v:=.tuple #[.agg #[.int .i64 1,.slice (some ⟨wg.heap.size,0,none⟩) 2 2,.int .i64 0,.int .i64 0,.string ⟨#[]⟩,.int .i64 0,.int .i64 0,.int .i64 0,.int .i64 0,.int .i64 0,.slice none 0 0,.string ⟨#[]⟩,.string ⟨#[]⟩,.bool false],.bool true]) ?_ rfl ?_
    · exact Zq Tryz.results72 rfl rfl ((H15.out.put14 _ _ _ _ _ _ _ _ _ _ _ _ _ _).old _) rfl
    · exact⟨⟨_,rfl,HB5.out.size,Q1q wg g _ _ _ _ _ _ _ _ _ _ _ _ _ _ _ _⟩,hz.alloc hz.size _⟩
theorem Q1p (h:Nat) (l:List Vl) (oa:Option Addr) (cap b o:Nat) (w:World) (hs:Zw w h oa cap b o l) (hl:l.map Vl.c=[.mk He [],.mk Cw [],An]) :
  Calls Tryz.prog 36 #[.slice oa 3 cap] w fun e w'=>(∃ gB,e=.returned (.agg #[.int .i64 1,.slice (some ⟨gB,0,none⟩) 2 2,.int .i64 0,.int .i64 0,.string ⟨#[]⟩,.int .i64 0,.int .i64 0,.int .i64 0,.int .i64 0,.int .i64 0,.slice none 0 0,.string ⟨#[]⟩,.string ⟨#[]⟩,.bool false])∧w.heap.size≤gB∧Ql w' gB 36 #[.int .i64 4,.slice none 0 0,.int .i64 2,.int .i64 0,.string ⟨#[115,99,114,101,101,110]⟩,.int .i64 0,.int .i64 0,.int .i64 0,.int .i64 0,.int .i64 0,.slice none 0 0,.string ⟨#[]⟩,.string ⟨#[]⟩,.bool false,.int .i64 4,.slice none 0 0,.int .i64 4,.int .i64 0,.string ⟨Js.toArray⟩,.int .i64 4,.int .i64 1,.int .i64 600,.int .i64 1,.int .i64 1,.slice none 0 0,.string ⟨#[]⟩,.string ⟨#[]⟩,.bool false])∧Below w.heap.size w w':=by
 obtain⟨h1,hb1⟩:=Z2 w 36 Zl;obtain⟨g,hg⟩:∃ g,w.heap.size=g:=⟨_,rfl⟩;have HP:=Q1 (Im h l oa cap b o _ (hs.below hb1) hl);rw[hg]at h1;have H1:=Q1 h1;have HB1:=Q1 hb1;have HG:=Q1 hg;clear h1 hb1 hs hl;simp only[Zl]at H1 HB1 HP
 go_enter Tryz.func36,Tryz.ntmps36
 go_upto_region 1 with fail
 try simp only[hg]
 clear hg;generalize World.alloc w _=wa at *;go_wp2_with fail
 ((with_reducible refine HP.out.mono ?_);rintro e wb ⟨⟨gB,rfl,hgB,hBB⟩,hbd⟩)
 have H4:=H1.out.below hbd H1.out.lt;have HB4:=J8 HB1 hbd;have hgB2:=Qz HB1.out.size hgB
 have hgn:g≠gB:=by have:=H1.out.lt;omega
 clear HP H1 HB1 hbd
 go_upto_region 2 with fail
 obtain⟨h5,hb5⟩:=Z2 wb 36 #[.int .i64 1,.slice (some ⟨gB,0,none⟩) 2 2,.int .i64 0,.int .i64 0,.string ⟨#[]⟩,.int .i64 0,.int .i64 0,.int .i64 0,.int .i64 0,.int .i64 0,.slice none 0 0,.string ⟨#[]⟩,.string ⟨#[]⟩,.bool false];have H6:=Q1 (H4.below hb5 H4.lt);have HBB:=Q1 (hBB.below hb5 hBB.lt);have HB6:=J8 HB4 hb5;clear H4 HB4 hb5 hBB;generalize wb.heap.size=g5 at *;generalize World.alloc wb _=wc at *;obtain⟨cv0,fcv0,cv1,fcv1,cv2,fcv2,cv3,fcv3,cv4,fcv4,cv5,fcv5,cv6,fcv6,cv7,fcv7,cv8,fcv8,cv9,fcv9,cv10,fcv10,cv11,fcv11,cv12,fcv12,cv13,fcv13,lcv⟩:=Ql.many14 (h5);clear h5;obtain⟨c0,fc0,c1,fc1,c2,fc2,c3,fc3,c4,fc4,c5,fc5,c6,fc6,c7,fc7,c8,fc8,c9,fc9,c10,fc10,c11,fc11,c12,fc12,c13,fc13,lc⟩:=Ql.z14 (H6.out);go_wp2_with fail
 refine bodyPost_ret (v:=.agg #[.int .i64 1,.slice (some ⟨gB,0,none⟩) 2 2,.int .i64 0,.int .i64 0,.string ⟨#[]⟩,.int .i64 0,.int .i64 0,.int .i64 0,.int .i64 0,.int .i64 0,.slice none 0 0,.string ⟨#[]⟩,.string ⟨#[]⟩,.bool false]) ?_ rfl ?_
 · exact Ey Tryz.results36 rfl (H6.out.put14 _ _ _ _ _ _ _ _ _ _ _ _ _ _) rfl
 · exact⟨⟨gB,rfl,hgB2,Q4w HBB.out hgn _ _ _ _ _ _ _ _ _ _ _ _ _ _⟩,Ul HB6.out (by rw[HG.out];exact Q6 _) _ _ _ _ _ _ _ _ _ _ _ _ _ _⟩
theorem Q7l:El 29 36 (.agg #[.int .i64 0,.slice none 0 0,.int .i64 0,.int .i64 0,.string ⟨#[]⟩,.int .i64 0,.int .i64 0,.int .i64 0,.int .i64 0,.int .i64 0,.slice none 0 0,.string ⟨#[]⟩,.string ⟨#[]⟩,.bool false]) 14 168:=⟨Tryz.underlying29,by kernel_rfl,rfl,by decide⟩
def awL:List Vt:=[.mk He [],.mk tsp [],.mk Cw [],.mk tsp [],An]
theorem Q6p:Jf 64 awL=true:=Q7u
theorem Q5a:Z9 awL=awL:=by rfl
theorem Q37:Y0 awL=[awL]:=by rfl
theorem Q6o:Ue awL=[.mk He [],.mk Cw [],An]:=by rfl
theorem Us.five {A:Nat→Prop} {h:Nat} {v:Value} {w:World} (hv:Us A h awL v w):∃ oa cap b o l,v=.slice oa 5 cap∧l.length=5∧l.map Vl.c=awL∧Zw w h oa cap b o l:=by
 obtain⟨oa,cap,b,o,l,rfl,hc,hs⟩:=hv
 have hl:l.length=5:=by rw[← Qj (f:=Vl.c),hc];rfl
 exact⟨oa,cap,b,o,l,by rw[hl],hl,hc,hs.here⟩
def Cb (h:Nat) (v:Value) (w:World):Prop:=∃ oa cap b D,v=.slice oa 3 cap∧Zw w h oa cap b 0 D∧D.map Vl.c=[.mk He [],.mk Cw [],An]
theorem N7 {h:Nat}:∀ v w1 w2,Cb h v w1→Below w1.heap.size w1 w2→Cb h v w2:=fun _ _ _ ⟨oa,cap,b,D,hv,hs,hc⟩ hb=>⟨oa,cap,b,D,hv,hs.below hb,hc⟩
def Q2d (B:Nat) (v:Value) (w:World):Prop:=∃ gB,v=.agg #[.int .i64 1,.slice (some ⟨gB,0,none⟩) 2 2,.int .i64 0,.int .i64 0,.string ⟨#[]⟩,.int .i64 0,.int .i64 0,.int .i64 0,.int .i64 0,.int .i64 0,.slice none 0 0,.string ⟨#[]⟩,.string ⟨#[]⟩,.bool false]∧B≤gB∧Ql w gB 36 #[.int .i64 4,.slice none 0 0,.int .i64 2,.int .i64 0,.string ⟨#[115,99,114,101,101,110]⟩,.int .i64 0,.int .i64 0,.int .i64 0,.int .i64 0,.int .i64 0,.slice none 0 0,.string ⟨#[]⟩,.string ⟨#[]⟩,.bool false,.int .i64 4,.slice none 0 0,.int .i64 4,.int .i64 0,.string ⟨Js.toArray⟩,.int .i64 4,.int .i64 1,.int .i64 600,.int .i64 1,.int .i64 1,.slice none 0 0,.string ⟨#[]⟩,.string ⟨#[]⟩,.bool false]
theorem M5 {B:Nat}:∀ v w1 w2,Q2d B v w1→Below w1.heap.size w1 w2→Q2d B v w2:=fun _ _ _ ⟨gB,hv,hg,hs⟩ hb=>⟨gB,hv,hg,hs.below hb hs.lt⟩
def Q4n (B:Nat) (cs:Array Value) (w:World):Prop:=Q2d B (.agg cs) w
theorem Si {B:Nat}:∀ v w1 w2,Q4n B v w1→Below w1.heap.size w1 w2→Q4n B v w2:=fun _ _ _ h hb=>M5 _ _ _ h hb
theorem Ij (h:Nat) (l:List Vl) (oa:Option Addr) (cap b o:Nat) (w:World) (hs:Zw w h oa cap b o l) (hl:l.map Vl.c=awL) :
  Calls Tryz.prog 10 #[.slice oa 5 cap] w fun e w'=>(∃ gB,e=.returned (.tuple #[.agg #[.int .i64 1,.slice (some ⟨gB,0,none⟩) 2 2,.int .i64 0,.int .i64 0,.string ⟨#[]⟩,.int .i64 0,.int .i64 0,.int .i64 0,.int .i64 0,.int .i64 0,.slice none 0 0,.string ⟨#[]⟩,.string ⟨#[]⟩,.bool false],.int .i64 0])∧w.heap.size≤gB∧Ql w' gB 36 #[.int .i64 4,.slice none 0 0,.int .i64 2,.int .i64 0,.string ⟨#[115,99,114,101,101,110]⟩,.int .i64 0,.int .i64 0,.int .i64 0,.int .i64 0,.int .i64 0,.slice none 0 0,.string ⟨#[]⟩,.string ⟨#[]⟩,.bool false,.int .i64 4,.slice none 0 0,.int .i64 4,.int .i64 0,.string ⟨Js.toArray⟩,.int .i64 4,.int .i64 1,.int .i64 600,.int .i64 1,.int .i64 1,.slice none 0 0,.string ⟨#[]⟩,.string ⟨#[]⟩,.bool false])∧Below w.heap.size w w':=by
 have hlen:l.length=5:=by rw[← Qj (f:=Vl.c),hl];rfl
 obtain⟨h1,hb1⟩:=Z2 w 36 Zl;obtain⟨g,hg⟩:∃ g,w.heap.size=g:=⟨_,rfl⟩;have hm:=Dw h l oa cap b o _ (hs.below hb1);rw[hl,hlen,Q6p]at hm;have HM:=Q1 hm;have HS:=Q1 (hs.below hb1);rw[hg]at h1;have H1:=Q1 h1;have HB1:=Q1 hb1;have HG:=Q1 hg;have HL:=Q1 (Q3 hl hlen);clear h1 hb1 hs hl hm hlen;simp only[Zl]at H1 HB1 HM HS
 go_enter Tryz.func10,Tryz.ntmps10
 go_upto_region 1 with fail
 try simp only[hg]
 clear hg;generalize World.alloc w _=wa at *;go_wp2_with fail
 ((with_reducible refine HM.out.mono ?_);rintro e wb ⟨rfl,hbb⟩)
 have ht:=G0 h l oa cap b o wb (HS.out.below hbb);rw[HL.out.1,HL.out.2,Q5a]at ht;have HT:=Q1 ht;have H2:=Q1 (H1.out.below hbb H1.out.lt);have HB2:=J8 HB1 hbb;clear HM HS HL H1 HB1 hbb ht;go_wp2_with fail
 ((with_reducible refine HT.out.mono ?_);rintro e wc ⟨⟨v,rfl,hv⟩,hbc⟩)
 obtain⟨oa2,cap2,b2,o2,l2,rfl,hl2,hc2,hs2⟩:=hv.five;have H3:=H2.out.below hbc H2.out.lt;have HB3:=J8 HB2 hbc;clear HT H2 HB2 hbc hv
 go_upto_region 7 with fail
 have hne4:=H3.lt;obtain⟨h4,hb4⟩:=Z2 wc 36 #[.int .i64 2,.slice none 0 0,.int .i64 0,.int .i64 0,.string ⟨#[]⟩,.int .i64 0,.int .i64 0,.int .i64 0,.int .i64 0,.int .i64 0,.slice none 0 0,.string ⟨#[]⟩,.string ⟨#[]⟩,.bool false];have hsp:=Lg h l2 oa2 cap2 b2 o2 _ (hs2.below hb4);rw[hc2,hl2,Q37]at hsp;have HSP:=Q1 hsp;have H4:=Q1 (Q3 (H3.below hb4 H3.lt) h4);have HB4:=J8 HB3 hb4;clear H3 HB3 hb4 h4 hs2 hsp hc2 hl2;generalize wc.heap.size=g4 at *;generalize World.alloc wc _=wd at *;go_wp2_with fail
 ((with_reducible refine HSP.out.mono ?_);rintro e we ⟨⟨v,rfl,hp⟩,hbe⟩)
 obtain⟨oa3,cap3,b3,D,rfl,hD,hSl,hP⟩:=hp;obtain⟨s,rfl⟩:=Zo.1 (show D.length=1 from hD);obtain⟨oa5,cap5,b5,o5,l5,rfl,hl5,hc5,hs5⟩:=(hP 0 s awL rfl rfl).five;obtain⟨rfl,hlb3⟩:=hSl.here.lies Nat.zero_lt_one;have d0:=hSl.here.cell 0 _ rfl;have H5:=Q1 (Q3 (H4.out.1.below hbe H4.out.1.lt) (H4.out.2.below hbe H4.out.2.lt));have HB5:=J8 HB4 hbe;have hcp3:=hSl.here.le;have HS5:=Q1 (Q3 hl5 (Q3 hc5 hs5));simp only[Z8,List.length_nil,Nat.zero_add,Nat.add_zero]at d0 hcp3 ⊢;clear H4 HB4 hbe HSP hD hSl hP hl5 hc5 hs5;go_wp2_with fail
 go_loopg [21] 1 (fun q s wr=>(s=.int .i64 0∧wr=we∧1≤q)∨(s=.int .i64 1∧∃ gB gk ck,w.heap.size<gB∧Hid (Below w.heap.size w wr)∧Hid (Ql wr g 36 Zl∧Ql wr g4 36 #[.int .i64 2,.slice (some ⟨gk,0,none⟩) 1 ck,.int .i64 0,.int .i64 0,.string ⟨#[]⟩,.int .i64 0,.int .i64 0,.int .i64 0,.int .i64 0,.int .i64 0,.slice none 0 0,.string ⟨#[]⟩,.string ⟨#[]⟩,.bool false])∧Hid (wr.ownsRow w.heap.size 36 14 (.slice (some ⟨gk,0,none⟩) 1 ck) 1 [.int .i64 1,.slice (some ⟨gB,0,none⟩) 2 2,.int .i64 0,.int .i64 0,.string ⟨#[]⟩,.int .i64 0,.int .i64 0,.int .i64 0,.int .i64 0,.int .i64 0,.slice none 0 0,.string ⟨#[]⟩,.string ⟨#[]⟩,.bool false])∧Hid (Ql wr gB 36 #[.int .i64 4,.slice none 0 0,.int .i64 2,.int .i64 0,.string ⟨#[115,99,114,101,101,110]⟩,.int .i64 0,.int .i64 0,.int .i64 0,.int .i64 0,.int .i64 0,.slice none 0 0,.string ⟨#[]⟩,.string ⟨#[]⟩,.bool false,.int .i64 4,.slice none 0 0,.int .i64 4,.int .i64 0,.string ⟨Js.toArray⟩,.int .i64 4,.int .i64 1,.int .i64 600,.int .i64 1,.int .i64 1,.slice none 0 0,.string ⟨#[]⟩,.string ⟨#[]⟩,.bool false])))
 case atStart=>exact .inl ⟨rfl,rfl,Q6 _⟩
 case round =>
  rcases hrel with ⟨rfl,rfl,hq⟩ | ⟨rfl,gB,gk,ck,hgB,hb,hH,hO,hBB⟩
  · obtain⟨c0,fc0,c1,fc1,c2,fc2,c3,fc3,c4,fc4,c5,fc5,c6,fc6,c7,fc7,c8,fc8,c9,fc9,c10,fc10,c11,fc11,c12,fc12,c13,fc13,lc⟩:=Ql.many14 (H5.out.2)
    go_upto_region 10 with fail
    refine Yn 6 [Qb.fw 3 28 (Cb h) N7,Qb.fw 4 29 (Q2d wr.heap.size) M5,Qb.rw 5 30 36 1 wr.heap.size (Q4n wr.heap.size) Si] (by kernel_rfl) rfl (by kernel_rfl) (by kernel_rfl) (by kernel_rfl) (by kernel_rfl) ?_;simp only[Jw,X6,List.find?,Qb.claim_i,Qb.cells_i,Qb.rowL_i,Qb.claim_hush,Qb.cells_hush,Qb.rowL_hush,Qb.val_i,Qb.rowS_i,Qb.val_hush,Qb.rowS_hush,Qb.fw_i,Qb.fw_hush,Qb.rw_i,Qb.rw_hush,Nat.reduceBEq,Nat.reduceAdd]
    repeat (go_big_quiet_step (fail))
    refine wpQuiet_nil ⟨fun V m2=>?_,fun V m2=>?_⟩
    · simp only[G8,Du,Qq,Qo,Vk,Ua,Ub,Uw,Qb.claim_i,Qb.cells_i,Qb.rowL_i,Act.put,Q2,Q4,Q5,Xc,Vn,Qb.val_i,Qb.rowS_i,Yk,Qb.fw_i,Yj,Qb.rw_i];refine⟨fun _=>?_,fun hw=>?_,fun hw=>?_,trivial⟩
      · have hsd:=Eu h l5 oa5 cap5 b5 o5 _ (HS5.out.2.2.below (Qk m2));rw[HS5.out.1,HS5.out.2.1,Q6o]at hsd;go_wp2_with fail
        ((with_reducible refine hsd.mono ?_);rintro e w8 ⟨⟨oa8,cap8,b8,D,rfl,hd8,hc8⟩,hb8⟩)
        have hl8:D.length=3:=by rw[← Qj (f:=Vl.c),hc8];rfl
        have HX:=Q1 (show Cb h (.slice oa8 3 cap8) w8 from ⟨_,_,_,_,rfl,hd8,hc8⟩);rw[hl8];clear hd8 hc8 hl8 hsd;go_wp2_with fail;exact Hm rfl HX.out hb8
      · obtain⟨h3,_⟩:=hw;have h3:Cb h (V 3) (grow wr m2):=h3 (by kernel_rfl);obtain⟨oa8,cap8,b8,D,hv,hd8,hc8⟩:=h3;have hq:=Q1p h D oa8 cap8 b8 0 _ hd8 hc8;rw[hv];clear hv hd8 hc8;go_wp2_with fail
        ((with_reducible refine hq.mono ?_);rintro e w9 ⟨⟨gB,rfl,hgB,hBB⟩,hb9⟩)
        have HX:=Q1 (show Q2d wr.heap.size _ w9 from ⟨gB,rfl,Qz (Zn m2) hgB,hBB⟩);clear hgB hBB hq;go_wp2_with fail;exact Hm rfl HX.out hb9
      · obtain⟨h3,h4,_⟩:=hw;have h4:Q2d wr.heap.size (V 4) (grow wr m2):=h4 (by kernel_rfl);have h4':=h4;obtain⟨gB,hv,hgB,hBB⟩:=h4;rw[hv]at h4' ⊢;have HX:=Q1 h4';clear h4' h3 hv hgB hBB;go_wp2_with fail;exact Q09 rfl (Zn m2) HX.out
    · simp only[Ge,Y8,Y9,Yx,D8,Gc,C7,C6,Gn,Ya,Yb,Yy,Df,Gl,Ck,Cj,Yz,Xl,Xm,Yc,Gq,Dg,Uj,Ui,Z4,List.drop_zero,and_true,Vk,Ua,Ub,Uw,Qb.claim_i,Qb.cells_i,Qb.rowL_i,Act.put,Q2,Q4,Q5,Xc,Vn,Qb.val_i,Qb.rowS_i,Yk,Qb.fw_i,Yj,Qb.rw_i];rintro⟨_,_,gb,cs,hv5,hgb,⟨gB,hcs,hgB,hBB⟩,hbk⟩ _;rw[hv5]
      injection hcs with hcs
      subst hcs;have hgm:=Qk m2;have c1z:=(hgm.cell (p:=⟨g4,1,none⟩) lc).trans c1;have fz1:=(hgm.frozen (p:=⟨g4,1,none⟩) lc).trans fc1;have HZ:=Q1 (Q3 (H5.out.1.below hgm H5.out.1.lt) (Q3 (H5.out.2.below hgm lc) hBB));have HBZ:=J8 HB5 hgm;have hlz:=Qg lc (Zn m2);have HGB:=Q1 (show w.heap.size<gB∧gB≠g4 by have:=HG.out;have:=H5.out.1.lt;omega);clear c0 fc0 c1 fc1 c2 fc2 c3 fc3 c4 fc4 c5 fc5 c6 fc6 c7 fc7 c8 fc8 c9 fc9 c10 fc10 c11 fc11 c12 fc12 c13 fc13 hgm hv5 hBB hgB;generalize grow wr m2=wz at *;have hbz:=HBZ.out.size;have HN:=Q1 (World.ownsRow_nil wz w.heap.size 36 14)
      go_wp2_with (at_builtin;refine J4 Q7l rfl _ _ rfl rfl HN.out hbz hbk 1 rfl rfl (by simp[Value.oneCell']) (by omega) (by omega) ?_;intro gg cap3 w3 ho3 hg3 hat hvb;replace hg3:wz.grownBy w3 none:=hg3;have H3:=Q1 (Q3 ho3 (Q3 hg3 hat));have cz:=(hg3.cell_far (a:=⟨g4,1,none⟩) hlz (by simp)).trans c1z;have fz:=(hg3.frozen_far (a:=⟨g4,1,none⟩) hlz (by simp)).trans fz1;clear ho3 hg3 hat hvb)
      go_roundg 0
      case measure=>omega
      case rel =>
       obtain⟨ho3,hg3,hat⟩:=H3.out;have hgg:wz.heap.size≤gg:=hat.elim (fun e=>by cases e) (fun e=>Qr e.symm);refine .inr ⟨rfl,gB,gg,cap3,HGB.out.1,Q1 ((Qu HBZ.out hg3 (fun _ e=>by cases e)).setCell (p:=⟨g4,1,none⟩) (show w.heap.size≤g4 by have:=HG.out;omega) _),Q1 ⟨?_,?_⟩,Q1 ?_,Q1 ?_⟩
       · exact(HZ.out.1.keeps hg3 (by simp)).far (p:=⟨g4,1,none⟩) (by simp;omega) _
       · exact(HZ.out.2.1.keeps hg3 (by simp)).put 1 _
       · exact ho3.kept (J9 w3 ⟨g4,1,none⟩ _) (.inr fun e=>by injection e with e;simp at e;omega)
       · exact(HZ.out.2.2.keeps hg3 (by simp)).far (p:=⟨g4,1,none⟩) (by simpa using HGB.out.2) _
  · obtain⟨c0,fc0,c1,fc1,c2,fc2,c3,fc3,c4,fc4,c5,fc5,c6,fc6,c7,fc7,c8,fc8,c9,fc9,c10,fc10,c11,fc11,c12,fc12,c13,fc13,lc⟩:=Ql.many14 (hH.out.2);obtain⟨e0,fe0,e1,fe1,e2,fe2,e3,fe3,e4,fe4,e5,fe5,e6,fe6,e7,fe7,e8,fe8,e9,fe9,e10,fe10,e11,fe11,e12,fe12,e13,fe13,le⟩:=Ql.z14 ((show Ql wr g 36 Zl from hH.out.1))
    obtain ⟨k0,k1,k2,k3,k4,k5,k6,k7,k8,k9,k10,k11,k12,k13⟩:=Q3t (b:=gk) (o:=0) fun j v hv=>by
     have:=Uv hO.out (i:=j) hv;rwa [Nat.zero_add]
    simp only[Nat.zero_add]at k0 k1 k2 k3 k4 k5 k6 k7 k8 k9 k10 k11 k12 k13;have hck:=G6 hO.out;go_wp2_with fail;refine bodyPost_ret (v:=.tuple #[.agg #[.int .i64 1,.slice (some ⟨gB,0,none⟩) 2 2,.int .i64 0,.int .i64 0,.string ⟨#[]⟩,.int .i64 0,.int .i64 0,.int .i64 0,.int .i64 0,.int .i64 0,.slice none 0 0,.string ⟨#[]⟩,.string ⟨#[]⟩,.bool false],.int .i64 0]) ?_ rfl ?_
    · exact Zq Tryz.results10 rfl rfl (hH.out.1.put14 _ _ _ _ _ _ _ _ _ _ _ _ _ _) rfl
    · exact⟨⟨gB,rfl,Zg hgB,Q4w hBB.out (by have:=HG.out;omega) _ _ _ _ _ _ _ _ _ _ _ _ _ _⟩,Ul hb.out (by rw[HG.out];exact Q6 _) _ _ _ _ _ _ _ _ _ _ _ _ _ _⟩
end Go.Proofs.YtnanffmhbjdpaaaGreatDoor
