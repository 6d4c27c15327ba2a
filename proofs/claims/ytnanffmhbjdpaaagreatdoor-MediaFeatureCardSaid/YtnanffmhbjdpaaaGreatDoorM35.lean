/- Of my texts: AwaF, WalkFeat. -/
import Derived.Test.YtnanffmhbjdpaaaGreatDoorM00
import Derived.Test.YtnanffmhbjdpaaaGreatDoorM05
import Derived.Test.YtnanffmhbjdpaaaGreatDoorM26
import Derived.Test.YtnanffmhbjdpaaaGreatDoorM28
import Derived.Test.YtnanffmhbjdpaaaGreatDoorM31
import Derived.Test.YtnanffmhbjdpaaaGreatDoorM32
import Derived.Test.YtnanffmhbjdpaaaGreatDoorM33
import Derived.Test.YtnanffmhbjdpaaaGreatDoorM34
namespace Go.Proofs.YtnanffmhbjdpaaaGreatDoor
set_option maxHeartbeats 16000000
set_option maxRecDepth 20000
set_option linter.unusedVariables false
set_option linter.unusedSimpArgs false
open Go.RowKit
theorem Q21 (w:World):Calls Tryz.prog 33 #[] w fun e w'=>e=.returned (.agg #[.bool false,.int .i64 800,.int .i64 1,.int .i64 600,.int .i64 1,.int .i64 16,.int .i64 1,.int .i64 8,.int .i64 1,.string ⟨#[108,105,103,104,116]⟩,.string ⟨#[104,111,118,101,114]⟩,.string ⟨#[102,105,110,101]⟩,.string ⟨#[110,111,45,112,114,101,102,101,114,101,110,99,101]⟩])∧Below w.heap.size w w':=by
 obtain⟨h1,hb1⟩:=Z2 w 65 #[.bool false,.int .i64 0,.int .i64 0,.int .i64 0,.int .i64 0,.int .i64 0,.int .i64 0,.int .i64 0,.int .i64 0,.string ⟨#[]⟩,.string ⟨#[]⟩,.string ⟨#[]⟩,.string ⟨#[]⟩];obtain⟨g,hg⟩:∃ g,w.heap.size=g:=⟨_,rfl⟩;rw[hg]at h1;have H:=Q1 (Q3 h1 hb1);have HG:=Q1 hg;have HI:=Q1 Cc;simp only[rv]at HI;clear h1 hb1
 go_enter Tryz.func33,Tryz.ntmps33
 go_upto_region 1 with fail
 try simp only[hg]
 clear hg;generalize World.alloc w _=wa at *;go_wp2_with fail
 ((with_reducible refine(HI.out 800 _).mono ?_);rintro e w2 ⟨rfl,hb2⟩)
 replace H:=Q1 (Q3 (H.out.1.below hb2 H.out.1.lt) (J8 (Q1 H.out.2) hb2).out);clear hb2;go_wp2_with fail
 ((with_reducible refine(HI.out 600 _).mono ?_);rintro e w3 ⟨rfl,hb3⟩)
 replace H:=Q1 (Q3 (H.out.1.below hb3 H.out.1.lt) (J8 (Q1 H.out.2) hb3).out);clear hb3;go_wp2_with fail
 ((with_reducible refine(HI.out 16 _).mono ?_);rintro e w4 ⟨rfl,hb4⟩)
 replace H:=Q1 (Q3 (H.out.1.below hb4 H.out.1.lt) (J8 (Q1 H.out.2) hb4).out);clear hb4;go_wp2_with fail
 ((with_reducible refine(HI.out 8 _).mono ?_);rintro e w5 ⟨rfl,hb5⟩)
 replace H:=Q1 (Q3 (H.out.1.below hb5 H.out.1.lt) (J8 (Q1 H.out.2) hb5).out);clear hb5;have c0:w5.cell? ⟨g,0,none⟩=some (.bool false):=(H.out.1).cell 0;have fc0:=(H.out.1).frozen 0;have c1:w5.cell? ⟨g,1,none⟩=some (.int .i64 0):=(H.out.1).cell 1;have fc1:=(H.out.1).frozen 1;have c2:w5.cell? ⟨g,2,none⟩=some (.int .i64 0):=(H.out.1).cell 2;have fc2:=(H.out.1).frozen 2;have c3:w5.cell? ⟨g,3,none⟩=some (.int .i64 0):=(H.out.1).cell 3;have fc3:=(H.out.1).frozen 3;have c4:w5.cell? ⟨g,4,none⟩=some (.int .i64 0):=(H.out.1).cell 4;have fc4:=(H.out.1).frozen 4;have c5:w5.cell? ⟨g,5,none⟩=some (.int .i64 0):=(H.out.1).cell 5;have fc5:=(H.out.1).frozen 5;have c6:w5.cell? ⟨g,6,none⟩=some (.int .i64 0):=(H.out.1).cell 6;have fc6:=(H.out.1).frozen 6;have c7:w5.cell? ⟨g,7,none⟩=some (.int .i64 0):=(H.out.1).cell 7;have fc7:=(H.out.1).frozen 7
 have c8:w5.cell? ⟨g,8,none⟩=some (.int .i64 0):=(H.out.1).cell 8;have fc8:=(H.out.1).frozen 8;have c9:w5.cell? ⟨g,9,none⟩=some (.string ⟨#[]⟩):=(H.out.1).cell 9;have fc9:=(H.out.1).frozen 9;have c10:w5.cell? ⟨g,10,none⟩=some (.string ⟨#[]⟩):=(H.out.1).cell 10;have fc10:=(H.out.1).frozen 10;have c11:w5.cell? ⟨g,11,none⟩=some (.string ⟨#[]⟩):=(H.out.1).cell 11;have fc11:=(H.out.1).frozen 11;have c12:w5.cell? ⟨g,12,none⟩=some (.string ⟨#[]⟩):=(H.out.1).cell 12;have fc12:=(H.out.1).frozen 12;have lc:=(H.out.1).lt;go_wp2_with fail
 have hz:=Gr [.bool false,.int .i64 800,.int .i64 1,.int .i64 600,.int .i64 1,.int .i64 16,.int .i64 1,.int .i64 8,.int .i64 1,.string ⟨#[108,105,103,104,116]⟩,.string ⟨#[104,111,118,101,114]⟩,.string ⟨#[102,105,110,101]⟩,.string ⟨#[110,111,45,112,114,101,102,101,114,101,110,99,101]⟩] [.bool false,.int .i64 0,.int .i64 0,.int .i64 0,.int .i64 0,.int .i64 0,.int .i64 0,.int .i64 0,.int .i64 0,.string ⟨#[]⟩,.string ⟨#[]⟩,.string ⟨#[]⟩,.string ⟨#[]⟩] _ 0 [] H.out.1 rfl rfl;have hbz:=H.out.2.trans ((V3 [.bool false,.int .i64 800,.int .i64 1,.int .i64 600,.int .i64 1,.int .i64 16,.int .i64 1,.int .i64 8,.int .i64 1,.string ⟨#[108,105,103,104,116]⟩,.string ⟨#[104,111,118,101,114]⟩,.string ⟨#[102,105,110,101]⟩,.string ⟨#[110,111,45,112,114,101,102,101,114,101,110,99,101]⟩] _ g 0).mono (by rw[HG.out];exact Q6 _));simp only[J5,Nat.zero_add,Nat.reduceAdd]at hz hbz
 refine bodyPost_ret (v:=.agg #[.bool false,.int .i64 800,.int .i64 1,.int .i64 600,.int .i64 1,.int .i64 16,.int .i64 1,.int .i64 8,.int .i64 1,.string ⟨#[108,105,103,104,116]⟩,.string ⟨#[104,111,118,101,114]⟩,.string ⟨#[102,105,110,101]⟩,.string ⟨#[110,111,45,112,114,101,102,101,114,101,110,99,101]⟩]) ?_ rfl ⟨rfl,hbz⟩;exact results_cell_row Tryz.results33 _ _ _ _ _ (0,0) _ rfl hz Tryz.underlying65 rfl (by kernel_rfl)
theorem Q7v:∀ t∈Bk,Bo t:=fun t ht=>by
 unfold Bk awK He Cw tsp P0 at ht;simp only[Zh,List.mem_cons,List.not_mem_nil,or_false]at ht
 rcases ht with ((rfl|rfl|rfl|rfl|rfl) | (rfl|rfl|rfl|rfl)) | rfl<;>exact As (by decide)
theorem Hc (w:World) (hK:Kd w):Calls Tryz.prog 9 #[] w fun e w'=>e=.returned (.bool true)∧Below w.heap.size w w':=by
 have ho:=Q61 w hK Q7v;rw[Ah]at ho;have HO:=Q1 (show Calls Tryz.prog 31 #[.string ⟨#[115,99,114,101,101,110,32,97,110,100,32,40,109,105,110,45,119,105,100,116,104,58,32,54,48,48,112,120,41]⟩] w fun e w'=>(∃ v,e=.returned v∧∃ h,Us (· < w.heap.size) h awL v w')∧Below w.heap.size w w' from ho);clear ho hK
 go_enter Tryz.func9,Tryz.ntmps9
 go_wp2_with fail
 ((with_reducible refine HO.out.mono ?_);rintro e wa ⟨⟨v,rfl,h,hv⟩,hba⟩)
 obtain⟨oa,cap,b,o,l,rfl,hl,hc,hs⟩:=hv.five;have HP:=Q1 (Ij h l oa cap b o wa hs hc);have HB:=Q1 hba;clear HO hv hl hc hs hba;go_wp2_with fail
 ((with_reducible refine HP.out.mono ?_);rintro e wb ⟨⟨gB,rfl,-,hB⟩,hbb⟩)
 have HB2:=J8 HB hbb;have hB':Ql wb gB 36 #[.int .i64 4,.slice none 0 0,.int .i64 2,.int .i64 0,.string ⟨#[115,99,114,101,101,110]⟩,.int .i64 0,.int .i64 0,.int .i64 0,.int .i64 0,.int .i64 0,.slice none 0 0,.string ⟨#[]⟩,.string ⟨#[]⟩,.bool false,.int .i64 4,.slice none 0 0,.int .i64 4,.int .i64 0,.string ⟨#[119,105,100,116,104]⟩,.int .i64 4,.int .i64 1,.int .i64 600,.int .i64 1,.int .i64 1,.slice none 0 0,.string ⟨#[]⟩,.string ⟨#[]⟩,.bool false]:=hB;clear HP hB hbb HB
 go_upto_region 2 with fail
 obtain⟨h1,hb1⟩:=Z2 wb 36 #[.int .i64 1,.slice (some ⟨gB,0,none⟩) 2 2,.int .i64 0,.int .i64 0,.string ⟨#[]⟩,.int .i64 0,.int .i64 0,.int .i64 0,.int .i64 0,.int .i64 0,.slice none 0 0,.string ⟨#[]⟩,.string ⟨#[]⟩,.bool false];have HX:=Q1 (hB'.below hb1 hB'.lt);have HB3:=J8 HB2 hb1;clear hB' hb1 HB2;generalize wb.heap.size=g at *;generalize World.alloc wb _=wc at *;obtain⟨c0,fc0,c1,fc1,c2,fc2,c3,fc3,c4,fc4,c5,fc5,c6,fc6,c7,fc7,c8,fc8,c9,fc9,c10,fc10,c11,fc11,c12,fc12,c13,fc13,lc⟩:=Ql.many14 (h1);clear h1
 have KEEP:=Q1 (show ∀ wx,Bel wc wx→wx.cell? ⟨g,0,none⟩=some (.int .i64 1)∧wx.cell? ⟨g,1,none⟩=some (.slice (some ⟨gB,0,none⟩) 2 2)∧wx.cell? ⟨g,2,none⟩=some (.int .i64 0)∧wx.cell? ⟨g,3,none⟩=some (.int .i64 0)∧wx.cell? ⟨g,4,none⟩=some (.string ⟨#[]⟩)∧wx.cell? ⟨g,5,none⟩=some (.int .i64 0)∧wx.cell? ⟨g,6,none⟩=some (.int .i64 0)∧wx.cell? ⟨g,7,none⟩=some (.int .i64 0)∧wx.cell? ⟨g,8,none⟩=some (.int .i64 0)∧wx.cell? ⟨g,9,none⟩=some (.int .i64 0)∧wx.cell? ⟨g,10,none⟩=some (.slice none 0 0)∧wx.cell? ⟨g,11,none⟩=some (.string ⟨#[]⟩)∧wx.cell? ⟨g,12,none⟩=some (.string ⟨#[]⟩)∧wx.cell? ⟨g,13,none⟩=some (.bool false) from fun wx hx=>⟨(hx.out.cell (p:=⟨g,0,none⟩) lc).trans c0,(hx.out.cell (p:=⟨g,1,none⟩) lc).trans c1,(hx.out.cell (p:=⟨g,2,none⟩) lc).trans c2,(hx.out.cell (p:=⟨g,3,none⟩) lc).trans c3,(hx.out.cell (p:=⟨g,4,none⟩) lc).trans c4,(hx.out.cell (p:=⟨g,5,none⟩) lc).trans c5,(hx.out.cell (p:=⟨g,6,none⟩) lc).trans c6,(hx.out.cell (p:=⟨g,7,none⟩) lc).trans c7,(hx.out.cell (p:=⟨g,8,none⟩) lc).trans c8,(hx.out.cell (p:=⟨g,9,none⟩) lc).trans c9,(hx.out.cell (p:=⟨g,10,none⟩) lc).trans c10,(hx.out.cell (p:=⟨g,11,none⟩) lc).trans c11,(hx.out.cell (p:=⟨g,12,none⟩) lc).trans c12,(hx.out.cell (p:=⟨g,13,none⟩) lc).trans c13⟩)
 refine wp_region_held_drew (S:=(fun wx=>wx.cell? ⟨g,0,none⟩=some (.int .i64 1)∧wx.cell? ⟨g,1,none⟩=some (.slice (some ⟨gB,0,none⟩) 2 2)∧wx.cell? ⟨g,2,none⟩=some (.int .i64 0)∧wx.cell? ⟨g,3,none⟩=some (.int .i64 0)∧wx.cell? ⟨g,4,none⟩=some (.string ⟨#[]⟩)∧wx.cell? ⟨g,5,none⟩=some (.int .i64 0)∧wx.cell? ⟨g,6,none⟩=some (.int .i64 0)∧wx.cell? ⟨g,7,none⟩=some (.int .i64 0)∧wx.cell? ⟨g,8,none⟩=some (.int .i64 0)∧wx.cell? ⟨g,9,none⟩=some (.int .i64 0)∧wx.cell? ⟨g,10,none⟩=some (.slice none 0 0)∧wx.cell? ⟨g,11,none⟩=some (.string ⟨#[]⟩)∧wx.cell? ⟨g,12,none⟩=some (.string ⟨#[]⟩)∧wx.cell? ⟨g,13,none⟩=some (.bool false))) (by kernel_rfl) (by (try dsimp only);go_keep) (fun hHeld=>?_);have HL7:=Q1 (show Below wc.heap.size wc wc.drew from (Below.refl _ _).drew);generalize wc.drew=w7 at *
 refine wpAnyH_take (i:=0) (v:=?hvv0_1) rfl (by kernel_rfl) (by kernel_rfl) (by kernel_rfl) (fun _ _ _ h=>h) (Or.inl ⟨by rfl,?hhy0_1⟩) (by assumption) ?_
 case hhy0_1=>(intro w hSw;(try dsimp only at hSw);go_simp;try with_reducible rfl)
 change wpAnyH _ _ _ _ _ _ _ (Act.put _ (some 8) _) _
 try simp only[Act.put,Q2,Q4,Q5]
 refine wpAnyH_take (i:=1) (v:=?hvv1_2) rfl (by kernel_rfl) (by kernel_rfl) (by kernel_rfl) (fun _ _ _ h=>h) (Or.inl ⟨by rfl,?hhy1_2⟩) (by assumption) ?_
 case hhy1_2=>(intro w hSw;(try dsimp only at hSw);go_simp;try with_reducible rfl)
 change wpAnyH _ _ _ _ _ _ _ (Act.put _ (some 9) _) _
 try simp only[Act.put,Q2,Q4,Q5]
 refine wpAnyH_take (i:=2) (v:=?hvv2_3) rfl (by kernel_rfl) (by kernel_rfl) (by kernel_rfl) (fun _ _ _ h=>h) (Or.inl ⟨by rfl,?hhy2_3⟩) (by assumption) ?_
 case hhy2_3=>(intro w hSw;(try dsimp only at hSw);go_simp;try with_reducible rfl)
 change wpAnyH _ _ _ _ _ _ _ (Act.put _ (some 10) _) _
 try simp only[Act.put,Q2,Q4,Q5]
 refine wpAnyH_take (i:=3) (v:=?hvv3_4) rfl (by kernel_rfl) (by kernel_rfl) (by kernel_rfl) (fun _ _ _ h=>h) (Or.inl ⟨by rfl,?hhy3_4⟩) (by assumption) ?_
 case hhy3_4=>(intro w hSw;(try dsimp only at hSw);go_simp;try with_reducible rfl)
 change wpAnyH _ _ _ _ _ _ _ (Act.put _ (some 11) _) _
 try simp only[Act.put,Q2,Q4,Q5]
 refine wpAnyH_take (i:=4) (v:=?hvv4_5) rfl (by kernel_rfl) (by kernel_rfl) (by kernel_rfl) (fun _ _ _ h=>h) (Or.inl ⟨by rfl,?hhy4_5⟩) (by assumption) ?_
 case hhy4_5=>(intro w hSw;(try dsimp only at hSw);go_simp;try with_reducible rfl)
 change wpAnyH _ _ _ _ _ _ _ (Act.put _ (some 12) _) _
 try simp only[Act.put,Q2,Q4,Q5]
 refine wpAnyH_take (i:=5) (v:=?hvv5_6) rfl (by kernel_rfl) (by kernel_rfl) (by kernel_rfl) (fun _ _ _ h=>h) (Or.inl ⟨by rfl,?hhy5_6⟩) (by assumption) ?_
 case hhy5_6=>(intro w hSw;(try dsimp only at hSw);go_simp;try with_reducible rfl)
 change wpAnyH _ _ _ _ _ _ _ (Act.put _ (some 13) _) _
 try simp only[Act.put,Q2,Q4,Q5]
 refine wpAnyH_take (i:=6) (v:=?hvv6_7) rfl (by kernel_rfl) (by kernel_rfl) (by kernel_rfl) (fun _ _ _ h=>h) (Or.inl ⟨by rfl,?hhy6_7⟩) (by assumption) ?_
 case hhy6_7=>(intro w hSw;(try dsimp only at hSw);go_simp;try with_reducible rfl)
 change wpAnyH _ _ _ _ _ _ _ (Act.put _ (some 14) _) _
 try simp only[Act.put,Q2,Q4,Q5]
 refine wpAnyH_take (i:=7) (v:=?hvv7_8) rfl (by kernel_rfl) (by kernel_rfl) (by kernel_rfl) (fun _ _ _ h=>h) (Or.inl ⟨by rfl,?hhy7_8⟩) (by assumption) ?_
 case hhy7_8=>(intro w hSw;(try dsimp only at hSw);go_simp;try with_reducible rfl)
 change wpAnyH _ _ _ _ _ _ _ (Act.put _ (some 15) _) _
 try simp only[Act.put,Q2,Q4,Q5]
 refine wpAnyH_take (i:=8) (v:=?hvv8_9) rfl (by kernel_rfl) (by kernel_rfl) (by kernel_rfl) (fun _ _ _ h=>h) (Or.inl ⟨by rfl,?hhy8_9⟩) (by assumption) ?_
 case hhy8_9=>(intro w hSw;(try dsimp only at hSw);go_simp;try with_reducible rfl)
 change wpAnyH _ _ _ _ _ _ _ (Act.put _ (some 16) _) _
 try simp only[Act.put,Q2,Q4,Q5]
 refine wpAnyH_ready (rs:=[9]) (by kernel_rfl) (by simp) ?_;refine AllReadyH.cons rfl (fun K hK=>?_) AllReadyH.nil
 go_simp
 ((with_reducible refine(Q21 _).mono ?_);rintro e w8 ⟨rfl,hb8⟩)
 have hbl:Below wc.heap.size wc w8:=HL7.out.trans (hb8.mono HL7.out.size);refine hK.out _ _ (KEEP.out _ ⟨hbl⟩) (fun hHeld=>?_);have HL8:=Q1 hbl;have HV:=Q1 (Q26 gB w8 (HX.out.below hbl HX.out.lt));clear hK K hb8 hbl HL7;refine wpAnyH_ready (rs:=[10]) (by kernel_rfl) (by simp) ?_;refine AllReadyH.cons rfl (fun K hK=>?_) AllReadyH.nil
 go_simp
 ((with_reducible refine HV.out.mono ?_);rintro e w9 ⟨rfl,hb9⟩)
 have hbl:Below wc.heap.size wc w9:=HL8.out.trans (hb9.mono HL8.out.size);refine hK.out _ _ (KEEP.out _ ⟨hbl⟩) (fun hHeld=>?_);have HL9:=Q1 hbl;clear hK K hb9 hbl HL8;refine wpAnyH_take (i:=11) (v:=?hvv11_10) rfl (by kernel_rfl) (by kernel_rfl) (by kernel_rfl) (fun _ _ _ h=>h) (Or.inl ⟨by rfl,?hhy11_10⟩) (by assumption) ?_
 case hhy11_10=>(intro w hSw;(try dsimp only at hSw);go_simp;try with_reducible rfl)
 change wpAnyH _ _ _ _ _ _ _ (Act.put _ (some 19) _) _
 try simp only[Act.put,Q2,Q4,Q5]
 refine wpAnyH_take (i:=12) (v:=?hvv12_11) rfl (by kernel_rfl) (by kernel_rfl) (by kernel_rfl) (fun _ _ _ h=>h) (Or.inl ⟨by rfl,?hhy12_11⟩) (by assumption) ?_
 case hhy12_11=>(intro w hSw;(try dsimp only at hSw);go_simp;try with_reducible rfl)
 change wpAnyH _ _ _ _ _ _ _ (Act.put _ (some 20) _) _
 try simp only[Act.put,Q2,Q4,Q5]
 refine wpAnyH_take (i:=13) (v:=?hvv13_12) rfl (by kernel_rfl) (by kernel_rfl) (by kernel_rfl) (fun _ _ _ h=>h) (Or.inl ⟨by rfl,?hhy13_12⟩) (by assumption) ?_
 case hhy13_12=>(intro w hSw;(try dsimp only at hSw);go_simp;try with_reducible rfl)
 change wpAnyH _ _ _ _ _ _ _ (Act.put _ (some 0) _) _
 try simp only[Act.put,Q2,Q4,Q5]
 refine wpAnyH_done (by kernel_rfl) ?_ _;have HB4:=J8 HB3 HL9.out;clear KEEP;go_wp2_with fail;go_ret;exact⟨rfl,HB4.out⟩
theorem F6 (h:Nat) (tk tn td:Int) (tt:List UInt8) (ti tid:Bool) (koa:Option Addr) (kb ko kcap:Nat) (kids:List Vl) (w:World) (hv:Uu w (h+1) (.mk ⟨tk,tt,(tn,td),ti,tid⟩ koa kb ko kcap kids)) (box:Bool) (hK:Kd w) :
  Calls Tryz.prog 3 #[.agg #[.int .i64 tk,.string ⟨tt.toArray⟩,.int .i64 tn,.int .i64 td,.bool ti,.bool tid,.slice koa kids.length kcap],.bool box] w fun e w'=>e=.returned (.bool true)∧Below w.heap.size w w':=by
 obtain⟨Y,hY⟩:∃ Y,O9 (Jx h) (.mk ⟨tk,tt,(tn,td),ti,tid⟩ (kids.map Vl.c)) box=Y:=⟨_,rfl⟩
 have hP:=fun w (hv:Uu w (h+1) (.mk ⟨tk,tt,(tn,td),ti,tid⟩ koa kb ko kcap kids))=>Cg h tk tn td tt ti tid koa kb ko kcap kids w hv box
 have hR:=fun w (hv:Uu w (h+1) (.mk ⟨tk,tt,(tn,td),ti,tid⟩ koa kb ko kcap kids))=>M8 h tk tn td tt ti tid koa kb ko kcap kids w hv box
 simp only[Q2l (Jx h) (Q2n h),hY]at hP hR;obtain⟨K,hKL⟩:∃ K,kids.length=K:=⟨_,rfl⟩;rw[hKL]at hP hR ⊢;obtain⟨h1,hb1⟩:=Z2 w 28 #[.int .i64 tk,.string ⟨tt.toArray⟩,.int .i64 tn,.int .i64 td,.bool ti,.bool tid,.slice koa K kcap];obtain⟨g,hg⟩:∃ g,w.heap.size=g:=⟨_,rfl⟩;have HV:=Q1 (hv.below (h+1) hb1);have HKD:=Q1 (hK.below hb1);have HP:=Q1 hP;have HR:=Q1 hR;rw[hg]at h1;have H1:=Q1 h1;have HB:=Q1 hb1;clear h1 hb1 hv hK hP hR hY hKL
 go_enter Tryz.func3,Tryz.ntmps3
 go_upto_region 1 with fail
 try simp only[hg]
 clear hg;generalize World.alloc w _=wa at *;obtain⟨c0,fc0,c1,fc1,c2,fc2,c3,fc3,c4,fc4,c5,fc5,c6,fc6,lc⟩:=Ql.seven (H1.out);go_wp2_with fail
 ((with_reducible refine(HP.out _ HV.out).mono ?_);rintro e wb ⟨⟨v,rfl,hC⟩,hbb⟩)
 obtain⟨pk,poa,pn,pc,pk2,pt,pnm,pop,pe0,pe1,pe2,pe3,pea,pen,pec,pwd,pvl,pan,rfl⟩:=hC.c14
 go_upto_region 2 with fail
 obtain⟨h5,hb5⟩:=Z2 wb 36 #[.int .i64 pk,.slice poa pn pc,.int .i64 pk2,.int .i64 pt,.string pnm,.int .i64 pop,.int .i64 pe0,.int .i64 pe1,.int .i64 pe2,.int .i64 pe3,.slice pea pen pec,.string pwd,.string pvl,.bool pan];have hbc:=hbb.trans (hb5.mono hbb.size);have HC:=Q1 (hC.below hb5);have hg5:=(J8 HB hbb).out.size;have HG5:=Q1 hg5;have HV2:=Q1 (HV.out.below (h+1) hbc);have HKD2:=Q1 (HKD.out.below hbc);have H2:=Q1 (Q3 (H1.out.below hbc lc) h5);have HB2:=J8 HB hbc;clear c0 c1 c2 c3 c4 c5 c6 fc0 fc1 fc2 fc3 fc4 fc5 fc6 lc hbb hb5 hbc HB H1 HV HKD h5 hC HP hg5;generalize wb.heap.size=g5 at *;generalize World.alloc wb _=wc at *;obtain⟨c0,fc0,c1,fc1,c2,fc2,c3,fc3,c4,fc4,c5,fc5,c6,fc6,lc⟩:=Ql.seven (H2.out.1);go_wp2_with fail
 ((with_reducible refine(HR.out _ HV2.out).mono ?_);rintro e wd ⟨⟨v,ok,rfl,hok,⟨qk,qoa,qn,qc,qk2,qt,qnm,qop,qe0,qe1,qe2,qe3,qea,qen,qec,qwd,qvl,qan,rfl⟩,hD⟩,hbd⟩)
 go_upto_region 3 with fail
 obtain⟨h7,hb7⟩:=Z2 wd 36 #[.int .i64 qk,.slice qoa qn qc,.int .i64 qk2,.int .i64 qt,.string qnm,.int .i64 qop,.int .i64 qe0,.int .i64 qe1,.int .i64 qe2,.int .i64 qe3,.slice qea qen qec,.string qwd,.string qvl,.bool qan];have hbc:=hbd.trans (hb7.mono hbd.size);have HC2:=Q1 (((HC.out.below hbd).anti (A':=(·=wd.heap.size)) fun b hb=>.inr (Qr hb.symm)).below hb7);have HD:=Q1 (show ∀ C,Y=some C→Vj _ C (.agg #[.int .i64 qk,.slice qoa qn qc,.int .i64 qk2,.int .i64 qt,.string qnm,.int .i64 qop,.int .i64 qe0,.int .i64 qe1,.int .i64 qe2,.int .i64 qe3,.slice qea qen qec,.string qwd,.string qvl,.bool qan]) _ from fun C hC=>(hD C hC).below hb7);have HKD3:=Q1 (fun W (h:Below wd.heap.size wd W)=>(HKD2.out.below hbd).below h);have HB7:=Q1 hb7;have h52:=H2.out.2.below hbc H2.out.2.lt;have hg57:g5<wd.heap.size:=(H2.out.2.below hbd H2.out.2.lt).lt;have H3:=Q1 h52
 have HB3:=J8 HB2 hbc;have HB2S:=Q1 (show w.heap.size≤g5 from HG5.out);clear c0 c1 c2 c3 c4 c5 c6 fc0 fc1 fc2 fc3 fc4 fc5 fc6 lc hbd hb7 hbc HB2 H2 HV2 HKD2 hD HC HR h52;generalize wd.heap.size=g7 at *;generalize World.alloc wd _=we at *;have H7:=Q1 h7;clear h7
 cases Y with
 | none =>
   obtain rfl:ok=false:=hok;simp only[Option.isSome_none,Option.getD_none]at HC2 ⊢;obtain⟨d0,fd0,d1,fd1,d2,fd2,d3,fd3,d4,fd4,d5,fd5,d6,fd6,d7,fd7,d8,fd8,d9,fd9,d10,fd10,d11,fd11,d12,fd12,d13,fd13,ld⟩:=Ql.many14 (H7.out)
   go_upto_region 5 with fail
   have hz:=Gr [.int .i64 0,.slice none 0 0,.int .i64 0,.int .i64 0,.string ⟨#[]⟩,.int .i64 0,.int .i64 0,.int .i64 0,.int .i64 0,.int .i64 0,.slice none 0 0,.string ⟨#[]⟩,.string ⟨#[]⟩,.bool false] [.int .i64 qk,.slice qoa qn qc,.int .i64 qk2,.int .i64 qt,.string qnm,.int .i64 qop,.int .i64 qe0,.int .i64 qe1,.int .i64 qe2,.int .i64 qe3,.slice qea qen qec,.string qwd,.string qvl,.bool qan] we 0 [] H7.out rfl rfl;simp only[J5,Nat.zero_add,Nat.reduceAdd]at hz;have hgz:=Qm [.int .i64 0,.slice none 0 0,.int .i64 0,.int .i64 0,.string ⟨#[]⟩,.int .i64 0,.int .i64 0,.int .i64 0,.int .i64 0,.int .i64 0,.slice none 0 0,.string ⟨#[]⟩,.string ⟨#[]⟩,.bool false] we g7 0;simp only[J5,Nat.zero_add,Nat.reduceAdd]at hgz;have HC4:=Q1 (HC2.out.grown hgz fun k e _=>(Q8 e).symm)
   have HZ:=Q1 (Q3 hz (Q4w (g:=g7) H3.out (by omega) (.int .i64 0) (.slice none 0 0) (.int .i64 0) (.int .i64 0) (.string ⟨#[]⟩) (.int .i64 0) (.int .i64 0) (.int .i64 0) (.int .i64 0) (.int .i64 0) (.slice none 0 0) (.string ⟨#[]⟩) (.string ⟨#[]⟩) (.bool false)));have HB8:=Q1 (Ul HB7.out (Q6 g7) (.int .i64 0) (.slice none 0 0) (.int .i64 0) (.int .i64 0) (.string ⟨#[]⟩) (.int .i64 0) (.int .i64 0) (.int .i64 0) (.int .i64 0) (.int .i64 0) (.slice none 0 0) (.string ⟨#[]⟩) (.string ⟨#[]⟩) (.bool false));have HB9:=Q1 (Ul HB3.out (Qz HB2S.out (Zg hg57)) (.int .i64 0) (.slice none 0 0) (.int .i64 0) (.int .i64 0) (.string ⟨#[]⟩) (.int .i64 0) (.int .i64 0) (.int .i64 0) (.int .i64 0) (.int .i64 0) (.slice none 0 0) (.string ⟨#[]⟩) (.string ⟨#[]⟩) (.bool false))
   clear d0 fd0 d1 fd1 d2 fd2 d3 fd3 d4 fd4 d5 fd5 d6 fd6 d7 fd7 d8 fd8 d9 fd9 d10 fd10 d11 fd11 d12 fd12 d13 fd13 ld hz hgz HC2 H7 H3 HB7 HB3;generalize World.setCell _ ⟨g7,13,none⟩ _=wz at *;have HSM:=Q1 (Mq HC4.out (show Vj (fun _=>False) Ao (.agg #[.int .i64 0,.slice none 0 0,.int .i64 0,.int .i64 0,.string ⟨#[]⟩,.int .i64 0,.int .i64 0,.int .i64 0,.int .i64 0,.int .i64 0,.slice none 0 0,.string ⟨#[]⟩,.string ⟨#[]⟩,.bool false]) wz from Q02 _ wz));obtain⟨c0,fc0,c1,fc1,c2,fc2,c3,fc3,c4,fc4,c5,fc5,c6,fc6,c7,fc7,c8,fc8,c9,fc9,c10,fc10,c11,fc11,c12,fc12,c13,fc13,lc⟩:=Ql.many14 (HZ.out.2);obtain⟨d0,fd0,d1,fd1,d2,fd2,d3,fd3,d4,fd4,d5,fd5,d6,fd6,d7,fd7,d8,fd8,d9,fd9,d10,fd10,d11,fd11,d12,fd12,d13,fd13,ld⟩:=Ql.many14 (HZ.out.1);go_wp2_with fail
   ((with_reducible refine HSM.out.mono ?_);rintro e wf ⟨rfl,hbf⟩)
   have HA:=Q1 (Hc wf (HKD3.out wf (HB8.out.trans (hbf.mono (Zg ld)))));have HB4:=J8 HB9 hbf;clear hbf HSM;go_wp2_with fail
   ((with_reducible refine HA.out.mono ?_);rintro e wg ⟨rfl,hbg⟩)
   have HB5:=J8 HB4 hbg;clear hbg HA;go_wp2_with fail;go_ret;exact⟨rfl,HB5.out⟩
 | some C =>
   obtain rfl:ok=true:=hok;simp only[Option.isSome_some,Option.getD_some]at HC2 ⊢;have HSM:=Q1 (Mq HC2.out (HD.out C rfl));obtain⟨c0,fc0,c1,fc1,c2,fc2,c3,fc3,c4,fc4,c5,fc5,c6,fc6,c7,fc7,c8,fc8,c9,fc9,c10,fc10,c11,fc11,c12,fc12,c13,fc13,lc⟩:=Ql.many14 (H3.out);obtain⟨d0,fd0,d1,fd1,d2,fd2,d3,fd3,d4,fd4,d5,fd5,d6,fd6,d7,fd7,d8,fd8,d9,fd9,d10,fd10,d11,fd11,d12,fd12,d13,fd13,ld⟩:=Ql.many14 (H7.out);go_wp2_with fail
   ((with_reducible refine HSM.out.mono ?_);rintro e wf ⟨rfl,hbf⟩)
   have HA:=Q1 (Hc wf (HKD3.out wf (HB7.out.trans (hbf.mono (Zg ld)))));have HB4:=J8 HB3 hbf;clear hbf HSM;go_wp2_with fail
   ((with_reducible refine HA.out.mono ?_);rintro e wg ⟨rfl,hbg⟩)
   have HB5:=J8 HB4 hbg;clear hbg HA;go_wp2_with fail;go_ret;exact⟨rfl,HB5.out⟩
end Go.Proofs.YtnanffmhbjdpaaaGreatDoor
