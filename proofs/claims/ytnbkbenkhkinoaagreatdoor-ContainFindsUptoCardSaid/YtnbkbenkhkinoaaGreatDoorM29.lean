/- Of my texts: CalcC, Values. -/
import Derived.Test.YtnbkbenkhkinoaaGreatDoorM23
import Derived.Test.YtnbkbenkhkinoaaGreatDoorM27
namespace Go.Proofs.YtnbkbenkhkinoaaGreatDoor
set_option linter.unusedVariables false
set_option linter.unusedSimpArgs false
open Go.RowKit
def WholeAt (h:Nat):Prop:=∀ (l:List Vl) (oa:Option Addr) (cap b o:Nat) (w:World),VsIn w h oa cap b o l →
 Calls Tryz.prog 244 #[.slice oa l.length cap] w fun e w'=>retE (· < w.heap.size) (wholeP (opF wholeP h) (l.map Vl.c)) e w'∧Below w.heap.size w w'
def ExprAt (h:Nat):Prop:=∀ (v:Vl) (w:World),VlIn w h v →
 Calls Tryz.prog 226 #[vv v] w fun e w'=>retE (· < w.heap.size) (exF wholeP h v.c) e w'∧Below w.heap.size w w'
def OperAt (h:Nat):Prop:=∀ (R:Nat) (oa:Option Addr) (cap b o:Nat) (l:List Vl) (i:Nat) (w:World),Rd (·=R) w R h oa cap b o l i →
 Calls Tryz.prog 264 #[.pointer (some ⟨R,0,none⟩)] w fun e w'=>retE (· < w.heap.size) (opAt (opF wholeP h) (l.map Vl.c) i) e w'∧∃ j,Mv w w' R oa l.length cap j∧j≤l.length∧(i<l.length→j=i+1)
theorem mv_far {w w0 w':World} {R L cap j:Nat} {oa:Option Addr} (hb:Below w.heap.size w w0) (h:Mv w0 w' R oa L cap j):Mv w w' R oa L cap j:=⟨grownBy_trans (grownBy_of_below hb _) h.gb,h.blk⟩
theorem Mv.far {w w' w2:World} {R L cap i:Nat} {oa:Option Addr} {row:Option Nat} (h1:Mv w w' R oa L cap i) (hg:w'.grownBy w2 row) (hr:∀ k,row=some k→w.heap.size≤k) (hR:R<w.heap.size):Mv w w2 R oa L cap i :=
 ⟨grownBy_far h1.gb hg hr,(hg.block R h1.blk.lt (fun e=>by have:=hr R e.symm;omega)).trans h1.blk⟩
theorem Blk.put7 {w:World} {g:Nat} {t:TypeId} {a0 a1 a2 a3 a4 a5 a6:Value} (h:Blk w g t #[a0,a1,a2,a3,a4,a5,a6]) (x0 x1 x2 x3 x4 x5 x6:Value) :
  Blk (((((((w.setCell ⟨g,0,none⟩ x0).setCell ⟨g,1,none⟩ x1).setCell ⟨g,2,none⟩ x2).setCell ⟨g,3,none⟩ x3).setCell ⟨g,4,none⟩ x4).setCell ⟨g,5,none⟩ x5).setCell ⟨g,6,none⟩ x6) g t #[x0,x1,x2,x3,x4,x5,x6]:=by
 have h1:=((((((h.put 0 x0).put 1 x1).put 2 x2).put 3 x3).put 4 x4).put 5 x5).put 6 x6;simpa using h1
theorem zeroX_ret (A:Nat→Prop) (w:World):retE A none (.returned (.tuple #[.agg #[.int .i64 0,.int .i64 0,.int .i64 0,.int .i64 0,.slice none 0 0],.bool false])) w:=⟨_,_,rfl,rfl,⟨0,0,0,0,none,0,0,rfl⟩,fun E h=>by cases h⟩
set_option maxRecDepth 20000 in
set_option maxHeartbeats 8000000 in
theorem oper_step (h:Nat) (hW:∀ h',h=h'+1→WholeAt h') (hX:ExprAt h):OperAt h:=by
 intro R oa cap b o l i w hr;obtain⟨XL,hXL⟩:∃ XL,l.map Vl.c=XL:=⟨_,rfl⟩;obtain⟨N,hN⟩:∃ N,l.length=N:=⟨_,rfl⟩
 have hNX:XL.length=N:=by rw[← hXL,List.length_map,hN]
 have hsm:=hr.vs.here.small;have hcl:=hr.vs.here.sl.le;have hcm:=hr.vs.here.sl.max;have hiN:=hr.pos;unfold maxLen at hcm;rw[hN]at hsm hcl hiN;rw[hXL,hN];obtain⟨Y,hY⟩:∃ Y,opAt (opF wholeP h) XL i=Y:=⟨_,rfl⟩;rw[hY];have HN:=Lib.hid (And.intro hN (And.intro hXL hNX));have HWX:=Lib.hid (And.intro hW hX);have HR:=Lib.hid hr;have HY:=Lib.hid hY
 -- the result's variable
 have hb0:=below_box w (.cells #[.int .i64 0,.int .i64 0,.int .i64 0,.int .i64 0,.slice none 0 0] 31);have h2:=Blk.new w 31 #[.int .i64 0,.int .i64 0,.int .i64 0,.int .i64 0,.slice none 0 0];have HR1:=Lib.hid (hr.below hb0);have HB0:=Lib.hid hb0;have H2:=Lib.hid h2;have hRlt:=hr.blk.lt;clear hr hb0 h2 hN hXL hNX hW hX hY
 go_enter Tryz.func264,Tryz.ntmps264
 go_upto_region 1 with fail
 obtain⟨g2,hg2⟩:∃ g2,w.heap.size=g2:=⟨_,rfl⟩;have HG:=Lib.hid hg2;rw[hg2]at H2 hRlt;simp only[hg2];clear hg2;generalize w.alloc _=w1 at *;have k0:=HR1.out.blk.cell 0;have k1:=HR1.out.blk.cell 1;have kl:=HR1.out.blk.lt;simp only[List.getElem?_toArray,List.getElem?_cons_zero,List.getElem?_cons_succ]at k0 k1;rw[HN.out.1]at k0
 have hne:g2≠R:=by omega
 refine wp_region_grow (by kernel_rfl) (by kernel_rfl) ?_
 repeat (go_big_quiet_step (fail))
 refine wpQuiet_nil ?_;rintro _ ⟨m,rfl⟩;have hr2:=Lib.hid (HR1.out.below (grow_below m));have hb2:=Lib.hid (below_grow HB0.out m);have h22:=Lib.hid (H2.out.grow m);clear k0 k1 kl HR1 HB0 H2;generalize grow _ m=w2 at *
 by_cases hi:i<N
 · have gi:decide ((N:Int)≤(i:Int))=false:=by simp;omega
   have gin:decide (N≤i)=false:=by simp;omega
   have ij0:(0:Int)≤(i:Int):=Int.natCast_nonneg _
   have ijN:(i:Int)<(N:Int):=by omega
   have hil:i<l.length:=by rw[HN.out.1];exact hi
   have hli:l[i]?=some l[i]:=List.getElem?_eq_getElem hil;have hvs:=hr2.out.vs.here;obtain⟨rfl,hbl2⟩:=hvs.sl.lies (by omega);obtain⟨x,hx⟩:∃ x,l[i]=x:=⟨_,rfl⟩;rw[hx]at hli
   have hxl:XL[i]?=some x.c:=by rw[← HN.out.2.1,List.getElem?_map,hli];rfl
   have hYx:opF wholeP h x.c=Y:=by
    have:=HY.out;unfold opAt at this;rw[hxl]at this;exact this
   have hvx:=hvs.each i x hli
   obtain ⟨h,rfl⟩:∃ h',h=h'+1:=by
    cases h with
    | zero=>exact hvx.elim
    | succ h=>exact⟨h,rfl⟩
   have HVX:=Lib.hid (hr2.out.vs.mono fun _ hw=>hw.each i x hli);have HXP:=Lib.hid (fun wz (hz:VlIn wz (h+1) x)=>HWX.out.2 x wz hz);obtain⟨t,koa,kb,ko,kcap,kids⟩:=x;have HWP:=Lib.hid (fun wz (hz:VsIn wz h koa kcap kb ko kids)=>HWX.out.1 h rfl kids koa kcap kb ko wz hz);obtain⟨K,hK⟩:∃ K,kids.length=K:=⟨_,rfl⟩;have f0:=hvs.cell hli (j:=0) rfl;have f1:=hvs.cell hli (j:=1) rfl;have f2:=hvs.cell hli (j:=2) rfl;have f3:=hvs.cell hli (j:=3) rfl;have f4:=hvs.cell hli (j:=4) rfl;have f5:=hvs.cell hli (j:=5) rfl;have f6:=hvs.cell hli (j:=6) rfl;rw[Nat.add_zero]at f0;rw[hK]at f6;obtain⟨tk,tt,⟨tn,td⟩,ti,tid⟩:=t;have hYx2:=hYx;rw[Vl.c_mk,opF]at hYx2;have HYX:=Lib.hid (And.intro hYx2 hK);clear hvs hli hil hx hxl hvx hYx hYx2 hK HWX HY;have k0:=hr2.out.blk.cell 0;have k1:=hr2.out.blk.cell 1;have kl:=hr2.out.blk.lt;simp only[List.getElem?_toArray,List.getElem?_cons_zero,List.getElem?_cons_succ]at k0 k1
   rw[HN.out.1]at k0;go_wp2_with fail;refine wp_region_loose 11 [Loose.claim 1 17 (.pointer (some ⟨R,0,none⟩)),Loose.claim 5 21 (.pointer (some ⟨R,0,none⟩)),Loose.cells 10 4 104 #[.int .i64 0,.string ⟨#[]⟩,.int .i64 0,.int .i64 0,.bool false,.bool false,.slice none 0 0] w2.heap.size] (by kernel_rfl) rfl (by kernel_rfl) (by kernel_rfl) (by kernel_rfl) (by kernel_rfl) ?_;simp only[headL,hushL,List.find?,Loose.claim_i,Loose.cells_i,Loose.rowL_i,Loose.claim_hush,Loose.cells_hush,Loose.rowL_hush,Nat.reduceBEq,Nat.reduceAdd]
   repeat (go_big_quiet_step (fail))
   refine wpQuiet_nil ⟨fun V m2=>?_,fun V m2=>?_⟩
   · simp only[obs_cons,obs_nil,List.getElem?_cons_zero,List.getElem?_cons_succ,fill_nil,fill_claim,fill_cells,fill_rowL,Loose.claim_i,Loose.cells_i,Loose.rowL_i,Act.put,List.setIfInBounds_toArray,List.set_cons_zero,List.set_cons_succ];refine⟨fun _=>?_,fun _=>?_,fun _=>?_,trivial⟩
     · go_wp2_with fail;exact post_claim rfl (Below.refl _ _)
     · go_wp2_with fail;exact post_claim rfl (Below.refl _ _)
     · go_wp2_with fail;exact post_cells rfl (grow_size m2)
   · simp only[laws_nil,laws_claim,laws_cells,laws_rowL,dist_nil,dist_claim,dist_cells,dist_rowL,dist1_nil,dist1_claim,dist1_cells,dist1_rowL,dist1_cells_rowL,dist1_rowL_cells,List.drop_succ_cons,List.drop_zero,and_true,fill_nil,fill_claim,fill_cells,fill_rowL,Loose.claim_i,Loose.cells_i,Loose.rowL_i,Act.put,List.setIfInBounds_toArray,List.set_cons_zero,List.set_cons_succ];rintro⟨g4,hv10,hg4,hbk⟩ _;rw[hv10];clear hv10;have hbw0:=grow_below m2;have hR2:=hr2.out.blk.lt;have hg22:=h22.out.lt;generalize grow w2 m2=w3 at *;have cb0:w3.cell? ⟨g4,0,none⟩=some (.int .i64 0):=(hbk).cell 0;have fcb0:=(hbk).frozen 0;have cb1:w3.cell? ⟨g4,1,none⟩=some (.string ⟨#[]⟩):=(hbk).cell 1;have fcb1:=(hbk).frozen 1;have cb2:w3.cell? ⟨g4,2,none⟩=some (.int .i64 0):=(hbk).cell 2;have fcb2:=(hbk).frozen 2;have cb3:w3.cell? ⟨g4,3,none⟩=some (.int .i64 0):=(hbk).cell 3;have fcb3:=(hbk).frozen 3
     have cb4:w3.cell? ⟨g4,4,none⟩=some (.bool false):=(hbk).cell 4;have fcb4:=(hbk).frozen 4;have cb5:w3.cell? ⟨g4,5,none⟩=some (.bool false):=(hbk).cell 5;have fcb5:=(hbk).frozen 5;have cb6:w3.cell? ⟨g4,6,none⟩=some (.slice none 0 0):=(hbk).cell 6;have fcb6:=(hbk).frozen 6;have lcb:=(hbk).lt
     go_upto_region 4 with fail
     have hbw:=Lib.hid (show Below w2.heap.size w2 (((((((w3.setCell ⟨g4,0,none⟩ (.int .i64 tk)).setCell ⟨g4,1,none⟩ (.string ⟨tt.toArray⟩)).setCell ⟨g4,2,none⟩ (.int .i64 tn)).setCell ⟨g4,3,none⟩ (.int .i64 td)).setCell ⟨g4,4,none⟩ (.bool ti)).setCell ⟨g4,5,none⟩ (.bool tid)).setCell ⟨g4,6,none⟩ (.slice koa K kcap)) from
      ((((((hbw0.setCell (p:=⟨g4,0,none⟩) hg4 _).setCell (p:=⟨g4,1,none⟩) hg4 _).setCell (p:=⟨g4,2,none⟩) hg4 _).setCell (p:=⟨g4,3,none⟩) hg4 _).setCell (p:=⟨g4,4,none⟩) hg4 _).setCell (p:=⟨g4,5,none⟩) hg4 _).setCell (p:=⟨g4,6,none⟩) hg4 _)
     have hbx:=Lib.hid (hbk.put7 (.int .i64 tk) (.string ⟨tt.toArray⟩) (.int .i64 tn) (.int .i64 td) (.bool ti) (.bool tid) (.slice koa K kcap));clear cb0 cb1 cb2 cb3 cb4 cb5 cb6 fcb0 fcb1 fcb2 fcb3 fcb4 fcb5 fcb6 lcb hbk hbw0 f0 f1 f2 f3 f4 f5 f6 k0 k1 kl;generalize World.setCell _ _ _=w4 at *;have hr4:=Lib.hid (hr2.out.below hbw.out);have h24:=Lib.hid (h22.out.below hbw.out h22.out.lt);have hm4:=Lib.hid (mv_far hb2.out (by have:=(Mv.refl hr2.out).below hbw.out;rw[HN.out.1]at this;exact this));have hv4:=Lib.hid (HVX.out.below hbw.out);have k0:=hr4.out.blk.cell 0;have k1:=hr4.out.blk.cell 1;have q1:=hr4.out.blk.frozen 1;have kl:=hr4.out.blk.lt;simp only[List.getElem?_toArray,List.getElem?_cons_zero,List.getElem?_cons_succ]at k0 k1
     go_upto_region 5 with fail
     have hRw:R<w.heap.size:=by have:=HG.out;omega
     have hm5:=Lib.hid (show Mv w (w4.setCell ⟨R,1,none⟩ (.int .i64 ((i+1:Nat):Int))) R (some ⟨b,o,none⟩) N cap (i+1) from hm4.out.set (i+1));have h25:=Lib.hid (show Blk (w4.setCell ⟨R,1,none⟩ (.int .i64 ((i+1:Nat):Int))) g2 31 #[.int .i64 0,.int .i64 0,.int .i64 0,.int .i64 0,.slice none 0 0] from h24.out.far (p:=⟨R,1,none⟩) hne _);have hb5:=Lib.hid (show Blk (w4.setCell ⟨R,1,none⟩ (.int .i64 ((i+1:Nat):Int))) g4 104 #[.int .i64 tk,.string ⟨tt.toArray⟩,.int .i64 tn,.int .i64 td,.bool ti,.bool tid,.slice koa K kcap] from hbx.out.far (p:=⟨R,1,none⟩) (by simp;omega) _);have hv5:=Lib.hid (show Safe (·=R) (w4.setCell ⟨R,1,none⟩ (.int .i64 ((i+1:Nat):Int))) (fun w=>VlIn w (h+1) (.mk ⟨tk,tt,(tn,td),ti,tid⟩ koa kb ko kcap kids)) from hv4.out.set (p:=⟨R,1,none⟩) rfl _);rw[show ((i+1:Nat):Int)=(i:Int)+1 by omega]at hm5 h25 hb5 hv5;clear k0 k1 q1 kl hm4 h24 hbx hv4 hr4
     generalize World.setCell _ _ _=w5 at *;have cb0:w5.cell? ⟨g4,0,none⟩=some (.int .i64 tk):=(hb5.out).cell 0;have fcb0:=(hb5.out).frozen 0;have cb1:w5.cell? ⟨g4,1,none⟩=some (.string ⟨tt.toArray⟩):=(hb5.out).cell 1;have fcb1:=(hb5.out).frozen 1;have cb2:w5.cell? ⟨g4,2,none⟩=some (.int .i64 tn):=(hb5.out).cell 2;have fcb2:=(hb5.out).frozen 2;have cb3:w5.cell? ⟨g4,3,none⟩=some (.int .i64 td):=(hb5.out).cell 3;have fcb3:=(hb5.out).frozen 3;have cb4:w5.cell? ⟨g4,4,none⟩=some (.bool ti):=(hb5.out).cell 4;have fcb4:=(hb5.out).frozen 4;have cb5:w5.cell? ⟨g4,5,none⟩=some (.bool tid):=(hb5.out).cell 5;have fcb5:=(hb5.out).frozen 5;have cb6:w5.cell? ⟨g4,6,none⟩=some (.slice koa K kcap):=(hb5.out).cell 6;have fcb6:=(hb5.out).frozen 6;have lcb:=(hb5.out).lt;have hlt2:=h25.out.lt
     have HFIN:=Lib.hid (show ∀ (v:Value) (ok:Bool) (w6 w7:World),ok=Y.isSome→isE5 v→(∀ E,Y=some E→isEx (· < w5.heap.size) E v w6)→Below w5.heap.size w5 w6→w6.grownBy w7 (some g2)→retE (· < w.heap.size) Y (.returned (.tuple #[v,.bool ok])) w7∧∃ j,Mv w w7 R (some ⟨b,o,none⟩) N cap j∧j≤N∧(i<N→j=i+1) from
      fun v ok w6 w7 h1 h2 h3 h4 h5=>⟨⟨v,ok,rfl,h1,h2,fun E hE=>((h3 E hE).grown h5 (fun k e _=>by injection e with e;omega)).anti fun b hb=>Or.inl (by have:=hm5.out.gb.size;omega)⟩,
       i+1,(hm5.out.below h4).far h5 (fun k e=>by injection e with e;have:=HG.out;omega) hRw,hi,fun _=>rfl⟩)
     by_cases hk:tk=21
     · have hYk:wholeP (opF wholeP h) (kids.map Vl.c)=Y:=by
        have:=HYX.out.1;rw[if_pos hk]at this;exact this
       have hwc:=HWP.out w5 hv5.out.here.kids;rw[HYX.out.2,hYk]at hwc;have HC:=Lib.hid hwc;subst hk;clear hwc hYk;go_wp2_with fail
       ((with_reducible refine HC.out.mono ?_);rintro e w6 ⟨⟨v,ok,rfl,hok,h5,hE⟩,hbb⟩)
       obtain⟨vk,vn,vd,vu,voa,vL,vc,rfl⟩:=h5;have h26:=h25.out.below hbb h25.out.lt;have cc0:w6.cell? ⟨g2,0,none⟩=some (.int .i64 0):=(h26).cell 0;have fcc0:=(h26).frozen 0;have cc1:w6.cell? ⟨g2,1,none⟩=some (.int .i64 0):=(h26).cell 1;have fcc1:=(h26).frozen 1;have cc2:w6.cell? ⟨g2,2,none⟩=some (.int .i64 0):=(h26).cell 2;have fcc2:=(h26).frozen 2;have cc3:w6.cell? ⟨g2,3,none⟩=some (.int .i64 0):=(h26).cell 3;have fcc3:=(h26).frozen 3;have cc4:w6.cell? ⟨g2,4,none⟩=some (.slice none 0 0):=(h26).cell 4;have fcc4:=(h26).frozen 4;have lcc:=(h26).lt;have HE:=Lib.hid (And.intro hok (And.intro hE hbb));have H26:=Lib.hid h26;clear h26 hok hE hbb cb0 cb1 cb2 cb3 cb4 cb5 cb6 fcb0 fcb1 fcb2 fcb3 fcb4 fcb5 fcb6 lcb;go_wp2_with fail;have hputs:=(H26.out).put5 (.int .i64 vk) (.int .i64 vn) (.int .i64 vd) (.int .i64 vu) (.slice voa vL vc)
       refine bodyPost_ret (v:=.tuple #[.agg #[.int .i64 vk,.int .i64 vn,.int .i64 vd,.int .i64 vu,.slice voa vL vc],.bool ok]) ?_ rfl ?_
       · refine ret_ex2 Tryz.results264 ?_ ?_ hputs rfl
         all_goals rfl
       · exact HFIN.out _ _ w6 _ HE.out.1 ⟨_,_,_,_,_,_,_,rfl⟩ HE.out.2.1 HE.out.2.2 (grownBy_puts [.int .i64 vk,.int .i64 vn,.int .i64 vd,.int .i64 vu,.slice voa vL vc] w6 g2 0)
     · have gk:(tk==(21:Int))=false:=by simpa using hk
       have hYk:exF wholeP (h+1) (Vl.mk ⟨tk,tt,(tn,td),ti,tid⟩ koa kb ko kcap kids).c=Y:=by
        have:=HYX.out.1;rw[if_neg hk]at this;rw[Vl.c_mk,exF];exact this
       have hwc:=HXP.out w5 hv5.out.here;rw[hYk]at hwc
       have hvv:vv (Vl.mk ⟨tk,tt,(tn,td),ti,tid⟩ koa kb ko kcap kids)=.agg #[.int .i64 tk,.string ⟨tt.toArray⟩,.int .i64 tn,.int .i64 td,.bool ti,.bool tid,.slice koa K kcap]:=by rw[← HYX.out.2];rfl
       rw[hvv]at hwc;have HC:=Lib.hid hwc;clear hwc hYk hvv hk;go_wp2_with fail
       ((with_reducible refine HC.out.mono ?_);rintro e w6 ⟨⟨v,ok,rfl,hok,h5,hE⟩,hbb⟩)
       obtain⟨vk,vn,vd,vu,voa,vL,vc,rfl⟩:=h5;have h26:=h25.out.below hbb h25.out.lt;have cc0:w6.cell? ⟨g2,0,none⟩=some (.int .i64 0):=(h26).cell 0;have fcc0:=(h26).frozen 0;have cc1:w6.cell? ⟨g2,1,none⟩=some (.int .i64 0):=(h26).cell 1;have fcc1:=(h26).frozen 1;have cc2:w6.cell? ⟨g2,2,none⟩=some (.int .i64 0):=(h26).cell 2;have fcc2:=(h26).frozen 2;have cc3:w6.cell? ⟨g2,3,none⟩=some (.int .i64 0):=(h26).cell 3;have fcc3:=(h26).frozen 3;have cc4:w6.cell? ⟨g2,4,none⟩=some (.slice none 0 0):=(h26).cell 4;have fcc4:=(h26).frozen 4;have lcc:=(h26).lt;have HE:=Lib.hid (And.intro hok (And.intro hE hbb));have H26:=Lib.hid h26;clear h26 hok hE hbb cb0 cb1 cb2 cb3 cb4 cb5 cb6 fcb0 fcb1 fcb2 fcb3 fcb4 fcb5 fcb6 lcb;go_wp2_with fail;have hputs:=(H26.out).put5 (.int .i64 vk) (.int .i64 vn) (.int .i64 vd) (.int .i64 vu) (.slice voa vL vc)
       refine bodyPost_ret (v:=.tuple #[.agg #[.int .i64 vk,.int .i64 vn,.int .i64 vd,.int .i64 vu,.slice voa vL vc],.bool ok]) ?_ rfl ?_
       · refine ret_ex2 Tryz.results264 ?_ ?_ hputs rfl
         all_goals rfl
       · exact HFIN.out _ _ w6 _ HE.out.1 ⟨_,_,_,_,_,_,_,rfl⟩ HE.out.2.1 HE.out.2.2 (grownBy_puts [.int .i64 vk,.int .i64 vn,.int .i64 vd,.int .i64 vu,.slice voa vL vc] w6 g2 0)
 · have gi:decide ((N:Int)≤(i:Int))=true:=by simp;omega
   have gin:decide (N≤i)=true:=by simp;omega
   have hY0:Y=none:=by
    rw[← HY.out];unfold opAt;rw[List.getElem?_eq_none (by rw[HN.out.2.2];omega)]
   subst hY0;have c0:=h22.out.cell 0;have hmv:=Lib.hid (mv_far hb2.out (by have:=Mv.refl hr2.out;rw[HN.out.1]at this;exact this));have c0:=h22.out.cell 0;have c1:=h22.out.cell 1;have c2:=h22.out.cell 2;have c3:=h22.out.cell 3;have c4:=h22.out.cell 4;have d0:=h22.out.frozen 0;have d1:=h22.out.frozen 1;have d2:=h22.out.frozen 2;have d3:=h22.out.frozen 3;have d4:=h22.out.frozen 4;have dl:=h22.out.lt;simp only[List.getElem?_toArray,List.getElem?_cons_zero,List.getElem?_cons_succ]at c0 c1 c2 c3 c4;go_wp2_with fail;have hputs:=(h22.out).put5 (.int .i64 0) (.int .i64 0) (.int .i64 0) (.int .i64 0) (.slice none 0 0);refine bodyPost_ret (v:=.tuple #[.agg #[.int .i64 0,.int .i64 0,.int .i64 0,.int .i64 0,.slice none 0 0],.bool false]) ?_ rfl ?_
   · refine ret_ex2 Tryz.results264 ?_ ?_ hputs rfl
     all_goals rfl
   · exact⟨zeroX_ret _ _,i,hmv.out.far (grownBy_puts [.int .i64 0,.int .i64 0,.int .i64 0,.int .i64 0,.slice none 0 0] w2 g2 0) (fun k e=>by have:=HG.out;injection e with e;omega) (by have:=HG.out;omega),hiN,fun h=>absurd h hi⟩
theorem owns_fresh {w:World} {base g n size:Nat} {e:TypeId} {cs:Array Value} (h:Blk w g e cs) (hb:base≤g) (hs:cs.size=n*size) (hn:n≤maxLen):w.ownsRow base e size (.slice (some ⟨g,0,none⟩) n n) n cs.toList :=
 ⟨by simpa using hs,Or.inr ⟨g,n,cs,rfl,hb,h,Nat.le_refl _,hn,hs,by rw[List.take_of_length_le (by simp[hs])]⟩⟩
theorem skC_top (R:List Fm) (f:Fm):skC (R++[f])=(f.t,f.kids.map Vl.c)::skC R:=by
 unfold skC;rw[List.map_append,List.reverse_append];rfl
theorem skC_nil {R:List Fm}:skC R=[]↔R=[]:=by
 unfold skC;constructor
 · intro h;have:=congrArg List.length h;simpa using this
 · rintro rfl;rfl
theorem skC_length (R:List Fm):(skC R).length=R.length:=by unfold skC;simp
theorem shutF_sk (R:List Fm) (p f:Fm):shutF (skC (R++[p]++[f]))=(p.t,p.kids.map Vl.c++[.mk f.t (f.kids.map Vl.c)])::skC R:=by
 rw[skC_top,skC_top];rfl
theorem Sk.begin {w:World} {g:Nat} (h:Blk w g 137 zero7) (B:Nat) (hB:B≤g):Sk B w (.slice (some ⟨g,0,none⟩) 1 1) [⟨zeroTk,.slice none 0 0,[]⟩] 0:=by
 refine⟨owns_fresh (n:=1) h hB rfl (by decide),fun x hx=>?_,List.pairwise_singleton _ _,fun x hx=>?_,fun x hx=>?_,0,fun w' _ _ x hx k hk=>?_⟩
 all_goals obtain rfl:=List.mem_singleton.1 hx
 · exact World.ownsRow_nil _ _ _ _
 · exact⟨by unfold I64 zeroTk;decide,by unfold Is64 zeroTk;decide,Nat.zero_le _⟩
 · exact Nat.le_refl _
 · cases hk
theorem stepV_cons (t0:Tk) (k0:List Vt) (r:List (Tk×List Vt)) (t:Tk):stepV ((t0,k0)::r) t=if r≠[]∧t.kind=closeF t0.kind then shutF ((t0,k0)::r) else if closeF t.kind≠0 then (t,[])::(t0,k0)::r else (t0,k0++[.mk t []])::r:=rfl
theorem closer_same (k:Int) (w:World):Calls Tryz.prog 73 #[.int .i64 k] w fun e w'=>e=.returned (.int .i64 (closeF k))∧w=w':=(closer_any k w).mono fun _ _ ⟨h1,h2⟩=>⟨h1,h2.symm⟩
theorem last_of {S:List Fm} (h:S≠[]):∃ R f,S=R++[f]:=⟨S.dropLast,S.getLast h,(List.dropLast_concat_getLast h).symm⟩
set_option maxRecDepth 20000 in
set_option maxHeartbeats 8000000 in
theorem values_any (l:List Tk) (oa:Option Addr) (cap b o:Nat) (w:World) (hs:Sl w oa l.length cap b o 6 (toksV l)) (h64:∀ t∈l,Tk64 t) (hm:l.length≤274877906944) :
  Calls Tryz.prog 51 #[.slice oa l.length cap] w fun e w'=>(∃ v,e=.returned v∧∃ h,isVs (· < w.heap.size) h (valuesF l) v w')∧Below w.heap.size w w':=by
 obtain⟨X,hX⟩:∃ X,l.foldl stepV [(zeroTk,[])]=X:=⟨_,rfl⟩;obtain⟨Y,hY⟩:∃ Y,valuesF l=Y:=⟨_,rfl⟩
 have hXY:Y=match closeV X.length X with
  | (_,k)::_=>k
  | []=>[]:=by rw[← hY,← hX];rfl
 rw[hY];obtain⟨N,hN⟩:∃ N,l.length=N:=⟨_,rfl⟩;rw[hN]at hm ⊢;obtain⟨B,hB⟩:∃ B,w.heap.size=B:=⟨_,rfl⟩;simp only[hB];have hcl:=hs.le;have hcm:=hs.max;unfold maxLen at hcm;rw[hN]at hcl;have HS:=Lib.hid hs;have HX:=Lib.hid hX;have HXY:=Lib.hid hXY;have HN:=Lib.hid hN;have H64:=Lib.hid h64;have HB:=Lib.hid hB;clear hs hX hXY hY hN h64 hB
 go_enter Tryz.func51,Tryz.ntmps51
 go_upto_region 2 with fail
 have HK0:=Lib.hid (show Sk B (w.alloc (.cells #[.int .i64 0,.string ⟨#[]⟩,.int .i64 0,.int .i64 0,.bool false,.bool false,.slice none 0 0] 137)) (.slice (some ⟨w.heap.size,0,none⟩) 1 1) [⟨zeroTk,.slice none 0 0,[]⟩] 0 from Sk.begin (Blk.new w 137 zero7) B (by rw[HB.out];exact Nat.le_refl _));have HB0:=Lib.hid (show Below B w (w.alloc (.cells #[.int .i64 0,.string ⟨#[]⟩,.int .i64 0,.int .i64 0,.bool false,.bool false,.slice none 0 0] 137)) by rw[← HB.out];exact below_box _ _);generalize w.heap.size=g0 at HK0 ⊢;generalize w.alloc _=w0 at *
 go_upto_block 0 with fail
 go_cut [3] (fun s wx=>∃ (S:List Fm) (gs c L:Nat),s=.slice (some ⟨gs,0,none⟩) L c∧Hid (S.length=L∧S≠[]∧L≤N+1)∧Hid (Sk B wx (.slice (some ⟨gs,0,none⟩) L c) S N)∧Hid (skC S=X)∧Hid (Below B w wx))
 case first =>
  go_wp2_with fail
  go_loopg [3,11] N (fun q s3 s wr=>∃ (i:Nat) (S:List Fm) (gs c L:Nat),s=.int .i64 i∧s3=.slice (some ⟨gs,0,none⟩) L c∧Hid (S.length=L∧S≠[]∧L≤i+1)∧Hid (Sk B wr (.slice (some ⟨gs,0,none⟩) L c) S i)∧Hid (skC S=(l.take i).foldl stepV [(zeroTk,[])])∧Hid (Below B w wr)∧i≤N∧N-i≤q)
  case atStart=>exact⟨0,_,g0,1,1,rfl,rfl,Lib.hid ⟨rfl,by simp,Nat.le_refl _⟩,HK0,Lib.hid rfl,HB0,Nat.zero_le _,by omega⟩
  case round =>
   clear HK0 HB0;obtain⟨i,S,gs,c,L,rfl,rfl,hL,hK,hC,hb,hiN,hq⟩:=hrel
   by_cases hi:i<N
   · have gi:decide ((i:Int)<(N:Int))=true:=by simpa using hi
     have gin:decide (i<N)=true:=by simpa using hi
     have hil:i<l.length:=by rw[HN.out];exact hi
     have hli:l[i]?=some l[i]:=List.getElem?_eq_getElem hil;have hs2:=HS.out.below (by rw[HB.out];exact hb.out);obtain⟨rfl,hbl⟩:=hs2.lies (by omega);have ht64:=H64.out _ (List.mem_of_getElem? hli)
     have hfold:(l.take (i+1)).foldl stepV [(zeroTk,[])]=stepV (skC S) l[i]:=by rw[List.take_succ_eq_append_getElem hil,List.foldl_append,← hC.out];rfl
     obtain⟨t,ht⟩:∃ t,l[i]=t:=⟨_,rfl⟩;rw[ht]at hli ht64 hfold
     have hcell:∀ j v,(tkcells t)[j]?=some v→wr.cell? ⟨b,o+(i*6+j),none⟩=some v:=fun j v hv=>hs2.cell _ _ (flat_at (f:=tkcells) (sz:=6) (fun _=>rfl) l i t j v hli hv)
     obtain⟨tk,tt,⟨tn,td⟩,ti,tid⟩:=t;have f0:wr.cell? ⟨b,o+i*6,none⟩=some (.int .i64 tk):=hcell 0 _ rfl;have f1:wr.cell? ⟨b,o+i*6+1,none⟩=some (.string ⟨tt.toArray⟩):=hcell 1 _ rfl;have f2:wr.cell? ⟨b,o+i*6+2,none⟩=some (.int .i64 tn):=hcell 2 _ rfl;have f3:wr.cell? ⟨b,o+i*6+3,none⟩=some (.int .i64 td):=hcell 3 _ rfl;have f4:wr.cell? ⟨b,o+i*6+4,none⟩=some (.bool ti):=hcell 4 _ rfl;have f5:wr.cell? ⟨b,o+i*6+5,none⟩=some (.bool tid):=hcell 5 _ rfl;have HF:=Lib.hid hfold;have HT:=Lib.hid ht64;obtain⟨hL1,hL2,hL3⟩:=hL.out;obtain⟨R,f,rfl⟩:=last_of hL2;obtain⟨n,hn⟩:∃ n,R.length=n:=⟨_,rfl⟩
     have hLn:n+1=L:=by rw[← hL1,List.length_append,hn];rfl
     have iL:(L:Int)-1=(n:Int):=by omega
     have HL:=Lib.hid (And.intro hn (And.intro hLn hL3))
     have hL4:L≤1099511627777:=by omega
     clear hcell hfold ht64 hs2 hli hil ht hL hL1 hL2 hL3 hn hC
     go_upto_region 6 with fail
     have hbx:=Blk.new wr 102 #[.int .i64 tk,.string ⟨tt.toArray⟩,.int .i64 tn,.int .i64 td,.bool ti,.bool tid];have hb1:=Lib.hid (Below.alloc hb.out (by have:=hb.out.size;rw[← HB.out];exact this) (.cells #[.int .i64 tk,.string ⟨tt.toArray⟩,.int .i64 tn,.int .i64 td,.bool ti,.bool tid] 102));have hK1:=Lib.hid (hK.out.below (below_box wr (.cells #[.int .i64 tk,.string ⟨tt.toArray⟩,.int .i64 tn,.int .i64 td,.bool ti,.bool tid] 102)));clear f0 f1 f2 f3 f4 f5 hb hK;generalize wr.heap.size=g5 at *;generalize wr.alloc _=w1 at *;have cb0:w1.cell? ⟨g5,0,none⟩=some (.int .i64 tk):=(hbx).cell 0;have fcb0:=(hbx).frozen 0;have cb1:w1.cell? ⟨g5,1,none⟩=some (.string ⟨tt.toArray⟩):=(hbx).cell 1;have fcb1:=(hbx).frozen 1;have cb2:w1.cell? ⟨g5,2,none⟩=some (.int .i64 tn):=(hbx).cell 2;have fcb2:=(hbx).frozen 2;have cb3:w1.cell? ⟨g5,3,none⟩=some (.int .i64 td):=(hbx).cell 3;have fcb3:=(hbx).frozen 3
     have cb4:w1.cell? ⟨g5,4,none⟩=some (.bool ti):=(hbx).cell 4;have fcb4:=(hbx).frozen 4;have cb5:w1.cell? ⟨g5,5,none⟩=some (.bool tid):=(hbx).cell 5;have fcb5:=(hbx).frozen 5;have lcb:=(hbx).lt;have HBX:=Lib.hid hbx;clear hbx;have hrow:=hK1.out.row;rw[List.length_append,List.length_singleton,HL.out.1,HL.out.2.1,List.flatMap_append,List.flatMap_singleton]at hrow;obtain⟨fk,hfk⟩:∃ fk,f.t.kind=fk:=⟨_,rfl⟩
     have hRl:(R.flatMap fmcells).length=n*7:=by rw[flat_length fmcells_length,HL.out.1]
     have hc0:w1.cell? ⟨gs,n*7,none⟩=some (.int .i64 fk):=owns_cell hrow (by rw[List.getElem?_append_right (by omega),hRl,Nat.sub_self,← hfk];rfl);have iN0:(0:Int)≤(n:Int):=Int.natCast_nonneg _
     have iNn:(n:Int)<(L:Int):=by omega
     have iNn2:n<L:=by omega
     have hgsl:gs<w1.heap.size:=(hrow.lt gs rfl).2;have HFK:=Lib.hid hfk;have HRL:=Lib.hid hRl;clear hrow hfk hRl
     go_cut [31] (fun s wx=>s=.bool (decide (0<n)&&(tk==closeF fk))∧Hid (Below w1.heap.size w1 wx))
     case first =>
      by_cases h0:0<n
      · have g1:decide ((0:Int)<(n:Int))=true:=by simpa using h0
        have g2:decide (0<n)=true:=by simpa using h0
        refine wp_region_grow (by kernel_rfl) (by kernel_rfl) ?_
        repeat (go_big_quiet_step ((first | (go_at_call 73;with_reducible exact calls_grow_same (closer_same fk _)))))
        refine wpQuiet_nil ?_;rintro _ ⟨m,rfl⟩;go_wp2_with fail;go_meet
        case rel=>exact⟨by simp[g2],Lib.hid (grow_below m)⟩
      · have g1:decide ((0:Int)<(n:Int))=false:=by simp;omega
        have g2:decide (0<n)=false:=by simp;omega
        refine wp_region_grow (by kernel_rfl) (by kernel_rfl) ?_
        repeat (go_big_quiet_step ((first | (go_at_call 73;with_reducible exact calls_grow_same (closer_same fk _)))))
        refine wpQuiet_nil ?_;rintro _ ⟨m,rfl⟩;go_wp2_with fail;go_meet
        case rel=>exact⟨by simp[g2],Lib.hid (grow_below m)⟩
     case rest =>
      obtain⟨rfl,hbw⟩:=hcut;have hK2:=Lib.hid (hK1.out.below hbw.out);have hb2:=Lib.hid (hb1.out.trans (Below.mono hbw.out (by have:=hb1.out.size;have:=HB.out;omega)));have hbx:=HBX.out.below hbw.out HBX.out.lt
      have hwB:B≤wc.heap.size:=by have:=hb2.out.size;have:=HB.out;omega
      clear hbw hb1 hK1 HBX cb0 cb1 cb2 cb3 cb4 cb5 fcb0 fcb1 fcb2 fcb3 fcb4 fcb5 lcb hc0 hgsl
      by_cases hA:0<n∧tk=closeF fk
      · -- the innermost is closed
        have g6:(decide (0<n)&&(tk==closeF fk))=true:=by simp[hA.1,hA.2]
        obtain⟨R,p,rfl⟩:=last_of (S:=R) (fun e=>by have:=HL.out.1;rw[e]at this;simp at this;omega);obtain⟨n',hn'⟩:∃ n',R.length=n':=⟨_,rfl⟩
        have hnn:n'+1=n:=by rw[← HL.out.1,List.length_append,hn'];rfl
        have hLL:n'+2=L:=by have:=HL.out.2.1;omega
        have hsh:=shut_any B i n' R p f gs c wc hn' (by rw[hLL];exact hK2.out) hwB (by omega);rw[hnn,hLL]at hsh;have HSH:=Lib.hid hsh;have HA:=Lib.hid hA;clear hsh hA hnn hLL hbx;rw[g6];clear g6;go_wp2_with fail
        ((with_reducible refine HSH.out.mono ?_);rintro e w2 ⟨rfl,⟨v',kd,hsk,hkc⟩,hbb⟩)
        have H2:=Lib.hid (And.intro hsk (And.intro hkc hbb));clear hsk hkc hbb HSH;go_wp2_with fail
        go_roundg (N-(i+1))
        case measure=>omega
        case rel =>
         obtain⟨hsk,hkc,hbb⟩:=H2.out;refine⟨i+1,_,gs,c,n,by go_num,rfl,Lib.hid ⟨by rw[List.length_append,← HL.out.1,List.length_append];rfl,by simp,by have:=HL.out;omega⟩,Lib.hid hsk,Lib.hid ?_,Lib.hid (hb2.out.trans hbb),hi,Nat.le_refl _⟩;rw[HF.out,skC_top,skC_top,skC_top];rw[stepV_cons,if_pos ⟨by simp,by rw[HFK.out];exact HA.out.2⟩];simp only[shutF,List.map_append,List.map_cons,List.map_nil,hkc]
      · have g6:(decide (0<n)&&(tk==closeF fk))=false:=by
         apply Bool.eq_false_iff.2
         intro h;simp only[Bool.and_eq_true,decide_eq_true_eq,beq_iff_eq]at h;exact hA h
        have hnot:¬ (skC R≠[]∧tk=closeF f.t.kind):=fun h=>hA ⟨by
         rcases Nat.eq_zero_or_pos n with h0 | h0
         · have hr:R=[]:=List.eq_nil_of_length_eq_zero (by rw[HL.out.1,h0]);exact absurd (skC_nil.2 hr) h.1
         · exact h0,by rw[← HFK.out];exact h.2⟩
        have HNOT:=Lib.hid hnot;rw[g6];clear g6 hA hnot;have cd0:wc.cell? ⟨g5,0,none⟩=some (.int .i64 tk):=(hbx).cell 0;have fcd0:=(hbx).frozen 0;have cd1:wc.cell? ⟨g5,1,none⟩=some (.string ⟨tt.toArray⟩):=(hbx).cell 1;have fcd1:=(hbx).frozen 1;have cd2:wc.cell? ⟨g5,2,none⟩=some (.int .i64 tn):=(hbx).cell 2;have fcd2:=(hbx).frozen 2;have cd3:wc.cell? ⟨g5,3,none⟩=some (.int .i64 td):=(hbx).cell 3;have fcd3:=(hbx).frozen 3;have cd4:wc.cell? ⟨g5,4,none⟩=some (.bool ti):=(hbx).cell 4;have fcd4:=(hbx).frozen 4;have cd5:wc.cell? ⟨g5,5,none⟩=some (.bool tid):=(hbx).cell 5;have fcd5:=(hbx).frozen 5;have lcd:=(hbx).lt
        by_cases hO:closeF tk=0
        · -- a value that opens nothing
          have gO:(closeF tk != 0)=false:=by simp[hO]
          have HO:=Lib.hid hO;clear hO;go_wp2_with fail;go_wp2_with fail
          ((with_reducible refine(closer_same tk _).mono ?_);rintro e w' ⟨rfl,rfl⟩)
          have hk2:=hK2.out;rw[← HL.out.2.1]at hk2;have hfm:f∈R++[f]:=List.mem_append_right _ (List.mem_singleton.2 rfl);have hkP:=hk2.kid f hfm;have hlP:=hk2.len f hfm;have hrowP:=hk2.row;rw[List.length_append,List.length_singleton,HL.out.1,List.flatMap_append,List.flatMap_singleton]at hrowP;have hRl:=HRL.out;have hcP:wc.cell? ⟨gs,n*7+6,none⟩=some f.v:=owns_cell hrowP (by rw[List.getElem?_append_right (by omega),hRl,show n*7+6-n*7=6 by omega];rfl);have hfP:wc.frozen? ⟨gs,n*7+6,none⟩=false:=owns_frozen hrowP _;have hgsl:=(hrowP.lt gs rfl).2
          have hneP:f.v.ownBlock≠some gs:=fun e=>owns_apart hkP hrowP (by decide) e rfl
          obtain⟨ft,fv,fkids⟩:=f;simp only at hkP hlP hcP hneP;obtain⟨poa,pc,pg,rfl,_,_⟩:=sl_of_own hkP;obtain⟨k,hk⟩:∃ k,fkids.length=k:=⟨_,rfl⟩;rw[hk]at hkP hlP hcP hneP;have HKP:=Lib.hid hkP;have HKK:=Lib.hid hk;have HK2:=Lib.hid hk2
          have hkk:k≤1099511627776:=by omega
          have hk1:(k:Int)<(k:Int)+1:=by omega
          have hwr:IntKind.i64.wrap (n:Int)=(n:Int):=by rw[IntKind.wrap_i64];omega
          clear hkP hk hk2 hrowP hfm hK2 hRl cd0 cd1 cd2 cd3 cd4 cd5 fcd0 fcd1 fcd2 fcd3 fcd4 fcd5 lcd;have cd0:=hbx.cell 0;have cd1:=hbx.cell 1;have cd2:=hbx.cell 2;have cd3:=hbx.cell 3;have cd4:=hbx.cell 4;have cd5:=hbx.cell 5;have lcd:=hbx.lt;simp only[List.getElem?_toArray,List.getElem?_cons_zero,List.getElem?_cons_succ]at cd0 cd1 cd2 cd3 cd4 cd5;go_wp2_with fail;refine wp_region_phase 9 [Loose.claim 6 49 (.agg #[.int .i64 tk,.string ⟨tt.toArray⟩,.int .i64 tn,.int .i64 td,.bool ti,.bool tid,.slice none 0 0]),Loose.claim 7 50 (.int .i64 k),Loose.rowL 8 51 104 1 #[.int .i64 0,.string ⟨#[]⟩,.int .i64 0,.int .i64 0,.bool false,.bool false,.slice none 0 0] wc.heap.size] (by kernel_rfl) (by kernel_rfl) (by kernel_rfl) rfl (by kernel_rfl) (by kernel_rfl) (by kernel_rfl) (by kernel_rfl) ?_
          simp only[List.take_succ_cons,List.take_zero,headL,hushL,List.find?,Loose.claim_i,Loose.cells_i,Loose.rowL_i,Loose.claim_hush,Loose.cells_hush,Loose.rowL_hush,Loose.val_i,Loose.rowS_i,Loose.val_hush,Loose.rowS_hush,Loose.fw_i,Loose.fw_hush,Loose.rw_i,Loose.rw_hush,Nat.reduceBEq,Nat.reduceAdd]
          repeat (go_big_quiet_step (fail))
          refine wpQuiet_nil ⟨fun V m=>?_,fun V m=>?_⟩
          · simp only[List.take_succ_cons,List.take_zero,obs_cons,obs_nil,List.getElem?_cons_zero,List.getElem?_cons_succ,fill_nil,fill_claim,fill_cells,fill_rowL,Loose.claim_i,Loose.cells_i,Loose.rowL_i,Act.put,List.setIfInBounds_toArray,List.set_cons_zero,List.set_cons_succ,fill_val,fill_rowS,Loose.val_i,Loose.rowS_i,fill_fw,Loose.fw_i,fill_rw,Loose.rw_i];refine⟨fun _=>?_,fun _=>?_,fun _=>?_,trivial⟩
            · go_wp2_with fail;exact post_claim rfl (Below.refl _ _)
            · go_wp2_with fail;exact post_claim rfl (Below.refl _ _)
            · go_wp2_with fail;exact post_rowL rfl (grow_size m)
          · simp only[laws_nil,laws_claim,laws_cells,laws_rowL,laws_val,laws_rowS,laws_fw,laws_rw,dist_nil,dist_claim,dist_cells,dist_rowL,dist_val,dist_rowS,dist_fw,dist_rw,dist1_nil,dist1_claim,dist1_cells,dist1_rowL,dist1_val,dist1_fw,dist1_cells_rowL,dist1_rowL_cells,List.length_cons,List.length_nil,Nat.reduceAdd,Nat.reduceSub,and_true,fill_nil,fill_claim,fill_cells,fill_rowL,Loose.claim_i,Loose.cells_i,Loose.rowL_i,Act.put,List.setIfInBounds_toArray,List.set_cons_zero,List.set_cons_succ,fill_val,fill_rowS,Loose.val_i,Loose.rowS_i,fill_fw,Loose.fw_i,fill_rw,Loose.rw_i];rintro⟨gb,hv8,hgb,hbk⟩ _;rw[hv8];clear hv8;have hgm:=grow_below m;generalize grow wc m=wd at *;refine wpAny_ready (rs:=[9]) (by kernel_rfl) (by simp) ?_;refine AllReady.cons rfl (fun K hK=>?_) AllReady.nil
            refine step_add elVal (by rfl) _ _ (by rfl) (by rfl) (owns_belowW HKP.out hgm) (by have:=hgm.size;omega) hbk 1 (by rfl) (by rfl) (by simp[Value.oneCell']) (by omega) (by omega) ?_;intro gg cap3 w3 ho3 hg3 hat;refine hK _ _ ?_;clear hK K;change wpAny _ _ _ _ _ _ (Act.put _ (some 52) _) _
            try simp only[Act.put,List.setIfInBounds_toArray,List.set_cons_zero,List.set_cons_succ]
            refine wpAny_take (i:=10) (v:=?vv10) rfl (by kernel_rfl) (by kernel_rfl) (by kernel_rfl) (fun _ _ _ h=>h) (Or.inl ⟨by rfl,?hy10⟩) ?_
            case hy10=>(intro w;go_simp;try with_reducible rfl)
            change wpAny _ _ _ _ _ _ (Act.put _ (some 53) _) _
            try simp only[Act.put,List.setIfInBounds_toArray,List.set_cons_zero,List.set_cons_succ]
            refine wpAny_take (i:=12) (v:=?vv12) rfl (by kernel_rfl) (by kernel_rfl) (by kernel_rfl) (fun _ _ _ h=>h) (Or.inl ⟨by rfl,?hy12⟩) ?_
            case hy12=>(intro w;go_simp;try with_reducible rfl)
            change wpAny _ _ _ _ _ _ (Act.put _ (some 54) _) _
            try simp only[Act.put,List.setIfInBounds_toArray,List.set_cons_zero,List.set_cons_succ]
            refine wpAny_take (i:=13) (v:=?vv13) rfl (by kernel_rfl) (by kernel_rfl) (by kernel_rfl) (fun _ _ _ h=>h) (Or.inl ⟨by rfl,?hy13⟩) ?_
            case hy13=>(intro w;go_simp;try with_reducible rfl)
            change wpAny _ _ _ _ _ _ (Act.put _ (some 55) _) _
            try simp only[Act.put,List.setIfInBounds_toArray,List.set_cons_zero,List.set_cons_succ]
            have hk2:=HK2.out;have hkk':=HKK.out
            have hg3':wd.grownBy w3 (Value.slice poa fkids.length pc).ownBlock:=by rw[HKK.out];exact hg3
            have hfr:=hk2.frames HL.out.1 hgm hg3'
            have hgne:gg≠gs:=fun e=>owns_apart ho3 hfr (by decide) rfl (by rw[e];rfl)
            have hgne':gs≠gg:=Ne.symm hgne;have q1:w3.cell? ⟨gs,n*7+6,none⟩=some (.slice poa k pc):=(hg3.cell_far _ (by have:=hgm.size;simp;omega) (Ne.symm hneP)).trans ((hgm.cell hgsl).trans hcP);have q2:w3.frozen? ⟨gs,n*7+6,none⟩=false:=(hg3.frozen_far _ (by have:=hgm.size;simp;omega) (Ne.symm hneP)).trans ((hgm.frozen hgsl).trans hfP)
            have hln:(fkids.flatMap vcells).length=k*7:=by rw[flat_length vcells_length,HKK.out]
            have z:∀ j u,(#[.int .i64 0,.string ⟨#[]⟩,.int .i64 0,.int .i64 0,.bool false,.bool false,.slice none 0 0]:Array Value).toList[j]?=some u→w3.cell? ⟨gg,k*7+j,none⟩=some u:=fun j u hu=>owns_cell ho3 (by rw[List.getElem?_append_right (by omega),hln,show k*7+j-k*7=j by omega];exact hu)
            have z0:=z 0 _ rfl;have z1:=z 1 _ rfl;have z2:=z 2 _ rfl;have z3:=z 3 _ rfl;have z4:=z 4 _ rfl;have z5:=z 5 _ rfl;have z6:=z 6 _ rfl;simp only[Nat.add_zero]at z0;have y0:=owns_frozen ho3 (k*7);have y1:=owns_frozen ho3 (k*7+1);have y2:=owns_frozen ho3 (k*7+2);have y3:=owns_frozen ho3 (k*7+3);have y4:=owns_frozen ho3 (k*7+4);have y5:=owns_frozen ho3 (k*7+5);have y6:=owns_frozen ho3 (k*7+6);have lgg:=(ho3.lt gg rfl).2;have lgs:=(hfr.lt gs rfl).2;have hcap3:=owns_cap ho3;have H3:=Lib.hid (And.intro hgm (And.intro hg3' (And.intro hat (And.intro ho3 (And.intro hfr hgne)))));clear z hk2 hkk' hg3' hfr ho3 hg3 hgm hat hcP hfP hbk cd0 cd1 cd2 cd3 cd4 cd5 lcd hbx hgne;refine wpAny_ready (rs:=[11,14]) (by kernel_rfl) (by simp) ?_;refine AllReady.cons rfl (fun K hK=>?_) (AllReady.cons rfl (fun K hK=>?_) AllReady.nil)
            · go_simp
              refine hK _ _ ?_;clear hK K;refine wpAny_ready (rs:=[14]) (by kernel_rfl) (by simp) ?_;refine AllReady.cons rfl (fun K hK=>?_) AllReady.nil
              go_simp
              refine hK _ _ ?_;clear hK K;refine wpAny_done (by kernel_rfl) ?_ _;obtain⟨hgm,hg3,hat,ho3,hfr,hgne⟩:=H3.out;have hk:=HKK.out;subst hk;have hG1:=grownBy_puts [.int .i64 tk,.string ⟨tt.toArray⟩,.int .i64 tn,.int .i64 td,.bool ti,.bool tid,.slice none 0 0] w3 gg (fkids.length*7);have hkid:=owns_puts [.int .i64 tk,.string ⟨tt.toArray⟩,.int .i64 tn,.int .i64 td,.bool ti,.bool tid,.slice none 0 0] (fkids.length*7) w3 _ _ ho3 (flat_length vcells_length _) rfl (by simp;omega);have hfr4:=hfr.kept hG1 (.inr fun e=>hgne (Option.some.inj e).symm);have hfr5:=frames_put hfr4 HL.out.1 (.slice (some ⟨gg,0,none⟩) (fkids.length+1) cap3);have hG2:=grownBy_set (puts w3 gg (fkids.length*7) [.int .i64 tk,.string ⟨tt.toArray⟩,.int .i64 tn,.int .i64 td,.bool ti,.bool tid,.slice none 0 0]) ⟨gs,n*7+6,none⟩ (.slice (some ⟨gg,0,none⟩) (fkids.length+1) cap3)
              have hkid5:=hkid.kept hG2 (.inr fun e=>hgne (Option.some.inj e));have HPUT:=Lib.hid (Sk.put (k:=.mk ⟨tk,tt,(tn,td),ti,tid⟩ none 0 0 0 []) HK2.out HL.out.1 ⟨1,fun w' _ _=>⟨HT.out,by simp,⟨rfl,Nat.le_refl _,Nat.zero_le _,fun h=>absurd h (by simp),fun j v h=>by simp at h⟩,fun i x h=>by simp at h⟩⟩ hgm hg3 hat rfl hwB hG1 hG2 (Or.inr rfl) (Or.inl rfl) hfr5 hkid5);clear hG1 hG2 hfr4 hfr5 hgm hg3 hat ho3 hfr hgne hkid hkid5 q1 q2 z0 z1 z2 z3 z4 z5 z6 y0 y1 y2 y3 y4 y5 y6;simp only[puts]at HPUT;generalize World.setCell _ _ _=w5 at *;go_wp2_with fail
              go_roundg (N-(i+1))
              case measure=>omega
              case rel =>
               refine⟨i+1,R++[⟨ft,.slice (some ⟨gg,0,none⟩) (fkids.length+1) cap3,fkids++[.mk ⟨tk,tt,(tn,td),ti,tid⟩ none 0 0 0 []]⟩],gs,c,L,by go_num,rfl,Lib.hid ⟨by rw[List.length_append,List.length_singleton,HL.out.1,HL.out.2.1],by simp,by have:=HL.out;omega⟩,Lib.hid (by rw[← HL.out.2.1];exact HPUT.out.1),Lib.hid ?_,Lib.hid (hb2.out.trans HPUT.out.2),hi,Nat.le_refl _⟩;rw[HF.out,skC_top,skC_top,stepV_cons,if_neg HNOT.out,if_neg (by rw[HO.out];simp),List.map_append];rfl
            · go_simp
              refine hK _ _ ?_;clear hK K;refine wpAny_ready (rs:=[11]) (by kernel_rfl) (by simp) ?_;refine AllReady.cons rfl (fun K hK=>?_) AllReady.nil
              go_simp
              refine hK _ _ ?_;clear hK K;refine wpAny_done (by kernel_rfl) ?_ _;obtain⟨hgm,hg3,hat,ho3,hfr,hgne⟩:=H3.out;have hk:=HKK.out;subst hk;have hG1:=grownBy_set w3 ⟨gs,n*7+6,none⟩ (.slice (some ⟨gg,0,none⟩) (fkids.length+1) cap3);have hfr4:=frames_put hfr HL.out.1 (.slice (some ⟨gg,0,none⟩) (fkids.length+1) cap3);have ho4:=ho3.kept hG1 (.inr fun e=>hgne (Option.some.inj e));have hG2:=grownBy_puts [.int .i64 tk,.string ⟨tt.toArray⟩,.int .i64 tn,.int .i64 td,.bool ti,.bool tid,.slice none 0 0] (w3.setCell ⟨gs,n*7+6,none⟩ (.slice (some ⟨gg,0,none⟩) (fkids.length+1) cap3)) gg (fkids.length*7);have hkid5:=owns_puts [.int .i64 tk,.string ⟨tt.toArray⟩,.int .i64 tn,.int .i64 td,.bool ti,.bool tid,.slice none 0 0] (fkids.length*7) (w3.setCell ⟨gs,n*7+6,none⟩ (.slice (some ⟨gg,0,none⟩) (fkids.length+1) cap3)) _ _ ho4 (flat_length vcells_length _) rfl (by simp;omega)
              have hfr5:=hfr4.kept hG2 (.inr fun e=>hgne (Option.some.inj e).symm);have HPUT:=Lib.hid (Sk.put (k:=.mk ⟨tk,tt,(tn,td),ti,tid⟩ none 0 0 0 []) HK2.out HL.out.1 ⟨1,fun w' _ _=>⟨HT.out,by simp,⟨rfl,Nat.le_refl _,Nat.zero_le _,fun h=>absurd h (by simp),fun j v h=>by simp at h⟩,fun i x h=>by simp at h⟩⟩ hgm hg3 hat rfl hwB hG1 hG2 (Or.inl rfl) (Or.inr rfl) hfr5 hkid5);clear hG1 hG2 hfr4 hfr5 hgm hg3 hat ho3 hfr hgne ho4 hkid5 q1 q2 z0 z1 z2 z3 z4 z5 z6 y0 y1 y2 y3 y4 y5 y6;simp only[puts]at HPUT;generalize World.setCell _ _ _=w5 at *;go_wp2_with fail
              go_roundg (N-(i+1))
              case measure=>omega
              case rel =>
               refine⟨i+1,R++[⟨ft,.slice (some ⟨gg,0,none⟩) (fkids.length+1) cap3,fkids++[.mk ⟨tk,tt,(tn,td),ti,tid⟩ none 0 0 0 []]⟩],gs,c,L,by go_num,rfl,Lib.hid ⟨by rw[List.length_append,List.length_singleton,HL.out.1,HL.out.2.1],by simp,by have:=HL.out;omega⟩,Lib.hid (by rw[← HL.out.2.1];exact HPUT.out.1),Lib.hid ?_,Lib.hid (hb2.out.trans HPUT.out.2),hi,Nat.le_refl _⟩;rw[HF.out,skC_top,skC_top,stepV_cons,if_neg HNOT.out,if_neg (by rw[HO.out];simp),List.map_append];rfl
        · have gO:(closeF tk != 0)=true:=by simpa using hO
          have HO:=Lib.hid hO;clear hO;go_wp2_with fail;go_wp2_with fail
          ((with_reducible refine(closer_same tk _).mono ?_);rintro e w' ⟨rfl,rfl⟩)
          have hk2:=hK2.out;have hrowP:=hk2.row;rw[List.length_append,List.length_singleton,HL.out.1,HL.out.2.1]at hrowP;have HK2:=Lib.hid hk2;have HRW:=Lib.hid hrowP;clear hk2 hrowP hK2;go_wp2_with (at_builtin;refine wpList_add elFrame rfl _ _ rfl rfl (HRW.out.alloc _) (by simp;omega) (Blk.new wc _ _) 1 rfl rfl (by simp[Value.oneCell']) (by omega) (by omega) ?_;intro gg cap3 w3 ho3 hg3 hat hvb;have H3:=Lib.hid (And.intro ho3 (And.intro hg3 (And.intro hat hvb)));clear ho3 hg3 hat hvb)
          go_roundg (N-(i+1))
          case measure=>omega
          case rel =>
           obtain⟨ho3,hg3,hat,hvb⟩:=H3.out
           have hl1:(R++[f]).length=L:=by rw[List.length_append,List.length_singleton,HL.out.1,HL.out.2.1]
           have hgc:=grownBy_trans (World.grownBy_alloc wc _ _) hg3;have hop:=HK2.out.open (t:=⟨tk,tt,(tn,td),ti,tid⟩) (vs':=.slice (some ⟨gg,0,none⟩) (L+1) cap3) (gg:=gg) HT.out rfl (hat.imp id fun e=>by rw[e];simp) hgc (by rw[hl1];exact ho3);refine⟨i+1,_,gg,cap3,L+1,by go_num,rfl,Lib.hid ⟨by rw[List.length_append,hl1];rfl,by simp,by have:=HL.out;omega⟩,Lib.hid (hop.mono (by omega)),Lib.hid ?_,Lib.hid (hb2.out.trans (Below.grown (Below.refl B wc) hgc hwB (fun k hk=>(HRW.out.lt k hk).1))),hi,Nat.le_refl _⟩;rw[HF.out,skC_top,skC_top,stepV_cons,if_neg HNOT.out,if_pos HO.out];rfl
   · obtain rfl:i=N:=by omega
     have gi:decide ((i:Int)<(i:Int))=false:=by simp
     have gin:decide (i<i)=false:=by simp
     go_wp2_with fail;go_meet
     case rel=>exact⟨S,gs,c,L,rfl,hL,hK,Lib.hid (by rw[hC.out,← HX.out,← HN.out,List.take_length]),hb⟩
 case rest =>
  obtain⟨S,gs,c,L,rfl,hL,hK,hC,hb⟩:=hcut;obtain⟨hL1,hL2,hL3⟩:=hL.out
  have HZ:=Lib.hid (show Y=match closeV L (skC S) with
   | (_,k)::_=>k
   | []=>[] by rw[HXY.out,hC.out,← hL1,← skC_length,hC.out])
  have HL0:=Lib.hid hL1;have HS0:=Lib.hid hL2;clear hL hL1 hL2 hC HK0 HB0 HXY HX
  go_upto_block 2 with fail
  go_cut [3] (fun s wx=>∃ (f:Fm) (gs c:Nat),s=.slice (some ⟨gs,0,none⟩) 1 c∧Hid (∃ K,K≤N+N+2∧Sk B wx (.slice (some ⟨gs,0,none⟩) 1 c) [f] K)∧Hid (Y=f.kids.map Vl.c)∧Hid (Below B w wx))
  case first =>
   go_wp2_with fail
   go_loopg [3] L (fun q s3 wr=>∃ (S:List Fm) (gs c M:Nat),s3=.slice (some ⟨gs,0,none⟩) M c∧Hid (S.length=M∧S≠[])∧Hid (Sk B wr (.slice (some ⟨gs,0,none⟩) M c) S (N+L-M))∧Hid (∃ m,M≤m+1∧Y=match closeV m (skC S) with
    | (_,k)::_=>k
    | []=>[])∧Hid (Below B w wr)∧M≤L∧M≤q)
   case atStart=>exact⟨S,gs,c,L,rfl,Lib.hid ⟨HL0.out,HS0.out⟩,Lib.hid (hK.out.mono (by omega)),Lib.hid ⟨L,by omega,HZ.out⟩,hb,Nat.le_refl _,Nat.le_refl _⟩
   case round =>
    clear HZ HL0 HS0 hK hb;obtain⟨S,gs,c,M,rfl,hM,hK,hZ,hb,hML,hq⟩:=hrel
    by_cases h2:2≤M
    · have g1:decide ((1:Int)<(M:Int))=true:=by simp;omega
      have g1n:decide (1<M)=true:=by simp;omega
      obtain⟨R0,f,rfl⟩:=last_of hM.out.2;obtain⟨R,p,rfl⟩:=last_of (S:=R0) (fun e=>by have:=hM.out.1;rw[e]at this;simp at this;omega);obtain⟨n',hn'⟩:∃ n',R.length=n':=⟨_,rfl⟩
      have hMM:n'+2=M:=by have:=hM.out.1;simp at this;omega
      have hsh:=shut_any B (N+L-M) n' R p f gs c wr hn' (by rw[hMM];exact hK.out) (by have:=hb.out.size;have:=HB.out;omega) (by omega);rw[hMM]at hsh;have HSH:=Lib.hid hsh;clear hsh;go_wp2_with fail
      ((with_reducible refine HSH.out.mono ?_);rintro e w2 ⟨rfl,⟨v',kd,hsk,hkc⟩,hbb⟩)
      have H2:=Lib.hid (And.intro hsk (And.intro hkc hbb));clear hsk hkc hbb HSH;go_wp2_with fail
      go_roundg (M-1)
      case measure=>omega
      case rel =>
       obtain⟨hsk,hkc,hbb⟩:=H2.out;obtain⟨m,hm,hY⟩:=hZ.out;obtain⟨m,rfl⟩:∃ m',m=m'+1:=⟨m-1,by omega⟩;refine⟨R++[⟨p.t,v',p.kids++[kd]⟩],gs,c,n'+1,rfl,Lib.hid ⟨by rw[List.length_append,hn'];rfl,by simp⟩,Lib.hid (hsk.mono (by omega)),Lib.hid ⟨m,by omega,?_⟩,Lib.hid (hb.out.trans hbb),by omega,by omega⟩;rw[hY,closeV,if_pos (by rw[skC_length];simp),shutF_sk,skC_top,← hkc,List.map_append];rfl
    · have g1:decide ((1:Int)<(M:Int))=false:=by simp;omega
      have g1n:decide (1<M)=false:=by simp;omega
      obtain⟨R0,f,rfl⟩:=last_of hM.out.2;have hR0:R0=[]:=List.eq_nil_of_length_eq_zero (by have:=hM.out.1;simp at this;omega);subst hR0
      obtain rfl:M=1:=by have:=hM.out.1;simp at this;omega
      go_wp2_with fail;go_meet
      case rel =>
       obtain⟨m,hm,hY⟩:=hZ.out;refine⟨f,gs,c,rfl,Lib.hid ⟨_,by omega,hK.out⟩,Lib.hid ?_,hb⟩;rw[hY]
       cases m with
       | zero=>rfl
       | succ m=>rw[closeV,if_neg (by rw[skC_length];simp)];rfl
  case rest =>
   obtain⟨f,gs,c,rfl,hK,hY,hb⟩:=hcut;obtain⟨K,hKl,hk⟩:=hK.out;have hrow:=hk.row;have hcell:wc.cell? ⟨gs,6,none⟩=some f.v:=owns_cell hrow rfl;have hkf:=hk.kid f (List.mem_singleton.2 rfl);have hlf:=hk.len f (List.mem_singleton.2 rfl);obtain⟨h0,hsf⟩:=hk.safe
   have hne:=fun e=>owns_apart hkf hrow (by decide) e (g:=gs) rfl
   obtain⟨ft,fv,fkids⟩:=f;simp only at hkf hlf hcell hsf hne;obtain⟨poa,pc,pg,rfl,hsl,hpos⟩:=sl_of_own hkf;have HV:=Lib.hid (show isVs (· < B) h0 Y (.slice poa fkids.length pc) wc from ⟨poa,pc,pg,0,fkids,rfl,hY.out.symm,VsIn.made (by omega) hsl (fun h e=>by have:=hpos h;omega) ((hsf.anti fun b hb _=>Or.inl hb).mono fun _ hw x hx=>hw _ (List.mem_singleton.2 rfl) x hx)⟩);clear hrow hkf hsf hk hK hsl hpos hne;generalize fkids.length=k at *;go_wp2_with fail;go_ret;exact⟨⟨_,rfl,h0,HV.out⟩,hb.out⟩
end Go.Proofs.YtnbkbenkhkinoaaGreatDoor
