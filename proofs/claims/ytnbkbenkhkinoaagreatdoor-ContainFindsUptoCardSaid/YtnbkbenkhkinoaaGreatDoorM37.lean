/- Of my texts: CnL, CnN. -/
import Derived.Test.YtnbkbenkhkinoaaGreatDoorM04
import Derived.Test.YtnbkbenkhkinoaaGreatDoorM27
import Derived.Test.YtnbkbenkhkinoaaGreatDoorM32
import Derived.Test.YtnbkbenkhkinoaaGreatDoorM36
namespace Go.Proofs.YtnbkbenkhkinoaaGreatDoor
set_option linter.unusedVariables false
set_option linter.unusedSimpArgs false
open Go.RowKit
theorem Blk.lf12 {w:World} {g:Nat} {t:TypeId} {a0 a1 a2 a3 a4 a5 a6 a7 a8 a9 a10 a11:Value} (h:Blk w g t #[a0,a1,a2,a3,a4,a5,a6,a7,a8,a9,a10,a11]):w.cell? ⟨g,0,none⟩=some a0∧w.cell? ⟨g,1,none⟩=some a1∧w.cell? ⟨g,2,none⟩=some a2∧w.cell? ⟨g,3,none⟩=some a3∧w.cell? ⟨g,4,none⟩=some a4∧w.cell? ⟨g,5,none⟩=some a5∧w.cell? ⟨g,6,none⟩=some a6∧w.cell? ⟨g,7,none⟩=some a7∧w.cell? ⟨g,8,none⟩=some a8∧w.cell? ⟨g,9,none⟩=some a9∧w.cell? ⟨g,10,none⟩=some a10∧w.cell? ⟨g,11,none⟩=some a11∧w.frozen? ⟨g,4,none⟩=false∧w.frozen? ⟨g,5,none⟩=false∧w.frozen? ⟨g,6,none⟩=false∧w.frozen? ⟨g,7,none⟩=false∧w.frozen? ⟨g,8,none⟩=false∧g<w.heap.size :=
 ⟨h.cell 0,h.cell 1,h.cell 2,h.cell 3,h.cell 4,h.cell 5,h.cell 6,h.cell 7,h.cell 8,h.cell 9,h.cell 10,h.cell 11,h.frozen 4,h.frozen 5,h.frozen 6,h.frozen 7,h.frozen 8,h.lt⟩
theorem elLeaf:El 96 33 (.agg #[.int .i64 0,.int .i64 0,.string ⟨#[]⟩,.int .i64 0,.int .i64 0,.int .i64 0,.int .i64 0,.int .i64 0,.slice none 0 0,.string ⟨#[]⟩,.string ⟨#[]⟩,.bool false]) 12 136:=⟨Tryz.underlying96,by kernel_rfl,rfl,by decide⟩
def keyL (l:Lf):Int×ByteArray:=(l.kind,l.name)
structure Lw (w0:World) (gO gW:Nat) (wr:World) (v:Value) (ms:List Lf):Prop where
 below:Below w0.heap.size w0 wr
 out:Blk wr gO 96 #[v]
 wlk:Blk wr gW 124 #[.func (.func 61) #[] #[.pointer (some ⟨gO,0,none⟩),.pointer (some ⟨gW,0,none⟩)]]
 own:wr.ownsRow (gW+1) 33 12 v ms.length (ms.flatMap lcells)
 hO:w0.heap.size≤gO
 hW:gO<gW
section
variable {w0 wr w':World} {gO gW:Nat} {v:Value} {ms:List Lf} {row:Option Nat}
theorem Lw.grown (h:Lw w0 gO gW wr v ms) (hg:wr.grownBy w' row) (hr:∀ k,row=some k→w0.heap.size≤k∧k≠gO∧k≠gW∧v.ownBlock≠some k):Lw w0 gO gW w' v ms :=
 ⟨below_far h.below hg (fun k e=>(hr k e).1),blk_grownBy h.out hg (fun e=>(hr gO e.symm).2.1 rfl),blk_grownBy h.wlk hg (fun e=>(hr gW e.symm).2.2.1 rfl),
   h.own.kept hg (by
    cases hv:v.ownBlock with
    | none=>exact .inl rfl
    | some k=>exact .inr (fun e=>(hr k (by first|exact e|exact e.symm)).2.2.2 hv)),h.hO,h.hW⟩
theorem Lw.next (h:Lw w0 gO gW wr v ms) (hb:Below wr.heap.size wr w'):Lw w0 gO gW w' v ms:=h.grown (grownBy_of_below hb none) (fun _ e=>by cases e)
theorem Lw.lts (h:Lw w0 gO gW wr v ms):gO<wr.heap.size∧gW<wr.heap.size∧∀ k,v.ownBlock=some k→gW<k∧k<wr.heap.size:=⟨h.out.lt,h.wlk.lt,fun k e=>by have:=h.own.lt k e;omega⟩
theorem Lw.push (h:Lw w0 gO gW wr v ms) {m:Lf} {g cap:Nat} (hg:wr.grownBy w' v.ownBlock) (ho:w'.ownsRow (gW+1) 33 12 (.slice (some ⟨g,0,none⟩) (ms.length+1) cap) (ms.length+1) (ms.flatMap lcells++lcells m)) :
  Lw w0 gO gW (w'.setCell ⟨gO,0,none⟩ (.slice (some ⟨g,0,none⟩) (ms.length+1) cap)) (.slice (some ⟨g,0,none⟩) (ms.length+1) cap) (ms++[m]):=by
 have hv:=h.lts.2.2;have hO:=h.hO;have hW:=h.hW;refine⟨?_,?_,?_,?_,hO,hW⟩
 · exact(below_far h.below hg (fun k e=>by have:=hv k e;omega)).setCell (p:=⟨gO,0,none⟩) hO _
 · exact((blk_grownBy h.out hg (fun e=>by have:=hv gO e.symm;omega)).put 0 _).to rfl
 · exact(blk_grownBy h.wlk hg (fun e=>by have:=hv gW e.symm;omega)).far (p:=⟨gO,0,none⟩) (by simp;omega) _
 · have:=owns_set ho (p:=⟨gO,0,none⟩) (show gO<gW+1 by omega) (.slice (some ⟨g,0,none⟩) (ms.length+1) cap);rw[List.length_append,List.flatMap_append,List.length_singleton,List.flatMap_cons,List.flatMap_nil,List.append_nil];exact this
end
theorem mayC_nokids {f:Nat} {oa:Option Addr} {b o cap:Nat} {kids:List Cd} {lf:Lf} (h:mayC f (.mk 4 oa b o cap kids lf)=true):kids.length=0:=by
 cases f with
 | zero=>cases h
 | succ f =>
   rw[mayC_leaf]at h;simp only[Bool.and_eq_true,decide_eq_true_eq]at h;simpa using h.1
set_option maxRecDepth 20000 in
set_option maxHeartbeats 8000000 in
theorem walkL_any (w0:World) (gO gW:Nat):∀ (h f:Nat) (e:Cd) (wr:World) (v:Value) (ms:List Lf),CdIn w0 h e→mayC f e=true→Lw w0 gO gW wr v ms→ms.length+(leavesC h e).length≤1048576 →
  Calls Tryz.prog 61 #[cv e,.pointer (some ⟨gO,0,none⟩),.pointer (some ⟨gW,0,none⟩)] wr fun x w'=>x=.returned (.tuple #[])∧∃ v' ns,Lw w0 gO gW w' v' (ms++ns)∧ns.map keyL=(leavesC h e).map keyL:=by
 intro h
 induction h with
 | zero=>exact fun _ _ _ _ _ h=>h.elim
 | succ h ih =>
   intro f e wr v ms hx hm hL hbk;obtain⟨c,oa,b,o,cap,kids,lf⟩:=e;obtain⟨h1,h2,h4,h5,h6,h7,h8⟩:=hx;have hsm:kids.length≤9223372036854775807:=Nat.le_trans (Nat.le_trans h4 h5) (by decide);have HIH:=Lib.hid ih;clear ih
   by_cases hk:c=4
   · subst hk;rw[leavesC_leaf]at hbk ⊢;have hK0:=mayC_nokids hm;clear hm h7 h8 HIH h1 hsm h4 h5 h6;obtain⟨lk,lt,nm,op,ex,wd,vl,an⟩:=lf
     have hE:=fun wx hb=>expr_any h ex wx (h2.2.2.2.below h (w':=wx) hb)
     obtain⟨k',n,d,u,oa',b',o',cap',kids'⟩:=ex;simp only[xv_mk]at hE;have HE:=Lib.hid hE;rw[cv_mk,hK0];have hmL:ms.length+1≤1048576:=hbk;clear hE h2 hK0 hbk;generalize kids'.length=L' at *;obtain⟨hB1,hb1⟩:=box_new wr 35 #[.int .i64 4,.slice oa 0 cap,.int .i64 lk,.int .i64 lt,.string nm,.int .i64 op,.int .i64 k',.int .i64 n,.int .i64 d,.int .i64 u,.slice oa' L' cap',.string wd,.string vl,.bool an];have HL:=Lib.hid (hL.next hb1);have HB1:=Lib.hid hB1;have hlts:=hL.lts;have HG:=Lib.hid hlts;obtain⟨g,hg⟩:∃ g,wr.heap.size=g:=⟨_,rfl⟩;rw[hg]at HB1 HG;clear hL hb1 hB1 hlts
     go_enter Tryz.func61,Tryz.ntmps61
     go_upto_region 1 with fail
     try simp only[hg]
     clear hg;generalize World.alloc wr _=w1 at *;obtain⟨c0,fc0,c1,fc1,c2,fc2,c3,fc3,c4,fc4,c5,fc5,c6,fc6,c7,fc7,c8,fc8,c9,fc9,c10,fc10,c11,fc11,c12,fc12,c13,fc13,lc⟩:=Blk.many14 (HB1.out)
     go_upto_region 3 with fail
     obtain⟨hB2,hb2⟩:=box_new w1 33 #[.int .i64 lk,.int .i64 lt,.string nm,.int .i64 op,.int .i64 k',.int .i64 n,.int .i64 d,.int .i64 u,.slice oa' L' cap',.string wd,.string vl,.bool an];have HL2:=Lib.hid (HL.out.next hb2);have HB12:=Lib.hid (HB1.out.below hb2 lc);have hgl:=lc;have hnv:=HL.out.lts;have HNV:=Lib.hid hnv;clear c0 c1 c2 c3 c4 c5 c6 c7 c8 c9 c10 c11 c12 c13 fc0 fc1 fc2 fc3 fc4 fc5 fc6 fc7 fc8 fc9 fc10 fc11 fc12 fc13 lc HL HB1 hb2 hnv;obtain⟨g2,hg2⟩:∃ g2,w1.heap.size=g2:=⟨_,rfl⟩;rw[hg2]at hB2 HNV hgl;simp only[hg2];clear hg2;generalize World.alloc w1 _=w2 at *;have HB2:=Lib.hid hB2;obtain⟨c0,c1,c2,c3,c4,c5,c6,c7,c8,c9,c10,c11,f4,f5,f6,f7,f8,lc⟩:=hB2.lf12;clear hB2;go_wp2_with fail
     ((with_reducible refine(HE.out _ HL2.out.below).mono ?_);rintro e w3 ⟨⟨yk,yn,yd,yu,ya,yl,yc,rfl⟩,hb3⟩)
     have HL3:=Lib.hid (HL2.out.next hb3);have HB3:=Lib.hid (HB2.out.below hb3 lc);have HB13:=Lib.hid (HB12.out.below hb3 HB12.out.lt);clear c0 c1 c2 c3 c4 c5 c6 c7 c8 c9 c10 c11 f4 f5 f6 f7 f8 HL2 HB2 HB12 HE hb3;obtain⟨c0,c1,c2,c3,c4,c5,c6,c7,c8,c9,c10,c11,f4,f5,f6,f7,f8,lc⟩:=HB3.out.lf12
     go_upto_region 4 with fail
     have hB4:=(((((HB3.out.put 4 (.int .i64 yk)).put 5 (.int .i64 yn)).put 6 (.int .i64 yd)).put 7 (.int .i64 yu)).put 8 (.slice ya yl yc)).to (cs':=#[.int .i64 lk,.int .i64 lt,.string nm,.int .i64 op,.int .i64 yk,.int .i64 yn,.int .i64 yd,.int .i64 yu,.slice ya yl yc,.string wd,.string vl,.bool an]) rfl;have hg4:=grownBy_puts [.int .i64 yk,.int .i64 yn,.int .i64 yd,.int .i64 yu,.slice ya yl yc] w3 g2 4;simp only[puts,Nat.reduceAdd]at hg4
     have HL4:=Lib.hid (HL3.out.grown hg4 (fun k e=>by
      obtain rfl:=Option.some.inj e;obtain⟨q1,q2,q3⟩:=HNV.out;have:=HL3.out.hO
      exact⟨by omega,by omega,by omega,fun e2=>by have:=q3 _ e2;omega⟩))
     have HB14:=Lib.hid (blk_grownBy HB13.out hg4 (by simp;omega));clear c0 c1 c2 c3 c4 c5 c6 c7 c8 c9 c10 c11 f4 f5 f6 f7 f8 lc HL3 HB3 HB13 hg4;have HB4:=Lib.hid hB4;clear hB4;generalize World.setCell _ ⟨g2,8,none⟩ _=w4 at *;obtain⟨c0,c1,c2,c3,c4,c5,c6,c7,c8,c9,c10,c11,f4,f5,f6,f7,f8,lc⟩:=HB4.out.lf12;have cO:=HL4.out.out.cell 0;have hbase:gW+1≤w4.heap.size:=HL4.out.lts.2.1
     go_upto_region 5 with (at_builtin;refine wpList_put elLeaf rfl _ _ rfl rfl HL4.out.own hbase 1 1 #[.int .i64 lk,.int .i64 lt,.string nm,.int .i64 op,.int .i64 yk,.int .i64 yn,.int .i64 yd,.int .i64 yu,.slice ya yl yc,.string wd,.string vl,.bool an] _ rfl rfl (by simp[Value.oneCell']) (by omega) (by omega) (by omega) ?_;intro gg cap2 w5 hR2 hg2 hr2;have hO5:=blk_grownBy HL4.out.out hg2 (fun e=>by have:=(HL4.out.lts.2.2 gO e.symm).1;have:=HL4.out.hW;omega);have H5:=Lib.hid (And.intro hR2 hg2);clear hR2 hg2 hr2;have cO5:=hO5.cell 0;have fO5:=hO5.frozen 0;have lO5:=hO5.lt;clear hO5)
     have hP:=HL4.out.push (m:=⟨lk,lt,nm,op,.mk yk yn yd yu ya 0 0 yc (List.replicate yl zeroX),wd,vl,an⟩) H5.out.2 (by have:=H5.out.1;simpa[lcells,xcells,List.length_replicate] using this);have hB6:=(blk_grownBy HB14.out H5.out.2 (fun e=>by have:=(HG.out.2.2 g e.symm).2;omega)).far (p:=⟨gO,0,none⟩) (by have:=HG.out.1;simp;omega) (.slice (some ⟨gg,0,none⟩) (ms.length+1) cap2);have HP:=Lib.hid hP;clear hP c0 c1 c2 c3 c4 c5 c6 c7 c8 c9 c10 c11 f4 f5 f6 f7 f8 lc cO cO5 fO5 lO5 hbase H5 HL4 HB4 HB14 hgl;generalize World.setCell w5 _ _=w6 at *;obtain⟨y0,fy0,y1,fy1,y2,fy2,y3,fy3,y4,fy4,y5,fy5,y6,fy6,y7,fy7,y8,fy8,y9,fy9,y10,fy10,y11,fy11,y12,fy12,y13,fy13,ly⟩:=Blk.many14 (hB6);clear hB6;go_wp2_with fail
     go_loopg [23] 0 (fun q s wx=>s=.int .i64 0∧wx=w6)
     case atStart=>exact⟨rfl,rfl⟩
     case round =>
      obtain⟨rfl,rfl⟩:=hrel;go_wp2_with fail
      go_end0
      exact⟨rfl,_,_,HP.out,rfl⟩
   · rw[leavesC_more _ hk]at hbk ⊢;obtain⟨hc,f',hmk⟩:=mayC_parts hk hm
     have gk:(c==4)=false:=by simpa using hk
     have HBK:=Lib.hid hbk;clear hm h1 h2 hc hbk;obtain⟨lk,lt,nm,op,⟨k',n,d,u,oa',b',o',cap',kids'⟩,wd,vl,an⟩:=lf;rw[cv_mk];obtain⟨hB1,hb1⟩:=box_new wr 35 #[.int .i64 c,.slice oa kids.length cap,.int .i64 lk,.int .i64 lt,.string nm,.int .i64 op,.int .i64 k',.int .i64 n,.int .i64 d,.int .i64 u,.slice oa' kids'.length cap',.string wd,.string vl,.bool an];have HL:=Lib.hid (hL.next hb1);have HB1:=Lib.hid hB1;obtain⟨g,hg⟩:∃ g,wr.heap.size=g:=⟨_,rfl⟩;rw[hg]at HB1;clear hL hb1 hB1
     go_enter Tryz.func61,Tryz.ntmps61
     go_upto_region 1 with fail
     try simp only[hg]
     clear hg;generalize World.alloc wr _=w1 at *;obtain⟨y0,fy0,y1,fy1,y2,fy2,y3,fy3,y4,fy4,y5,fy5,y6,fy6,y7,fy7,y8,fy8,y9,fy9,y10,fy10,y11,fy11,y12,fy12,y13,fy13,ly⟩:=Blk.many14 (HB1.out);go_wp2_with fail
     go_loopg [23] kids.length (fun q s wx=>∃ (i:Nat) (v':Value) (ns:List Lf),s=.int .i64 i∧Hid (Lw w0 gO gW wx v' (ms++ns))∧Hid (ns.map keyL=((kids.take i).flatMap (leavesC h)).map keyL)∧i≤kids.length∧kids.length-i≤q)
     case atStart=>exact⟨0,v,[],rfl,Lib.hid (by rw[List.append_nil];exact HL.out),Lib.hid rfl,Nat.zero_le _,Nat.le_refl _⟩
     case round =>
      clear y0 y1 y2 y3 y4 y5 y6 y7 y8 y9 y10 y11 y12 y13 fy0 fy1 fy2 fy3 fy4 fy5 fy6 fy7 fy8 fy9 fy10 fy11 fy12 fy13 ly HL HB1;obtain⟨i,v',ns,rfl,hl,hk3,hle,hq⟩:=hrel
      by_cases hi:i<kids.length
      · have gi:decide ((i:Int)<kids.length)=true:=by simpa using hi
        have hr:kids[i]?=some kids[i]:=List.getElem?_eq_getElem hi;have hx:=h8 i _ hr;have hmx:=hmk i _ hr;have htf:=take_flat (leavesC h) hr;have hle2:=take_flat_le kids (i+1) (leavesC h)
        have hnl:ns.length=((kids.take i).flatMap (leavesC h)).length:=by have:=congrArg List.length hk3.out;simpa only[List.length_map] using this
        rw[htf,List.length_append]at hle2;obtain⟨rfl,hbl⟩:=h7 (by omega);generalize kids[i]=x at *
        have hX:=fun wx hL'=>HIH.out f' x wx v' (ms++ns) hx.2 hmx hL' (by rw[List.length_append];have:=HBK.out;omega)
        have HTF:=Lib.hid htf;clear htf hle2 hnl hmx hr;obtain⟨LX,hLX⟩:∃ LX,leavesC h x=LX:=⟨_,rfl⟩;rw[hLX]at hX HTF;clear hLX;obtain⟨xc,xoa,xb,xo,xcap,xkids,⟨xlk,xlt,xnm,xop,⟨xk,xn,xd,xu,xoa',xb',xo',xcap',xkids'⟩,xwd,xvl,xan⟩⟩:=x
        obtain⟨f0,f1,f2,f3,f4,f5,f6,f7,f8,f9,f10,f11,f12,f13⟩:=row14 (w:=wr) (b:=b) (o:=o+i*14) fun j u hu=>(hl.out.below.cell (p:=⟨b,o+i*14+j,none⟩) hbl).trans (hx.1 j u hu)
        simp only[cv_mk]at hX;have HX:=Lib.hid hX;clear hx hX h8 h7 hmk;generalize xkids.length=xL at *;generalize xkids'.length=xL' at *
        go_upto_region 8 with fail
        obtain⟨hB3,hb3⟩:=box_new wr 35 #[.int .i64 xc,.slice xoa xL xcap,.int .i64 xlk,.int .i64 xlt,.string xnm,.int .i64 xop,.int .i64 xk,.int .i64 xn,.int .i64 xd,.int .i64 xu,.slice xoa' xL' xcap',.string xwd,.string xvl,.bool xan];have HL3:=Lib.hid (hl.out.next hb3);clear f0 f1 f2 f3 f4 f5 f6 f7 f8 f9 f10 f11 f12 f13 hb3 hl;generalize wr.heap.size=g3 at *;generalize World.alloc wr _=wv at *;obtain⟨y0,fy0,y1,fy1,y2,fy2,y3,fy3,y4,fy4,y5,fy5,y6,fy6,y7,fy7,y8,fy8,y9,fy9,y10,fy10,y11,fy11,y12,fy12,y13,fy13,ly⟩:=Blk.many14 (hB3);have cW:=HL3.out.wlk.cell 0;have lW:=HL3.out.wlk.lt;clear hB3;go_wp2_with fail
        ((with_reducible refine(HX.out _ HL3.out).mono ?_);rintro e w' ⟨rfl,v2,ns2,hl2,hk2⟩)
        have HL4:=Lib.hid (And.intro hl2 hk2);clear hl2 hk2 HX HL3 y0 y1 y2 y3 y4 y5 y6 y7 y8 y9 y10 y11 y12 y13 fy0 fy1 fy2 fy3 fy4 fy5 fy6 fy7 fy8 fy9 fy10 fy11 fy12 fy13 ly cW lW;go_wp2_with fail
        go_roundg (kids.length-(i+1))
        case measure=>omega
        case rel=>exact⟨i+1,v2,ns++ns2,by go_num,Lib.hid (by rw[← List.append_assoc];exact HL4.out.1),Lib.hid (by rw[List.map_append,hk3.out,HL4.out.2,HTF.out,List.map_append]),hi,Nat.le_refl _⟩
      · obtain rfl:i=kids.length:=by omega
        have gi:decide ((kids.length:Int)<kids.length)=false:=by simp
        have HL4:=Lib.hid (And.intro hl.out hk3.out);clear hl hk3 HIH h8 h7 hmk;go_wp2_with fail
        go_end0
        exact⟨rfl,v',ns,HL4.out.1,by rw[HL4.out.2,List.take_of_length_le (Nat.le_refl _)]⟩
def needK (k:Int) (n:List UInt8):Int:=if (k=4∨k=3)∧(n=heightS∨n=ratioS)∨(k=3∨k=5)∧n=orientS then 2 else if (k=4∨k=3)∧n=widthS then 1 else 0
theorem needK_three (k:Int) (n:List UInt8):needK k n=0∨needK k n=1∨needK k n=2:=by
 unfold needK;split
 · exact .inr (.inr rfl)
 · split
   · exact .inr (.inl rfl)
   · exact .inl rfl
def needL (p:Int×ByteArray):Int:=needK p.1 p.2.data.toList
def foldN (o:Int) (ps:List (Int×ByteArray)):Int:=ps.foldl (fun o p=>max o (needL p)) o
theorem foldN_snoc (o:Int) (ps:List (Int×ByteArray)) (p:Int×ByteArray):foldN o (ps++[p])=max (foldN o ps) (needL p):=by
 unfold foldN;rw[List.foldl_append];rfl
theorem lkind_ways (k:Int):k=4∨k=3∨k=5∨(k≠4∧k≠3∧k≠5):=by omega
theorem lname_ways (n:List UInt8):n=heightS∨n=ratioS∨n=orientS∨n=widthS∨(n≠heightS∧n≠ratioS∧n≠orientS∧n≠widthS):=by
 by_cases h1:n=heightS
 · exact .inl h1
 by_cases h2:n=ratioS
 · exact .inr (.inl h2)
 by_cases h3:n=orientS
 · exact .inr (.inr (.inl h3))
 by_cases h4:n=widthS
 · exact .inr (.inr (.inr (.inl h4)))
 exact .inr (.inr (.inr (.inr ⟨h1,h2,h3,h4⟩)))
set_option maxRecDepth 20000 in
set_option maxHeartbeats 16000000 in
theorem needs_any (k t:Int) (n:List UInt8) (op ek en ed eu:Int) (ea:Option Addr) (el ec:Nat) (wd vl:ByteArray) (an:Bool) (w:World) :
  Calls Tryz.prog 44 #[.agg #[.int .i64 k,.int .i64 t,.string ⟨n.toArray⟩,.int .i64 op,.int .i64 ek,.int .i64 en,.int .i64 ed,.int .i64 eu,.slice ea el ec,.string wd,.string vl,.bool an]] w fun e w'=>e=.returned (.int .i64 (needK k n))∧Below w.heap.size w w':=by
 obtain⟨R,hR⟩:∃ R,needK k n=R:=⟨_,rfl⟩;have hb:=Lib.hid (below_box w (.cells #[.int .i64 k,.int .i64 t,.string ⟨n.toArray⟩,.int .i64 op,.int .i64 ek,.int .i64 en,.int .i64 ed,.int .i64 eu,.slice ea el ec,.string wd,.string vl,.bool an] 33));rw[hR];unfold needK at hR
 rcases lkind_ways k with rfl|rfl|rfl|⟨k4,k3,k5⟩<;>rcases lname_ways n with rfl|rfl|rfl|rfl|⟨n1,n2,n3,n4⟩
 all_goals
  try have q1:(n==[104,101,105,103,104,116])=false:=beq_eq_false_iff_ne.2 n1
  try have q2:(n==[97,115,112,101,99,116,45,114,97,116,105,111])=false:=beq_eq_false_iff_ne.2 n2
  try have q3:(n==[111,114,105,101,110,116,97,116,105,111,110])=false:=beq_eq_false_iff_ne.2 n3
  try have q4:(n==[119,105,100,116,104])=false:=beq_eq_false_iff_ne.2 n4
  try have g4:(k==4)=false:=beq_eq_false_iff_ne.2 k4
  try have g3:(k==3)=false:=beq_eq_false_iff_ne.2 k3
  try have g5:(k==5)=false:=beq_eq_false_iff_ne.2 k5
  first | (simp[n1,n2,n3,n4, *]at hR;done) | (simp[n1,n2,n3,n4]at hR;subst hR) | (simp[heightS,ratioS,orientS,widthS, *]at hR;subst hR)
  try unfold heightS at hb
  try unfold ratioS at hb
  try unfold orientS at hb
  try unfold widthS at hb
  try unfold heightS
  try unfold ratioS
  try unfold orientS
  try unfold widthS
  try clear n1 n2 n3 n4
  try clear k4 k3 k5
  go_enter Tryz.func44,Tryz.ntmps44
  go_wp2_with fail;refine wp_region_grow (by kernel_rfl) (by kernel_rfl) ?_
  repeat (go_big_quiet_step (fail))
  refine wpQuiet_nil ?_;rintro _ ⟨m,rfl⟩;go_wp2_with fail;go_ret;exact⟨rfl,below_grow hb.out m⟩
end Go.Proofs.YtnbkbenkhkinoaaGreatDoor
