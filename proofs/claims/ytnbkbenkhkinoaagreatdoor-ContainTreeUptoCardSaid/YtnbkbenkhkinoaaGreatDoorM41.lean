/- Of my texts: CnM. -/
import Derived.Test.YtnbkbenkhkinoaaGreatDoorM39
import Derived.Test.YtnbkbenkhkinoaaGreatDoorM40
import Derived.Laws.EntriesVeiled
namespace Go.Proofs.YtnbkbenkhkinoaaGreatDoor
set_option linter.unusedVariables false
set_option linter.unusedSimpArgs false
open Go.RowKit
def leavesN (h:Nat) (e:Cd):List Lf:=if mayC 340 e=true then leavesC h e else []
def LvR (w:World) (ls:List Lf) (x:Ending) (w':World):Prop:=∃ (v:Value) (ms:List Lf),x=.returned v∧Below w.heap.size w w'∧w'.ownsRow w.heap.size 33 12 v ms.length (ms.flatMap lcells)∧ms.map keyL=ls.map keyL
theorem LvR.intro {w w':World} {ls ms:List Lf} {v:Value} (hb:Below w.heap.size w w') (ho:w'.ownsRow w.heap.size 33 12 v ms.length (ms.flatMap lcells)) (hk:ms.map keyL=ls.map keyL):LvR w ls (.returned v) w':=⟨v,ms,rfl,hb,ho,hk⟩
set_option maxRecDepth 20000 in
set_option maxHeartbeats 8000000 in
theorem cLeaves_any (h:Nat) (e:Cd) (w:World) (hx:CdIn w h e) (hbk:(leavesC h e).length≤1048576) :
  Calls Tryz.prog 43 #[cv e] w (LvR w (leavesN h e)):=by
 have hC:=fun wx hb=>cMayC_any h e wx (hx.below h (w':=wx) hb)
 have hW:=fun w0 gO gW wr v (hb:Below w.heap.size w w0) (hm:mayC 340 e=true) (hl:Lw w0 gO gW wr v [])=>walkL_any w0 gO gW h 340 e wr v [] (hx.below h hb) hm hl (by simpa using hbk)
 obtain⟨LS,hLS⟩:∃ LS,leavesC h e=LS:=⟨_,rfl⟩
 have hN:leavesN h e=if mayC 340 e=true then LS else []:=by rw[← hLS];rfl
 rw[hN];simp only[hLS]at hW;clear hN hLS hbk;obtain⟨M,hM⟩:∃ M,mayC 340 e=M:=⟨_,rfl⟩;simp only[hM]at hC hW ⊢;obtain⟨N,hN2⟩:∃ N,(if M=true then LS else [])=N:=⟨_,rfl⟩;rw[hN2];have HN:=Lib.hid hN2;clear hM hx hN2;obtain⟨c,oa,b,o,cap,kids,⟨lk,lt,nm,op,⟨k',n,d,u,oa',b',o',cap',kids'⟩,wd,vl,an⟩⟩:=e;simp only[cv_mk]at hC hW ⊢;obtain⟨K,hK⟩:∃ K,kids.length=K:=⟨_,rfl⟩;obtain⟨K',hK'⟩:∃ K,kids'.length=K:=⟨_,rfl⟩;simp only[hK,hK']at hC hW ⊢;have HC:=Lib.hid hC;have HW:=Lib.hid hW;obtain⟨h1,hb1⟩:=box_new w 35 #[.int .i64 c,.slice oa K cap,.int .i64 lk,.int .i64 lt,.string nm,.int .i64 op,.int .i64 k',.int .i64 n,.int .i64 d,.int .i64 u,.slice oa' K' cap',.string wd,.string vl,.bool an];obtain⟨g,hg⟩:∃ g,w.heap.size=g:=⟨_,rfl⟩;rw[hg]at h1;have H1:=Lib.hid h1;have HB1:=Lib.hid hb1;have HG:=Lib.hid hg;clear h1 hb1 hC hW hK hK'
 go_enter Tryz.func43,Tryz.ntmps43
 go_upto_region 1 with fail
 try simp only[hg]
 clear hg;generalize World.alloc w _=wa at *;obtain⟨c0,fc0,c1,fc1,c2,fc2,c3,fc3,c4,fc4,c5,fc5,c6,fc6,c7,fc7,c8,fc8,c9,fc9,c10,fc10,c11,fc11,c12,fc12,c13,fc13,lc⟩:=Blk.many14 (H1.out);go_wp2_with fail
 ((with_reducible refine(HC.out _ HB1.out).mono ?_);rintro e wb ⟨rfl,hbb⟩)
 have H2:=Lib.hid (H1.out.below hbb lc);have HB2:=bfH HB1 hbb;clear c0 c1 c2 c3 c4 c5 c6 c7 c8 c9 c10 c11 c12 c13 fc0 fc1 fc2 fc3 fc4 fc5 fc6 fc7 fc8 fc9 fc10 fc11 fc12 fc13 lc H1 HB1 hbb HC
 cases M with
 | false =>
   go_wp2_with fail;go_ret;exact LvR.intro (ms:=[]) HB2.out (World.ownsRow_nil _ _ _ _) (by have:=HN.out;simp at this;rw[← this])
 | true =>
   go_upto_region 5 with fail
   have hO:=(Blk.new wb 96 #[.slice none 0 0]).old (.cells #[.nilFunc] 124);have hWk:=Blk.new2 wb (.cells #[.slice none 0 0] 96) 124 #[.nilFunc];have hb:=(below_box wb (.cells #[.slice none 0 0] 96)).alloc (by simp) (.cells #[.nilFunc] 124);have H3:=Lib.hid (H2.out.below hb H2.out.lt);have HX0:=Lib.hid (And.intro hb (And.intro hO hWk))
   have hX:=fun wr v hl=>HW.out wb wb.heap.size (wb.heap.size+1) wr v HB2.out (by trivial) hl
   have HX:=Lib.hid hX;have HSZ:=Lib.hid HB2.out.size;have hlt:=H2.out.lt;clear H2 HW hO hWk hb hX;obtain⟨G,hG⟩:∃ G,wb.heap.size=G:=⟨_,rfl⟩;rw[hG]at HX HSZ HX0 hlt;have HGW:=Lib.hid hG;simp only[hG];clear hG;generalize World.alloc (World.alloc wb _) _=wc0 at *;have y0:wc0.cell? ⟨G+1,0,none⟩=some (.nilFunc):=(HX0.out.2.2).cell 0;have fy0:=(HX0.out.2.2).frozen 0;have ly:=(HX0.out.2.2).lt
   go_upto_region 6 with fail
   have HLW:=Lib.hid (show Lw wb G (G+1) (wc0.setCell ⟨G+1,0,none⟩ (.func (.func 61) #[] #[.pointer (some ⟨G,0,none⟩),.pointer (some ⟨G+1,0,none⟩)])) (.slice none 0 0) [] from ⟨by rw[HGW.out];exact HX0.out.1.setCell (p:=⟨G+1,0,none⟩) (Nat.le_succ _) _,HX0.out.2.1.far (p:=⟨G+1,0,none⟩) (by simp) _,(HX0.out.2.2.put 0 _).to rfl,World.ownsRow_nil _ _ _ _,Nat.le_of_eq HGW.out,Nat.lt_succ_self _⟩);have H3:=Lib.hid (H3.out.far (p:=⟨G+1,0,none⟩) (by simp;omega) (.func (.func 61) #[] #[.pointer (some ⟨G,0,none⟩),.pointer (some ⟨G+1,0,none⟩)]));clear y0 fy0 ly HX0;generalize World.setCell wc0 _ _=wc at *;have cW:=HLW.out.wlk.cell 0;have lW:=HLW.out.wlk.lt;obtain⟨c0,fc0,c1,fc1,c2,fc2,c3,fc3,c4,fc4,c5,fc5,c6,fc6,c7,fc7,c8,fc8,c9,fc9,c10,fc10,c11,fc11,c12,fc12,c13,fc13,lc⟩:=Blk.many14 (H3.out);go_wp2_with fail
   ((with_reducible refine(HX.out _ _ HLW.out).mono ?_);rintro e wd ⟨rfl,v2,ms,hl,hk⟩)
   have HL:=Lib.hid (And.intro hl hk);have cO:=hl.out.cell 0;have lO:=hl.out.lt;clear cW lW c0 c1 c2 c3 c4 c5 c6 c7 c8 c9 c10 c11 c12 c13 fc0 fc1 fc2 fc3 fc4 fc5 fc6 fc7 fc8 fc9 fc10 fc11 fc12 fc13 lc H3 HX HLW hl hk;go_wp2_with fail;go_ret;exact LvR.intro (below_far HB2.out (grownBy_of_below HL.out.1.below none) (fun _ e=>by cases e)) (owns_base HL.out.1.own (by have:=HSZ.out;omega)) (by have:=HN.out;simp only[if_true]at this;rw[← this];exact HL.out.2)
theorem row12 {w:World} {b o:Nat} {a0 a1 a2 a3 a4 a5 a6 a7 a8 a9 a10 a11:Value} (h:∀ (j:Nat) (v:Value),([a0,a1,a2,a3,a4,a5,a6,a7,a8,a9,a10,a11]:List Value)[j]?=some v→w.cell? ⟨b,o+j,none⟩=some v):w.cell? ⟨b,o,none⟩=some a0∧w.cell? ⟨b,o+1,none⟩=some a1∧w.cell? ⟨b,o+2,none⟩=some a2∧w.cell? ⟨b,o+3,none⟩=some a3∧w.cell? ⟨b,o+4,none⟩=some a4∧w.cell? ⟨b,o+5,none⟩=some a5∧w.cell? ⟨b,o+6,none⟩=some a6∧w.cell? ⟨b,o+7,none⟩=some a7∧w.cell? ⟨b,o+8,none⟩=some a8∧w.cell? ⟨b,o+9,none⟩=some a9∧w.cell? ⟨b,o+10,none⟩=some a10∧w.cell? ⟨b,o+11,none⟩=some a11 :=
 ⟨h 0 _ rfl,h 1 _ rfl,h 2 _ rfl,h 3 _ rfl,h 4 _ rfl,h 5 _ rfl,h 6 _ rfl,h 7 _ rfl,h 8 _ rfl,h 9 _ rfl,h 10 _ rfl,h 11 _ rfl⟩
theorem leaf_at {w:World} {oa:Option Addr} {cap b:Nat} {ms:List Lf} {i:Nat} (hs:Sl w oa ms.length cap b 0 12 (ms.flatMap lcells)) (hi:i<ms.length):∃ (xk xt:Int) (nl:List UInt8) (xop xe0 xe1 xe2 xe3:Int) (xoa:Option Addr) (xl xcap:Nat) (xwd xvl:ByteArray) (xan:Bool),keyL ms[i]=(xk,⟨nl.toArray⟩) ∧
  (w.cell? ⟨b,i*12,none⟩=some (.int .i64 xk)∧w.cell? ⟨b,i*12+1,none⟩=some (.int .i64 xt)∧w.cell? ⟨b,i*12+2,none⟩=some (.string ⟨nl.toArray⟩)∧w.cell? ⟨b,i*12+3,none⟩=some (.int .i64 xop)∧w.cell? ⟨b,i*12+4,none⟩=some (.int .i64 xe0)∧w.cell? ⟨b,i*12+5,none⟩=some (.int .i64 xe1)∧w.cell? ⟨b,i*12+6,none⟩=some (.int .i64 xe2)∧w.cell? ⟨b,i*12+7,none⟩=some (.int .i64 xe3)∧w.cell? ⟨b,i*12+8,none⟩=some (.slice xoa xl xcap)∧w.cell? ⟨b,i*12+9,none⟩=some (.string xwd)∧w.cell? ⟨b,i*12+10,none⟩=some (.string xvl)∧w.cell? ⟨b,i*12+11,none⟩=some (.bool xan)):=by
 have hr:ms[i]?=some ms[i]:=List.getElem?_eq_getElem hi
 have hc:=fun j v (hj:(lcells ms[i])[j]?=some v)=>hs.cell (i*12+j) v (rows_at hr j v hj)
 generalize ms[i]=x at *;obtain⟨xk,xt,nm,xop,⟨xe0,xe1,xe2,xe3,xoa,xb,xo,xcap,xkids⟩,xwd,xvl,xan⟩:=x;obtain⟨nl,rfl⟩:∃ nl:List UInt8,nm=⟨nl.toArray⟩:=⟨_,bytes_lit rfl⟩;refine⟨xk,xt,nl,xop,xe0,xe1,xe2,xe3,xoa,xkids.length,xcap,xwd,xvl,xan,rfl,row12 fun j v hj=>?_⟩;have:=hc j v hj;rwa [Nat.zero_add]at this
theorem needL_key (k:Int) (nl:List UInt8):needL (k,⟨nl.toArray⟩)=needK k nl:=rfl
set_option maxRecDepth 20000 in
set_option maxHeartbeats 16000000 in
theorem needsP_any (h:Nat) (e:Cd) (w:World) (hx:CdIn w h e) (hbk:(leavesC h e).length≤1048576) :
  Calls Tryz.prog 26 #[cv e] w fun x w'=>x=.returned (.int .i64 (foldN 0 ((leavesN h e).map keyL)))∧Below w.heap.size w w':=by
 have hC:=fun wx hb=>cLeaves_any h e wx (hx.below h (w':=wx) hb) hbk
 obtain⟨LS,hLS⟩:∃ LS,leavesN h e=LS:=⟨_,rfl⟩
 have hLN:LS.length≤1048576:=by
  rw[← hLS];unfold leavesN;split
  · exact hbk
  · exact Nat.zero_le _
 simp only[hLS]at hC ⊢;clear hLS hbk hx;obtain⟨c,oa,b,o,cap,kids,⟨lk,lt,nm,op,⟨k',n,d,u,oa',b',o',cap',kids'⟩,wd,vl,an⟩⟩:=e;simp only[cv_mk]at hC ⊢;obtain⟨K,hK⟩:∃ K,kids.length=K:=⟨_,rfl⟩;obtain⟨K',hK'⟩:∃ K,kids'.length=K:=⟨_,rfl⟩;simp only[hK,hK']at hC ⊢;have HC:=Lib.hid hC;obtain⟨h1,hb1⟩:=box_new w 35 #[.int .i64 c,.slice oa K cap,.int .i64 lk,.int .i64 lt,.string nm,.int .i64 op,.int .i64 k',.int .i64 n,.int .i64 d,.int .i64 u,.slice oa' K' cap',.string wd,.string vl,.bool an];obtain⟨g,hg⟩:∃ g,w.heap.size=g:=⟨_,rfl⟩;rw[hg]at h1;have H1:=Lib.hid h1;have HB1:=Lib.hid hb1;clear h1 hb1 hC hK hK'
 go_enter Tryz.func26,Tryz.ntmps26
 go_upto_region 1 with fail
 try simp only[hg]
 clear hg;generalize World.alloc w _=wa at *;obtain⟨c0,fc0,c1,fc1,c2,fc2,c3,fc3,c4,fc4,c5,fc5,c6,fc6,c7,fc7,c8,fc8,c9,fc9,c10,fc10,c11,fc11,c12,fc12,c13,fc13,lc⟩:=Blk.many14 (H1.out);go_wp2_with fail
 ((with_reducible refine(HC.out _ HB1.out).mono ?_);rintro e wb ⟨v,ms,rfl,hbb,ho,hk⟩)
 obtain⟨va,vcap,vb,rfl,hsl,-⟩:=sl_of_own ho;have HB2:=bfH HB1 hbb;have HSL:=Lib.hid hsl;have HKL:=Lib.hid hk
 have hml:ms.length≤1048576:=by have:=congrArg List.length hk;simp only[List.length_map]at this;omega
 clear c0 c1 c2 c3 c4 c5 c6 c7 c8 c9 c10 c11 c12 c13 fc0 fc1 fc2 fc3 fc4 fc5 fc6 fc7 fc8 fc9 fc10 fc11 fc12 fc13 lc;clear H1 HB1 hbb HC hsl hk ho hLN;go_wp2_with fail
 go_loopg [3,9] ms.length (fun q s3 s9 wr=>∃ (i:Nat) (m:Int),s3=.int .i64 m∧s9=.int .i64 i∧Hid (m=foldN 0 ((ms.take i).map keyL))∧(m=0∨m=1∨m=2)∧Hid (Below w.heap.size w wr)∧Hid (Sl wr va ms.length vcap vb 0 12 (ms.flatMap lcells))∧i≤ms.length∧ms.length-i≤q)
 case atStart=>exact⟨0,0,rfl,rfl,Lib.hid rfl,.inl rfl,HB2,HSL,Nat.zero_le _,Nat.le_refl _⟩
 case round =>
  clear HB2 HSL;obtain⟨i,m,rfl,rfl,hm,hm3,hb,hsl,hle,hq⟩:=hrel
  by_cases hi:i<ms.length
  · have gi:decide ((i:Int)<(ms.length:Int))=true:=by simpa using hi
    have gin:decide (i<ms.length)=true:=by simpa using hi
    obtain⟨rfl,hlb⟩:=hsl.out.lies (by omega);obtain⟨xk,xt,nl,xop,xe0,xe1,xe2,xe3,xoa,xl,xcap,xwd,xvl,xan,hkey,f0,f1,f2,f3,f4,f5,f6,f7,f8,f9,f10,f11⟩:=leaf_at hsl.out hi
    have hst:foldN 0 ((ms.take (i+1)).map keyL)=max m (needK xk nl):=by
     rw[List.take_succ_eq_append_getElem hi,List.map_append,List.map_singleton,foldN_snoc,hkey,needL_key,hm.out]
    have hK3:=needK_three xk nl;have HST:=Lib.hid hst;have hc2:=hsl.out.le;have hc3:=hsl.out.max;unfold maxLen at hc3;clear hkey hst hm
    go_upto_region 5 with fail
    obtain⟨hB3,hb3⟩:=box_new wr 33 #[.int .i64 xk,.int .i64 xt,.string ⟨nl.toArray⟩,.int .i64 xop,.int .i64 xe0,.int .i64 xe1,.int .i64 xe2,.int .i64 xe3,.slice xoa xl xcap,.string xwd,.string xvl,.bool xan];have HB3:=bfH hb hb3;have HSL:=Lib.hid (hsl.out.below hb3);clear f0 f1 f2 f3 f4 f5 f6 f7 f8 f9 f10 f11 hb3 hb hsl hlb;generalize wr.heap.size=g3 at *;generalize World.alloc wr _=wv at *;obtain⟨c0,c1,c2,c3,c4,c5,c6,c7,c8,c9,c10,c11,f4,f5,f6,f7,f8,lc⟩:=hB3.lf12;clear hB3;have HN:=Lib.hid (needs_any xk xt nl xop xe0 xe1 xe2 xe3 xoa xl xcap xwd xvl xan wv);generalize needK xk nl=t at *;go_wp2_with fail
    ((with_reducible refine HN.out.mono ?_);rintro e wx ⟨rfl,hbx⟩)
    have HB4:=bfH HB3 hbx;have HSL2:=Lib.hid (HSL.out.below hbx);clear HB3 HSL HN hbx c0 c1 c2 c3 c4 c5 c6 c7 c8 c9 c10 c11 f4 f5 f6 f7 f8 lc;go_wp2_with fail
    go_roundg (ms.length-(i+1))
    case measure=>omega
    case rel=>exact⟨i+1,_,rfl,by go_num,Lib.hid (by rw[HST.out]),by omega,HB4,HSL2,hi,Nat.le_refl _⟩
  · obtain rfl:i=ms.length:=by omega
    have gi:decide ((ms.length:Int)<(ms.length:Int))=false:=by simp
    have gin:decide (ms.length<ms.length)=false:=by simp
    have hmz:=hm.out;rw[List.take_of_length_le (Nat.le_refl _),HKL.out]at hmz;have HM:=Lib.hid hmz;clear hmz hm hsl;go_wp2_with fail;go_ret;exact⟨by rw[← HM.out];rfl,hb.out⟩
end Go.Proofs.YtnbkbenkhkinoaaGreatDoor
