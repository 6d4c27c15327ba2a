/- Of my texts: MayC. -/
import Derived.Test.YtnbkbenkhkinoaaGreatDoorM17
import Derived.Deep.RegionHeld3
namespace Go.Proofs.YtnbkbenkhkinoaaGreatDoor
set_option linter.unusedVariables false
set_option linter.unusedSimpArgs false
open Go.RowKit
theorem cv_mk (c:Int) (oa:Option Addr) (b o cap:Nat) (kids:List Cd) (lk lt:Int) (nm:ByteArray) (op:Int) (k' n d u:Int) (oa':Option Addr) (b' o' cap':Nat) (kids':List Ex) (wd vl:ByteArray) (an:Bool) :
 cv (.mk c oa b o cap kids ⟨lk,lt,nm,op,.mk k' n d u oa' b' o' cap' kids',wd,vl,an⟩)=.agg #[.int .i64 c,.slice oa kids.length cap,.int .i64 lk,.int .i64 lt,.string nm,.int .i64 op,.int .i64 k',.int .i64 n,.int .i64 d,.int .i64 u,.slice oa' kids'.length cap',.string wd,.string vl,.bool an]:=rfl
theorem cleaf_any (h:Nat) (l:Lf) (w:World) (hl:LfIn w h l) :
  Calls Tryz.prog 118 #[lv l] w fun x w'=>x=.returned (.bool (leafB l))∧Below w.heap.size w w':=by
 obtain⟨k,t,nm,op,ex,wd,vl,an⟩:=l;obtain⟨hk,ht,ho,hx⟩:=hl;simp only at hk ht ho hx
 by_cases hr:k<0∨6<k
 · exact cleaf7 h k t nm op ex wd vl an w hx hr
 · rcases(show k=0∨k=1∨k=2∨k=3∨k=4∨k=5∨k=6 by omega) with rfl|rfl|rfl|rfl|rfl|rfl|rfl
   · exact cleaf0 h t nm op ex wd vl an w hx
   · exact cleaf1 h t nm op ex wd vl an w hx
   · exact cleaf2 h t nm op ex wd vl an w hx
   · exact cleaf3 h t nm op ex wd vl an w hx
   · exact cleaf4 h t nm op ex wd vl an w hx
   · exact cleaf5 h t nm op ex wd vl an w hx
   · exact cleaf6 h t nm op ex wd vl an w hx
theorem czero_any (h:Nat) (l:Lf) (w:World) (hl:LfIn w h l) (wx:World) (hb:Below w.heap.size w wx) :
  Calls Tryz.prog 119 #[lv l,lv zeroLf] wx fun x w'=>x=.returned (.bool (zeroL l))∧Below wx.heap.size wx w' :=
 clike_zero hl.2.2.2 l.kind l.truth l.name l.op l.word l.value l.any wx hb
def carity (k:Int) (n:Nat):Bool:=if k=1∨k=2 then decide (1≤n) else if k=3 then decide (n=1) else false
theorem carity_many {k:Int} {L:Nat} (h:k=1∨k=2):carity k L=decide ((1:Int)≤L):=by
 unfold carity;rw[if_pos h,Bool.eq_iff_iff];simp only[decide_eq_true_eq];omega
theorem carity_one {k:Int} {L:Nat} (h:k=3):carity k L=((L:Int)==1):=by
 unfold carity;rw[if_neg (by omega),if_pos h,Bool.eq_iff_iff];simp;omega
theorem carity_none {k:Int} {L:Nat} (h1:¬ (k=1∨k=2)) (h3:¬ k=3):carity k L=false:=by
 unfold carity;rw[if_neg h1,if_neg h3]
theorem mayC_leaf (f:Nat) (oa:Option Addr) (b o cap:Nat) (kids:List Cd) (lf:Lf):mayC (f+1) (.mk 4 oa b o cap kids lf)=(((kids.length:Int)==0)&&leafB lf):=by
 unfold mayC;rw[if_pos rfl,show decide (kids.length=0)=((kids.length:Int)==0) by rw[Bool.eq_iff_iff];simp]
theorem mayC_more (f:Nat) {c:Int} (hc:¬ c=4) (oa:Option Addr) (b o cap:Nat) (kids:List Cd) (lf:Lf):mayC (f+1) (.mk c oa b o cap kids lf)=(zeroL lf&&carity c kids.length&&kids.all (mayC f)):=by
 unfold mayC;rw[if_neg hc];rfl
set_option maxRecDepth 20000 in
set_option maxHeartbeats 8000000 in
theorem ccmay_any:∀ (f h:Nat) (e:Cd) (w:World) (D:Int),D=341-(f:Int)→f≤340→CdIn w h e →
  Calls Tryz.prog 90 #[cv e,.int .i64 D] w fun x w'=>x=.returned (.bool (mayC f e))∧Below w.heap.size w w':=by
 intro f
 induction f with
 | zero =>
   intro h e w D hD _ hx;obtain⟨c,oa,b,o,cap,kids,⟨lk,lt,nm,op,⟨k',n,d,u,oa',b',o',cap',kids'⟩,wd,vl,an⟩⟩:=e
   have g:D=341:=by omega
   subst g;clear hx hD;rw[cv_mk]
   go_enter Tryz.func90,Tryz.ntmps90
   go_wp2_with fail;go_ret;exact⟨rfl,below_box _ _⟩
 | succ f ih =>
   intro h e w D hD hf hx;obtain _ | h:=h
   · exact hx.elim
   obtain⟨c,oa,b,o,cap,kids,lf⟩:=e;obtain⟨h1,h2,h4,h5,h6,h7,h8⟩:=hx
   have hD1:D≤340:=by omega
   have hD0:0≤D:=by omega
   have gD:decide ((340:Int)<D)=false:=by simp;omega
   have HIH:=Lib.hid (fun x wx (hx:CdIn wx h x)=>ih h x wx (D+1) (by omega) (by omega) hx)
   have hM:=fun wx hb=>cleaf_any h lf wx (h2.below (w':=wx) hb)
   have hZ:=czero_any h lf w h2;clear ih hD hf h2;have hsm:kids.length≤9223372036854775807:=Nat.le_trans (Nat.le_trans h4 h5) (by decide)
   by_cases hk:c=4
   · subst hk;rw[mayC_leaf];obtain⟨b1,g1⟩:∃ b,((kids.length:Int)==0)=b:=⟨_,rfl⟩;rw[g1];generalize leafB lf=M at *;obtain⟨lk,lt,nm,op,⟨k',n,d,u,oa',b',o',cap',kids'⟩,wd,vl,an⟩:=lf;simp only[lv_mk]at hM;rw[cv_mk];have HM:=Lib.hid hM;clear hM hZ HIH h8 h7 h1
     cases b1 with
     | false =>
       go_enter Tryz.func90,Tryz.ntmps90
       go_wp2_with fail;go_ret;exact⟨rfl,below_box _ _⟩
     | true =>
       go_enter Tryz.func90,Tryz.ntmps90
       go_wp2_with fail
       ((with_reducible refine(HM.out _ (below_box _ _)).mono ?_);rintro e w' ⟨rfl,hbw⟩)
       obtain⟨m,rfl⟩:=grow_mk hbw;clear hbw;go_wp2_with fail;go_ret;exact⟨ret_bool rfl,below_grow (below_box _ _) m⟩
   · have gk:(c==4)=false:=by simpa using hk
     rw[mayC_more f hk];generalize zeroL lf=Z at *;obtain⟨lk,lt,nm,op,⟨k',n,d,u,oa',b',o',cap',kids'⟩,wd,vl,an⟩:=lf;simp only[lv_mk,zeroLf_lv]at hZ;rw[cv_mk];have HZ:=Lib.hid hZ;clear hM hZ h1
     cases Z with
     | false =>
       go_enter Tryz.func90,Tryz.ntmps90
       go_wp2_with fail
       ((with_reducible refine(HZ.out _ (below_box _ _)).mono ?_);rintro e w' ⟨rfl,hbw⟩)
       obtain⟨m,rfl⟩:=grow_mk hbw;clear hbw;go_wp2_with fail;go_ret;exact⟨rfl,below_grow (below_box _ _) m⟩
     | true =>
       obtain⟨A,hA⟩:∃ A,carity c kids.length=A:=⟨_,rfl⟩;have HA:=Lib.hid hA;rw[hA,Bool.true_and];have hb1:Blk (w.alloc (.cells #[.int .i64 c,.slice oa kids.length cap,.int .i64 lk,.int .i64 lt,.string nm,.int .i64 op,.int .i64 k',.int .i64 n,.int .i64 d,.int .i64 u,.slice oa' kids'.length cap',.string wd,.string vl,.bool an] 35)) w.heap.size 35 #[.int .i64 c,.slice oa kids.length cap,.int .i64 lk,.int .i64 lt,.string nm,.int .i64 op,.int .i64 k',.int .i64 n,.int .i64 d,.int .i64 u,.slice oa' kids'.length cap',.string wd,.string vl,.bool an]:=Blk.new _ _ _;have hb2:Below w.heap.size w (w.alloc (.cells #[.int .i64 c,.slice oa kids.length cap,.int .i64 lk,.int .i64 lt,.string nm,.int .i64 op,.int .i64 k',.int .i64 n,.int .i64 d,.int .i64 u,.slice oa' kids'.length cap',.string wd,.string vl,.bool an] 35)):=below_box _ _;clear hA
       go_enter Tryz.func90,Tryz.ntmps90
       go_wp2_with fail
       ((with_reducible refine(HZ.out _ hb2).mono ?_);rintro e w' ⟨rfl,hbw⟩)
       obtain⟨m,rfl⟩:=grow_mk hbw;clear hbw;replace hb1:=hb1.grow m;replace hb2:=below_grow hb2 m;generalize grow _ m=wg at *;have cb0:wg.cell? ⟨w.heap.size,0,none⟩=some (.int .i64 c):=(hb1).cell 0;have fcb0:=(hb1).frozen 0;have cb1:wg.cell? ⟨w.heap.size,1,none⟩=some (.slice oa kids.length cap):=(hb1).cell 1;have fcb1:=(hb1).frozen 1;have cb2:wg.cell? ⟨w.heap.size,2,none⟩=some (.int .i64 lk):=(hb1).cell 2;have fcb2:=(hb1).frozen 2;have cb3:wg.cell? ⟨w.heap.size,3,none⟩=some (.int .i64 lt):=(hb1).cell 3;have fcb3:=(hb1).frozen 3;have cb4:wg.cell? ⟨w.heap.size,4,none⟩=some (.string nm):=(hb1).cell 4;have fcb4:=(hb1).frozen 4;have cb5:wg.cell? ⟨w.heap.size,5,none⟩=some (.int .i64 op):=(hb1).cell 5;have fcb5:=(hb1).frozen 5;have cb6:wg.cell? ⟨w.heap.size,6,none⟩=some (.int .i64 k'):=(hb1).cell 6;have fcb6:=(hb1).frozen 6;have cb7:wg.cell? ⟨w.heap.size,7,none⟩=some (.int .i64 n):=(hb1).cell 7
       have fcb7:=(hb1).frozen 7;have cb8:wg.cell? ⟨w.heap.size,8,none⟩=some (.int .i64 d):=(hb1).cell 8;have fcb8:=(hb1).frozen 8;have cb9:wg.cell? ⟨w.heap.size,9,none⟩=some (.int .i64 u):=(hb1).cell 9;have fcb9:=(hb1).frozen 9;have cb10:wg.cell? ⟨w.heap.size,10,none⟩=some (.slice oa' kids'.length cap'):=(hb1).cell 10;have fcb10:=(hb1).frozen 10;have cb11:wg.cell? ⟨w.heap.size,11,none⟩=some (.string wd):=(hb1).cell 11;have fcb11:=(hb1).frozen 11;have cb12:wg.cell? ⟨w.heap.size,12,none⟩=some (.string vl):=(hb1).cell 12;have fcb12:=(hb1).frozen 12;have cb13:wg.cell? ⟨w.heap.size,13,none⟩=some (.bool an):=(hb1).cell 13;have fcb13:=(hb1).frozen 13;have lcb:=(hb1).lt
       go_upto_block 0 with fail
       go_cut [6] (fun s wx=>s=.bool A∧wx=wg)
       case first =>
        clear HIH h7 h8 hb1 hb2 HZ
        by_cases e1:c=1∨c=2
        · have G:=Lib.hid (HA.out.symm.trans (carity_many (L:=kids.length) e1))
          rcases e1 with rfl|rfl
          all_goals
           go_wp2_with fail;go_meet
           case rel=>exact⟨congrArg Value.bool G.out.symm,rfl⟩
        by_cases e3:c=3
        · have G:=Lib.hid (HA.out.symm.trans (carity_one (L:=kids.length) e3));subst e3;go_wp2_with fail;go_meet
          case rel=>exact⟨congrArg Value.bool G.out.symm,rfl⟩
        · have G:=Lib.hid (HA.out.symm.trans (carity_none (L:=kids.length) e1 e3))
          have e1':(c==1)=false:=by simp;omega
          have e2':(c==2)=false:=by simp;omega
          have e3':(c==3)=false:=by simp;omega
          clear e1 e3;go_wp2_with fail;go_meet
          case rel=>exact⟨congrArg Value.bool G.out.symm,rfl⟩
       case rest =>
        obtain⟨rfl,rfl⟩:=hcut;clear cb0 cb1 cb2 cb3 cb4 cb5 cb6 cb7 cb8 cb9 cb10 cb11 cb12 cb13 fcb0 fcb1 fcb2 fcb3 fcb4 fcb5 fcb6 fcb7 fcb8 fcb9 fcb10 fcb11 fcb12 fcb13 lcb;go_wp2_with fail
        go_loopg [6,7] kids.length (fun kk s t wr=>∃ (i:Nat) (ok:Bool),s=.bool ok∧t=.int .i64 i∧Hid (Gk w wr 35 #[.int .i64 c,.slice oa kids.length cap,.int .i64 lk,.int .i64 lt,.string nm,.int .i64 op,.int .i64 k',.int .i64 n,.int .i64 d,.int .i64 u,.slice oa' kids'.length cap',.string wd,.string vl,.bool an])∧i≤kids.length∧Hid ((ok&&(kids.drop i).all (mayC f))=(A&&kids.all (mayC f)))∧kids.length-i≤kk)
        case atStart=>exact⟨0,A,rfl,rfl,Lib.hid ⟨hb2,hb1⟩,Nat.zero_le _,Lib.hid rfl,by omega⟩
        case round =>
         clear hb1 hb2 HA HZ;obtain⟨i,ok,rfl,rfl,hg,hle,hl,hk2⟩:=hrel;have hbel:=Lib.hid hg.out.below
         by_cases hi:i<kids.length
         · have gi:decide ((i:Int)<kids.length)=true:=by simpa using hi
           cases ok with
           | false =>
             go_wp2_with fail;go_ret;exact⟨ret_bool (by rw[← hl.out];rfl),hbel.out⟩
           | true =>
             have hr:kids[i]?=some kids[i]:=List.getElem?_eq_getElem hi;have hx:=h8 i _ hr;have hlaw:=hl.out;rw[all_drop hr]at hlaw;obtain⟨rfl,hbl⟩:=h7 (by omega);have cb0:wr.cell? ⟨w.heap.size,0,none⟩=some (.int .i64 c):=(hg.out.box).cell 0;have fcb0:=(hg.out.box).frozen 0;have cb1:wr.cell? ⟨w.heap.size,1,none⟩=some (.slice (some ⟨b,o,none⟩) kids.length cap):=(hg.out.box).cell 1;have fcb1:=(hg.out.box).frozen 1;have cb2:wr.cell? ⟨w.heap.size,2,none⟩=some (.int .i64 lk):=(hg.out.box).cell 2;have fcb2:=(hg.out.box).frozen 2;have cb3:wr.cell? ⟨w.heap.size,3,none⟩=some (.int .i64 lt):=(hg.out.box).cell 3;have fcb3:=(hg.out.box).frozen 3;have cb4:wr.cell? ⟨w.heap.size,4,none⟩=some (.string nm):=(hg.out.box).cell 4;have fcb4:=(hg.out.box).frozen 4;have cb5:wr.cell? ⟨w.heap.size,5,none⟩=some (.int .i64 op):=(hg.out.box).cell 5;have fcb5:=(hg.out.box).frozen 5
             have cb6:wr.cell? ⟨w.heap.size,6,none⟩=some (.int .i64 k'):=(hg.out.box).cell 6;have fcb6:=(hg.out.box).frozen 6;have cb7:wr.cell? ⟨w.heap.size,7,none⟩=some (.int .i64 n):=(hg.out.box).cell 7;have fcb7:=(hg.out.box).frozen 7;have cb8:wr.cell? ⟨w.heap.size,8,none⟩=some (.int .i64 d):=(hg.out.box).cell 8;have fcb8:=(hg.out.box).frozen 8;have cb9:wr.cell? ⟨w.heap.size,9,none⟩=some (.int .i64 u):=(hg.out.box).cell 9;have fcb9:=(hg.out.box).frozen 9;have cb10:wr.cell? ⟨w.heap.size,10,none⟩=some (.slice oa' kids'.length cap'):=(hg.out.box).cell 10;have fcb10:=(hg.out.box).frozen 10;have cb11:wr.cell? ⟨w.heap.size,11,none⟩=some (.string wd):=(hg.out.box).cell 11;have fcb11:=(hg.out.box).frozen 11;have cb12:wr.cell? ⟨w.heap.size,12,none⟩=some (.string vl):=(hg.out.box).cell 12;have fcb12:=(hg.out.box).frozen 12
             have cb13:wr.cell? ⟨w.heap.size,13,none⟩=some (.bool an):=(hg.out.box).cell 13;have fcb13:=(hg.out.box).frozen 13;have lcb:=(hg.out.box).lt;generalize kids[i]=x at *;have hX:=HIH.out x wr (hx.2.below _ (hg.out.below));generalize mayC f x=M at *;obtain⟨xc,xoa,xb,xo,xcap,xkids,⟨xlk,xlt,xnm,xop,⟨xk,xn,xd,xu,xoa',xb',xo',xcap',xkids'⟩,xwd,xvl,xan⟩⟩:=x;rw[cv_mk]at hX;have HX:=Lib.hid hX;clear hX;have f0:wr.cell? ⟨b,o+i*14,none⟩=some (.int .i64 xc):=(hg.out.below.cell hbl).trans (hx.1 0 _ rfl);have f1:wr.cell? ⟨b,o+i*14+1,none⟩=some (.slice xoa xkids.length xcap):=(hg.out.below.cell hbl).trans (hx.1 1 _ rfl);have f2:wr.cell? ⟨b,o+i*14+2,none⟩=some (.int .i64 xlk):=(hg.out.below.cell hbl).trans (hx.1 2 _ rfl);have f3:wr.cell? ⟨b,o+i*14+3,none⟩=some (.int .i64 xlt):=(hg.out.below.cell hbl).trans (hx.1 3 _ rfl)
             have f4:wr.cell? ⟨b,o+i*14+4,none⟩=some (.string xnm):=(hg.out.below.cell hbl).trans (hx.1 4 _ rfl);have f5:wr.cell? ⟨b,o+i*14+5,none⟩=some (.int .i64 xop):=(hg.out.below.cell hbl).trans (hx.1 5 _ rfl);have f6:wr.cell? ⟨b,o+i*14+6,none⟩=some (.int .i64 xk):=(hg.out.below.cell hbl).trans (hx.1 6 _ rfl);have f7:wr.cell? ⟨b,o+i*14+7,none⟩=some (.int .i64 xn):=(hg.out.below.cell hbl).trans (hx.1 7 _ rfl);have f8:wr.cell? ⟨b,o+i*14+8,none⟩=some (.int .i64 xd):=(hg.out.below.cell hbl).trans (hx.1 8 _ rfl);have f9:wr.cell? ⟨b,o+i*14+9,none⟩=some (.int .i64 xu):=(hg.out.below.cell hbl).trans (hx.1 9 _ rfl);have f10:wr.cell? ⟨b,o+i*14+10,none⟩=some (.slice xoa' xkids'.length xcap'):=(hg.out.below.cell hbl).trans (hx.1 10 _ rfl);have f11:wr.cell? ⟨b,o+i*14+11,none⟩=some (.string xwd):=(hg.out.below.cell hbl).trans (hx.1 11 _ rfl)
             have f12:wr.cell? ⟨b,o+i*14+12,none⟩=some (.string xvl):=(hg.out.below.cell hbl).trans (hx.1 12 _ rfl);have f13:wr.cell? ⟨b,o+i*14+13,none⟩=some (.bool xan):=(hg.out.below.cell hbl).trans (hx.1 13 _ rfl);have HL:=Lib.hid hlaw;clear hx hlaw hl hr h8 h7;generalize xkids.length=xL at *;generalize xkids'.length=xL' at *;go_wp2_with fail
             ((with_reducible refine(HX.out).mono ?_);rintro e w' ⟨rfl,hbw⟩)
             obtain⟨m,rfl⟩:=grow_mk hbw;clear hbw;go_wp2_with fail
             go_roundg (kids.length-(i+1))
             case measure=>omega
             case rel=>exact⟨i+1,M,rfl,by go_num,Lib.hid ⟨below_grow hbel.out m,hg.out.box.grow m⟩,hi,Lib.hid (by rw[← HL.out];rfl),by omega⟩
         · obtain rfl:i=kids.length:=by omega
           have hlaw:=hl.out;rw[List.drop_length]at hlaw;have HL:=Lib.hid hlaw;clear hlaw hl
           cases ok with
           | false =>
             go_wp2_with fail;go_ret;exact⟨ret_bool (by rw[← HL.out];rfl),hbel.out⟩
           | true =>
             go_wp2_with fail;go_ret;exact⟨ret_bool (by rw[← HL.out];rfl),hbel.out⟩
set_option maxHeartbeats 1000000 in
theorem cMayC_any (h:Nat) (e:Cd) (w:World) (hx:CdIn w h e) :
  Calls Tryz.prog 60 #[cv e] w fun x w'=>x=.returned (.bool (mayC 340 e))∧Below w.heap.size w w':=by
 have hC:=fun wx hb=>ccmay_any 340 h e wx 1 rfl (by decide) (hx.below h (w':=wx) hb)
 generalize mayC 340 _=M at *;obtain⟨c,oa,b,o,cap,kids,⟨lk,lt,nm,op,⟨k',n,d,u,oa',b',o',cap',kids'⟩,wd,vl,an⟩⟩:=e;simp only[cv_mk]at hC ⊢;have HC:=Lib.hid hC;clear hC
 go_enter Tryz.func60,Tryz.ntmps60
 go_wp2_with fail
 ((with_reducible refine(HC.out _ (below_box _ _)).mono ?_);rintro e w' ⟨rfl,hbw⟩)
 obtain⟨m,rfl⟩:=grow_mk hbw;clear hbw;go_wp2_with fail;go_ret;exact⟨rfl,below_grow (below_box _ _) m⟩
end Go.Proofs.YtnbkbenkhkinoaaGreatDoor
