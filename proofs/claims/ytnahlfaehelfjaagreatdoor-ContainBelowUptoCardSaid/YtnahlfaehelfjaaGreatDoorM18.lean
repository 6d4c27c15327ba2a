/- Of my texts: TokO, TokP, TokQ. -/
import Derived.Test.YtnahlfaehelfjaaGreatDoorM17
namespace Go.Proofs.YtnahlfaehelfjaaGreatDoor
set_option linter.unusedVariables false
set_option linter.unusedSimpArgs false
open Go.RowKit
def kindsL:List Int:=[21,22,19,20,23,24,18,16,17]
def Kd (w:World):Prop:=0<w.heap.size∧∀ (j:Nat) (k:Int),kindsL[j]?=some k→w.cell? ⟨0,j,none⟩=some (.int .i64 k)
theorem Kd.below {w w':World} (h:Kd w) (hb:Below w.heap.size w w'):Kd w' :=
 ⟨Nat.lt_of_lt_of_le h.1 hb.size,fun j k hk=>(hb.cell (p:=⟨0,j,none⟩) h.1).trans (h.2 j k hk)⟩
theorem Kd.grown {w w':World} {row:Option Nat} (h:Kd w) (hg:w.grownBy w' row) (hr:some 0≠row):Kd w' :=
 ⟨Nat.lt_of_lt_of_le h.1 hg.size,fun j k hk=>by
   rw[← h.2 j k hk];simp only[World.cell?]
   rw[hg.block _ h.1 hr]⟩
def litL:List Int:=[40,41,91,93,123,125,44,58,59]
theorem single_none {c:Int} (h:∀ (j:Nat) (x:Int),litL[j]?=some x→c≠x):singleF c=none:=by
 unfold singleF;rw[if_neg (h 0 40 rfl)];rw[if_neg (h 1 41 rfl)];rw[if_neg (h 2 91 rfl)];rw[if_neg (h 3 93 rfl)];rw[if_neg (h 4 123 rfl)];rw[if_neg (h 5 125 rfl)];rw[if_neg (h 6 44 rfl)];rw[if_neg (h 7 58 rfl)];rw[if_neg (h 8 59 rfl)]
set_option maxRecDepth 20000 in
set_option maxHeartbeats 16000000 in
theorem next_any {w:World} {B:Nat} {oa:Option Addr} {cap b o:Nat} {l:List Int} {i:Nat} (h:RAt w B oa cap b o l i) (hK:Kd w) (hKB:0≠B) (hc0:aF l i≠-1) (hfig:figE l i≤i+4294967296) :
  Calls Tryz.prog 70 #[.pointer (some ⟨B,0,none⟩)] w fun e w'=>e=.returned (tv (nextF l i).1)∧Moved w w' B oa cap b o l (nextF l i).2:=by
 have hil:=aF_lt hc0;have hl:=h.len;have hB:=h.blk.lt;have HR:=Lib.hid h;obtain⟨R,hR⟩:∃ R,nextF l i=R:=⟨_,rfl⟩;rw[hR];unfold nextF at hR;obtain⟨r0,hr0⟩:∃ r0,w.heap.size=r0:=⟨_,rfl⟩
 have hBr:B<r0:=by omega
 have hKr0:0≠r0:=by have:=hK.1;omega
 have HK:=Lib.hid hK;obtain⟨c,hc⟩:∃ x,aF l i=x:=⟨_,rfl⟩;obtain⟨d,hd⟩:∃ x,aF l (i+1)=x:=⟨_,rfl⟩;obtain⟨e,he⟩:∃ x,aF l (i+2)=x:=⟨_,rfl⟩;obtain⟨f,hf⟩:∃ x,aF l (i+3)=x:=⟨_,rfl⟩;rw[hc]at hc0;rw[hc,hd,he,hf]at hR;have HG:=Lib.hid hR;have HC:=Lib.hid hc;have HD:=Lib.hid hd;have HE:=Lib.hid he;have HF:=Lib.hid hf;clear h hR hK hc hd he hf
 go_enter Tryz.func70,Tryz.ntmps70
 go_upto_region 1 with fail
 have HR1:=Lib.hid (HR.out.old (.cells #[.int .i64 0,.string ⟨#[]⟩,.int .i64 0,.int .i64 0,.bool false,.bool false] 85));have hT:=Blk.new w 85 #[.int .i64 0,.string ⟨#[]⟩,.int .i64 0,.int .i64 0,.bool false,.bool false];have HW:=Lib.hid ((Moved.start HR.out).alloc (.cells #[.int .i64 0,.string ⟨#[]⟩,.int .i64 0,.int .i64 0,.bool false,.bool false] 85));have HK1:=Lib.hid (HK.out.below ((Below.refl _ _).alloc (Nat.le_refl _) (.cells #[.int .i64 0,.string ⟨#[]⟩,.int .i64 0,.int .i64 0,.bool false,.bool false] 85)));rw[hr0]at hT;have HT:=Lib.hid hT;clear hT HK;generalize w.alloc _=w1 at *;have HM0:=Lib.hid (Moved.start HR1.out);have hA:=at0_any HM0.out.rd;rw[HC.out]at hA;have HA:=Lib.hid hA;clear hA;go_wp2_with fail
 ((with_reducible refine(HA.out).mono ?_);rintro e w' ⟨rfl,hbw⟩)
 obtain⟨m0,rfl⟩:=grow_mk hbw;clear hbw;have HM1:=Lib.hid (HM0.out.grow m0);clear HM0 HA;generalize grow _ m0=wa0 at *;have hA:=at1_any HM1.out.rd;rw[HD.out]at hA;have HA:=Lib.hid hA;clear hA;go_wp2_with fail
 ((with_reducible refine(HA.out).mono ?_);rintro e w' ⟨rfl,hbw⟩)
 obtain⟨m1,rfl⟩:=grow_mk hbw;clear hbw;have HM2:=Lib.hid (HM1.out.grow m1);clear HM1 HA;generalize grow _ m1=wa1 at *;have hA:=at2_any HM2.out.rd;rw[HE.out]at hA;have HA:=Lib.hid hA;clear hA;go_wp2_with fail
 ((with_reducible refine(HA.out).mono ?_);rintro e w' ⟨rfl,hbw⟩)
 obtain⟨m2,rfl⟩:=grow_mk hbw;clear hbw;have HM3:=Lib.hid (HM2.out.grow m2);clear HM2 HA;generalize grow _ m2=wa2 at *;go_wp2_with fail
 go_loopg [14] 9 (fun q s14 wr=>∃ (k:Nat),s14=.int .i64 k∧k≤9∧Hid (∀ (j:Nat) (x:Int),j<k→litL[j]?=some x→c≠x)∧wr=wa2∧9-k≤q)
 case atStart=>exact⟨0,rfl,by omega,Lib.hid (fun j x hj=>absurd hj (Nat.not_lt_zero _)),rfl,by omega⟩
 case round =>
  obtain⟨k,rfl,hk9,hno,rfl,hq⟩:=hrel
  by_cases hk:k<9
  · have ways:k=0∨k=1∨k=2∨k=3∨k=4∨k=5∨k=6∨k=7∨k=8:=by omega
    rcases ways with rfl|rfl|rfl|rfl|rfl|rfl|rfl|rfl|rfl
    · by_cases hx:c=40
      · subst hx;have HG3:=Lib.hid (show R=(tok0 21 [],i+1) from HG.out.symm)
        have hset:Moved w1 (wr.setCell ⟨B,1,none⟩ (.int .i64 ((i:Int)+1))) B oa cap b o l (i+1):=by have:=HM3.out.set (j:=i+1) (by omega);simpa using this
        have HS:=Lib.hid hset;have hblk:=HM3.out.rd.blk;have cr0:wr.cell? ⟨B,0,none⟩=some (.slice oa l.length cap):=(hblk).cell 0;have fcr0:=(hblk).frozen 0;have cr1:wr.cell? ⟨B,1,none⟩=some (.int .i64 (i:Int)):=(hblk).cell 1;have fcr1:=(hblk).frozen 1;have lcr:=(hblk).lt;clear hblk hset;have hTz:=HT.out.mvd HS.out (by omega);have hTl:=hTz.lt;have hKc:=((HK1.out.grown HM3.out.gb (by simpa using hKB)).2 0 _ rfl);have hKl:=(HK1.out.grown HM3.out.gb (by simpa using hKB)).1;have hTy:=HT.out.mvd HM3.out (by omega);have ct0:wr.cell? ⟨r0,0,none⟩=some (.int .i64 0):=(hTy).cell 0;have fct0:=(hTy).frozen 0;have ct1:wr.cell? ⟨r0,1,none⟩=some (.string ⟨#[]⟩):=(hTy).cell 1;have fct1:=(hTy).frozen 1;have ct2:wr.cell? ⟨r0,2,none⟩=some (.int .i64 0):=(hTy).cell 2;have fct2:=(hTy).frozen 2;have ct3:wr.cell? ⟨r0,3,none⟩=some (.int .i64 0):=(hTy).cell 3;have fct3:=(hTy).frozen 3
        have ct4:wr.cell? ⟨r0,4,none⟩=some (.bool false):=(hTy).cell 4;have fct4:=(hTy).frozen 4;have ct5:wr.cell? ⟨r0,5,none⟩=some (.bool false):=(hTy).cell 5;have fct5:=(hTy).frozen 5;have lct:=(hTy).lt;clear HG HM3 hTz hno hTy;go_wp2_with fail
        exact bodyPost_ret (v:=tv (tok0 21 [])) (by simp[results,Tryz.results70,go_sem,ct0,ct1,ct2,ct3,ct4,ct5,lct,tv,tok0]) rfl ⟨by rw[HG3.out],by
         have h0:=HW.out.next HS.out;rw[HG3.out];show Moved w _ B oa cap b o l (i+1)
         repeat (first|with_reducible exact h0 | (with_reducible refine Moved.far ?_ HR.out _ _ ?hq;case hq=>(show w.heap.size≤r0;omega)))⟩
      · have gx:((40:Int)==c)=false:=by rw[beq_eq_false_iff_ne];exact fun e=>hx e.symm
        clear HG;go_wp2_with fail
        go_roundg (9-1)
        case measure=>omega
        case rel=>exact⟨1,rfl,by omega,Lib.hid (fun j x hj hx2=>by
         by_cases hj2:j=0
         · subst hj2;cases hx2;exact hx
         · exact hno.out j x (by omega) hx2),rfl,by omega⟩
    · by_cases hx:c=41
      · subst hx;have HG3:=Lib.hid (show R=(tok0 22 [],i+1) from HG.out.symm)
        have hset:Moved w1 (wr.setCell ⟨B,1,none⟩ (.int .i64 ((i:Int)+1))) B oa cap b o l (i+1):=by have:=HM3.out.set (j:=i+1) (by omega);simpa using this
        have HS:=Lib.hid hset;have hblk:=HM3.out.rd.blk;have cr0:wr.cell? ⟨B,0,none⟩=some (.slice oa l.length cap):=(hblk).cell 0;have fcr0:=(hblk).frozen 0;have cr1:wr.cell? ⟨B,1,none⟩=some (.int .i64 (i:Int)):=(hblk).cell 1;have fcr1:=(hblk).frozen 1;have lcr:=(hblk).lt;clear hblk hset;have hTz:=HT.out.mvd HS.out (by omega);have hTl:=hTz.lt;have hKc:=((HK1.out.grown HM3.out.gb (by simpa using hKB)).2 1 _ rfl);have hKl:=(HK1.out.grown HM3.out.gb (by simpa using hKB)).1;have hTy:=HT.out.mvd HM3.out (by omega);have ct0:wr.cell? ⟨r0,0,none⟩=some (.int .i64 0):=(hTy).cell 0;have fct0:=(hTy).frozen 0;have ct1:wr.cell? ⟨r0,1,none⟩=some (.string ⟨#[]⟩):=(hTy).cell 1;have fct1:=(hTy).frozen 1;have ct2:wr.cell? ⟨r0,2,none⟩=some (.int .i64 0):=(hTy).cell 2;have fct2:=(hTy).frozen 2;have ct3:wr.cell? ⟨r0,3,none⟩=some (.int .i64 0):=(hTy).cell 3;have fct3:=(hTy).frozen 3
        have ct4:wr.cell? ⟨r0,4,none⟩=some (.bool false):=(hTy).cell 4;have fct4:=(hTy).frozen 4;have ct5:wr.cell? ⟨r0,5,none⟩=some (.bool false):=(hTy).cell 5;have fct5:=(hTy).frozen 5;have lct:=(hTy).lt;clear HG HM3 hTz hno hTy;go_wp2_with fail
        exact bodyPost_ret (v:=tv (tok0 22 [])) (by simp[results,Tryz.results70,go_sem,ct0,ct1,ct2,ct3,ct4,ct5,lct,tv,tok0]) rfl ⟨by rw[HG3.out],by
         have h0:=HW.out.next HS.out;rw[HG3.out];show Moved w _ B oa cap b o l (i+1)
         repeat (first|with_reducible exact h0 | (with_reducible refine Moved.far ?_ HR.out _ _ ?hq;case hq=>(show w.heap.size≤r0;omega)))⟩
      · have gx:((41:Int)==c)=false:=by rw[beq_eq_false_iff_ne];exact fun e=>hx e.symm
        clear HG;go_wp2_with fail
        go_roundg (9-2)
        case measure=>omega
        case rel=>exact⟨2,rfl,by omega,Lib.hid (fun j x hj hx2=>by
         by_cases hj2:j=1
         · subst hj2;cases hx2;exact hx
         · exact hno.out j x (by omega) hx2),rfl,by omega⟩
    · by_cases hx:c=91
      · subst hx;have HG3:=Lib.hid (show R=(tok0 19 [],i+1) from HG.out.symm)
        have hset:Moved w1 (wr.setCell ⟨B,1,none⟩ (.int .i64 ((i:Int)+1))) B oa cap b o l (i+1):=by have:=HM3.out.set (j:=i+1) (by omega);simpa using this
        have HS:=Lib.hid hset;have hblk:=HM3.out.rd.blk;have cr0:wr.cell? ⟨B,0,none⟩=some (.slice oa l.length cap):=(hblk).cell 0;have fcr0:=(hblk).frozen 0;have cr1:wr.cell? ⟨B,1,none⟩=some (.int .i64 (i:Int)):=(hblk).cell 1;have fcr1:=(hblk).frozen 1;have lcr:=(hblk).lt;clear hblk hset;have hTz:=HT.out.mvd HS.out (by omega);have hTl:=hTz.lt;have hKc:=((HK1.out.grown HM3.out.gb (by simpa using hKB)).2 2 _ rfl);have hKl:=(HK1.out.grown HM3.out.gb (by simpa using hKB)).1;have hTy:=HT.out.mvd HM3.out (by omega);have ct0:wr.cell? ⟨r0,0,none⟩=some (.int .i64 0):=(hTy).cell 0;have fct0:=(hTy).frozen 0;have ct1:wr.cell? ⟨r0,1,none⟩=some (.string ⟨#[]⟩):=(hTy).cell 1;have fct1:=(hTy).frozen 1;have ct2:wr.cell? ⟨r0,2,none⟩=some (.int .i64 0):=(hTy).cell 2;have fct2:=(hTy).frozen 2;have ct3:wr.cell? ⟨r0,3,none⟩=some (.int .i64 0):=(hTy).cell 3;have fct3:=(hTy).frozen 3
        have ct4:wr.cell? ⟨r0,4,none⟩=some (.bool false):=(hTy).cell 4;have fct4:=(hTy).frozen 4;have ct5:wr.cell? ⟨r0,5,none⟩=some (.bool false):=(hTy).cell 5;have fct5:=(hTy).frozen 5;have lct:=(hTy).lt;clear HG HM3 hTz hno hTy;go_wp2_with fail
        exact bodyPost_ret (v:=tv (tok0 19 [])) (by simp[results,Tryz.results70,go_sem,ct0,ct1,ct2,ct3,ct4,ct5,lct,tv,tok0]) rfl ⟨by rw[HG3.out],by
         have h0:=HW.out.next HS.out;rw[HG3.out];show Moved w _ B oa cap b o l (i+1)
         repeat (first|with_reducible exact h0 | (with_reducible refine Moved.far ?_ HR.out _ _ ?hq;case hq=>(show w.heap.size≤r0;omega)))⟩
      · have gx:((91:Int)==c)=false:=by rw[beq_eq_false_iff_ne];exact fun e=>hx e.symm
        clear HG;go_wp2_with fail
        go_roundg (9-3)
        case measure=>omega
        case rel=>exact⟨3,rfl,by omega,Lib.hid (fun j x hj hx2=>by
         by_cases hj2:j=2
         · subst hj2;cases hx2;exact hx
         · exact hno.out j x (by omega) hx2),rfl,by omega⟩
    · by_cases hx:c=93
      · subst hx;have HG3:=Lib.hid (show R=(tok0 20 [],i+1) from HG.out.symm)
        have hset:Moved w1 (wr.setCell ⟨B,1,none⟩ (.int .i64 ((i:Int)+1))) B oa cap b o l (i+1):=by have:=HM3.out.set (j:=i+1) (by omega);simpa using this
        have HS:=Lib.hid hset;have hblk:=HM3.out.rd.blk;have cr0:wr.cell? ⟨B,0,none⟩=some (.slice oa l.length cap):=(hblk).cell 0;have fcr0:=(hblk).frozen 0;have cr1:wr.cell? ⟨B,1,none⟩=some (.int .i64 (i:Int)):=(hblk).cell 1;have fcr1:=(hblk).frozen 1;have lcr:=(hblk).lt;clear hblk hset;have hTz:=HT.out.mvd HS.out (by omega);have hTl:=hTz.lt;have hKc:=((HK1.out.grown HM3.out.gb (by simpa using hKB)).2 3 _ rfl);have hKl:=(HK1.out.grown HM3.out.gb (by simpa using hKB)).1;have hTy:=HT.out.mvd HM3.out (by omega);have ct0:wr.cell? ⟨r0,0,none⟩=some (.int .i64 0):=(hTy).cell 0;have fct0:=(hTy).frozen 0;have ct1:wr.cell? ⟨r0,1,none⟩=some (.string ⟨#[]⟩):=(hTy).cell 1;have fct1:=(hTy).frozen 1;have ct2:wr.cell? ⟨r0,2,none⟩=some (.int .i64 0):=(hTy).cell 2;have fct2:=(hTy).frozen 2;have ct3:wr.cell? ⟨r0,3,none⟩=some (.int .i64 0):=(hTy).cell 3;have fct3:=(hTy).frozen 3
        have ct4:wr.cell? ⟨r0,4,none⟩=some (.bool false):=(hTy).cell 4;have fct4:=(hTy).frozen 4;have ct5:wr.cell? ⟨r0,5,none⟩=some (.bool false):=(hTy).cell 5;have fct5:=(hTy).frozen 5;have lct:=(hTy).lt;clear HG HM3 hTz hno hTy;go_wp2_with fail
        exact bodyPost_ret (v:=tv (tok0 20 [])) (by simp[results,Tryz.results70,go_sem,ct0,ct1,ct2,ct3,ct4,ct5,lct,tv,tok0]) rfl ⟨by rw[HG3.out],by
         have h0:=HW.out.next HS.out;rw[HG3.out];show Moved w _ B oa cap b o l (i+1)
         repeat (first|with_reducible exact h0 | (with_reducible refine Moved.far ?_ HR.out _ _ ?hq;case hq=>(show w.heap.size≤r0;omega)))⟩
      · have gx:((93:Int)==c)=false:=by rw[beq_eq_false_iff_ne];exact fun e=>hx e.symm
        clear HG;go_wp2_with fail
        go_roundg (9-4)
        case measure=>omega
        case rel=>exact⟨4,rfl,by omega,Lib.hid (fun j x hj hx2=>by
         by_cases hj2:j=3
         · subst hj2;cases hx2;exact hx
         · exact hno.out j x (by omega) hx2),rfl,by omega⟩
    · by_cases hx:c=123
      · subst hx;have HG3:=Lib.hid (show R=(tok0 23 [],i+1) from HG.out.symm)
        have hset:Moved w1 (wr.setCell ⟨B,1,none⟩ (.int .i64 ((i:Int)+1))) B oa cap b o l (i+1):=by have:=HM3.out.set (j:=i+1) (by omega);simpa using this
        have HS:=Lib.hid hset;have hblk:=HM3.out.rd.blk;have cr0:wr.cell? ⟨B,0,none⟩=some (.slice oa l.length cap):=(hblk).cell 0;have fcr0:=(hblk).frozen 0;have cr1:wr.cell? ⟨B,1,none⟩=some (.int .i64 (i:Int)):=(hblk).cell 1;have fcr1:=(hblk).frozen 1;have lcr:=(hblk).lt;clear hblk hset;have hTz:=HT.out.mvd HS.out (by omega);have hTl:=hTz.lt;have hKc:=((HK1.out.grown HM3.out.gb (by simpa using hKB)).2 4 _ rfl);have hKl:=(HK1.out.grown HM3.out.gb (by simpa using hKB)).1;have hTy:=HT.out.mvd HM3.out (by omega);have ct0:wr.cell? ⟨r0,0,none⟩=some (.int .i64 0):=(hTy).cell 0;have fct0:=(hTy).frozen 0;have ct1:wr.cell? ⟨r0,1,none⟩=some (.string ⟨#[]⟩):=(hTy).cell 1;have fct1:=(hTy).frozen 1;have ct2:wr.cell? ⟨r0,2,none⟩=some (.int .i64 0):=(hTy).cell 2;have fct2:=(hTy).frozen 2;have ct3:wr.cell? ⟨r0,3,none⟩=some (.int .i64 0):=(hTy).cell 3;have fct3:=(hTy).frozen 3
        have ct4:wr.cell? ⟨r0,4,none⟩=some (.bool false):=(hTy).cell 4;have fct4:=(hTy).frozen 4;have ct5:wr.cell? ⟨r0,5,none⟩=some (.bool false):=(hTy).cell 5;have fct5:=(hTy).frozen 5;have lct:=(hTy).lt;clear HG HM3 hTz hno hTy;go_wp2_with fail
        exact bodyPost_ret (v:=tv (tok0 23 [])) (by simp[results,Tryz.results70,go_sem,ct0,ct1,ct2,ct3,ct4,ct5,lct,tv,tok0]) rfl ⟨by rw[HG3.out],by
         have h0:=HW.out.next HS.out;rw[HG3.out];show Moved w _ B oa cap b o l (i+1)
         repeat (first|with_reducible exact h0 | (with_reducible refine Moved.far ?_ HR.out _ _ ?hq;case hq=>(show w.heap.size≤r0;omega)))⟩
      · have gx:((123:Int)==c)=false:=by rw[beq_eq_false_iff_ne];exact fun e=>hx e.symm
        clear HG;go_wp2_with fail
        go_roundg (9-5)
        case measure=>omega
        case rel=>exact⟨5,rfl,by omega,Lib.hid (fun j x hj hx2=>by
         by_cases hj2:j=4
         · subst hj2;cases hx2;exact hx
         · exact hno.out j x (by omega) hx2),rfl,by omega⟩
    · by_cases hx:c=125
      · subst hx;have HG3:=Lib.hid (show R=(tok0 24 [],i+1) from HG.out.symm)
        have hset:Moved w1 (wr.setCell ⟨B,1,none⟩ (.int .i64 ((i:Int)+1))) B oa cap b o l (i+1):=by have:=HM3.out.set (j:=i+1) (by omega);simpa using this
        have HS:=Lib.hid hset;have hblk:=HM3.out.rd.blk;have cr0:wr.cell? ⟨B,0,none⟩=some (.slice oa l.length cap):=(hblk).cell 0;have fcr0:=(hblk).frozen 0;have cr1:wr.cell? ⟨B,1,none⟩=some (.int .i64 (i:Int)):=(hblk).cell 1;have fcr1:=(hblk).frozen 1;have lcr:=(hblk).lt;clear hblk hset;have hTz:=HT.out.mvd HS.out (by omega);have hTl:=hTz.lt;have hKc:=((HK1.out.grown HM3.out.gb (by simpa using hKB)).2 5 _ rfl);have hKl:=(HK1.out.grown HM3.out.gb (by simpa using hKB)).1;have hTy:=HT.out.mvd HM3.out (by omega);have ct0:wr.cell? ⟨r0,0,none⟩=some (.int .i64 0):=(hTy).cell 0;have fct0:=(hTy).frozen 0;have ct1:wr.cell? ⟨r0,1,none⟩=some (.string ⟨#[]⟩):=(hTy).cell 1;have fct1:=(hTy).frozen 1;have ct2:wr.cell? ⟨r0,2,none⟩=some (.int .i64 0):=(hTy).cell 2;have fct2:=(hTy).frozen 2;have ct3:wr.cell? ⟨r0,3,none⟩=some (.int .i64 0):=(hTy).cell 3;have fct3:=(hTy).frozen 3
        have ct4:wr.cell? ⟨r0,4,none⟩=some (.bool false):=(hTy).cell 4;have fct4:=(hTy).frozen 4;have ct5:wr.cell? ⟨r0,5,none⟩=some (.bool false):=(hTy).cell 5;have fct5:=(hTy).frozen 5;have lct:=(hTy).lt;clear HG HM3 hTz hno hTy;go_wp2_with fail
        exact bodyPost_ret (v:=tv (tok0 24 [])) (by simp[results,Tryz.results70,go_sem,ct0,ct1,ct2,ct3,ct4,ct5,lct,tv,tok0]) rfl ⟨by rw[HG3.out],by
         have h0:=HW.out.next HS.out;rw[HG3.out];show Moved w _ B oa cap b o l (i+1)
         repeat (first|with_reducible exact h0 | (with_reducible refine Moved.far ?_ HR.out _ _ ?hq;case hq=>(show w.heap.size≤r0;omega)))⟩
      · have gx:((125:Int)==c)=false:=by rw[beq_eq_false_iff_ne];exact fun e=>hx e.symm
        clear HG;go_wp2_with fail
        go_roundg (9-6)
        case measure=>omega
        case rel=>exact⟨6,rfl,by omega,Lib.hid (fun j x hj hx2=>by
         by_cases hj2:j=5
         · subst hj2;cases hx2;exact hx
         · exact hno.out j x (by omega) hx2),rfl,by omega⟩
    · by_cases hx:c=44
      · subst hx;have HG3:=Lib.hid (show R=(tok0 18 [],i+1) from HG.out.symm)
        have hset:Moved w1 (wr.setCell ⟨B,1,none⟩ (.int .i64 ((i:Int)+1))) B oa cap b o l (i+1):=by have:=HM3.out.set (j:=i+1) (by omega);simpa using this
        have HS:=Lib.hid hset;have hblk:=HM3.out.rd.blk;have cr0:wr.cell? ⟨B,0,none⟩=some (.slice oa l.length cap):=(hblk).cell 0;have fcr0:=(hblk).frozen 0;have cr1:wr.cell? ⟨B,1,none⟩=some (.int .i64 (i:Int)):=(hblk).cell 1;have fcr1:=(hblk).frozen 1;have lcr:=(hblk).lt;clear hblk hset;have hTz:=HT.out.mvd HS.out (by omega);have hTl:=hTz.lt;have hKc:=((HK1.out.grown HM3.out.gb (by simpa using hKB)).2 6 _ rfl);have hKl:=(HK1.out.grown HM3.out.gb (by simpa using hKB)).1;have hTy:=HT.out.mvd HM3.out (by omega);have ct0:wr.cell? ⟨r0,0,none⟩=some (.int .i64 0):=(hTy).cell 0;have fct0:=(hTy).frozen 0;have ct1:wr.cell? ⟨r0,1,none⟩=some (.string ⟨#[]⟩):=(hTy).cell 1;have fct1:=(hTy).frozen 1;have ct2:wr.cell? ⟨r0,2,none⟩=some (.int .i64 0):=(hTy).cell 2;have fct2:=(hTy).frozen 2;have ct3:wr.cell? ⟨r0,3,none⟩=some (.int .i64 0):=(hTy).cell 3;have fct3:=(hTy).frozen 3
        have ct4:wr.cell? ⟨r0,4,none⟩=some (.bool false):=(hTy).cell 4;have fct4:=(hTy).frozen 4;have ct5:wr.cell? ⟨r0,5,none⟩=some (.bool false):=(hTy).cell 5;have fct5:=(hTy).frozen 5;have lct:=(hTy).lt;clear HG HM3 hTz hno hTy;go_wp2_with fail
        exact bodyPost_ret (v:=tv (tok0 18 [])) (by simp[results,Tryz.results70,go_sem,ct0,ct1,ct2,ct3,ct4,ct5,lct,tv,tok0]) rfl ⟨by rw[HG3.out],by
         have h0:=HW.out.next HS.out;rw[HG3.out];show Moved w _ B oa cap b o l (i+1)
         repeat (first|with_reducible exact h0 | (with_reducible refine Moved.far ?_ HR.out _ _ ?hq;case hq=>(show w.heap.size≤r0;omega)))⟩
      · have gx:((44:Int)==c)=false:=by rw[beq_eq_false_iff_ne];exact fun e=>hx e.symm
        clear HG;go_wp2_with fail
        go_roundg (9-7)
        case measure=>omega
        case rel=>exact⟨7,rfl,by omega,Lib.hid (fun j x hj hx2=>by
         by_cases hj2:j=6
         · subst hj2;cases hx2;exact hx
         · exact hno.out j x (by omega) hx2),rfl,by omega⟩
    · by_cases hx:c=58
      · subst hx;have HG3:=Lib.hid (show R=(tok0 16 [],i+1) from HG.out.symm)
        have hset:Moved w1 (wr.setCell ⟨B,1,none⟩ (.int .i64 ((i:Int)+1))) B oa cap b o l (i+1):=by have:=HM3.out.set (j:=i+1) (by omega);simpa using this
        have HS:=Lib.hid hset;have hblk:=HM3.out.rd.blk;have cr0:wr.cell? ⟨B,0,none⟩=some (.slice oa l.length cap):=(hblk).cell 0;have fcr0:=(hblk).frozen 0;have cr1:wr.cell? ⟨B,1,none⟩=some (.int .i64 (i:Int)):=(hblk).cell 1;have fcr1:=(hblk).frozen 1;have lcr:=(hblk).lt;clear hblk hset;have hTz:=HT.out.mvd HS.out (by omega);have hTl:=hTz.lt;have hKc:=((HK1.out.grown HM3.out.gb (by simpa using hKB)).2 7 _ rfl);have hKl:=(HK1.out.grown HM3.out.gb (by simpa using hKB)).1;have hTy:=HT.out.mvd HM3.out (by omega);have ct0:wr.cell? ⟨r0,0,none⟩=some (.int .i64 0):=(hTy).cell 0;have fct0:=(hTy).frozen 0;have ct1:wr.cell? ⟨r0,1,none⟩=some (.string ⟨#[]⟩):=(hTy).cell 1;have fct1:=(hTy).frozen 1;have ct2:wr.cell? ⟨r0,2,none⟩=some (.int .i64 0):=(hTy).cell 2;have fct2:=(hTy).frozen 2;have ct3:wr.cell? ⟨r0,3,none⟩=some (.int .i64 0):=(hTy).cell 3;have fct3:=(hTy).frozen 3
        have ct4:wr.cell? ⟨r0,4,none⟩=some (.bool false):=(hTy).cell 4;have fct4:=(hTy).frozen 4;have ct5:wr.cell? ⟨r0,5,none⟩=some (.bool false):=(hTy).cell 5;have fct5:=(hTy).frozen 5;have lct:=(hTy).lt;clear HG HM3 hTz hno hTy;go_wp2_with fail
        exact bodyPost_ret (v:=tv (tok0 16 [])) (by simp[results,Tryz.results70,go_sem,ct0,ct1,ct2,ct3,ct4,ct5,lct,tv,tok0]) rfl ⟨by rw[HG3.out],by
         have h0:=HW.out.next HS.out;rw[HG3.out];show Moved w _ B oa cap b o l (i+1)
         repeat (first|with_reducible exact h0 | (with_reducible refine Moved.far ?_ HR.out _ _ ?hq;case hq=>(show w.heap.size≤r0;omega)))⟩
      · have gx:((58:Int)==c)=false:=by rw[beq_eq_false_iff_ne];exact fun e=>hx e.symm
        clear HG;go_wp2_with fail
        go_roundg (9-8)
        case measure=>omega
        case rel=>exact⟨8,rfl,by omega,Lib.hid (fun j x hj hx2=>by
         by_cases hj2:j=7
         · subst hj2;cases hx2;exact hx
         · exact hno.out j x (by omega) hx2),rfl,by omega⟩
    · by_cases hx:c=59
      · subst hx;have HG3:=Lib.hid (show R=(tok0 17 [],i+1) from HG.out.symm)
        have hset:Moved w1 (wr.setCell ⟨B,1,none⟩ (.int .i64 ((i:Int)+1))) B oa cap b o l (i+1):=by have:=HM3.out.set (j:=i+1) (by omega);simpa using this
        have HS:=Lib.hid hset;have hblk:=HM3.out.rd.blk;have cr0:wr.cell? ⟨B,0,none⟩=some (.slice oa l.length cap):=(hblk).cell 0;have fcr0:=(hblk).frozen 0;have cr1:wr.cell? ⟨B,1,none⟩=some (.int .i64 (i:Int)):=(hblk).cell 1;have fcr1:=(hblk).frozen 1;have lcr:=(hblk).lt;clear hblk hset;have hTz:=HT.out.mvd HS.out (by omega);have hTl:=hTz.lt;have hKc:=((HK1.out.grown HM3.out.gb (by simpa using hKB)).2 8 _ rfl);have hKl:=(HK1.out.grown HM3.out.gb (by simpa using hKB)).1;have hTy:=HT.out.mvd HM3.out (by omega);have ct0:wr.cell? ⟨r0,0,none⟩=some (.int .i64 0):=(hTy).cell 0;have fct0:=(hTy).frozen 0;have ct1:wr.cell? ⟨r0,1,none⟩=some (.string ⟨#[]⟩):=(hTy).cell 1;have fct1:=(hTy).frozen 1;have ct2:wr.cell? ⟨r0,2,none⟩=some (.int .i64 0):=(hTy).cell 2;have fct2:=(hTy).frozen 2;have ct3:wr.cell? ⟨r0,3,none⟩=some (.int .i64 0):=(hTy).cell 3;have fct3:=(hTy).frozen 3
        have ct4:wr.cell? ⟨r0,4,none⟩=some (.bool false):=(hTy).cell 4;have fct4:=(hTy).frozen 4;have ct5:wr.cell? ⟨r0,5,none⟩=some (.bool false):=(hTy).cell 5;have fct5:=(hTy).frozen 5;have lct:=(hTy).lt;clear HG HM3 hTz hno hTy;go_wp2_with fail
        exact bodyPost_ret (v:=tv (tok0 17 [])) (by simp[results,Tryz.results70,go_sem,ct0,ct1,ct2,ct3,ct4,ct5,lct,tv,tok0]) rfl ⟨by rw[HG3.out],by
         have h0:=HW.out.next HS.out;rw[HG3.out];show Moved w _ B oa cap b o l (i+1)
         repeat (first|with_reducible exact h0 | (with_reducible refine Moved.far ?_ HR.out _ _ ?hq;case hq=>(show w.heap.size≤r0;omega)))⟩
      · have gx:((59:Int)==c)=false:=by rw[beq_eq_false_iff_ne];exact fun e=>hx e.symm
        clear HG;go_wp2_with fail
        go_roundg (9-9)
        case measure=>omega
        case rel=>exact⟨9,rfl,by omega,Lib.hid (fun j x hj hx2=>by
         by_cases hj2:j=8
         · subst hj2;cases hx2;exact hx
         · exact hno.out j x (by omega) hx2),rfl,by omega⟩
  · obtain rfl:k=9:=by omega
    have hsn:singleF c=none:=single_none (fun j x hx=>hno.out j x (by
     have:=(List.getElem?_eq_some_iff.1 hx).1
     exact this) hx)
    have hG:=HG.out;rw[hsn]at hG;simp only at hG
    have hbl:=fun w=>blank_any c w
    cases hbc:blankI c with
    | true =>
      rw[if_pos hbc]at hG;rw[hbc]at hbl;have HB:=Lib.hid hbl;have HG3:=Lib.hid hG.symm;have HX:=Lib.hid (blanks_any HM3.out.rd);clear hbl hbc hG HG HK1;go_wp2_with fail;go_wp2_with fail
      ((with_reducible refine(HB.out _).mono ?_);rintro e w' ⟨rfl,rfl⟩)
      go_wp2_with fail
      ((with_reducible refine HX.out.mono ?_);rintro e w5 ⟨rfl,hmv⟩)
      have HM9:=Lib.hid (HM3.out.next hmv);have hTz:=HT.out.mvd HM9.out (by omega);have ct0:w5.cell? ⟨r0,0,none⟩=some (.int .i64 0):=(hTz).cell 0;have fct0:=(hTz).frozen 0;have ct1:w5.cell? ⟨r0,1,none⟩=some (.string ⟨#[]⟩):=(hTz).cell 1;have fct1:=(hTz).frozen 1;have ct2:w5.cell? ⟨r0,2,none⟩=some (.int .i64 0):=(hTz).cell 2;have fct2:=(hTz).frozen 2;have ct3:w5.cell? ⟨r0,3,none⟩=some (.int .i64 0):=(hTz).cell 3;have fct3:=(hTz).frozen 3;have ct4:w5.cell? ⟨r0,4,none⟩=some (.bool false):=(hTz).cell 4;have fct4:=(hTz).frozen 4;have ct5:w5.cell? ⟨r0,5,none⟩=some (.bool false):=(hTz).cell 5;have fct5:=(hTz).frozen 5;have lct:=(hTz).lt;clear hTz hmv HX;go_wp2_with fail
      exact bodyPost_ret (v:=tv (tok0 13 [])) (by simp[results,Tryz.results70,go_sem,ct0,ct1,ct2,ct3,ct4,ct5,lct,tv,tok0]) rfl ⟨by rw[HG3.out],by
       have h0:=HW.out.next HM9.out;rw[HG3.out];show Moved w _ B oa cap b o l (blaF l i)
       repeat (first|with_reducible exact h0 | (with_reducible refine Moved.far ?_ HR.out _ _ ?hq;case hq=>(show w.heap.size≤r0;omega)))⟩
    | false =>
      rw[if_neg (by rw[hbc];simp)]at hG;rw[hbc]at hbl;have HB:=Lib.hid hbl;clear hbl hbc HG HK1;go_wp2_with fail;go_wp2_with fail
      ((with_reducible refine(HB.out _).mono ?_);rintro e w' ⟨rfl,rfl⟩)
      clear HB;obtain⟨b1,hb1⟩:∃ b,decide (c=34∨c=39)=b:=⟨_,rfl⟩
      go_upto_region 12 with fail
      go_cut [40] from 40 to 46 (fun s wx=>s=.bool b1∧Hid (Moved w1 wx B oa cap b o l i))
      case first =>
       have ways:(c==34)=true∧b1=true∨(c==34)=false∧(c==39)=b1:=by
        by_cases e1:c=34
        · exact Or.inl ⟨by simpa using e1,by rw[← hb1];simp[e1]⟩
        · exact Or.inr ⟨by simpa using e1,by rw[← hb1];simp only[e1,false_or];by_cases e2:c=39<;>simp[e2]⟩
       clear hb1 hG
       rcases ways with ⟨k1,rfl⟩ | ⟨k1,k2⟩
       all_goals
        go_wp2_with fail;go_meet;exact⟨rfl,HM3⟩
      case rest =>
       obtain⟨rfl,HM4⟩:=hcut;clear HM3
       cases b1 with
       | true =>
         have hcc:c=34∨c=39:=by simpa using hb1
         rw[if_pos hcc]at hG
         have hset:Moved w1 (wc.setCell ⟨B,1,none⟩ (.int .i64 ((i:Int)+1))) B oa cap b o l (i+1):=by have:=HM4.out.set (j:=i+1) (by omega);simpa using this
         have HS:=Lib.hid hset;have hblk:=HM4.out.rd.blk;have cr0:wc.cell? ⟨B,0,none⟩=some (.slice oa l.length cap):=(hblk).cell 0;have fcr0:=(hblk).frozen 0;have cr1:wc.cell? ⟨B,1,none⟩=some (.int .i64 (i:Int)):=(hblk).cell 1;have fcr1:=(hblk).frozen 1;have lcr:=(hblk).lt;clear hblk hset;have hx:=string_any c HS.out.rd (by omega);obtain⟨⟨⟨uk,ut,⟨un,ud⟩,ui,uid⟩,ue⟩,hu⟩:∃ U,stringF l c (i+1)=U:=⟨_,rfl⟩;rw[hu]at hx hG;simp only[tv]at hx;have HX:=Lib.hid hx;have HG3:=Lib.hid hG.symm;clear hx hu hG;clear hb1 hcc HM4;go_wp2_with fail
         ((with_reducible refine HX.out.mono ?_);rintro e w5 ⟨rfl,hmv⟩)
         have HM9:=Lib.hid (HS.out.next hmv);have hTz:=HT.out.mvd HM9.out (by omega);have ct0:w5.cell? ⟨r0,0,none⟩=some (.int .i64 0):=(hTz).cell 0;have fct0:=(hTz).frozen 0;have ct1:w5.cell? ⟨r0,1,none⟩=some (.string ⟨#[]⟩):=(hTz).cell 1;have fct1:=(hTz).frozen 1;have ct2:w5.cell? ⟨r0,2,none⟩=some (.int .i64 0):=(hTz).cell 2;have fct2:=(hTz).frozen 2;have ct3:w5.cell? ⟨r0,3,none⟩=some (.int .i64 0):=(hTz).cell 3;have fct3:=(hTz).frozen 3;have ct4:w5.cell? ⟨r0,4,none⟩=some (.bool false):=(hTz).cell 4;have fct4:=(hTz).frozen 4;have ct5:w5.cell? ⟨r0,5,none⟩=some (.bool false):=(hTz).cell 5;have fct5:=(hTz).frozen 5;have lct:=(hTz).lt;clear hTz hmv HX;go_wp2_with fail
         exact bodyPost_ret (v:=tv ⟨uk,ut,(un,ud),ui,uid⟩) (by simp[results,Tryz.results70,go_sem,ct0,ct1,ct2,ct3,ct4,ct5,lct,tv,tok0]) rfl ⟨by rw[HG3.out],by
          have h0:=HW.out.next HM9.out;rw[HG3.out];show Moved w _ B oa cap b o l ue
          repeat (first|with_reducible exact h0 | (with_reducible refine Moved.far ?_ HR.out _ _ ?hq;case hq=>(show w.heap.size≤r0;omega)))⟩
       | false =>
         have hcc:¬ (c=34∨c=39):=by simpa using hb1
         rw[if_neg hcc]at hG;clear hb1 hcc;obtain⟨b2,hb2⟩:∃ b,decide (c=35∧((d≠-1∧letterI d=true)∨escI d e=true))=b:=⟨_,rfl⟩
         go_upto_region 15 with fail
         go_cut [57] from 57 to 72 (fun s wx=>s=.bool b2∧Hid (Moved w1 wx B oa cap b o l i))
         case first =>
          have hlt:=fun w=>letter3_any d w
          have hes:=fun w=>esc_any d e w
          obtain⟨bl,hbl⟩:∃ b,letterI d=b:=⟨_,rfl⟩;obtain⟨bs,hbs⟩:∃ b,escI d e=b:=⟨_,rfl⟩;rw[hbl]at hlt hb2;rw[hbs]at hes hb2;have HL:=Lib.hid hlt;have HS:=Lib.hid hes;clear hlt hes hbl hbs hG
          by_cases h35:c=35
          · subst h35
            by_cases hd1:d=-1
            · subst hd1
              obtain rfl:bs=b2:=by rw[← hb2];cases bs<;>simp
              clear hb2;go_wp2_with fail;go_wp2_with fail
              ((with_reducible refine(HS.out _).mono ?_);rintro e w' ⟨rfl,rfl⟩)
              go_wp2_with fail;go_meet;exact⟨rfl,HM4⟩
            · have gd:(d != -1)=true:=by simpa using hd1
              cases bl with
              | true =>
                obtain rfl:b2=true:=by rw[← hb2];simp[hd1]
                clear hb2;go_wp2_with fail;go_wp2_with fail
                ((with_reducible refine(HL.out _).mono ?_);rintro e w' ⟨rfl,rfl⟩)
                go_wp2_with fail;go_meet;exact⟨rfl,HM4⟩
              | false =>
                obtain rfl:bs=b2:=by rw[← hb2];cases bs<;>simp
                clear hb2;go_wp2_with fail;go_wp2_with fail
                ((with_reducible refine(HL.out _).mono ?_);rintro e w' ⟨rfl,rfl⟩)
                go_wp2_with fail;go_wp2_with fail
                ((with_reducible refine(HS.out _).mono ?_);rintro e w' ⟨rfl,rfl⟩)
                go_wp2_with fail;go_meet;exact⟨rfl,HM4⟩
          · have g35:(c==35)=false:=by simpa using h35
            obtain rfl:b2=false:=by rw[← hb2];simp[h35]
            clear hb2;go_wp2_with fail;go_meet;exact⟨rfl,HM4⟩
         case rest =>
          obtain⟨rfl,HM5⟩:=hcut;clear HM4
          cases b2 with
          | true =>
            have hcc:c=35∧((d≠-1∧letterI d=true)∨escI d e=true):=by simpa using hb2
            rw[if_pos hcc]at hG;clear hb2 hcc
            have hset:Moved w1 (wc.setCell ⟨B,1,none⟩ (.int .i64 ((i:Int)+1))) B oa cap b o l (i+1):=by have:=HM5.out.set (j:=i+1) (by omega);simpa using this
            have HS:=Lib.hid hset;have hblk:=HM5.out.rd.blk;have cr0:wc.cell? ⟨B,0,none⟩=some (.slice oa l.length cap):=(hblk).cell 0;have fcr0:=(hblk).frozen 0;have cr1:wc.cell? ⟨B,1,none⟩=some (.int .i64 (i:Int)):=(hblk).cell 1;have fcr1:=(hblk).frozen 1;have lcr:=(hblk).lt;clear hblk hset;have hA:=at2_any HS.out.rd;rw[show i+1+2=i+3 by omega,HF.out]at hA;have HA:=Lib.hid hA
            have hbg:=fun w=>begins_any d e f w
            obtain⟨bg,hbge⟩:∃ bg,beginsI d e f=bg:=⟨_,rfl⟩;rw[hbge]at hbg hG;have HBG:=Lib.hid hbg
            have hnm:=fun wy (hy:RAt wy B oa cap b o l (i+1))=>name_any hy
            obtain⟨⟨s,q⟩,hs⟩:∃ S,nameF l (i+1)=S:=⟨_,rfl⟩;rw[hs]at hnm hG;simp only at hnm hG;have HNM:=Lib.hid hnm;have HG3:=Lib.hid hG.symm;clear hG hnm hs hbg hbge hA HM5;go_wp2_with fail;go_wp2_with fail
            ((with_reducible refine(HA.out).mono ?_);rintro e w' ⟨rfl,hbw⟩)
            obtain⟨n1,rfl⟩:=grow_mk hbw;clear hbw;go_wp2_with fail
            ((with_reducible refine(HBG.out _).mono ?_);rintro e w' ⟨rfl,rfl⟩)
            have HMx:=Lib.hid (HS.out.grow n1);clear HS HA HBG cr0 cr1 fcr0 fcr1 lcr;generalize grow _ n1=wd at *;have HX:=Lib.hid (HNM.out _ HMx.out.rd);clear HNM;go_wp2_with fail
            ((with_reducible refine HX.out.mono ?_);rintro e w5 ⟨rfl,hmv⟩)
            have HM9:=Lib.hid (HMx.out.next hmv);have hTz:=HT.out.mvd HM9.out (by omega);have ct0:w5.cell? ⟨r0,0,none⟩=some (.int .i64 0):=(hTz).cell 0;have fct0:=(hTz).frozen 0;have ct1:w5.cell? ⟨r0,1,none⟩=some (.string ⟨#[]⟩):=(hTz).cell 1;have fct1:=(hTz).frozen 1;have ct2:w5.cell? ⟨r0,2,none⟩=some (.int .i64 0):=(hTz).cell 2;have fct2:=(hTz).frozen 2;have ct3:w5.cell? ⟨r0,3,none⟩=some (.int .i64 0):=(hTz).cell 3;have fct3:=(hTz).frozen 3;have ct4:w5.cell? ⟨r0,4,none⟩=some (.bool false):=(hTz).cell 4;have fct4:=(hTz).frozen 4;have ct5:w5.cell? ⟨r0,5,none⟩=some (.bool false):=(hTz).cell 5;have fct5:=(hTz).frozen 5;have lct:=(hTz).lt;clear hTz hmv HX;go_wp2_with fail
            exact bodyPost_ret (v:=tv ⟨4,s,(0,0),false,bg⟩) (by simp[results,Tryz.results70,go_sem,ct0,ct1,ct2,ct3,ct4,ct5,lct,tv,tok0]) rfl ⟨by rw[HG3.out],by
             have h0:=HW.out.next HM9.out;rw[HG3.out];show Moved w _ B oa cap b o l q
             repeat (first|with_reducible exact h0 | (with_reducible refine Moved.far ?_ HR.out _ _ ?hq;case hq=>(show w.heap.size≤r0;omega)))⟩
          | false =>
            have hcc:¬ (c=35∧((d≠-1∧letterI d=true)∨escI d e=true)):=by simpa using hb2
            rw[if_neg hcc]at hG;clear hb2 hcc
            have hnu:=fun w=>number3_any c d e w
            cases hbn:numI c d e with
            | true =>
              rw[if_pos hbn]at hG;rw[hbn]at hnu;have HN:=Lib.hid hnu;have hx:=figure_any HM5.out.rd (by omega) hfig;obtain⟨⟨⟨uk,ut,⟨un,ud⟩,ui,uid⟩,ue⟩,hu⟩:∃ U,figureF l i=U:=⟨_,rfl⟩;rw[hu]at hx hG;simp only[tv]at hx;have HX:=Lib.hid hx;have HG3:=Lib.hid hG.symm;clear hx hu hG;clear hnu hbn;go_wp2_with fail;go_wp2_with fail
              ((with_reducible refine(HN.out _).mono ?_);rintro e w' ⟨rfl,rfl⟩)
              go_wp2_with fail
              ((with_reducible refine HX.out.mono ?_);rintro e w5 ⟨rfl,hmv⟩)
              have HM9:=Lib.hid (HM5.out.next hmv);have hTz:=HT.out.mvd HM9.out (by omega);have ct0:w5.cell? ⟨r0,0,none⟩=some (.int .i64 0):=(hTz).cell 0;have fct0:=(hTz).frozen 0;have ct1:w5.cell? ⟨r0,1,none⟩=some (.string ⟨#[]⟩):=(hTz).cell 1;have fct1:=(hTz).frozen 1;have ct2:w5.cell? ⟨r0,2,none⟩=some (.int .i64 0):=(hTz).cell 2;have fct2:=(hTz).frozen 2;have ct3:w5.cell? ⟨r0,3,none⟩=some (.int .i64 0):=(hTz).cell 3;have fct3:=(hTz).frozen 3;have ct4:w5.cell? ⟨r0,4,none⟩=some (.bool false):=(hTz).cell 4;have fct4:=(hTz).frozen 4;have ct5:w5.cell? ⟨r0,5,none⟩=some (.bool false):=(hTz).cell 5;have fct5:=(hTz).frozen 5;have lct:=(hTz).lt;clear hTz hmv HX;go_wp2_with fail
              exact bodyPost_ret (v:=tv ⟨uk,ut,(un,ud),ui,uid⟩) (by simp[results,Tryz.results70,go_sem,ct0,ct1,ct2,ct3,ct4,ct5,lct,tv,tok0]) rfl ⟨by rw[HG3.out],by
               have h0:=HW.out.next HM9.out;rw[HG3.out];show Moved w _ B oa cap b o l ue
               repeat (first|with_reducible exact h0 | (with_reducible refine Moved.far ?_ HR.out _ _ ?hq;case hq=>(show w.heap.size≤r0;omega)))⟩
            | false =>
              rw[if_neg (by rw[hbn];simp)]at hG;rw[hbn]at hnu;have HN:=Lib.hid hnu;clear hnu hbn;go_wp2_with fail;go_wp2_with fail
              ((with_reducible refine(HN.out _).mono ?_);rintro e w' ⟨rfl,rfl⟩)
              clear HN;obtain⟨b3,hb3⟩:∃ b,decide (c=45∧d=45∧e=62)=b:=⟨_,rfl⟩
              go_upto_region 21 with fail
              go_cut [96] from 96 to 106 (fun s wx=>s=.bool b3∧Hid (Moved w1 wx B oa cap b o l i))
              case first =>
               have ways:(c==45)=false∧b3=false∨(c==45)=true∧(d==45)=false∧b3=false∨(c==45)=true∧(d==45)=true∧(e==62)=b3:=by
                by_cases e1:c=45
                · by_cases e2:d=45
                  · exact Or.inr (Or.inr ⟨by simpa using e1,by simpa using e2,by rw[← hb3];by_cases e3:e=62<;>simp[e1,e2,e3]⟩)
                  · exact Or.inr (Or.inl ⟨by simpa using e1,by simpa using e2,by rw[← hb3];simp[e2]⟩)
                · exact Or.inl ⟨by simpa using e1,by rw[← hb3];simp[e1]⟩
               clear hb3 hG
               rcases ways with ⟨k1,rfl⟩ | ⟨k1,k2,rfl⟩ | ⟨k1,k2,k3⟩
               all_goals
                go_wp2_with fail;go_meet;exact⟨rfl,HM5⟩
              case rest =>
               obtain⟨rfl,HM6⟩:=hcut;clear HM5
               cases b3 with
               | true =>
                 have hcc:c=45∧d=45∧e=62:=by simpa using hb3
                 rw[if_pos hcc]at hG;have HG3:=Lib.hid hG.symm;clear hb3 hcc hG
                 have hset:Moved w1 (wc.setCell ⟨B,1,none⟩ (.int .i64 ((i:Int)+3))) B oa cap b o l (i+3):=by have:=HM6.out.set (j:=i+3) (by omega);simpa using this
                 have HS:=Lib.hid hset;have hblk:=HM6.out.rd.blk;have cr0:wc.cell? ⟨B,0,none⟩=some (.slice oa l.length cap):=(hblk).cell 0;have fcr0:=(hblk).frozen 0;have cr1:wc.cell? ⟨B,1,none⟩=some (.int .i64 (i:Int)):=(hblk).cell 1;have fcr1:=(hblk).frozen 1;have lcr:=(hblk).lt;clear hblk hset;have hTy:=HT.out.mvd HM6.out (by omega);have ct0:wc.cell? ⟨r0,0,none⟩=some (.int .i64 0):=(hTy).cell 0;have fct0:=(hTy).frozen 0;have ct1:wc.cell? ⟨r0,1,none⟩=some (.string ⟨#[]⟩):=(hTy).cell 1;have fct1:=(hTy).frozen 1;have ct2:wc.cell? ⟨r0,2,none⟩=some (.int .i64 0):=(hTy).cell 2;have fct2:=(hTy).frozen 2;have ct3:wc.cell? ⟨r0,3,none⟩=some (.int .i64 0):=(hTy).cell 3;have fct3:=(hTy).frozen 3;have ct4:wc.cell? ⟨r0,4,none⟩=some (.bool false):=(hTy).cell 4;have fct4:=(hTy).frozen 4;have ct5:wc.cell? ⟨r0,5,none⟩=some (.bool false):=(hTy).cell 5;have fct5:=(hTy).frozen 5;have lct:=(hTy).lt
                 have hne:B≠r0:=by omega
                 clear HM6 hTy;go_wp2_with fail
                 exact bodyPost_ret (v:=tv (tok0 15 [])) (by simp[results,Tryz.results70,go_sem,ct0,ct1,ct2,ct3,ct4,ct5,lct,tv,tok0]) rfl ⟨by rw[HG3.out],by
                  have h0:=HW.out.next HS.out;rw[HG3.out];show Moved w _ B oa cap b o l (i+3)
                  repeat (first|with_reducible exact h0 | (with_reducible refine Moved.far ?_ HR.out _ _ ?hq;case hq=>(show w.heap.size≤r0;omega)))⟩
               | false =>
                 have hcc:¬ (c=45∧d=45∧e=62):=by simpa using hb3
                 rw[if_neg hcc]at hG;clear hb3 hcc;obtain⟨b4,hb4⟩:∃ b,decide (c=60∧d=33∧e=45∧f=45)=b:=⟨_,rfl⟩
                 go_upto_region 24 with fail
                 go_cut [115] from 115 to 130 (fun s wx=>s=.bool b4∧Hid (Moved w1 wx B oa cap b o l i))
                 case first =>
                  have ways:(c==60)=false∧b4=false∨(c==60)=true∧(d==33)=false∧b4=false∨(c==60)=true∧(d==33)=true∧(e==45)=false∧b4=false∨(c==60)=true∧(d==33)=true∧(e==45)=true∧(f==45)=b4:=by
                   by_cases e1:c=60
                   · by_cases e2:d=33
                     · by_cases e3:e=45
                       · exact Or.inr (Or.inr (Or.inr ⟨by simpa using e1,by simpa using e2,by simpa using e3,by rw[← hb4];by_cases e4:f=45<;>simp[e1,e2,e3,e4]⟩))
                       · exact Or.inr (Or.inr (Or.inl ⟨by simpa using e1,by simpa using e2,by simpa using e3,by rw[← hb4];simp[e3]⟩))
                     · exact Or.inr (Or.inl ⟨by simpa using e1,by simpa using e2,by rw[← hb4];simp[e2]⟩)
                   · exact Or.inl ⟨by simpa using e1,by rw[← hb4];simp[e1]⟩
                  have hA:=at3_any HM6.out.rd;rw[HF.out]at hA;have HA:=Lib.hid hA;clear hb4 hG hA
                  rcases ways with ⟨k1,rfl⟩ | ⟨k1,k2,rfl⟩ | ⟨k1,k2,k3,rfl⟩ | ⟨k1,k2,k3,k4⟩
                  · go_wp2_with fail;go_meet;exact⟨rfl,HM6⟩
                  · go_wp2_with fail;go_meet;exact⟨rfl,HM6⟩
                  · go_wp2_with fail;go_meet;exact⟨rfl,HM6⟩
                  · go_wp2_with fail;go_wp2_with fail
                    ((with_reducible refine(HA.out).mono ?_);rintro e w' ⟨rfl,hbw⟩)
                    obtain⟨n1,rfl⟩:=grow_mk hbw;clear hbw;have HMx:=Lib.hid (HM6.out.grow n1);clear HM6 HA;generalize grow _ n1=wd at *;go_wp2_with fail;go_meet;exact⟨rfl,HMx⟩
                 case rest =>
                  obtain⟨rfl,HM7⟩:=hcut;clear HM6
                  cases b4 with
                  | true =>
                    have hcc:c=60∧d=33∧e=45∧f=45:=by simpa using hb4
                    rw[if_pos hcc]at hG;have HG3:=Lib.hid hG.symm;clear hb4 hcc hG
                    have hset:Moved w1 (wc.setCell ⟨B,1,none⟩ (.int .i64 ((i:Int)+4))) B oa cap b o l (i+4):=by have:=HM7.out.set (j:=i+4) (by omega);simpa using this
                    have HS:=Lib.hid hset;have hblk:=HM7.out.rd.blk;have cr0:wc.cell? ⟨B,0,none⟩=some (.slice oa l.length cap):=(hblk).cell 0;have fcr0:=(hblk).frozen 0;have cr1:wc.cell? ⟨B,1,none⟩=some (.int .i64 (i:Int)):=(hblk).cell 1;have fcr1:=(hblk).frozen 1;have lcr:=(hblk).lt;clear hblk hset;have hTy:=HT.out.mvd HM7.out (by omega);have ct0:wc.cell? ⟨r0,0,none⟩=some (.int .i64 0):=(hTy).cell 0;have fct0:=(hTy).frozen 0;have ct1:wc.cell? ⟨r0,1,none⟩=some (.string ⟨#[]⟩):=(hTy).cell 1;have fct1:=(hTy).frozen 1;have ct2:wc.cell? ⟨r0,2,none⟩=some (.int .i64 0):=(hTy).cell 2;have fct2:=(hTy).frozen 2;have ct3:wc.cell? ⟨r0,3,none⟩=some (.int .i64 0):=(hTy).cell 3;have fct3:=(hTy).frozen 3;have ct4:wc.cell? ⟨r0,4,none⟩=some (.bool false):=(hTy).cell 4;have fct4:=(hTy).frozen 4;have ct5:wc.cell? ⟨r0,5,none⟩=some (.bool false):=(hTy).cell 5;have fct5:=(hTy).frozen 5;have lct:=(hTy).lt
                    have hne:B≠r0:=by omega
                    clear HM7 hTy;go_wp2_with fail
                    exact bodyPost_ret (v:=tv (tok0 14 [])) (by simp[results,Tryz.results70,go_sem,ct0,ct1,ct2,ct3,ct4,ct5,lct,tv,tok0]) rfl ⟨by rw[HG3.out],by
                     have h0:=HW.out.next HS.out;rw[HG3.out];show Moved w _ B oa cap b o l (i+4)
                     repeat (first|with_reducible exact h0 | (with_reducible refine Moved.far ?_ HR.out _ _ ?hq;case hq=>(show w.heap.size≤r0;omega)))⟩
                  | false =>
                    have hcc:¬ (c=60∧d=33∧e=45∧f=45):=by simpa using hb4
                    rw[if_neg hcc]at hG;clear hb4 hcc;obtain⟨b5,hb5⟩:∃ b,decide (c=64∧beginsI d e f=true)=b:=⟨_,rfl⟩
                    go_upto_region 27 with fail
                    go_cut [139] from 139 to 148 (fun s wx=>s=.bool b5∧Hid (Moved w1 wx B oa cap b o l i))
                    case first =>
                     have hA:=at3_any HM7.out.rd;rw[HF.out]at hA;have HA:=Lib.hid hA
                     have hbg:=fun w=>begins_any d e f w
                     obtain⟨bg,hbge⟩:∃ bg,beginsI d e f=bg:=⟨_,rfl⟩;rw[hbge]at hbg hb5;have HBG:=Lib.hid hbg;clear hbg hbge hA hG
                     by_cases h64:c=64
                     · subst h64
                       obtain rfl:bg=b5:=by rw[← hb5];cases bg<;>simp
                       clear hb5;go_wp2_with fail;go_wp2_with fail
                       ((with_reducible refine(HA.out).mono ?_);rintro e w' ⟨rfl,hbw⟩)
                       obtain⟨n1,rfl⟩:=grow_mk hbw;clear hbw;go_wp2_with fail
                       ((with_reducible refine(HBG.out _).mono ?_);rintro e w' ⟨rfl,rfl⟩)
                       have HMx:=Lib.hid (HM7.out.grow n1);clear HM7 HA;generalize grow _ n1=wd at *;go_wp2_with fail;go_meet;exact⟨rfl,HMx⟩
                     · have g64:(c==64)=false:=by simpa using h64
                       obtain rfl:b5=false:=by rw[← hb5];simp[h64]
                       clear hb5;go_wp2_with fail;go_meet;exact⟨rfl,HM7⟩
                    case rest =>
                     obtain⟨rfl,HM8⟩:=hcut;clear HM7
                     cases b5 with
                     | true =>
                       have hcc:c=64∧beginsI d e f=true:=by simpa using hb5
                       rw[if_pos hcc]at hG;clear hb5 hcc
                       have hset:Moved w1 (wc.setCell ⟨B,1,none⟩ (.int .i64 ((i:Int)+1))) B oa cap b o l (i+1):=by have:=HM8.out.set (j:=i+1) (by omega);simpa using this
                       have HS:=Lib.hid hset;have hblk:=HM8.out.rd.blk;have cr0:wc.cell? ⟨B,0,none⟩=some (.slice oa l.length cap):=(hblk).cell 0;have fcr0:=(hblk).frozen 0;have cr1:wc.cell? ⟨B,1,none⟩=some (.int .i64 (i:Int)):=(hblk).cell 1;have fcr1:=(hblk).frozen 1;have lcr:=(hblk).lt;clear hblk hset;have hnm:=name_any HS.out.rd;obtain⟨⟨s,q⟩,hs⟩:∃ S,nameF l (i+1)=S:=⟨_,rfl⟩;rw[hs]at hnm hG;simp only at hnm hG;have HX:=Lib.hid hnm;have HG3:=Lib.hid hG.symm;clear hG hnm hs HM8;go_wp2_with fail
                       ((with_reducible refine HX.out.mono ?_);rintro e w5 ⟨rfl,hmv⟩)
                       have HM9:=Lib.hid (HS.out.next hmv);have hTz:=HT.out.mvd HM9.out (by omega);have ct0:w5.cell? ⟨r0,0,none⟩=some (.int .i64 0):=(hTz).cell 0;have fct0:=(hTz).frozen 0;have ct1:w5.cell? ⟨r0,1,none⟩=some (.string ⟨#[]⟩):=(hTz).cell 1;have fct1:=(hTz).frozen 1;have ct2:w5.cell? ⟨r0,2,none⟩=some (.int .i64 0):=(hTz).cell 2;have fct2:=(hTz).frozen 2;have ct3:w5.cell? ⟨r0,3,none⟩=some (.int .i64 0):=(hTz).cell 3;have fct3:=(hTz).frozen 3;have ct4:w5.cell? ⟨r0,4,none⟩=some (.bool false):=(hTz).cell 4;have fct4:=(hTz).frozen 4;have ct5:w5.cell? ⟨r0,5,none⟩=some (.bool false):=(hTz).cell 5;have fct5:=(hTz).frozen 5;have lct:=(hTz).lt;clear hTz hmv HX;go_wp2_with fail
                       exact bodyPost_ret (v:=tv (tok0 3 s)) (by simp[results,Tryz.results70,go_sem,ct0,ct1,ct2,ct3,ct4,ct5,lct,tv,tok0]) rfl ⟨by rw[HG3.out],by
                        have h0:=HW.out.next HM9.out;rw[HG3.out];show Moved w _ B oa cap b o l q
                        repeat (first|with_reducible exact h0 | (with_reducible refine Moved.far ?_ HR.out _ _ ?hq;case hq=>(show w.heap.size≤r0;omega)))⟩
                     | false =>
                       have hcc:¬ (c=64∧beginsI d e f=true):=by simpa using hb5
                       rw[if_neg hcc]at hG;clear hb5 hcc
                       have hbg:=fun w=>begins_any c d e w
                       cases hbn:beginsI c d e with
                       | true =>
                         rw[if_pos hbn]at hG;rw[hbn]at hbg;have HN:=Lib.hid hbg;have hx:=word_any HM8.out.rd (by omega);obtain⟨⟨⟨uk,ut,⟨un,ud⟩,ui,uid⟩,ue⟩,hu⟩:∃ U,wordF l i=U:=⟨_,rfl⟩;rw[hu]at hx hG;simp only[tv]at hx;have HX:=Lib.hid hx;have HG3:=Lib.hid hG.symm;clear hx hu hG;clear hbg hbn;go_wp2_with fail;go_wp2_with fail
                         ((with_reducible refine(HN.out _).mono ?_);rintro e w' ⟨rfl,rfl⟩)
                         go_wp2_with fail
                         ((with_reducible refine HX.out.mono ?_);rintro e w5 ⟨rfl,hmv⟩)
                         have HM9:=Lib.hid (HM8.out.next hmv);have hTz:=HT.out.mvd HM9.out (by omega);have ct0:w5.cell? ⟨r0,0,none⟩=some (.int .i64 0):=(hTz).cell 0;have fct0:=(hTz).frozen 0;have ct1:w5.cell? ⟨r0,1,none⟩=some (.string ⟨#[]⟩):=(hTz).cell 1;have fct1:=(hTz).frozen 1;have ct2:w5.cell? ⟨r0,2,none⟩=some (.int .i64 0):=(hTz).cell 2;have fct2:=(hTz).frozen 2;have ct3:w5.cell? ⟨r0,3,none⟩=some (.int .i64 0):=(hTz).cell 3;have fct3:=(hTz).frozen 3;have ct4:w5.cell? ⟨r0,4,none⟩=some (.bool false):=(hTz).cell 4;have fct4:=(hTz).frozen 4;have ct5:w5.cell? ⟨r0,5,none⟩=some (.bool false):=(hTz).cell 5;have fct5:=(hTz).frozen 5;have lct:=(hTz).lt;clear hTz hmv HX;go_wp2_with fail
                         exact bodyPost_ret (v:=tv ⟨uk,ut,(un,ud),ui,uid⟩) (by simp[results,Tryz.results70,go_sem,ct0,ct1,ct2,ct3,ct4,ct5,lct,tv,tok0]) rfl ⟨by rw[HG3.out],by
                          have h0:=HW.out.next HM9.out;rw[HG3.out];show Moved w _ B oa cap b o l ue
                          repeat (first|with_reducible exact h0 | (with_reducible refine Moved.far ?_ HR.out _ _ ?hq;case hq=>(show w.heap.size≤r0;omega)))⟩
                       | false =>
                         rw[if_neg (by rw[hbn];simp)]at hG;rw[hbn]at hbg;have HN:=Lib.hid hbg;have HG3:=Lib.hid hG.symm;clear hbg hbn hG;go_wp2_with fail;go_wp2_with fail
                         ((with_reducible refine(HN.out _).mono ?_);rintro e w' ⟨rfl,rfl⟩)
                         have hset:Moved w1 (w'.setCell ⟨B,1,none⟩ (.int .i64 ((i:Int)+1))) B oa cap b o l (i+1):=by have:=HM8.out.set (j:=i+1) (by omega);simpa using this
                         have HS:=Lib.hid hset;have hblk:=HM8.out.rd.blk;have cr0:w'.cell? ⟨B,0,none⟩=some (.slice oa l.length cap):=(hblk).cell 0;have fcr0:=(hblk).frozen 0;have cr1:w'.cell? ⟨B,1,none⟩=some (.int .i64 (i:Int)):=(hblk).cell 1;have fcr1:=(hblk).frozen 1;have lcr:=(hblk).lt;clear hblk hset;have hsc:=HS.out;clear HM8 HN
                         go_upto_region 33 with fail
                         clear cr0 cr1 fcr0 fcr1 lcr;generalize w'.setCell _ _=wd at *
                         have hsl:Sl (wd.alloc (.cells #[.int .i32 c] 21)) (some ⟨wd.heap.size,0,none⟩) 1 1 wd.heap.size 0 1 (runesV [c]) :=
                          ⟨rfl,Nat.le_refl _,by decide,fun _=>⟨rfl,by simp⟩,fun j v hv=>by
                            have hj:j=0:=by
                             have:=(List.getElem?_eq_some_iff.1 hv).1;simp[runesV]at this;exact this
                            subst hj;obtain rfl:=Option.some.inj hv
                            exact(Blk.new wd 21 #[.int .i32 c]).cell 0⟩
                         have hc32:=aF_32 HR.out.rng i;rw[HC.out]at hc32;have htx:=text_of [c] _ 1 _ 0 _ hsl (fun x hx=>by cases hx with|head=>exact hc32 | tail _ h=>cases h) (by simp);simp only[List.length_singleton]at htx;have HTX:=Lib.hid htx;have HSa:=Lib.hid (HS.out.alloc (.cells #[.int .i32 c] 21));clear hsl hc32 hsc HS htx;go_wp2_with fail;go_wp2_with fail
                         ((with_reducible refine(HTX.out).mono ?_);rintro e w' ⟨rfl,hbw⟩)
                         obtain⟨n2,rfl⟩:=grow_mk hbw;clear hbw;have HM9:=Lib.hid (HSa.out.grow n2);clear HSa HTX;generalize grow _ n2=w5 at *;have hTz:=HT.out.mvd HM9.out (by omega);have ct0:w5.cell? ⟨r0,0,none⟩=some (.int .i64 0):=(hTz).cell 0;have fct0:=(hTz).frozen 0;have ct1:w5.cell? ⟨r0,1,none⟩=some (.string ⟨#[]⟩):=(hTz).cell 1;have fct1:=(hTz).frozen 1;have ct2:w5.cell? ⟨r0,2,none⟩=some (.int .i64 0):=(hTz).cell 2;have fct2:=(hTz).frozen 2;have ct3:w5.cell? ⟨r0,3,none⟩=some (.int .i64 0):=(hTz).cell 3;have fct3:=(hTz).frozen 3;have ct4:w5.cell? ⟨r0,4,none⟩=some (.bool false):=(hTz).cell 4;have fct4:=(hTz).frozen 4;have ct5:w5.cell? ⟨r0,5,none⟩=some (.bool false):=(hTz).cell 5;have fct5:=(hTz).frozen 5;have lct:=(hTz).lt;clear hTz;go_wp2_with fail
                         exact bodyPost_ret (v:=tv (tok0 9 (encF [c]))) (by simp[results,Tryz.results70,go_sem,ct0,ct1,ct2,ct3,ct4,ct5,lct,tv,tok0]) rfl ⟨by rw[HG3.out],by
                          have h0:=HW.out.next HM9.out;rw[HG3.out];show Moved w _ B oa cap b o l (i+1)
                          repeat (first|with_reducible exact h0 | (with_reducible refine Moved.far ?_ HR.out _ _ ?hq;case hq=>(show w.heap.size≤r0;omega)))⟩
theorem restG_end (l:List Int):∀ (f i:Nat),i≤l.length→i≤restG l f i∧restG l f i≤l.length+1
 | 0,_,h=>⟨Nat.le_refl _,Nat.le_succ_of_le h⟩
 | f+1,i,h=>by
   unfold restG;split
   · omega
   · rename_i hc
     have h1:i<l.length:=aF_lt fun e=>hc (Or.inl e)
     split
     · have h2:=takenF_le l (i+1);have:=restG_end l f (takenF l (i+1)).2 (takenF_len h1);omega
     · have:=restG_end l f (i+1) h1;omega
theorem rest3F_end {l:List Int} {i:Nat} (h:i≤l.length):i≤rest3F l i∧rest3F l i≤l.length+1:=restG_end l _ i h
theorem urlG_end (l:List Int):∀ (f i:Nat),i≤l.length→i≤(urlG l f i).2∧(urlG l f i).2≤l.length+1
 | 0,_,h=>⟨Nat.le_refl _,Nat.le_succ_of_le h⟩
 | f+1,i,h=>by
   unfold urlG;have hr:=rest3F_end h;split
   · simp only;omega
   · rename_i hc
     have h1:i<l.length:=aF_lt fun e=>hc (Or.inl e)
     split
     · have hb:=blaF_le l i;have hbl:=blaF_len h;split
       · have:=rest3F_end hbl;simp only;omega
       · have:=urlG_end l f (blaF l i) hbl;omega
     · split
       · exact hr
       · split
         · split
           · have h2:=takenF_le l (i+1);have:=urlG_end l f (takenF l (i+1)).2 (takenF_len h1);simp only;omega
           · exact hr
         · have:=urlG_end l f (i+1) h1;simp only;omega
theorem urlF_end {l:List Int} {i:Nat} (h:i≤l.length):i≤(urlF l i).2∧(urlF l i).2≤l.length+1:=by
 have h1:=blaF_le l i;have h2:=urlG_end l (l.length+2-blaF l i) (blaF l i) (blaF_len h)
 have h3:∀ x:Option (List Int)×Nat,(urlT x).2=x.2:=fun x=>by unfold urlT;split<;>rfl
 unfold urlF;rw[h3];omega
theorem textG_end (l:List Int) (sign:Int):∀ (f i:Nat),i≤l.length→i≤(textG l sign f i).2∧(textG l sign f i).2≤l.length+1
 | 0,_,h=>⟨Nat.le_refl _,Nat.le_succ_of_le h⟩
 | f+1,i,h=>by
   unfold textG;split
   · simp only;omega
   · split
     · rename_i hc
       have h1:i<l.length:=aF_lt (by rw[hc];decide);split
       · have:=textG_end l sign f (i+1) h1;omega
       · split
         · rename_i hd
           have h2:i+1<l.length:=aF_lt (by rw[hd];decide);have:=textG_end l sign f (i+2) h2;omega
         · have h2:=takenF_le l (i+1);have:=textG_end l sign f (takenF l (i+1)).2 (takenF_len h1);simp only;omega
     · split
       · simp only;omega
       · rename_i hc
         have h1:i<l.length:=aF_lt fun e=>hc (Or.inl e)
         have:=textG_end l sign f (i+1) h1;simp only;omega
theorem stringF_end {l:List Int} {sign:Int} {i:Nat} (h:i≤l.length):i≤(stringF l sign i).2∧(stringF l sign i).2≤l.length+1:=by
 have h2:=textG_end l sign (l.length+2-i) i h
 have h3:∀ x:Option (List Int)×Nat,(strT x).2=x.2:=fun x=>by unfold strT;split<;>rfl
 unfold stringF;rw[h3];exact h2
theorem name_step {l:List Int} {i:Nat} (h:beginsI (aF l i) (aF l (i+1)) (aF l (i+2))=true) (hi:i<l.length):i+1≤(nameF l i).2:=by
 show i+1≤(nameG l (l.length+2-i) i).2;rw[show l.length+2-i=(l.length+1-i)+1 by omega,nameG];split
 · exact(nameG_end l _ (i+1) hi).1
 · rename_i hn
   split
   · have h1:=takenF_le l (i+1);have:=(nameG_end l (l.length+1-i) (takenF l (i+1)).2 (takenF_len hi)).1;simp only;omega
   · rename_i he
     exfalso
     unfold beginsI at h;split at h
     · rename_i hc
       exact hn ⟨by rw[hc];decide,by rw[hc];decide⟩
     · rw[Bool.or_eq_true]at h
       rcases h with h|h
       · refine hn ⟨fun e=>(by rw[e]at h;cases h),?_⟩;unfold letterI;rw[h];rfl
       · exact he h
theorem digF_step {l:List Int} {i:Nat} (h:digitI (aF l i)=true):i+1≤digF l i:=by
 have hi:=digit_lt h;unfold digF;rw[show l.length+2-i=(l.length+1-i)+1 by omega,digE,if_pos h];exact(digE_len l _ (i+1) hi).1
theorem figE_step {l:List Int} {i:Nat} (h:numI (aF l i) (aF l (i+1)) (aF l (i+2))=true) (hi:i<l.length):i+1≤figE l i∧figE l i≤l.length:=by
 obtain⟨h1a,h1b⟩:=figS_len (l:=l) (i:=i) (by omega);obtain⟨h2a,h2b⟩:=digF_len h1b;obtain⟨h3a,h3b⟩:=figP_len h2b;obtain⟨h4a,h4b⟩:=figX_len h3b;refine⟨?_,h4b⟩;show i+1≤figX l (figP l (digF l (figS l i)));unfold numI at h;split at h
 · rename_i hs
   have:figS l i=i+1:=by unfold figS;rw[if_pos hs]
   omega
 · rename_i hs
   have hS:figS l i=i:=by unfold figS;rw[if_neg hs]
   rw[hS]at h2a h2b h3a h3b h4a h4b ⊢;rw[Bool.or_eq_true]at h
   rcases h with h|h
   · have:=digF_step h;omega
   · rw[Bool.and_eq_true,beq_iff_eq]at h
     by_cases hd:digitI (aF l i)=true
     · have:=digF_step hd;omega
     · have hD:digF l i=i:=by
        unfold digF;rw[show l.length+2-i=(l.length+1-i)+1 by omega,digE,if_neg hd]
       rw[hD]at h3a h3b h4a h4b ⊢
       have hP:figP l i=digF l (i+1):=by unfold figP;rw[if_pos h]
       have:=digF_len (l:=l) (i:=i+1) hi;omega
theorem wordF_end {l:List Int} {i:Nat} (h:i≤l.length):(nameF l i).2≤(wordF l i).2∧(wordF l i).2≤l.length+1:=by
 have h1:=nameF_end h;obtain⟨⟨s,j⟩,hs⟩:∃ S,nameF l i=S:=⟨_,rfl⟩;unfold wordF;rw[hs]at h1 ⊢;simp only at h1 ⊢;unfold wordT
 by_cases h40:aF l j≠40
 · rw[if_pos h40];simp only;omega
 · rw[if_neg h40]
   have h2:j<l.length:=aF_lt fun e=>h40 (by rw[e];decide)
   by_cases hl:likeS s [117,114,108]=false
   · rw[if_pos hl];simp only;omega
   · rw[if_neg hl];have h3:=twoE_le l (l.length+2-(j+1)) (j+1);have h4:=twoE_len l (l.length+2-(j+1)) (j+1) h2;have h5:=urlF_end h4;simp only;split<;>(split<;>first|omega | (simp only;omega))
theorem nextF_end {l:List Int} {i:Nat} (h:aF l i≠-1):i+1≤(nextF l i).2∧(nextF l i).2≤l.length+2:=by
 have hi:=aF_lt h;unfold nextF;split
 · simp only;omega
 · split
   · rename_i hb
     have h1:=blaF_step hb;have h2:=blaF_len (l:=l) (i:=i) (by omega);simp only;omega
   · split
     · have:=stringF_end (l:=l) (sign:=aF l i) (i:=i+1) hi;omega
     · split
       · have:=nameF_end (l:=l) (i:=i+1) hi;simp only;omega
       · split
         · rename_i hn
           have h1:=figE_step hn hi;unfold figureF;simp only;split
           · have:=nameF_end h1.2;simp only;omega
           · split
             · rename_i hp
               simp only;omega
             · simp only;omega
         · split
           · rename_i hc
             have:i+2<l.length:=aF_lt (by rw[hc.2.2];decide);simp only;omega
           · split
             · rename_i hc
               have:i+3<l.length:=aF_lt (by rw[hc.2.2.2];decide);simp only;omega
             · split
               · have:=nameF_end (l:=l) (i:=i+1) hi;simp only;omega
               · split
                 · rename_i hb
                   have h1:=name_step hb hi;have h2:=wordF_end (l:=l) (i:=i) (by omega);omega
                 · simp only;omega
def tkcells (t:Tk):List Value:=[.int .i64 t.kind,.string ⟨t.text.toArray⟩,.int .i64 t.num.1,.int .i64 t.num.2,.bool t.int,.bool t.id]
def toksV (l:List Tk):List Value:=l.flatMap tkcells
theorem elTok:El 93 85 (.agg #[.int .i64 0,.string ⟨#[]⟩,.int .i64 0,.int .i64 0,.bool false,.bool false]) 6 48:=⟨Tryz.underlying93,by kernel_rfl,rfl,by decide⟩
theorem owns_low {w:World} {base base':Nat} {e:TypeId} {size:Nat} {v:Value} {n:Nat} {xs:List Value} (h:w.ownsRow base e size v n xs) (hb:base'≤base):w.ownsRow base' e size v n xs:=by
 refine⟨h.1,?_⟩
 rcases h.2 with h0 | ⟨g,cap,cur,hv,hg,rest⟩
 · exact .inl h0
 · exact .inr ⟨g,cap,cur,hv,Nat.le_trans hb hg,rest⟩
set_option maxRecDepth 20000 in
set_option maxHeartbeats 8000000 in
theorem tokens_any (l:List Int) (oa:Option Addr) (cap b o:Nat) (w:World) (hs:Sl w oa l.length cap b o 1 (runesV l)) (h32:∀ x∈l,I32 x) (hK:Kd w) (hm:l.length≤4294967296) :
  Calls Tryz.prog 48 #[.slice oa l.length cap] w fun e w'=>(∃ v,e=.returned v∧Rw w w' 85 6 v (tokensF l).length (toksV (tokensF l))):=by
 obtain⟨X,hX⟩:∃ X,tokensF l=X:=⟨_,rfl⟩;rw[hX];have HX:=Lib.hid (show []++tokG l (l.length+2) 0=X from hX);obtain⟨B,hB⟩:∃ B,w.heap.size=B:=⟨_,rfl⟩
 have hKB:0≠B:=by have:=hK.1;omega
 -- a place for the characters that is not the reader's
 obtain ⟨b2,o2,hb2,hs2⟩:∃ b2 o2,b2≠B∧Sl w oa l.length cap b2 o2 1 (runesV l):=by
  rcases Nat.eq_zero_or_pos l.length with h0 | hp
  · exact ⟨B+1,0,by omega,hs.len,hs.le,hs.max,fun hp=>by omega,fun j v hv=>by
     have:=hs.pos hv
     omega⟩
  · exact⟨b,o,by have:=(hs.lies hp).2;omega,hs⟩
 have HS:=Lib.hid hs2;have H32:=Lib.hid h32;have HK:=Lib.hid hK;clear hX hs hs2 h32 hK
 go_enter Tryz.func48,Tryz.ntmps48
 go_upto_region 3 with fail
 have hblk:=Blk.new w 145 #[.slice oa l.length cap,.int .i64 0];rw[hB]at hblk;have hbw:Below w.heap.size w (w.alloc (.cells #[.slice oa l.length cap,.int .i64 0] 145)):=(Below.refl _ _).alloc (Nat.le_refl _) _;have HR:=Lib.hid (show RAt (w.alloc (.cells #[.slice oa l.length cap,.int .i64 0] 145)) B oa cap b2 o2 l 0 from ⟨hblk,HS.out.below hbw,hb2,H32.out,by omega,by omega⟩);have HK1:=Lib.hid (HK.out.below hbw);have HBW:=Lib.hid hbw;clear hblk hbw HS HK;generalize w.alloc _=w1 at *;have hB1:=HR.out.blk.lt;have HM:=Lib.hid (Moved.start HR.out);have hw1:=HBW.out.size
 go_loopg [3] (l.length+2) (fun q s3 wr=>∃ (p f:Nat) (D:List Tk) (v:Value),v=s3∧Hid (Moved w1 wr B oa cap b2 o2 l p)∧Hid (wr.ownsRow w1.heap.size 85 6 v D.length (toksV D))∧Hid (D++tokG l f p=X)∧l.length≤f+p∧p≤l.length+2∧D.length≤p∧f≤q)
 case atStart=>exact⟨0,_,[],_,rfl,HM,Lib.hid (World.ownsRow_nil _ _ _ _),HX,by omega,by omega,by simp,Nat.le_refl _⟩
 case round =>
  clear HM HX;obtain⟨p,f,D,v,rfl,hM,hO,hG,hf,hp,hD,hq⟩:=hrel;have HX1:=Lib.hid (remarks_any hM.out.rd hp);have hpr:p≤remF l p:=remE_le l _ p;obtain⟨r,hr⟩:∃ r,remF l p=r:=⟨_,rfl⟩;have hx1:=HX1.out;rw[hr]at hx1 hpr;have HX1:=Lib.hid hx1;clear hx1;go_wp2_with fail
  ((with_reducible refine HX1.out.mono ?_);rintro e w2 ⟨rfl,hmv,hr2⟩)
  have HM2:=Lib.hid (hM.out.next hmv);have HO2:=Lib.hid (owns_moved hO.out hmv.gb hB1);clear hM hO hmv HX1;have hA:=at0_any HM2.out.rd;obtain⟨c,hc⟩:∃ c,aF l r=c:=⟨_,rfl⟩;rw[hc]at hA;have HA:=Lib.hid hA;clear hA;go_wp2_with fail;go_wp2_with fail
  ((with_reducible refine(HA.out).mono ?_);rintro e w' ⟨rfl,hbw⟩)
  obtain⟨m,rfl⟩:=grow_mk hbw;clear hbw;have HM3:=Lib.hid (HM2.out.grow m);have HO3:=Lib.hid (owns_grow HO2.out m);clear HM2 HO2 HA;generalize grow _ m=w3 at *
  by_cases hend:c=-1
  · subst hend
    have hDX:D=X:=by
     have h0:=hG.out
     cases f with
     | zero=>rw[tokG,List.append_nil]at h0;exact h0
     | succ f=>rw[tokG,hr,if_pos hc,List.append_nil]at h0;exact h0
    subst hDX;clear hG hc hr;go_wp2_with fail;go_ret;exact⟨_,rfl,below_far HBW.out HM3.out.gb (fun k hk=>by cases hk;omega),owns_low HO3.out hw1⟩
  · have g1:(c==-1)=false:=by simpa using hend
    have hrl:r<l.length:=aF_lt (by rw[hc];exact hend);obtain⟨f,rfl⟩:∃ f',f=f'+1:=⟨f-1,by omega⟩;have hG2:=hG.out;rw[tokG,hr,if_neg (by rw[hc];exact hend)]at hG2;have hne:=nextF_end (l:=l) (i:=r) (by rw[hc];exact hend)
    have hfig:figE l r≤r+4294967296:=by
     have h1:=figS_len (l:=l) (i:=r) (by omega);have h2:=digF_len h1.2;have h3:=figP_len h2.2;have h4:=figX_len h3.2;have:figE l r≤l.length:=h4.2;omega
    have hx:=next_any HM3.out.rd (HK1.out.grown HM3.out.gb (by simpa using hKB)) hKB (by rw[hc];exact hend) hfig;obtain⟨⟨⟨uk,ut,⟨un,ud⟩,ui,uid⟩,ue⟩,hu⟩:∃ U,nextF l r=U:=⟨_,rfl⟩;rw[hu]at hx hG2 hne;simp only[tv]at hx hne;have HX2:=Lib.hid hx;have HG2:=Lib.hid hG2;clear hx hG2 hG hu hc hr hfig hend;go_wp2_with fail
    ((with_reducible refine HX2.out.mono ?_);rintro e w4 ⟨rfl,hmv⟩)
    have HM4:=Lib.hid (HM3.out.next hmv);have HO4:=Lib.hid (owns_moved HO3.out hmv.gb hB1);have hsz4:=HM4.out.gb.size;clear hmv HM3 HO3 HX2;go_wp2_with (at_builtin;refine wpList_put elTok rfl _ _ rfl rfl HO4.out (by omega) 1 1 #[.int .i64 uk,.string ⟨ut.toArray⟩,.int .i64 un,.int .i64 ud,.bool ui,.bool uid] _ rfl rfl (by simp[Value.oneCell']) (by omega) (by omega) (by omega) ?_;intro g2 cap2 w5 hR2 hg2 hr2;have HM5:=Lib.hid (HM4.out.push HR.out hg2 hr2);have HO5:=Lib.hid hR2;clear hR2 hg2 hr2 HM4 HO4)
    go_roundg f
    case measure=>omega
    case rel=>exact⟨ue,f,D++[⟨uk,ut,(un,ud),ui,uid⟩],_,rfl,HM5,Lib.hid (by have:=HO5.out;simpa[toksV,tkcells] using this),Lib.hid (by rw[List.append_assoc];exact HG2.out),by omega,by omega,by simp;omega,Nat.le_refl _⟩
theorem decG_32:∀ (y:Int) (l:List Int),(∀ x∈l,0≤x∧x≤16777216)→∀ x∈decG y l,I32 x
 | _,[],_,x,hx=>by cases hx
 | y,z::r,h,x,hx=>by
   have hr:=decG_32 z r (fun u hu=>h u (List.mem_cons_of_mem _ hu));have hz:=h z (List.mem_cons_self ..);unfold decG at hx;split at hx
   · exact hr x hx
   · rcases List.mem_cons.1 hx with rfl|hx
     · unfold yF I32;split
       · omega
       · split<;>omega
     · exact hr x hx
theorem decodeF_32 (l:List UInt8):∀ x∈decodeF l,I32 x:=decG_32 0 _ (fun x hx=>rawF_fits _ _ _ x hx)
theorem bom_len (l:List UInt8):(bomF l).length≤l.length:=by
 rcases bom_ways l with ⟨_,hb⟩ | ⟨x0,x1,x2,r,el,⟨_,hb⟩ | ⟨_,_,hb⟩ | ⟨_,_,_,hb⟩ | ⟨_,_,_,hb⟩⟩<;>rw[hb]<;>simp
theorem decodeF_len (l:List UInt8):(decodeF l).length≤l.length:=Nat.le_trans (decG_len _ _) (Nat.le_trans (rawF_len _ _ _) (bom_len l))
set_option maxHeartbeats 4000000 in
theorem bytes_any (l:List UInt8) (oa:Option Addr) (cap b o:Nat) (w:World) (hs:Sl w oa l.length cap b o 1 (bytesV l)) (hK:Kd w) (hm:l.length≤4294967296) :
  Calls Tryz.prog 33 #[.slice oa l.length cap] w fun e w'=>(∃ v,e=.returned v∧Rw w w' 85 6 v (bytesF l).length (toksV (bytesF l))):=by
 have hd:=decode_any l oa cap b o w hs (by omega);have hln:=decodeF_len l;have h32:=decodeF_32 l;unfold bytesF;generalize decodeF l=D at *;have HD:=Lib.hid hd;have HK:=Lib.hid hK;clear hd hs hK
 go_enter Tryz.func33,Tryz.ntmps33
 go_wp2_with fail
 ((with_reducible refine HD.out.mono ?_);rintro e w2 ⟨v,rfl,hR⟩)
 obtain⟨ya,yc,yb,rfl,hsl,_⟩:=hR.sl;have hbw:=hR.below;have HT:=Lib.hid (tokens_any D ya yc yb 0 w2 hsl h32 (HK.out.below hbw) (by omega));clear hR hsl HD;go_wp2_with fail
 ((with_reducible refine HT.out.mono ?_);rintro e w3 ⟨v,rfl,hR⟩)
 go_wp2_with fail;go_ret;exact⟨_,rfl,hR.base hbw⟩
end Go.Proofs.YtnahlfaehelfjaaGreatDoor
