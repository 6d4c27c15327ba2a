/- Of my texts: TokJ, TokK, TokL. -/
import Derived.Test.YtnahlfaehelfjaaGreatDoorM10
namespace Go.Proofs.YtnahlfaehelfjaaGreatDoor
set_option linter.unusedVariables false
set_option linter.unusedSimpArgs false
open Go.RowKit
theorem blaE_le (l:List Int):∀ (f i:Nat),i≤blaE l f i
 | 0,_=>Nat.le_refl _
 | f+1,i=>by
   unfold blaE;split
   · exact Nat.le_trans (Nat.le_succ i) (blaE_le l f (i+1))
   · exact Nat.le_refl _
theorem blaE_len (l:List Int):∀ (f i:Nat),i≤l.length→blaE l f i≤l.length
 | 0,_,h=>h
 | f+1,i,h=>by
   unfold blaE;split
   · rename_i hb
     exact blaE_len l f (i+1) (blank_lt hb)
   · exact h
theorem blaF_step {l:List Int} {i:Nat} (h:blankI (aF l i)=true):i+1≤blaF l i:=by
 have hi:=blank_lt h;unfold blaF;rw[show l.length+2-i=(l.length+1-i)+1 by omega,blaE,if_pos h];exact blaE_le l _ _
theorem blaF_le (l:List Int) (i:Nat):i≤blaF l i:=blaE_le l _ _
theorem blaF_len {l:List Int} {i:Nat} (h:i≤l.length):blaF l i≤l.length:=blaE_len l _ _ h
theorem urlG_32 {l:List Int} (h:∀ x∈l,I32 x):∀ (f i:Nat) (S:List Int),(urlG l f i).1=some S→∀ x∈S,I32 x
 | 0,i,S,hs,x,hx=>by simp[urlG]at hs
 | f+1,i,S,hs,x,hx=>by
   unfold urlG at hs;split at hs
   · obtain rfl:=Option.some.inj hs
     cases hx
   · split at hs
     · split at hs
       · cases hs
       · exact urlG_32 h f _ S hs x hx
     · split at hs
       · cases hs
       · split at hs
         · split at hs
           · simp only[Option.map_eq_some_iff]at hs;obtain⟨S',h1,rfl⟩:=hs
             rcases List.mem_cons.1 hx with rfl|hx
             · exact takenF_32 h _
             · exact urlG_32 h f _ S' h1 x hx
           · cases hs
         · simp only[Option.map_eq_some_iff]at hs;obtain⟨S',h1,rfl⟩:=hs
           rcases List.mem_cons.1 hx with rfl|hx
           · exact aF_32 h _
           · exact urlG_32 h f _ S' h1 x hx
set_option maxRecDepth 20000 in
set_option maxHeartbeats 8000000 in
theorem url_any {w:World} {B:Nat} {oa:Option Addr} {cap b o:Nat} {l:List Int} {i:Nat} (h:RAt w B oa cap b o l i) (hil:i≤l.length) :
  Calls Tryz.prog 146 #[.pointer (some ⟨B,0,none⟩)] w fun e w'=>e=.returned (tv (urlF l i).1)∧Moved w w' B oa cap b o l (urlF l i).2:=by
 obtain⟨R,hR⟩:∃ R,urlG l (l.length+2-blaF l i) (blaF l i)=R:=⟨_,rfl⟩
 have hst:urlF l i=urlT R:=by rw[urlF,hR]
 rw[hst];have HG:=Lib.hid (show addO [] (urlG l (l.length+2-blaF l i) (blaF l i))=R by rw[hR];unfold addO;simp);have hS32:=urlG_32 h.rng (l.length+2-blaF l i) (blaF l i);rw[hR]at hS32;have HS32:=Lib.hid hS32;have hl:=h.len;have hB:=h.blk.lt;have HR:=Lib.hid h;have hjl:=blaF_len hil;have HBL:=Lib.hid (fun wy (hy:RAt wy B oa cap b o l i)=>blanks_any hy);obtain⟨j,hj⟩:∃ j,blaF l i=j:=⟨_,rfl⟩;have hbl:=HBL.out;rw[hj]at HG hjl hbl;have HBL:=Lib.hid hbl
 have hN0:l.length+1≤(l.length+2-j)+j:=by omega
 obtain⟨r0,hr0⟩:∃ r0,w.heap.size=r0:=⟨_,rfl⟩
 have hBr:B<r0:=by omega
 clear hst hR hS32 h hj hbl
 go_enter Tryz.func146,Tryz.ntmps146
 go_upto_region 1 with fail
 have HR1:=Lib.hid (HR.out.old (.cells #[.int .i64 0,.string ⟨#[]⟩,.int .i64 0,.int .i64 0,.bool false,.bool false] 85));have hT:=Blk.new w 85 #[.int .i64 0,.string ⟨#[]⟩,.int .i64 0,.int .i64 0,.bool false,.bool false];have HW:=Lib.hid ((Moved.start HR.out).alloc (.cells #[.int .i64 0,.string ⟨#[]⟩,.int .i64 0,.int .i64 0,.bool false,.bool false] 85));rw[hr0]at hT;have HT:=Lib.hid hT;have hB1:=HR1.out.blk.lt;clear hT;generalize w.alloc _=w1 at *;go_wp2_with fail
 ((with_reducible refine(HBL.out _ HR1.out).mono ?_);rintro e w2 ⟨rfl,hmv⟩)
 have HM:=Lib.hid hmv;clear hmv HBL;go_wp2_with fail
 go_loopg [3] (l.length+2-j) (fun q s3 wr=>∃ (p f:Nat) (D:List Int) (v:Value),v=s3∧Hid (Moved w1 wr B oa cap b o l p)∧Hid (wr.ownsRow w1.heap.size 21 1 v D.length (runesV D))∧Hid (addO D (urlG l f p)=R)∧l.length+1≤f+p∧p≤l.length∧D.length≤p∧f≤q)
 case atStart=>exact⟨j,_,[],_,rfl,HM,Lib.hid (World.ownsRow_nil _ _ _ _),HG,hN0,hjl,by simp,Nat.le_refl _⟩
 case round =>
  clear HM HG hN0;obtain⟨p,f,D,v,rfl,hM,hO,hG,hf,hp,hD,hq⟩:=hrel;obtain⟨f,rfl⟩:∃ f',f=f'+1:=⟨f-1,by omega⟩;have hws:=hM.out.gb.size;have hA0:=at0_any hM.out.rd;have hG2:=hG.out;rw[urlG]at hG2;have hir:=@aF_lt l p;have hst:=@blaF_step l p;have hlt:=@blaF_le l p;have hln:=blaF_len hp;obtain⟨c,hc⟩:∃ c,aF l p=c:=⟨_,rfl⟩;rw[hc]at hA0 hG2 hir hst
  have hbl:=fun w=>blank_any c w
  have HA:=Lib.hid hA0;clear hA0 hc hG;go_wp2_with fail
  ((with_reducible refine(HA.out).mono ?_);rintro e w' ⟨rfl,hbw⟩)
  obtain⟨m,rfl⟩:=grow_mk hbw;clear hbw;have HM1:=Lib.hid (hM.out.grow m);have HO1:=Lib.hid (owns_grow hO.out m);have hws1:=grow_size m;clear hM hO HA;generalize grow _ m=wx at *;have hblk:=HM1.out.rd.blk
  by_cases hend:c=-1∨c=41
  · rw[if_pos hend]at hG2
    have hG3:R=(some D,p+1):=by rw[← hG2];simp[addO]
    subst hG3
    have hset:Moved w1 (wx.setCell ⟨B,1,none⟩ (.int .i64 ((p:Int)+1))) B oa cap b o l (p+1):=by have:=HM1.out.set (j:=p+1) (by omega);simpa using this
    have HS:=Lib.hid hset;have HO3:=Lib.hid (ownsRow_setCell_below HO1.out (a:=⟨B,1,none⟩) hB1 (.int .i64 ((p:Int)+1)));have cr0:wx.cell? ⟨B,0,none⟩=some (.slice oa l.length cap):=(hblk).cell 0;have fcr0:=(hblk).frozen 0;have cr1:wx.cell? ⟨B,1,none⟩=some (.int .i64 (p:Int)):=(hblk).cell 1;have fcr1:=(hblk).frozen 1;have lcr:=(hblk).lt;have hD32:=HS32.out D rfl;obtain⟨va,vc,vb,rfl,hsl,_⟩:=sl_of_own HO3.out;have HTX:=Lib.hid (text_of D va vc vb 0 _ hsl hD32 (by omega));have hTb2:Blk (wx.setCell ⟨B,1,none⟩ (.int .i64 ((p:Int)+1))) r0 85 #[.int .i64 0,.string ⟨#[]⟩,.int .i64 0,.int .i64 0,.bool false,.bool false]:=HT.out.mvd HS.out (by omega);clear hblk hset HM1 HO1 HO3 hsl hG2 HS32 hD32 hir hbl hst hlt hln;have hlt2:=hTb2.lt
    rcases hend with rfl|rfl
    all_goals
     go_wp2_with fail;go_wp2_with fail
     ((with_reducible refine(HTX.out).mono ?_);rintro e w' ⟨rfl,hbw⟩)
     obtain⟨m3,rfl⟩:=grow_mk hbw;clear hbw;have hTb3:=hTb2.grow m3;have HM5:=Lib.hid (HS.out.grow m3);clear hTb2 HS HTX cr0 cr1 fcr0 fcr1 lcr hlt2;generalize grow _ m3=wz at *;have ct0:wz.cell? ⟨r0,0,none⟩=some (.int .i64 0):=(hTb3).cell 0;have fct0:=(hTb3).frozen 0;have ct1:wz.cell? ⟨r0,1,none⟩=some (.string ⟨#[]⟩):=(hTb3).cell 1;have fct1:=(hTb3).frozen 1;have ct2:wz.cell? ⟨r0,2,none⟩=some (.int .i64 0):=(hTb3).cell 2;have fct2:=(hTb3).frozen 2;have ct3:wz.cell? ⟨r0,3,none⟩=some (.int .i64 0):=(hTb3).cell 3;have fct3:=(hTb3).frozen 3;have ct4:wz.cell? ⟨r0,4,none⟩=some (.bool false):=(hTb3).cell 4;have fct4:=(hTb3).frozen 4;have ct5:wz.cell? ⟨r0,5,none⟩=some (.bool false):=(hTb3).cell 5;have fct5:=(hTb3).frozen 5;have lct:=(hTb3).lt;clear hTb3;go_wp2_with fail
     exact bodyPost_ret (v:=tv (tok0 7 (encF D))) (by simp[results,Tryz.results146,go_sem,ct0,ct1,ct2,ct3,ct4,ct5,lct,tv,tok0]) rfl ⟨by rfl,by
      have h0:=HW.out.next HM5.out;show Moved w _ B oa cap b o l (p+1)
      repeat (first|with_reducible exact h0 | (with_reducible refine Moved.far ?_ HR.out _ _ ?hq;case hq=>(show w.heap.size≤r0;omega)))⟩
  · rw[if_neg hend]at hG2
    have hc1:c≠-1:=fun e=>hend (Or.inl e)
    have hp1:=hir hc1
    have g1:(c==-1)=false:=by simpa using hc1
    have g41:(c==41)=false:=by rw[beq_eq_false_iff_ne];exact fun e=>hend (Or.inr e)
    cases hbc:blankI c with
    | true =>
      rw[if_pos hbc]at hG2;rw[hbc]at hbl;have hst2:=hst hbc;have HB:=Lib.hid hbl;have HBK:=Lib.hid (blanks_any HM1.out.rd);have hbk:=HBK.out;obtain⟨p2,hp2⟩:∃ p2,blaF l p=p2:=⟨_,rfl⟩;rw[hp2]at hG2 hst2 hln hlt hbk;have HBK:=Lib.hid hbk;clear hbk hbl hbc hst hp2 hblk hir;go_wp2_with fail;go_wp2_with fail
      ((with_reducible refine(HB.out _).mono ?_);rintro e w' ⟨rfl,rfl⟩)
      go_wp2_with fail
      ((with_reducible refine HBK.out.mono ?_);rintro e w2 ⟨rfl,hmv⟩)
      have HM2:=Lib.hid (HM1.out.next hmv);have HO2:=Lib.hid (owns_moved HO1.out hmv.gb hB1);clear hmv HBK HM1 HO1 HB;have hA2:=at0_any HM2.out.rd;obtain⟨c2,hc2⟩:∃ c2,aF l p2=c2:=⟨_,rfl⟩;rw[hc2]at hA2 hG2;have HA2:=Lib.hid hA2;clear hA2 hc2;go_wp2_with fail;go_wp2_with fail
      ((with_reducible refine(HA2.out).mono ?_);rintro e w' ⟨rfl,hbw⟩)
      obtain⟨m2,rfl⟩:=grow_mk hbw;clear hbw;have HM3:=Lib.hid (HM2.out.grow m2);have HO3:=Lib.hid (owns_grow HO2.out m2);clear HM2 HO2 HA2;generalize grow _ m2=wy at *
      by_cases hbad:c2≠-1∧c2≠41
      · rw[if_pos hbad]at hG2
        have hG3:R=(none,rest3F l p2):=by rw[← hG2];simp[addO]
        subst hG3
        have k1:(c2 != -1)=true:=by simpa using hbad.1
        have k2:(c2 != 41)=true:=by simpa using hbad.2
        clear hbad hG2;have HRS:=Lib.hid (rest_any HM3.out.rd (by omega));simp only[tv,tok0]at HRS;clear HS32;go_wp2_with fail
        ((with_reducible refine HRS.out.mono ?_);rintro e w2 ⟨rfl,hmv⟩)
        have HM9:=Lib.hid (HM3.out.next hmv);have hTb9:=HT.out.mvd HM9.out (by omega);clear hmv HRS;have ct0:w2.cell? ⟨r0,0,none⟩=some (.int .i64 0):=(hTb9).cell 0;have fct0:=(hTb9).frozen 0;have ct1:w2.cell? ⟨r0,1,none⟩=some (.string ⟨#[]⟩):=(hTb9).cell 1;have fct1:=(hTb9).frozen 1;have ct2:w2.cell? ⟨r0,2,none⟩=some (.int .i64 0):=(hTb9).cell 2;have fct2:=(hTb9).frozen 2;have ct3:w2.cell? ⟨r0,3,none⟩=some (.int .i64 0):=(hTb9).cell 3;have fct3:=(hTb9).frozen 3;have ct4:w2.cell? ⟨r0,4,none⟩=some (.bool false):=(hTb9).cell 4;have fct4:=(hTb9).frozen 4;have ct5:w2.cell? ⟨r0,5,none⟩=some (.bool false):=(hTb9).cell 5;have fct5:=(hTb9).frozen 5;have lct:=(hTb9).lt;clear hTb9;go_wp2_with fail
        exact bodyPost_ret (v:=tv (tok0 8 [])) (by simp[results,Tryz.results146,go_sem,ct0,ct1,ct2,ct3,ct4,ct5,lct,tv,tok0]) rfl ⟨by rfl,by
         have h0:=HW.out.next HM9.out;show Moved w _ B oa cap b o l (rest3F l p2)
         repeat (first|with_reducible exact h0 | (with_reducible refine Moved.far ?_ HR.out _ _ ?hq;case hq=>(show w.heap.size≤r0;omega)))⟩
      · rw[if_neg hbad]at hG2;have HG2:=Lib.hid hG2
        have ways:(c2 != -1)=false∨(c2 != -1)=true∧(c2 != 41)=false:=by
         by_cases h0:c2=-1
         · exact Or.inl (by simp[h0])
         · exact Or.inr ⟨by simpa using h0,by rw[bne_eq_false_iff_eq];exact Classical.byContradiction fun e=>hbad ⟨h0,e⟩⟩
        clear hG2 hbad
        rcases ways with k1 | ⟨k1,k2⟩
        all_goals
         go_wp2_with fail
         go_roundg f
         case measure=>omega
         case rel=>exact⟨p2,f,D,_,rfl,HM3,HO3,HG2,by omega,hln,by omega,Nat.le_refl _⟩
    | false =>
      rw[if_neg (by rw[hbc];simp)]at hG2;rw[hbc]at hbl;have HB:=Lib.hid hbl
      have hhid:=fun w=>hidden_any c w
      obtain⟨hh,hhe⟩:∃ hh,hiddenI c=hh:=⟨_,rfl⟩;rw[hhe]at hhid hG2;have HH:=Lib.hid hhid;clear hbl hbc hst hir hlt hln hhid
      by_cases h3:c=34∨c=39∨c=40∨hh=true
      · rw[if_pos h3]at hG2
        have hG3:R=(none,rest3F l p):=by rw[← hG2];simp[addO]
        subst hG3
        have ways:(c==34)=true∨(c==34)=false∧(c==39)=true∨(c==34)=false∧(c==39)=false∧(c==40)=true∨(c==34)=false∧(c==39)=false∧(c==40)=false∧hh=true:=by
         by_cases e1:c=34
         · exact Or.inl (by simpa using e1)
         by_cases e2:c=39
         · exact Or.inr (Or.inl ⟨by simpa using e1,by simpa using e2⟩)
         by_cases e3:c=40
         · exact Or.inr (Or.inr (Or.inl ⟨by simpa using e1,by simpa using e2,by simpa using e3⟩))
         · exact Or.inr (Or.inr (Or.inr ⟨by simpa using e1,by simpa using e2,by simpa using e3,by rcases h3 with h|h|h|h;exact absurd h e1;exact absurd h e2;exact absurd h e3;exact h⟩))
        clear hG2 h3 hhe hblk
        rcases ways with k1 | ⟨k1,k2⟩ | ⟨k1,k2,k3⟩ | ⟨k1,k2,k3,rfl⟩
        · go_wp2_with fail;go_wp2_with fail
          ((with_reducible refine(HB.out _).mono ?_);rintro e w' ⟨rfl,rfl⟩)
          have HRS:=Lib.hid (rest_any HM1.out.rd (by omega));simp only[tv,tok0]at HRS;clear HS32;go_wp2_with fail
          ((with_reducible refine HRS.out.mono ?_);rintro e w2 ⟨rfl,hmv⟩)
          have HM9:=Lib.hid (HM1.out.next hmv);have hTb9:=HT.out.mvd HM9.out (by omega);clear hmv HRS;have ct0:w2.cell? ⟨r0,0,none⟩=some (.int .i64 0):=(hTb9).cell 0;have fct0:=(hTb9).frozen 0;have ct1:w2.cell? ⟨r0,1,none⟩=some (.string ⟨#[]⟩):=(hTb9).cell 1;have fct1:=(hTb9).frozen 1;have ct2:w2.cell? ⟨r0,2,none⟩=some (.int .i64 0):=(hTb9).cell 2;have fct2:=(hTb9).frozen 2;have ct3:w2.cell? ⟨r0,3,none⟩=some (.int .i64 0):=(hTb9).cell 3;have fct3:=(hTb9).frozen 3;have ct4:w2.cell? ⟨r0,4,none⟩=some (.bool false):=(hTb9).cell 4;have fct4:=(hTb9).frozen 4;have ct5:w2.cell? ⟨r0,5,none⟩=some (.bool false):=(hTb9).cell 5;have fct5:=(hTb9).frozen 5;have lct:=(hTb9).lt;clear hTb9;go_wp2_with fail
          exact bodyPost_ret (v:=tv (tok0 8 [])) (by simp[results,Tryz.results146,go_sem,ct0,ct1,ct2,ct3,ct4,ct5,lct,tv,tok0]) rfl ⟨by rfl,by
           have h0:=HW.out.next HM9.out;show Moved w _ B oa cap b o l (rest3F l p)
           repeat (first|with_reducible exact h0 | (with_reducible refine Moved.far ?_ HR.out _ _ ?hq;case hq=>(show w.heap.size≤r0;omega)))⟩
        · go_wp2_with fail;go_wp2_with fail
          ((with_reducible refine(HB.out _).mono ?_);rintro e w' ⟨rfl,rfl⟩)
          have HRS:=Lib.hid (rest_any HM1.out.rd (by omega));simp only[tv,tok0]at HRS;clear HS32;go_wp2_with fail
          ((with_reducible refine HRS.out.mono ?_);rintro e w2 ⟨rfl,hmv⟩)
          have HM9:=Lib.hid (HM1.out.next hmv);have hTb9:=HT.out.mvd HM9.out (by omega);clear hmv HRS;have ct0:w2.cell? ⟨r0,0,none⟩=some (.int .i64 0):=(hTb9).cell 0;have fct0:=(hTb9).frozen 0;have ct1:w2.cell? ⟨r0,1,none⟩=some (.string ⟨#[]⟩):=(hTb9).cell 1;have fct1:=(hTb9).frozen 1;have ct2:w2.cell? ⟨r0,2,none⟩=some (.int .i64 0):=(hTb9).cell 2;have fct2:=(hTb9).frozen 2;have ct3:w2.cell? ⟨r0,3,none⟩=some (.int .i64 0):=(hTb9).cell 3;have fct3:=(hTb9).frozen 3;have ct4:w2.cell? ⟨r0,4,none⟩=some (.bool false):=(hTb9).cell 4;have fct4:=(hTb9).frozen 4;have ct5:w2.cell? ⟨r0,5,none⟩=some (.bool false):=(hTb9).cell 5;have fct5:=(hTb9).frozen 5;have lct:=(hTb9).lt;clear hTb9;go_wp2_with fail
          exact bodyPost_ret (v:=tv (tok0 8 [])) (by simp[results,Tryz.results146,go_sem,ct0,ct1,ct2,ct3,ct4,ct5,lct,tv,tok0]) rfl ⟨by rfl,by
           have h0:=HW.out.next HM9.out;show Moved w _ B oa cap b o l (rest3F l p)
           repeat (first|with_reducible exact h0 | (with_reducible refine Moved.far ?_ HR.out _ _ ?hq;case hq=>(show w.heap.size≤r0;omega)))⟩
        · go_wp2_with fail;go_wp2_with fail
          ((with_reducible refine(HB.out _).mono ?_);rintro e w' ⟨rfl,rfl⟩)
          have HRS:=Lib.hid (rest_any HM1.out.rd (by omega));simp only[tv,tok0]at HRS;clear HS32;go_wp2_with fail
          ((with_reducible refine HRS.out.mono ?_);rintro e w2 ⟨rfl,hmv⟩)
          have HM9:=Lib.hid (HM1.out.next hmv);have hTb9:=HT.out.mvd HM9.out (by omega);clear hmv HRS;have ct0:w2.cell? ⟨r0,0,none⟩=some (.int .i64 0):=(hTb9).cell 0;have fct0:=(hTb9).frozen 0;have ct1:w2.cell? ⟨r0,1,none⟩=some (.string ⟨#[]⟩):=(hTb9).cell 1;have fct1:=(hTb9).frozen 1;have ct2:w2.cell? ⟨r0,2,none⟩=some (.int .i64 0):=(hTb9).cell 2;have fct2:=(hTb9).frozen 2;have ct3:w2.cell? ⟨r0,3,none⟩=some (.int .i64 0):=(hTb9).cell 3;have fct3:=(hTb9).frozen 3;have ct4:w2.cell? ⟨r0,4,none⟩=some (.bool false):=(hTb9).cell 4;have fct4:=(hTb9).frozen 4;have ct5:w2.cell? ⟨r0,5,none⟩=some (.bool false):=(hTb9).cell 5;have fct5:=(hTb9).frozen 5;have lct:=(hTb9).lt;clear hTb9;go_wp2_with fail
          exact bodyPost_ret (v:=tv (tok0 8 [])) (by simp[results,Tryz.results146,go_sem,ct0,ct1,ct2,ct3,ct4,ct5,lct,tv,tok0]) rfl ⟨by rfl,by
           have h0:=HW.out.next HM9.out;show Moved w _ B oa cap b o l (rest3F l p)
           repeat (first|with_reducible exact h0 | (with_reducible refine Moved.far ?_ HR.out _ _ ?hq;case hq=>(show w.heap.size≤r0;omega)))⟩
        · go_wp2_with fail;go_wp2_with fail
          ((with_reducible refine(HB.out _).mono ?_);rintro e w' ⟨rfl,rfl⟩)
          go_wp2_with fail;go_wp2_with fail
          ((with_reducible refine(HH.out _).mono ?_);rintro e w' ⟨rfl,rfl⟩)
          have HRS:=Lib.hid (rest_any HM1.out.rd (by omega));simp only[tv,tok0]at HRS;clear HS32;go_wp2_with fail
          ((with_reducible refine HRS.out.mono ?_);rintro e w2 ⟨rfl,hmv⟩)
          have HM9:=Lib.hid (HM1.out.next hmv);have hTb9:=HT.out.mvd HM9.out (by omega);clear hmv HRS;have ct0:w2.cell? ⟨r0,0,none⟩=some (.int .i64 0):=(hTb9).cell 0;have fct0:=(hTb9).frozen 0;have ct1:w2.cell? ⟨r0,1,none⟩=some (.string ⟨#[]⟩):=(hTb9).cell 1;have fct1:=(hTb9).frozen 1;have ct2:w2.cell? ⟨r0,2,none⟩=some (.int .i64 0):=(hTb9).cell 2;have fct2:=(hTb9).frozen 2;have ct3:w2.cell? ⟨r0,3,none⟩=some (.int .i64 0):=(hTb9).cell 3;have fct3:=(hTb9).frozen 3;have ct4:w2.cell? ⟨r0,4,none⟩=some (.bool false):=(hTb9).cell 4;have fct4:=(hTb9).frozen 4;have ct5:w2.cell? ⟨r0,5,none⟩=some (.bool false):=(hTb9).cell 5;have fct5:=(hTb9).frozen 5;have lct:=(hTb9).lt;clear hTb9;go_wp2_with fail
          exact bodyPost_ret (v:=tv (tok0 8 [])) (by simp[results,Tryz.results146,go_sem,ct0,ct1,ct2,ct3,ct4,ct5,lct,tv,tok0]) rfl ⟨by rfl,by
           have h0:=HW.out.next HM9.out;show Moved w _ B oa cap b o l (rest3F l p)
           repeat (first|with_reducible exact h0 | (with_reducible refine Moved.far ?_ HR.out _ _ ?hq;case hq=>(show w.heap.size≤r0;omega)))⟩
      · rw[if_neg h3]at hG2
        have k1:(c==34)=false:=by rw[beq_eq_false_iff_ne];exact fun e=>h3 (Or.inl e)
        have k2:(c==39)=false:=by rw[beq_eq_false_iff_ne];exact fun e=>h3 (Or.inr (Or.inl e))
        have k3:(c==40)=false:=by rw[beq_eq_false_iff_ne];exact fun e=>h3 (Or.inr (Or.inr (Or.inl e)))
        obtain rfl:hh=false:=by
         cases hh with
         | false=>rfl
         | true=>exact absurd (Or.inr (Or.inr (Or.inr rfl))) h3
        clear h3 hhe
        by_cases h92:c=92
        · subst h92;rw[if_pos rfl]at hG2
          have hesc:=fun w=>esc_any 92 (aF l (p+1)) w
          have HA1:=Lib.hid (at1_any HM1.out.rd);have hTl:=takenF_len (l:=l) (i:=p+1) (by omega);have hTg:=takenF_le l (p+1)
          cases hes:escI 92 (aF l (p+1)) with
          | true =>
            rw[if_pos hes]at hG2;rw[hes]at hesc
            have htk:=fun wy (hy:RAt wy B oa cap b o l (p+1))=>taken_any hy
            have hx32:=takenF_32 HR.out.rng (p+1);obtain⟨⟨x,q2⟩,hx⟩:∃ T,takenF l (p+1)=T:=⟨_,rfl⟩;rw[hx]at hG2 hTl hTg htk hx32;simp only at hG2 hTl hTg htk hx32
            have hG3:addO (D++[x]) (urlG l f q2)=R:=by rw[addO_cons];exact hG2
            have HG2:=Lib.hid hG3;have HTK:=Lib.hid htk;have HE:=Lib.hid hesc;unfold I32 at hx32;clear hG2 hG3 htk hx hesc hes hblk;generalize aF l (p+1)=c1 at *;go_wp2_with fail;go_wp2_with fail
            ((with_reducible refine(HB.out _).mono ?_);rintro e w' ⟨rfl,rfl⟩)
            go_wp2_with fail;go_wp2_with fail
            ((with_reducible refine(HH.out _).mono ?_);rintro e w' ⟨rfl,rfl⟩)
            go_wp2_with fail;go_wp2_with fail
            ((with_reducible refine(HA1.out).mono ?_);rintro e w' ⟨rfl,hbw⟩)
            obtain⟨m3,rfl⟩:=grow_mk hbw;clear hbw;go_wp2_with fail
            ((with_reducible refine(HE.out _).mono ?_);rintro e w' ⟨rfl,rfl⟩)
            have HM3:=Lib.hid (HM1.out.grow m3);have HO3:=Lib.hid (owns_grow HO1.out m3);have hws3:=grow_size m3;clear HM1 HO1 HA1 HE HB HH;generalize grow _ m3=wz at *
            have hset:Moved w1 (wz.setCell ⟨B,1,none⟩ (.int .i64 ((p:Int)+1))) B oa cap b o l (p+1):=by have:=HM3.out.set (j:=p+1) (by omega);simpa using this
            have HS:=Lib.hid hset;have HO4:=Lib.hid (ownsRow_setCell_below HO3.out (a:=⟨B,1,none⟩) hB1 (.int .i64 ((p:Int)+1)));have hblk:=HM3.out.rd.blk;have cr0:wz.cell? ⟨B,0,none⟩=some (.slice oa l.length cap):=(hblk).cell 0;have fcr0:=(hblk).frozen 0;have cr1:wz.cell? ⟨B,1,none⟩=some (.int .i64 (p:Int)):=(hblk).cell 1;have fcr1:=(hblk).frozen 1;have lcr:=(hblk).lt;clear hblk hset HM3 HO3;go_wp2_with fail
            ((with_reducible refine(HTK.out _ HS.out.rd).mono ?_);rintro e w2 ⟨rfl,hmv⟩)
            have HM4:=Lib.hid (HS.out.next hmv);have HO5:=Lib.hid (owns_moved HO4.out hmv.gb hB1);have hsz4:=HM4.out.gb.size;clear hmv HS HO4 HTK cr0 cr1 fcr0 fcr1 lcr;go_wp2_with (at_builtin;refine wpList_put elRune rfl _ _ rfl rfl HO5.out (by omega) 1 1 #[.int .i32 x] _ rfl rfl (by simp[Value.oneCell']) (by omega) (by omega) (by omega) ?_;intro g2 cap2 w3 hR2 hg2 hr2;have HM5:=Lib.hid (HM4.out.push HR1.out hg2 hr2);have HO6:=Lib.hid hR2;clear hR2 hg2 hr2 HM4 HO5)
            go_roundg f
            case measure=>omega
            case rel=>exact⟨q2,f,D++[x],_,rfl,HM5,Lib.hid (by have:=HO6.out;simpa[runesV] using this),HG2,by omega,by omega,by simp;omega,Nat.le_refl _⟩
          | false =>
            rw[if_neg (by rw[hes];simp)]at hG2;rw[hes]at hesc
            have hG3:R=(none,rest3F l p):=by rw[← hG2];simp[addO]
            subst hG3;have HE:=Lib.hid hesc;clear hG2 hesc hes hblk hTl hTg;generalize aF l (p+1)=c1 at *;go_wp2_with fail;go_wp2_with fail
            ((with_reducible refine(HB.out _).mono ?_);rintro e w' ⟨rfl,rfl⟩)
            go_wp2_with fail;go_wp2_with fail
            ((with_reducible refine(HH.out _).mono ?_);rintro e w' ⟨rfl,rfl⟩)
            go_wp2_with fail;go_wp2_with fail
            ((with_reducible refine(HA1.out).mono ?_);rintro e w' ⟨rfl,hbw⟩)
            obtain⟨m3,rfl⟩:=grow_mk hbw;clear hbw;go_wp2_with fail
            ((with_reducible refine(HE.out _).mono ?_);rintro e w' ⟨rfl,rfl⟩)
            have HM3:=Lib.hid (HM1.out.grow m3);clear HM1 HO1 HA1 HE HB HH;generalize grow _ m3=wz at *;have HRS:=Lib.hid (rest_any HM3.out.rd (by omega));simp only[tv,tok0]at HRS;clear HS32;go_wp2_with fail
            ((with_reducible refine HRS.out.mono ?_);rintro e w2 ⟨rfl,hmv⟩)
            have HM9:=Lib.hid (HM3.out.next hmv);have hTb9:=HT.out.mvd HM9.out (by omega);clear hmv HRS;have ct0:w2.cell? ⟨r0,0,none⟩=some (.int .i64 0):=(hTb9).cell 0;have fct0:=(hTb9).frozen 0;have ct1:w2.cell? ⟨r0,1,none⟩=some (.string ⟨#[]⟩):=(hTb9).cell 1;have fct1:=(hTb9).frozen 1;have ct2:w2.cell? ⟨r0,2,none⟩=some (.int .i64 0):=(hTb9).cell 2;have fct2:=(hTb9).frozen 2;have ct3:w2.cell? ⟨r0,3,none⟩=some (.int .i64 0):=(hTb9).cell 3;have fct3:=(hTb9).frozen 3;have ct4:w2.cell? ⟨r0,4,none⟩=some (.bool false):=(hTb9).cell 4;have fct4:=(hTb9).frozen 4;have ct5:w2.cell? ⟨r0,5,none⟩=some (.bool false):=(hTb9).cell 5;have fct5:=(hTb9).frozen 5;have lct:=(hTb9).lt;clear hTb9;go_wp2_with fail
            exact bodyPost_ret (v:=tv (tok0 8 [])) (by simp[results,Tryz.results146,go_sem,ct0,ct1,ct2,ct3,ct4,ct5,lct,tv,tok0]) rfl ⟨by rfl,by
             have h0:=HW.out.next HM9.out;show Moved w _ B oa cap b o l (rest3F l p)
             repeat (first|with_reducible exact h0 | (with_reducible refine Moved.far ?_ HR.out _ _ ?hq;case hq=>(show w.heap.size≤r0;omega)))⟩
        · have g92:(c==92)=false:=by simpa using h92
          rw[if_neg h92,← addO_cons]at hG2;have HG2:=Lib.hid hG2;have hx32:=aF_32 HR.out.rng p;clear hG2 h92 hblk;go_wp2_with fail;go_wp2_with fail
          ((with_reducible refine(HB.out _).mono ?_);rintro e w' ⟨rfl,rfl⟩)
          go_wp2_with fail;go_wp2_with fail
          ((with_reducible refine(HH.out _).mono ?_);rintro e w' ⟨rfl,rfl⟩)
          go_wp2_with (at_builtin;refine wpList_put elRune rfl _ _ rfl rfl HO1.out (by omega) 1 1 #[.int .i32 c] _ rfl rfl (by simp[Value.oneCell']) (by omega) (by omega) (by omega) ?_;intro g2 cap2 w3 hR2 hg2 hr2;have HM5:=Lib.hid (HM1.out.push HR1.out hg2 hr2);have HO6:=Lib.hid hR2;have hblk:=HM5.out.rd.blk;have cr0:=hblk.cell 0;have cr1:=hblk.cell 1;have fr1:=hblk.frozen 1;have lcr:=hblk.lt;clear hR2 hg2 hr2 HM1 HO1 hblk)
          go_roundg f
          case measure=>omega
          case rel=>exact⟨p+1,f,D++[c],_,rfl,Lib.hid (by have:=HM5.out.set (j:=p+1) (by omega);simpa using this),Lib.hid (by have:=ownsRow_setCell_below HO6.out (a:=⟨B,1,none⟩) hB1 (.int .i64 ((p:Int)+1));simpa[runesV] using this),HG2,by omega,by omega,by simp;omega,Nat.le_refl _⟩
theorem nameG_len (l:List Int):∀ (f i:Nat),(nameG l f i).1.length≤f
 | 0,_=>Nat.le_refl _
 | f+1,i=>by
   unfold nameG;split
   · have:=nameG_len l f (i+1);simp only[List.length_cons];omega
   · split
     · have:=nameG_len l f (takenF l (i+1)).2;simp only[List.length_cons];omega
     · simp
theorem nameG_end (l:List Int):∀ (f i:Nat),i≤l.length→i≤(nameG l f i).2∧(nameG l f i).2≤l.length
 | 0,_,h=>⟨Nat.le_refl _,h⟩
 | f+1,i,h=>by
   unfold nameG;split
   · rename_i h1
     have:=nameG_end l f (i+1) (letter_lt h1);exact⟨by omega,this.2⟩
   · split
     · rename_i h1
       have h2:i<l.length:=aF_lt (by rw[esc_92 h1];decide);have h3:=takenF_le l (i+1);have:=nameG_end l f (takenF l (i+1)).2 (takenF_len h2);exact⟨by omega,this.2⟩
     · exact⟨Nat.le_refl _,h⟩
theorem nameF_end {l:List Int} {i:Nat} (h:i≤l.length):i≤(nameF l i).2∧(nameF l i).2≤l.length:=nameG_end l _ i h
theorem nameF_len (l:List Int) (i:Nat):(nameF l i).1.length≤4*(l.length+2):=by
 have h1:=encF_len (nameG l (l.length+2-i) i).1;have h2:=nameG_len l (l.length+2-i) i;show (encF _).length≤_;omega
theorem twoE_len (l:List Int):∀ (f i:Nat),i≤l.length→twoE l f i≤l.length
 | 0,_,h=>h
 | f+1,i,h=>by
   unfold twoE;split
   · rename_i hb
     exact twoE_len l f (i+1) (blank_lt hb.1)
   · exact h
theorem twoE_le (l:List Int):∀ (f i:Nat),i≤twoE l f i
 | 0,_=>Nat.le_refl _
 | f+1,i=>by
   unfold twoE;split
   · exact Nat.le_trans (Nat.le_succ i) (twoE_le l f (i+1))
   · exact Nat.le_refl _
set_option maxRecDepth 20000 in
set_option maxHeartbeats 8000000 in
theorem word_any {w:World} {B:Nat} {oa:Option Addr} {cap b o:Nat} {l:List Int} {i:Nat} (h:RAt w B oa cap b o l i) (hil:i≤l.length) :
  Calls Tryz.prog 109 #[.pointer (some ⟨B,0,none⟩)] w fun e w'=>e=.returned (tv (wordF l i).1)∧Moved w w' B oa cap b o l (wordF l i).2:=by
 have hl:=h.len;have hB:=h.blk.lt;have HR:=Lib.hid h;have hne:=nameF_end hil;have hnl:=nameF_len l i
 have hnm:=fun wy (hy:RAt wy B oa cap b o l i)=>name_any hy
 obtain⟨R,hR⟩:∃ R,wordF l i=R:=⟨_,rfl⟩;rw[hR];unfold wordF at hR;obtain⟨⟨s,j⟩,hs⟩:∃ S,nameF l i=S:=⟨_,rfl⟩;rw[hs]at hR hne hnl hnm;simp only at hR hne hnl hnm;unfold wordT at hR
 have hlk:=fun w=>like_any s [117,114,108] w (by omega) (by decide)
 have HNM:=Lib.hid hnm;have HG:=Lib.hid hR;have HLK:=Lib.hid hlk;obtain⟨r0,hr0⟩:∃ r0,w.heap.size=r0:=⟨_,rfl⟩
 have hBr:B<r0:=by omega
 clear h hs hnm hR hlk
 go_enter Tryz.func109,Tryz.ntmps109
 go_upto_region 1 with fail
 have HR1:=Lib.hid (HR.out.old (.cells #[.int .i64 0,.string ⟨#[]⟩,.int .i64 0,.int .i64 0,.bool false,.bool false] 85));have hT:=Blk.new w 85 #[.int .i64 0,.string ⟨#[]⟩,.int .i64 0,.int .i64 0,.bool false,.bool false];have HW:=Lib.hid ((Moved.start HR.out).alloc (.cells #[.int .i64 0,.string ⟨#[]⟩,.int .i64 0,.int .i64 0,.bool false,.bool false] 85));rw[hr0]at hT;have HT:=Lib.hid hT;clear hT;generalize w.alloc _=w1 at *;go_wp2_with fail
 ((with_reducible refine(HNM.out _ HR1.out).mono ?_);rintro e w2 ⟨rfl,hmv⟩)
 have HM:=Lib.hid hmv;clear hmv HNM;have hA:=at0_any HM.out.rd;have hG:=HG.out;obtain⟨c,hc⟩:∃ c,aF l j=c:=⟨_,rfl⟩;have hir:=@aF_lt l j;rw[hc]at hA hG hir;have HA:=Lib.hid hA;clear hA hc HG;go_wp2_with fail;go_wp2_with fail
 ((with_reducible refine(HA.out).mono ?_);rintro e w' ⟨rfl,hbw⟩)
 obtain⟨m,rfl⟩:=grow_mk hbw;clear hbw;have HM1:=Lib.hid (HM.out.grow m);clear HM HA;generalize grow _ m=wx at *
 by_cases h40:c≠40
 · rw[if_pos h40]at hG
   have g40:(c != 40)=true:=by simpa using h40
   have HG:=Lib.hid hG;have hTb:=HT.out.mvd HM1.out (by omega);have ct0:wx.cell? ⟨r0,0,none⟩=some (.int .i64 0):=(hTb).cell 0;have fct0:=(hTb).frozen 0;have ct1:wx.cell? ⟨r0,1,none⟩=some (.string ⟨#[]⟩):=(hTb).cell 1;have fct1:=(hTb).frozen 1;have ct2:wx.cell? ⟨r0,2,none⟩=some (.int .i64 0):=(hTb).cell 2;have fct2:=(hTb).frozen 2;have ct3:wx.cell? ⟨r0,3,none⟩=some (.int .i64 0):=(hTb).cell 3;have fct3:=(hTb).frozen 3;have ct4:wx.cell? ⟨r0,4,none⟩=some (.bool false):=(hTb).cell 4;have fct4:=(hTb).frozen 4;have ct5:wx.cell? ⟨r0,5,none⟩=some (.bool false):=(hTb).cell 5;have fct5:=(hTb).frozen 5;have lct:=(hTb).lt;clear hG h40 hTb hir HLK;go_wp2_with fail
   exact bodyPost_ret (v:=tv (tok0 1 s)) (by simp[results,Tryz.results109,go_sem,ct0,ct1,ct2,ct3,ct4,ct5,lct,tv,tok0]) rfl ⟨by rw[← HG.out],by
    have h0:=HW.out.next HM1.out;rw[← HG.out];show Moved w _ B oa cap b o l j
    repeat (first|with_reducible exact h0 | (with_reducible refine Moved.far ?_ HR.out _ _ ?hq;case hq=>(show w.heap.size≤r0;omega)))⟩
 · rw[if_neg h40]at hG;obtain rfl:c=40:=Classical.byContradiction h40;have hj1:=hir (by decide)
   have hset:Moved w1 (wx.setCell ⟨B,1,none⟩ (.int .i64 ((j:Int)+1))) B oa cap b o l (j+1):=by have:=HM1.out.set (j:=j+1) (by omega);simpa using this
   have HS:=Lib.hid hset;have hblk:=HM1.out.rd.blk;have cr0:wx.cell? ⟨B,0,none⟩=some (.slice oa l.length cap):=(hblk).cell 0;have fcr0:=(hblk).frozen 0;have cr1:wx.cell? ⟨B,1,none⟩=some (.int .i64 (j:Int)):=(hblk).cell 1;have fcr1:=(hblk).frozen 1;have lcr:=(hblk).lt;clear hset hblk h40 hir HM1
   go_upto_region 5 with fail
   clear cr0 cr1 fcr0 fcr1 lcr;generalize wx.setCell _ _=wy at *;go_wp2_with fail
   ((with_reducible refine(HLK.out _).mono ?_);rintro e w' ⟨rfl,hbw⟩)
   obtain⟨m2,rfl⟩:=grow_mk hbw;clear hbw;have HM2:=Lib.hid (HS.out.grow m2);clear HS HLK;generalize grow _ m2=wz at *
   cases hlk:likeS s [117,114,108] with
   | false =>
     rw[if_pos hlk]at hG;have HG:=Lib.hid hG;have hTb:=HT.out.mvd HM2.out (by omega);have ct0:wz.cell? ⟨r0,0,none⟩=some (.int .i64 0):=(hTb).cell 0;have fct0:=(hTb).frozen 0;have ct1:wz.cell? ⟨r0,1,none⟩=some (.string ⟨#[]⟩):=(hTb).cell 1;have fct1:=(hTb).frozen 1;have ct2:wz.cell? ⟨r0,2,none⟩=some (.int .i64 0):=(hTb).cell 2;have fct2:=(hTb).frozen 2;have ct3:wz.cell? ⟨r0,3,none⟩=some (.int .i64 0):=(hTb).cell 3;have fct3:=(hTb).frozen 3;have ct4:wz.cell? ⟨r0,4,none⟩=some (.bool false):=(hTb).cell 4;have fct4:=(hTb).frozen 4;have ct5:wz.cell? ⟨r0,5,none⟩=some (.bool false):=(hTb).cell 5;have fct5:=(hTb).frozen 5;have lct:=(hTb).lt;clear hG hTb hlk;go_wp2_with fail
     exact bodyPost_ret (v:=tv (tok0 2 s)) (by simp[results,Tryz.results109,go_sem,ct0,ct1,ct2,ct3,ct4,ct5,lct,tv,tok0]) rfl ⟨by rw[← HG.out],by
      have h0:=HW.out.next HM2.out;rw[← HG.out];show Moved w _ B oa cap b o l (j+1)
      repeat (first|with_reducible exact h0 | (with_reducible refine Moved.far ?_ HR.out _ _ ?hq;case hq=>(show w.heap.size≤r0;omega)))⟩
   | true =>
     rw[if_neg (by rw[hlk];simp)]at hG;obtain⟨k,hk⟩:∃ k,twoE l (l.length+2-(j+1)) (j+1)=k:=⟨_,rfl⟩;simp only[hk]at hG;have hkl:=twoE_len l (l.length+2-(j+1)) (j+1) (by omega);rw[hk]at hkl;have HK:=Lib.hid hk;have HG:=Lib.hid hG;clear hk hG hlk;go_wp2_with fail
     go_loopg [] (l.length+2) (fun q wr=>∃ (p f:Nat),Hid (Moved w1 wr B oa cap b o l p)∧Hid (twoE l f p=k)∧l.length≤f+p∧p≤l.length∧f≤q)
     case atStart=>exact⟨j+1,_,HM2,HK,by omega,by omega,by omega⟩
     case round =>
      clear HM2 HK;obtain⟨p,f,hM,hE,hf,hp,hq⟩:=hrel;have hA0:=at0_any hM.out.rd
      have hb0:=fun w=>blank_any (aF l p) w
      have hb1:=fun w=>blank_any (aF l (p+1)) w
      have hE2:=hE.out;have hlt0:=@blank_lt l p
      by_cases hgo:blankI (aF l p)=true∧blankI (aF l (p+1))=true
      · obtain⟨f,rfl⟩:∃ f',f=f'+1:=⟨f-1,by have:=hlt0 hgo.1;omega⟩;rw[twoE,if_pos hgo]at hE2;have hp1:=hlt0 hgo.1;rw[hgo.1]at hb0;rw[hgo.2]at hb1;have HB0:=Lib.hid hb0;have HB1:=Lib.hid hb1;have HA:=Lib.hid hA0;have HE2:=Lib.hid hE2;clear hb0 hb1 hA0 hE2 hgo hlt0 hE;generalize aF l p=c0 at *;go_wp2_with fail
        ((with_reducible refine(HA.out).mono ?_);rintro e w' ⟨rfl,hbw⟩)
        obtain⟨m3,rfl⟩:=grow_mk hbw;clear hbw;have HM3:=Lib.hid (hM.out.grow m3);clear hM HA;generalize grow _ m3=wu at *;have HA1:=Lib.hid (at1_any HM3.out.rd);generalize aF l (p+1)=c1 at *;go_wp2_with fail
        ((with_reducible refine(HB0.out _).mono ?_);rintro e w' ⟨rfl,rfl⟩)
        go_wp2_with fail;go_wp2_with fail
        ((with_reducible refine(HA1.out).mono ?_);rintro e w' ⟨rfl,hbw⟩)
        obtain⟨m4,rfl⟩:=grow_mk hbw;clear hbw;go_wp2_with fail
        ((with_reducible refine(HB1.out _).mono ?_);rintro e w' ⟨rfl,rfl⟩)
        have HM4:=Lib.hid (HM3.out.grow m4);clear HM3 HA1 HB0 HB1;generalize grow _ m4=wv at *;have hblk:=HM4.out.rd.blk;have cr0:wv.cell? ⟨B,0,none⟩=some (.slice oa l.length cap):=(hblk).cell 0;have fcr0:=(hblk).frozen 0;have cr1:wv.cell? ⟨B,1,none⟩=some (.int .i64 (p:Int)):=(hblk).cell 1;have fcr1:=(hblk).frozen 1;have lcr:=(hblk).lt;clear hblk;go_wp2_with fail
        go_roundg f
        case measure=>omega
        case rel=>exact⟨p+1,f,Lib.hid (by have:=HM4.out.set (j:=p+1) (by omega);simpa using this),HE2,by omega,by omega,Nat.le_refl _⟩
      · obtain rfl:p=k:=by
         cases f with
         | zero=>exact hE2
         | succ f=>rw[twoE,if_neg hgo]at hE2;exact hE2
        have ways:blankI (aF l p)=false∨blankI (aF l p)=true∧blankI (aF l (p+1))=false:=by
         cases h0:blankI (aF l p) with
         | false=>exact Or.inl rfl
         | true =>
           cases h1:blankI (aF l (p+1)) with
           | false=>exact Or.inr ⟨rfl,rfl⟩
           | true=>exact absurd ⟨h0,h1⟩ hgo
        have hG:=HG.out
        have hUR:=fun wy (hy:RAt wy B oa cap b o l p)=>url_any hy hp
        have HUR:=Lib.hid hUR;have HA:=Lib.hid hA0;have hq0:=HA.out
        have hA1:=fun m=>at1_any (hM.out.grow m).rd
        have HA1:=Lib.hid hA1;clear hE hE2 hgo hlt0 HG hUR hA0 hA1;obtain⟨c0,hc0⟩:∃ c0,aF l p=c0:=⟨_,rfl⟩;rw[hc0]at hb0 ways hG hq0;obtain⟨c1,hc1⟩:∃ c1,aF l (p+1)=c1:=⟨_,rfl⟩;rw[hc1]at hb1 ways hG;have HA:=Lib.hid hq0;have HC0:=Lib.hid hc0;have HC1:=Lib.hid hc1;clear hc0 hc1 hq0
        rcases ways with w1' | ⟨w1',w2'⟩
        · rw[w1']at hb0;rw[w1']at hG;simp only[Bool.false_eq_true,if_false]at hG;have HB0:=Lib.hid hb0;clear hb0 hb1 w1' HA1;go_wp2_with fail
          ((with_reducible refine(HA.out).mono ?_);rintro e w' ⟨rfl,hbw⟩)
          obtain⟨m3,rfl⟩:=grow_mk hbw;clear hbw;have HM3:=Lib.hid (hM.out.grow m3);clear hM HA;generalize grow _ m3=wu at *;go_wp2_with fail
          ((with_reducible refine(HB0.out _).mono ?_);rintro e w' ⟨rfl,rfl⟩)
          have hA2:=at0_any HM3.out.rd;rw[HC0.out]at hA2;have HA2:=Lib.hid hA2;clear hA2;go_wp2_with fail;go_wp2_with fail
          ((with_reducible refine(HA2.out).mono ?_);rintro e w' ⟨rfl,hbw⟩)
          obtain⟨m4,rfl⟩:=grow_mk hbw;clear hbw;go_wp2_with fail
          ((with_reducible refine(HB0.out _).mono ?_);rintro e w' ⟨rfl,rfl⟩)
          have HM4:=Lib.hid (HM3.out.grow m4);clear HM3 HA2 HB0;generalize grow _ m4=wv at *
          by_cases hq:c0=34∨c0=39
          · rw[if_pos hq]at hG;have HG:=Lib.hid hG;have hTb:=HT.out.mvd HM4.out (by omega);have ct0:wv.cell? ⟨r0,0,none⟩=some (.int .i64 0):=(hTb).cell 0;have fct0:=(hTb).frozen 0;have ct1:wv.cell? ⟨r0,1,none⟩=some (.string ⟨#[]⟩):=(hTb).cell 1;have fct1:=(hTb).frozen 1;have ct2:wv.cell? ⟨r0,2,none⟩=some (.int .i64 0):=(hTb).cell 2;have fct2:=(hTb).frozen 2;have ct3:wv.cell? ⟨r0,3,none⟩=some (.int .i64 0):=(hTb).cell 3;have fct3:=(hTb).frozen 3;have ct4:wv.cell? ⟨r0,4,none⟩=some (.bool false):=(hTb).cell 4;have fct4:=(hTb).frozen 4;have ct5:wv.cell? ⟨r0,5,none⟩=some (.bool false):=(hTb).cell 5;have fct5:=(hTb).frozen 5;have lct:=(hTb).lt
            have ways:(c0==34)=true∨(c0==34)=false∧(c0==39)=true:=by
             by_cases e1:c0=34
             · exact Or.inl (by simpa using e1)
             · exact Or.inr ⟨by simpa using e1,by rcases hq with h|h;exact absurd h e1;simpa using h⟩
            clear hG hTb hq
            rcases ways with k1 | ⟨k1,k2⟩
            all_goals
             go_wp2_with fail
             exact bodyPost_ret (v:=tv (tok0 2 s)) (by simp[results,Tryz.results109,go_sem,ct0,ct1,ct2,ct3,ct4,ct5,lct,tv,tok0]) rfl ⟨by rw[← HG.out],by
              have h0:=HW.out.next HM4.out;rw[← HG.out];show Moved w _ B oa cap b o l p
              repeat (first|with_reducible exact h0 | (with_reducible refine Moved.far ?_ HR.out _ _ ?hq;case hq=>(show w.heap.size≤r0;omega)))⟩
          · rw[if_neg hq]at hG
            have k1:(c0==34)=false:=by rw[beq_eq_false_iff_ne];exact fun e=>hq (Or.inl e)
            have k2:(c0==39)=false:=by rw[beq_eq_false_iff_ne];exact fun e=>hq (Or.inr e)
            have HG:=Lib.hid hG;have HUX:=Lib.hid (HUR.out _ HM4.out.rd);obtain⟨⟨⟨uk,ut,⟨un,ud⟩,ui,uid⟩,ue⟩,hu⟩:∃ U,urlF l p=U:=⟨_,rfl⟩;have hux:=HUX.out;rw[hu]at hux hG;simp only[tv]at hux;have HG:=Lib.hid hG;have HUX:=Lib.hid hux;clear hG hu hux hq;go_wp2_with fail
            ((with_reducible refine HUX.out.mono ?_);rintro e w9 ⟨rfl,hmv⟩)
            have HM9:=Lib.hid (HM4.out.next hmv);have hTb:=HT.out.mvd HM9.out (by omega);clear hmv HUX HUR;have ct0:w9.cell? ⟨r0,0,none⟩=some (.int .i64 0):=(hTb).cell 0;have fct0:=(hTb).frozen 0;have ct1:w9.cell? ⟨r0,1,none⟩=some (.string ⟨#[]⟩):=(hTb).cell 1;have fct1:=(hTb).frozen 1;have ct2:w9.cell? ⟨r0,2,none⟩=some (.int .i64 0):=(hTb).cell 2;have fct2:=(hTb).frozen 2;have ct3:w9.cell? ⟨r0,3,none⟩=some (.int .i64 0):=(hTb).cell 3;have fct3:=(hTb).frozen 3;have ct4:w9.cell? ⟨r0,4,none⟩=some (.bool false):=(hTb).cell 4;have fct4:=(hTb).frozen 4;have ct5:w9.cell? ⟨r0,5,none⟩=some (.bool false):=(hTb).cell 5;have fct5:=(hTb).frozen 5;have lct:=(hTb).lt;clear hTb;go_wp2_with fail
            exact bodyPost_ret (v:=tv ⟨uk,ut,(un,ud),ui,uid⟩) (by simp[results,Tryz.results109,go_sem,ct0,ct1,ct2,ct3,ct4,ct5,lct,tv,tok0]) rfl ⟨by rw[← HG.out],by
             have h0:=HW.out.next HM9.out;rw[← HG.out];show Moved w _ B oa cap b o l ue
             repeat (first|with_reducible exact h0 | (with_reducible refine Moved.far ?_ HR.out _ _ ?hq;case hq=>(show w.heap.size≤r0;omega)))⟩
        · rw[w1']at hb0;rw[w2']at hb1;rw[w1']at hG;simp only[if_true]at hG;have HB0:=Lib.hid hb0;have HB1:=Lib.hid hb1;clear hb0 hb1 w1' w2' HA1;go_wp2_with fail
          ((with_reducible refine(HA.out).mono ?_);rintro e w' ⟨rfl,hbw⟩)
          obtain⟨m3,rfl⟩:=grow_mk hbw;clear hbw;have HM3:=Lib.hid (hM.out.grow m3);clear hM HA;generalize grow _ m3=wu at *;go_wp2_with fail
          ((with_reducible refine(HB0.out _).mono ?_);rintro e w' ⟨rfl,rfl⟩)
          have hA2:=at1_any HM3.out.rd;rw[HC1.out]at hA2;have HA2:=Lib.hid hA2;clear hA2;go_wp2_with fail;go_wp2_with fail
          ((with_reducible refine(HA2.out).mono ?_);rintro e w' ⟨rfl,hbw⟩)
          obtain⟨m4,rfl⟩:=grow_mk hbw;clear hbw;go_wp2_with fail
          ((with_reducible refine(HB1.out _).mono ?_);rintro e w' ⟨rfl,rfl⟩)
          have HM4:=Lib.hid (HM3.out.grow m4);clear HM3 HA2;generalize grow _ m4=wv at *;have hA2:=at0_any HM4.out.rd;rw[HC0.out]at hA2;have HA2:=Lib.hid hA2;clear hA2;go_wp2_with fail;go_wp2_with fail
          ((with_reducible refine(HA2.out).mono ?_);rintro e w' ⟨rfl,hbw⟩)
          obtain⟨m5,rfl⟩:=grow_mk hbw;clear hbw;have HM5:=Lib.hid (HM4.out.grow m5);clear HM4 HA2;generalize grow _ m5=wv at *;go_wp2_with fail
          ((with_reducible refine(HB0.out _).mono ?_);rintro e w' ⟨rfl,rfl⟩)
          have hA2:=at1_any HM5.out.rd;rw[HC1.out]at hA2;have HA2:=Lib.hid hA2;clear hA2 HB0 HB1;go_wp2_with fail;go_wp2_with fail
          ((with_reducible refine(HA2.out).mono ?_);rintro e w' ⟨rfl,hbw⟩)
          obtain⟨m6,rfl⟩:=grow_mk hbw;clear hbw;have HM4:=Lib.hid (HM5.out.grow m6);clear HM5 HA2;generalize grow _ m6=wv at *
          by_cases hq:c1=34∨c1=39
          · rw[if_pos hq]at hG;have HG:=Lib.hid hG;have hTb:=HT.out.mvd HM4.out (by omega);have ct0:wv.cell? ⟨r0,0,none⟩=some (.int .i64 0):=(hTb).cell 0;have fct0:=(hTb).frozen 0;have ct1:wv.cell? ⟨r0,1,none⟩=some (.string ⟨#[]⟩):=(hTb).cell 1;have fct1:=(hTb).frozen 1;have ct2:wv.cell? ⟨r0,2,none⟩=some (.int .i64 0):=(hTb).cell 2;have fct2:=(hTb).frozen 2;have ct3:wv.cell? ⟨r0,3,none⟩=some (.int .i64 0):=(hTb).cell 3;have fct3:=(hTb).frozen 3;have ct4:wv.cell? ⟨r0,4,none⟩=some (.bool false):=(hTb).cell 4;have fct4:=(hTb).frozen 4;have ct5:wv.cell? ⟨r0,5,none⟩=some (.bool false):=(hTb).cell 5;have fct5:=(hTb).frozen 5;have lct:=(hTb).lt
            have ways:(c1==34)=true∨(c1==34)=false∧(c1==39)=true:=by
             by_cases e1:c1=34
             · exact Or.inl (by simpa using e1)
             · exact Or.inr ⟨by simpa using e1,by rcases hq with h|h;exact absurd h e1;simpa using h⟩
            clear hG hTb hq
            rcases ways with k1 | ⟨k1,k2⟩
            all_goals
             go_wp2_with fail
             exact bodyPost_ret (v:=tv (tok0 2 s)) (by simp[results,Tryz.results109,go_sem,ct0,ct1,ct2,ct3,ct4,ct5,lct,tv,tok0]) rfl ⟨by rw[← HG.out],by
              have h0:=HW.out.next HM4.out;rw[← HG.out];show Moved w _ B oa cap b o l p
              repeat (first|with_reducible exact h0 | (with_reducible refine Moved.far ?_ HR.out _ _ ?hq;case hq=>(show w.heap.size≤r0;omega)))⟩
          · rw[if_neg hq]at hG
            have k1:(c1==34)=false:=by rw[beq_eq_false_iff_ne];exact fun e=>hq (Or.inl e)
            have k2:(c1==39)=false:=by rw[beq_eq_false_iff_ne];exact fun e=>hq (Or.inr e)
            have HG:=Lib.hid hG;have HUX:=Lib.hid (HUR.out _ HM4.out.rd);obtain⟨⟨⟨uk,ut,⟨un,ud⟩,ui,uid⟩,ue⟩,hu⟩:∃ U,urlF l p=U:=⟨_,rfl⟩;have hux:=HUX.out;rw[hu]at hux hG;simp only[tv]at hux;have HG:=Lib.hid hG;have HUX:=Lib.hid hux;clear hG hu hux hq;go_wp2_with fail
            ((with_reducible refine HUX.out.mono ?_);rintro e w9 ⟨rfl,hmv⟩)
            have HM9:=Lib.hid (HM4.out.next hmv);have hTb:=HT.out.mvd HM9.out (by omega);clear hmv HUX HUR;have ct0:w9.cell? ⟨r0,0,none⟩=some (.int .i64 0):=(hTb).cell 0;have fct0:=(hTb).frozen 0;have ct1:w9.cell? ⟨r0,1,none⟩=some (.string ⟨#[]⟩):=(hTb).cell 1;have fct1:=(hTb).frozen 1;have ct2:w9.cell? ⟨r0,2,none⟩=some (.int .i64 0):=(hTb).cell 2;have fct2:=(hTb).frozen 2;have ct3:w9.cell? ⟨r0,3,none⟩=some (.int .i64 0):=(hTb).cell 3;have fct3:=(hTb).frozen 3;have ct4:w9.cell? ⟨r0,4,none⟩=some (.bool false):=(hTb).cell 4;have fct4:=(hTb).frozen 4;have ct5:w9.cell? ⟨r0,5,none⟩=some (.bool false):=(hTb).cell 5;have fct5:=(hTb).frozen 5;have lct:=(hTb).lt;clear hTb;go_wp2_with fail
            exact bodyPost_ret (v:=tv ⟨uk,ut,(un,ud),ui,uid⟩) (by simp[results,Tryz.results109,go_sem,ct0,ct1,ct2,ct3,ct4,ct5,lct,tv,tok0]) rfl ⟨by rw[← HG.out],by
             have h0:=HW.out.next HM9.out;rw[← HG.out];show Moved w _ B oa cap b o l ue
             repeat (first|with_reducible exact h0 | (with_reducible refine Moved.far ?_ HR.out _ _ ?hq;case hq=>(show w.heap.size≤r0;omega)))⟩
theorem skipE_len (l:List Int):∀ (f i:Nat),i≤l.length→skipE l f i≤l.length
 | 0,_,h=>h
 | f+1,i,h=>by
   unfold skipE;split
   · rename_i hb
     exact skipE_len l f (i+1) (aF_lt hb.1)
   · exact h
theorem skipE_le (l:List Int):∀ (f i:Nat),i≤skipE l f i
 | 0,_=>Nat.le_refl _
 | f+1,i=>by
   unfold skipE;split
   · exact Nat.le_trans (Nat.le_succ i) (skipE_le l f (i+1))
   · exact Nat.le_refl _
theorem remE_le (l:List Int):∀ (f i:Nat),i≤remE l f i
 | 0,_=>Nat.le_refl _
 | f+1,i=>by
   unfold remE;split
   · have h1:=skipE_le l (l.length+2-(i+2)) (i+2);have h2:=remE_le l f (skipE l (l.length+2-(i+2)) (i+2)+2);omega
   · exact Nat.le_refl _
set_option maxRecDepth 20000 in
set_option maxHeartbeats 8000000 in
theorem remarks_any {w:World} {B:Nat} {oa:Option Addr} {cap b o:Nat} {l:List Int} {i:Nat} (h:RAt w B oa cap b o l i) (hil:i≤l.length+2) :
  Calls Tryz.prog 68 #[.pointer (some ⟨B,0,none⟩)] w fun e w'=>e=.returned (.tuple #[])∧Moved w w' B oa cap b o l (remF l i)∧remF l i≤l.length+2:=by
 obtain⟨E,hE⟩:∃ E,remF l i=E:=⟨_,rfl⟩;rw[hE];have HE:=Lib.hid (show remE l (l.length+2-i) i=E from hE);have HM:=Lib.hid (Moved.start h);have hl:=h.len
 have hN0:l.length≤(l.length+2-i)+i:=by omega
 clear hE h
 go_enter Tryz.func68,Tryz.ntmps68
 go_wp2_with fail
 go_loopg [] (l.length+2-i) (fun q wr=>∃ (p f:Nat),Hid (Moved w wr B oa cap b o l p)∧Hid (remE l f p=E)∧l.length≤f+p∧p≤l.length+2∧f≤q)
 case atStart=>exact⟨i,_,HM,HE,hN0,hil,Nat.le_refl _⟩
 case round =>
  clear HM HE hN0;obtain⟨p,f,hM,hE,hf,hp,hq⟩:=hrel;have hA0:=at0_any hM.out.rd;have hE2:=hE.out;have hir:=@aF_lt l p;have hir1:=@aF_lt l (p+1)
  by_cases hgo:aF l p=47∧aF l (p+1)=42
  · have hp1:=hir1 (by rw[hgo.2];decide);obtain⟨f,rfl⟩:∃ f',f=f'+1:=⟨f-1,by omega⟩;rw[remE,if_pos hgo]at hE2;rw[hgo.1]at hA0;have HA:=Lib.hid hA0;have HE2:=Lib.hid hE2;have hsl:=skipE_len l (l.length+2-(p+2)) (p+2) (by omega);have hsg:=skipE_le l (l.length+2-(p+2)) (p+2);obtain⟨k,hk⟩:∃ k,skipE l (l.length+2-(p+2)) (p+2)=k:=⟨_,rfl⟩;have HC1:=Lib.hid hgo.2;have hE3:=HE2.out;rw[hk]at hE3 hsl hsg;have HE3:=Lib.hid hE3;have HK:=Lib.hid hk;clear hA0 hE2 hE HE2 hE3 hgo hir hir1 hk;go_wp2_with fail
    ((with_reducible refine(HA.out).mono ?_);rintro e w' ⟨rfl,hbw⟩)
    obtain⟨m,rfl⟩:=grow_mk hbw;clear hbw;have HM1:=Lib.hid (hM.out.grow m);clear hM HA;generalize grow _ m=wx at *;have hA1:=at1_any HM1.out.rd;rw[HC1.out]at hA1;have HA1:=Lib.hid hA1;clear hA1 HC1;go_wp2_with fail;go_wp2_with fail
    ((with_reducible refine(HA1.out).mono ?_);rintro e w' ⟨rfl,hbw⟩)
    obtain⟨m2,rfl⟩:=grow_mk hbw;clear hbw;have HM2:=Lib.hid (HM1.out.grow m2);clear HM1 HA1;generalize grow _ m2=wy at *
    have hset:Moved w (wy.setCell ⟨B,1,none⟩ (.int .i64 ((p:Int)+2))) B oa cap b o l (p+2):=by have:=HM2.out.set (j:=p+2) (by omega);simpa using this
    have HS:=Lib.hid hset;have hblk:=HM2.out.rd.blk;have cr0:wy.cell? ⟨B,0,none⟩=some (.slice oa l.length cap):=(hblk).cell 0;have fcr0:=(hblk).frozen 0;have cr1:wy.cell? ⟨B,1,none⟩=some (.int .i64 (p:Int)):=(hblk).cell 1;have fcr1:=(hblk).frozen 1;have lcr:=(hblk).lt;clear hblk hset HM2;go_wp2_with fail;clear cr0 cr1 fcr0 fcr1 lcr;generalize wy.setCell _ _=wz at *
    go_loopg [] (l.length+2-(p+2)) (fun q wr=>∃ (n g:Nat),Hid (Moved w wr B oa cap b o l n)∧Hid (skipE l g n=k)∧l.length≤g+n∧n≤l.length∧g≤q)
    case atStart=>exact⟨p+2,_,HS,HK,by omega,by omega,Nat.le_refl _⟩
    case round =>
     clear HS HK;obtain⟨n,g,hM,hK,hg,hn,hq⟩:=hrel;have hA0:=at0_any hM.out.rd;have hK2:=hK.out;have hir:=@aF_lt l n;obtain⟨c,hc⟩:∃ c,aF l n=c:=⟨_,rfl⟩;obtain⟨d,hd⟩:∃ d,aF l (n+1)=d:=⟨_,rfl⟩;rw[hc]at hA0 hir;have HA:=Lib.hid hA0;have HC:=Lib.hid hc;have HD:=Lib.hid hd
     by_cases hgo:c≠-1∧(c≠42∨d≠47)
     · have hn1:=hir hgo.1;obtain⟨g,rfl⟩:∃ g',g=g'+1:=⟨g-1,by omega⟩;rw[skipE,hc,hd,if_pos hgo]at hK2;have HK2:=Lib.hid hK2
       have g1:(c != -1)=true:=by simpa using hgo.1
       have ways:(c != 42)=true∨(c != 42)=false∧(d != 47)=true:=by
        by_cases h0:c=42
        · exact Or.inr ⟨by simp[h0],by rcases hgo.2 with h|h;exact absurd h0 h;simpa using h⟩
        · exact Or.inl (by simpa using h0)
       clear hA0 hK2 hK hgo hir hc hd;go_wp2_with fail
       ((with_reducible refine(HA.out).mono ?_);rintro e w' ⟨rfl,hbw⟩)
       obtain⟨m3,rfl⟩:=grow_mk hbw;clear hbw;have HM3:=Lib.hid (hM.out.grow m3);clear hM HA;generalize grow _ m3=wu at *;have hA2:=at0_any HM3.out.rd;rw[HC.out]at hA2;have HA2:=Lib.hid hA2;clear hA2;go_wp2_with fail;go_wp2_with fail
       ((with_reducible refine(HA2.out).mono ?_);rintro e w' ⟨rfl,hbw⟩)
       obtain⟨m4,rfl⟩:=grow_mk hbw;clear hbw;have HM4:=Lib.hid (HM3.out.grow m4);clear HM3 HA2;generalize grow _ m4=wv at *
       rcases ways with k1 | ⟨k1,k2⟩
       · have hblk:=HM4.out.rd.blk;have cr0:wv.cell? ⟨B,0,none⟩=some (.slice oa l.length cap):=(hblk).cell 0;have fcr0:=(hblk).frozen 0;have cr1:wv.cell? ⟨B,1,none⟩=some (.int .i64 (n:Int)):=(hblk).cell 1;have fcr1:=(hblk).frozen 1;have lcr:=(hblk).lt;clear hblk;go_wp2_with fail
         go_roundg g
         case measure=>omega
         case rel=>exact⟨n+1,g,Lib.hid (by have:=HM4.out.set (j:=n+1) (by omega);simpa using this),HK2,by omega,by omega,Nat.le_refl _⟩
       · have hA3:=at1_any HM4.out.rd;rw[HD.out]at hA3;have HA3:=Lib.hid hA3;clear hA3;go_wp2_with fail;go_wp2_with fail
         ((with_reducible refine(HA3.out).mono ?_);rintro e w' ⟨rfl,hbw⟩)
         obtain⟨m5,rfl⟩:=grow_mk hbw;clear hbw;have HM5:=Lib.hid (HM4.out.grow m5);clear HM4 HA3;generalize grow _ m5=wt at *;have hblk:=HM5.out.rd.blk;have cr0:wt.cell? ⟨B,0,none⟩=some (.slice oa l.length cap):=(hblk).cell 0;have fcr0:=(hblk).frozen 0;have cr1:wt.cell? ⟨B,1,none⟩=some (.int .i64 (n:Int)):=(hblk).cell 1;have fcr1:=(hblk).frozen 1;have lcr:=(hblk).lt;clear hblk;go_wp2_with fail
         go_roundg g
         case measure=>omega
         case rel=>exact⟨n+1,g,Lib.hid (by have:=HM5.out.set (j:=n+1) (by omega);simpa using this),HK2,by omega,by omega,Nat.le_refl _⟩
     · obtain rfl:n=k:=by
        cases g with
        | zero=>exact hK2
        | succ g=>rw[skipE,hc,hd,if_neg hgo]at hK2;exact hK2
       have ways:(c != -1)=false∨(c != -1)=true∧(c != 42)=false∧(d != 47)=false:=by
        by_cases h0:c=-1
        · exact Or.inl (by simp[h0])
        · refine Or.inr ⟨by simpa using h0,?_,?_⟩
          · rw[bne_eq_false_iff_eq];exact Classical.byContradiction fun e=>hgo ⟨h0,Or.inl e⟩
          · rw[bne_eq_false_iff_eq];exact Classical.byContradiction fun e=>hgo ⟨h0,Or.inr e⟩
       clear hA0 hK2 hK hgo hir hc hd;go_wp2_with fail
       ((with_reducible refine(HA.out).mono ?_);rintro e w' ⟨rfl,hbw⟩)
       obtain⟨m3,rfl⟩:=grow_mk hbw;clear hbw;have HM3:=Lib.hid (hM.out.grow m3);clear hM HA;generalize grow _ m3=wu at *
       rcases ways with k1 | ⟨k1,k2,k3⟩
       · have hblk:=HM3.out.rd.blk;have cr0:wu.cell? ⟨B,0,none⟩=some (.slice oa l.length cap):=(hblk).cell 0;have fcr0:=(hblk).frozen 0;have cr1:wu.cell? ⟨B,1,none⟩=some (.int .i64 (n:Int)):=(hblk).cell 1;have fcr1:=(hblk).frozen 1;have lcr:=(hblk).lt;clear hblk;go_wp2_with fail
         go_roundg f
         case measure=>omega
         case rel=>exact⟨n+2,f,Lib.hid (by have:=HM3.out.set (j:=n+2) (by omega);simpa using this),HE3,by omega,by omega,Nat.le_refl _⟩
       · have hA2:=at0_any HM3.out.rd;rw[HC.out]at hA2;have HA2:=Lib.hid hA2;clear hA2;go_wp2_with fail;go_wp2_with fail
         ((with_reducible refine(HA2.out).mono ?_);rintro e w' ⟨rfl,hbw⟩)
         obtain⟨m4,rfl⟩:=grow_mk hbw;clear hbw;have HM4:=Lib.hid (HM3.out.grow m4);clear HM3 HA2;generalize grow _ m4=wv at *;have hA3:=at1_any HM4.out.rd;rw[HD.out]at hA3;have HA3:=Lib.hid hA3;clear hA3;go_wp2_with fail;go_wp2_with fail
         ((with_reducible refine(HA3.out).mono ?_);rintro e w' ⟨rfl,hbw⟩)
         obtain⟨m5,rfl⟩:=grow_mk hbw;clear hbw;have HM5:=Lib.hid (HM4.out.grow m5);clear HM4 HA3;generalize grow _ m5=wt at *;have hblk:=HM5.out.rd.blk;have cr0:wt.cell? ⟨B,0,none⟩=some (.slice oa l.length cap):=(hblk).cell 0;have fcr0:=(hblk).frozen 0;have cr1:wt.cell? ⟨B,1,none⟩=some (.int .i64 (n:Int)):=(hblk).cell 1;have fcr1:=(hblk).frozen 1;have lcr:=(hblk).lt;clear hblk;go_wp2_with fail
         go_roundg f
         case measure=>omega
         case rel=>exact⟨n+2,f,Lib.hid (by have:=HM5.out.set (j:=n+2) (by omega);simpa using this),HE3,by omega,by omega,Nat.le_refl _⟩
  · have hEp:p=E:=by
     cases f with
     | zero=>exact hE2
     | succ f=>rw[remE,if_neg hgo]at hE2;exact hE2
    subst hEp;obtain⟨c,hc⟩:∃ c,aF l p=c:=⟨_,rfl⟩;obtain⟨d,hd⟩:∃ d,aF l (p+1)=d:=⟨_,rfl⟩;rw[hc]at hA0 hgo;rw[hd]at hgo;have HA:=Lib.hid hA0;have HD:=Lib.hid hd
    have ways:(c==47)=false∨(c==47)=true∧(d==42)=false:=by
     by_cases h0:c=47
     · exact Or.inr ⟨by simp[h0],by rw[beq_eq_false_iff_ne];exact fun e=>hgo ⟨h0,e⟩⟩
     · exact Or.inl (by simpa using h0)
    clear hA0 hE2 hE hgo hir hir1 hc hd;go_wp2_with fail
    ((with_reducible refine(HA.out).mono ?_);rintro e w' ⟨rfl,hbw⟩)
    obtain⟨m3,rfl⟩:=grow_mk hbw;clear hbw;have HM3:=Lib.hid (hM.out.grow m3);clear hM HA;generalize grow _ m3=wu at *
    rcases ways with k1 | ⟨k1,k2⟩
    · go_wp2_with fail
      go_end0
      exact⟨rfl,HM3.out,hp⟩
    · have hA3:=at1_any HM3.out.rd;rw[HD.out]at hA3;have HA3:=Lib.hid hA3;clear hA3;go_wp2_with fail;go_wp2_with fail
      ((with_reducible refine(HA3.out).mono ?_);rintro e w' ⟨rfl,hbw⟩)
      obtain⟨m5,rfl⟩:=grow_mk hbw;clear hbw;have HM5:=Lib.hid (HM3.out.grow m5);go_wp2_with fail
      go_end0
      exact⟨rfl,HM5.out,hp⟩
end Go.Proofs.YtnahlfaehelfjaaGreatDoor
