/- Of my texts: TokN. -/
import Derived.Test.YtnahlfaehelfjaaGreatDoorM11
import Derived.Test.YtnahlfaehelfjaaGreatDoorM16
namespace Go.Proofs.YtnahlfaehelfjaaGreatDoor
set_option linter.unusedVariables false
set_option linter.unusedSimpArgs false
open Go.RowKit
theorem digE_len (l:List Int):∀ (f i:Nat),i≤l.length→i≤digE l f i∧digE l f i≤l.length
 | 0,_,h=>⟨Nat.le_refl _,h⟩
 | f+1,i,h=>by
   unfold digE;split
   · rename_i hb
     have:=digE_len l f (i+1) (digit_lt hb);exact⟨by omega,this.2⟩
   · exact⟨Nat.le_refl _,h⟩
theorem digF_len {l:List Int} {i:Nat} (h:i≤l.length):i≤digF l i∧digF l i≤l.length:=digE_len l _ i h
theorem figS_len {l:List Int} {i:Nat} (h:i≤l.length):i≤figS l i∧figS l i≤l.length:=by
 unfold figS;split
 · rename_i hc
   have:i<l.length:=aF_lt (by omega);omega
 · omega
theorem figP_len {l:List Int} {i:Nat} (h:i≤l.length):i≤figP l i∧figP l i≤l.length:=by
 unfold figP;split
 · rename_i hc
   have h1:i<l.length:=aF_lt (by omega);have:=digF_len (l:=l) (i:=i+1) h1;omega
 · omega
theorem figX_len {l:List Int} {i:Nat} (h:i≤l.length):i≤figX l i∧figX l i≤l.length:=by
 unfold figX;split
 · split
   · split
     · rename_i hd
       have h2:=digit_lt hd;have:=digF_len (l:=l) (i:=i+2) (by omega);omega
     · omega
   · split
     · rename_i hd
       have h2:=digit_lt hd;have:=digF_len (l:=l) (i:=i+1) (by omega);omega
     · omega
 · omega
theorem keep_cells {w w':World} {B:Nat} {oa:Option Addr} {cap b o:Nat} {l:List Int} {i:Nat} (h:RAt w B oa cap b o l i) (hb:Below w.heap.size w w'):w'.cell? ⟨B,0,none⟩=some (.slice oa l.length cap)∧w'.cell? ⟨B,1,none⟩=some (.int .i64 (i:Int)) :=
 ⟨(h.below hb).blk.cell 0,(h.below hb).blk.cell 1⟩
theorem Sl.mid {w:World} {oa oa':Option Addr} {n cap b o:Nat} {vs:List Value} (h:Sl w oa n cap b o 1 vs) {i e:Nat} (hi:i≤e) (he:e≤n) (ha:0<e-i→oa'=some ⟨b,o+i,none⟩) :
  Sl w oa' (e-i) (cap-i) b (o+i) 1 ((vs.drop i).take (e-i)) :=
 ⟨by have:=h.len;rw[List.length_take,List.length_drop];omega,by have:=h.le;omega,by have:=h.max;omega,fun hp=>⟨ha hp,(h.lies (by omega)).2⟩,fun j v hv=>by
   rw[List.getElem?_take]at hv;split at hv
   · rw[List.getElem?_drop]at hv;rw[show o+i+j=o+(i+j) by omega];exact h.cell (i+j) v hv
   · cases hv⟩
theorem slice_runes {oa:Option Addr} {b o N cap i e:Nat} (hl:0<N→oa=some ⟨b,o,none⟩) (hi:i≤e) (he:e≤N) (hc:N≤cap) :
  ∃ oa':Option Addr,(0<e-i→oa'=some ⟨b,o+i,none⟩)∧∀ w,(Instr.slice 115 (.slice oa N cap) (some (.int .i64 (i:Int))) (some (.int .i64 (e:Int))) none).run Tryz.prog w=.ok (.slice oa' (e-i) (cap-i)) w:=by
 have he32:Tryz.prog.elem 115=21:=by kernel_rfl
 refine⟨if cap=i then oa else oa.map (·.add i),fun hp=>?_,fun w=>?_⟩
 · rw[if_neg (by omega),hl (by omega)];simp[Addr.add]
 · rw[run_slice_lh w 115 oa N cap (by rw[he32];exact Tryz.underlying115) .i64 .i64 i e (by omega) (by omega) (by omega),he32,Tryz.sizeOf21];simp[Result.andThen,sliced]
set_option maxRecDepth 20000 in
set_option maxHeartbeats 8000000 in
theorem figure_any {w:World} {B:Nat} {oa:Option Addr} {cap b o:Nat} {l:List Int} {i:Nat} (h:RAt w B oa cap b o l i) (hil:i≤l.length) (hfig:figE l i≤i+4294967296) :
  Calls Tryz.prog 108 #[.pointer (some ⟨B,0,none⟩)] w fun e w'=>e=.returned (tv (figureF l i).1)∧Moved w w' B oa cap b o l (figureF l i).2:=by
 have hl:=h.len;have hB:=h.blk.lt;have HR:=Lib.hid h;obtain⟨h1a,h1b⟩:=figS_len hil;obtain⟨h2a,h2b⟩:=digF_len h1b;obtain⟨h3a,h3b⟩:=figP_len h2b;obtain⟨h4a,h4b⟩:=figX_len h3b;obtain⟨R,hR⟩:∃ R,figureF l i=R:=⟨_,rfl⟩;rw[hR];unfold figureF at hR;obtain⟨p1,hp1⟩:∃ p,figS l i=p:=⟨_,rfl⟩;obtain⟨p2,hp2⟩:∃ p,digF l p1=p:=⟨_,rfl⟩;obtain⟨p3,hp3⟩:∃ p,figP l p2=p:=⟨_,rfl⟩;obtain⟨E,hp4⟩:∃ p,figX l p3=p:=⟨_,rfl⟩
 have hE:figE l i=E:=by unfold figE;rw[hp1,hp2,hp3,hp4]
 rw[hp1]at h1a h1b h2a h2b h3a h3b h4a h4b;rw[hp2]at h2a h2b h3a h3b h4a h4b;rw[hp3]at h3a h3b h4a h4b;rw[hp4]at h4a h4b;simp only[hE]at hR;rw[hE]at hfig;have HG:=Lib.hid hR;have H1:=Lib.hid hp1;have H2:=Lib.hid hp2;have H3:=Lib.hid hp3;have H4:=Lib.hid hp4;obtain⟨r0,hr0⟩:∃ r0,w.heap.size=r0:=⟨_,rfl⟩
 have hBr:B<r0:=by omega
 clear h hR hp1 hp2 hp3 hp4 hE
 go_enter Tryz.func108,Tryz.ntmps108
 go_upto_region 1 with fail
 have HR1:=Lib.hid (HR.out.old (.cells #[.int .i64 0,.string ⟨#[]⟩,.int .i64 0,.int .i64 0,.bool false,.bool false] 85));have hT:=Blk.new w 85 #[.int .i64 0,.string ⟨#[]⟩,.int .i64 0,.int .i64 0,.bool false,.bool false];have HW:=Lib.hid ((Moved.start HR.out).alloc (.cells #[.int .i64 0,.string ⟨#[]⟩,.int .i64 0,.int .i64 0,.bool false,.bool false] 85));rw[hr0]at hT;have HT:=Lib.hid hT;clear hT;generalize w.alloc _=w1 at *;have hblk:=HR1.out.blk;have cr0:w1.cell? ⟨B,0,none⟩=some (.slice oa l.length cap):=(hblk).cell 0;have fcr0:=(hblk).frozen 0;have cr1:w1.cell? ⟨B,1,none⟩=some (.int .i64 (i:Int)):=(hblk).cell 1;have fcr1:=(hblk).frozen 1;have lcr:=(hblk).lt;clear hblk
 go_upto_region 2 with fail
 clear cr0 cr1 fcr0 fcr1 lcr;have HM:=Lib.hid (Moved.start HR1.out);have hA:=at0_any HM.out.rd;have hsg:=H1.out;unfold figS at hsg;obtain⟨c,hc⟩:∃ c,aF l i=c:=⟨_,rfl⟩;have hir:=@aF_lt l i;rw[hc]at hA hsg hir;have HA:=Lib.hid hA;clear hA hc;go_wp2_with fail
 ((with_reducible refine(HA.out).mono ?_);rintro e w' ⟨rfl,hbw⟩)
 obtain⟨m,rfl⟩:=grow_mk hbw;clear hbw;have HM1:=Lib.hid (HM.out.grow m);clear HM HA;generalize grow _ m=wa at *;obtain⟨be,hbe⟩:∃ be,decide (c=43∨c=45)=be:=⟨_,rfl⟩
 go_upto_region 3 with fail
 go_cut [23] from 18 to 23 (fun s wx=>s=.bool be∧wx=wa)
 case first =>
  have ways:(c==43)=true∧be=true∨(c==43)=false∧(c==45)=be:=by
   by_cases e1:c=43
   · exact Or.inl ⟨by simpa using e1,by rw[← hbe];simp[e1]⟩
   · exact Or.inr ⟨by simpa using e1,by rw[← hbe];simp only[e1,false_or];by_cases e2:c=45<;>simp[e2]⟩
  clear hbe hsg hir HG
  rcases ways with ⟨k1,rfl⟩ | ⟨k1,k2⟩
  · go_wp2_with fail;go_meet;exact⟨rfl,rfl⟩
  · go_wp2_with fail;go_meet;exact⟨rfl,rfl⟩
 case rest =>
  obtain⟨rfl,e⟩:=hcut;subst e
  go_upto_if 23 with fail
  go_cut [] from 24 to 30 (fun wx=>Hid (Moved w1 wx B oa cap b o l p1))
  case first =>
   cases be with
   | true =>
     have hcc:c=43∨c=45:=by simpa using hbe
     rw[if_pos hcc]at hsg;have hi1:=hir (by omega)
     have hset:Moved w1 (wc.setCell ⟨B,1,none⟩ (.int .i64 ((i:Int)+1))) B oa cap b o l p1:=by rw[← hsg];have:=HM1.out.set (j:=i+1) (by omega);simpa using this
     have HS:=Lib.hid hset;have hblk:=HM1.out.rd.blk;have cr0:wc.cell? ⟨B,0,none⟩=some (.slice oa l.length cap):=(hblk).cell 0;have fcr0:=(hblk).frozen 0;have cr1:wc.cell? ⟨B,1,none⟩=some (.int .i64 (i:Int)):=(hblk).cell 1;have fcr1:=(hblk).frozen 1;have lcr:=(hblk).lt;clear hblk hset HM1 HG hbe hcc hsg hir;go_wp2_with fail;go_meet;exact HS
   | false =>
     have hcc:¬ (c=43∨c=45):=by simpa using hbe
     rw[if_neg hcc]at hsg;subst hsg;clear HG hbe hcc hir;go_wp2_with fail;go_meet;exact HM1
  case rest =>
   have HM2:=hcut;have hdg:=digits3_any HM2.out.rd;rw[H2.out]at hdg;have HDG:=Lib.hid hdg;clear HM1 hbe hsg hir hdg hcut;go_wp2_with fail
   ((with_reducible refine HDG.out.mono ?_);rintro e w2 ⟨rfl,hmv⟩)
   have HM3:=Lib.hid (HM2.out.next hmv);clear hmv HM2 HDG;have hsp:=H3.out;unfold figP at hsp;obtain⟨b2,hb2⟩:∃ b2,decide (aF l p2=46∧digitI (aF l (p2+1))=true)=b2:=⟨_,rfl⟩
   go_upto_region 6 with fail
   go_cut [40] from 33 to 40 (fun s wx=>s=.bool b2∧Hid (Moved w1 wx B oa cap b o l p2))
   case first =>
    have hA:=at0_any HM3.out.rd;obtain⟨c6,hc6⟩:∃ c,aF l p2=c:=⟨_,rfl⟩;rw[hc6]at hA hb2;have HA:=Lib.hid hA;clear hA hc6 HG hsp
    have hdi:=fun w=>digit3_any (aF l (p2+1)) w
    go_wp2_with fail
    ((with_reducible refine(HA.out).mono ?_);rintro e w' ⟨rfl,hbw⟩)
    obtain⟨m3,rfl⟩:=grow_mk hbw;clear hbw;have HM4:=Lib.hid (HM3.out.grow m3);clear HM3 HA;generalize grow _ m3=wb at *
    by_cases h46:c6=46
    · subst h46;have HA1:=Lib.hid (at1_any HM4.out.rd);obtain⟨bd,hbd⟩:∃ bd,digitI (aF l (p2+1))=bd:=⟨_,rfl⟩;rw[hbd]at hdi hb2
      obtain rfl:bd=b2:=by rw[← hb2];simp
      have HDI:=Lib.hid hdi;clear hdi hbd hb2;generalize aF l (p2+1)=c7 at *;go_wp2_with fail;go_wp2_with fail
      ((with_reducible refine(HA1.out).mono ?_);rintro e w' ⟨rfl,hbw⟩)
      obtain⟨m4,rfl⟩:=grow_mk hbw;clear hbw;go_wp2_with fail
      ((with_reducible refine(HDI.out _).mono ?_);rintro e w' ⟨rfl,rfl⟩)
      have HM5:=Lib.hid (HM4.out.grow m4);clear HM4;generalize grow _ m4=wd at *;go_wp2_with fail;go_meet;exact⟨rfl,HM5⟩
    · have g46:(c6==46)=false:=by simpa using h46
      obtain rfl:b2=false:=by rw[← hb2];simp[h46]
      clear hdi hb2;go_wp2_with fail;go_meet;exact⟨rfl,HM4⟩
   case rest =>
    obtain⟨rfl,HM4⟩:=hcut;clear HM3
    go_upto_if 40 with fail
    go_cut [] from 41 to 49 (fun wx=>Hid (Moved w1 wx B oa cap b o l p3))
    case first =>
     cases b2 with
     | true =>
       have hcc:aF l p2=46∧digitI (aF l (p2+1))=true:=by simpa using hb2
       rw[if_pos hcc]at hsp;have hi1:p2<l.length:=aF_lt (by rw[hcc.1];decide)
       have hset:Moved w1 (wc.setCell ⟨B,1,none⟩ (.int .i64 ((p2:Int)+1))) B oa cap b o l (p2+1):=by have:=HM4.out.set (j:=p2+1) (by omega);simpa using this
       have hdg:=digits3_any hset.rd;rw[hsp]at hdg;have HDG:=Lib.hid hdg;have HS:=Lib.hid hset;have hblk:=HM4.out.rd.blk;have cr0:wc.cell? ⟨B,0,none⟩=some (.slice oa l.length cap):=(hblk).cell 0;have fcr0:=(hblk).frozen 0;have cr1:wc.cell? ⟨B,1,none⟩=some (.int .i64 (p2:Int)):=(hblk).cell 1;have fcr1:=(hblk).frozen 1;have lcr:=(hblk).lt;clear hblk hset HM4 HG hb2 hcc hsp hdg;go_wp2_with fail
       ((with_reducible refine HDG.out.mono ?_);rintro e w4 ⟨rfl,hmv⟩)
       have HM5:=Lib.hid (HS.out.next hmv);clear hmv HS HDG cr0 cr1 fcr0 fcr1 lcr;go_wp2_with fail;go_meet;exact HM5
     | false =>
       have hcc:¬ (aF l p2=46∧digitI (aF l (p2+1))=true):=by simpa using hb2
       rw[if_neg hcc]at hsp;subst hsp;clear HG hb2 hcc;go_wp2_with fail;go_meet;exact HM4
    case rest =>
     have HM5:=hcut;clear HM4 hb2 hsp hcut;have hA:=at0_any HM5.out.rd;have hsx:=H4.out;unfold figX at hsx;obtain⟨c8,hc8⟩:∃ c,aF l p3=c:=⟨_,rfl⟩;have hir:=@aF_lt l p3;rw[hc8]at hA hsx hir;have HA:=Lib.hid hA;clear hA hc8;obtain⟨b3,hb3⟩:∃ b3,decide (c8=101∨c8=69)=b3:=⟨_,rfl⟩;go_wp2_with fail;go_wp2_with fail
     ((with_reducible refine(HA.out).mono ?_);rintro e w' ⟨rfl,hbw⟩)
     obtain⟨m5,rfl⟩:=grow_mk hbw;clear hbw;have HM6:=Lib.hid (HM5.out.grow m5);clear HM5 HA;generalize grow _ m5=wb at *
     go_upto_region 10 with fail
     go_cut [57] from 52 to 57 (fun s wx=>s=.bool b3∧wx=wb)
     case first =>
      have ways:(c8==101)=true∧b3=true∨(c8==101)=false∧(c8==69)=b3:=by
       by_cases e1:c8=101
       · exact Or.inl ⟨by simpa using e1,by rw[← hb3];simp[e1]⟩
       · exact Or.inr ⟨by simpa using e1,by rw[← hb3];simp only[e1,false_or];by_cases e2:c8=69<;>simp[e2]⟩
      clear hb3 hsx hir HG
      rcases ways with ⟨k1,rfl⟩ | ⟨k1,k2⟩
      · go_wp2_with fail;go_meet;exact⟨rfl,rfl⟩
      · go_wp2_with fail;go_meet;exact⟨rfl,rfl⟩
     case rest =>
      obtain⟨rfl,e⟩:=hcut;subst e
      go_upto_if 57 with fail
      go_cut [6,7] from 58 to 79 (fun s6 s7 wx=>Hid (Moved w1 wx B oa cap b o l E))
      case first =>
       cases b3 with
       | false =>
         have hcc:¬ (c8=101∨c8=69):=by simpa using hb3
         rw[if_neg hcc]at hsx;subst hsx;clear HG hb3 hcc hir;go_wp2_with fail;go_meet;exact HM6
       | true =>
         have hcc:c8=101∨c8=69:=by simpa using hb3
         rw[if_pos hcc]at hsx;have hp3:=hir (by omega);have hA1:=at1_any HM6.out.rd;obtain⟨d,hd⟩:∃ d,aF l (p3+1)=d:=⟨_,rfl⟩;have hdlt:=@aF_lt l (p3+1);rw[hd]at hA1 hsx hdlt;have HA1:=Lib.hid hA1;have HD:=Lib.hid hd;clear hA1 hd hcc hb3 hir HG;go_wp2_with fail;go_wp2_with fail
         ((with_reducible refine(HA1.out).mono ?_);rintro e w' ⟨rfl,hbw⟩)
         obtain⟨m6,rfl⟩:=grow_mk hbw;clear hbw;have HM7:=Lib.hid (HM6.out.grow m6);clear HM6 HA1;generalize grow _ m6=wd at *
         by_cases hsn:d=43∨d=45
         · rw[if_pos hsn]at hsx;have hp4:=hdlt (by omega)
           have ways:(d==43)=true∨(d==43)=false∧(d==45)=true:=by
            by_cases e1:d=43
            · exact Or.inl (by simpa using e1)
            · exact Or.inr ⟨by simpa using e1,by rcases hsn with h|h;exact absurd h e1;simpa using h⟩
           have HA2:=Lib.hid (at2_any HM7.out.rd)
           have hdi:=fun w=>digit3_any (aF l (p3+2)) w
           obtain⟨bd,hbd⟩:∃ bd,digitI (aF l (p3+2))=bd:=⟨_,rfl⟩;have hp5:=@digit_lt l (p3+2);rw[hbd]at hdi hsx hp5;have HDI:=Lib.hid hdi;clear hdi hbd hsn;generalize aF l (p3+2)=c9 at *
           rcases ways with k1 | ⟨k1,k2⟩
           all_goals
            go_wp2_with fail;go_wp2_with fail
            ((with_reducible refine(HA2.out).mono ?_);rintro e w' ⟨rfl,hbw⟩)
            obtain⟨m7,rfl⟩:=grow_mk hbw;clear hbw;go_wp2_with fail
            ((with_reducible refine(HDI.out _).mono ?_);rintro e w' ⟨rfl,rfl⟩)
            have HM8:=Lib.hid (HM7.out.grow m7);clear HM7 HA2;generalize grow _ m7=we at *
            cases bd with
            | false =>
              have hE2:E=p3:=by rw[← hsx];rfl
              subst hE2;clear hsx;go_wp2_with fail;go_meet;exact HM8
            | true =>
              have hp6:=hp5 rfl;rw[if_pos rfl]at hsx
              have hset:Moved w1 (we.setCell ⟨B,1,none⟩ (.int .i64 ((p3:Int)+2))) B oa cap b o l (p3+2):=by have:=HM8.out.set (j:=p3+2) (by omega);simpa using this
              have hdg:=digits3_any hset.rd;rw[hsx]at hdg;have HDG:=Lib.hid hdg;have HS:=Lib.hid hset;have hblk:=HM8.out.rd.blk;have cr0:we.cell? ⟨B,0,none⟩=some (.slice oa l.length cap):=(hblk).cell 0;have fcr0:=(hblk).frozen 0;have cr1:we.cell? ⟨B,1,none⟩=some (.int .i64 (p3:Int)):=(hblk).cell 1;have fcr1:=(hblk).frozen 1;have lcr:=(hblk).lt;clear hblk hset HM8 hsx hdg;go_wp2_with fail
              ((with_reducible refine HDG.out.mono ?_);rintro e w4 ⟨rfl,hmv⟩)
              have HM9:=Lib.hid (HS.out.next hmv);clear hmv HS HDG cr0 cr1 fcr0 fcr1 lcr;go_wp2_with fail;go_meet;exact HM9
         · rw[if_neg hsn]at hsx
           have k1:(d==43)=false:=by rw[beq_eq_false_iff_ne];exact fun e=>hsn (Or.inl e)
           have k2:(d==45)=false:=by rw[beq_eq_false_iff_ne];exact fun e=>hsn (Or.inr e)
           have hA2:=at1_any HM7.out.rd;rw[HD.out]at hA2;have HA2:=Lib.hid hA2
           have hdi:=fun w=>digit3_any d w
           obtain⟨bd,hbd⟩:∃ bd,digitI d=bd:=⟨_,rfl⟩;have hp5:=@digit_lt l (p3+1);rw[HD.out]at hp5;rw[hbd]at hdi hsx hp5;have HDI:=Lib.hid hdi;clear hdi hbd hsn hA2;go_wp2_with fail;go_wp2_with fail
           ((with_reducible refine(HA2.out).mono ?_);rintro e w' ⟨rfl,hbw⟩)
           obtain⟨m7,rfl⟩:=grow_mk hbw;clear hbw;go_wp2_with fail
           ((with_reducible refine(HDI.out _).mono ?_);rintro e w' ⟨rfl,rfl⟩)
           have HM8:=Lib.hid (HM7.out.grow m7);clear HM7 HA2;generalize grow _ m7=we at *
           cases bd with
           | false =>
             have hE2:E=p3:=by rw[← hsx];rfl
             subst hE2;clear hsx;go_wp2_with fail;go_meet;exact HM8
           | true =>
             have hp6:=hp5 rfl;rw[if_pos rfl]at hsx
             have hset:Moved w1 (we.setCell ⟨B,1,none⟩ (.int .i64 ((p3:Int)+1))) B oa cap b o l (p3+1):=by have:=HM8.out.set (j:=p3+1) (by omega);simpa using this
             have hdg:=digits3_any hset.rd;rw[hsx]at hdg;have HDG:=Lib.hid hdg;have HS:=Lib.hid hset;have hblk:=HM8.out.rd.blk;have cr0:we.cell? ⟨B,0,none⟩=some (.slice oa l.length cap):=(hblk).cell 0;have fcr0:=(hblk).frozen 0;have cr1:we.cell? ⟨B,1,none⟩=some (.int .i64 (p3:Int)):=(hblk).cell 1;have fcr1:=(hblk).frozen 1;have lcr:=(hblk).lt;clear hblk hset HM8 hsx hdg;go_wp2_with fail
             ((with_reducible refine HDG.out.mono ?_);rintro e w4 ⟨rfl,hmv⟩)
             have HM9:=Lib.hid (HS.out.next hmv);clear hmv HS HDG cr0 cr1 fcr0 fcr1 lcr;go_wp2_with fail;go_meet;exact HM9
      case rest =>
       have HM7:=hcut;clear HM6 hb3 hsx hir hcut;obtain⟨oa',ha',hsl⟩:=slice_runes (oa:=oa) (b:=b) (o:=o) (N:=l.length) (cap:=cap) (i:=i) (e:=E) (fun hp=>(HM7.out.rd.sl.lies hp).1) (by omega) h4b HM7.out.rd.sl.le;obtain⟨X,hX⟩:∃ X,(l.drop i).take (E-i)=X:=⟨_,rfl⟩
       have hXl:X.length=E-i:=by rw[← hX,List.length_take,List.length_drop];omega
       have hX32:∀ x∈X,I32 x:=fun x hx=>HR.out.rng x (List.mem_of_mem_drop (List.mem_of_mem_take (by rw[hX];exact hx)))
       have hXs:∀ wy,Below wc.heap.size wc wy→Sl wy oa' X.length (cap-i) b (o+i) 1 (runesV X):=fun wy hy=>by
        have:=(HM7.out.below hy).rd.sl.mid (oa':=oa') (i:=i) (e:=E) (by omega) h4b ha';rw[hXl,← hX];simpa[runesV,List.map_take,List.map_drop] using this
       have htx:=fun wy hy=>text_of X oa' (cap-i) b (o+i) wy (hXs wy hy) hX32 (by omega)
       rw[hXl]at htx;have hel:=encF_len X
       have hdc:=fun wy=>rdecimal_any (encF X) wy (by omega)
       have hG:=HG.out;rw[hX]at hG;obtain⟨⟨⟨dn,dd⟩,di,dok⟩,hdf⟩:∃ d,decimalF (encF X)=d:=⟨_,rfl⟩;rw[hdf]at hdc hG;simp only[rv]at hdc hG;obtain⟨er,her⟩:∃ x,errF dok=x:=⟨_,rfl⟩;rw[her]at hdc;have HTX:=Lib.hid htx;have HDC:=Lib.hid hdc;have HG:=Lib.hid hG;have hblk:=HM7.out.rd.blk;have cr0:wc.cell? ⟨B,0,none⟩=some (.slice oa l.length cap):=(hblk).cell 0;have fcr0:=(hblk).frozen 0;have cr1:wc.cell? ⟨B,1,none⟩=some (.int .i64 (E:Int)):=(hblk).cell 1;have fcr1:=(hblk).frozen 1;have lcr:=(hblk).lt;clear hblk hXs hX32 hX hXl htx hdc hG hdf her ha' hel
       go_upto_region 18 with fail
       have hb0:Below wc.heap.size wc wc:=Below.refl _ _;have hszw:=HM7.out.gb.size
       go_cut [8,9,10] from 80 to 95 (fun s8 s9 s10 wx=>∃ g:Nat,s8=.pointer (some ⟨g,0,none⟩)∧s9=.bool di∧s10=.int .i64 er∧wc.heap.size≤g∧Hid (Below wc.heap.size wc wx)∧Hid (Blk wx g 28 #[.int .i64 dn,.int .i64 dd]))
       case first =>
        go_region_held3 (fun w'=>w'.cell? ⟨B,0,none⟩=some (.slice oa l.length cap)∧w'.cell? ⟨B,1,none⟩=some (.int .i64 (E:Int))) (first|go_keep|exact keep_cells HM7.out.rd (by repeat (first|with_reducible exact hb0 | with_reducible refine Below.drew ?_ | with_reducible refine below_grow ?_ _ | with_reducible refine below_alloc_self ?_ _ | (with_reducible refine Below.setCell ?_ ?hq _;case hq=>(dsimp only;first | (simp;done) | (refine(Below.size (B:=wc.heap.size) (w:=wc) ?_);repeat (first|with_reducible exact hb0 | with_reducible refine Below.drew ?_ | with_reducible refine below_grow ?_ _ | with_reducible refine below_alloc_self ?_ _))))))) (first | (go_at_call 110;(with_reducible refine(HTX.out _ (by repeat (first|with_reducible exact hb0 | with_reducible refine Below.drew ?_ | with_reducible refine below_grow ?_ _ | with_reducible refine below_alloc_self ?_ _))).mono ?_);rintro e w' ⟨rfl,hbw⟩;obtain⟨m7,rfl⟩:=grow_mk hbw;clear hbw) | (go_at_call 144;(with_reducible refine(HDC.out _).mono ?_);rintro e w' ⟨rfl,hbw⟩;obtain⟨m8,rfl⟩:=grow_mk hbw;clear hbw))
        · go_wp2_with fail;go_meet;exact⟨_,rfl,rfl,rfl,(Below.size (B:=wc.heap.size) (w:=wc) (by repeat (first|with_reducible exact hb0 | with_reducible refine Below.drew ?_ | with_reducible refine below_grow ?_ _ | with_reducible refine below_alloc_self ?_ _))),Lib.hid (by repeat (first|with_reducible exact hb0 | with_reducible refine Below.drew ?_ | with_reducible refine below_grow ?_ _ | with_reducible refine below_alloc_self ?_ _)),Lib.hid (Blk.new _ _ _)⟩
        · go_wp2_with fail;go_meet;exact⟨_,rfl,rfl,rfl,(Below.size (B:=wc.heap.size) (w:=wc) (by repeat (first|with_reducible exact hb0 | with_reducible refine Below.drew ?_ | with_reducible refine below_grow ?_ _ | with_reducible refine below_alloc_self ?_ _))),Lib.hid (by repeat (first|with_reducible exact hb0 | with_reducible refine Below.drew ?_ | with_reducible refine below_grow ?_ _ | with_reducible refine below_alloc_self ?_ _ | (with_reducible refine Below.setCell ?_ ?hq _;case hq=>(dsimp only;first | (simp;done) | (refine(Below.size (B:=wc.heap.size) (w:=wc) ?_);repeat (first|with_reducible exact hb0 | with_reducible refine Below.drew ?_ | with_reducible refine below_grow ?_ _ | with_reducible refine below_alloc_self ?_ _)))))),Lib.hid (((((Blk.new _ 28 #[.int .i64 0,.int .i64 0]).grow _).put 0 _).put 1 _).to rfl)⟩
        · go_wp2_with fail;go_meet;exact⟨_,rfl,rfl,rfl,Nat.le_refl _,Lib.hid (by repeat (first|with_reducible exact hb0 | with_reducible refine Below.drew ?_ | with_reducible refine below_grow ?_ _ | with_reducible refine below_alloc_self ?_ _ | (with_reducible refine Below.setCell ?_ ?hq _;case hq=>(dsimp only;first | (simp;done) | (refine(Below.size (B:=wc.heap.size) (w:=wc) ?_);repeat (first|with_reducible exact hb0 | with_reducible refine Below.drew ?_ | with_reducible refine below_grow ?_ _ | with_reducible refine below_alloc_self ?_ _)))))),Lib.hid (((((show Blk (wc.alloc (.cells #[.int .i64 0,.int .i64 0] 28)).drew wc.heap.size 28 #[.int .i64 0,.int .i64 0] from Blk.new wc 28 #[.int .i64 0,.int .i64 0]).grow _).put 0 _).put 1 _).to rfl)⟩
       case rest =>
        obtain⟨g,rfl,rfl,rfl,hg,hbx,hN⟩:=hcut;have HM8:=Lib.hid (HM7.out.below hbx.out);have hN2:=hN.out;have hsz8:=hbx.out.size;have hw1:=HW.out.gb.size
        have hg1:w.heap.size≤g:=by omega
        have hsz9:=HM8.out.gb.size;clear HM7 HTX HDC hsl hb0 cr0 cr1 fcr0 fcr1 lcr hbx hN hsz8 hg hszw;have cn0:wc.cell? ⟨g,0,none⟩=some (.int .i64 dn):=(hN2).cell 0;have fcn0:=(hN2).frozen 0;have cn1:wc.cell? ⟨g,1,none⟩=some (.int .i64 dd):=(hN2).cell 1;have fcn1:=(hN2).frozen 1;have lcn:=(hN2).lt
        go_upto_region 20 with fail
        have hTk:=Blk.new wc 85 #[.int .i64 10,.string ⟨#[]⟩,.int .i64 dn,.int .i64 dd,.bool di,.bool false];have HM9:=Lib.hid (HM8.out.alloc (.cells #[.int .i64 10,.string ⟨#[]⟩,.int .i64 dn,.int .i64 dd,.bool di,.bool false] 85));obtain⟨g2,hg2⟩:∃ g2,wc.heap.size=g2:=⟨_,rfl⟩;rw[hg2]at hTk;clear cn0 cn1 fcn0 fcn1 lcn hN2 HM8
        have hg2w:w.heap.size≤g2:=by omega
        have hr0l:=HT.out.lt
        have hg2r:r0<g2:=by omega
        have HTk:=Lib.hid hTk;clear hTk;generalize wc.alloc _=wd at *;obtain⟨e0,he0⟩:∃ c,aF l E=c:=⟨_,rfl⟩;obtain⟨e1,he1⟩:∃ c,aF l (E+1)=c:=⟨_,rfl⟩;obtain⟨e2,he2⟩:∃ c,aF l (E+2)=c:=⟨_,rfl⟩;have hG:=HG.out;rw[he0,he1,he2]at hG;have hA:=at0_any HM9.out.rd;rw[he0]at hA;have HA:=Lib.hid hA;go_wp2_with fail
        ((with_reducible refine(HA.out).mono ?_);rintro e w' ⟨rfl,hbw⟩)
        obtain⟨n1,rfl⟩:=grow_mk hbw;clear hbw;have HMa:=Lib.hid (HM9.out.grow n1);have HTa:=Lib.hid (HTk.out.grow n1);clear HM9 HTk HA hA;generalize grow _ n1=we at *;have hA:=at1_any HMa.out.rd;rw[he1]at hA;have HA:=Lib.hid hA;go_wp2_with fail
        ((with_reducible refine(HA.out).mono ?_);rintro e w' ⟨rfl,hbw⟩)
        obtain⟨n2,rfl⟩:=grow_mk hbw;clear hbw;have HMb:=Lib.hid (HMa.out.grow n2);have HTb:=Lib.hid (HTa.out.grow n2);clear HMa HTa HA hA;generalize grow _ n2=wf at *;have hA:=at2_any HMb.out.rd;rw[he2]at hA;have HA:=Lib.hid hA
        have hbg:=fun w=>begins_any e0 e1 e2 w
        obtain⟨bg,hbge⟩:∃ bg,beginsI e0 e1 e2=bg:=⟨_,rfl⟩;rw[hbge]at hbg hG;have HBG:=Lib.hid hbg;clear hbg hbge;go_wp2_with fail
        ((with_reducible refine(HA.out).mono ?_);rintro e w' ⟨rfl,hbw⟩)
        obtain⟨n3,rfl⟩:=grow_mk hbw;clear hbw;go_wp2_with fail
        ((with_reducible refine(HBG.out _).mono ?_);rintro e w' ⟨rfl,rfl⟩)
        have HMc:=Lib.hid (HMb.out.grow n3);have HTc:=Lib.hid (HTb.out.grow n3);clear HMb HTb HA hA HBG;generalize grow _ n3=wg at *
        cases bg with
        | true =>
          rw[if_pos rfl]at hG;have hnm:=name_any HMc.out.rd;obtain⟨⟨s,q⟩,hs⟩:∃ S,nameF l E=S:=⟨_,rfl⟩;rw[hs]at hnm hG;have HNM:=Lib.hid hnm;have HG3:=Lib.hid hG;clear hnm hs hG he0 he1 he2;go_wp2_with fail
          ((with_reducible refine HNM.out.mono ?_);rintro e w5 ⟨rfl,hmv⟩)
          have HMd:=Lib.hid (HMc.out.next hmv);have hTk:=HTc.out.mvd hmv (by omega);have hTz:=HT.out.mvd HMd.out (by omega);have ck0:w5.cell? ⟨g2,0,none⟩=some (.int .i64 10):=(hTk).cell 0;have fck0:=(hTk).frozen 0;have ck1:w5.cell? ⟨g2,1,none⟩=some (.string ⟨#[]⟩):=(hTk).cell 1;have fck1:=(hTk).frozen 1;have ck2:w5.cell? ⟨g2,2,none⟩=some (.int .i64 dn):=(hTk).cell 2;have fck2:=(hTk).frozen 2;have ck3:w5.cell? ⟨g2,3,none⟩=some (.int .i64 dd):=(hTk).cell 3;have fck3:=(hTk).frozen 3;have ck4:w5.cell? ⟨g2,4,none⟩=some (.bool di):=(hTk).cell 4;have fck4:=(hTk).frozen 4;have ck5:w5.cell? ⟨g2,5,none⟩=some (.bool false):=(hTk).cell 5;have fck5:=(hTk).frozen 5;have lck:=(hTk).lt;have ct0:w5.cell? ⟨r0,0,none⟩=some (.int .i64 0):=(hTz).cell 0;have fct0:=(hTz).frozen 0;have ct1:w5.cell? ⟨r0,1,none⟩=some (.string ⟨#[]⟩):=(hTz).cell 1;have fct1:=(hTz).frozen 1
          have ct2:w5.cell? ⟨r0,2,none⟩=some (.int .i64 0):=(hTz).cell 2;have fct2:=(hTz).frozen 2;have ct3:w5.cell? ⟨r0,3,none⟩=some (.int .i64 0):=(hTz).cell 3;have fct3:=(hTz).frozen 3;have ct4:w5.cell? ⟨r0,4,none⟩=some (.bool false):=(hTz).cell 4;have fct4:=(hTz).frozen 4;have ct5:w5.cell? ⟨r0,5,none⟩=some (.bool false):=(hTz).cell 5;have fct5:=(hTz).frozen 5;have lct:=(hTz).lt;clear HNM hmv HMc HTc hTk hTz;go_wp2_with fail
          exact bodyPost_ret (v:=tv ⟨12,s,(dn,dd),di,false⟩) (by simp[results,Tryz.results108,go_sem,ct0,ct1,ct2,ct3,ct4,ct5,lct,tv,ck0,ck1,ck2,ck3,ck4,ck5,lck]) rfl ⟨by rw[← HG3.out],by
           have h0:=HW.out.next HMd.out;rw[← HG3.out];show Moved w _ B oa cap b o l q
           repeat (first|with_reducible exact h0 | (with_reducible refine Moved.far ?_ HR.out _ _ ?hq;case hq=>first | (show w.heap.size≤r0;omega) | (show w.heap.size≤g2;omega)))⟩
        | false =>
          rw[if_neg (by simp)]at hG;have hA:=at0_any HMc.out.rd;rw[he0]at hA;have HA:=Lib.hid hA;have hir:=@aF_lt l E;rw[he0]at hir;clear hA he0 he1 he2;go_wp2_with fail;go_wp2_with fail
          ((with_reducible refine(HA.out).mono ?_);rintro e w' ⟨rfl,hbw⟩)
          obtain⟨n4,rfl⟩:=grow_mk hbw;clear hbw;have HMd:=Lib.hid (HMc.out.grow n4);have HTd:=Lib.hid (HTc.out.grow n4);clear HMc HTc HA;generalize grow _ n4=w5 at *;have hTk:=HTd.out;have hTz:=HT.out.mvd HMd.out (by omega);have ck0:w5.cell? ⟨g2,0,none⟩=some (.int .i64 10):=(hTk).cell 0;have fck0:=(hTk).frozen 0;have ck1:w5.cell? ⟨g2,1,none⟩=some (.string ⟨#[]⟩):=(hTk).cell 1;have fck1:=(hTk).frozen 1;have ck2:w5.cell? ⟨g2,2,none⟩=some (.int .i64 dn):=(hTk).cell 2;have fck2:=(hTk).frozen 2;have ck3:w5.cell? ⟨g2,3,none⟩=some (.int .i64 dd):=(hTk).cell 3;have fck3:=(hTk).frozen 3;have ck4:w5.cell? ⟨g2,4,none⟩=some (.bool di):=(hTk).cell 4;have fck4:=(hTk).frozen 4;have ck5:w5.cell? ⟨g2,5,none⟩=some (.bool false):=(hTk).cell 5;have fck5:=(hTk).frozen 5;have lck:=(hTk).lt;have ct0:w5.cell? ⟨r0,0,none⟩=some (.int .i64 0):=(hTz).cell 0;have fct0:=(hTz).frozen 0
          have ct1:w5.cell? ⟨r0,1,none⟩=some (.string ⟨#[]⟩):=(hTz).cell 1;have fct1:=(hTz).frozen 1;have ct2:w5.cell? ⟨r0,2,none⟩=some (.int .i64 0):=(hTz).cell 2;have fct2:=(hTz).frozen 2;have ct3:w5.cell? ⟨r0,3,none⟩=some (.int .i64 0):=(hTz).cell 3;have fct3:=(hTz).frozen 3;have ct4:w5.cell? ⟨r0,4,none⟩=some (.bool false):=(hTz).cell 4;have fct4:=(hTz).frozen 4;have ct5:w5.cell? ⟨r0,5,none⟩=some (.bool false):=(hTz).cell 5;have fct5:=(hTz).frozen 5;have lct:=(hTz).lt
          by_cases h37:e0=37
          · subst h37;rw[if_pos rfl]at hG;have HG3:=Lib.hid hG;have hE1:=hir (by decide)
            have hset:∀ wz,Moved w1 wz B oa cap b o l E→Moved w1 (wz.setCell ⟨B,1,none⟩ (.int .i64 ((E:Int)+1))) B oa cap b o l (E+1):=fun wz hz=>by have:=hz.set (j:=E+1) (by omega);simpa using this
            have hMk:Moved w1 (w5.setCell ⟨g2,0,none⟩ (.int .i64 11)) B oa cap b o l E:=HMd.out.push HR1.out (grownBy_set w5 ⟨g2,0,none⟩ _) (fun k hk=>by cases hk;show w1.heap.size≤g2;omega);have HMe:=Lib.hid (hset _ hMk);have hblk:=HMd.out.rd.blk;have cr0:w5.cell? ⟨B,0,none⟩=some (.slice oa l.length cap):=(hblk).cell 0;have fcr0:=(hblk).frozen 0;have cr1:w5.cell? ⟨B,1,none⟩=some (.int .i64 (E:Int)):=(hblk).cell 1;have fcr1:=(hblk).frozen 1;have lcr:=(hblk).lt;clear hG hir hset hMk HMd hblk hTk hTz HTd
            have hne1:B≠g2:=by omega
            have hne2:r0≠g2:=by omega
            have hne3:B≠r0:=by omega
            go_wp2_with fail
            exact bodyPost_ret (v:=tv ⟨11,[],(dn,dd),di,false⟩) (by simp[results,Tryz.results108,go_sem,ct0,ct1,ct2,ct3,ct4,ct5,lct,tv,ck0,ck1,ck2,ck3,ck4,ck5,lck]) rfl ⟨by rw[← HG3.out],by
             have h0:=HW.out.next HMe.out;rw[← HG3.out];show Moved w _ B oa cap b o l (E+1)
             repeat (first|with_reducible exact h0 | (with_reducible refine Moved.far ?_ HR.out _ _ ?hq;case hq=>first | (show w.heap.size≤r0;omega) | (show w.heap.size≤g2;omega)))⟩
          · have g37:(e0==37)=false:=by simpa using h37
            rw[if_neg h37]at hG;have HG3:=Lib.hid hG;clear hG hir hTk hTz HTd h37;go_wp2_with fail
            exact bodyPost_ret (v:=tv ⟨10,[],(dn,dd),di,false⟩) (by simp[results,Tryz.results108,go_sem,ct0,ct1,ct2,ct3,ct4,ct5,lct,tv,ck0,ck1,ck2,ck3,ck4,ck5,lck]) rfl ⟨by rw[← HG3.out],by
             have h0:=HW.out.next HMd.out;rw[← HG3.out];show Moved w _ B oa cap b o l E
             repeat (first|with_reducible exact h0 | (with_reducible refine Moved.far ?_ HR.out _ _ ?hq;case hq=>first | (show w.heap.size≤r0;omega) | (show w.heap.size≤g2;omega)))⟩
end Go.Proofs.YtnahlfaehelfjaaGreatDoor
