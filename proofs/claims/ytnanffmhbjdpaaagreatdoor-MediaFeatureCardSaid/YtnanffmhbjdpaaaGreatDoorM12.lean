/- Of my texts: TokN, TokO, TokQ, TxE, TxF. -/
import Derived.Test.YtnanffmhbjdpaaaGreatDoorM00
import Derived.Test.YtnanffmhbjdpaaaGreatDoorM05
import Derived.Test.YtnanffmhbjdpaaaGreatDoorM06
import Derived.Test.YtnanffmhbjdpaaaGreatDoorM10
import Derived.Test.YtnanffmhbjdpaaaGreatDoorM11
import Derived.Deep.CutBlock
import Derived.Deep.DeepCutAuto
namespace Go.Proofs.YtnanffmhbjdpaaaGreatDoor
set_option maxHeartbeats 16000000
set_option maxRecDepth 20000
set_option linter.unusedVariables false
set_option linter.unusedSimpArgs false
open Go.RowKit
theorem Iw {w w':World} {B:Nat} {oa:Option Addr} {cap b o:Nat} {l:List Int} {i:Nat} (h:Gx w B oa cap b o l i) (hb:Below w.heap.size w w'):w'.cell? ⟨B,0,none⟩=some (.slice oa l.length cap)∧w'.cell? ⟨B,1,none⟩=some (.int .i64 (i:Int)) :=
 ⟨(h.below hb).blk.cell 0,(h.below hb).blk.cell 1⟩
def Q4j:List Int:=[21,22,19,20,23,24,18,16,17]
def Kd (w:World):Prop:=0<w.heap.size∧∀ (j:Nat) (k:Int),Q4j[j]?=some k→w.cell? ⟨0,j,none⟩=some (.int .i64 k)
theorem Kd.below {w w':World} (h:Kd w) (hb:Below w.heap.size w w'):Kd w' :=
 ⟨Qg h.1 hb.size,fun j k hk=>(hb.cell (p:=⟨0,j,none⟩) h.1).trans (h.2 j k hk)⟩
theorem Kd.grown {w w':World} {row:Option Nat} (h:Kd w) (hg:w.grownBy w' row) (hr:some 0≠row):Kd w' :=
 ⟨Qg h.1 hg.size,fun j k hk=>by
   rw[← h.2 j k hk];simp only[World.cell?]
   rw[hg.block _ h.1 hr]⟩
def U1 (t:Tk):List Value:=[.int .i64 t.kind,.string ⟨t.text.toArray⟩,.int .i64 t.num.1,.int .i64 t.num.2,.bool t.int,.bool t.id]
def Kh (l:List Tk):List Value:=l.flatMap U1
theorem Q6v:El 48 25 (.agg #[.int .i64 0,.string ⟨#[]⟩,.int .i64 0,.int .i64 0,.bool false,.bool false]) 6 48:=⟨Tryz.underlying48,by kernel_rfl,rfl,by decide⟩
theorem Q44 {w:World} {base base':Nat} {e:TypeId} {size:Nat} {v:Value} {n:Nat} {xs:List Value} (h:w.ownsRow base e size v n xs) (hb:base'≤base):w.ownsRow base' e size v n xs:=by
 refine⟨h.1,?_⟩
 rcases h.2 with h0 | ⟨g,cap,cur,hv,hg,rest⟩
 · exact .inl h0
 · exact .inr ⟨g,cap,cur,hv,Qz hb hg,rest⟩
section
variable {w:World} {B:Nat} {oa:Option Addr} {cap b o:Nat} {l:List Int} {i:Nat}
theorem Sl.six {w:World} {oa':Option Addr} (h:Sl w oa l.length cap b o 1 (Vo l)) (hl:(l.drop i).take 3=J7 Eg) (ha:oa'=some ⟨b,o+i,none⟩):Sl w oa' Eg.length (cap-i) b (o+i) 1 (Vo (J7 Eg)):=by
 have h3:i+3≤l.length:=by
  have:=congrArg List.length hl;rw[Zb,Zu,show (J7 Eg).length=3 from rfl]at this;omega
 refine⟨rfl,?_,by have:=h.max;omega,fun _=>⟨ha,(h.lies (by omega)).2⟩,fun j v hv=>?_⟩
 · have:=h.le;show 3≤_;omega
 · rw[← hl]at hv
   have hv2:(Vo l)[i+j]?=some v:=by
    unfold Vo at hv ⊢;rw[Z5,List.getElem?_take]at hv;split at hv
    · rwa [List.getElem?_drop,← Z5]at hv
    · cases hv
   rw[show o+i+j=o+(i+j) by omega];exact h.cell (i+j) v hv2
theorem Q1a (w:World) {N:Nat} (h:i+3≤N) (hc:N≤cap):(Instr.slice 77 (.slice (some ⟨b,o,none⟩) N cap) (some (.int .i64 (i:Int))) (some (.int .i64 ((i:Int)+3))) none).run Tryz.prog w=.ok (.slice (some ⟨b,o+i,none⟩) 3 (cap-i)) w:=by
 have he32:Tryz.prog.elem 77=21:=by kernel_rfl
 have h1:=run_slice_lh (P:=Tryz.prog) w 77 (some ⟨b,o,none⟩) N cap (by rw[he32];exact Tryz.underlying77) .i64 .i64 i (i+3) (by omega) (by omega) (by omega);rw[h1,he32,Tryz.sizeOf21];simp only[Result.andThen,sliced];rw[if_neg (by omega),show ((i:Int)+3).toNat-(i:Int).toNat=3 by omega];simp[Addr.add]
theorem St (h:Gx w B oa cap b o l i) (hd:Q7o l i=i+3) (hl:(l.drop i).take 3=J7 Eg) (h0:aF l i=54) (h3:aF l (i+3)=112) (h4:aF l (i+3+1)=120) (h5:aF l (i+3+2)=41) (hn:Ff B oa cap b o l (i+3) [112,120] (i+5)) :
  Calls Tryz.prog 123 #[.pointer (some ⟨B,0,none⟩)] w fun e w'=>e=.returned (tv ⟨12,[112,120],(600,1),true,false⟩)∧Jb w w' B oa cap b o l (i+5):=by
 have hB:=h.blk.lt
 have hlen:i+3≤l.length:=by
  have:=congrArg List.length hl;rw[Zb,Zu,show (J7 Eg).length=3 from rfl]at this;omega
 obtain⟨rfl,_⟩:=h.sl.lies (by omega);have HSL:=Q1 (fun w=>Q1a (w:=w) (b:=b) (o:=o) (cap:=cap) hlen h.sl.le);have HL:=Q1 hl;have HD:=Q1 hd;have HR:=Q1 h;unfold Ff at hn;have HNM:=Q1 hn;have H0:=Q1 h0;have H3:=Q1 h3;have H4:=Q1 h4;have H5:=Q1 h5;have HBG:=Q1 (fun w=>Mu 112 120 41 w)
 have hplain:Y5 Eg:=by unfold Y5 Eg;decide
 obtain⟨r0,hr0⟩:∃ r0,w.heap.size=r0:=⟨_,rfl⟩
 have hBr:B<r0:=by omega
 clear h hd hl hn h0 h3 h4 h5
 go_enter Tryz.func123,Tryz.ntmps123
 go_upto_region 1 with fail
 have HR1:=Q1 (HR.out.old (.cells #[.int .i64 0,.string ⟨#[]⟩,.int .i64 0,.int .i64 0,.bool false,.bool false] 25));have hT:=Ql.new w 25 #[.int .i64 0,.string ⟨#[]⟩,.int .i64 0,.int .i64 0,.bool false,.bool false];have HW:=Q1 ((Jb.start HR.out).alloc (.cells #[.int .i64 0,.string ⟨#[]⟩,.int .i64 0,.int .i64 0,.bool false,.bool false] 25));rw[hr0]at hT;have HT:=Q1 hT;clear hT;generalize w.alloc _=w1 at *;obtain⟨cr0,cr1,fcr1,lcr⟩:=HR1.out.duo;have hA:=Xg HR1.out;rw[H0.out]at hA;have HA:=Q1 hA;clear hA
 go_upto_region 2 with fail
 go_wp2_with fail
 ((with_reducible refine(HA.out).mono ?_);rintro e w' ⟨rfl,hbw⟩)
 obtain⟨m,rfl⟩:=Qf hbw;clear hbw;have HM1:=Q1 ((Jb.start HR1.out).grow m);clear cr0 cr1 fcr1 lcr HA;generalize grow _ m=wa at *;have hA:=Sy HM1.out.rd;rw[HD.out]at hA;have HA:=Q1 hA;clear hA;go_wp2_with fail
 ((with_reducible refine HA.out.mono ?_);rintro e w2 ⟨rfl,hmv⟩)
 have HM3:=Q1 (HM1.out.next hmv);clear hmv HM1 HA;have hA:=Xg HM3.out.rd;rw[H3.out]at hA;have HA:=Q1 hA;clear hA;go_wp2_with fail
 ((with_reducible refine(HA.out).mono ?_);rintro e w' ⟨rfl,hbw⟩)
 obtain⟨m3,rfl⟩:=Qf hbw;clear hbw;have HM4:=Q1 (HM3.out.grow m3);clear HM3 HA;generalize grow _ m3=wb at *;have hA:=Xg HM4.out.rd;rw[H3.out]at hA;have HA:=Q1 hA;clear hA;go_wp2_with fail;go_wp2_with fail
 ((with_reducible refine(HA.out).mono ?_);rintro e w' ⟨rfl,hbw⟩)
 obtain⟨m4,rfl⟩:=Qf hbw;clear hbw;have HM7:=Q1 (HM4.out.grow m4);clear HM4 HA;generalize grow _ m4=wc at *;obtain⟨cr0,cr1,fcr1,lcr⟩:=HM7.out.rd.duo;have hsl:=HSL.out;have HTX:=Q1 (show ∀ wy,Below wc.heap.size wc wy→Calls Tryz.prog 125 #[.slice (some ⟨b,o+i,none⟩) 3 (cap-i)] wy fun e w'=>e=.returned (.string ⟨#[54,48,48]⟩)∧Below wy.heap.size wy w' from fun wy hy=>Nj Eg _ _ b (o+i) wy ((HM7.out.rd.sl.below hy).six HL.out rfl) hplain (by decide));have HDC:=Q1 Mb;unfold Eg at HDC
 go_upto_region 18 with fail
 have hb0:Below wc.heap.size wc wc:=Below.refl _ _;have hszw:=HM7.out.gb.size
 go_cut [8,9,10] from 80 to 95 (fun s8 s9 s10 wx=>∃ g:Nat,s8=.pointer (some ⟨g,0,none⟩)∧s9=.bool true∧s10=.int .i64 0∧wc.heap.size≤g∧Hid (Below wc.heap.size wc wx)∧Hid (Ql wx g 23 #[.int .i64 600,.int .i64 1]))
 case first =>
  go_region_held3 (fun w'=>w'.cell? ⟨B,0,none⟩=some (.slice (some ⟨b,o,none⟩) l.length cap)∧w'.cell? ⟨B,1,none⟩=some (.int .i64 ((i:Int)+3))) (first|go_keep|exact Iw HM7.out.rd (by repeat (first|with_reducible exact hb0 | with_reducible refine Below.drew ?_ | with_reducible refine Qa ?_ _ | with_reducible refine Jd ?_ _ | (with_reducible refine Below.setCell ?_ ?hq _;case hq=>(dsimp only;first | (simp;done) | (refine(Below.size (B:=wc.heap.size) (w:=wc) ?_);repeat (first|with_reducible exact hb0 | with_reducible refine Below.drew ?_ | with_reducible refine Qa ?_ _ | with_reducible refine Jd ?_ _))))))) (first | (go_at_call 125;(with_reducible refine(HTX.out _ (by repeat (first|with_reducible exact hb0 | with_reducible refine Below.drew ?_ | with_reducible refine Qa ?_ _ | with_reducible refine Jd ?_ _))).mono ?_);rintro e w' ⟨rfl,hbw⟩;obtain⟨m7,rfl⟩:=Qf hbw;clear hbw) | (go_at_call 153;(with_reducible refine(HDC.out _).mono ?_);rintro e w' ⟨rfl,hbw⟩;obtain⟨m8,rfl⟩:=Qf hbw;clear hbw))
  all_goals
   go_wp2_with fail;go_meet
  · exact⟨_,rfl,rfl,rfl,(Below.size (B:=wc.heap.size) (w:=wc) (by repeat (first|with_reducible exact hb0 | with_reducible refine Below.drew ?_ | with_reducible refine Qa ?_ _ | with_reducible refine Jd ?_ _))),Q1 (by repeat (first|with_reducible exact hb0 | with_reducible refine Below.drew ?_ | with_reducible refine Qa ?_ _ | with_reducible refine Jd ?_ _ | (with_reducible refine Below.setCell ?_ ?hq _;case hq=>(dsimp only;first | (simp;done) | (refine(Below.size (B:=wc.heap.size) (w:=wc) ?_);repeat (first|with_reducible exact hb0 | with_reducible refine Below.drew ?_ | with_reducible refine Qa ?_ _ | with_reducible refine Jd ?_ _)))))),Q1 (Ql.new _ _ _)⟩
  · exact⟨_,rfl,rfl,rfl,(Below.size (B:=wc.heap.size) (w:=wc) (by repeat (first|with_reducible exact hb0 | with_reducible refine Below.drew ?_ | with_reducible refine Qa ?_ _ | with_reducible refine Jd ?_ _))),Q1 (by repeat (first|with_reducible exact hb0 | with_reducible refine Below.drew ?_ | with_reducible refine Qa ?_ _ | with_reducible refine Jd ?_ _ | (with_reducible refine Below.setCell ?_ ?hq _;case hq=>(dsimp only;first | (simp;done) | (refine(Below.size (B:=wc.heap.size) (w:=wc) ?_);repeat (first|with_reducible exact hb0 | with_reducible refine Below.drew ?_ | with_reducible refine Qa ?_ _ | with_reducible refine Jd ?_ _)))))),Q1 (((((Ql.new _ 23 #[.int .i64 0,.int .i64 0]).grow _).put 0 _).put 1 _).to rfl)⟩
  · exact⟨_,rfl,rfl,rfl,Q6 _,Q1 (by repeat (first|with_reducible exact hb0 | with_reducible refine Below.drew ?_ | with_reducible refine Qa ?_ _ | with_reducible refine Jd ?_ _ | (with_reducible refine Below.setCell ?_ ?hq _;case hq=>(dsimp only;first | (simp;done) | (refine(Below.size (B:=wc.heap.size) (w:=wc) ?_);repeat (first|with_reducible exact hb0 | with_reducible refine Below.drew ?_ | with_reducible refine Qa ?_ _ | with_reducible refine Jd ?_ _)))))),Q1 (((((show Ql (wc.alloc (.cells #[.int .i64 0,.int .i64 0] 23)).drew wc.heap.size 23 #[.int .i64 0,.int .i64 0] from Ql.new wc 23 #[.int .i64 0,.int .i64 0]).grow _).put 0 _).put 1 _).to rfl)⟩
 case rest =>
  obtain⟨g,rfl,rfl,rfl,hg,hbx,hN⟩:=hcut;have HM8:=Q1 (HM7.out.below hbx.out);have hsz8:=hbx.out.size;have hw1:=HW.out.gb.size
  have hg1:w.heap.size≤g:=by omega
  have hsz9:=HM8.out.gb.size;obtain⟨cn0,cn1⟩:wc.cell? ⟨g,0,none⟩=some (.int .i64 600)∧wc.cell? ⟨g,1,none⟩=some (.int .i64 1):=⟨hN.out.cell 0,hN.out.cell 1⟩;have lcn:=hN.out.lt;clear HM7 HTX HDC hsl hb0 cr0 cr1 fcr1 lcr hbx hN hsz8 hg
  go_upto_region 20 with fail
  have hTk:=Ql.new wc 25 #[.int .i64 10,.string ⟨#[]⟩,.int .i64 600,.int .i64 1,.bool true,.bool false];have HM9:=Q1 (HM8.out.alloc (.cells #[.int .i64 10,.string ⟨#[]⟩,.int .i64 600,.int .i64 1,.bool true,.bool false] 25));obtain⟨g2,hg2⟩:∃ g2,wc.heap.size=g2:=⟨_,rfl⟩;rw[hg2]at hTk;clear cn0 cn1 lcn HM8
  have hg2w:w.heap.size≤g2:=by omega
  have hr0l:=HT.out.lt
  have hg2r:r0<g2:=by omega
  have HTk:=Q1 hTk;clear hTk;generalize wc.alloc _=wd at *;have hA:=Xg HM9.out.rd;rw[H3.out]at hA;have HA:=Q1 hA;go_wp2_with fail
  ((with_reducible refine(HA.out).mono ?_);rintro e w' ⟨rfl,hbw⟩)
  obtain⟨n1,rfl⟩:=Qf hbw;clear hbw;have HMa:=Q1 (HM9.out.grow n1);have HTa:=Q1 (HTk.out.grow n1);clear HM9 HTk HA hA;generalize grow _ n1=we at *;have hA:=Px HMa.out.rd;rw[H4.out]at hA;have HA:=Q1 hA;go_wp2_with fail
  ((with_reducible refine(HA.out).mono ?_);rintro e w' ⟨rfl,hbw⟩)
  obtain⟨n2,rfl⟩:=Qf hbw;clear hbw;have HMb:=Q1 (HMa.out.grow n2);have HTb:=Q1 (HTa.out.grow n2);clear HMa HTa HA hA;generalize grow _ n2=wf at *;have hA:=Q0m HMb.out.rd;rw[H5.out]at hA;have HA:=Q1 hA;go_wp2_with fail
  ((with_reducible refine(HA.out).mono ?_);rintro e w' ⟨rfl,hbw⟩)
  obtain⟨n3,rfl⟩:=Qf hbw;clear hbw;go_wp2_with fail
  ((with_reducible refine(HBG.out _).mono ?_);rintro e w' ⟨rfl,rfl⟩)
  have HMc:=Q1 (HMb.out.grow n3);have HTc:=Q1 (HTb.out.grow n3);clear HMb HTb HA hA HBG;generalize grow _ n3=wg at *;go_wp2_with fail
  ((with_reducible refine(HNM.out _ HMc.out.rd).mono ?_);rintro e w5 ⟨rfl,hmv⟩)
  have HMd:=Q1 (HMc.out.next hmv);obtain⟨k0,q0,k1,q1,k2,q2,k3,q3,k4,q4,k5,q5,kl⟩:=(HTc.out.mvd hmv (by omega)).six;obtain⟨c0,f0,c1,f1,c2,f2,c3,f3,c4,f4,c5,f5,l0⟩:=(HT.out.mvd HMd.out (by omega)).six;clear HNM hmv HMc HTc;go_wp2_with fail
  exact bodyPost_ret (v:=tv ⟨12,[112,120],(600,1),true,false⟩) (by simp[results,Tryz.results123,go_sem,c0,c1,c2,c3,c4,c5,l0,tv,k0,k1,k2,k3,k4,k5,kl]) rfl ⟨rfl,by
   have h0:=HW.out.next HMd.out
   repeat (first|with_reducible exact h0 | (with_reducible refine Jb.far ?_ HR.out _ _ ?hq;case hq=>first | (show w.heap.size≤r0;omega) | (show w.heap.size≤g2;omega)))⟩
end
def Nx (B:Nat) (oa:Option Addr) (cap b o:Nat) (l:List Int) (i:Nat) (c d e:Int) (J:Nat) (t:Tk) (q:Nat):Prop :=
 c=40∧J=0∧t=L6 21 []∧q=i+1∨c=41∧J=1∧t=L6 22 []∧q=i+1∨c=58∧J=7∧t=L6 16 []∧q=i+1 ∨
 c=32∧J=9∧t=L6 13 []∧Q7t l i=q ∨
 (c=54∧d=48∧e=48)∧J=9∧(∀ w,Gx w B oa cap b o l i→Calls Tryz.prog 123 #[.pointer (some ⟨B,0,none⟩)] w fun e w'=>e=.returned (tv t)∧Jb w w' B oa cap b o l q) ∨
 (c=115∧d=99∧e=114∨c=97∧d=110∧e=100∨c=109∧d=105∧e=110)∧J=9∧(∀ w,Gx w B oa cap b o l i→Calls Tryz.prog 124 #[.pointer (some ⟨B,0,none⟩)] w fun e w'=>e=.returned (tv t)∧Jb w w' B oa cap b o l q)
section
variable {w:World} {B:Nat} {oa:Option Addr} {cap b o:Nat} {l:List Int} {i:Nat}
theorem Q20 {c d e:Int} {J:Nat} {t:Tk} {q:Nat} (h:Gx w B oa cap b o l i) (hil:i<l.length) (hK:Kd w) (hKB:0≠B) (hc:aF l i=c) (hd:aF l (i+1)=d) (he:aF l (i+2)=e) (hx:Nx B oa cap b o l i c d e J t q) :
  Calls Tryz.prog 84 #[.pointer (some ⟨B,0,none⟩)] w fun e w'=>e=.returned (tv t)∧Jb w w' B oa cap b o l q:=by
 have hB:=h.blk.lt;have hl:=h.len;have HR:=Q1 h;obtain⟨r0,hr0⟩:∃ r0,w.heap.size=r0:=⟨_,rfl⟩
 have hBr:B<r0:=by omega
 have hKr0:0≠r0:=by have:=hK.1;omega
 have HK:=Q1 hK;have HC:=Q1 hc;have HD:=Q1 hd;have HE:=Q1 he;have HX:=Q1 hx;clear h hK hc hd he hx
 go_enter Tryz.func84,Tryz.ntmps84
 go_upto_region 1 with fail
 have HR1:=Q1 (HR.out.old (.cells #[.int .i64 0,.string ⟨#[]⟩,.int .i64 0,.int .i64 0,.bool false,.bool false] 25));have hT:=Ql.new w 25 #[.int .i64 0,.string ⟨#[]⟩,.int .i64 0,.int .i64 0,.bool false,.bool false];have HW:=Q1 ((Jb.start HR.out).alloc (.cells #[.int .i64 0,.string ⟨#[]⟩,.int .i64 0,.int .i64 0,.bool false,.bool false] 25));have HK1:=Q1 (HK.out.below ((Below.refl _ _).alloc (Q6 _) (.cells #[.int .i64 0,.string ⟨#[]⟩,.int .i64 0,.int .i64 0,.bool false,.bool false] 25)));rw[hr0]at hT;have HT:=Q1 hT;clear hT HK;generalize w.alloc _=w1 at *;have hA:=Xg HR1.out;rw[HC.out]at hA;have HA:=Q1 hA;clear hA;go_wp2_with fail
 ((with_reducible refine(HA.out).mono ?_);rintro e w' ⟨rfl,hbw⟩)
 obtain⟨m0,rfl⟩:=Qf hbw;clear hbw;have HM1:=Q1 ((Jb.start HR1.out).grow m0);clear HA;generalize grow _ m0=wa0 at *;have hA:=Px HM1.out.rd;rw[HD.out]at hA;have HA:=Q1 hA;clear hA;go_wp2_with fail
 ((with_reducible refine(HA.out).mono ?_);rintro e w' ⟨rfl,hbw⟩)
 obtain⟨m1,rfl⟩:=Qf hbw;clear hbw;have HM2:=Q1 (HM1.out.grow m1);clear HM1 HA;generalize grow _ m1=wa1 at *;have hA:=Q0m HM2.out.rd;rw[HE.out]at hA;have HA:=Q1 hA;clear hA;go_wp2_with fail
 ((with_reducible refine(HA.out).mono ?_);rintro e w' ⟨rfl,hbw⟩)
 obtain⟨m2,rfl⟩:=Qf hbw;clear hbw;have HM3:=Q1 (HM2.out.grow m2);clear HM2 HA;generalize grow _ m2=wa2 at *
 have hEnd:∀ wz,Jb w wz B oa cap b o l q→∀ v0 v1 v2 v3 v4 v5,Jb w ((((((wz.setCell ⟨r0,0,none⟩ v0).setCell ⟨r0,1,none⟩ v1).setCell ⟨r0,2,none⟩ v2).setCell ⟨r0,3,none⟩ v3).setCell ⟨r0,4,none⟩ v4).setCell ⟨r0,5,none⟩ v5) B oa cap b o l q:=fun wz h0 _ _ _ _ _ _=>by
  repeat (first|with_reducible exact h0 | (with_reducible refine Jb.far ?_ HR.out _ _ ?hq;case hq=>(show w.heap.size≤r0;omega)))
 have HEnd:=Q1 hEnd;clear hEnd;go_wp2_with fail
 go_loopg [14] 9 (fun q s14 wr=>∃ (k:Int),s14=.int .i64 k∧0≤k∧k≤J∧wr=wa2∧9-k≤q)
 case atStart=>exact⟨0,rfl,by omega,by omega,rfl,by omega⟩
 case round =>
  obtain⟨k,rfl,hk0,hkJ,rfl,hq⟩:=hrel
  have hJ9:J≤9:=by
   have:=HX.out;unfold Nx at this;omega
  have hx:=HX.out;unfold Nx at hx
  by_cases hk:k<(J:Int)
  · have ways:k=0∨k=1∨k=2∨k=3∨k=4∨k=5∨k=6∨k=7∨k=8:=by omega
    have hg:((0:Int)<J→((40:Int)==c)=false)∧((1:Int)<J→((41:Int)==c)=false)∧((2:Int)<J→((91:Int)==c)=false)∧((3:Int)<J→((93:Int)==c)=false)∧((4:Int)<J→((123:Int)==c)=false)∧((5:Int)<J→((125:Int)==c)=false)∧((6:Int)<J→((44:Int)==c)=false)∧((7:Int)<J→((58:Int)==c)=false)∧((8:Int)<J→((59:Int)==c)=false):=by
     simp only[beq_eq_false_iff_ne];omega
    obtain⟨g0,g1,g2,g3,g4,g5,g6,g7,g8⟩:=hg;clear hx
    rcases ways with rfl|rfl|rfl|rfl|rfl|rfl|rfl|rfl|rfl
    all_goals
     first|have gx:=g0 hk|have gx:=g1 hk|have gx:=g2 hk|have gx:=g3 hk|have gx:=g4 hk|have gx:=g5 hk|have gx:=g6 hk|have gx:=g7 hk|have gx:=g8 hk
     clear g0 g1 g2 g3 g4 g5 g6 g7 g8;go_wp2_with fail
     go_roundg (gk-1)
     case measure=>omega
     case rel=>exact⟨_,rfl,by omega,by omega,rfl,by omega⟩
  · obtain rfl:k=(J:Int):=by omega
    have hKz:=HK1.out.grown HM3.out.gb (by simpa using hKB);have hK0:=hKz.2 0 _ rfl;have hK1:=hKz.2 1 _ rfl;have hK7:=hKz.2 7 _ rfl;have hKl:=hKz.1;clear hKz HX hkJ hk
    rcases hx with hx|hx|hx|⟨rfl,rfl,rfl,hb⟩ | ⟨⟨rfl,rfl,rfl⟩,rfl,hf⟩ | ⟨hx,rfl,hf⟩
    rotate_left 3
    · have HB:=Q1 (fun w=>Ec 32 w);have HX:=Q1 (Ts HM3.out.rd);rw[hb]at HX;go_wp2_with fail;go_wp2_with fail
      ((with_reducible refine(HB.out _).mono ?_);rintro e w' ⟨rfl,rfl⟩)
      go_wp2_with fail
      ((with_reducible refine HX.out.mono ?_);rintro e w5 ⟨rfl,hmv⟩)
      have HM9:=Q1 (HM3.out.next hmv);obtain⟨c0,f0,c1,f1,c2,f2,c3,f3,c4,f4,c5,f5,l0⟩:=(HT.out.mvd HM9.out (by omega)).six;clear hmv HX;go_wp2_with fail;exact bodyPost_ret (v:=tv (L6 13 [])) (by simp[results,Tryz.results84,go_sem,c0,c1,c2,c3,c4,c5,l0,tv,L6]) rfl ⟨rfl,by with_reducible exact HEnd.out _ (HW.out.next HM9.out) _ _ _ _ _ _⟩
    · have HB:=Q1 (fun w=>Ec 54 w);have HN:=Q1 (fun w=>Fq 54 48 48 w);obtain⟨uk,ut,⟨un,ud⟩,ui,uid⟩:=t;have hf1:=hf _ HM3.out.rd;simp only[tv]at hf1;have HF:=Q1 hf1;clear hf hf1;go_wp2_with fail;go_wp2_with fail
      ((with_reducible refine(HB.out _).mono ?_);rintro e w' ⟨rfl,rfl⟩)
      go_wp2_with fail;go_wp2_with fail
      ((with_reducible refine(HN.out _).mono ?_);rintro e w' ⟨rfl,rfl⟩)
      go_wp2_with fail
      ((with_reducible refine HF.out.mono ?_);rintro e w5 ⟨rfl,hmv⟩)
      have HM9:=Q1 (HM3.out.next hmv);obtain⟨c0,f0,c1,f1,c2,f2,c3,f3,c4,f4,c5,f5,l0⟩:=(HT.out.mvd HM9.out (by omega)).six;clear hmv HF;go_wp2_with fail;exact bodyPost_ret (v:=tv ⟨uk,ut,(un,ud),ui,uid⟩) (by simp[results,Tryz.results84,go_sem,c0,c1,c2,c3,c4,c5,l0,tv]) rfl ⟨rfl,by with_reducible exact HEnd.out _ (HW.out.next HM9.out) _ _ _ _ _ _⟩
    · have HB:=Q1 (fun w=>Ec c w);have HN:=Q1 (fun w=>Fq c d e w);have HG:=Q1 (fun w=>Mu c d e w);obtain⟨uk,ut,⟨un,ud⟩,ui,uid⟩:=t;have hf1:=hf _ HM3.out.rd;simp only[tv]at hf1;have HF:=Q1 hf1;clear hf hf1
      rcases hx with ⟨rfl,rfl,rfl⟩ | ⟨rfl,rfl,rfl⟩ | ⟨rfl,rfl,rfl⟩
      all_goals
       go_wp2_with fail;go_wp2_with fail
       ((with_reducible refine(HB.out _).mono ?_);rintro e w' ⟨rfl,rfl⟩)
       go_wp2_with fail;go_wp2_with fail
       ((with_reducible refine(HN.out _).mono ?_);rintro e w' ⟨rfl,rfl⟩)
       go_wp2_with fail;go_wp2_with fail
       ((with_reducible refine(HG.out _).mono ?_);rintro e w' ⟨rfl,rfl⟩)
       go_wp2_with fail
       ((with_reducible refine HF.out.mono ?_);rintro e w5 ⟨rfl,hmv⟩)
       have HM9:=Q1 (HM3.out.next hmv);obtain⟨c0,f0,c1,f1,c2,f2,c3,f3,c4,f4,c5,f5,l0⟩:=(HT.out.mvd HM9.out (by omega)).six;clear hmv HF;go_wp2_with fail;exact bodyPost_ret (v:=tv ⟨uk,ut,(un,ud),ui,uid⟩) (by simp[results,Tryz.results84,go_sem,c0,c1,c2,c3,c4,c5,l0,tv]) rfl ⟨rfl,by with_reducible exact HEnd.out _ (HW.out.next HM9.out) _ _ _ _ _ _⟩
    all_goals
     obtain⟨rfl,rfl,ht,rfl⟩:=hx;have HS:Hid (Jb w1 (wr.setCell ⟨B,1,none⟩ (.int .i64 ((i:Int)+1))) B oa cap b o l (i+1)):=Q1 (by have:=HM3.out.set (j:=i+1) (by omega);simpa using this);obtain⟨cr0,cr1,fcr1,lcr⟩:=HM3.out.rd.duo;obtain⟨c0,f0,c1,f1,c2,f2,c3,f3,c4,f4,c5,f5,l0⟩:=(HT.out.mvd HM3.out (by omega)).six;go_wp2_with fail;exact bodyPost_ret (v:=tv t) (by rw[ht];simp[results,Tryz.results84,go_sem,c0,c1,c2,c3,c4,c5,l0,tv,L6]) rfl ⟨rfl,by with_reducible exact HEnd.out _ (HW.out.next HS.out) _ _ _ _ _ _⟩
end
end Go.Proofs.YtnanffmhbjdpaaaGreatDoor
