/- Of my texts: TokN, TokO, TokQ, CnE, TyF. -/
import Derived.Test.YtnbkbenkhkinoaaGreatDoorM05
import Derived.Test.YtnbkbenkhkinoaaGreatDoorM11
import Derived.Test.YtnbkbenkhkinoaaGreatDoorM12
import Derived.Test.YtnbkbenkhkinoaaGreatDoorM14
import Derived.Deep.CutBlock
import Derived.Deep.DeepCutAuto
namespace Go.Proofs.YtnbkbenkhkinoaaGreatDoor
set_option linter.unusedVariables false
set_option linter.unusedSimpArgs false
open Go.RowKit
theorem keep_cells {w w':World} {B:Nat} {oa:Option Addr} {cap b o:Nat} {l:List Int} {i:Nat} (h:RAt w B oa cap b o l i) (hb:Below w.heap.size w w'):w'.cell? ⟨B,0,none⟩=some (.slice oa l.length cap)∧w'.cell? ⟨B,1,none⟩=some (.int .i64 (i:Int)) :=
 ⟨(h.below hb).blk.cell 0,(h.below hb).blk.cell 1⟩
def kindsL:List Int:=[21,22,19,20,23,24,18,16,17]
def Kd (w:World):Prop:=0<w.heap.size∧∀ (j:Nat) (k:Int),kindsL[j]?=some k→w.cell? ⟨0,j,none⟩=some (.int .i64 k)
theorem Kd.below {w w':World} (h:Kd w) (hb:Below w.heap.size w w'):Kd w' :=
 ⟨Nat.lt_of_lt_of_le h.1 hb.size,fun j k hk=>(hb.cell (p:=⟨0,j,none⟩) h.1).trans (h.2 j k hk)⟩
theorem Kd.grown {w w':World} {row:Option Nat} (h:Kd w) (hg:w.grownBy w' row) (hr:some 0≠row):Kd w' :=
 ⟨Nat.lt_of_lt_of_le h.1 hg.size,fun j k hk=>by
   rw[← h.2 j k hk];simp only[World.cell?]
   rw[hg.block _ h.1 hr]⟩
def tkcells (t:Tk):List Value:=[.int .i64 t.kind,.string ⟨t.text.toArray⟩,.int .i64 t.num.1,.int .i64 t.num.2,.bool t.int,.bool t.id]
def toksV (l:List Tk):List Value:=l.flatMap tkcells
theorem elTok:El 110 102 (.agg #[.int .i64 0,.string ⟨#[]⟩,.int .i64 0,.int .i64 0,.bool false,.bool false]) 6 48:=⟨Tryz.underlying110,by kernel_rfl,rfl,by decide⟩
theorem owns_low {w:World} {base base':Nat} {e:TypeId} {size:Nat} {v:Value} {n:Nat} {xs:List Value} (h:w.ownsRow base e size v n xs) (hb:base'≤base):w.ownsRow base' e size v n xs:=by
 refine⟨h.1,?_⟩
 rcases h.2 with h0 | ⟨g,cap,cur,hv,hg,rest⟩
 · exact .inl h0
 · exact .inr ⟨g,cap,cur,hv,Nat.le_trans hb hg,rest⟩
section
variable {w:World} {B:Nat} {oa:Option Addr} {cap b o:Nat} {l:List Int} {i:Nat}
theorem Sl.ten {w:World} {oa':Option Addr} (h:Sl w oa l.length cap b o 1 (runesV l)) (hl:(l.drop i).take 2=runeF tenL) (ha:oa'=some ⟨b,o+i,none⟩):Sl w oa' tenL.length (cap-i) b (o+i) 1 (runesV (runeF tenL)):=by
 have h3:i+2≤l.length:=by
  have:=congrArg List.length hl;rw[List.length_take,List.length_drop,show (runeF tenL).length=2 from rfl]at this;omega
 refine⟨rfl,?_,by have:=h.max;omega,fun _=>⟨ha,(h.lies (by omega)).2⟩,fun j v hv=>?_⟩
 · have:=h.le;show 2≤_;omega
 · rw[← hl]at hv
   have hv2:(runesV l)[i+j]?=some v:=by
    unfold runesV at hv ⊢;rw[List.getElem?_map,List.getElem?_take]at hv;split at hv
    · rwa [List.getElem?_drop,← List.getElem?_map]at hv
    · cases hv
   rw[show o+i+j=o+(i+j) by omega];exact h.cell (i+j) v hv2
theorem slice_ten (w:World) {N:Nat} (h:i+2≤N) (hc:N≤cap):(Instr.slice 141 (.slice (some ⟨b,o,none⟩) N cap) (some (.int .i64 (i:Int))) (some (.int .i64 ((i:Int)+2))) none).run Tryz.prog w=.ok (.slice (some ⟨b,o+i,none⟩) 2 (cap-i)) w:=by
 have he32:Tryz.prog.elem 141=21:=by kernel_rfl
 have h1:=run_slice_lh (P:=Tryz.prog) w 141 (some ⟨b,o,none⟩) N cap (by rw[he32];exact Tryz.underlying141) .i64 .i64 i (i+2) (by omega) (by omega) (by omega);rw[h1,he32,Tryz.sizeOf21];simp only[Result.andThen,sliced];rw[if_neg (by omega),show ((i:Int)+2).toNat-(i:Int).toNat=2 by omega];simp[Addr.add]
set_option maxRecDepth 20000 in
set_option maxHeartbeats 8000000 in
theorem figureE_any (h:RAt w B oa cap b o l i) (hd:digF l i=i+2) (hl:(l.drop i).take 2=runeF tenL) (h0:aF l i=49) (h3:aF l (i+2)=101) (h4:aF l (i+2+1)=109) (h5:aF l (i+2+2)=41) (hn:NameIs B oa cap b o l (i+2) [101,109] (i+4)) :
  Calls Tryz.prog 154 #[.pointer (some ⟨B,0,none⟩)] w fun e w'=>e=.returned (tv ⟨12,[101,109],(10,1),true,false⟩)∧Moved w w' B oa cap b o l (i+4):=by
 have hB:=h.blk.lt
 have hlen:i+2≤l.length:=by
  have:=congrArg List.length hl;rw[List.length_take,List.length_drop,show (runeF tenL).length=2 from rfl]at this;omega
 obtain⟨rfl,_⟩:=h.sl.lies (by omega);have HSL:=Lib.hid (fun w=>slice_ten (w:=w) (b:=b) (o:=o) (cap:=cap) hlen h.sl.le);have HL:=Lib.hid hl;have HD:=Lib.hid hd;have HR:=Lib.hid h;unfold NameIs at hn;have HNM:=Lib.hid hn;have H0:=Lib.hid h0;have H3:=Lib.hid h3;have H4:=Lib.hid h4;have H5:=Lib.hid h5;have HBG:=Lib.hid (fun w=>begins_any 101 109 41 w)
 have hplain:plainB tenL:=by unfold plainB tenL;decide
 obtain⟨r0,hr0⟩:∃ r0,w.heap.size=r0:=⟨_,rfl⟩
 have hBr:B<r0:=by omega
 clear h hd hl hn h0 h3 h4 h5
 go_enter Tryz.func154,Tryz.ntmps154
 go_upto_region 1 with fail
 have HR1:=Lib.hid (HR.out.old (.cells #[.int .i64 0,.string ⟨#[]⟩,.int .i64 0,.int .i64 0,.bool false,.bool false] 102));have hT:=Blk.new w 102 #[.int .i64 0,.string ⟨#[]⟩,.int .i64 0,.int .i64 0,.bool false,.bool false];have HW:=Lib.hid ((Moved.start HR.out).alloc (.cells #[.int .i64 0,.string ⟨#[]⟩,.int .i64 0,.int .i64 0,.bool false,.bool false] 102));rw[hr0]at hT;have HT:=Lib.hid hT;clear hT;generalize w.alloc _=w1 at *;obtain⟨cr0,cr1,fcr1,lcr⟩:=HR1.out.duo;have hA:=at0_any HR1.out;rw[H0.out]at hA;have HA:=Lib.hid hA;clear hA
 go_upto_region 2 with fail
 go_wp2_with fail
 ((with_reducible refine(HA.out).mono ?_);rintro e w' ⟨rfl,hbw⟩)
 obtain⟨m,rfl⟩:=grow_mk hbw;clear hbw;have HM1:=Lib.hid ((Moved.start HR1.out).grow m);clear cr0 cr1 fcr1 lcr HA;generalize grow _ m=wa at *;have hA:=digits3_any HM1.out.rd;rw[HD.out]at hA;have HA:=Lib.hid hA;clear hA;go_wp2_with fail
 ((with_reducible refine HA.out.mono ?_);rintro e w2 ⟨rfl,hmv⟩)
 have HM3:=Lib.hid (HM1.out.next hmv);clear hmv HM1 HA;have hA:=at0_any HM3.out.rd;rw[H3.out]at hA;have HA:=Lib.hid hA;clear hA;go_wp2_with fail
 ((with_reducible refine(HA.out).mono ?_);rintro e w' ⟨rfl,hbw⟩)
 obtain⟨m3,rfl⟩:=grow_mk hbw;clear hbw;have HM4:=Lib.hid (HM3.out.grow m3);clear HM3 HA;generalize grow _ m3=wb at *;have hA:=at0_any HM4.out.rd;rw[H3.out]at hA;have HA:=Lib.hid hA;clear hA;have HDI:=Lib.hid (fun w=>digit3_any 109 w);go_wp2_with fail;go_wp2_with fail
 ((with_reducible refine(HA.out).mono ?_);rintro e w' ⟨rfl,hbw⟩)
 obtain⟨m4,rfl⟩:=grow_mk hbw;clear hbw;have HM5:=Lib.hid (HM4.out.grow m4);clear HM4 HA;generalize grow _ m4=wy at *;have hA:=at1_any HM5.out.rd;rw[H4.out]at hA;have HA:=Lib.hid hA;clear hA;go_wp2_with fail;go_wp2_with fail
 ((with_reducible refine(HA.out).mono ?_);rintro e w' ⟨rfl,hbw⟩)
 obtain⟨m5,rfl⟩:=grow_mk hbw;clear hbw;have HM6:=Lib.hid (HM5.out.grow m5);clear HM5 HA;generalize grow _ m5=wx at *;have hA:=at1_any HM6.out.rd;rw[H4.out]at hA;have HA:=Lib.hid hA;clear hA;go_wp2_with fail;go_wp2_with fail
 ((with_reducible refine(HA.out).mono ?_);rintro e w' ⟨rfl,hbw⟩)
 obtain⟨m6,rfl⟩:=grow_mk hbw;clear hbw;go_wp2_with fail
 ((with_reducible refine(HDI.out _).mono ?_);rintro e w' ⟨rfl,rfl⟩)
 have HM7:=Lib.hid (HM6.out.grow m6);clear HM6 HA;generalize grow _ m6=wc at *;obtain⟨cr0,cr1,fcr1,lcr⟩:=HM7.out.rd.duo;have hsl:=HSL.out;have HTX:=Lib.hid (show ∀ wy,Below wc.heap.size wc wy→Calls Tryz.prog 156 #[.slice (some ⟨b,o+i,none⟩) 2 (cap-i)] wy fun e w'=>e=.returned (.string ⟨#[49,48]⟩)∧Below wy.heap.size wy w' from fun wy hy=>textS_any tenL _ _ b (o+i) wy ((HM7.out.rd.sl.below hy).ten HL.out rfl) hplain (by decide));have HDC:=Lib.hid decimal10_any;unfold tenL at HDC
 go_upto_region 18 with fail
 have hb0:Below wc.heap.size wc wc:=Below.refl _ _;have hszw:=HM7.out.gb.size
 go_cut [8,9,10] from 80 to 95 (fun s8 s9 s10 wx=>∃ g:Nat,s8=.pointer (some ⟨g,0,none⟩)∧s9=.bool true∧s10=.int .i64 0∧wc.heap.size≤g∧Hid (Below wc.heap.size wc wx)∧Hid (Blk wx g 28 #[.int .i64 10,.int .i64 1]))
 case first =>
  go_region_held3 (fun w'=>w'.cell? ⟨B,0,none⟩=some (.slice (some ⟨b,o,none⟩) l.length cap)∧w'.cell? ⟨B,1,none⟩=some (.int .i64 ((i:Int)+2))) (first|go_keep|exact keep_cells HM7.out.rd (by repeat (first|with_reducible exact hb0 | with_reducible refine Below.drew ?_ | with_reducible refine below_grow ?_ _ | with_reducible refine below_alloc_self ?_ _ | (with_reducible refine Below.setCell ?_ ?hq _;case hq=>(dsimp only;first | (simp;done) | (refine(Below.size (B:=wc.heap.size) (w:=wc) ?_);repeat (first|with_reducible exact hb0 | with_reducible refine Below.drew ?_ | with_reducible refine below_grow ?_ _ | with_reducible refine below_alloc_self ?_ _))))))) (first | (go_at_call 156;(with_reducible refine(HTX.out _ (by repeat (first|with_reducible exact hb0 | with_reducible refine Below.drew ?_ | with_reducible refine below_grow ?_ _ | with_reducible refine below_alloc_self ?_ _))).mono ?_);rintro e w' ⟨rfl,hbw⟩;obtain⟨m7,rfl⟩:=grow_mk hbw;clear hbw) | (go_at_call 194;(with_reducible refine(HDC.out _).mono ?_);rintro e w' ⟨rfl,hbw⟩;obtain⟨m8,rfl⟩:=grow_mk hbw;clear hbw))
  all_goals
   go_wp2_with fail;go_meet
  · exact⟨_,rfl,rfl,rfl,(Below.size (B:=wc.heap.size) (w:=wc) (by repeat (first|with_reducible exact hb0 | with_reducible refine Below.drew ?_ | with_reducible refine below_grow ?_ _ | with_reducible refine below_alloc_self ?_ _))),Lib.hid (by repeat (first|with_reducible exact hb0 | with_reducible refine Below.drew ?_ | with_reducible refine below_grow ?_ _ | with_reducible refine below_alloc_self ?_ _ | (with_reducible refine Below.setCell ?_ ?hq _;case hq=>(dsimp only;first | (simp;done) | (refine(Below.size (B:=wc.heap.size) (w:=wc) ?_);repeat (first|with_reducible exact hb0 | with_reducible refine Below.drew ?_ | with_reducible refine below_grow ?_ _ | with_reducible refine below_alloc_self ?_ _)))))),Lib.hid (Blk.new _ _ _)⟩
  · exact⟨_,rfl,rfl,rfl,(Below.size (B:=wc.heap.size) (w:=wc) (by repeat (first|with_reducible exact hb0 | with_reducible refine Below.drew ?_ | with_reducible refine below_grow ?_ _ | with_reducible refine below_alloc_self ?_ _))),Lib.hid (by repeat (first|with_reducible exact hb0 | with_reducible refine Below.drew ?_ | with_reducible refine below_grow ?_ _ | with_reducible refine below_alloc_self ?_ _ | (with_reducible refine Below.setCell ?_ ?hq _;case hq=>(dsimp only;first | (simp;done) | (refine(Below.size (B:=wc.heap.size) (w:=wc) ?_);repeat (first|with_reducible exact hb0 | with_reducible refine Below.drew ?_ | with_reducible refine below_grow ?_ _ | with_reducible refine below_alloc_self ?_ _)))))),Lib.hid (((((Blk.new _ 28 #[.int .i64 0,.int .i64 0]).grow _).put 0 _).put 1 _).to rfl)⟩
  · exact⟨_,rfl,rfl,rfl,Nat.le_refl _,Lib.hid (by repeat (first|with_reducible exact hb0 | with_reducible refine Below.drew ?_ | with_reducible refine below_grow ?_ _ | with_reducible refine below_alloc_self ?_ _ | (with_reducible refine Below.setCell ?_ ?hq _;case hq=>(dsimp only;first | (simp;done) | (refine(Below.size (B:=wc.heap.size) (w:=wc) ?_);repeat (first|with_reducible exact hb0 | with_reducible refine Below.drew ?_ | with_reducible refine below_grow ?_ _ | with_reducible refine below_alloc_self ?_ _)))))),Lib.hid (((((show Blk (wc.alloc (.cells #[.int .i64 0,.int .i64 0] 28)).drew wc.heap.size 28 #[.int .i64 0,.int .i64 0] from Blk.new wc 28 #[.int .i64 0,.int .i64 0]).grow _).put 0 _).put 1 _).to rfl)⟩
 case rest =>
  obtain⟨g,rfl,rfl,rfl,hg,hbx,hN⟩:=hcut;have HM8:=Lib.hid (HM7.out.below hbx.out);have hsz8:=hbx.out.size;have hw1:=HW.out.gb.size
  have hg1:w.heap.size≤g:=by omega
  have hsz9:=HM8.out.gb.size;obtain⟨cn0,cn1⟩:wc.cell? ⟨g,0,none⟩=some (.int .i64 10)∧wc.cell? ⟨g,1,none⟩=some (.int .i64 1):=⟨hN.out.cell 0,hN.out.cell 1⟩;have lcn:=hN.out.lt;clear HM7 HTX HDC hsl hb0 cr0 cr1 fcr1 lcr hbx hN hsz8 hg
  go_upto_region 20 with fail
  have hTk:=Blk.new wc 102 #[.int .i64 10,.string ⟨#[]⟩,.int .i64 10,.int .i64 1,.bool true,.bool false];have HM9:=Lib.hid (HM8.out.alloc (.cells #[.int .i64 10,.string ⟨#[]⟩,.int .i64 10,.int .i64 1,.bool true,.bool false] 102));obtain⟨g2,hg2⟩:∃ g2,wc.heap.size=g2:=⟨_,rfl⟩;rw[hg2]at hTk;clear cn0 cn1 lcn HM8
  have hg2w:w.heap.size≤g2:=by omega
  have hr0l:=HT.out.lt
  have hg2r:r0<g2:=by omega
  have HTk:=Lib.hid hTk;clear hTk;generalize wc.alloc _=wd at *;have hA:=at0_any HM9.out.rd;rw[H3.out]at hA;have HA:=Lib.hid hA;go_wp2_with fail
  ((with_reducible refine(HA.out).mono ?_);rintro e w' ⟨rfl,hbw⟩)
  obtain⟨n1,rfl⟩:=grow_mk hbw;clear hbw;have HMa:=Lib.hid (HM9.out.grow n1);have HTa:=Lib.hid (HTk.out.grow n1);clear HM9 HTk HA hA;generalize grow _ n1=we at *;have hA:=at1_any HMa.out.rd;rw[H4.out]at hA;have HA:=Lib.hid hA;go_wp2_with fail
  ((with_reducible refine(HA.out).mono ?_);rintro e w' ⟨rfl,hbw⟩)
  obtain⟨n2,rfl⟩:=grow_mk hbw;clear hbw;have HMb:=Lib.hid (HMa.out.grow n2);have HTb:=Lib.hid (HTa.out.grow n2);clear HMa HTa HA hA;generalize grow _ n2=wf at *;have hA:=at2_any HMb.out.rd;rw[H5.out]at hA;have HA:=Lib.hid hA;go_wp2_with fail
  ((with_reducible refine(HA.out).mono ?_);rintro e w' ⟨rfl,hbw⟩)
  obtain⟨n3,rfl⟩:=grow_mk hbw;clear hbw;go_wp2_with fail
  ((with_reducible refine(HBG.out _).mono ?_);rintro e w' ⟨rfl,rfl⟩)
  have HMc:=Lib.hid (HMb.out.grow n3);have HTc:=Lib.hid (HTb.out.grow n3);clear HMb HTb HA hA HBG;generalize grow _ n3=wg at *;go_wp2_with fail
  ((with_reducible refine(HNM.out _ HMc.out.rd).mono ?_);rintro e w5 ⟨rfl,hmv⟩)
  have HMd:=Lib.hid (HMc.out.next hmv);obtain⟨k0,q0,k1,q1,k2,q2,k3,q3,k4,q4,k5,q5,kl⟩:=(HTc.out.mvd hmv (by omega)).six;obtain⟨c0,f0,c1,f1,c2,f2,c3,f3,c4,f4,c5,f5,l0⟩:=(HT.out.mvd HMd.out (by omega)).six;clear HNM hmv HMc HTc;go_wp2_with fail
  exact bodyPost_ret (v:=tv ⟨12,[101,109],(10,1),true,false⟩) (by simp[results,Tryz.results154,go_sem,c0,c1,c2,c3,c4,c5,l0,tv,k0,k1,k2,k3,k4,k5,kl]) rfl ⟨rfl,by
   have h0:=HW.out.next HMd.out
   repeat (first|with_reducible exact h0 | (with_reducible refine Moved.far ?_ HR.out _ _ ?hq;case hq=>first | (show w.heap.size≤r0;omega) | (show w.heap.size≤g2;omega)))⟩
end
def Ny (B:Nat) (oa:Option Addr) (cap b o:Nat) (l:List Int) (i:Nat) (c d e:Int) (J:Nat) (t:Tk) (q:Nat):Prop :=
 c=40∧J=0∧t=tok0 21 []∧q=i+1∨c=41∧J=1∧t=tok0 22 []∧q=i+1 ∨
 c=32∧J=9∧t=tok0 13 []∧blaF l i=q ∨
 (c=49∧d=48∧e=101)∧J=9∧(∀ w,RAt w B oa cap b o l i→Calls Tryz.prog 154 #[.pointer (some ⟨B,0,none⟩)] w fun e w'=>e=.returned (tv t)∧Moved w w' B oa cap b o l q) ∨
 (c=98∧d=32∧e=40∨c=119∧d=105∧e=100)∧J=9∧(∀ w,RAt w B oa cap b o l i→Calls Tryz.prog 155 #[.pointer (some ⟨B,0,none⟩)] w fun e w'=>e=.returned (tv t)∧Moved w w' B oa cap b o l q) ∨
 (c=62∧d=32∧e=49)∧J=9∧t=tok0 9 [62]∧q=i+1
section
variable {w:World} {B:Nat} {oa:Option Addr} {cap b o:Nat} {l:List Int} {i:Nat}
set_option maxRecDepth 20000 in
set_option maxHeartbeats 16000000 in
theorem nextC_any {c d e:Int} {J:Nat} {t:Tk} {q:Nat} (h:RAt w B oa cap b o l i) (hil:i<l.length) (hK:Kd w) (hKB:0≠B) (hc:aF l i=c) (hd:aF l (i+1)=d) (he:aF l (i+2)=e) (hx:Ny B oa cap b o l i c d e J t q) :
  Calls Tryz.prog 108 #[.pointer (some ⟨B,0,none⟩)] w fun e w'=>e=.returned (tv t)∧Moved w w' B oa cap b o l q:=by
 have hB:=h.blk.lt;have hl:=h.len;have HR:=Lib.hid h;obtain⟨r0,hr0⟩:∃ r0,w.heap.size=r0:=⟨_,rfl⟩
 have hBr:B<r0:=by omega
 have hKr0:0≠r0:=by have:=hK.1;omega
 have HK:=Lib.hid hK;have HC:=Lib.hid hc;have HD:=Lib.hid hd;have HE:=Lib.hid he;have HX:=Lib.hid hx;clear h hK hc hd he hx
 go_enter Tryz.func108,Tryz.ntmps108
 go_upto_region 1 with fail
 have HR1:=Lib.hid (HR.out.old (.cells #[.int .i64 0,.string ⟨#[]⟩,.int .i64 0,.int .i64 0,.bool false,.bool false] 102));have hT:=Blk.new w 102 #[.int .i64 0,.string ⟨#[]⟩,.int .i64 0,.int .i64 0,.bool false,.bool false];have HW:=Lib.hid ((Moved.start HR.out).alloc (.cells #[.int .i64 0,.string ⟨#[]⟩,.int .i64 0,.int .i64 0,.bool false,.bool false] 102));have HK1:=Lib.hid (HK.out.below ((Below.refl _ _).alloc (Nat.le_refl _) (.cells #[.int .i64 0,.string ⟨#[]⟩,.int .i64 0,.int .i64 0,.bool false,.bool false] 102)));rw[hr0]at hT;have HT:=Lib.hid hT;clear hT HK;generalize w.alloc _=w1 at *;have hA:=at0_any HR1.out;rw[HC.out]at hA;have HA:=Lib.hid hA;clear hA;go_wp2_with fail
 ((with_reducible refine(HA.out).mono ?_);rintro e w' ⟨rfl,hbw⟩)
 obtain⟨m0,rfl⟩:=grow_mk hbw;clear hbw;have HM1:=Lib.hid ((Moved.start HR1.out).grow m0);clear HA;generalize grow _ m0=wa0 at *;have hA:=at1_any HM1.out.rd;rw[HD.out]at hA;have HA:=Lib.hid hA;clear hA;go_wp2_with fail
 ((with_reducible refine(HA.out).mono ?_);rintro e w' ⟨rfl,hbw⟩)
 obtain⟨m1,rfl⟩:=grow_mk hbw;clear hbw;have HM2:=Lib.hid (HM1.out.grow m1);clear HM1 HA;generalize grow _ m1=wa1 at *;have hA:=at2_any HM2.out.rd;rw[HE.out]at hA;have HA:=Lib.hid hA;clear hA;go_wp2_with fail
 ((with_reducible refine(HA.out).mono ?_);rintro e w' ⟨rfl,hbw⟩)
 obtain⟨m2,rfl⟩:=grow_mk hbw;clear hbw;have HM3:=Lib.hid (HM2.out.grow m2);clear HM2 HA;generalize grow _ m2=wa2 at *
 have hEnd:∀ wz,Moved w wz B oa cap b o l q→∀ v0 v1 v2 v3 v4 v5,Moved w ((((((wz.setCell ⟨r0,0,none⟩ v0).setCell ⟨r0,1,none⟩ v1).setCell ⟨r0,2,none⟩ v2).setCell ⟨r0,3,none⟩ v3).setCell ⟨r0,4,none⟩ v4).setCell ⟨r0,5,none⟩ v5) B oa cap b o l q:=fun wz h0 _ _ _ _ _ _=>by
  repeat (first|with_reducible exact h0 | (with_reducible refine Moved.far ?_ HR.out _ _ ?hq;case hq=>(show w.heap.size≤r0;omega)))
 have HEnd:=Lib.hid hEnd;clear hEnd;go_wp2_with fail
 go_loopg [14] 9 (fun q s14 wr=>∃ (k:Int),s14=.int .i64 k∧0≤k∧k≤J∧wr=wa2∧9-k≤q)
 case atStart=>exact⟨0,rfl,by omega,by omega,rfl,by omega⟩
 case round =>
  obtain⟨k,rfl,hk0,hkJ,rfl,hq⟩:=hrel
  have hJ9:J≤9:=by
   have:=HX.out;unfold Ny at this;omega
  have hx:=HX.out;unfold Ny at hx
  by_cases hk:k<(J:Int)
  · have ways:k=0∨k=1∨k=2∨k=3∨k=4∨k=5∨k=6∨k=7∨k=8:=by omega
    have hg:((0:Int)<J→((40:Int)==c)=false)∧((1:Int)<J→((41:Int)==c)=false)∧((2:Int)<J→((91:Int)==c)=false)∧((3:Int)<J→((93:Int)==c)=false)∧((4:Int)<J→((123:Int)==c)=false)∧((5:Int)<J→((125:Int)==c)=false)∧((6:Int)<J→((44:Int)==c)=false)∧((7:Int)<J→((58:Int)==c)=false)∧((8:Int)<J→((59:Int)==c)=false):=by
     simp only[beq_eq_false_iff_ne];omega
    obtain⟨g0,g1,g2,g3,g4,g5,g6,g7,g8⟩:=hg;clear hx
    rcases ways with rfl|rfl|rfl|rfl|rfl|rfl|rfl|rfl|rfl
    all_goals
     first|have gx:=g0 hk|have gx:=g1 hk|have gx:=g2 hk|have gx:=g3 hk|have gx:=g4 hk|have gx:=g5 hk|have gx:=g6 hk|have gx:=g7 hk|have gx:=g8 hk
     clear g0 g1 g2 g3 g4 g5 g6 g7 g8;go_wp2_with fail
     go_roundg (gk-1)
     case measure=>omega
     case rel=>exact⟨_,rfl,by omega,by omega,rfl,by omega⟩
  · obtain rfl:k=(J:Int):=by omega
    have hKz:=HK1.out.grown HM3.out.gb (by simpa using hKB);have hK0:=hKz.2 0 _ rfl;have hK1:=hKz.2 1 _ rfl;have hK7:=hKz.2 7 _ rfl;have hKl:=hKz.1;clear hKz HX hkJ hk
    rcases hx with hx|hx|⟨rfl,rfl,rfl,hb⟩ | ⟨⟨rfl,rfl,rfl⟩,rfl,hf⟩ | ⟨hx,rfl,hf⟩ | ⟨⟨rfl,rfl,rfl⟩,rfl,rfl,rfl⟩
    rotate_left 2
    · have HB:=Lib.hid (fun w=>blank_any 32 w);have HX:=Lib.hid (blanks_any HM3.out.rd);rw[hb]at HX;go_wp2_with fail;go_wp2_with fail
      ((with_reducible refine(HB.out _).mono ?_);rintro e w' ⟨rfl,rfl⟩)
      go_wp2_with fail
      ((with_reducible refine HX.out.mono ?_);rintro e w5 ⟨rfl,hmv⟩)
      have HM9:=Lib.hid (HM3.out.next hmv);obtain⟨c0,f0,c1,f1,c2,f2,c3,f3,c4,f4,c5,f5,l0⟩:=(HT.out.mvd HM9.out (by omega)).six;clear hmv HX;go_wp2_with fail;exact bodyPost_ret (v:=tv (tok0 13 [])) (by simp[results,Tryz.results108,go_sem,c0,c1,c2,c3,c4,c5,l0,tv,tok0]) rfl ⟨rfl,by with_reducible exact HEnd.out _ (HW.out.next HM9.out) _ _ _ _ _ _⟩
    · have HB:=Lib.hid (fun w=>blank_any 49 w);have HN:=Lib.hid (fun w=>number3_any 49 48 101 w);obtain⟨uk,ut,⟨un,ud⟩,ui,uid⟩:=t;have hf1:=hf _ HM3.out.rd;simp only[tv]at hf1;have HF:=Lib.hid hf1;clear hf hf1;go_wp2_with fail;go_wp2_with fail
      ((with_reducible refine(HB.out _).mono ?_);rintro e w' ⟨rfl,rfl⟩)
      go_wp2_with fail;go_wp2_with fail
      ((with_reducible refine(HN.out _).mono ?_);rintro e w' ⟨rfl,rfl⟩)
      go_wp2_with fail
      ((with_reducible refine HF.out.mono ?_);rintro e w5 ⟨rfl,hmv⟩)
      have HM9:=Lib.hid (HM3.out.next hmv);obtain⟨c0,f0,c1,f1,c2,f2,c3,f3,c4,f4,c5,f5,l0⟩:=(HT.out.mvd HM9.out (by omega)).six;clear hmv HF;go_wp2_with fail;exact bodyPost_ret (v:=tv ⟨uk,ut,(un,ud),ui,uid⟩) (by simp[results,Tryz.results108,go_sem,c0,c1,c2,c3,c4,c5,l0,tv]) rfl ⟨rfl,by with_reducible exact HEnd.out _ (HW.out.next HM9.out) _ _ _ _ _ _⟩
    · have HB:=Lib.hid (fun w=>blank_any c w);have HN:=Lib.hid (fun w=>number3_any c d e w);have HG:=Lib.hid (fun w=>begins_any c d e w);obtain⟨uk,ut,⟨un,ud⟩,ui,uid⟩:=t;have hf1:=hf _ HM3.out.rd;simp only[tv]at hf1;have HF:=Lib.hid hf1;clear hf hf1
      rcases hx with ⟨rfl,rfl,rfl⟩ | ⟨rfl,rfl,rfl⟩
      all_goals
       go_wp2_with fail;go_wp2_with fail
       ((with_reducible refine(HB.out _).mono ?_);rintro e w' ⟨rfl,rfl⟩)
       go_wp2_with fail;go_wp2_with fail
       ((with_reducible refine(HN.out _).mono ?_);rintro e w' ⟨rfl,rfl⟩)
       go_wp2_with fail;go_wp2_with fail
       ((with_reducible refine(HG.out _).mono ?_);rintro e w' ⟨rfl,rfl⟩)
       go_wp2_with fail
       ((with_reducible refine HF.out.mono ?_);rintro e w5 ⟨rfl,hmv⟩)
       have HM9:=Lib.hid (HM3.out.next hmv);obtain⟨c0,f0,c1,f1,c2,f2,c3,f3,c4,f4,c5,f5,l0⟩:=(HT.out.mvd HM9.out (by omega)).six;clear hmv HF;go_wp2_with fail;exact bodyPost_ret (v:=tv ⟨uk,ut,(un,ud),ui,uid⟩) (by simp[results,Tryz.results108,go_sem,c0,c1,c2,c3,c4,c5,l0,tv]) rfl ⟨rfl,by with_reducible exact HEnd.out _ (HW.out.next HM9.out) _ _ _ _ _ _⟩
    · have HB:=Lib.hid (fun w=>blank_any 62 w);have HN:=Lib.hid (fun w=>number3_any 62 32 49 w);have HG:=Lib.hid (fun w=>begins_any 62 32 49 w);go_wp2_with fail;go_wp2_with fail
      ((with_reducible refine(HB.out _).mono ?_);rintro e w' ⟨rfl,rfl⟩)
      go_wp2_with fail;go_wp2_with fail
      ((with_reducible refine(HN.out _).mono ?_);rintro e w' ⟨rfl,rfl⟩)
      go_wp2_with fail;go_wp2_with fail
      ((with_reducible refine(HG.out _).mono ?_);rintro e w' ⟨rfl,rfl⟩)
      have hset:Moved w1 (w'.setCell ⟨B,1,none⟩ (.int .i64 ((i:Int)+1))) B oa cap b o l (i+1):=by have:=HM3.out.set (j:=i+1) (by omega);simpa using this
      have HS:=Lib.hid hset;obtain⟨cr0,cr1,fcr1,lcr⟩:=HM3.out.rd.duo;clear hset HM3
      go_upto_region 33 with fail
      clear cr0 cr1 fcr1 lcr;generalize w'.setCell _ _=wd at *
      have hsl:Sl (wd.alloc (.cells #[.int .i32 62] 21)) (some ⟨wd.heap.size,0,none⟩) 1 1 wd.heap.size 0 1 (runesV (runeF [62])) :=
       ⟨rfl,Nat.le_refl _,by decide,fun _=>⟨rfl,by simp⟩,fun j v hv=>by
         have hj:j=0:=by
          have:=(List.getElem?_eq_some_iff.1 hv).1;simp[runesV,runeF]at this;exact this
         subst hj;obtain rfl:=Option.some.inj hv
         exact(Blk.new wd 21 #[.int .i32 62]).cell 0⟩
      have htx:=textS_any [62] _ 1 _ 0 _ hsl (by unfold plainB;decide) (by decide);simp only[List.length_singleton]at htx;have HTX:=Lib.hid htx;have HSa:=Lib.hid (HS.out.alloc (.cells #[.int .i32 62] 21));clear hsl HS htx;go_wp2_with fail;go_wp2_with fail
      ((with_reducible refine(HTX.out).mono ?_);rintro e w' ⟨rfl,hbw⟩)
      obtain⟨n2,rfl⟩:=grow_mk hbw;clear hbw;have HM9:=Lib.hid (HSa.out.grow n2);clear HSa HTX;generalize grow _ n2=w5 at *;obtain⟨c0,f0,c1,f1,c2,f2,c3,f3,c4,f4,c5,f5,l0⟩:=(HT.out.mvd HM9.out (by omega)).six;go_wp2_with fail;exact bodyPost_ret (v:=tv (tok0 9 [62])) (by simp[results,Tryz.results108,go_sem,c0,c1,c2,c3,c4,c5,l0,tv,tok0]) rfl ⟨rfl,by with_reducible exact HEnd.out _ (HW.out.next HM9.out) _ _ _ _ _ _⟩
    all_goals
     obtain⟨rfl,rfl,ht,rfl⟩:=hx;have HS:Hid (Moved w1 (wr.setCell ⟨B,1,none⟩ (.int .i64 ((i:Int)+1))) B oa cap b o l (i+1)):=Lib.hid (by have:=HM3.out.set (j:=i+1) (by omega);simpa using this);obtain⟨cr0,cr1,fcr1,lcr⟩:=HM3.out.rd.duo;obtain⟨c0,f0,c1,f1,c2,f2,c3,f3,c4,f4,c5,f5,l0⟩:=(HT.out.mvd HM3.out (by omega)).six;go_wp2_with fail;exact bodyPost_ret (v:=tv t) (by rw[ht];simp[results,Tryz.results108,go_sem,c0,c1,c2,c3,c4,c5,l0,tv,tok0]) rfl ⟨rfl,by with_reducible exact HEnd.out _ (HW.out.next HS.out) _ _ _ _ _ _⟩
end
end Go.Proofs.YtnbkbenkhkinoaaGreatDoor
