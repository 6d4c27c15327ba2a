/- Of my texts: TurnM, CalcB, CalcC, Values, FeatH, CdG, AwP. -/
import Derived.Test.YtnanffmhbjdpaaaGreatDoorM00
import Derived.Test.YtnanffmhbjdpaaaGreatDoorM06
import Derived.Test.YtnanffmhbjdpaaaGreatDoorM17
import Derived.Test.YtnanffmhbjdpaaaGreatDoorM18
import Derived.Test.YtnanffmhbjdpaaaGreatDoorM19
import Derived.Test.YtnanffmhbjdpaaaGreatDoorM20
namespace Go.Proofs.YtnanffmhbjdpaaaGreatDoor
set_option maxHeartbeats 8000000
set_option maxRecDepth 20000
set_option linter.unusedVariables false
set_option linter.unusedSimpArgs false
def Pd:Nat→Et→Bool
 | 0,_=>false
 | f + 1,.mk k n d u kids=>if k=1 then decide (kids.length=0)&&D6 (n,d)&&decide (0≤u)&&decide (u≤7)
    else (decide (n=0)&&decide (d=0))&&decide (u=0)&&Yl k kids.length&&kids.all (Pd f)
theorem Ip:∀ (f:Nat) (e:Ex),Va f e=Pd f e.c
 | 0,_=>rfl
 | f+1,.mk k n d u oa b o cap kids=>by
   rw[Ex.c_mk];unfold Va Pd;rw[Qj,List.all_map]
   congr 2
   apply List.all_congr rfl
   exact fun x=>Ip f x
def E4 (e:Et):Int×Int:=if Pd 340 e=false then (0,1) else if Jv e=0 then (0,4) else (Jv e,0)
theorem Q4l (e:Ex):B9 e=E4 e.c:=by
 unfold B9 E4;rw[Ip]
end Go.Proofs.YtnanffmhbjdpaaaGreatDoor
namespace Go.Proofs.YtnanffmhbjdpaaaGreatDoor
set_option maxHeartbeats 8000000
set_option maxRecDepth 20000
set_option linter.unusedVariables false
set_option linter.unusedSimpArgs false
open Go.RowKit
structure Rd (A:Nat→Prop) (w:World) (R h:Nat) (oa:Option Addr) (cap b o:Nat) (l:List Vl) (i:Nat):Prop where
 blk:Ql w R 221 #[.slice oa l.length cap,.int .i64 i]
 vs:J3 A w fun w=>Zw w h oa cap b o l
 pos:i≤l.length
 me:A R
structure Mv (w w':World) (R:Nat) (oa:Option Addr) (L cap j:Nat):Prop where
 gb:w.grownBy w' (some R)
 blk:Ql w' R 221 #[.slice oa L cap,.int .i64 j]
section
variable {A:Nat→Prop} {w w' w2:World} {R h:Nat} {oa:Option Addr} {cap b o:Nat} {l:List Vl} {i j:Nat}
theorem Rd.mv (hr:Rd A w R h oa cap b o l i) (hm:Mv w w' R oa l.length cap j) (hj:j≤l.length):Rd A w' R h oa cap b o l j:=⟨hm.blk,hr.vs.grown hm.gb (fun k e _=>by injection e with e;rw[← e];exact hr.me),hj,hr.me⟩
theorem Rd.below (hr:Rd A w R h oa cap b o l i) (hb:Below w.heap.size w w'):Rd A w' R h oa cap b o l i:=⟨hr.blk.below hb hr.blk.lt,hr.vs.below hb,hr.pos,hr.me⟩
theorem Rd.grown {row:Option Nat} (hr:Rd A w R h oa cap b o l i) (hg:w.grownBy w' row) (hA:∀ k,row=some k→A k∨w.heap.size≤k) (hR:row≠some R):Rd A w' R h oa cap b o l i :=
 ⟨(hg.block R hr.blk.lt (Ne.symm hR)).trans hr.blk,hr.vs.grown hg (fun k e hk=>(hA k e).resolve_right (by omega)),hr.pos,hr.me⟩
theorem Rd.only (hr:Rd A w R h oa cap b o l i):Rd (·=R) w R h oa cap b o l i:=⟨hr.blk,hr.vs.anti fun b hb _=>by rw[hb];exact hr.me,hr.pos,rfl⟩
theorem Rd.set (hr:Rd A w R h oa cap b o l i) {j:Nat} (hj:j≤l.length):Rd A (w.setCell ⟨R,1,none⟩ (.int .i64 j)) R h oa cap b o l j:=⟨hr.blk.put 1 _,hr.vs.set hr.me _,hj,hr.me⟩
theorem Mv.refl (hr:Rd A w R h oa cap b o l i):Mv w w R oa l.length cap i:=⟨Vy _ _,hr.blk⟩
theorem Mv.trans {L:Nat} (h1:Mv w w' R oa L cap i) (h2:Mv w' w2 R oa L cap j):Mv w w2 R oa L cap j:=⟨Z7 h1.gb h2.gb,h2.blk⟩
theorem Mv.set {L:Nat} (h1:Mv w w' R oa L cap i) (j:Nat):Mv w (w'.setCell ⟨R,1,none⟩ (.int .i64 j)) R oa L cap j:=⟨Z7 h1.gb (J9 w' ⟨R,1,none⟩ _),h1.blk.put 1 _⟩
theorem Mv.below {L:Nat} (h1:Mv w w' R oa L cap i) (hb:Below w'.heap.size w' w2):Mv w w2 R oa L cap i:=⟨Z7 h1.gb (Qc hb _),h1.blk.below hb h1.blk.lt⟩
theorem Mv.keeps {g:Nat} {t:TypeId} {cs:Array Value} {L:Nat} (h1:Mv w w' R oa L cap i) (hb:Ql w g t cs) (hg:g≠R):Ql w' g t cs:=(h1.gb.block g hb.lt (by simpa using hg)).trans hb
end
theorem Tt {m:List Vt} {i:Nat} {v:Vt} (h:m[i]?=some v) (hs:Ud v=true):Ja m i=Ja m (i+1):=by
 obtain⟨hl,he⟩:=Qn.1 h;unfold Ja;rw[Qv hl,he,List.takeWhile_cons_of_pos hs,Z8];omega
theorem Tv {m:List Vt} {i:Nat} {v:Vt} (h:m[i]?=some v) (hs:Ud v=false):Ja m i=i:=by
 obtain⟨hl,he⟩:=Qn.1 h;unfold Ja;rw[Qv hl,he,List.takeWhile_cons_of_neg (by simp[hs])];rfl
theorem Tu {m:List Vt} {i:Nat} (h:m.length≤i):Ja m i=i:=by
 unfold Ja;rw[Z3 h];rfl
theorem Hb (R g4 h:Nat) (oa:Option Addr) (cap b o:Nat) (l:List Vl) (i:Nat) (w:World) (hr:Rd (·=R) w R h oa cap b o l i) (h4:Ql w g4 219 #[.pointer (some ⟨R,0,none⟩)]) (hne:g4≠R) :
  Calls Tryz.prog 243 #[.pointer (some ⟨g4,0,none⟩)] w fun e w'=>e=.returned (.bool (decide (i<Ja (l.map Vl.c) i)))∧Mv w w' R oa l.length cap (Ja (l.map Vl.c) i):=by
 obtain⟨XL,hXL⟩:∃ XL,l.map Vl.c=XL:=⟨_,rfl⟩;obtain⟨N,hN⟩:∃ N,l.length=N:=⟨_,rfl⟩
 have hNX:XL.length=N:=by rw[← hXL,Qj,hN]
 rw[hXL,hN];have hsm:=hr.vs.here.small;have hcl:=hr.vs.here.sl.le;have hcm:=hr.vs.here.sl.max;have hiN:=hr.pos;unfold maxLen at hcm;rw[hN]at hsm hcl hiN;have HN:=Q1 (Q3 hN (Q3 hXL hNX));have HR:=Q1 hr;have H4:=Q1 h4;have k0:=hr.blk.cell 0;have k1:=hr.blk.cell 1;have kl:=hr.blk.lt;have m0:=h4.cell 0;have ml:=h4.lt;simp only[Qp,Qq,Qo]at k0 k1 m0;rw[hN]at k0;clear hr h4 hN hXL hNX
 go_enter Tryz.func243,Tryz.ntmps243
 go_upto_block 0 with fail
 clear k0 k1 m0 kl ml
 go_cut [] (fun wx=>Hid (Mv w wx R oa N cap (Ja XL i))∧Hid (Ql wx g4 219 #[.pointer (some ⟨R,0,none⟩)]))
 case first =>
  go_wp2_with fail
  go_loopg [] N (fun q wr=>∃ (j:Nat),Hid (Mv w wr R oa N cap j)∧Hid (Ql wr g4 219 #[.pointer (some ⟨R,0,none⟩)])∧i≤j∧j≤N∧Hid (Ja XL i=Ja XL j)∧N-j≤q)
  case atStart =>
   exact⟨i,Q1 (by have:=Mv.refl HR.out;rw[HN.out.1]at this;exact this),H4,Q6 _,hiN,Q1 rfl,by omega⟩
  case round =>
   obtain⟨j,hm,hbx,hij,hjN,hbl,hq⟩:=hrel;have hmm:=hm.out;rw[← HN.out.1]at hmm;have hr2:=HR.out.mv hmm (by rw[HN.out.1];exact hjN);have k0:=hr2.blk.cell 0;have k1:=hr2.blk.cell 1;have q1:=hr2.blk.frozen 1;have kl:=hr2.blk.lt;have m0:=hbx.out.cell 0;have ml:=hbx.out.lt;simp only[Qp,Qq,Qo]at k0 k1 m0;rw[HN.out.1]at k0;have ij0:(0:Int)≤(j:Int):=Int.natCast_nonneg _
   by_cases hj:j<N
   · have gj:decide ((j:Int)<(N:Int))=true:=by simpa using hj
     have gjn:decide (j<N)=true:=by simpa using hj
     have ijN:(j:Int)<(N:Int):=by omega
     have hil:j<l.length:=by rw[HN.out.1];exact hj
     have hli:l[j]?=some l[j]:=Q9 hil;have hvs:=hr2.vs.here;obtain⟨rfl,hbl2⟩:=hvs.sl.lies (by omega);obtain⟨x,hx⟩:∃ x,l[j]=x:=⟨_,rfl⟩;rw[hx]at hli
     have hxl:XL[j]?=some x.c:=by rw[← HN.out.2.1,Z5,hli];rfl
     obtain⟨t,koa,kb,ko,kcap,kids⟩:=x;have f0:=hvs.cell hli (j:=0) rfl;rw[Nat.add_zero]at f0;obtain⟨tk,tt,⟨tn,td⟩,ti,tid⟩:=t;rw[Vl.c_mk]at hxl;have HXL:=Q1 hxl;clear hvs hli hil hx hxl hmm hr2
     by_cases hk:tk=13
     · subst hk;have hst:=Tt HXL.out rfl;have HST:=Q1 hst;clear hst;go_wp2_with fail;refine Qx (by kernel_rfl) (by kernel_rfl) ?_
       repeat (go_big_quiet_step (fail))
       refine wpQuiet_nil ?_;rintro _ ⟨m,rfl⟩;have hm2:=Q1 (Mv.below hm.out (Qk m));have hbx2:=Q1 (hbx.out.grow m);clear k0 k1 q1 kl m0 ml f0 hm hbx;generalize grow _ m=wq at *;have k0:=hm2.out.blk.cell 0;have k1:=hm2.out.blk.cell 1;have q1:=hm2.out.blk.frozen 1;have kl:=hm2.out.blk.lt;have m0:=hbx2.out.cell 0;have ml:=hbx2.out.lt;simp only[Qp,Qq,Qo]at k0 k1 m0;go_wp2_with fail
       go_roundg (N-(j+1))
       case measure=>omega
       case rel=>exact⟨j+1,Q1 (by have:=hm2.out.set (j+1);simpa using this),Q1 (hbx2.out.far (p:=⟨R,1,none⟩) hne _),by omega,hj,Q1 (by rw[hbl.out,HST.out]),Q6 _⟩
     · have gk:(tk==(13:Int))=false:=by simpa using hk
       have hst:Ja XL j=j:=Tv HXL.out (by simpa[Ud] using hk);have HST:=Q1 hst;clear hst hk;go_wp2_with fail;refine Qx (by kernel_rfl) (by kernel_rfl) ?_
       repeat (go_big_quiet_step (fail))
       refine wpQuiet_nil ?_;rintro _ ⟨m,rfl⟩;have hm2:=Q1 (Mv.below hm.out (Qk m));have hbx2:=Q1 (hbx.out.grow m);clear k0 k1 q1 kl m0 ml f0 hm hbx;generalize grow _ m=wq at *;go_wp2_with fail;go_meet
       case rel=>exact⟨Q1 (by rw[hbl.out,HST.out];exact hm2.out),hbx2⟩
   · have gj:decide ((j:Int)<(N:Int))=false:=by simpa using hj
     have gjn:decide (j<N)=false:=by simpa using hj
     have hst:Ja XL j=j:=Tu (by rw[HN.out.2.2];omega);have HST:=Q1 hst;clear hst hmm hr2;go_wp2_with fail;refine Qx (by kernel_rfl) (by kernel_rfl) ?_
     repeat (go_big_quiet_step (fail))
     refine wpQuiet_nil ?_;rintro _ ⟨m,rfl⟩;have hm2:=Q1 (Mv.below hm.out (Qk m));have hbx2:=Q1 (hbx.out.grow m);clear k0 k1 q1 kl m0 ml hm hbx;generalize grow _ m=wq at *;go_wp2_with fail;go_meet
     case rel=>exact⟨Q1 (by rw[hbl.out,HST.out];exact hm2.out),hbx2⟩
 case rest =>
  obtain⟨hm,hbx⟩:=hcut;obtain⟨J,hJ⟩:∃ J,Ja XL i=J:=⟨_,rfl⟩;rw[hJ]at hm;have k0:=hm.out.blk.cell 0;have k1:=hm.out.blk.cell 1;have kl:=hm.out.blk.lt;have m0:=hbx.out.cell 0;have ml:=hbx.out.lt;simp only[Qp,Qq,Qo]at k0 k1 m0;go_wp2_with fail;go_ret;exact⟨by rw[hJ];simp,by rw[hJ];exact hm.out⟩
theorem Oh (R h:Nat) (oa:Option Addr) (cap b o:Nat) (l:List Vl) (i:Nat) (s1 s2:List UInt8) (apart:Bool) (w:World) (hr:Rd (·=R) w R h oa cap b o l i) :
  Calls Tryz.prog 228 #[.pointer (some ⟨R,0,none⟩),.string ⟨s1.toArray⟩,.string ⟨s2.toArray⟩,.bool apart] w fun e w'=>e=.returned (.string ⟨(Jt (l.map Vl.c) s1 s2 apart i).1.toArray⟩)∧Mv w w' R oa l.length cap (Jt (l.map Vl.c) s1 s2 apart i).2:=by
 obtain⟨XL,hXL⟩:∃ XL,l.map Vl.c=XL:=⟨_,rfl⟩;obtain⟨N,hN⟩:∃ N,l.length=N:=⟨_,rfl⟩
 have hNX:XL.length=N:=by rw[← hXL,Qj,hN]
 have hsm:=hr.vs.here.small;have hcl:=hr.vs.here.sl.le;have hcm:=hr.vs.here.sl.max;have hiN:=hr.pos;unfold maxLen at hcm;rw[hN]at hsm hcl hiN;obtain⟨j,hj⟩:∃ j,Ja XL i=j:=⟨_,rfl⟩;have hij:=Gu XL i;have hjN:=K1 XL (i:=i) (by rw[hNX];exact hiN);rw[hj]at hij hjN;rw[hNX]at hjN;obtain⟨SS,hSS⟩:∃ SS,Jt XL s1 s2 apart i=SS:=⟨_,rfl⟩;have hS1:=hSS;unfold Jt at hS1;rw[hj]at hS1;rw[hXL,hN,hSS];have HN:=Q1 (Q3 hN (Q3 hXL hNX));have hRlt:=hr.blk.lt
 -- the box of the reader
 have hb0:=Q7 w (.cells #[.pointer (some ⟨R,0,none⟩)] 219);have h4:=Ql.new w 219 #[.pointer (some ⟨R,0,none⟩)];have HR:=Q1 hr;have HR1:=Q1 (hr.below hb0);have HB0:=Q1 hb0;have H4:=Q1 h4;have HJ:=Q1 hj;clear hr hb0 h4 hN hXL hNX hj hSS
 go_enter Tryz.func228,Tryz.ntmps228
 go_upto_region 1 with fail
 obtain⟨g4,hg4⟩:∃ g4,w.heap.size=g4:=⟨_,rfl⟩;have HG:=Q1 hg4;rw[hg4]at H4 hRlt;simp only[hg4];clear hg4;generalize w.alloc _=w1 at *;have k0:=HR1.out.blk.cell 0;have k1:=HR1.out.blk.cell 1;have kl:=HR1.out.blk.lt;have m0:=H4.out.cell 0;have ml:=H4.out.lt;simp only[Qp,Qq,Qo]at k0 k1 m0;rw[HN.out.1]at k0
 have hne:g4≠R:=by omega
 have hbl:=Hb R g4 h oa cap b o l i w1 HR1.out H4.out hne;rw[HN.out.1,HN.out.2.1,HJ.out]at hbl;have HBL:=Q1 hbl;clear hbl
 go_upto_region 3 with fail
 go_wp2_with fail
 ((with_reducible refine(HBL.out).mono ?_);rintro e w' ⟨rfl,hmv⟩)
 have hmv':=hmv;rw[← HN.out.1]at hmv';have HR2:=Q1 (HR1.out.mv hmv' (by rw[HN.out.1];exact hjN));have H42:=Q1 (hmv.keeps H4.out hne);have HM:=Q1 hmv;clear hmv hmv' k0 k1 kl m0 ml HBL H4;have k0:=HM.out.blk.cell 0;have k1:=HM.out.blk.cell 1;have q1:=HM.out.blk.frozen 1;have kl:=HM.out.blk.lt;have m0:=H42.out.cell 0;have ml:=H42.out.lt;simp only[Qp,Qq,Qo]at k0 k1 m0;have ij0:(0:Int)≤(j:Int):=Int.natCast_nonneg _
 by_cases hj:j<N
 · have gj:decide ((j:Int)<(N:Int))=true:=by simpa using hj
   have gjn:decide (j<N)=true:=by simpa using hj
   have ijN:(j:Int)<(N:Int):=by omega
   have hil:j<l.length:=by rw[HN.out.1];exact hj
   have hli:l[j]?=some l[j]:=Q9 hil;have hvs:=HR2.out.vs.here;obtain⟨rfl,hbl2⟩:=hvs.sl.lies (by omega);obtain⟨x,hx⟩:∃ x,l[j]=x:=⟨_,rfl⟩;rw[hx]at hli
   have hxl:XL[j]?=some x.c:=by rw[← HN.out.2.1,Z5,hli];rfl
   obtain⟨t,koa,kb,ko,kcap,kids⟩:=x;have f0:=hvs.cell hli (j:=0) rfl;have f1:=hvs.cell hli (j:=1) rfl;rw[Nat.add_zero]at f0;obtain⟨tk,tt,⟨tn,td⟩,ti,tid⟩:=t;rw[Vl.c_mk]at hxl;rw[hxl]at hS1;simp only at hS1;clear hvs hli hil hx hxl
   by_cases hk:tk=9
   · subst hk;obtain⟨k,hk2⟩:∃ k,Ja XL (j+1)=k:=⟨_,rfl⟩;have hjk:=Gu XL (j+1);have hkN:=K1 XL (i:=j+1) (by rw[HN.out.2.2];omega);rw[hk2]at hjk hkN hS1;rw[HN.out.2.2]at hkN;have HK2:=Q1 hk2;have HS1:=Q1 hS1;clear hk2 hS1;go_wp2_with fail;refine Qx (by kernel_rfl) (by kernel_rfl) ?_
     repeat (go_big_quiet_step (fail))
     refine wpQuiet_nil ?_;rintro _ ⟨m,rfl⟩;have hm2:=Q1 (Mv.below HM.out (Qk m));have hb2:=Q1 (H42.out.grow m);have hr2:=Q1 (HR2.out.below (Qk m));have hf1:=Q1 (((Qk m).cell (p:=⟨b,o+j*7+1,none⟩) hbl2).trans f1);have hf2:=Q1 (Qg hbl2 (Zn m));clear k0 k1 q1 kl m0 ml HM H42 f0 f1 HR2 hbl2;generalize grow _ m=wq at *;have k0:=hm2.out.blk.cell 0;have k1:=hm2.out.blk.cell 1;have q1:=hm2.out.blk.frozen 1;have kl:=hm2.out.blk.lt;have m0:=hb2.out.cell 0;have ml:=hb2.out.lt;simp only[Qp,Qq,Qo]at k0 k1 m0;have f1:=hf1.out;have hbl2:=hf2.out;go_wp2_with fail;refine Qx (by kernel_rfl) (by kernel_rfl) ?_
     repeat (go_big_quiet_step (fail))
     refine wpQuiet_nil ?_;rintro _ ⟨m2,rfl⟩;have hm3:=Q1 (Mv.below hm2.out (Qk m2));have hb3:=Q1 (hb2.out.grow m2);have hr3:=Q1 (hr2.out.below (Qk m2));clear k0 k1 q1 kl m0 ml hm2 hb2 hf1 hf2 f1 hbl2 hr2;generalize grow _ m2=wq2 at *;have k0:=hm3.out.blk.cell 0;have k1:=hm3.out.blk.cell 1;have q1:=hm3.out.blk.frozen 1;have kl:=hm3.out.blk.lt;have m0:=hb3.out.cell 0;have ml:=hb3.out.lt;simp only[Qp,Qq,Qo]at k0 k1 m0
     go_upto_region 7 with fail
     have hm4:=Q1 (show Mv w1 (wq2.setCell ⟨R,1,none⟩ (.int .i64 ((j+1:Nat):Int))) R (some ⟨b,o,none⟩) N cap (j+1) from hm3.out.set (j+1));have hb4:=Q1 (show Ql (wq2.setCell ⟨R,1,none⟩ (.int .i64 ((j+1:Nat):Int))) g4 219 #[.pointer (some ⟨R,0,none⟩)] from hb3.out.far (p:=⟨R,1,none⟩) hne _);have hr4:=Q1 (show Rd (·=R) (wq2.setCell ⟨R,1,none⟩ (.int .i64 ((j+1:Nat):Int))) R h (some ⟨b,o,none⟩) cap b o l (j+1) from hr3.out.set (by rw[HN.out.1];omega));rw[show ((j+1:Nat):Int)=(j:Int)+1 by omega]at hm4 hb4 hr4;clear k0 k1 q1 kl m0 ml hm3 hb3 hr3;generalize wq2.setCell _ _=wq3 at *;have hbl:=Hb R g4 h _ cap b o l (j+1) wq3 hr4.out hb4.out hne;rw[HN.out.1,HN.out.2.1,HK2.out]at hbl;have HBL:=Q1 hbl;clear hbl;go_wp2_with fail
     ((with_reducible refine(HBL.out).mono ?_);rintro e w' ⟨rfl,hmv⟩)
     have hm5:=Q1 (hm4.out.trans hmv);have hb5:=Q1 (hmv.keeps hb4.out hne);clear hmv hm4 hb4 hr4 HBL;have k0:=hm5.out.blk.cell 0;have k1:=hm5.out.blk.cell 1;have q1:=hm5.out.blk.frozen 1;have kl:=hm5.out.blk.lt;have m0:=hb5.out.cell 0;have ml:=hb5.out.lt;simp only[Qp,Qq,Qo]at k0 k1 m0;have hSf:(9:Int)=9:=rfl
     by_cases hT:(tt=s1∨tt=s2)∧(apart=false∨(i<j∧j+1<k))
     · have HS:=Q1 (show SS=(tt,k) by rw[← HS1.out,if_pos ⟨trivial,hT⟩])
       have ways:((tt==s1)=true∨(tt==s1)=false∧(tt==s2)=true)∧(apart=false∨apart=true∧decide (i<j)=true∧decide (j+1<k)=true):=by
        refine⟨?_,?_⟩
        · by_cases h1:tt=s1
          · exact Or.inl (by simp[h1])
          · exact Or.inr ⟨by simp[h1],by rcases hT.1 with h|h<;>first|exact absurd h h1 | simp[h]⟩
        · rcases hT.2 with h|⟨h1,h2⟩
          · exact Or.inl h
          · cases apart
            · exact Or.inl rfl
            · exact Or.inr ⟨rfl,by simpa using h1,by simpa using h2⟩
       clear hT HS1;obtain⟨wa,wb⟩:=ways
       rcases wa with a1 | ⟨a1,a2⟩<;>rcases wb with rfl|⟨rfl,b1,b2⟩
       all_goals
        go_wp2_with fail;go_ret;refine⟨by rw[HS.out];rfl,?_⟩;rw[HS.out];exact⟨Z7 (Qc HB0.out _) hm5.out.gb,hm5.out.blk⟩
     · have HS:=Q1 (show SS=([],i) by rw[← HS1.out,if_neg (fun e=>hT e.2)])
       have ways:((tt==s1)=false∧(tt==s2)=false)∨(((tt==s1)=true∨(tt==s1)=false∧(tt==s2)=true)∧apart=true∧(decide (i<j)=false∨decide (i<j)=true∧decide (j+1<k)=false)):=by
        by_cases h1:tt=s1∨tt=s2
        · refine Or.inr ⟨?_,?_⟩
          · by_cases h2:tt=s1
            · exact Or.inl (by simp[h2])
            · exact Or.inr ⟨by simp[h2],by rcases h1 with h|h<;>first|exact absurd h h2 | simp[h]⟩
          · cases apart
            · exact absurd ⟨h1,Or.inl rfl⟩ hT
            · refine⟨rfl,?_⟩
              by_cases h3:i<j
              · refine Or.inr ⟨by simpa using h3,?_⟩;simp only[decide_eq_false_iff_not]
                exact fun h4=>hT ⟨h1,Or.inr ⟨h3,h4⟩⟩
              · exact Or.inl (by simpa using h3)
        · exact Or.inl ⟨by simpa using fun e=>h1 (Or.inl e),by simpa using fun e=>h1 (Or.inr e)⟩
       clear hT HS1
       rcases ways with ⟨a1,a2⟩ | ⟨a1 | ⟨a1,a2⟩,rfl,b1 | ⟨b1,b2⟩⟩
       all_goals
        go_wp2_with fail;go_ret;refine⟨by rw[HS.out];rfl,?_⟩;rw[HS.out];exact⟨Z7 (Qc HB0.out _) (Z7 hm5.out.gb (J9 _ ⟨R,1,none⟩ _)),by have:=hm5.out.blk.put 1 (.int .i64 i);simpa using this⟩
   · have gk:(tk==(9:Int))=false:=by simpa using hk
     rw[if_neg (fun e=>hk e.1)]at hS1;have HS:=Q1 hS1.symm;clear hk hS1;go_wp2_with fail;refine Qx (by kernel_rfl) (by kernel_rfl) ?_
     repeat (go_big_quiet_step (fail))
     refine wpQuiet_nil ?_;rintro _ ⟨m,rfl⟩;have hm2:=Q1 (Mv.below HM.out (Qk m));have hb2:=Q1 (H42.out.grow m);clear k0 k1 q1 kl m0 ml HM H42 f0 f1 hbl2;generalize grow _ m=wq at *;have k0:=hm2.out.blk.cell 0;have k1:=hm2.out.blk.cell 1;have q1:=hm2.out.blk.frozen 1;have kl:=hm2.out.blk.lt;have m0:=hb2.out.cell 0;have ml:=hb2.out.lt;simp only[Qp,Qq,Qo]at k0 k1 m0;go_wp2_with fail;go_ret;refine⟨by rw[HS.out];rfl,?_⟩;rw[HS.out];exact⟨Z7 (Qc HB0.out _) (Z7 hm2.out.gb (J9 _ ⟨R,1,none⟩ _)),by have:=hm2.out.blk.put 1 (.int .i64 i);simpa using this⟩
 · have gj:decide ((j:Int)<(N:Int))=false:=by simpa using hj
   have gjn:decide (j<N)=false:=by simpa using hj
   rw[Zf (by rw[HN.out.2.2];omega)]at hS1;have HS:=Q1 hS1.symm;clear hS1;go_wp2_with fail;refine Qx (by kernel_rfl) (by kernel_rfl) ?_
   repeat (go_big_quiet_step (fail))
   refine wpQuiet_nil ?_;rintro _ ⟨m,rfl⟩;have hm2:=Q1 (Mv.below HM.out (Qk m));have hb2:=Q1 (H42.out.grow m);clear k0 k1 q1 kl m0 ml HM H42;generalize grow _ m=wq at *;have k0:=hm2.out.blk.cell 0;have k1:=hm2.out.blk.cell 1;have q1:=hm2.out.blk.frozen 1;have kl:=hm2.out.blk.lt;have m0:=hb2.out.cell 0;have ml:=hb2.out.lt;simp only[Qp,Qq,Qo]at k0 k1 m0;go_wp2_with fail;go_ret;refine⟨by rw[HS.out];rfl,?_⟩;rw[HS.out];exact⟨Z7 (Qc HB0.out _) (Z7 hm2.out.gb (J9 _ ⟨R,1,none⟩ _)),by have:=hm2.out.blk.put 1 (.int .i64 i);simpa using this⟩
def Hp (h:Nat):Prop:=∀ (l:List Vl) (oa:Option Addr) (cap b o:Nat) (w:World),Zw w h oa cap b o l →
 Calls Tryz.prog 187 #[.slice oa l.length cap] w fun e w'=>Ys (· < w.heap.size) (J0 (Kb J0 h) (l.map Vl.c)) e w'∧Below w.heap.size w w'
def Q01 (h:Nat):Prop:=∀ (v:Vl) (w:World),Uu w h v →
 Calls Tryz.prog 157 #[vv v] w fun e w'=>Ys (· < w.heap.size) (Cr J0 h v.c) e w'∧Below w.heap.size w w'
def R3 (h:Nat):Prop:=∀ (R:Nat) (oa:Option Addr) (cap b o:Nat) (l:List Vl) (i:Nat) (w:World),Rd (·=R) w R h oa cap b o l i →
 Calls Tryz.prog 242 #[.pointer (some ⟨R,0,none⟩)] w fun e w'=>Ys (· < w.heap.size) (W6 (Kb J0 h) (l.map Vl.c) i) e w'∧∃ j,Mv w w' R oa l.length cap j∧j≤l.length∧(i<l.length→j=i+1)
theorem Q4d {w w0 w':World} {R L cap j:Nat} {oa:Option Addr} (hb:Below w.heap.size w w0) (h:Mv w0 w' R oa L cap j):Mv w w' R oa L cap j:=⟨Z7 (Qc hb _) h.gb,h.blk⟩
theorem Mv.far {w w' w2:World} {R L cap i:Nat} {oa:Option Addr} {row:Option Nat} (h1:Mv w w' R oa L cap i) (hg:w'.grownBy w2 row) (hr:∀ k,row=some k→w.heap.size≤k) (hR:R<w.heap.size):Mv w w2 R oa L cap i :=
 ⟨Db h1.gb hg hr,(hg.block R h1.blk.lt (fun e=>by have:=hr R e.symm;omega)).trans h1.blk⟩
theorem Ql.put7 {w:World} {g:Nat} {t:TypeId} {a0 a1 a2 a3 a4 a5 a6:Value} (h:Ql w g t #[a0,a1,a2,a3,a4,a5,a6]) (x0 x1 x2 x3 x4 x5 x6:Value) :
  Ql (((((((w.setCell ⟨g,0,none⟩ x0).setCell ⟨g,1,none⟩ x1).setCell ⟨g,2,none⟩ x2).setCell ⟨g,3,none⟩ x3).setCell ⟨g,4,none⟩ x4).setCell ⟨g,5,none⟩ x5).setCell ⟨g,6,none⟩ x6) g t #[x0,x1,x2,x3,x4,x5,x6]:=by
 have h1:=((((((h.put 0 x0).put 1 x1).put 2 x2).put 3 x3).put 4 x4).put 5 x5).put 6 x6;simpa using h1
theorem Q0q (A:Nat→Prop) (w:World):Ys A none (.returned (.tuple #[.agg #[.int .i64 0,.int .i64 0,.int .i64 0,.int .i64 0,.slice none 0 0],.bool false])) w:=⟨_,_,rfl,rfl,⟨0,0,0,0,none,0,0,rfl⟩,fun E h=>by cases h⟩
theorem Nv (h:Nat) (hW:∀ h',h=h'+1→Hp h') (hX:Q01 h):R3 h:=by
 intro R oa cap b o l i w hr;obtain⟨XL,hXL⟩:∃ XL,l.map Vl.c=XL:=⟨_,rfl⟩;obtain⟨N,hN⟩:∃ N,l.length=N:=⟨_,rfl⟩
 have hNX:XL.length=N:=by rw[← hXL,Qj,hN]
 have hsm:=hr.vs.here.small;have hcl:=hr.vs.here.sl.le;have hcm:=hr.vs.here.sl.max;have hiN:=hr.pos;unfold maxLen at hcm;rw[hN]at hsm hcl hiN;rw[hXL,hN];obtain⟨Y,hY⟩:∃ Y,W6 (Kb J0 h) XL i=Y:=⟨_,rfl⟩;rw[hY];have HN:=Q1 (Q3 hN (Q3 hXL hNX));have HWX:=Q1 (Q3 hW hX);have HR:=Q1 hr;have HY:=Q1 hY
 -- the result's variable
 have hb0:=Q7 w (.cells #[.int .i64 0,.int .i64 0,.int .i64 0,.int .i64 0,.slice none 0 0] 32);have h2:=Ql.new w 32 #[.int .i64 0,.int .i64 0,.int .i64 0,.int .i64 0,.slice none 0 0];have HR1:=Q1 (hr.below hb0);have HB0:=Q1 hb0;have H2:=Q1 h2;have hRlt:=hr.blk.lt;clear hr hb0 h2 hN hXL hNX hW hX hY
 go_enter Tryz.func242,Tryz.ntmps242
 go_upto_region 1 with fail
 obtain⟨g2,hg2⟩:∃ g2,w.heap.size=g2:=⟨_,rfl⟩;have HG:=Q1 hg2;rw[hg2]at H2 hRlt;simp only[hg2];clear hg2;generalize w.alloc _=w1 at *;have k0:=HR1.out.blk.cell 0;have k1:=HR1.out.blk.cell 1;have kl:=HR1.out.blk.lt;simp only[Qp,Qq,Qo]at k0 k1;rw[HN.out.1]at k0
 have hne:g2≠R:=by omega
 refine Qx (by kernel_rfl) (by kernel_rfl) ?_
 repeat (go_big_quiet_step (fail))
 refine wpQuiet_nil ?_;rintro _ ⟨m,rfl⟩;have hr2:=Q1 (HR1.out.below (Qk m));have hb2:=Q1 (Qa HB0.out m);have h22:=Q1 (H2.out.grow m);clear k0 k1 kl HR1 HB0 H2;generalize grow _ m=w2 at *
 by_cases hi:i<N
 · have gi:decide ((N:Int)≤(i:Int))=false:=by simp;omega
   have gin:decide (N≤i)=false:=by simp;omega
   have ij0:(0:Int)≤(i:Int):=Int.natCast_nonneg _
   have ijN:(i:Int)<(N:Int):=by omega
   have hil:i<l.length:=by rw[HN.out.1];exact hi
   have hli:l[i]?=some l[i]:=Q9 hil;have hvs:=hr2.out.vs.here;obtain⟨rfl,hbl2⟩:=hvs.sl.lies (by omega);obtain⟨x,hx⟩:∃ x,l[i]=x:=⟨_,rfl⟩;rw[hx]at hli
   have hxl:XL[i]?=some x.c:=by rw[← HN.out.2.1,Z5,hli];rfl
   have hYx:Kb J0 h x.c=Y:=by
    have:=HY.out;unfold W6 at this;rw[hxl]at this;exact this
   have hvx:=hvs.each i x hli
   obtain ⟨h,rfl⟩:∃ h',h=h'+1:=by
    cases h with
    | zero=>exact hvx.elim
    | succ h=>exact⟨h,rfl⟩
   have HVX:=Q1 (hr2.out.vs.mono fun _ hw=>hw.each i x hli);have HXP:=Q1 (fun wz (hz:Uu wz (h+1) x)=>HWX.out.2 x wz hz);obtain⟨t,koa,kb,ko,kcap,kids⟩:=x;have HWP:=Q1 (fun wz (hz:Zw wz h koa kcap kb ko kids)=>HWX.out.1 h rfl kids koa kcap kb ko wz hz);obtain⟨K,hK⟩:∃ K,kids.length=K:=⟨_,rfl⟩;have f0:=hvs.cell hli (j:=0) rfl;have f1:=hvs.cell hli (j:=1) rfl;have f2:=hvs.cell hli (j:=2) rfl;have f3:=hvs.cell hli (j:=3) rfl;have f4:=hvs.cell hli (j:=4) rfl;have f5:=hvs.cell hli (j:=5) rfl;have f6:=hvs.cell hli (j:=6) rfl;rw[Nat.add_zero]at f0;rw[hK]at f6;obtain⟨tk,tt,⟨tn,td⟩,ti,tid⟩:=t;have hYx2:=hYx;rw[Vl.c_mk,Kb]at hYx2;have HYX:=Q1 (Q3 hYx2 hK);clear hvs hli hil hx hxl hvx hYx hYx2 hK HWX HY;have k0:=hr2.out.blk.cell 0;have k1:=hr2.out.blk.cell 1;have kl:=hr2.out.blk.lt;simp only[Qp,Qq,Qo]at k0 k1
   rw[HN.out.1]at k0;go_wp2_with fail;refine Yn 11 [Qb.claim 1 17 (.pointer (some ⟨R,0,none⟩)),Qb.claim 5 21 (.pointer (some ⟨R,0,none⟩)),Qb.cells 10 4 28 #[.int .i64 0,.string ⟨#[]⟩,.int .i64 0,.int .i64 0,.bool false,.bool false,.slice none 0 0] w2.heap.size] (by kernel_rfl) rfl (by kernel_rfl) (by kernel_rfl) (by kernel_rfl) (by kernel_rfl) ?_;simp only[Jw,X6,List.find?,Qb.claim_i,Qb.cells_i,Qb.rowL_i,Qb.claim_hush,Qb.cells_hush,Qb.rowL_hush,Nat.reduceBEq,Nat.reduceAdd]
   repeat (go_big_quiet_step (fail))
   refine wpQuiet_nil ⟨fun V m2=>?_,fun V m2=>?_⟩
   · simp only[G8,Du,Qq,Qo,Vk,Ua,Ub,Uw,Qb.claim_i,Qb.cells_i,Qb.rowL_i,Act.put,Q2,Q4,Q5];refine⟨fun _=>?_,fun _=>?_,fun _=>?_,trivial⟩
     · go_wp2_with fail;exact Vu rfl (Below.refl _ _)
     · go_wp2_with fail;exact Vu rfl (Below.refl _ _)
     · go_wp2_with fail;exact I4 rfl (Zn m2)
   · simp only[Ge,Y8,Y9,Yx,Gn,Ya,Yb,Yy,Yz,Xl,Xm,Yc,Uj,Ui,Z4,List.drop_zero,and_true,Vk,Ua,Ub,Uw,Qb.claim_i,Qb.cells_i,Qb.rowL_i,Act.put,Q2,Q4,Q5];rintro⟨g4,hv10,hg4,hbk⟩ _;rw[hv10];clear hv10;have hbw0:=Qk m2;have hR2:=hr2.out.blk.lt;have hg22:=h22.out.lt;generalize grow w2 m2=w3 at *;have cb0:w3.cell? ⟨g4,0,none⟩=some (.int .i64 0):=(hbk).cell 0;have fcb0:=(hbk).frozen 0;have cb1:w3.cell? ⟨g4,1,none⟩=some (.string ⟨#[]⟩):=(hbk).cell 1;have fcb1:=(hbk).frozen 1;have cb2:w3.cell? ⟨g4,2,none⟩=some (.int .i64 0):=(hbk).cell 2;have fcb2:=(hbk).frozen 2;have cb3:w3.cell? ⟨g4,3,none⟩=some (.int .i64 0):=(hbk).cell 3;have fcb3:=(hbk).frozen 3
     have cb4:w3.cell? ⟨g4,4,none⟩=some (.bool false):=(hbk).cell 4;have fcb4:=(hbk).frozen 4;have cb5:w3.cell? ⟨g4,5,none⟩=some (.bool false):=(hbk).cell 5;have fcb5:=(hbk).frozen 5;have cb6:w3.cell? ⟨g4,6,none⟩=some (.slice none 0 0):=(hbk).cell 6;have fcb6:=(hbk).frozen 6;have lcb:=(hbk).lt
     go_upto_region 4 with fail
     have hbw:=Q1 (show Below w2.heap.size w2 (((((((w3.setCell ⟨g4,0,none⟩ (.int .i64 tk)).setCell ⟨g4,1,none⟩ (.string ⟨tt.toArray⟩)).setCell ⟨g4,2,none⟩ (.int .i64 tn)).setCell ⟨g4,3,none⟩ (.int .i64 td)).setCell ⟨g4,4,none⟩ (.bool ti)).setCell ⟨g4,5,none⟩ (.bool tid)).setCell ⟨g4,6,none⟩ (.slice koa K kcap)) from
      ((((((hbw0.setCell (p:=⟨g4,0,none⟩) hg4 _).setCell (p:=⟨g4,1,none⟩) hg4 _).setCell (p:=⟨g4,2,none⟩) hg4 _).setCell (p:=⟨g4,3,none⟩) hg4 _).setCell (p:=⟨g4,4,none⟩) hg4 _).setCell (p:=⟨g4,5,none⟩) hg4 _).setCell (p:=⟨g4,6,none⟩) hg4 _)
     have hbx:=Q1 (hbk.put7 (.int .i64 tk) (.string ⟨tt.toArray⟩) (.int .i64 tn) (.int .i64 td) (.bool ti) (.bool tid) (.slice koa K kcap));clear cb0 cb1 cb2 cb3 cb4 cb5 cb6 fcb0 fcb1 fcb2 fcb3 fcb4 fcb5 fcb6 lcb hbk hbw0 f0 f1 f2 f3 f4 f5 f6 k0 k1 kl;generalize World.setCell _ _ _=w4 at *;have hr4:=Q1 (hr2.out.below hbw.out);have h24:=Q1 (h22.out.below hbw.out h22.out.lt);have hm4:=Q1 (Q4d hb2.out (by have:=(Mv.refl hr2.out).below hbw.out;rw[HN.out.1]at this;exact this));have hv4:=Q1 (HVX.out.below hbw.out);have k0:=hr4.out.blk.cell 0;have k1:=hr4.out.blk.cell 1;have q1:=hr4.out.blk.frozen 1;have kl:=hr4.out.blk.lt;simp only[Qp,Qq,Qo]at k0 k1
     go_upto_region 5 with fail
     have hRw:R<w.heap.size:=by have:=HG.out;omega
     have hm5:=Q1 (show Mv w (w4.setCell ⟨R,1,none⟩ (.int .i64 ((i+1:Nat):Int))) R (some ⟨b,o,none⟩) N cap (i+1) from hm4.out.set (i+1));have h25:=Q1 (show Ql (w4.setCell ⟨R,1,none⟩ (.int .i64 ((i+1:Nat):Int))) g2 32 #[.int .i64 0,.int .i64 0,.int .i64 0,.int .i64 0,.slice none 0 0] from h24.out.far (p:=⟨R,1,none⟩) hne _);have hb5:=Q1 (show Ql (w4.setCell ⟨R,1,none⟩ (.int .i64 ((i+1:Nat):Int))) g4 28 #[.int .i64 tk,.string ⟨tt.toArray⟩,.int .i64 tn,.int .i64 td,.bool ti,.bool tid,.slice koa K kcap] from hbx.out.far (p:=⟨R,1,none⟩) (by simp;omega) _);have hv5:=Q1 (show J3 (·=R) (w4.setCell ⟨R,1,none⟩ (.int .i64 ((i+1:Nat):Int))) (fun w=>Uu w (h+1) (.mk ⟨tk,tt,(tn,td),ti,tid⟩ koa kb ko kcap kids)) from hv4.out.set (p:=⟨R,1,none⟩) rfl _);rw[show ((i+1:Nat):Int)=(i:Int)+1 by omega]at hm5 h25 hb5 hv5;clear k0 k1 q1 kl hm4 h24 hbx hv4 hr4
     generalize World.setCell _ _ _=w5 at *;have cb0:w5.cell? ⟨g4,0,none⟩=some (.int .i64 tk):=(hb5.out).cell 0;have fcb0:=(hb5.out).frozen 0;have cb1:w5.cell? ⟨g4,1,none⟩=some (.string ⟨tt.toArray⟩):=(hb5.out).cell 1;have fcb1:=(hb5.out).frozen 1;have cb2:w5.cell? ⟨g4,2,none⟩=some (.int .i64 tn):=(hb5.out).cell 2;have fcb2:=(hb5.out).frozen 2;have cb3:w5.cell? ⟨g4,3,none⟩=some (.int .i64 td):=(hb5.out).cell 3;have fcb3:=(hb5.out).frozen 3;have cb4:w5.cell? ⟨g4,4,none⟩=some (.bool ti):=(hb5.out).cell 4;have fcb4:=(hb5.out).frozen 4;have cb5:w5.cell? ⟨g4,5,none⟩=some (.bool tid):=(hb5.out).cell 5;have fcb5:=(hb5.out).frozen 5;have cb6:w5.cell? ⟨g4,6,none⟩=some (.slice koa K kcap):=(hb5.out).cell 6;have fcb6:=(hb5.out).frozen 6;have lcb:=(hb5.out).lt;have hlt2:=h25.out.lt
     have HFIN:=Q1 (show ∀ (v:Value) (ok:Bool) (w6 w7:World),ok=Y.isSome→Sh v→(∀ E,Y=some E→Jk (· < w5.heap.size) E v w6)→Below w5.heap.size w5 w6→w6.grownBy w7 (some g2)→Ys (· < w.heap.size) Y (.returned (.tuple #[v,.bool ok])) w7∧∃ j,Mv w w7 R (some ⟨b,o,none⟩) N cap j∧j≤N∧(i<N→j=i+1) from
      fun v ok w6 w7 h1 h2 h3 h4 h5=>⟨⟨v,ok,rfl,h1,h2,fun E hE=>((h3 E hE).grown h5 (fun k e _=>by injection e with e;omega)).anti fun b hb=>Or.inl (by have:=hm5.out.gb.size;omega)⟩,
       i+1,(hm5.out.below h4).far h5 (fun k e=>by injection e with e;have:=HG.out;omega) hRw,hi,fun _=>rfl⟩)
     by_cases hk:tk=21
     · have hYk:J0 (Kb J0 h) (kids.map Vl.c)=Y:=by
        have:=HYX.out.1;rw[if_pos hk]at this;exact this
       have hwc:=HWP.out w5 hv5.out.here.kids;rw[HYX.out.2,hYk]at hwc;have HC:=Q1 hwc;subst hk;clear hwc hYk;go_wp2_with fail
       ((with_reducible refine HC.out.mono ?_);rintro e w6 ⟨⟨v,ok,rfl,hok,h5,hE⟩,hbb⟩)
       obtain⟨vk,vn,vd,vu,voa,vL,vc,rfl⟩:=h5;have h26:=h25.out.below hbb h25.out.lt;have cc0:w6.cell? ⟨g2,0,none⟩=some (.int .i64 0):=(h26).cell 0;have fcc0:=(h26).frozen 0;have cc1:w6.cell? ⟨g2,1,none⟩=some (.int .i64 0):=(h26).cell 1;have fcc1:=(h26).frozen 1;have cc2:w6.cell? ⟨g2,2,none⟩=some (.int .i64 0):=(h26).cell 2;have fcc2:=(h26).frozen 2;have cc3:w6.cell? ⟨g2,3,none⟩=some (.int .i64 0):=(h26).cell 3;have fcc3:=(h26).frozen 3;have cc4:w6.cell? ⟨g2,4,none⟩=some (.slice none 0 0):=(h26).cell 4;have fcc4:=(h26).frozen 4;have lcc:=(h26).lt;have HE:=Q1 (Q3 hok (Q3 hE hbb));have H26:=Q1 h26;clear h26 hok hE hbb cb0 cb1 cb2 cb3 cb4 cb5 cb6 fcb0 fcb1 fcb2 fcb3 fcb4 fcb5 fcb6 lcb;go_wp2_with fail;have hputs:=(H26.out).put5 (.int .i64 vk) (.int .i64 vn) (.int .i64 vd) (.int .i64 vu) (.slice voa vL vc)
       refine bodyPost_ret (v:=.tuple #[.agg #[.int .i64 vk,.int .i64 vn,.int .i64 vd,.int .i64 vu,.slice voa vL vc],.bool ok]) ?_ rfl ?_
       · refine Zj Tryz.results242 ?_ ?_ hputs rfl
         all_goals rfl
       · exact HFIN.out _ _ w6 _ HE.out.1 ⟨_,_,_,_,_,_,_,rfl⟩ HE.out.2.1 HE.out.2.2 (Qm [.int .i64 vk,.int .i64 vn,.int .i64 vd,.int .i64 vu,.slice voa vL vc] w6 g2 0)
     · have gk:(tk==(21:Int))=false:=by simpa using hk
       have hYk:Cr J0 (h+1) (Vl.mk ⟨tk,tt,(tn,td),ti,tid⟩ koa kb ko kcap kids).c=Y:=by
        have:=HYX.out.1;rw[if_neg hk]at this;rw[Vl.c_mk,Cr];exact this
       have hwc:=HXP.out w5 hv5.out.here;rw[hYk]at hwc
       have hvv:vv (Vl.mk ⟨tk,tt,(tn,td),ti,tid⟩ koa kb ko kcap kids)=.agg #[.int .i64 tk,.string ⟨tt.toArray⟩,.int .i64 tn,.int .i64 td,.bool ti,.bool tid,.slice koa K kcap]:=by rw[← HYX.out.2];rfl
       rw[hvv]at hwc;have HC:=Q1 hwc;clear hwc hYk hvv hk;go_wp2_with fail
       ((with_reducible refine HC.out.mono ?_);rintro e w6 ⟨⟨v,ok,rfl,hok,h5,hE⟩,hbb⟩)
       obtain⟨vk,vn,vd,vu,voa,vL,vc,rfl⟩:=h5;have h26:=h25.out.below hbb h25.out.lt;have cc0:w6.cell? ⟨g2,0,none⟩=some (.int .i64 0):=(h26).cell 0;have fcc0:=(h26).frozen 0;have cc1:w6.cell? ⟨g2,1,none⟩=some (.int .i64 0):=(h26).cell 1;have fcc1:=(h26).frozen 1;have cc2:w6.cell? ⟨g2,2,none⟩=some (.int .i64 0):=(h26).cell 2;have fcc2:=(h26).frozen 2;have cc3:w6.cell? ⟨g2,3,none⟩=some (.int .i64 0):=(h26).cell 3;have fcc3:=(h26).frozen 3;have cc4:w6.cell? ⟨g2,4,none⟩=some (.slice none 0 0):=(h26).cell 4;have fcc4:=(h26).frozen 4;have lcc:=(h26).lt;have HE:=Q1 (Q3 hok (Q3 hE hbb));have H26:=Q1 h26;clear h26 hok hE hbb cb0 cb1 cb2 cb3 cb4 cb5 cb6 fcb0 fcb1 fcb2 fcb3 fcb4 fcb5 fcb6 lcb;go_wp2_with fail;have hputs:=(H26.out).put5 (.int .i64 vk) (.int .i64 vn) (.int .i64 vd) (.int .i64 vu) (.slice voa vL vc)
       refine bodyPost_ret (v:=.tuple #[.agg #[.int .i64 vk,.int .i64 vn,.int .i64 vd,.int .i64 vu,.slice voa vL vc],.bool ok]) ?_ rfl ?_
       · refine Zj Tryz.results242 ?_ ?_ hputs rfl
         all_goals rfl
       · exact HFIN.out _ _ w6 _ HE.out.1 ⟨_,_,_,_,_,_,_,rfl⟩ HE.out.2.1 HE.out.2.2 (Qm [.int .i64 vk,.int .i64 vn,.int .i64 vd,.int .i64 vu,.slice voa vL vc] w6 g2 0)
 · have gi:decide ((N:Int)≤(i:Int))=true:=by simp;omega
   have gin:decide (N≤i)=true:=by simp;omega
   have hY0:Y=none:=by
    rw[← HY.out];unfold W6;rw[Zf (by rw[HN.out.2.2];omega)]
   subst hY0;have c0:=h22.out.cell 0;have hmv:=Q1 (Q4d hb2.out (by have:=Mv.refl hr2.out;rw[HN.out.1]at this;exact this));have c0:=h22.out.cell 0;have c1:=h22.out.cell 1;have c2:=h22.out.cell 2;have c3:=h22.out.cell 3;have c4:=h22.out.cell 4;have d0:=h22.out.frozen 0;have d1:=h22.out.frozen 1;have d2:=h22.out.frozen 2;have d3:=h22.out.frozen 3;have d4:=h22.out.frozen 4;have dl:=h22.out.lt;simp only[Qp,Qq,Qo]at c0 c1 c2 c3 c4;go_wp2_with fail;have hputs:=(h22.out).put5 (.int .i64 0) (.int .i64 0) (.int .i64 0) (.int .i64 0) (.slice none 0 0);refine bodyPost_ret (v:=.tuple #[.agg #[.int .i64 0,.int .i64 0,.int .i64 0,.int .i64 0,.slice none 0 0],.bool false]) ?_ rfl ?_
   · refine Zj Tryz.results242 ?_ ?_ hputs rfl
     all_goals rfl
   · exact⟨Q0q _ _,i,hmv.out.far (Qm [.int .i64 0,.int .i64 0,.int .i64 0,.int .i64 0,.slice none 0 0] w2 g2 0) (fun k e=>by have:=HG.out;injection e with e;omega) (by have:=HG.out;omega),hiN,fun h=>absurd h hi⟩
theorem Vv {w:World} {base g n size:Nat} {e:TypeId} {cs:Array Value} (h:Ql w g e cs) (hb:base≤g) (hs:cs.size=n*size) (hn:n≤maxLen):w.ownsRow base e size (.slice (some ⟨g,0,none⟩) n n) n cs.toList :=
 ⟨by simpa using hs,Or.inr ⟨g,n,cs,rfl,hb,h,Q6 _,hn,hs,by rw[Zc (by simp[hs])]⟩⟩
theorem Xf (R:List Fm) (f:Fm):Aw (R++[f])=(f.t,f.kids.map Vl.c)::Aw R:=by
 unfold Aw;rw[Zp,List.reverse_append];rfl
theorem Q5p {R:List Fm}:Aw R=[]↔R=[]:=by
 unfold Aw;constructor
 · intro h;have:=congrArg List.length h;simpa using this
 · rintro rfl;rfl
theorem Ev (R:List Fm):(Aw R).length=R.length:=by unfold Aw;simp
theorem Q3r (R:List Fm) (p f:Fm):Ru (Aw (R++[p]++[f]))=(p.t,p.kids.map Vl.c++[.mk f.t (f.kids.map Vl.c)])::Aw R:=by
 rw[Xf,Xf];rfl
theorem Sk.begin {w:World} {g:Nat} (h:Ql w g 72 Fh) (B:Nat) (hB:B≤g):Sk B w (.slice (some ⟨g,0,none⟩) 1 1) [⟨Gy,.slice none 0 0,[]⟩] 0:=by
 refine⟨Vv (n:=1) h hB rfl (by decide),fun x hx=>?_,List.pairwise_singleton _ _,fun x hx=>?_,fun x hx=>?_,0,fun w' _ _ x hx k hk=>?_⟩
 all_goals obtain rfl:=Qh.1 hx
 · exact World.ownsRow_nil _ _ _ _
 · exact⟨by unfold Wj Gy;decide,by unfold U2 Gy;decide,Qs _⟩
 · exact Q6 _
 · cases hk
theorem W1 (t0:Tk) (k0:List Vt) (r:List (Tk×List Vt)) (t:Tk):L7 ((t0,k0)::r) t=if r≠[]∧t.kind=J2 t0.kind then Ru ((t0,k0)::r) else if J2 t.kind≠0 then (t,[])::(t0,k0)::r else (t0,k0++[.mk t []])::r:=rfl
theorem Kr (k:Int) (w:World):Calls Tryz.prog 40 #[.int .i64 k] w fun e w'=>e=.returned (.int .i64 (J2 k))∧w=w':=(Ml k w).mono fun _ _ ⟨h1,h2⟩=>⟨h1,h2.symm⟩
theorem C8 {S:List Fm} (h:S≠[]):∃ R f,S=R++[f]:=⟨S.dropLast,S.getLast h,(List.dropLast_concat_getLast h).symm⟩
theorem Ar (l:List Tk) (oa:Option Addr) (cap b o:Nat) (w:World) (hs:Sl w oa l.length cap b o 6 (Kh l)) (h64:∀ t∈l,Bo t) (hm:l.length≤274877906944) :
  Calls Tryz.prog 12 #[.slice oa l.length cap] w fun e w'=>(∃ v,e=.returned v∧∃ h,Us (· < w.heap.size) h (Hk l) v w')∧Below w.heap.size w w':=by
 obtain⟨X,hX⟩:∃ X,l.foldl L7 [(Gy,[])]=X:=⟨_,rfl⟩;obtain⟨Y,hY⟩:∃ Y,Hk l=Y:=⟨_,rfl⟩
 have hXY:Y=match Bi X.length X with
  | (_,k)::_=>k
  | []=>[]:=by rw[← hY,← hX];rfl
 rw[hY];obtain⟨N,hN⟩:∃ N,l.length=N:=⟨_,rfl⟩;rw[hN]at hm ⊢;obtain⟨B,hB⟩:∃ B,w.heap.size=B:=⟨_,rfl⟩;simp only[hB];have hcl:=hs.le;have hcm:=hs.max;unfold maxLen at hcm;rw[hN]at hcl;have HS:=Q1 hs;have HX:=Q1 hX;have HXY:=Q1 hXY;have HN:=Q1 hN;have H64:=Q1 h64;have HB:=Q1 hB;clear hs hX hXY hY hN h64 hB
 go_enter Tryz.func12,Tryz.ntmps12
 go_upto_region 2 with fail
 have HK0:=Q1 (show Sk B (w.alloc (.cells #[.int .i64 0,.string ⟨#[]⟩,.int .i64 0,.int .i64 0,.bool false,.bool false,.slice none 0 0] 72)) (.slice (some ⟨w.heap.size,0,none⟩) 1 1) [⟨Gy,.slice none 0 0,[]⟩] 0 from Sk.begin (Ql.new w 72 Fh) B (by rw[HB.out];exact Q6 _));have HB0:=Q1 (show Below B w (w.alloc (.cells #[.int .i64 0,.string ⟨#[]⟩,.int .i64 0,.int .i64 0,.bool false,.bool false,.slice none 0 0] 72)) by rw[← HB.out];exact Q7 _ _);generalize w.heap.size=g0 at HK0 ⊢;generalize w.alloc _=w0 at *
 go_upto_block 0 with fail
 go_cut [3] (fun s wx=>∃ (S:List Fm) (gs c L:Nat),s=.slice (some ⟨gs,0,none⟩) L c∧Hid (S.length=L∧S≠[]∧L≤N+1)∧Hid (Sk B wx (.slice (some ⟨gs,0,none⟩) L c) S N)∧Hid (Aw S=X)∧Hid (Below B w wx))
 case first =>
  go_wp2_with fail
  go_loopg [3,11] N (fun q s3 s wr=>∃ (i:Nat) (S:List Fm) (gs c L:Nat),s=.int .i64 i∧s3=.slice (some ⟨gs,0,none⟩) L c∧Hid (S.length=L∧S≠[]∧L≤i+1)∧Hid (Sk B wr (.slice (some ⟨gs,0,none⟩) L c) S i)∧Hid (Aw S=(l.take i).foldl L7 [(Gy,[])])∧Hid (Below B w wr)∧i≤N∧N-i≤q)
  case atStart=>exact⟨0,_,g0,1,1,rfl,rfl,Q1 ⟨rfl,by simp,Q6 _⟩,HK0,Q1 rfl,HB0,Qs _,by omega⟩
  case round =>
   clear HK0 HB0;obtain⟨i,S,gs,c,L,rfl,rfl,hL,hK,hC,hb,hiN,hq⟩:=hrel
   by_cases hi:i<N
   · have gi:decide ((i:Int)<(N:Int))=true:=by simpa using hi
     have gin:decide (i<N)=true:=by simpa using hi
     have hil:i<l.length:=by rw[HN.out];exact hi
     have hli:l[i]?=some l[i]:=Q9 hil;have hs2:=HS.out.below (by rw[HB.out];exact hb.out);obtain⟨rfl,hbl⟩:=hs2.lies (by omega);have ht64:=H64.out _ (List.mem_of_getElem? hli)
     have hfold:(l.take (i+1)).foldl L7 [(Gy,[])]=L7 (Aw S) l[i]:=by rw[Ze hil,List.foldl_append,← hC.out];rfl
     obtain⟨t,ht⟩:∃ t,l[i]=t:=⟨_,rfl⟩;rw[ht]at hli ht64 hfold
     have hcell:∀ j v,(U1 t)[j]?=some v→wr.cell? ⟨b,o+(i*6+j),none⟩=some v:=fun j v hv=>hs2.cell _ _ (Yu (f:=U1) (sz:=6) (fun _=>rfl) l i t j v hli hv)
     obtain⟨tk,tt,⟨tn,td⟩,ti,tid⟩:=t;have f0:wr.cell? ⟨b,o+i*6,none⟩=some (.int .i64 tk):=hcell 0 _ rfl;have f1:wr.cell? ⟨b,o+i*6+1,none⟩=some (.string ⟨tt.toArray⟩):=hcell 1 _ rfl;have f2:wr.cell? ⟨b,o+i*6+2,none⟩=some (.int .i64 tn):=hcell 2 _ rfl;have f3:wr.cell? ⟨b,o+i*6+3,none⟩=some (.int .i64 td):=hcell 3 _ rfl;have f4:wr.cell? ⟨b,o+i*6+4,none⟩=some (.bool ti):=hcell 4 _ rfl;have f5:wr.cell? ⟨b,o+i*6+5,none⟩=some (.bool tid):=hcell 5 _ rfl;have HF:=Q1 hfold;have HT:=Q1 ht64;obtain⟨hL1,hL2,hL3⟩:=hL.out;obtain⟨R,f,rfl⟩:=C8 hL2;obtain⟨n,hn⟩:∃ n,R.length=n:=⟨_,rfl⟩
     have hLn:n+1=L:=by rw[← hL1,Qd,hn];rfl
     have iL:(L:Int)-1=(n:Int):=by omega
     have HL:=Q1 (Q3 hn (Q3 hLn hL3))
     have hL4:L≤1099511627777:=by omega
     clear hcell hfold ht64 hs2 hli hil ht hL hL1 hL2 hL3 hn hC
     go_upto_region 6 with fail
     have hbx:=Ql.new wr 25 #[.int .i64 tk,.string ⟨tt.toArray⟩,.int .i64 tn,.int .i64 td,.bool ti,.bool tid];have hb1:=Q1 (Below.alloc hb.out (by have:=hb.out.size;rw[← HB.out];exact this) (.cells #[.int .i64 tk,.string ⟨tt.toArray⟩,.int .i64 tn,.int .i64 td,.bool ti,.bool tid] 25));have hK1:=Q1 (hK.out.below (Q7 wr (.cells #[.int .i64 tk,.string ⟨tt.toArray⟩,.int .i64 tn,.int .i64 td,.bool ti,.bool tid] 25)));clear f0 f1 f2 f3 f4 f5 hb hK;generalize wr.heap.size=g5 at *;generalize wr.alloc _=w1 at *;have cb0:w1.cell? ⟨g5,0,none⟩=some (.int .i64 tk):=(hbx).cell 0;have fcb0:=(hbx).frozen 0;have cb1:w1.cell? ⟨g5,1,none⟩=some (.string ⟨tt.toArray⟩):=(hbx).cell 1;have fcb1:=(hbx).frozen 1;have cb2:w1.cell? ⟨g5,2,none⟩=some (.int .i64 tn):=(hbx).cell 2;have fcb2:=(hbx).frozen 2;have cb3:w1.cell? ⟨g5,3,none⟩=some (.int .i64 td):=(hbx).cell 3;have fcb3:=(hbx).frozen 3
     have cb4:w1.cell? ⟨g5,4,none⟩=some (.bool ti):=(hbx).cell 4;have fcb4:=(hbx).frozen 4;have cb5:w1.cell? ⟨g5,5,none⟩=some (.bool tid):=(hbx).cell 5;have fcb5:=(hbx).frozen 5;have lcb:=(hbx).lt;have HBX:=Q1 hbx;clear hbx;have hrow:=hK1.out.row;rw[Qd,Qi,HL.out.1,HL.out.2.1,List.flatMap_append,Zd]at hrow;obtain⟨fk,hfk⟩:∃ fk,f.t.kind=fk:=⟨_,rfl⟩
     have hRl:(R.flatMap X3).length=n*7:=by rw[Jg Uo,HL.out.1]
     have hc0:w1.cell? ⟨gs,n*7,none⟩=some (.int .i64 fk):=Uv hrow (by rw[Z0 (by omega),hRl,Nat.sub_self,← hfk];rfl);have iN0:(0:Int)≤(n:Int):=Int.natCast_nonneg _
     have iNn:(n:Int)<(L:Int):=by omega
     have iNn2:n<L:=by omega
     have hgsl:gs<w1.heap.size:=(hrow.lt gs rfl).2;have HFK:=Q1 hfk;have HRL:=Q1 hRl;clear hrow hfk hRl
     go_cut [31] (fun s wx=>s=.bool (decide (0<n)&&(tk==J2 fk))∧Hid (Below w1.heap.size w1 wx))
     case first =>
      by_cases h0:0<n
      · have g1:decide ((0:Int)<(n:Int))=true:=by simpa using h0
        have g2:decide (0<n)=true:=by simpa using h0
        refine Qx (by kernel_rfl) (by kernel_rfl) ?_
        repeat (go_big_quiet_step ((first | (go_at_call 40;with_reducible exact Zv (Kr fk _)))))
        refine wpQuiet_nil ?_;rintro _ ⟨m,rfl⟩;go_wp2_with fail;go_meet
        case rel=>exact⟨by simp[g2],Q1 (Qk m)⟩
      · have g1:decide ((0:Int)<(n:Int))=false:=by simp;omega
        have g2:decide (0<n)=false:=by simp;omega
        refine Qx (by kernel_rfl) (by kernel_rfl) ?_
        repeat (go_big_quiet_step ((first | (go_at_call 40;with_reducible exact Zv (Kr fk _)))))
        refine wpQuiet_nil ?_;rintro _ ⟨m,rfl⟩;go_wp2_with fail;go_meet
        case rel=>exact⟨by simp[g2],Q1 (Qk m)⟩
     case rest =>
      obtain⟨rfl,hbw⟩:=hcut;have hK2:=Q1 (hK1.out.below hbw.out);have hb2:=Q1 (hb1.out.trans (Below.mono hbw.out (by have:=hb1.out.size;have:=HB.out;omega)));have hbx:=HBX.out.below hbw.out HBX.out.lt
      have hwB:B≤wc.heap.size:=by have:=hb2.out.size;have:=HB.out;omega
      clear hbw hb1 hK1 HBX cb0 cb1 cb2 cb3 cb4 cb5 fcb0 fcb1 fcb2 fcb3 fcb4 fcb5 lcb hc0 hgsl
      by_cases hA:0<n∧tk=J2 fk
      · -- the innermost is closed
        have g6:(decide (0<n)&&(tk==J2 fk))=true:=by simp[hA.1,hA.2]
        obtain⟨R,p,rfl⟩:=C8 (S:=R) (fun e=>by have:=HL.out.1;rw[e]at this;simp at this;omega);obtain⟨n',hn'⟩:∃ n',R.length=n':=⟨_,rfl⟩
        have hnn:n'+1=n:=by rw[← HL.out.1,Qd,hn'];rfl
        have hLL:n'+2=L:=by have:=HL.out.2.1;omega
        have hsh:=Rs B i n' R p f gs c wc hn' (by rw[hLL];exact hK2.out) hwB (by omega);rw[hnn,hLL]at hsh;have HSH:=Q1 hsh;have HA:=Q1 hA;clear hsh hA hnn hLL hbx;rw[g6];clear g6;go_wp2_with fail
        ((with_reducible refine HSH.out.mono ?_);rintro e w2 ⟨rfl,⟨v',kd,hsk,hkc⟩,hbb⟩)
        have H2:=Q1 (Q3 hsk (Q3 hkc hbb));clear hsk hkc hbb HSH;go_wp2_with fail
        go_roundg (N-(i+1))
        case measure=>omega
        case rel =>
         obtain⟨hsk,hkc,hbb⟩:=H2.out;refine⟨i+1,_,gs,c,n,by go_num,rfl,Q1 ⟨by rw[Qd,← HL.out.1,Qd];rfl,by simp,by have:=HL.out;omega⟩,Q1 hsk,Q1 ?_,Q1 (hb2.out.trans hbb),hi,Q6 _⟩;rw[HF.out,Xf,Xf,Xf];rw[W1,if_pos ⟨by simp,by rw[HFK.out];exact HA.out.2⟩];simp only[Ru,Zp,List.map_cons,List.map_nil,hkc]
      · have g6:(decide (0<n)&&(tk==J2 fk))=false:=by
         apply Bool.eq_false_iff.2
         intro h;simp only[Qe,decide_eq_true_eq,beq_iff_eq]at h;exact hA h
        have hnot:¬ (Aw R≠[]∧tk=J2 f.t.kind):=fun h=>hA ⟨by
         rcases Nat.eq_zero_or_pos n with h0 | h0
         · have hr:R=[]:=List.eq_nil_of_length_eq_zero (by rw[HL.out.1,h0]);exact absurd (Q5p.2 hr) h.1
         · exact h0,by rw[← HFK.out];exact h.2⟩
        have HNOT:=Q1 hnot;rw[g6];clear g6 hA hnot;have cd0:wc.cell? ⟨g5,0,none⟩=some (.int .i64 tk):=(hbx).cell 0;have fcd0:=(hbx).frozen 0;have cd1:wc.cell? ⟨g5,1,none⟩=some (.string ⟨tt.toArray⟩):=(hbx).cell 1;have fcd1:=(hbx).frozen 1;have cd2:wc.cell? ⟨g5,2,none⟩=some (.int .i64 tn):=(hbx).cell 2;have fcd2:=(hbx).frozen 2;have cd3:wc.cell? ⟨g5,3,none⟩=some (.int .i64 td):=(hbx).cell 3;have fcd3:=(hbx).frozen 3;have cd4:wc.cell? ⟨g5,4,none⟩=some (.bool ti):=(hbx).cell 4;have fcd4:=(hbx).frozen 4;have cd5:wc.cell? ⟨g5,5,none⟩=some (.bool tid):=(hbx).cell 5;have fcd5:=(hbx).frozen 5;have lcd:=(hbx).lt
        by_cases hO:J2 tk=0
        · -- a value that opens nothing
          have gO:(J2 tk != 0)=false:=by simp[hO]
          have HO:=Q1 hO;clear hO;go_wp2_with fail;go_wp2_with fail
          ((with_reducible refine(Kr tk _).mono ?_);rintro e w' ⟨rfl,rfl⟩)
          have hk2:=hK2.out;rw[← HL.out.2.1]at hk2;have hfm:f∈R++[f]:=List.mem_append_right _ (Qh.2 rfl);have hkP:=hk2.kid f hfm;have hlP:=hk2.len f hfm;have hrowP:=hk2.row;rw[Qd,Qi,HL.out.1,List.flatMap_append,Zd]at hrowP;have hRl:=HRL.out;have hcP:wc.cell? ⟨gs,n*7+6,none⟩=some f.v:=Uv hrowP (by rw[Z0 (by omega),hRl,show n*7+6-n*7=6 by omega];rfl);have hfP:wc.frozen? ⟨gs,n*7+6,none⟩=false:=Zz hrowP _;have hgsl:=(hrowP.lt gs rfl).2
          have hneP:f.v.ownBlock≠some gs:=fun e=>Uz hkP hrowP (by decide) e rfl
          obtain⟨ft,fv,fkids⟩:=f;simp only at hkP hlP hcP hneP;obtain⟨poa,pc,pg,rfl,_,_⟩:=Zx hkP;obtain⟨k,hk⟩:∃ k,fkids.length=k:=⟨_,rfl⟩;rw[hk]at hkP hlP hcP hneP;have HKP:=Q1 hkP;have HKK:=Q1 hk;have HK2:=Q1 hk2
          have hkk:k≤1099511627776:=by omega
          have hk1:(k:Int)<(k:Int)+1:=by omega
          have hwr:IntKind.i64.wrap (n:Int)=(n:Int):=by rw[IntKind.wrap_i64];omega
          clear hkP hk hk2 hrowP hfm hK2 hRl cd0 cd1 cd2 cd3 cd4 cd5 fcd0 fcd1 fcd2 fcd3 fcd4 fcd5 lcd;have cd0:=hbx.cell 0;have cd1:=hbx.cell 1;have cd2:=hbx.cell 2;have cd3:=hbx.cell 3;have cd4:=hbx.cell 4;have cd5:=hbx.cell 5;have lcd:=hbx.lt;simp only[Qp,Qq,Qo]at cd0 cd1 cd2 cd3 cd4 cd5;go_wp2_with fail;refine Ym 9 [Qb.claim 6 49 (.agg #[.int .i64 tk,.string ⟨tt.toArray⟩,.int .i64 tn,.int .i64 td,.bool ti,.bool tid,.slice none 0 0]),Qb.claim 7 50 (.int .i64 k),Qb.rowL 8 51 28 1 #[.int .i64 0,.string ⟨#[]⟩,.int .i64 0,.int .i64 0,.bool false,.bool false,.slice none 0 0] wc.heap.size] (by kernel_rfl) (by kernel_rfl) (by kernel_rfl) rfl (by kernel_rfl) (by kernel_rfl) (by kernel_rfl) (by kernel_rfl) ?_
          simp only[List.take_succ_cons,List.take_zero,Jw,X6,List.find?,Qb.claim_i,Qb.cells_i,Qb.rowL_i,Qb.claim_hush,Qb.cells_hush,Qb.rowL_hush,Qb.val_i,Qb.rowS_i,Qb.val_hush,Qb.rowS_hush,Qb.fw_i,Qb.fw_hush,Qb.rw_i,Qb.rw_hush,Nat.reduceBEq,Nat.reduceAdd]
          repeat (go_big_quiet_step (fail))
          refine wpQuiet_nil ⟨fun V m=>?_,fun V m=>?_⟩
          · simp only[List.take_succ_cons,List.take_zero,G8,Du,Qq,Qo,Vk,Ua,Ub,Uw,Qb.claim_i,Qb.cells_i,Qb.rowL_i,Act.put,Q2,Q4,Q5,Xc,Vn,Qb.val_i,Qb.rowS_i,Yk,Qb.fw_i,Yj,Qb.rw_i];refine⟨fun _=>?_,fun _=>?_,fun _=>?_,trivial⟩
            · go_wp2_with fail;exact Vu rfl (Below.refl _ _)
            · go_wp2_with fail;exact Vu rfl (Below.refl _ _)
            · go_wp2_with fail;exact Cz rfl (Zn m)
          · simp only[Ge,Y8,Y9,Yx,D8,Gc,C7,C6,Gn,Ya,Yb,Yy,Df,Gl,Ck,Cj,Yz,Xl,Xm,Yc,Gq,Dg,Uj,Ui,Z8,List.length_nil,Nat.reduceAdd,Nat.reduceSub,and_true,Vk,Ua,Ub,Uw,Qb.claim_i,Qb.cells_i,Qb.rowL_i,Act.put,Q2,Q4,Q5,Xc,Vn,Qb.val_i,Qb.rowS_i,Yk,Qb.fw_i,Yj,Qb.rw_i];rintro⟨gb,hv8,hgb,hbk⟩ _;rw[hv8];clear hv8;have hgm:=Qk m;generalize grow wc m=wd at *;refine wpAny_ready (rs:=[9]) (by kernel_rfl) (by simp) ?_;refine AllReady.cons rfl (fun K hK=>?_) AllReady.nil
            refine Ky Fx (by rfl) _ _ (by rfl) (by rfl) (Jc HKP.out hgm) (by have:=hgm.size;omega) hbk 1 (by rfl) (by rfl) (by simp[Value.oneCell']) (by omega) (by omega) ?_;intro gg cap3 w3 ho3 hg3 hat;refine hK _ _ ?_;clear hK K;change wpAny _ _ _ _ _ _ (Act.put _ (some 52) _) _
            try simp only[Act.put,Q2,Q4,Q5]
            refine wpAny_take (i:=10) (v:=?vv10) rfl (by kernel_rfl) (by kernel_rfl) (by kernel_rfl) (fun _ _ _ h=>h) (Or.inl ⟨by rfl,?hy10⟩) ?_
            case hy10=>(intro w;go_simp;try with_reducible rfl)
            change wpAny _ _ _ _ _ _ (Act.put _ (some 53) _) _
            try simp only[Act.put,Q2,Q4,Q5]
            refine wpAny_take (i:=12) (v:=?vv12) rfl (by kernel_rfl) (by kernel_rfl) (by kernel_rfl) (fun _ _ _ h=>h) (Or.inl ⟨by rfl,?hy12⟩) ?_
            case hy12=>(intro w;go_simp;try with_reducible rfl)
            change wpAny _ _ _ _ _ _ (Act.put _ (some 54) _) _
            try simp only[Act.put,Q2,Q4,Q5]
            refine wpAny_take (i:=13) (v:=?vv13) rfl (by kernel_rfl) (by kernel_rfl) (by kernel_rfl) (fun _ _ _ h=>h) (Or.inl ⟨by rfl,?hy13⟩) ?_
            case hy13=>(intro w;go_simp;try with_reducible rfl)
            change wpAny _ _ _ _ _ _ (Act.put _ (some 55) _) _
            try simp only[Act.put,Q2,Q4,Q5]
            have hk2:=HK2.out;have hkk':=HKK.out
            have hg3':wd.grownBy w3 (Value.slice poa fkids.length pc).ownBlock:=by rw[HKK.out];exact hg3
            have hfr:=hk2.frames HL.out.1 hgm hg3'
            have hgne:gg≠gs:=fun e=>Uz ho3 hfr (by decide) rfl (by rw[e];rfl)
            have hgne':gs≠gg:=Ne.symm hgne;have q1:w3.cell? ⟨gs,n*7+6,none⟩=some (.slice poa k pc):=(hg3.cell_far _ (by have:=hgm.size;simp;omega) (Ne.symm hneP)).trans ((hgm.cell hgsl).trans hcP);have q2:w3.frozen? ⟨gs,n*7+6,none⟩=false:=(hg3.frozen_far _ (by have:=hgm.size;simp;omega) (Ne.symm hneP)).trans ((hgm.frozen hgsl).trans hfP)
            have hln:(fkids.flatMap U3).length=k*7:=by rw[Jg Ji,HKK.out]
            have z:∀ j u,(#[.int .i64 0,.string ⟨#[]⟩,.int .i64 0,.int .i64 0,.bool false,.bool false,.slice none 0 0]:Array Value).toList[j]?=some u→w3.cell? ⟨gg,k*7+j,none⟩=some u:=fun j u hu=>Uv ho3 (by rw[Z0 (by omega),hln,show k*7+j-k*7=j by omega];exact hu)
            have z0:=z 0 _ rfl;have z1:=z 1 _ rfl;have z2:=z 2 _ rfl;have z3:=z 3 _ rfl;have z4:=z 4 _ rfl;have z5:=z 5 _ rfl;have z6:=z 6 _ rfl;simp only[Nat.add_zero]at z0;have y0:=Zz ho3 (k*7);have y1:=Zz ho3 (k*7+1);have y2:=Zz ho3 (k*7+2);have y3:=Zz ho3 (k*7+3);have y4:=Zz ho3 (k*7+4);have y5:=Zz ho3 (k*7+5);have y6:=Zz ho3 (k*7+6);have lgg:=(ho3.lt gg rfl).2;have lgs:=(hfr.lt gs rfl).2;have hcap3:=G6 ho3;have H3:=Q1 (Q3 hgm (Q3 hg3' (Q3 hat (Q3 ho3 (Q3 hfr hgne)))));clear z hk2 hkk' hg3' hfr ho3 hg3 hgm hat hcP hfP hbk cd0 cd1 cd2 cd3 cd4 cd5 lcd hbx hgne;refine wpAny_ready (rs:=[11,14]) (by kernel_rfl) (by simp) ?_;refine AllReady.cons rfl (fun K hK=>?_) (AllReady.cons rfl (fun K hK=>?_) AllReady.nil)
            · go_simp
              refine hK _ _ ?_;clear hK K;refine wpAny_ready (rs:=[14]) (by kernel_rfl) (by simp) ?_;refine AllReady.cons rfl (fun K hK=>?_) AllReady.nil
              go_simp
              refine hK _ _ ?_;clear hK K;refine wpAny_done (by kernel_rfl) ?_ _;obtain⟨hgm,hg3,hat,ho3,hfr,hgne⟩:=H3.out;have hk:=HKK.out;subst hk;have hG1:=Qm [.int .i64 tk,.string ⟨tt.toArray⟩,.int .i64 tn,.int .i64 td,.bool ti,.bool tid,.slice none 0 0] w3 gg (fkids.length*7);have hkid:=G4 [.int .i64 tk,.string ⟨tt.toArray⟩,.int .i64 tn,.int .i64 td,.bool ti,.bool tid,.slice none 0 0] (fkids.length*7) w3 _ _ ho3 (Jg Ji _) rfl (by simp;omega);have hfr4:=hfr.kept hG1 (.inr fun e=>hgne (Q8 e).symm);have hfr5:=W9 hfr4 HL.out.1 (.slice (some ⟨gg,0,none⟩) (fkids.length+1) cap3);have hG2:=J9 (J5 w3 gg (fkids.length*7) [.int .i64 tk,.string ⟨tt.toArray⟩,.int .i64 tn,.int .i64 td,.bool ti,.bool tid,.slice none 0 0]) ⟨gs,n*7+6,none⟩ (.slice (some ⟨gg,0,none⟩) (fkids.length+1) cap3)
              have hkid5:=hkid.kept hG2 (.inr fun e=>hgne (Q8 e));have HPUT:=Q1 (Sk.put (k:=.mk ⟨tk,tt,(tn,td),ti,tid⟩ none 0 0 0 []) HK2.out HL.out.1 ⟨1,fun w' _ _=>⟨HT.out,by simp,⟨rfl,Q6 _,Qs _,fun h=>absurd h (by simp),fun j v h=>by simp at h⟩,fun i x h=>by simp at h⟩⟩ hgm hg3 hat rfl hwB hG1 hG2 (Or.inr rfl) (Or.inl rfl) hfr5 hkid5);clear hG1 hG2 hfr4 hfr5 hgm hg3 hat ho3 hfr hgne hkid hkid5 q1 q2 z0 z1 z2 z3 z4 z5 z6 y0 y1 y2 y3 y4 y5 y6;simp only[J5]at HPUT;generalize World.setCell _ _ _=w5 at *;go_wp2_with fail
              go_roundg (N-(i+1))
              case measure=>omega
              case rel =>
               refine⟨i+1,R++[⟨ft,.slice (some ⟨gg,0,none⟩) (fkids.length+1) cap3,fkids++[.mk ⟨tk,tt,(tn,td),ti,tid⟩ none 0 0 0 []]⟩],gs,c,L,by go_num,rfl,Q1 ⟨by rw[Qd,Qi,HL.out.1,HL.out.2.1],by simp,by have:=HL.out;omega⟩,Q1 (by rw[← HL.out.2.1];exact HPUT.out.1),Q1 ?_,Q1 (hb2.out.trans HPUT.out.2),hi,Q6 _⟩;rw[HF.out,Xf,Xf,W1,if_neg HNOT.out,if_neg (by rw[HO.out];simp),Zp];rfl
            · go_simp
              refine hK _ _ ?_;clear hK K;refine wpAny_ready (rs:=[11]) (by kernel_rfl) (by simp) ?_;refine AllReady.cons rfl (fun K hK=>?_) AllReady.nil
              go_simp
              refine hK _ _ ?_;clear hK K;refine wpAny_done (by kernel_rfl) ?_ _;obtain⟨hgm,hg3,hat,ho3,hfr,hgne⟩:=H3.out;have hk:=HKK.out;subst hk;have hG1:=J9 w3 ⟨gs,n*7+6,none⟩ (.slice (some ⟨gg,0,none⟩) (fkids.length+1) cap3);have hfr4:=W9 hfr HL.out.1 (.slice (some ⟨gg,0,none⟩) (fkids.length+1) cap3);have ho4:=ho3.kept hG1 (.inr fun e=>hgne (Q8 e));have hG2:=Qm [.int .i64 tk,.string ⟨tt.toArray⟩,.int .i64 tn,.int .i64 td,.bool ti,.bool tid,.slice none 0 0] (w3.setCell ⟨gs,n*7+6,none⟩ (.slice (some ⟨gg,0,none⟩) (fkids.length+1) cap3)) gg (fkids.length*7);have hkid5:=G4 [.int .i64 tk,.string ⟨tt.toArray⟩,.int .i64 tn,.int .i64 td,.bool ti,.bool tid,.slice none 0 0] (fkids.length*7) (w3.setCell ⟨gs,n*7+6,none⟩ (.slice (some ⟨gg,0,none⟩) (fkids.length+1) cap3)) _ _ ho4 (Jg Ji _) rfl (by simp;omega)
              have hfr5:=hfr4.kept hG2 (.inr fun e=>hgne (Q8 e).symm);have HPUT:=Q1 (Sk.put (k:=.mk ⟨tk,tt,(tn,td),ti,tid⟩ none 0 0 0 []) HK2.out HL.out.1 ⟨1,fun w' _ _=>⟨HT.out,by simp,⟨rfl,Q6 _,Qs _,fun h=>absurd h (by simp),fun j v h=>by simp at h⟩,fun i x h=>by simp at h⟩⟩ hgm hg3 hat rfl hwB hG1 hG2 (Or.inl rfl) (Or.inr rfl) hfr5 hkid5);clear hG1 hG2 hfr4 hfr5 hgm hg3 hat ho3 hfr hgne ho4 hkid5 q1 q2 z0 z1 z2 z3 z4 z5 z6 y0 y1 y2 y3 y4 y5 y6;simp only[J5]at HPUT;generalize World.setCell _ _ _=w5 at *;go_wp2_with fail
              go_roundg (N-(i+1))
              case measure=>omega
              case rel =>
               refine⟨i+1,R++[⟨ft,.slice (some ⟨gg,0,none⟩) (fkids.length+1) cap3,fkids++[.mk ⟨tk,tt,(tn,td),ti,tid⟩ none 0 0 0 []]⟩],gs,c,L,by go_num,rfl,Q1 ⟨by rw[Qd,Qi,HL.out.1,HL.out.2.1],by simp,by have:=HL.out;omega⟩,Q1 (by rw[← HL.out.2.1];exact HPUT.out.1),Q1 ?_,Q1 (hb2.out.trans HPUT.out.2),hi,Q6 _⟩;rw[HF.out,Xf,Xf,W1,if_neg HNOT.out,if_neg (by rw[HO.out];simp),Zp];rfl
        · have gO:(J2 tk != 0)=true:=by simpa using hO
          have HO:=Q1 hO;clear hO;go_wp2_with fail;go_wp2_with fail
          ((with_reducible refine(Kr tk _).mono ?_);rintro e w' ⟨rfl,rfl⟩)
          have hk2:=hK2.out;have hrowP:=hk2.row;rw[Qd,Qi,HL.out.1,HL.out.2.1]at hrowP;have HK2:=Q1 hk2;have HRW:=Q1 hrowP;clear hk2 hrowP hK2;go_wp2_with (at_builtin;refine J4 Q6e rfl _ _ rfl rfl (HRW.out.alloc _) (by simp;omega) (Ql.new wc _ _) 1 rfl rfl (by simp[Value.oneCell']) (by omega) (by omega) ?_;intro gg cap3 w3 ho3 hg3 hat hvb;have H3:=Q1 (Q3 ho3 (Q3 hg3 (Q3 hat hvb)));clear ho3 hg3 hat hvb)
          go_roundg (N-(i+1))
          case measure=>omega
          case rel =>
           obtain⟨ho3,hg3,hat,hvb⟩:=H3.out
           have hl1:(R++[f]).length=L:=by rw[Qd,Qi,HL.out.1,HL.out.2.1]
           have hgc:=Z7 (World.grownBy_alloc wc _ _) hg3;have hop:=HK2.out.open (t:=⟨tk,tt,(tn,td),ti,tid⟩) (vs':=.slice (some ⟨gg,0,none⟩) (L+1) cap3) (gg:=gg) HT.out rfl (hat.imp id fun e=>by rw[e];simp) hgc (by rw[hl1];exact ho3);refine⟨i+1,_,gg,cap3,L+1,by go_num,rfl,Q1 ⟨by rw[Qd,hl1];rfl,by simp,by have:=HL.out;omega⟩,Q1 (hop.mono (by omega)),Q1 ?_,Q1 (hb2.out.trans (Below.grown (Below.refl B wc) hgc hwB (fun k hk=>(HRW.out.lt k hk).1))),hi,Q6 _⟩;rw[HF.out,Xf,Xf,W1,if_neg HNOT.out,if_pos HO.out];rfl
   · obtain rfl:i=N:=by omega
     have gi:decide ((i:Int)<(i:Int))=false:=by simp
     have gin:decide (i<i)=false:=by simp
     go_wp2_with fail;go_meet
     case rel=>exact⟨S,gs,c,L,rfl,hL,hK,Q1 (by rw[hC.out,← HX.out,← HN.out,List.take_length]),hb⟩
 case rest =>
  obtain⟨S,gs,c,L,rfl,hL,hK,hC,hb⟩:=hcut;obtain⟨hL1,hL2,hL3⟩:=hL.out
  have HZ:=Q1 (show Y=match Bi L (Aw S) with
   | (_,k)::_=>k
   | []=>[] by rw[HXY.out,hC.out,← hL1,← Ev,hC.out])
  have HL0:=Q1 hL1;have HS0:=Q1 hL2;clear hL hL1 hL2 hC HK0 HB0 HXY HX
  go_upto_block 2 with fail
  go_cut [3] (fun s wx=>∃ (f:Fm) (gs c:Nat),s=.slice (some ⟨gs,0,none⟩) 1 c∧Hid (∃ K,K≤N+N+2∧Sk B wx (.slice (some ⟨gs,0,none⟩) 1 c) [f] K)∧Hid (Y=f.kids.map Vl.c)∧Hid (Below B w wx))
  case first =>
   go_wp2_with fail
   go_loopg [3] L (fun q s3 wr=>∃ (S:List Fm) (gs c M:Nat),s3=.slice (some ⟨gs,0,none⟩) M c∧Hid (S.length=M∧S≠[])∧Hid (Sk B wr (.slice (some ⟨gs,0,none⟩) M c) S (N+L-M))∧Hid (∃ m,M≤m+1∧Y=match Bi m (Aw S) with
    | (_,k)::_=>k
    | []=>[])∧Hid (Below B w wr)∧M≤L∧M≤q)
   case atStart=>exact⟨S,gs,c,L,rfl,Q1 ⟨HL0.out,HS0.out⟩,Q1 (hK.out.mono (by omega)),Q1 ⟨L,by omega,HZ.out⟩,hb,Q6 _,Q6 _⟩
   case round =>
    clear HZ HL0 HS0 hK hb;obtain⟨S,gs,c,M,rfl,hM,hK,hZ,hb,hML,hq⟩:=hrel
    by_cases h2:2≤M
    · have g1:decide ((1:Int)<(M:Int))=true:=by simp;omega
      have g1n:decide (1<M)=true:=by simp;omega
      obtain⟨R0,f,rfl⟩:=C8 hM.out.2;obtain⟨R,p,rfl⟩:=C8 (S:=R0) (fun e=>by have:=hM.out.1;rw[e]at this;simp at this;omega);obtain⟨n',hn'⟩:∃ n',R.length=n':=⟨_,rfl⟩
      have hMM:n'+2=M:=by have:=hM.out.1;simp at this;omega
      have hsh:=Rs B (N+L-M) n' R p f gs c wr hn' (by rw[hMM];exact hK.out) (by have:=hb.out.size;have:=HB.out;omega) (by omega);rw[hMM]at hsh;have HSH:=Q1 hsh;clear hsh;go_wp2_with fail
      ((with_reducible refine HSH.out.mono ?_);rintro e w2 ⟨rfl,⟨v',kd,hsk,hkc⟩,hbb⟩)
      have H2:=Q1 (Q3 hsk (Q3 hkc hbb));clear hsk hkc hbb HSH;go_wp2_with fail
      go_roundg (M-1)
      case measure=>omega
      case rel =>
       obtain⟨hsk,hkc,hbb⟩:=H2.out;obtain⟨m,hm,hY⟩:=hZ.out;obtain⟨m,rfl⟩:∃ m',m=m'+1:=⟨m-1,by omega⟩;refine⟨R++[⟨p.t,v',p.kids++[kd]⟩],gs,c,n'+1,rfl,Q1 ⟨by rw[Qd,hn'];rfl,by simp⟩,Q1 (hsk.mono (by omega)),Q1 ⟨m,by omega,?_⟩,Q1 (hb.out.trans hbb),by omega,by omega⟩;rw[hY,Bi,if_pos (by rw[Ev];simp),Q3r,Xf,← hkc,Zp];rfl
    · have g1:decide ((1:Int)<(M:Int))=false:=by simp;omega
      have g1n:decide (1<M)=false:=by simp;omega
      obtain⟨R0,f,rfl⟩:=C8 hM.out.2;have hR0:R0=[]:=List.eq_nil_of_length_eq_zero (by have:=hM.out.1;simp at this;omega);subst hR0
      obtain rfl:M=1:=by have:=hM.out.1;simp at this;omega
      go_wp2_with fail;go_meet
      case rel =>
       obtain⟨m,hm,hY⟩:=hZ.out;refine⟨f,gs,c,rfl,Q1 ⟨_,by omega,hK.out⟩,Q1 ?_,hb⟩;rw[hY]
       cases m with
       | zero=>rfl
       | succ m=>rw[Bi,if_neg (by rw[Ev];simp)];rfl
  case rest =>
   obtain⟨f,gs,c,rfl,hK,hY,hb⟩:=hcut;obtain⟨K,hKl,hk⟩:=hK.out;have hrow:=hk.row;have hcell:wc.cell? ⟨gs,6,none⟩=some f.v:=Uv hrow rfl;have hkf:=hk.kid f (Qh.2 rfl);have hlf:=hk.len f (Qh.2 rfl);obtain⟨h0,hsf⟩:=hk.safe
   have hne:=fun e=>Uz hkf hrow (by decide) e (g:=gs) rfl
   obtain⟨ft,fv,fkids⟩:=f;simp only at hkf hlf hcell hsf hne;obtain⟨poa,pc,pg,rfl,hsl,hpos⟩:=Zx hkf;have HV:=Q1 (show Us (· < B) h0 Y (.slice poa fkids.length pc) wc from ⟨poa,pc,pg,0,fkids,rfl,hY.out.symm,Zw.made (by omega) hsl (fun h e=>by have:=hpos h;omega) ((hsf.anti fun b hb _=>Or.inl hb).mono fun _ hw x hx=>hw _ (Qh.2 rfl) x hx)⟩);clear hrow hkf hsf hk hK hsl hpos hne;generalize fkids.length=k at *;go_wp2_with fail;go_ret;exact⟨⟨_,rfl,h0,HV.out⟩,hb.out⟩
end Go.Proofs.YtnanffmhbjdpaaaGreatDoor
namespace Go.Proofs.YtnanffmhbjdpaaaGreatDoor
set_option maxHeartbeats 8000000
set_option maxRecDepth 20000
set_option linter.unusedVariables false
set_option linter.unusedSimpArgs false
theorem C4 (n:Nat):∀ a b:List Vt,Jf n (a++b)=(Jf n a&&Jf n b)
 | [],b=>by rw[List.nil_append,D5,Bool.true_and]
 | .mk t k::r,b=>by rw[List.cons_append,Y7,Y7,C4 n r b];simp only[Bool.and_assoc]
theorem Q65:∀ (n:Nat) (l:List Vt),Jf n l=true→Jf (n+1) l=true:=by
 intro n
 induction n with
 | zero =>
   intro l
   induction l with
   | nil=>exact fun _=>D5 _
   | cons v r ih =>
     obtain⟨t,k⟩:=v;intro h;rw[Y7,Qe,Qe]at h ⊢;refine⟨⟨h.1.1,?_⟩,ih h.2⟩;have h2:=h.1.2;split at h2
     · rename_i hc;rw[if_pos hc];exact h2
     · cases h2
 | succ n ihn =>
   intro l
   induction l with
   | nil=>exact fun _=>D5 _
   | cons v r ih =>
     obtain⟨t,k⟩:=v;intro h;rw[Y7,Qe,Qe]at h ⊢;refine⟨⟨h.1.1,?_⟩,ih h.2⟩;have h2:=h.1.2;split at h2
     · rename_i hc;rw[if_pos hc];exact h2
     · rename_i hc;rw[if_neg hc];exact ihn k h2
theorem Uh {n:Nat} {l:List Vt} (h:Jf n l=true) (i:Nat):Jf n (l.take i)=true∧Jf n (l.drop i)=true:=by
 rw[← List.take_append_drop i l,C4,Qe]at h;exact h
theorem F2 {n:Nat} {l:List Vt} (h:Jf n l=true):Jf n (Z9 l)=true:=by
 have hd:∀ l:List Vt,∃ a,l=a++l.dropWhile Ud:=fun l=>⟨l.takeWhile Ud,List.takeWhile_append_dropWhile.symm⟩
 obtain⟨a,ha⟩:=hd l;rw[ha,C4,Qe]at h;obtain⟨b,hb⟩:=hd (X9 l).reverse
 have hb2:X9 l=Z9 l++b.reverse:=by
  have:=congrArg List.reverse hb;rwa [List.reverse_reverse,List.reverse_append]at this
 have h2:Jf n (X9 l)=true:=h.2;rw[hb2,C4,Qe]at h2;exact h2.1
theorem O0 {t:Tk} {k:List Vt} (h:Jf 64 [.mk t k]=true) (hk:t.kind=21):Jf 64 (Z9 k)=true:=by
 rw[Y7,hk]at h;simp only[Qe]at h;have h2:=h.1.2;rw[if_neg (by decide)]at h2;exact F2 (Q65 63 _ h2)
def Jx (h:Nat) (v:Vt):Option Et:=match Cr J0 h v with
 | some e=>if Pd 340 e then some e else none
 | none=>none
theorem Q2n (h:Nat) (v:Vt) (hk:v.tok.kind=1):Jx h v=none:=by
 obtain⟨t,k⟩:=v;have hk:t.kind=1:=hk;unfold Jx
 cases h with
 | zero=>rfl
 | succ h =>
   have:Cr J0 (h+1) (.mk t k)=none:=by
    rw[Cr,K8,if_neg (by omega),if_neg (by omega),if_neg (by omega)]
   rw[this]
theorem I8 {h:Nat} {l:List Vt} (hm:Jf 64 l=true):(Jz J0 h l).1=Eh (Cr J0 h) (Ue l):=by
 unfold Jz;rw[if_neg (by rw[hm];decide)]
 match ht:Z9 l with
 | [] =>
   have hn:Ue l=[]:=by rw[← V7,ht];rfl
   rw[hn];rfl
 | [v] =>
   have hv:Ud v=false:=by have:=K3 l;rw[ht]at this;exact this
   have hn:Ue l=[v]:=by rw[← V7,ht,Vh _ hv];rfl
   rw[hn];have e:Eh (Cr J0 h) [v]=Cr J0 h v:=rfl;rw[e];simp only
   cases Cr J0 h v<;>rfl
 | v::x::r =>
   match hn:Ue l with
   | []=>rfl
   | [y]=>rw[Wr hn]at ht;cases ht
   | _::_::_=>rfl
def Sa (h:Nat) (k:Int) (l:List Vt):Option Et:=match (Jz J0 h l).1 with
 | some e=>if (E4 e).1=k then some e else none
 | none=>none
theorem Nw {h:Nat} {k:Int} {l:List Vt} (hm:Jf 64 l=true) (hk:k≠0):Sa h k l=Wy (Jx h) k l:=by
 unfold Sa Wy S1;rw[I8 hm]
 match Ue l with
 | []=>rfl
 | _::_::_=>rfl
 | [v] =>
   show (match Cr J0 h v with
    | some e=>if (E4 e).1=k then some e else none
    | none=>none)=match Jx h v with
    | some e=>if Jv e=k then some e else none
    | none=>none
   unfold Jx
   cases Cr J0 h v with
   | none=>rfl
   | some e =>
     simp only;unfold E4
     cases Pd 340 e with
     | false=>simp[Ne.symm hk]
     | true =>
       by_cases h0:Jv e=0
       · simp[h0,Ne.symm hk]
       · simp[h0]
def Q0j (h:Nat) (l:List Vt):Option Et:=match l.findIdx? (Zr Zi) with
 | none=>Sa h 1 l
 | some i=>match Sa h 1 (l.take i),Sa h 1 (l.drop (i+1)) with
   | some a,some b=>some (W3 a b)
   | _,_=>none
def R9 (h:Nat) (n:List UInt8) (l:List Vt):Option Et :=
 if n=Di then Sa h 1 l else if n=Vp then Q0j h l else if Xn l then some Es else Sa h 2 l
theorem Q6c {h:Nat} {l:List Vt} (hm:Jf 64 l=true):Q0j h l=Ko (Jx h) l:=by
 unfold Q0j Ko
 cases l.findIdx? (Zr Zi) with
 | none=>exact Nw hm (by decide)
 | some i =>
   simp only;rw[Nw (k:=1) (Uh hm _).1 (by decide),Nw (k:=1) (Uh hm _).2 (by decide)]
   cases Wy (Jx h) 1 (l.take i)<;>cases Wy (Jx h) 1 (l.drop (i+1))<;>rfl
theorem Q3j {h:Nat} {l:List Vt} (n:List UInt8) (hm:Jf 64 l=true):R9 h n l=X7 (Jx h) n l:=by
 unfold R9 X7;rw[Nw hm (by decide),Nw hm (by decide),Q6c hm]
def Q54 (h:Nat) (n:List UInt8) (op:Int) (l:List Vt):Option Ct:=if V5 n then (R9 h n l).map (Vx n op) else none
theorem Q7q {h:Nat} {l:List Vt} (n:List UInt8) (op:Int) (hm:Jf 64 l=true):Q54 h n op l=Jj (Jx h) n op l:=by
 unfold Q54 Jj;rw[Q3j n hm]
end Go.Proofs.YtnanffmhbjdpaaaGreatDoor
namespace Go.Proofs.YtnanffmhbjdpaaaGreatDoor
set_option maxHeartbeats 8000000
set_option maxRecDepth 20000
set_option linter.unusedVariables false
set_option linter.unusedSimpArgs false
open Go.RowKit
def Lf.t (l:Lf):Lt:=⟨l.kind,l.truth,l.name.data.toList,l.op,l.ex.c,l.word.data.toList,l.value.data.toList,l.any⟩
mutual
def Cd.t:Cd→Ct
 | .mk k _ _ _ _ kids leaf=>.mk k (Cd.ts kids) leaf.t
def Cd.ts:List Cd→List Ct
 | []=>[]
 | x::r=>x.t::Cd.ts r
end
theorem Cd.ts_map:∀ l:List Cd,Cd.ts l=l.map Cd.t
 | []=>rfl
 | x::r=>by rw[Cd.ts,Cd.ts_map r];rfl
theorem Cd.t_mk (k:Int) (oa:Option Addr) (b o cap:Nat) (kids:List Cd) (leaf:Lf):(Cd.mk k oa b o cap kids leaf).t=.mk k (kids.map Cd.t) leaf.t:=by rw[Cd.t,Cd.ts_map]
theorem Mr (x:Cd):(Dj x).length=14:=by
 obtain⟨k,oa,b,o,cap,kids,⟨k2,t,n,op,⟨a0,a1,a2,a3,a4,a5,a6,a7,a8⟩,w,v,a⟩⟩:=x;rfl
theorem Q6x:∀ (h h':Nat) {w:World} {e:Cd},h≤h'→Wg w h e→Wg w h' e:=Wg.mono
theorem Hj.mk {w:World} {h:Nat} {l:Lf} (h1:Wj l.kind) (h2:Wj l.truth) (h3:Wj l.op) (hx:Zy w h l.ex):Hj w h l:=⟨h1,h2,h3,hx⟩
theorem F9 {A:Nat→Prop} {w:World} {h:Nat} {k:Int} {L:Lf} {oa:Option Addr} {b cap:Nat} {l:List Cd} (hk:Wj k) (hl:l.length*8≤140737488355328) (hs:Sl w oa l.length cap b 0 14 (l.flatMap Dj)) (hA:0<l.length→¬ A b)
  (hL:J3 A w fun w=>Hj w h L) (he:J3 A w fun w=>∀ x∈l,Wg w h x):J3 A w fun w=>Wg w (h+1) (.mk k oa b 0 cap l L):=fun w' g1 g2=>by
 have hs':=(hs.safe hA) w' g1 g2;have he':=he w' g1 g2;refine⟨hk,hL w' g1 g2,hs'.le,hs'.max,hl,hs'.lies,fun i x hi=>⟨fun j v hv=>?_,he' x (List.mem_of_getElem? hi)⟩⟩;have:=hs'.cell _ _ (Yu Mr l i x j v hi hv);rw[show 0+i*14+j=0+(i*14+j) by omega];exact this
def Vj (A:Nat→Prop) (C:Ct) (v:Value) (w:World):Prop:=∃ (x:Cd) (h:Nat),v=cv x∧x.t=C∧J3 A w fun w=>Wg w h x
theorem Vj.anti {A A':Nat→Prop} {C:Ct} {v:Value} {w:World} (h:Vj A C v w) (hA:∀ b,A' b→A b∨w.heap.size≤b):Vj A' C v w:=by
 obtain⟨x,hh,hv,hc,hs⟩:=h;exact⟨x,hh,hv,hc,hs.wide hA⟩
theorem Vj.grown {A:Nat→Prop} {C:Ct} {v:Value} {w w':World} {row:Option Nat} (h:Vj A C v w) (hg:w.grownBy w' row) (hr:∀ k,row=some k→k<w.heap.size→A k):Vj A C v w':=by
 obtain⟨x,hh,hv,hc,hs⟩:=h;exact⟨x,hh,hv,hc,hs.grown hg hr⟩
theorem Vj.below {A:Nat→Prop} {C:Ct} {v:Value} {w w':World} (h:Vj A C v w) (hb:Below w.heap.size w w'):Vj A C v w':=h.grown (Qc hb none) (fun _ e=>by cases e)
structure L12 where
 k:Int
 t:Int
 n:ByteArray
 op:Int
 e0:Int
 e1:Int
 e2:Int
 e3:Int
 ea:Option Addr
 en:Nat
 ec:Nat
 w:ByteArray
 v:ByteArray
 a:Bool
def Hn (L:L12):List Value:=[.int .i64 L.k,.int .i64 L.t,.string L.n,.int .i64 L.op,.int .i64 L.e0,.int .i64 L.e1,.int .i64 L.e2,.int .i64 L.e3,.slice L.ea L.en L.ec,.string L.w,.string L.v,.bool L.a]
theorem O5 (l:Lf):∃ L:L12,It l=Hn L:=by
 obtain⟨k2,t,n,op,⟨a0,a1,a2,a3,a4,a5,a6,a7,a8⟩,w,v,a⟩:=l;exact⟨⟨k2,t,n,op,a0,a1,a2,a3,a4,a8.length,a7,w,v,a⟩,rfl⟩
theorem Ok (x:Cd):∃ (k:Int) (oa:Option Addr) (n cap:Nat) (L:L12),Dj x=.int .i64 k::.slice oa n cap::Hn L:=by
 obtain⟨k,oa,b,o,cap,kids,lf⟩:=x;obtain⟨L,hL⟩:=O5 lf;exact⟨k,oa,kids.length,cap,L,by rw[← hL];rfl⟩
theorem Vj.cells {A:Nat→Prop} {C:Ct} {v:Value} {w:World} (h:Vj A C v w):∃ (k:Int) (oa:Option Addr) (n cap:Nat) (L:L12),v=.agg (.int .i64 k::.slice oa n cap::Hn L).toArray:=by
 obtain⟨⟨k,oa,b,o,cap,kids,lf⟩,hh,rfl,hc,hs⟩:=h;obtain⟨L,hL⟩:=O5 lf;refine⟨k,oa,kids.length,cap,L,?_⟩;rw[← hL];rfl
theorem Q0g {A:Nat→Prop} {w:World} {E:Et} {x:Ex} {hx:Nat} (k t:Int) (n:ByteArray) (op:Int) (wd vl:ByteArray) (an:Bool) (h1:Wj k) (h2:Wj t) (h3:Wj op) (hc:x.c=E) (hs:J3 A w fun w=>Zy w hx x) :
  Vj A (O3 ⟨k,t,n.data.toList,op,E,wd.data.toList,vl.data.toList,an⟩) (cv (.mk 4 none 0 0 0 [] ⟨k,t,n,op,x,wd,vl,an⟩)) w :=
 ⟨.mk 4 none 0 0 0 [] ⟨k,t,n,op,x,wd,vl,an⟩,hx+1,rfl,by rw[Cd.t_mk];unfold Lf.t;simp only[hc];rfl,
   F9 (Z1 _ (by decide)) (by simp) ⟨rfl,Q6 _,Qs _,fun h=>absurd h (by simp),fun j v h=>by simp at h⟩ (fun h=>absurd h (by simp))
    (hs.mono fun w h=>Hj.mk h1 h2 h3 h) (fun _ _ _ x hx=>by cases hx)⟩
theorem Q02 (A:Nat→Prop) (w:World):Vj A Ao (cv (.mk 0 none 0 0 0 [] Xz)) w:=by
 refine⟨.mk 0 none 0 0 0 [] Xz,2,rfl,by rw[Cd.t_mk];rfl,?_⟩;refine F9 (h:=1) (Z1 _ (by decide)) (by simp) ⟨rfl,Q6 _,Qs _,fun h=>absurd h (by simp),fun j v h=>by simp at h⟩ (fun h=>absurd h (by simp)) ?_ (fun _ _ _ x hx=>by cases hx)
 exact(Zy.leaf (A:=A) (k:=0) (n:=0) (d:=0) (u:=0) (Z1 _ (by decide)) (by unfold U2;decide) (Z1 _ (by decide))).mono fun w h=>Hj.mk (Z1 _ (by decide)) (Z1 _ (by decide)) (Z1 _ (by decide)) h
end Go.Proofs.YtnanffmhbjdpaaaGreatDoor
namespace Go.Proofs.YtnanffmhbjdpaaaGreatDoor
set_option maxHeartbeats 8000000
set_option maxRecDepth 20000
set_option linter.unusedVariables false
set_option linter.unusedSimpArgs false
def Hi:List UInt8:=[115,99,114,101,101,110,32,97,110,100,32,40,109,105,110,45,119,105,100,116,104,58,32,54,48,48,112,120,41]
def P0:List UInt8:=[115,99,114,101,101,110]
def awK:List Tk:=[⟨1,[109,105,110,45,119,105,100,116,104],(0,0),false,false⟩,⟨16,[],(0,0),false,false⟩,⟨13,[],(0,0),false,false⟩,⟨12,[112,120],(600,1),true,false⟩]
def An:Vt:=.mk ⟨21,[],(0,0),false,false⟩ (awK.map fun t=>.mk t [])
def tsp:Tk:=⟨13,[],(0,0),false,false⟩
def He:Tk:=⟨1,P0,(0,0),false,false⟩
def Cw:Tk:=⟨1,[97,110,100],(0,0),false,false⟩
theorem Q0l:Jf 64 [An]=true:=by
 simp[An,awK,Jf,J2]
theorem Q7u:Jf 64 [.mk He [],.mk tsp [],.mk Cw [],.mk tsp [],An]=true:=by
 simp[An,awK,Jf,J2,He,tsp,Cw]
theorem Q6n:Ch (Jx 1) An false=some (Vx Js 4 (.mk 1 600 1 1 [])):=by
 have h:=Q0l;unfold An at h ⊢;unfold Ch
 dsimp only
 rw[h,if_neg (by decide),if_neg (by decide +kernel)]
 have e:Y4 (Jx 1) (Z9 (awK.map fun t=>.mk t [])) false=some (Vx Js 4 (.mk 1 600 1 1 [])):=by kernel_rfl
 rw[e]
end Go.Proofs.YtnanffmhbjdpaaaGreatDoor
