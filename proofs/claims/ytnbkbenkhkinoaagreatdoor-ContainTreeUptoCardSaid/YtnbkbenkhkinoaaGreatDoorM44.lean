/- Of my texts: DmI, DtI. -/
import Derived.Test.YtnbkbenkhkinoaaGreatDoorM08
import Derived.Test.YtnbkbenkhkinoaaGreatDoorM25
import Derived.Test.YtnbkbenkhkinoaaGreatDoorM43
import Derived.WalkMore
namespace Go.Proofs.YtnbkbenkhkinoaaGreatDoor
set_option linter.unusedVariables false
set_option linter.unusedSimpArgs false
open Go.RowKit Go.Maps
def askV (s:List UInt8) (e:Cd):Value:=match cv e with
 | .agg a=>.agg (#[.string ⟨s.toArray⟩]++a)
 | v=>v
theorem askV_mk (s:List UInt8) (c:Int) (oa:Option Addr) (b o cap:Nat) (kids:List Cd) (lk lt:Int) (nm:ByteArray) (op k' n d u:Int) (oa':Option Addr) (b' o' cap':Nat) (kids':List Ex) (wd vl:ByteArray) (an:Bool) :
  askV s (.mk c oa b o cap kids ⟨lk,lt,nm,op,.mk k' n d u oa' b' o' cap' kids',wd,vl,an⟩)=.agg #[.string ⟨s.toArray⟩,.int .i64 c,.slice oa kids.length cap,.int .i64 lk,.int .i64 lt,.string nm,.int .i64 op,.int .i64 k',.int .i64 n,.int .i64 d,.int .i64 u,.slice oa' kids'.length cap',.string wd,.string vl,.bool an]:=by
 unfold askV;rw[cv_mk];rfl
theorem Dm.Par {w:World} {tB mb B:Nat} {els:List Me} (h:Dm w tB mb B els):Par els:=h.par
theorem findF_some {els:List Me} {i:Nat} {e:Me} (he:els[i]?=some e) (R:Int) (nm:List UInt8):findF els R nm (i:Int)=abG els R nm e.parent:=by
 unfold findF;rw[if_pos (by omega),Int.toNat_natCast,he]
def findK (κ:Nat→Int):Option Int→Value
 | some k=>.tuple #[.int .i64 (κ k.toNat),.bool true]
 | none=>.tuple #[.int .i64 0,.bool false]
set_option maxRecDepth 20000 in
set_option maxHeartbeats 8000000 in
theorem vfind {κ:Nat→Int} {w:World} {tB mb:Nat} {rt nx:Int} {els:List Me} (h:Vw κ w tB mb rt nx els) (i0:Nat) (hi0:i0<els.length) (nm:List UInt8) (hc:Nat) (e:Cd) (hx:CdIn w hc e) (hbk:(leavesC hc e).length≤1048576) :
  Calls Tryz.prog 10 #[.pointer (some ⟨tB,0,none⟩),.int .i64 (κ i0),askV nm e] w fun x w'=>x=.returned (findK κ (findF els (foldN 0 ((leavesN hc e).map keyL)) nm (i0:Int)))∧Below w.heap.size w w':=by
 have hne:=fun wx (hb:Below w.heap.size w wx)=>needsP_any hc e wx (hx.below hc hb) hbk
 have hsm:=h.small;obtain⟨R,hR⟩:∃ R,foldN 0 ((leavesN hc e).map keyL)=R:=⟨_,rfl⟩;simp only[hR]at hne ⊢;clear hx hbk hR;obtain⟨c,oa,b,o,cap,kids,⟨lk,lt,nmc,op,⟨k',n,d,u,oa',b',o',cap',kids'⟩,wd,vl,an⟩⟩:=e;simp only[cv_mk,askV_mk]at hne ⊢;obtain⟨K,hK⟩:∃ K,kids.length=K:=⟨_,rfl⟩;obtain⟨K',hK'⟩:∃ K,kids'.length=K:=⟨_,rfl⟩;simp only[hK,hK']at hne ⊢;obtain⟨hbx,hb1⟩:=box_new w 37 #[.string ⟨nm.toArray⟩,.int .i64 c,.slice oa K cap,.int .i64 lk,.int .i64 lt,.string nmc,.int .i64 op,.int .i64 k',.int .i64 n,.int .i64 d,.int .i64 u,.slice oa' K' cap',.string wd,.string vl,.bool an];have hD:=h.below hb1;obtain⟨⟨pa,tg,⟨bt,bn,⟨wn,wd'⟩,⟨hn,hd⟩⟩,ge,ks⟩,he0⟩:∃ e,els[i0]?=some e:=⟨_,List.getElem?_eq_getElem hi0⟩;obtain⟨g,hg⟩:∃ g,w.heap.size=g:=⟨_,rfl⟩;rw[hg]at hbx;have HNE:=Lib.hid hne;have HB1:=Lib.hid hb1;have HD:=Lib.hid hD;have H1:=Lib.hid hbx;have hpar:Par els:=h.par;have HPar:=Lib.hid hpar
 have hpl0:pa<(els.length:Int):=by
  rcases hpar i0 _ he0 with ⟨-,h3⟩ | ⟨-,-,h3⟩<;>simp only at h3<;>omega
 obtain⟨FF,hFF⟩:∃ FF,findF els R nm (i0:Int)=FF:=⟨_,rfl⟩;have hFA:=(findF_some he0 R nm).symm.trans hFF;have HFA:=Lib.hid (show abG els R nm pa=FF from hFA);have HE0:=Lib.hid he0;simp only[hFF];clear hne hb1 hD hK hK' h hbx hFF hFA he0 hpar
 go_enter Tryz.func10,Tryz.ntmps10
 go_upto_region 1 with fail
 try simp only[hg]
 have HG:=Lib.hid hg;clear hg;generalize World.alloc w _=wa at *;have HEC:=Lib.hid (velem HD.out HE0.out);have hb0:Below wa.heap.size wa wa:=Below.refl _ _
 go_step3
 go_wp2_with fail
 ((with_reducible refine HEC.out.mono ?_);rintro e wb ⟨⟨a1,n1,c1,rfl⟩,hbb⟩)
 have HBb:=Lib.hid hbb;clear hbb hb0 HEC
 go_upto_region 4 with fail
 obtain⟨hz1,hzb⟩:=box_new' wb 57 #[.int .i64 (κ i0),.int .i64 (piK κ pa),.string ⟨tg.toArray⟩,.slice a1 n1 c1,.slice none 0 0,.int .i64 bt,.string ⟨bn.toArray⟩,.int .i64 wn,.int .i64 wd',.int .i64 hn,.int .i64 hd];have HBc:=bfH' HBb hzb;have H1c:=Lib.hid ((H1.out.below HBb.out H1.out.lt).below hzb (H1.out.below HBb.out H1.out.lt).lt);have HG8:=Lib.hid (show wa.heap.size≤wb.heap.size from HBb.out.size);obtain⟨g8,hg8⟩:∃ g8,wb.heap.size=g8:=⟨_,rfl⟩;rw[hg8]at hz1 HG8;simp only[hg8];have HZ:=Lib.hid hz1;clear hz1 hzb hg8 HBb;generalize World.alloc wb _=wc at *;obtain⟨e0,fe0,e1,fe1,e2,fe2,e3,fe3,e4,fe4,e5,fe5,e6,fe6,e7,fe7,e8,fe8,e9,fe9,e10,fe10,e11,fe11,e12,fe12,e13,fe13,e14,fe14,le⟩:=H1c.out.many15;go_wp2_with fail
 ((with_reducible refine(HNE.out _ (HB1.out.trans (HBc.out.mono HB1.out.size))).mono ?_);rintro e wd1 ⟨rfl,hbd⟩)
 have HBd:=bfH' HBc hbd;have HZd:=Lib.hid (HZ.out.below hbd HZ.out.lt);clear e0 fe0 e1 fe1 e2 fe2 e3 fe3 e4 fe4 e5 fe5 e6 fe6 e7 fe7 e8 fe8 e9 fe9 e10 fe10 e11 fe11 e12 fe12 e13 fe13 e14 fe14 le HBc H1c HZ HNE hbd HE0;go_wp2_with fail
 go_step3
 go_wp2_with fail
 go_loopg [9] els.length (fun q s9 wr=>∃ (i pa:Int) (tg:List UInt8) (a1:Option Addr) (n1 c1:Nat) (bt:Int) (bn:List UInt8) (wn wd' hn hd:Int),s9=.bool true∧Hid (Below wa.heap.size wa wr)∧Hid (Blk wr g8 57 #[.int .i64 (i),.int .i64 (piK κ pa),.string ⟨tg.toArray⟩,.slice a1 n1 c1,.slice none 0 0,.int .i64 bt,.string ⟨bn.toArray⟩,.int .i64 wn,.int .i64 wd',.int .i64 hn,.int .i64 hd])∧Hid (abG els R nm pa=FF)∧pa<(els.length:Int)∧pa+1≤(q:Int))
 case atStart=>exact⟨_,pa,tg,a1,n1,c1,bt,bn,wn,wd',hn,hd,rfl,HBd,HZd,HFA,hpl0,by omega⟩
 case round =>
  clear HFA HZd HBd hpl0;obtain⟨i,pa,tg,a1,n1,c1,bt,bn,wn,wd,hn,hd,rfl,HB,HZ,HI,hpl,hq⟩:=hrel;have hFF:=HI.out;clear HI;obtain⟨z0,fz0,z1,fz1,z2,fz2,z3,fz3,z4,fz4,z5,fz5,z6,fz6,z7,fz7,z8,fz8,z9,fz9,z10,fz10,lz⟩:=HZ.out.el11
  by_cases hp0:0≤pa
  · obtain⟨p,rfl⟩:∃ p:Nat,pa=(p:Int):=⟨pa.toNat,by omega⟩
    have hpl2:p<els.length:=by omega
    have hbd:=(HD.out.bnd p hpl2).1
    have k0:decide ((0:Int)≤κ p)=true:=by simpa using hbd
    rw[piK_nat]at z1 HZ;obtain⟨⟨xp,xt,⟨xbt,xbn,⟨xwn,xwd⟩,⟨xhn,xhd⟩⟩,xg,xks⟩,hx⟩:∃ x,els[p]?=some x:=⟨_,List.getElem?_eq_getElem hpl2⟩;have HEC:=Lib.hid (velem (HD.out.below HB.out) hx)
    have hxp:xp<(p:Int):=by
     rcases HPar.out p _ hx with ⟨h0,h3⟩ | ⟨h0,h2,h3⟩<;>simp only at h3<;>omega
    rw[abG_step HPar.out R nm hx]at hFF;have HF:=Lib.hid hFF;clear hx hFF hbd;go_wp2_with fail
    ((with_reducible refine HEC.out.mono ?_);rintro e wd1 ⟨⟨a1',n1',c1',rfl⟩,hbe⟩)
    have HB2:=Lib.hid (HB.out.trans (hbe.mono HB.out.size));have HZ2:=Lib.hid (HZ.out.below hbe HZ.out.lt);clear z0 fz0 z1 fz1 z2 fz2 z3 fz3 z4 fz4 z5 fz5 z6 fz6 z7 fz7 z8 fz8 z9 fz9 z10 fz10 lz HB HZ hbe HEC;obtain⟨z0,fz0,z1,fz1,z2,fz2,z3,fz3,z4,fz4,z5,fz5,z6,fz6,z7,fz7,z8,fz8,z9,fz9,z10,fz10,lz⟩:=HZ2.out.el11
    go_upto_region 7 with fail
    have hz:=blk_putsM [] [.int .i64 (κ p),.int .i64 (piK κ xp),.string ⟨xt.toArray⟩,.slice a1' n1' c1',.slice none 0 0,.int .i64 xbt,.string ⟨xbn.toArray⟩,.int .i64 xwn,.int .i64 xwd,.int .i64 xhn,.int .i64 xhd] [.int .i64 i,.int .i64 (κ p),.string ⟨tg.toArray⟩,.slice a1 n1 c1,.slice none 0 0,.int .i64 bt,.string ⟨bn.toArray⟩,.int .i64 wn,.int .i64 wd,.int .i64 hn,.int .i64 hd] wd1 0 [] HZ2.out rfl rfl;have hgz:=grownBy_puts [.int .i64 (κ p),.int .i64 (piK κ xp),.string ⟨xt.toArray⟩,.slice a1' n1' c1',.slice none 0 0,.int .i64 xbt,.string ⟨xbn.toArray⟩,.int .i64 xwn,.int .i64 xwd,.int .i64 xhn,.int .i64 xhd] wd1 g8 0;simp only[puts,Nat.zero_add,Nat.reduceAdd]at hz hgz;have HZ3:=Lib.hid hz;have HB3:=Lib.hid (below_far HB2.out hgz (fun k e=>by obtain rfl:=Option.some.inj e;exact HG8.out))
    clear z0 fz0 z1 fz1 z2 fz2 z3 fz3 z4 fz4 z5 fz5 z6 fz6 z7 fz7 z8 fz8 z9 fz9 z10 fz10 lz hz hgz HZ2 HB2;generalize World.setCell _ _ _=wk at *;have H1k:=Lib.hid (H1.out.below HB3.out H1.out.lt);obtain⟨z0,fz0,z1,fz1,z2,fz2,z3,fz3,z4,fz4,z5,fz5,z6,fz6,z7,fz7,z8,fz8,z9,fz9,z10,fz10,lz⟩:=HZ3.out.el11;have e0:=H1k.out.cell 0;have le:=H1k.out.lt
    by_cases kt:R≤xbt
    · have kt2:decide (R≤xbt)=true:=by simpa using kt
      have hHit:hitB R nm ⟨xp,xt,⟨xbt,xbn,(xwn,xwd),(xhn,xhd)⟩,xg,xks⟩=(decide (nm=[])||decide (xbn=nm)):=by
       unfold hitB;rw[kt2];rfl
      have hFF:=HF.out;rw[hHit]at hFF;clear hHit HF kt
      by_cases hn0:nm.isEmpty=true
      · rw[if_pos (by rw[List.isEmpty_iff.1 hn0];rfl)]at hFF;subst hFF;go_wp2_with fail;rw[Exit.noGoto_ret];exact(bodyPost_ret (v:=.tuple #[.int .i64 (κ p),.bool true]) (by simp[results,Tryz.results10,go_sem]) rfl ⟨rfl,(bfH' HB1 HB3.out).out⟩)
      · have hn1:nm.isEmpty=false:=by simpa using hn0
        have hn2:nm≠[]:=fun e=>hn0 (by rw[e];rfl)
        have HN2:=Lib.hid hn2;clear hn0 hn2
        by_cases hq1:xbn=nm
        · have hq2:(xbn==nm)=true:=by rw[hq1];exact beq_self_eq_true nm
          rw[if_pos (by simp[hq1])]at hFF;subst hFF;clear hq1;go_wp2_with fail;rw[Exit.noGoto_ret];exact(bodyPost_ret (v:=.tuple #[.int .i64 (κ p),.bool true]) (by simp[results,Tryz.results10,go_sem]) rfl ⟨rfl,(bfH' HB1 HB3.out).out⟩)
        · have hq2:(xbn==nm)=false:=by simpa using hq1
          rw[if_neg (by simp[hq1,HN2.out])]at hFF;have HF2:=Lib.hid hFF;clear hFF hq1;go_wp2_with fail
          go_roundg p
          case measure=>omega
          case rel=>exact⟨_,xp,_,_,_,_,_,_,_,_,_,_,rfl,HB3,HZ3,HF2,by omega,by omega⟩
    · have kt2:decide (R≤xbt)=false:=by simpa using kt
      have hFF:=HF.out;rw[show hitB R nm ⟨xp,xt,⟨xbt,xbn,(xwn,xwd),(xhn,xhd)⟩,xg,xks⟩=false by unfold hitB;rw[kt2];rfl,if_neg (by simp)]at hFF;have HF2:=Lib.hid hFF;clear hFF HF;go_wp2_with fail
      go_roundg p
      case measure=>omega
      case rel=>exact⟨_,xp,_,_,_,_,_,_,_,_,_,_,rfl,HB3,HZ3,HF2,by omega,by omega⟩
  · have hpk:piK κ pa=pa:=by
     unfold piK;rw[if_pos (by omega)]
    rw[hpk]at z1
    have k0:decide ((0:Int)≤pa)=false:=by simpa using hp0
    rw[abG_neg _ _ _ (by omega)]at hFF;subst hFF;clear hpk;go_wp2_with fail;exact(bodyPost_ret (v:=.tuple #[.int .i64 0,.bool false]) (by simp[results,Tryz.results10,go_sem]) rfl ⟨rfl,(bfH' HB1 HB.out).out⟩)
end Go.Proofs.YtnbkbenkhkinoaaGreatDoor
