/- Of my texts: DmI, DmT, DmK, DmU. -/
import Derived.Test.YtnahlfaehelfjaaGreatDoorM08
import Derived.Test.YtnahlfaehelfjaaGreatDoorM28
import Derived.Test.YtnahlfaehelfjaaGreatDoorM40
import Derived.WalkMore
namespace Go.Proofs.YtnahlfaehelfjaaGreatDoor
set_option linter.unusedVariables false
set_option linter.unusedSimpArgs false
open Go.RowKit Go.Maps
def findV:Option Int→Value
 | some k=>.tuple #[.int .i64 k,.bool true]
 | none=>.tuple #[.int .i64 0,.bool false]
def askV (s:List UInt8) (e:Cd):Value:=match cv e with
 | .agg a=>.agg (#[.string ⟨s.toArray⟩]++a)
 | v=>v
theorem askV_mk (s:List UInt8) (c:Int) (oa:Option Addr) (b o cap:Nat) (kids:List Cd) (lk lt:Int) (nm:ByteArray) (op k' n d u:Int) (oa':Option Addr) (b' o' cap':Nat) (kids':List Ex) (wd vl:ByteArray) (an:Bool) :
  askV s (.mk c oa b o cap kids ⟨lk,lt,nm,op,.mk k' n d u oa' b' o' cap' kids',wd,vl,an⟩)=.agg #[.string ⟨s.toArray⟩,.int .i64 c,.slice oa kids.length cap,.int .i64 lk,.int .i64 lt,.string nm,.int .i64 op,.int .i64 k',.int .i64 n,.int .i64 d,.int .i64 u,.slice oa' kids'.length cap',.string wd,.string vl,.bool an]:=by
 unfold askV;rw[cv_mk];rfl
theorem Dm.Par {w:World} {tB mb B:Nat} {els:List Me} (h:Dm w tB mb B els):Par els:=h.par
theorem findF_some {els:List Me} {i:Nat} {e:Me} (he:els[i]?=some e) (R:Int) (nm:List UInt8):findF els R nm (i:Int)=abG els R nm e.parent:=by
 unfold findF;rw[if_pos (by omega),Int.toNat_natCast,he]
theorem findF_none {els:List Me} {id:Int} (h:id<0∨(els.length:Int)≤id) (R:Int) (nm:List UInt8):findF els R nm id=none:=by
 unfold findF
 by_cases h0:0≤id
 · rw[if_pos h0,List.getElem?_eq_none (by omega)]
 · rw[if_neg h0]
theorem elem_case {w:World} {tB mb B:Nat} {els:List Me} (h:Dm w tB mb B els) (id:Int) (h1:-9223372036854775808≤id) (h2:id≤9223372036854775807) :
  Calls Tryz.prog 8 #[.pointer (some ⟨tB,0,none⟩),.int .i64 id] w fun x w'=>(∃ (ok:Bool) (i pa:Int) (tg:List UInt8) (a1:Option Addr) (n1 c1:Nat) (bt:Int) (bn:List UInt8) (wn wd hn hd:Int),x=.returned (.tuple #[.agg #[.int .i64 i,.int .i64 pa,.string ⟨tg.toArray⟩,.slice a1 n1 c1,.slice none 0 0,.int .i64 bt,.string ⟨bn.toArray⟩,.int .i64 wn,.int .i64 wd,.int .i64 hn,.int .i64 hd],.bool ok])∧(ok=true→∃ (j:Nat) (f:Me),(j:Int)=id∧i=id∧els[j]?=some f∧f.parent=pa∧f.bx=⟨bt,bn,(wn,wd),(hn,hd)⟩)∧(ok=false→id<0∨(els.length:Int)≤id))∧Below w.heap.size w w':=by
 by_cases hin:0≤id∧id<(els.length:Int)
 · obtain⟨i,rfl⟩:∃ i:Nat,id=(i:Int):=⟨id.toNat,by omega⟩
   have hil:i<els.length:=by omega
   obtain⟨e,he⟩:∃ e,els[i]?=some e:=⟨_,List.getElem?_eq_getElem hil⟩;obtain⟨pa,tg,⟨bt,bn,⟨wn,wd⟩,⟨hn,hd⟩⟩,ge,ks⟩:=e
   refine(elem_some h he).mono fun x w' ⟨⟨a1,n1,c1,hv⟩,hb⟩=>⟨⟨true,_,pa,tg,a1,n1,c1,bt,bn,wn,wd,hn,hd,hv,fun _=>⟨i,_,rfl,rfl,he,rfl,rfl⟩,(fun h=>by cases h)⟩,hb⟩
 · refine(elem_none h h1 h2 (by omega)).mono fun x w' ⟨hv,hb⟩=>⟨⟨false,0,0,[],none,0,0,0,[],0,0,0,0,hv,(fun h=>by cases h),fun _=>by omega⟩,hb⟩
set_option maxRecDepth 20000 in
set_option maxHeartbeats 8000000 in
theorem find_any {w:World} {tB mb B:Nat} {els:List Me} (h:Dm w tB mb B els) (id:Int) (h1:-9223372036854775808≤id) (h2:id≤9223372036854775807) (nm:List UInt8) (hc:Nat) (e:Cd) (hx:CdIn w hc e) (hbk:(leavesC hc e).length≤1048576) :
  Calls Tryz.prog 7 #[.pointer (some ⟨tB,0,none⟩),.int .i64 id,askV nm e] w fun x w'=>x=.returned (findV (findF els (foldN 0 ((leavesN hc e).map keyL)) nm id))∧Below w.heap.size w w':=by
 have hne:=fun wx (hb:Below w.heap.size w wx)=>needsP_any hc e wx (hx.below hc hb) hbk
 have hsm:=h.small;obtain⟨R,hR⟩:∃ R,foldN 0 ((leavesN hc e).map keyL)=R:=⟨_,rfl⟩;simp only[hR]at hne ⊢;clear hx hbk hR;obtain⟨c,oa,b,o,cap,kids,⟨lk,lt,nmc,op,⟨k',n,d,u,oa',b',o',cap',kids'⟩,wd,vl,an⟩⟩:=e;simp only[cv_mk,askV_mk]at hne ⊢;obtain⟨K,hK⟩:∃ K,kids.length=K:=⟨_,rfl⟩;obtain⟨K',hK'⟩:∃ K,kids'.length=K:=⟨_,rfl⟩;simp only[hK,hK']at hne ⊢;obtain⟨hbx,hb1⟩:=box_new w 37 #[.string ⟨nm.toArray⟩,.int .i64 c,.slice oa K cap,.int .i64 lk,.int .i64 lt,.string nmc,.int .i64 op,.int .i64 k',.int .i64 n,.int .i64 d,.int .i64 u,.slice oa' K' cap',.string wd,.string vl,.bool an];have hD:=h.below hb1;obtain⟨g,hg⟩:∃ g,w.heap.size=g:=⟨_,rfl⟩;rw[hg]at hbx;have HNE:=Lib.hid hne;have HB1:=Lib.hid hb1;have HD:=Lib.hid hD;have H1:=Lib.hid hbx;obtain⟨FF,hFF⟩:∃ FF,findF els R nm id=FF:=⟨_,rfl⟩;have HFF:=Lib.hid hFF;simp only[hFF];clear hne hb1 hD hK hK' h hbx hFF
 go_enter Tryz.func7,Tryz.ntmps7
 go_upto_region 1 with fail
 try simp only[hg]
 have HG:=Lib.hid hg;clear hg;generalize World.alloc w _=wa at *;have HEC:=Lib.hid (fun wx (hb:Below wa.heap.size wa wx)=>elem_case (HD.out.below hb) id h1 h2);have hb0:Below wa.heap.size wa wa:=Below.refl _ _
 go_step3
 go_wp2_with fail
 ((with_reducible refine(HEC.out _ hb0).mono ?_);rintro e wb ⟨⟨ok,i0,pa,tg,a1,n1,c1,bt,bn,wn,wd',hn,hd,rfl,hok,hno⟩,hbb⟩)
 have HBb:=Lib.hid hbb;have HOK:=Lib.hid hok;have HNO:=Lib.hid hno;clear hbb hok hno hb0 HEC
 go_upto_region 4 with fail
 obtain⟨hz1,hzb⟩:=box_new' wb 47 #[.int .i64 i0,.int .i64 pa,.string ⟨tg.toArray⟩,.slice a1 n1 c1,.slice none 0 0,.int .i64 bt,.string ⟨bn.toArray⟩,.int .i64 wn,.int .i64 wd',.int .i64 hn,.int .i64 hd];have HBc:=bfH' HBb hzb;have H1c:=Lib.hid ((H1.out.below HBb.out H1.out.lt).below hzb (H1.out.below HBb.out H1.out.lt).lt);have HG8:=Lib.hid (show wa.heap.size≤wb.heap.size from HBb.out.size);obtain⟨g8,hg8⟩:∃ g8,wb.heap.size=g8:=⟨_,rfl⟩;rw[hg8]at hz1 HG8;simp only[hg8];have HZ:=Lib.hid hz1;clear hz1 hzb hg8 HBb;generalize World.alloc wb _=wc at *;obtain⟨e0,fe0,e1,fe1,e2,fe2,e3,fe3,e4,fe4,e5,fe5,e6,fe6,e7,fe7,e8,fe8,e9,fe9,e10,fe10,e11,fe11,e12,fe12,e13,fe13,e14,fe14,le⟩:=H1c.out.many15;go_wp2_with fail
 ((with_reducible refine(HNE.out _ (HB1.out.trans (HBc.out.mono HB1.out.size))).mono ?_);rintro e wd1 ⟨rfl,hbd⟩)
 have HBd:=bfH' HBc hbd;have HZd:=Lib.hid (HZ.out.below hbd HZ.out.lt);clear e0 fe0 e1 fe1 e2 fe2 e3 fe3 e4 fe4 e5 fe5 e6 fe6 e7 fe7 e8 fe8 e9 fe9 e10 fe10 e11 fe11 e12 fe12 e13 fe13 e14 fe14 le HBc H1c HZ HNE hbd;go_wp2_with fail
 go_step3
 go_wp2_with fail
 have hIV:∃ j:Nat,j≤els.length∧(if ok=true then (∃ f,els[j]?=some f∧f.parent=pa∧FF=abG els R nm pa) else FF=none):=by
  cases ok with
  | true =>
    obtain⟨j,f,hj,-,hf,hp,-⟩:=HOK.out rfl;refine⟨j,Nat.le_of_lt (List.getElem?_eq_some_iff.1 hf).1,?_⟩;rw[if_pos rfl];exact⟨f,hf,hp,by rw[← HFF.out,← hj,findF_some hf,hp]⟩
  | false =>
    exact⟨0,Nat.zero_le _,by rw[if_neg (by simp),← HFF.out];exact findF_none (HNO.out rfl) R nm⟩
 obtain⟨j0,hj0,hiv⟩:=hIV;have HIV:=Lib.hid hiv;clear hiv HOK HNO HFF
 go_loopg [9] els.length (fun q s9 wr=>∃ (ok:Bool) (j:Nat) (i pa:Int) (tg:List UInt8) (a1:Option Addr) (n1 c1:Nat) (bt:Int) (bn:List UInt8) (wn wd hn hd:Int),s9=.bool ok∧Hid (Below wa.heap.size wa wr)∧Hid (Blk wr g8 47 #[.int .i64 i,.int .i64 pa,.string ⟨tg.toArray⟩,.slice a1 n1 c1,.slice none 0 0,.int .i64 bt,.string ⟨bn.toArray⟩,.int .i64 wn,.int .i64 wd,.int .i64 hn,.int .i64 hd])∧Hid (if ok=true then (∃ f,els[j]?=some f∧f.parent=pa∧FF=abG els R nm pa) else FF=none)∧j≤q)
 case atStart=>exact⟨ok,j0,i0,pa,tg,a1,n1,c1,bt,bn,wn,wd',hn,hd,rfl,HBd,HZd,HIV,hj0⟩
 case round =>
  clear HIV HZd HBd;obtain⟨ok,j,i,pa,tg,a1,n1,c1,bt,bn,wn,wd,hn,hd,rfl,HB,HZ,HI,hq⟩:=hrel
  cases ok with
  | false =>
    have hFF:=HI.out;rw[if_neg (by simp)]at hFF;subst hFF;go_wp2_with fail;exact bodyPost_ret (v:=.tuple #[.int .i64 0,.bool false]) (by simp[results,Tryz.results7,go_sem]) rfl ⟨rfl,(bfH' HB1 HB.out).out⟩
  | true =>
    have hFF:=HI.out;rw[if_pos rfl]at hFF;obtain⟨f,hf,hfp,hFF⟩:=hFF;clear HI;obtain⟨z0,fz0,z1,fz1,z2,fz2,z3,fz3,z4,fz4,z5,fz5,z6,fz6,z7,fz7,z8,fz8,z9,fz9,z10,fz10,lz⟩:=HZ.out.el11
    by_cases hp0:0≤pa
    · have k0:decide ((0:Int)≤pa)=true:=by simpa using hp0
      have hjl:=(List.getElem?_eq_some_iff.1 hf).1
      rcases HD.out.par j f hf with ⟨-,h3⟩ | ⟨-,-,h3⟩
      · omega
      rw[hfp]at h3;obtain⟨p,rfl⟩:∃ p:Nat,pa=(p:Int):=⟨pa.toNat,by omega⟩
      have hpl:p<els.length:=by omega
      obtain⟨x,hx⟩:∃ x,els[p]?=some x:=⟨_,List.getElem?_eq_getElem hpl⟩;obtain⟨xp,xt,⟨xbt,xbn,⟨xwn,xwd⟩,⟨xhn,xhd⟩⟩,xg,xks⟩:=x;have HEC:=Lib.hid (elem_some (HD.out.below HB.out) hx);rw[abG_step HD.out.Par R nm hx]at hFF;have HX:=Lib.hid hx;have HF:=Lib.hid hFF;clear hf hfp hx hFF;go_wp2_with fail
      ((with_reducible refine HEC.out.mono ?_);rintro e wd1 ⟨⟨a1',n1',c1',rfl⟩,hbe⟩)
      have HB2:=Lib.hid (HB.out.trans (hbe.mono HB.out.size));have HZ2:=Lib.hid (HZ.out.below hbe HZ.out.lt);clear z0 fz0 z1 fz1 z2 fz2 z3 fz3 z4 fz4 z5 fz5 z6 fz6 z7 fz7 z8 fz8 z9 fz9 z10 fz10 lz HB HZ hbe HEC;obtain⟨z0,fz0,z1,fz1,z2,fz2,z3,fz3,z4,fz4,z5,fz5,z6,fz6,z7,fz7,z8,fz8,z9,fz9,z10,fz10,lz⟩:=HZ2.out.el11
      go_upto_region 7 with fail
      have hz:=blk_putsM [] [.int .i64 (p:Int),.int .i64 xp,.string ⟨xt.toArray⟩,.slice a1' n1' c1',.slice none 0 0,.int .i64 xbt,.string ⟨xbn.toArray⟩,.int .i64 xwn,.int .i64 xwd,.int .i64 xhn,.int .i64 xhd] [.int .i64 i,.int .i64 (p:Int),.string ⟨tg.toArray⟩,.slice a1 n1 c1,.slice none 0 0,.int .i64 bt,.string ⟨bn.toArray⟩,.int .i64 wn,.int .i64 wd,.int .i64 hn,.int .i64 hd] wd1 0 [] HZ2.out rfl rfl;have hgz:=grownBy_puts [.int .i64 (p:Int),.int .i64 xp,.string ⟨xt.toArray⟩,.slice a1' n1' c1',.slice none 0 0,.int .i64 xbt,.string ⟨xbn.toArray⟩,.int .i64 xwn,.int .i64 xwd,.int .i64 xhn,.int .i64 xhd] wd1 g8 0;simp only[puts,Nat.zero_add,Nat.reduceAdd]at hz hgz;have HZ3:=Lib.hid hz;have HB3:=Lib.hid (below_far HB2.out hgz (fun k e=>by obtain rfl:=Option.some.inj e;exact HG8.out));clear z0 fz0 z1 fz1 z2 fz2 z3 fz3 z4 fz4 z5 fz5 z6 fz6 z7 fz7 z8 fz8 z9 fz9 z10 fz10 lz hz hgz HZ2 HB2
      generalize World.setCell _ _ _=wk at *;have H1k:=Lib.hid (H1.out.below HB3.out H1.out.lt);obtain⟨z0,fz0,z1,fz1,z2,fz2,z3,fz3,z4,fz4,z5,fz5,z6,fz6,z7,fz7,z8,fz8,z9,fz9,z10,fz10,lz⟩:=HZ3.out.el11;have e0:=H1k.out.cell 0;have le:=H1k.out.lt
      by_cases kt:R≤xbt
      · have kt2:decide (R≤xbt)=true:=by simpa using kt
        have hHit:hitB R nm ⟨xp,xt,⟨xbt,xbn,(xwn,xwd),(xhn,xhd)⟩,xg,xks⟩=(decide (nm=[])||decide (xbn=nm)):=by
         unfold hitB;rw[kt2];rfl
        have hFF:=HF.out;rw[hHit]at hFF;clear hHit HF kt
        by_cases hn0:nm.isEmpty=true
        · rw[if_pos (by rw[List.isEmpty_iff.1 hn0];rfl)]at hFF;subst hFF;go_wp2_with fail;rw[Exit.noGoto_ret];exact(bodyPost_ret (v:=.tuple #[.int .i64 (p:Int),.bool true]) (by simp[results,Tryz.results7,go_sem]) rfl ⟨rfl,(bfH' HB1 HB3.out).out⟩)
        · have hn1:nm.isEmpty=false:=by simpa using hn0
          have hn2:nm≠[]:=fun e=>hn0 (by rw[e];rfl)
          have HN2:=Lib.hid hn2;clear hn0 hn2
          by_cases hq1:xbn=nm
          · have hq2:(xbn==nm)=true:=by rw[hq1];exact beq_self_eq_true nm
            rw[if_pos (by simp[hq1])]at hFF;subst hFF;clear hq1;go_wp2_with fail;rw[Exit.noGoto_ret];exact(bodyPost_ret (v:=.tuple #[.int .i64 (p:Int),.bool true]) (by simp[results,Tryz.results7,go_sem]) rfl ⟨rfl,(bfH' HB1 HB3.out).out⟩)
          · have hq2:(xbn==nm)=false:=by simpa using hq1
            rw[if_neg (by simp[hq1,HN2.out])]at hFF;have HF2:=Lib.hid hFF;clear hFF hq1;go_wp2_with fail
            go_roundg p
            case measure=>omega
            case rel=>exact⟨true,p,_,xp,_,_,_,_,_,_,_,_,_,_,rfl,HB3,HZ3,Lib.hid (by rw[if_pos rfl];exact⟨_,HX.out,rfl,HF2.out⟩),Nat.le_refl _⟩
      · have kt2:decide (R≤xbt)=false:=by simpa using kt
        have hFF:=HF.out;rw[show hitB R nm ⟨xp,xt,⟨xbt,xbn,(xwn,xwd),(xhn,xhd)⟩,xg,xks⟩=false by unfold hitB;rw[kt2];rfl,if_neg (by simp)]at hFF;have HF2:=Lib.hid hFF;clear hFF HF;go_wp2_with fail
        go_roundg p
        case measure=>omega
        case rel=>exact⟨true,p,_,xp,_,_,_,_,_,_,_,_,_,_,rfl,HB3,HZ3,Lib.hid (by rw[if_pos rfl];exact⟨_,HX.out,rfl,HF2.out⟩),Nat.le_refl _⟩
    · have k0:decide ((0:Int)≤pa)=false:=by simpa using hp0
      rw[abG_neg _ _ _ (by omega)]at hFF;subst hFF;clear hf hfp;go_wp2_with fail;exact bodyPost_ret (v:=.tuple #[.int .i64 0,.bool false]) (by simp[results,Tryz.results7,go_sem]) rfl ⟨rfl,(bfH' HB1 HB.out).out⟩
theorem four_new (w:World) (t:TypeId) (a b c d:Array Value):Blk ((((w.alloc (.cells a t)).alloc (.cells b t)).alloc (.cells c t)).alloc (.cells d t)) w.heap.size t a∧Blk ((((w.alloc (.cells a t)).alloc (.cells b t)).alloc (.cells c t)).alloc (.cells d t)) (w.heap.size+1) t b ∧
  Blk ((((w.alloc (.cells a t)).alloc (.cells b t)).alloc (.cells c t)).alloc (.cells d t)) (w.heap.size+1+1) t c∧Blk ((((w.alloc (.cells a t)).alloc (.cells b t)).alloc (.cells c t)).alloc (.cells d t)) (w.heap.size+1+1+1) t d ∧
  Below w.heap.size w ((((w.alloc (.cells a t)).alloc (.cells b t)).alloc (.cells c t)).alloc (.cells d t)):=by
 obtain⟨h1,l1⟩:=box_new' w t a;obtain⟨h2,l2⟩:=box_new' (w.alloc (.cells a t)) t b;obtain⟨h3,l3⟩:=box_new' ((w.alloc (.cells a t)).alloc (.cells b t)) t c;obtain⟨h4,l4⟩:=box_new' (((w.alloc (.cells a t)).alloc (.cells b t)).alloc (.cells c t)) t d
 have s1:(w.alloc (.cells a t)).heap.size=w.heap.size+1:=by simp
 have s2:((w.alloc (.cells a t)).alloc (.cells b t)).heap.size=w.heap.size+1+1:=by simp
 have s3:(((w.alloc (.cells a t)).alloc (.cells b t)).alloc (.cells c t)).heap.size=w.heap.size+1+1+1:=by simp
 have h1':=((h1.below l2 h1.lt).below l3 (h1.below l2 h1.lt).lt).below l4 ((h1.below l2 h1.lt).below l3 (h1.below l2 h1.lt).lt).lt;have h2':=(h2.below l3 h2.lt).below l4 (h2.below l3 h2.lt).lt;have h3':=h3.below l4 h3.lt;rw[s1]at h2';rw[s2]at h3';rw[s3]at h4;exact⟨h1',h2',h3',h4,(bfH' (bfH' (bfH' (Lib.hid l1) l2) l3) l4).out⟩
theorem Blk.other {w w':World} {b g:Nat} {t:TypeId} {cs:Array Value} (h:Blk w b t cs) (hg:w.grownBy w' (some g)) (hne:b≠g):Blk w' b t cs:=(hg.block b h.lt (fun e=>hne (Option.some.inj e))).trans h
theorem Blk.drewn {w:World} {b:Nat} {t:TypeId} {cs:Array Value} (h:Blk w b t cs):Blk w.drew b t cs:=h
set_option maxRecDepth 20000 in
theorem sizeRt:(Tryz.prog.info? 28).map (·.size)=some 2:=by kernel_rfl
set_option maxRecDepth 20000 in
theorem load_rt {w:World} {g:Nat} {t:TypeId} {cs:Array Value} (h:Blk w g t cs) (hs:cs.size=2):(loadVar 28 ⟨g,0,none⟩).run Tryz.prog w=.ok (.agg cs) w :=
 run_loadVar_row w g t _ cs (0,0) _ h Tryz.underlying28 rfl (by rw[hs];exact sizeRt)
theorem ret_sz {fn:Func} {p q u:Tmp} {tmps:Array Value} {w:World} {g k:Nat} {t t':TypeId} {cs ds:Array Value} {x:Value} (hr:fn.results=#[.cell p 28,.cell q 28,.tmp u]) (hp:tmps.getD p undef=.pointer (some ⟨g,0,none⟩)) (hq:tmps.getD q undef=.pointer (some ⟨k,0,none⟩)) (hu:tmps.getD u undef=x)
  (h:Blk w g t cs) (hs:cs.size=2) (h':Blk w k t' ds) (hs':ds.size=2):(results fn tmps).run Tryz.prog w=.ok (.tuple #[.agg cs,.agg ds,x]) w:=by
 rw[Array.getD_eq_getD_getElem?]at hp hq hu;simp only[results,hr];simp[Sem.run_bind,Result.andThen,hp,hq,hu,asAddr,load_rt h hs,load_rt h' hs']
structure SzAt (w wr:World) (g8 g9 g11 g12:Nat) (ec:Array Value) (q0 q1:Rt) (b0 b1:Bool):Prop where
 bel:Below w.heap.size w wr
 e:Blk wr g11 47 ec
 q8:Blk wr g8 28 #[.int .i64 q0.1,.int .i64 q0.2]
 q9:Blk wr g9 28 #[.int .i64 q1.1,.int .i64 q1.2]
 fl:Blk wr g12 73 #[.bool b0,.bool b1]
section
variable {w wr w':World} {g8 g9 g11 g12:Nat} {ec:Array Value} {q0 q1:Rt} {b0 b1:Bool}
theorem SzAt.below (h:SzAt w wr g8 g9 g11 g12 ec q0 q1 b0 b1) (hb:Below wr.heap.size wr w'):SzAt w w' g8 g9 g11 g12 ec q0 q1 b0 b1 :=
 ⟨(bfH' (Lib.hid h.bel) hb).out,h.e.below hb h.e.lt,h.q8.below hb h.q8.lt,h.q9.below hb h.q9.lt,h.fl.below hb h.fl.lt⟩
theorem below_put (h:Below w.heap.size w wr) {g:Nat} (hg:wr.grownBy w' (some g)) (hl:w.heap.size≤g):Below w.heap.size w w':=below_far h hg (fun k e=>by obtain rfl:=Option.some.inj e;exact hl)
theorem SzAt.put8 (h:SzAt w wr g8 g9 g11 g12 ec q0 q1 b0 b1) (n d:Int) (hd:g8<g9∧g9<g11∧g11<g12∧w.heap.size≤g8):SzAt w ((wr.setCell ⟨g8,0,none⟩ (.int .i64 n)).setCell ⟨g8,1,none⟩ (.int .i64 d)) g8 g9 g11 g12 ec (n,d) q1 b0 b1:=by
 have hg:=grownBy_puts [.int .i64 n,.int .i64 d] wr g8 0;simp only[puts,Nat.zero_add]at hg;exact⟨below_put h.bel hg hd.2.2.2,h.e.other hg (by omega),((h.q8.put 0 _).put 1 _).to rfl,h.q9.other hg (by omega),h.fl.other hg (by omega)⟩
theorem SzAt.put9 (h:SzAt w wr g8 g9 g11 g12 ec q0 q1 b0 b1) (n d:Int) (hd:g8<g9∧g9<g11∧g11<g12∧w.heap.size≤g8):SzAt w ((wr.setCell ⟨g9,0,none⟩ (.int .i64 n)).setCell ⟨g9,1,none⟩ (.int .i64 d)) g8 g9 g11 g12 ec q0 (n,d) b0 b1:=by
 have hg:=grownBy_puts [.int .i64 n,.int .i64 d] wr g9 0;simp only[puts,Nat.zero_add]at hg;exact⟨below_put h.bel hg (by omega),h.e.other hg (by omega),h.q8.other hg (by omega),((h.q9.put 0 _).put 1 _).to rfl,h.fl.other hg (by omega)⟩
theorem SzAt.flag0 (h:SzAt w wr g8 g9 g11 g12 ec q0 q1 b0 b1) (hd:g8<g9∧g9<g11∧g11<g12∧w.heap.size≤g8):SzAt w (wr.setCell ⟨g12,0,none⟩ (.bool true)) g8 g9 g11 g12 ec q0 q1 true b1:=by
 have hg:=grownBy_set wr ⟨g12,0,none⟩ (.bool true);exact⟨below_put h.bel hg (by show w.heap.size≤g12;omega),h.e.other hg (by show g11≠g12;omega),h.q8.other hg (by show g8≠g12;omega),h.q9.other hg (by show g9≠g12;omega),(h.fl.put 0 _).to rfl⟩
theorem SzAt.flag1 (h:SzAt w wr g8 g9 g11 g12 ec q0 q1 b0 b1) (hd:g8<g9∧g9<g11∧g11<g12∧w.heap.size≤g8):SzAt w (wr.setCell ⟨g12,1,none⟩ (.bool true)) g8 g9 g11 g12 ec q0 q1 b0 true:=by
 have hg:=grownBy_set wr ⟨g12,1,none⟩ (.bool true);exact⟨below_put h.bel hg (by show w.heap.size≤g12;omega),h.e.other hg (by show g11≠g12;omega),h.q8.other hg (by show g8≠g12;omega),h.q9.other hg (by show g9≠g12;omega),(h.fl.put 1 _).to rfl⟩
theorem SzAt.putE (h:SzAt w wr g8 g9 g11 g12 ec q0 q1 b0 b1) {ec':Array Value} (hg:wr.grownBy w' (some g11)) (he:Blk w' g11 47 ec') (hd:g8<g9∧g9<g11∧g11<g12∧w.heap.size≤g8):SzAt w w' g8 g9 g11 g12 ec' q0 q1 b0 b1 :=
 ⟨below_put h.bel hg (by omega),he,h.q8.other hg (by omega),h.q9.other hg (by omega),h.fl.other hg (by omega)⟩
end
def zwT (r:(Rt×Rt)×Bool):Value:=.tuple #[rv r.1.1,rv r.1.2,.bool r.2]
theorem zw_t (k:Int) (x:Bx) (n v:Rt):zwS true k x=true∧zwV true k x n v=v:=⟨rfl,by simp[zwV]⟩
theorem zw_n {k:Int} {x:Bx} (h:decide (k≤x.type)=false) (n v:Rt):zwS false k x=false∧zwV false k x n v=v:=⟨by unfold zwS;rw[h];rfl,by unfold zwV;rw[h];simp⟩
theorem zw_y {k:Int} {x:Bx} (h:decide (k≤x.type)=true) (n v:Rt):zwS false k x=true∧zwV false k x n v=n:=⟨by unfold zwS;rw[h];rfl,by unfold zwV;rw[h];simp⟩
set_option maxRecDepth 20000 in
set_option maxHeartbeats 4000000 in
theorem sizes_any {w:World} {tB mb B:Nat} {els:List Me} (h:Dm w tB mb B els) (id:Int) (h1:-9223372036854775808≤id) (h2:id≤9223372036854775807) (p1 p2 r1 r2:Int) :
  Calls Tryz.prog 10 #[.pointer (some ⟨tB,0,none⟩),.int .i64 id,.agg #[.int .i64 p1,.int .i64 p2],.agg #[.int .i64 r1,.int .i64 r2]] w fun x w'=>x=.returned (zwT (zwR els id (p1,p2) (r1,r2)))∧Below w.heap.size w w':=by
 have hsm:=h.small;obtain⟨n1,n2,n3,n4,nb⟩:=four_new w 28 #[.int .i64 p1,.int .i64 p2] #[.int .i64 r1,.int .i64 r2] #[.int .i64 0,.int .i64 0] #[.int .i64 0,.int .i64 0];have hD:=h.below nb;obtain⟨FF,hFF⟩:∃ FF,zwR els id (p1,p2) (r1,r2)=FF:=⟨_,rfl⟩;obtain⟨g,hg⟩:∃ g,w.heap.size=g:=⟨_,rfl⟩;rw[hg]at n1 n2 n3 n4;have HB:=Lib.hid nb;have HD:=Lib.hid hD;have HD0:=Lib.hid h;have HN1:=Lib.hid n1;have HN2:=Lib.hid n2;have HN3:=Lib.hid n3;have HN4:=Lib.hid n4;have HFF:=Lib.hid hFF;simp only[hFF];clear n1 n2 n3 n4 nb hD h hFF
 go_enter Tryz.func10,Tryz.ntmps10
 go_upto_region 1 with fail
 try simp only[hg]
 have HG:=Lib.hid hg;clear hg;generalize World.alloc _ _=wa at *
 have l67:g<g+1:=by omega
 have l78:g+1<g+1+1:=by omega
 have l89:g+1+1<g+1+1+1:=by omega
 generalize g+1+1+1=g9 at *;generalize g+1+1=g8 at *;generalize g+1=g7 at *;go_wp2_with fail
 ((with_reducible refine(elem_case HD.out id h1 h2).mono ?_);rintro e wb ⟨⟨ok,i0,pa,tg,a1,m1,c1,bt,bn,wn,wd',hn,hd,rfl,hok,hno⟩,hbb⟩)
 have HBb:=bfH' HB hbb;have HOK:=Lib.hid hok;have HNO:=Lib.hid hno;have HM1:=Lib.hid (HN1.out.below hbb HN1.out.lt);have HM2:=Lib.hid (HN2.out.below hbb HN2.out.lt);have HM3:=Lib.hid (HN3.out.below hbb HN3.out.lt);have HM4:=Lib.hid (HN4.out.below hbb HN4.out.lt);clear hbb hok hno HB HN1 HN2 HN3 HN4
 go_upto_region 4 with fail
 obtain⟨hz1,hzb⟩:=box_new' wb 47 #[.int .i64 i0,.int .i64 pa,.string ⟨tg.toArray⟩,.slice a1 m1 c1,.slice none 0 0,.int .i64 bt,.string ⟨bn.toArray⟩,.int .i64 wn,.int .i64 wd',.int .i64 hn,.int .i64 hd];have HBc:=bfH' HBb hzb;have HK1:=Lib.hid (HM1.out.below hzb HM1.out.lt);have HK2:=Lib.hid (HM2.out.below hzb HM2.out.lt);have HK3:=Lib.hid (HM3.out.below hzb HM3.out.lt);have HK4:=Lib.hid (HM4.out.below hzb HM4.out.lt);have hgm:g9<wb.heap.size:=HM4.out.lt;obtain⟨g11,hg11⟩:∃ g11,wb.heap.size=g11:=⟨_,rfl⟩;rw[hg11]at hz1 hgm;simp only[hg11];have HZ:=Lib.hid hz1;clear hz1 hzb hg11 HBb HM1 HM2 HM3 HM4;generalize World.alloc wb _=wc at *
 cases ok with
 | false =>
   have hff:=HFF.out;have hno:=HNO.out rfl
   rw [show zwR els id (p1,p2) (r1,r2)=(((0,0),(0,0)),false) by
    unfold zwR
    by_cases h0:0≤id
    · rw[if_pos h0,List.getElem?_eq_none (by omega)]
    · rw[if_neg h0]]at hff
   subst hff;clear HFF hno HOK HNO;have x0:wc.cell? ⟨g8,0,none⟩=some (.int .i64 0):=(HK3.out).cell 0;have fx0:=(HK3.out).frozen 0;have x1:wc.cell? ⟨g8,1,none⟩=some (.int .i64 0):=(HK3.out).cell 1;have fx1:=(HK3.out).frozen 1;have lx:=(HK3.out).lt;have y0:wc.cell? ⟨g9,0,none⟩=some (.int .i64 0):=(HK4.out).cell 0;have fy0:=(HK4.out).frozen 0;have y1:wc.cell? ⟨g9,1,none⟩=some (.int .i64 0):=(HK4.out).cell 1;have fy1:=(HK4.out).frozen 1;have ly:=(HK4.out).lt;go_wp2_with fail;have hq8:=grownBy_puts [.int .i64 0,.int .i64 0] wc g8 0;have hq9:=grownBy_puts [.int .i64 0,.int .i64 0] ((wc.setCell ⟨g8,0,none⟩ (.int .i64 0)).setCell ⟨g8,1,none⟩ (.int .i64 0)) g9 0;simp only[puts,Nat.zero_add]at hq8 hq9;have hf8:Blk _ g8 28 #[.int .i64 0,.int .i64 0]:=(((HK3.out.put 0 (.int .i64 0)).put 1 (.int .i64 0)).to rfl).other hq9 (by omega)
   have hf9:Blk _ g9 28 #[.int .i64 0,.int .i64 0]:=(((HK4.out.other hq8 (by omega)).put 0 (.int .i64 0)).put 1 (.int .i64 0)).to rfl;refine bodyPost_ret (v:=.tuple #[.agg #[.int .i64 0,.int .i64 0],.agg #[.int .i64 0,.int .i64 0],.bool false]) ?_ rfl ⟨rfl,?_⟩
   · exact ret_sz Tryz.results10 rfl rfl rfl hf8 rfl hf9 rfl
   · exact below_put (below_put HBc.out hq8 (by have:=HG.out;omega)) hq9 (by have:=HG.out;omega)
 | true =>
   obtain⟨j,f,hj,-,hf,hp,-⟩:=HOK.out rfl;have hff:=HFF.out
   rw [show zwR els id (p1,p2) (r1,r2)=(zwG els pa false (p1,p2) false (r1,r2),true) by
    unfold zwR;rw[if_pos (by omega),← hj,Int.toNat_natCast,hf];simp only
    rw[hp]]at hff
   have HGG:=Lib.hid hff;clear HFF HOK HNO hff;have d1:wc.cell? ⟨g,0,none⟩=some (.int .i64 p1):=HK1.out.cell 0;have d2:wc.cell? ⟨g,1,none⟩=some (.int .i64 p2):=HK1.out.cell 1;have d3:wc.cell? ⟨g7,0,none⟩=some (.int .i64 r1):=HK2.out.cell 0;have d4:wc.cell? ⟨g7,1,none⟩=some (.int .i64 r2):=HK2.out.cell 1;have c1:=HK1.out.lt;have c2:=HK2.out.lt;have x0:wc.cell? ⟨g8,0,none⟩=some (.int .i64 0):=(HK3.out).cell 0;have fx0:=(HK3.out).frozen 0;have x1:wc.cell? ⟨g8,1,none⟩=some (.int .i64 0):=(HK3.out).cell 1;have fx1:=(HK3.out).frozen 1;have lx:=(HK3.out).lt;have y0:wc.cell? ⟨g9,0,none⟩=some (.int .i64 0):=(HK4.out).cell 0;have fy0:=(HK4.out).frozen 0;have y1:wc.cell? ⟨g9,1,none⟩=some (.int .i64 0):=(HK4.out).cell 1;have fy1:=(HK4.out).frozen 1;have ly:=(HK4.out).lt
   have u1:g≠g8:=by omega
   have u2:g≠g9:=by omega
   have u3:g7≠g8:=by omega
   have u4:g7≠g9:=by omega
   have u5:g8≠g9:=by omega
   have v1:g8≠g:=by omega
   have v2:g9≠g:=by omega
   have v3:g8≠g7:=by omega
   have v4:g9≠g7:=by omega
   have v5:g9≠g8:=by omega
   go_upto_region 6 with fail
   go_region_held3 (fun wx=>wx.cell? ⟨g,0,none⟩=some (.int .i64 p1)∧wx.cell? ⟨g,1,none⟩=some (.int .i64 p2)∧wx.cell? ⟨g7,0,none⟩=some (.int .i64 r1)∧wx.cell? ⟨g7,1,none⟩=some (.int .i64 r2)) (go_keep) (fail)
   have hq8:=grownBy_puts [.int .i64 p1,.int .i64 p2] wc g8 0;have hq9:=grownBy_puts [.int .i64 r1,.int .i64 r2] ((wc.setCell ⟨g8,0,none⟩ (.int .i64 p1)).setCell ⟨g8,1,none⟩ (.int .i64 p2)) g9 0;simp only[puts,Nat.zero_add]at hq8 hq9;have hf8:Blk _ g8 28 #[.int .i64 p1,.int .i64 p2]:=(((HK3.out.put 0 (.int .i64 p1)).put 1 (.int .i64 p2)).to rfl).other hq9 u5;have hf9:Blk _ g9 28 #[.int .i64 r1,.int .i64 r2]:=(((HK4.out.other hq8 v5).put 0 (.int .i64 r1)).put 1 (.int .i64 r2)).to rfl;have hfe:=(HZ.out.other hq8 (by omega)).other hq9 (by omega);have hfb:=below_put (below_put HBc.out hq8 (by have:=HG.out;omega)) hq9 (by have:=HG.out;omega);clear hq8 hq9 d1 d2 d3 d4 c1 c2 x0 fx0 x1 fx1 lx y0 fy0 y1 fy1 ly;have HF8:=Lib.hid hf8.drewn;have HF9:=Lib.hid hf9.drewn;have HFE:=Lib.hid hfe.drewn;have HFB:=Lib.hid hfb.drew;clear hf8 hf9 hfe hfb HZ HK1 HK2 HK3 HK4 HBc;generalize World.drew _=wd1 at *
   go_upto_region 8 with fail
   obtain⟨hz1,hzb⟩:=box_new' wd1 73 #[.bool false,.bool false];have hlt12:g11<wd1.heap.size:=HFE.out.lt;obtain⟨g12,hg12⟩:∃ g12,wd1.heap.size=g12:=⟨_,rfl⟩;rw[hg12]at hz1 hlt12;simp only[hg12];have hSz:SzAt w _ g8 g9 g11 g12 _ (p1,p2) (r1,r2) false false:=⟨(bfH' HFB hzb).out,HFE.out.below hzb HFE.out.lt,HF8.out.below hzb HF8.out.lt,HF9.out.below hzb HF9.out.lt,hz1⟩;have HS:=Lib.hid hSz;clear hz1 hzb hg12 hSz HFB HFE HF8 HF9;generalize World.alloc wd1 _=we at *
   have hpa:pa<(els.length:Int):=by
    have:=(List.getElem?_eq_some_iff.1 hf).1
    rcases HD.out.par j f hf with ⟨-,h3⟩ | ⟨-,-,h3⟩<;>rw[hp]at h3<;>omega
   have hdd:g8<g9∧g9<g11∧g11<g12∧w.heap.size≤g8:=⟨l89,hgm,hlt12,by have:=HG.out;omega⟩;have HDD:=Lib.hid hdd;clear hj hf hp hdd u1 u2 u3 u4 v1 v2 v3 v4
   have v6:g8≠g11:=by omega
   have v7:g8≠g12:=by omega
   have v8:g9≠g11:=by omega
   have v9:g9≠g12:=by omega
   have va:g11≠g12:=by omega
   go_loopg [] els.length (fun q wr=>∃ (i0 pa:Int) (tg:List UInt8) (a1:Option Addr) (m1 c1:Nat) (bt:Int) (bn:List UInt8) (wn wd hn hd:Int) (q0 q1:Rt) (b0 b1:Bool),Hid (SzAt w wr g8 g9 g11 g12 #[.int .i64 i0,.int .i64 pa,.string ⟨tg.toArray⟩,.slice a1 m1 c1,.slice none 0 0,.int .i64 bt,.string ⟨bn.toArray⟩,.int .i64 wn,.int .i64 wd,.int .i64 hn,.int .i64 hd] q0 q1 b0 b1)∧Hid ((zwG els pa b0 q0 b1 q1,true)=FF)∧pa<(els.length:Int)∧pa+1≤(q:Int))
   case atStart=>exact⟨i0,pa,tg,a1,m1,c1,bt,bn,wn,wd',hn,hd,(p1,p2),(r1,r2),false,false,HS,HGG,hpa,by omega⟩
   case round =>
    clear HS HGG hpa;obtain⟨i,pa,tg,a1,m1,c1,bt,bn,wn,wd,hn,hd,⟨qa,qb⟩,⟨qc,qd⟩,b0,b1,HS,HGG,hpl,hq⟩:=hrel;obtain⟨z0,fz0,z1,fz1,z2,fz2,z3,fz3,z4,fz4,z5,fz5,z6,fz6,z7,fz7,z8,fz8,z9,fz9,z10,fz10,lz⟩:=HS.out.e.el11
    by_cases hp0:0≤pa
    · obtain⟨p,rfl⟩:∃ i:Nat,pa=(i:Int):=⟨pa.toNat,by omega⟩
      have hpl2:p<els.length:=by omega
      obtain⟨x,hx⟩:∃ x,els[p]?=some x:=⟨_,List.getElem?_eq_getElem hpl2⟩;obtain⟨xp,xt,⟨xbt,xbn,⟨xwn,xwd⟩,⟨xhn,xhd⟩⟩,xg,xks⟩:=x;have HEC:=Lib.hid (elem_some (HD0.out.below HS.out.bel) hx)
      have hxp:xp<(p:Int):=by
       rcases HD.out.par p _ hx with ⟨h0,h3⟩ | ⟨h0,h2,h3⟩<;>simp only at h3<;>omega
      have hgg:=HGG.out;rw[zwG_step HD.out.Par hx]at hgg;have HGG:=Lib.hid (show (zwG els xp (zwS b0 1 ⟨xbt,xbn,(xwn,xwd),(xhn,xhd)⟩) (zwV b0 1 ⟨xbt,xbn,(xwn,xwd),(xhn,xhd)⟩ (xwn,xwd) (qa,qb)) (zwS b1 2 ⟨xbt,xbn,(xwn,xwd),(xhn,xhd)⟩) (zwV b1 2 ⟨xbt,xbn,(xwn,xwd),(xhn,xhd)⟩ (xhn,xhd) (qc,qd)),true)=FF from hgg);clear hx hgg;go_wp2_with fail
      ((with_reducible refine HEC.out.mono ?_);rintro e wf ⟨⟨a1',n1',c1',rfl⟩,hbe⟩)
      have HS1:=Lib.hid (HS.out.below hbe);clear z0 fz0 z1 fz1 z2 fz2 z3 fz3 z4 fz4 z5 fz5 z6 fz6 z7 fz7 z8 fz8 z9 fz9 z10 fz10 lz HS hbe HEC;obtain⟨z0,fz0,z1,fz1,z2,fz2,z3,fz3,z4,fz4,z5,fz5,z6,fz6,z7,fz7,z8,fz8,z9,fz9,z10,fz10,lz⟩:=HS1.out.e.el11
      go_upto_region 10 with fail
      have hz:=blk_putsM [] [.int .i64 (p:Int),.int .i64 xp,.string ⟨xt.toArray⟩,.slice a1' n1' c1',.slice none 0 0,.int .i64 xbt,.string ⟨xbn.toArray⟩,.int .i64 xwn,.int .i64 xwd,.int .i64 xhn,.int .i64 xhd] [.int .i64 i,.int .i64 (p:Int),.string ⟨tg.toArray⟩,.slice a1 m1 c1,.slice none 0 0,.int .i64 bt,.string ⟨bn.toArray⟩,.int .i64 wn,.int .i64 wd,.int .i64 hn,.int .i64 hd] wf 0 [] HS1.out.e rfl rfl;have hgz:=grownBy_puts [.int .i64 (p:Int),.int .i64 xp,.string ⟨xt.toArray⟩,.slice a1' n1' c1',.slice none 0 0,.int .i64 xbt,.string ⟨xbn.toArray⟩,.int .i64 xwn,.int .i64 xwd,.int .i64 xhn,.int .i64 xhd] wf g11 0;simp only[puts,Nat.zero_add,Nat.reduceAdd]at hz hgz;have HS2:=Lib.hid (HS1.out.putE hgz hz HDD.out);clear z0 fz0 z1 fz1 z2 fz2 z3 fz3 z4 fz4 z5 fz5 z6 fz6 z7 fz7 z8 fz8 z9 fz9 z10 fz10 lz;clear hz hgz HS1;generalize World.setCell _ _ _=wk at *
      have x0:wk.cell? ⟨g8,0,none⟩=some (.int .i64 qa):=(HS2.out.q8).cell 0;have fx0:=(HS2.out.q8).frozen 0;have x1:wk.cell? ⟨g8,1,none⟩=some (.int .i64 qb):=(HS2.out.q8).cell 1;have fx1:=(HS2.out.q8).frozen 1;have lx:=(HS2.out.q8).lt;have y0:wk.cell? ⟨g9,0,none⟩=some (.int .i64 qc):=(HS2.out.q9).cell 0;have fy0:=(HS2.out.q9).frozen 0;have y1:wk.cell? ⟨g9,1,none⟩=some (.int .i64 qd):=(HS2.out.q9).cell 1;have fy1:=(HS2.out.q9).frozen 1;have ly:=(HS2.out.q9).lt;have f0:wk.cell? ⟨g12,0,none⟩=some (.bool b0):=(HS2.out.fl).cell 0;have ff0:=(HS2.out.fl).frozen 0;have f1:wk.cell? ⟨g12,1,none⟩=some (.bool b1):=(HS2.out.fl).cell 1;have ff1:=(HS2.out.fl).frozen 1;have lf:=(HS2.out.fl).lt;obtain⟨z0,fz0,z1,fz1,z2,fz2,z3,fz3,z4,fz4,z5,fz5,z6,fz6,z7,fz7,z8,fz8,z9,fz9,z10,fz10,lz⟩:=HS2.out.e.el11
      cases b0 with
      | true =>
        have hgg:=HGG.out;rw[(zw_t 1 ⟨xbt,xbn,(xwn,xwd),(xhn,xhd)⟩ (xwn,xwd) (qa,qb)).1,(zw_t 1 ⟨xbt,xbn,(xwn,xwd),(xhn,xhd)⟩ (xwn,xwd) (qa,qb)).2]at hgg;have HGG:=Lib.hid hgg;clear hgg
        go_upto_region 12 with fail
        clear x0 fx0 x1 fx1 lx y0 fy0 y1 fy1 ly f0 ff0 f1 ff1 lf;clear z0 fz0 z1 fz1 z2 fz2 z3 fz3 z4 fz4 z5 fz5 z6 fz6 z7 fz7 z8 fz8 z9 fz9 z10 fz10 lz;have x0:wk.cell? ⟨g8,0,none⟩=some (.int .i64 qa):=(HS2.out.q8).cell 0;have fx0:=(HS2.out.q8).frozen 0;have x1:wk.cell? ⟨g8,1,none⟩=some (.int .i64 qb):=(HS2.out.q8).cell 1;have fx1:=(HS2.out.q8).frozen 1;have lx:=(HS2.out.q8).lt;have y0:wk.cell? ⟨g9,0,none⟩=some (.int .i64 qc):=(HS2.out.q9).cell 0;have fy0:=(HS2.out.q9).frozen 0;have y1:wk.cell? ⟨g9,1,none⟩=some (.int .i64 qd):=(HS2.out.q9).cell 1;have fy1:=(HS2.out.q9).frozen 1;have ly:=(HS2.out.q9).lt;have f0:wk.cell? ⟨g12,0,none⟩=some (.bool true):=(HS2.out.fl).cell 0;have ff0:=(HS2.out.fl).frozen 0;have f1:wk.cell? ⟨g12,1,none⟩=some (.bool b1):=(HS2.out.fl).cell 1;have ff1:=(HS2.out.fl).frozen 1;have lf:=(HS2.out.fl).lt
        obtain⟨z0,fz0,z1,fz1,z2,fz2,z3,fz3,z4,fz4,z5,fz5,z6,fz6,z7,fz7,z8,fz8,z9,fz9,z10,fz10,lz⟩:=HS2.out.e.el11
        cases b1 with
        | true =>
          have hgg:=HGG.out;rw[(zw_t 2 ⟨xbt,xbn,(xwn,xwd),(xhn,xhd)⟩ (xhn,xhd) (qc,qd)).1,(zw_t 2 ⟨xbt,xbn,(xwn,xwd),(xhn,xhd)⟩ (xhn,xhd) (qc,qd)).2]at hgg;have HGG:=Lib.hid hgg;clear hgg;go_wp2_with fail
          go_roundg p
          case measure=>omega
          case rel=>exact⟨_,xp,_,_,_,_,_,_,_,_,_,_,(qa,qb),(qc,qd),true,true,HS2,HGG,by omega,by omega⟩
        | false =>
          by_cases kt3:(2:Int)≤xbt
          · have kt4:decide ((2:Int)≤xbt)=true:=by simpa using kt3
            have hgg:=HGG.out;rw[(zw_y (x:=⟨xbt,xbn,(xwn,xwd),(xhn,xhd)⟩) kt4 (xhn,xhd) (qc,qd)).1,(zw_y (x:=⟨xbt,xbn,(xwn,xwd),(xhn,xhd)⟩) kt4 (xhn,xhd) (qc,qd)).2]at hgg;have HGG:=Lib.hid hgg;clear hgg;go_wp2_with fail;have HSe:=Lib.hid ((HS2.out.put9 xhn xhd HDD.out).flag1 HDD.out)
            go_roundg p
            case measure=>omega
            case rel=>exact⟨_,xp,_,_,_,_,_,_,_,_,_,_,(qa,qb),(xhn,xhd),true,true,HSe,HGG,by omega,by omega⟩
          · have kt4:decide ((2:Int)≤xbt)=false:=by simpa using kt3
            have hgg:=HGG.out;rw[(zw_n (x:=⟨xbt,xbn,(xwn,xwd),(xhn,xhd)⟩) kt4 (xhn,xhd) (qc,qd)).1,(zw_n (x:=⟨xbt,xbn,(xwn,xwd),(xhn,xhd)⟩) kt4 (xhn,xhd) (qc,qd)).2]at hgg;have HGG:=Lib.hid hgg;clear hgg;go_wp2_with fail
            go_roundg p
            case measure=>omega
            case rel=>exact⟨_,xp,_,_,_,_,_,_,_,_,_,_,(qa,qb),(qc,qd),true,false,HS2,HGG,by omega,by omega⟩
      | false =>
        by_cases kt:(1:Int)≤xbt
        · have kt2:decide ((1:Int)≤xbt)=true:=by simpa using kt
          have hgg:=HGG.out;rw[(zw_y (x:=⟨xbt,xbn,(xwn,xwd),(xhn,xhd)⟩) kt2 (xwn,xwd) (qa,qb)).1,(zw_y (x:=⟨xbt,xbn,(xwn,xwd),(xhn,xhd)⟩) kt2 (xwn,xwd) (qa,qb)).2]at hgg;have HGG:=Lib.hid hgg;clear hgg
          go_upto_region 12 with fail
          have HS3:=Lib.hid ((HS2.out.put8 xwn xwd HDD.out).flag0 HDD.out);clear x0 fx0 x1 fx1 lx y0 fy0 y1 fy1 ly f0 ff0 f1 ff1 lf;clear z0 fz0 z1 fz1 z2 fz2 z3 fz3 z4 fz4 z5 fz5 z6 fz6 z7 fz7 z8 fz8 z9 fz9 z10 fz10 lz;clear HS2;generalize World.setCell _ _ _=wm at *;have x0:wm.cell? ⟨g8,0,none⟩=some (.int .i64 xwn):=(HS3.out.q8).cell 0;have fx0:=(HS3.out.q8).frozen 0;have x1:wm.cell? ⟨g8,1,none⟩=some (.int .i64 xwd):=(HS3.out.q8).cell 1;have fx1:=(HS3.out.q8).frozen 1;have lx:=(HS3.out.q8).lt;have y0:wm.cell? ⟨g9,0,none⟩=some (.int .i64 qc):=(HS3.out.q9).cell 0;have fy0:=(HS3.out.q9).frozen 0;have y1:wm.cell? ⟨g9,1,none⟩=some (.int .i64 qd):=(HS3.out.q9).cell 1;have fy1:=(HS3.out.q9).frozen 1;have ly:=(HS3.out.q9).lt;have f0:wm.cell? ⟨g12,0,none⟩=some (.bool true):=(HS3.out.fl).cell 0;have ff0:=(HS3.out.fl).frozen 0;have f1:wm.cell? ⟨g12,1,none⟩=some (.bool b1):=(HS3.out.fl).cell 1
          have ff1:=(HS3.out.fl).frozen 1;have lf:=(HS3.out.fl).lt;obtain⟨z0,fz0,z1,fz1,z2,fz2,z3,fz3,z4,fz4,z5,fz5,z6,fz6,z7,fz7,z8,fz8,z9,fz9,z10,fz10,lz⟩:=HS3.out.e.el11
          cases b1 with
          | true =>
            have hgg:=HGG.out;rw[(zw_t 2 ⟨xbt,xbn,(xwn,xwd),(xhn,xhd)⟩ (xhn,xhd) (qc,qd)).1,(zw_t 2 ⟨xbt,xbn,(xwn,xwd),(xhn,xhd)⟩ (xhn,xhd) (qc,qd)).2]at hgg;have HGG:=Lib.hid hgg;clear hgg;go_wp2_with fail
            go_roundg p
            case measure=>omega
            case rel=>exact⟨_,xp,_,_,_,_,_,_,_,_,_,_,(xwn,xwd),(qc,qd),true,true,HS3,HGG,by omega,by omega⟩
          | false =>
            by_cases kt3:(2:Int)≤xbt
            · have kt4:decide ((2:Int)≤xbt)=true:=by simpa using kt3
              have hgg:=HGG.out;rw[(zw_y (x:=⟨xbt,xbn,(xwn,xwd),(xhn,xhd)⟩) kt4 (xhn,xhd) (qc,qd)).1,(zw_y (x:=⟨xbt,xbn,(xwn,xwd),(xhn,xhd)⟩) kt4 (xhn,xhd) (qc,qd)).2]at hgg;have HGG:=Lib.hid hgg;clear hgg;go_wp2_with fail;have HSe:=Lib.hid ((HS3.out.put9 xhn xhd HDD.out).flag1 HDD.out)
              go_roundg p
              case measure=>omega
              case rel=>exact⟨_,xp,_,_,_,_,_,_,_,_,_,_,(xwn,xwd),(xhn,xhd),true,true,HSe,HGG,by omega,by omega⟩
            · have kt4:decide ((2:Int)≤xbt)=false:=by simpa using kt3
              have hgg:=HGG.out;rw[(zw_n (x:=⟨xbt,xbn,(xwn,xwd),(xhn,xhd)⟩) kt4 (xhn,xhd) (qc,qd)).1,(zw_n (x:=⟨xbt,xbn,(xwn,xwd),(xhn,xhd)⟩) kt4 (xhn,xhd) (qc,qd)).2]at hgg;have HGG:=Lib.hid hgg;clear hgg;go_wp2_with fail
              go_roundg p
              case measure=>omega
              case rel=>exact⟨_,xp,_,_,_,_,_,_,_,_,_,_,(xwn,xwd),(qc,qd),true,false,HS3,HGG,by omega,by omega⟩
        · have kt2:decide ((1:Int)≤xbt)=false:=by simpa using kt
          have hgg:=HGG.out;rw[(zw_n (x:=⟨xbt,xbn,(xwn,xwd),(xhn,xhd)⟩) kt2 (xwn,xwd) (qa,qb)).1,(zw_n (x:=⟨xbt,xbn,(xwn,xwd),(xhn,xhd)⟩) kt2 (xwn,xwd) (qa,qb)).2]at hgg;have HGG:=Lib.hid hgg;clear hgg
          go_upto_region 12 with fail
          clear x0 fx0 x1 fx1 lx y0 fy0 y1 fy1 ly f0 ff0 f1 ff1 lf;clear z0 fz0 z1 fz1 z2 fz2 z3 fz3 z4 fz4 z5 fz5 z6 fz6 z7 fz7 z8 fz8 z9 fz9 z10 fz10 lz;have x0:wk.cell? ⟨g8,0,none⟩=some (.int .i64 qa):=(HS2.out.q8).cell 0;have fx0:=(HS2.out.q8).frozen 0;have x1:wk.cell? ⟨g8,1,none⟩=some (.int .i64 qb):=(HS2.out.q8).cell 1;have fx1:=(HS2.out.q8).frozen 1;have lx:=(HS2.out.q8).lt;have y0:wk.cell? ⟨g9,0,none⟩=some (.int .i64 qc):=(HS2.out.q9).cell 0;have fy0:=(HS2.out.q9).frozen 0;have y1:wk.cell? ⟨g9,1,none⟩=some (.int .i64 qd):=(HS2.out.q9).cell 1;have fy1:=(HS2.out.q9).frozen 1;have ly:=(HS2.out.q9).lt;have f0:wk.cell? ⟨g12,0,none⟩=some (.bool false):=(HS2.out.fl).cell 0;have ff0:=(HS2.out.fl).frozen 0;have f1:wk.cell? ⟨g12,1,none⟩=some (.bool b1):=(HS2.out.fl).cell 1;have ff1:=(HS2.out.fl).frozen 1;have lf:=(HS2.out.fl).lt
          obtain⟨z0,fz0,z1,fz1,z2,fz2,z3,fz3,z4,fz4,z5,fz5,z6,fz6,z7,fz7,z8,fz8,z9,fz9,z10,fz10,lz⟩:=HS2.out.e.el11
          cases b1 with
          | true =>
            have hgg:=HGG.out;rw[(zw_t 2 ⟨xbt,xbn,(xwn,xwd),(xhn,xhd)⟩ (xhn,xhd) (qc,qd)).1,(zw_t 2 ⟨xbt,xbn,(xwn,xwd),(xhn,xhd)⟩ (xhn,xhd) (qc,qd)).2]at hgg;have HGG:=Lib.hid hgg;clear hgg;go_wp2_with fail
            go_roundg p
            case measure=>omega
            case rel=>exact⟨_,xp,_,_,_,_,_,_,_,_,_,_,(qa,qb),(qc,qd),false,true,HS2,HGG,by omega,by omega⟩
          | false =>
            by_cases kt3:(2:Int)≤xbt
            · exact absurd kt3 (by omega)
            · have kt4:decide ((2:Int)≤xbt)=false:=by simpa using kt3
              have hgg:=HGG.out;rw[(zw_n (x:=⟨xbt,xbn,(xwn,xwd),(xhn,xhd)⟩) kt4 (xhn,xhd) (qc,qd)).1,(zw_n (x:=⟨xbt,xbn,(xwn,xwd),(xhn,xhd)⟩) kt4 (xhn,xhd) (qc,qd)).2]at hgg;have HGG:=Lib.hid hgg;clear hgg;go_wp2_with fail
              go_roundg p
              case measure=>omega
              case rel=>exact⟨_,xp,_,_,_,_,_,_,_,_,_,_,(qa,qb),(qc,qd),false,false,HS2,HGG,by omega,by omega⟩
    · have hgg:=HGG.out;rw[zwG_neg _ (by omega)]at hgg;subst hgg;clear HGG;have x0:wr.cell? ⟨g8,0,none⟩=some (.int .i64 qa):=(HS.out.q8).cell 0;have fx0:=(HS.out.q8).frozen 0;have x1:wr.cell? ⟨g8,1,none⟩=some (.int .i64 qb):=(HS.out.q8).cell 1;have fx1:=(HS.out.q8).frozen 1;have lx:=(HS.out.q8).lt;have y0:wr.cell? ⟨g9,0,none⟩=some (.int .i64 qc):=(HS.out.q9).cell 0;have fy0:=(HS.out.q9).frozen 0;have y1:wr.cell? ⟨g9,1,none⟩=some (.int .i64 qd):=(HS.out.q9).cell 1;have fy1:=(HS.out.q9).frozen 1;have ly:=(HS.out.q9).lt
      go_upto_region 14 with fail
      go_region_with (fail)
      all_goals
       go_wp2_with fail;have hS:=(HS.out.put8 qa qb HDD.out).put9 qc qd HDD.out;refine bodyPost_ret (v:=.tuple #[.agg #[.int .i64 qa,.int .i64 qb],.agg #[.int .i64 qc,.int .i64 qd],.bool true]) ?_ rfl ⟨rfl,hS.bel.drew⟩;exact ret_sz Tryz.results10 rfl rfl rfl hS.q8.drewn rfl hS.q9.drewn rfl
theorem findV_mk (o:Option Int):∃ (k:Int) (b:Bool),findV o=.tuple #[.int .i64 k,.bool b]∧o=(if b=true then some k else none)∧(b=false→k=0):=by
 cases o with
 | none=>exact⟨0,false,rfl,rfl,fun _=>rfl⟩
 | some k=>exact⟨k,true,rfl,rfl,fun h=>by cases h⟩
theorem three_new (w:World) (t1 t2 t3:TypeId) (a b c:Array Value):Blk (((w.alloc (.cells a t1)).alloc (.cells b t2)).alloc (.cells c t3)) w.heap.size t1 a∧Blk (((w.alloc (.cells a t1)).alloc (.cells b t2)).alloc (.cells c t3)) (w.heap.size+1) t2 b ∧
  Blk (((w.alloc (.cells a t1)).alloc (.cells b t2)).alloc (.cells c t3)) (w.heap.size+1+1) t3 c∧Below w.heap.size w (((w.alloc (.cells a t1)).alloc (.cells b t2)).alloc (.cells c t3)):=by
 obtain⟨h1,l1⟩:=box_new' w t1 a;obtain⟨h2,l2⟩:=box_new' (w.alloc (.cells a t1)) t2 b;obtain⟨h3,l3⟩:=box_new' ((w.alloc (.cells a t1)).alloc (.cells b t2)) t3 c
 have s1:(w.alloc (.cells a t1)).heap.size=w.heap.size+1:=by simp
 have s2:((w.alloc (.cells a t1)).alloc (.cells b t2)).heap.size=w.heap.size+1+1:=by simp
 have h1':=(h1.below l2 h1.lt).below l3 (h1.below l2 h1.lt).lt;have h2':=h2.below l3 h2.lt;rw[s1]at h2';rw[s2]at h3;exact⟨h1',h2',h3,(bfH' (bfH' (Lib.hid l1) l2) l3).out⟩
theorem two_new (w:World) (t1 t2:TypeId) (a b:Array Value):Blk ((w.alloc (.cells a t1)).alloc (.cells b t2)) w.heap.size t1 a∧Blk ((w.alloc (.cells a t1)).alloc (.cells b t2)) (w.heap.size+1) t2 b∧Below w.heap.size w ((w.alloc (.cells a t1)).alloc (.cells b t2)):=by
 obtain⟨h1,l1⟩:=box_new' w t1 a;obtain⟨h2,l2⟩:=box_new' (w.alloc (.cells a t1)) t2 b
 have s1:(w.alloc (.cells a t1)).heap.size=w.heap.size+1:=by simp
 have h1':=h1.below l2 h1.lt;rw[s1]at h2;exact⟨h1',h2,(bfH' (Lib.hid l1) l2).out⟩
set_option maxRecDepth 20000 in
set_option maxHeartbeats 8000000 in
theorem law_containBelow (uo:Option Addr) (uc ub uf:Nat) (U:List Int) (bo:Option Addr) (bc bb bf:Nat) (L:List Bx) (nm:List UInt8) (hc:Nat) (e:Cd) (id ot:Int) (X:Bx) (w:World) (hU:Ints w uo U.length uc ub uf U) (hL:BxIn w bo bc bb bf L)
  (hx:CdIn w hc e) (hK:Kd w) (hbk:(leavesC hc e).length≤1048576) (h1:-9223372036854775808≤id) (h2:id≤9223372036854775807) (o1:-9223372036854775808≤ot) (o2:ot≤9223372036854775807) (hX:Bx64 X) :
  Calls Tryz.prog 4 #[.agg #[.slice uo U.length uc,.slice bo L.length bc],askV nm e,.int .i64 id,.int .i64 ot,.agg (bxcells X).toArray] w fun x w'=>x=.returned (.bool true)∧Below w.heap.size w w':=by
 have hfi:=fun wx (hb:Below w.heap.size w wx) tB mb els (hD:Dm wx tB mb w.heap.size els)=>find_any hD id h1 h2 nm hc e (hx.below hc hb) hbk
 have haw:=fun wx (hb:Below w.heap.size w wx)=>awake19_any wx (hK.below hb)
 have hro:=fun wx (hb:Below w.heap.size w wx)=>rooms_any uo uc ub uf U bo bc bb bf L wx (hU.below hb) (hL.below hb)
 have hsb:=fun wx tB mb els (hD:Dm wx tB mb w.heap.size els)=>setBox_fr hD ot o1 o2 X hX
 have hsz:=fun wx tB mb els (hD:Dm wx tB mb w.heap.size els)=>sizes_any hD id h1 h2 1 1 2 1
 obtain⟨R,hR⟩:∃ R,foldN 0 ((leavesN hc e).map keyL)=R:=⟨_,rfl⟩;simp only[hR]at hfi;clear hx hbk hR hU hL hK;obtain⟨c,oa,b,o,cap,kids,⟨lk,lt,nmc,op,⟨k',n,d,u,oa',b',o',cap',kids'⟩,wd,vl,an⟩⟩:=e;simp only[askV_mk]at hfi ⊢;obtain⟨K,hK⟩:∃ K,kids.length=K:=⟨_,rfl⟩;obtain⟨K',hK'⟩:∃ K,kids'.length=K:=⟨_,rfl⟩;obtain⟨ul,hul⟩:∃ K,U.length=K:=⟨_,rfl⟩;obtain⟨ll,hll⟩:∃ K,L.length=K:=⟨_,rfl⟩;simp only[hK,hK',hul,hll]at hfi hro ⊢;obtain⟨xt,xn,⟨xa,xb⟩,⟨xc,xd⟩⟩:=X;have HSB:=Lib.hid (show ∀ wx tB mb els,Dm wx tB mb w.heap.size els→Calls Tryz.prog 11 #[.pointer (some ⟨tB,0,none⟩),.int .i64 ot,.agg #[.int .i64 xt,.string ⟨xn.toArray⟩,.int .i64 xa,.int .i64 xb,.int .i64 xc,.int .i64 xd]] wx _ from hsb);show Calls Tryz.prog 4 #[_,_,_,_,.agg #[.int .i64 xt,.string ⟨xn.toArray⟩,.int .i64 xa,.int .i64 xb,.int .i64 xc,.int .i64 xd]] w _
 obtain⟨n1,n2,n3,nb⟩:=three_new w 25 37 45 #[.slice uo ul uc,.slice bo ll bc] #[.string ⟨nm.toArray⟩,.int .i64 c,.slice oa K cap,.int .i64 lk,.int .i64 lt,.string nmc,.int .i64 op,.int .i64 k',.int .i64 n,.int .i64 d,.int .i64 u,.slice oa' K' cap',.string wd,.string vl,.bool an] #[.int .i64 xt,.string ⟨xn.toArray⟩,.int .i64 xa,.int .i64 xb,.int .i64 xc,.int .i64 xd];obtain⟨g,hg⟩:∃ g,w.heap.size=g:=⟨_,rfl⟩;rw[hg]at n1 n2 n3;have HFI:=Lib.hid hfi;have HAW:=Lib.hid haw;have HRO:=Lib.hid hro;have HSZ:=Lib.hid hsz;have HB1:=Lib.hid nb;have HR:=Lib.hid n1;have HA:=Lib.hid n2;have HX:=Lib.hid n3;clear hfi haw hro hsb hsz hK hK' hul hll n1 n2 n3 nb hX
 go_enter Tryz.func4,Tryz.ntmps4
 go_upto_region 1 with fail
 try simp only[hg]
 have HG:=Lib.hid hg;clear hg;generalize World.alloc _ _=wa at *;generalize g+1+1=gX at *;generalize g+1=gA at *;have c0:wa.cell? ⟨g,0,none⟩=some (.slice uo ul uc):=HR.out.cell 0;have c1:wa.cell? ⟨g,1,none⟩=some (.slice bo ll bc):=HR.out.cell 1;have lx:=HR.out.lt;go_wp2_with fail
 ((with_reducible refine(HRO.out _ HB1.out).mono ?_);rintro e wb ⟨⟨tB,mb,els,rfl,hD⟩,hbb⟩)
 have HBb:=bfH' HB1 hbb;have HDb:=Lib.hid (hD.lower HB1.out.size);have HOWN:=Lib.hid (show ∀ (i:Nat) (e:Me),els[i]?=some e→wa.heap.size≤e.g∧e.g<wb.heap.size from fun i e he=>⟨(hD.far i e he _ (.inl rfl)).1,hD.own_lt he (.inl rfl)⟩);have HLA:=Lib.hid HA.out.lt;have HLX:=Lib.hid HX.out.lt;have HAb:=Lib.hid (HA.out.below hbb HA.out.lt);have HXb:=Lib.hid (HX.out.below hbb HX.out.lt);clear c0 c1 lx hD hbb HB1 HA HR HX HRO;go_wp2_with fail
 ((with_reducible refine(elem_case HDb.out id h1 h2).mono ?_);rintro e we ⟨⟨ok,i0,pa,tg,a1,m1,c1,bt,bn,wn,wd',hn,hd,rfl,hok,hno⟩,hbe⟩)
 have HBe:=bfH' HBb hbe;have HQ1:=Lib.hid hbe.size;have HDe:=Lib.hid (HDb.out.below hbe);have HAe:=Lib.hid (HAb.out.below hbe HAb.out.lt);have HXe:=Lib.hid (HXb.out.below hbe HXb.out.lt);have HOK:=Lib.hid hok;have HNO:=Lib.hid hno;clear hbe HBb HDb HAb HXb hok hno
 go_upto_region 5 with fail
 obtain⟨hz1,hzb⟩:=box_new' we 47 #[.int .i64 i0,.int .i64 pa,.string ⟨tg.toArray⟩,.slice a1 m1 c1,.slice none 0 0,.int .i64 bt,.string ⟨bn.toArray⟩,.int .i64 wn,.int .i64 wd',.int .i64 hn,.int .i64 hd];have HBf:=bfH' HBe hzb;have HQ2:=Lib.hid hzb.size;have HDf:=Lib.hid (HDe.out.below hzb);have HAf:=Lib.hid (HAe.out.below hzb HAe.out.lt);have HXf:=Lib.hid (HXe.out.below hzb HXe.out.lt);obtain⟨g8,hg8⟩:∃ g8,we.heap.size=g8:=⟨_,rfl⟩;rw[hg8]at hz1;simp only[hg8];have HZ:=Lib.hid hz1;clear hz1 hzb hg8 HBe HDe HAe HXe;generalize World.alloc we _=wf at *
 cases ok with
 | false =>
   go_wp2_with fail
   ((with_reducible refine(HAW.out _ HBf.out).mono ?_);rintro e wg ⟨rfl,hbg⟩)
   go_wp2_with fail;go_ret;exact⟨rfl,(bfH' HBf hbg).out⟩
 | true =>
   obtain⟨j,f,hj,-,hf,hp,-⟩:=HOK.out rfl;have HJ:=Lib.hid hj;have HF0:=Lib.hid hf;have HP:=Lib.hid hp
   have hpa:pa<(els.length:Int):=by
    have:=(List.getElem?_eq_some_iff.1 hf).1
    rcases HDf.out.par j f hf with ⟨-,h3⟩ | ⟨-,-,h3⟩<;>rw[hp]at h3<;>omega
   clear hj hf hp HOK HNO;obtain⟨fk,fb,hfv,-,-⟩:=findV_mk (findF els R nm id);have hF:=HFI.out _ HBf.out tB mb els HDf.out;rw[hfv]at hF;have HF:=Lib.hid hF;have HFV:=Lib.hid hfv;clear hF hfv;obtain⟨e0,fe0,e1,fe1,e2,fe2,e3,fe3,e4,fe4,e5,fe5,e6,fe6,e7,fe7,e8,fe8,e9,fe9,e10,fe10,e11,fe11,e12,fe12,e13,fe13,e14,fe14,le⟩:=HAf.out.many15;go_wp2_with fail
   ((with_reducible refine HF.out.mono ?_);rintro e wh ⟨rfl,hbh⟩)
   have HBh:=bfH' HBf hbh;have HQ3:=Lib.hid hbh.size;have HDh:=Lib.hid (HDf.out.below hbh);have HAh:=Lib.hid (HAf.out.below hbh HAf.out.lt);have HXh:=Lib.hid (HXf.out.below hbh HXf.out.lt);have HZh:=Lib.hid (HZ.out.below hbh HZ.out.lt);clear e0 fe0 e1 fe1 e2 fe2 e3 fe3 e4 fe4 e5 fe5 e6 fe6 e7 fe7 e8 fe8 e9 fe9 e10 fe10 e11 fe11 e12 fe12 e13 fe13 e14 fe14 le;clear hbh HBf HDf HAf HXf HZ HF;obtain⟨⟨⟨⟨wa1,wa2⟩,⟨wb1,wb2⟩⟩,sb⟩,hzr⟩:∃ r,zwR els id (1,1) (2,1)=r:=⟨_,rfl⟩;have hS:=HSZ.out wh tB mb els HDh.out;rw[hzr]at hS;have HS:=Lib.hid (show Calls Tryz.prog 10 #[.pointer (some ⟨tB,0,none⟩),.int .i64 id,.agg #[.int .i64 1,.int .i64 1],.agg #[.int .i64 2,.int .i64 1]] wh fun x w'=>x=.returned (.tuple #[.agg #[.int .i64 wa1,.int .i64 wa2],.agg #[.int .i64 wb1,.int .i64 wb2],.bool sb])∧Below wh.heap.size wh w' from hS);have HZR:=Lib.hid hzr;clear hS hzr;go_wp2_with fail
   ((with_reducible refine HS.out.mono ?_);rintro e wi ⟨rfl,hbi⟩)
   have HBi:=bfH' HBh hbi;have HQ4:=Lib.hid hbi.size;have HDi:=Lib.hid (HDh.out.below hbi);have HAi:=Lib.hid (HAh.out.below hbi HAh.out.lt);have HXi:=Lib.hid (HXh.out.below hbi HXh.out.lt);have HZi:=Lib.hid (HZh.out.below hbi HZh.out.lt);clear hbi HBh HDh HAh HXh HZh HS
   go_upto_region 9 with fail
   obtain⟨t1,t2,tb⟩:=two_new wi 28 28 #[.int .i64 wa1,.int .i64 wa2] #[.int .i64 wb1,.int .i64 wb2];have HBj:=bfH' HBi tb;have HDj:=Lib.hid (HDi.out.below tb);have HAj:=Lib.hid (HAi.out.below tb HAi.out.lt);have HXj:=Lib.hid (HXi.out.below tb HXi.out.lt);have HZj:=Lib.hid (HZi.out.below tb HZi.out.lt)
   have hgg:wb.heap.size≤wi.heap.size:=by
    have:=HQ1.out;have:=HQ2.out;have:=HQ3.out;have:=HQ4.out;omega
   obtain⟨g16,hg16⟩:∃ g16,wi.heap.size=g16:=⟨_,rfl⟩;rw[hg16]at t1 t2 hgg;simp only[hg16];have HT1:=Lib.hid t1;have HT2:=Lib.hid t2;clear t1 t2 tb hg16 HBi HDi HAi HXi HZi HQ1 HQ2 HQ3 HQ4;generalize World.alloc _ _=wj at *
   have hgg2:wb.heap.size≤g16+1:=by omega
   generalize g16+1=g17 at *;have HGG:=Lib.hid hgg;have HGG2:=Lib.hid hgg2;clear hgg hgg2;obtain⟨z0,fz0,z1,fz1,z2,fz2,z3,fz3,z4,fz4,z5,fz5,z6,fz6,z7,fz7,z8,fz8,z9,fz9,z10,fz10,lz⟩:=HZj.out.el11;go_wp2_with fail;clear z0 fz0 z1 fz1 z2 fz2 z3 fz3 z4 fz4 z5 fz5 z6 fz6 z7 fz7 z8 fz8 z9 fz9 z10 fz10 lz;have hb0:Below wj.heap.size wj wj:=Below.refl _ _;have HB0:=Lib.hid hb0;have HOF:=Lib.hid (fun h:Off els ot pa=>h);clear hb0 HZj
   go_loopg [19] els.length (fun q s19 wr=>∃ p:Int,s19=.int .i64 p∧Hid (Below wj.heap.size wj wr)∧Hid (Off els ot p→Off els ot pa)∧p<(els.length:Int)∧p+1≤(q:Int))
   case atStart=>exact⟨pa,rfl,HB0,HOF,hpa,by omega⟩
   case round =>
    clear HOF HB0 hpa;obtain⟨p,rfl,HB,HOF,hpl,hq⟩:=hrel
    by_cases hp0:0≤p
    · obtain⟨p,rfl⟩:∃ i:Nat,p=(i:Int):=⟨p.toNat,by omega⟩
      have hpl2:p<els.length:=by omega
      obtain⟨x,hx⟩:∃ x,els[p]?=some x:=⟨_,List.getElem?_eq_getElem hpl2⟩
      by_cases hpo:(p:Int)=ot
      · have k1:((p:Int)==ot)=true:=by simp[hpo]
        clear hpo hx;go_wp2_with fail
        ((with_reducible refine(HAW.out _ (bfH' HBj HB.out).out).mono ?_);rintro e wg ⟨rfl,hbg⟩)
        go_wp2_with fail;go_ret;exact⟨rfl,(bfH' (bfH' HBj HB.out) hbg).out⟩
      · have k1:((p:Int)==ot)=false:=by simpa using hpo
        obtain⟨xp,xt',⟨xbt,xbn,⟨xwn,xwd⟩,⟨xhn,xhd⟩⟩,xg,xks⟩:=x;have HEC:=Lib.hid (elem_some (HDj.out.below HB.out) hx)
        have hxp:xp<(p:Int):=by
         rcases HDj.out.par p _ hx with ⟨h0,h3⟩ | ⟨h0,h2,h3⟩<;>simp only at h3<;>omega
        have HOF2:=Lib.hid (fun h:Off els ot xp=>HOF.out (.step hx hpo h));clear hx hpo HOF;go_wp2_with fail
        ((with_reducible refine HEC.out.mono ?_);rintro e wd1 ⟨⟨a1',n1',c1',rfl⟩,hbe⟩)
        have HB1:=Lib.hid (HB.out.trans (hbe.mono HB.out.size));clear HB hbe HEC
        go_upto_region 14 with fail
        obtain⟨hz1,hzb⟩:=box_new' wd1 47 #[.int .i64 (p:Int),.int .i64 xp,.string ⟨xt'.toArray⟩,.slice a1' n1' c1',.slice none 0 0,.int .i64 xbt,.string ⟨xbn.toArray⟩,.int .i64 xwn,.int .i64 xwd,.int .i64 xhn,.int .i64 xhd];have HB2:=bfH' HB1 hzb;obtain⟨g9,hg9⟩:∃ g9,wd1.heap.size=g9:=⟨_,rfl⟩;rw[hg9]at hz1;simp only[hg9];have HZ3:=Lib.hid hz1;clear hz1 hzb hg9 HB1;generalize World.alloc wd1 _=wk at *;obtain⟨z0,fz0,z1,fz1,z2,fz2,z3,fz3,z4,fz4,z5,fz5,z6,fz6,z7,fz7,z8,fz8,z9,fz9,z10,fz10,lz⟩:=HZ3.out.el11;go_wp2_with fail
        go_roundg p
        case measure=>omega
        case rel=>exact⟨xp,rfl,HB2,HOF2,by omega,by omega⟩
    · have hoff:=HOF.out (.neg (by omega));have HOFF:=Lib.hid hoff;clear hoff HOF;have HXr:=Lib.hid (HXj.out.below HB.out HXj.out.lt);obtain⟨x0,fx0,x1,fx1,x2,fx2,x3,fx3,x4,fx4,x5,fx5,lx⟩:=HXr.out.bx6;go_wp2_with fail
      ((with_reducible refine(HSB.out wr tB mb els (HDj.out.below HB.out)).mono ?_);rintro e ws ⟨⟨r,rfl⟩,els',hbxd,hD',hB',hfr⟩)
      have HBs:=Lib.hid ((bfH' HBj HB.out).out.trans hB');have HDs:=Lib.hid hD';have hAr:=HAj.out.below HB.out HAj.out.lt;have h1r:=HT1.out.below HB.out HT1.out.lt;have h2r:=HT2.out.below HB.out HT2.out.lt;have HAs:=Lib.hid (show Blk ws gA 37 _ from (hfr gA hAr.lt (fun i e he=>by have:=HOWN.out i e he;have:=HLA.out;omega)).trans hAr);have HT1s:=Lib.hid (show Blk ws g16 28 _ from (hfr g16 h1r.lt (fun i e he=>by have:=HOWN.out i e he;have:=HGG.out;omega)).trans h1r);have HT2s:=Lib.hid (show Blk ws g17 28 _ from (hfr g17 h2r.lt (fun i e he=>by have:=HOWN.out i e he;have:=HGG2.out;omega)).trans h2r)
      have hfe:findF els' R nm id=findF els R nm id:=by
       rw[← HJ.out];exact findF_off hbxd HDj.out.Par R nm HF0.out (by rw[HP.out];exact HOFF.out)
      have hze:zwR els' id (1,1) (2,1)=zwR els id (1,1) (2,1):=by
       rw[← HJ.out];exact zwR_off hbxd HDj.out.Par _ _ HF0.out (by rw[HP.out];exact HOFF.out)
      have hF:=HFI.out ws HBs.out tB mb els' HDs.out;rw[hfe,HFV.out]at hF;have HF:=Lib.hid hF;have HZE:=Lib.hid (hze.trans HZR.out);clear x0 fx0 x1 fx1 x2 fx2 x3 fx3 x4 fx4 x5 fx5 lx;clear hbxd hD' hB' hfr hAr h1r h2r hfe hze hF HXr HXj HAj HT1 HT2 HB HDj HBj HSB HFI HOWN HLA HLX HGG HGG2 HFV HOFF HF0 HP HJ HZR;obtain⟨e0,fe0,e1,fe1,e2,fe2,e3,fe3,e4,fe4,e5,fe5,e6,fe6,e7,fe7,e8,fe8,e9,fe9,e10,fe10,e11,fe11,e12,fe12,e13,fe13,e14,fe14,le⟩:=HAs.out.many15;go_wp2_with fail
      ((with_reducible refine HF.out.mono ?_);rintro e wt ⟨rfl,hbt⟩)
      have HBt:=bfH' HBs hbt;have HDt:=Lib.hid (HDs.out.below hbt);have HT1t:=Lib.hid (HT1s.out.below hbt HT1s.out.lt);have HT2t:=Lib.hid (HT2s.out.below hbt HT2s.out.lt);clear e0 fe0 e1 fe1 e2 fe2 e3 fe3 e4 fe4 e5 fe5 e6 fe6 e7 fe7 e8 fe8 e9 fe9 e10 fe10 e11 fe11 e12 fe12 e13 fe13 e14 fe14 le;clear hbt HBs HDs HAs HT1s HT2s HF;have hS:=HSZ.out wt tB mb els' HDt.out;rw[HZE.out]at hS;have HS:=Lib.hid (show Calls Tryz.prog 10 #[.pointer (some ⟨tB,0,none⟩),.int .i64 id,.agg #[.int .i64 1,.int .i64 1],.agg #[.int .i64 2,.int .i64 1]] wt fun x w'=>x=.returned (.tuple #[.agg #[.int .i64 wa1,.int .i64 wa2],.agg #[.int .i64 wb1,.int .i64 wb2],.bool sb])∧Below wt.heap.size wt w' from hS);clear hS HZE HSZ;go_wp2_with fail
      ((with_reducible refine HS.out.mono ?_);rintro e wu ⟨rfl,hbu⟩)
      have HBu:=bfH' HBt hbu;have HT1u:=Lib.hid (HT1t.out.below hbu HT1t.out.lt);have HT2u:=Lib.hid (HT2t.out.below hbu HT2t.out.lt);clear hbu HBt HDt HT1t HT2t HS
      go_upto_region 20 with fail
      obtain⟨t1,t2,tb⟩:=two_new wu 28 28 #[.int .i64 wa1,.int .i64 wa2] #[.int .i64 wb1,.int .i64 wb2];have HBv:=bfH' HBu tb;have HT1v:=Lib.hid (HT1u.out.below tb HT1u.out.lt);have HT2v:=Lib.hid (HT2u.out.below tb HT2u.out.lt);obtain⟨g24,hg24⟩:∃ g24,wu.heap.size=g24:=⟨_,rfl⟩;rw[hg24]at t1 t2;simp only[hg24];have HU1:=Lib.hid t1;have HU2:=Lib.hid t2;clear t1 t2 tb hg24 HBu HT1u HT2u;generalize World.alloc _ _=wv at *;generalize g24+1=g25 at *;have p0:wv.cell? ⟨g16,0,none⟩=some (.int .i64 wa1):=HT1v.out.cell 0;have p1:wv.cell? ⟨g16,1,none⟩=some (.int .i64 wa2):=HT1v.out.cell 1;have p2:wv.cell? ⟨g17,0,none⟩=some (.int .i64 wb1):=HT2v.out.cell 0;have p3:wv.cell? ⟨g17,1,none⟩=some (.int .i64 wb2):=HT2v.out.cell 1;have p4:wv.cell? ⟨g24,0,none⟩=some (.int .i64 wa1):=HU1.out.cell 0;have p5:wv.cell? ⟨g24,1,none⟩=some (.int .i64 wa2):=HU1.out.cell 1
      have p6:wv.cell? ⟨g25,0,none⟩=some (.int .i64 wb1):=HU2.out.cell 0;have p7:wv.cell? ⟨g25,1,none⟩=some (.int .i64 wb2):=HU2.out.cell 1;have l1:=HT1v.out.lt;have l2:=HT2v.out.lt;have l3:=HU1.out.lt;have l4:=HU2.out.lt;go_wp2_with fail
      ((with_reducible refine(HAW.out _ HBv.out).mono ?_);rintro e wg ⟨rfl,hbg⟩)
      go_wp2_with fail;go_ret;exact⟨rfl,(bfH' HBv hbg).out⟩
end Go.Proofs.YtnahlfaehelfjaaGreatDoor
