/- Of my texts: DmT, DmY, DmZ, DmN. -/
import Derived.Test.YtnbkbenkhkinoaaGreatDoorM25
import Derived.Test.YtnbkbenkhkinoaaGreatDoorM26
import Derived.Test.YtnbkbenkhkinoaaGreatDoorM38
import Derived.Test.YtnbkbenkhkinoaaGreatDoorM41
namespace Go.Proofs.YtnbkbenkhkinoaaGreatDoor
set_option linter.unusedVariables false
set_option linter.unusedSimpArgs false
open Go.RowKit Go.Maps
theorem four_new (w:World) (t1 t2 t3 t4:TypeId) (a b c d:Array Value):Blk ((((w.alloc (.cells a t1)).alloc (.cells b t2)).alloc (.cells c t3)).alloc (.cells d t4)) w.heap.size t1 a∧Blk ((((w.alloc (.cells a t1)).alloc (.cells b t2)).alloc (.cells c t3)).alloc (.cells d t4)) (w.heap.size+1) t2 b ∧
  Blk ((((w.alloc (.cells a t1)).alloc (.cells b t2)).alloc (.cells c t3)).alloc (.cells d t4)) (w.heap.size+1+1) t3 c∧Blk ((((w.alloc (.cells a t1)).alloc (.cells b t2)).alloc (.cells c t3)).alloc (.cells d t4)) (w.heap.size+1+1+1) t4 d ∧
  Below w.heap.size w ((((w.alloc (.cells a t1)).alloc (.cells b t2)).alloc (.cells c t3)).alloc (.cells d t4)):=by
 obtain⟨h1,l1⟩:=box_new' w t1 a;obtain⟨h2,l2⟩:=box_new' (w.alloc (.cells a t1)) t2 b;obtain⟨h3,l3⟩:=box_new' ((w.alloc (.cells a t1)).alloc (.cells b t2)) t3 c;obtain⟨h4,l4⟩:=box_new' (((w.alloc (.cells a t1)).alloc (.cells b t2)).alloc (.cells c t3)) t4 d
 have s1:(w.alloc (.cells a t1)).heap.size=w.heap.size+1:=by simp
 have s2:((w.alloc (.cells a t1)).alloc (.cells b t2)).heap.size=w.heap.size+1+1:=by simp
 have s3:(((w.alloc (.cells a t1)).alloc (.cells b t2)).alloc (.cells c t3)).heap.size=w.heap.size+1+1+1:=by simp
 have h1':=((h1.below l2 h1.lt).below l3 (h1.below l2 h1.lt).lt).below l4 ((h1.below l2 h1.lt).below l3 (h1.below l2 h1.lt).lt).lt;have h2':=(h2.below l3 h2.lt).below l4 (h2.below l3 h2.lt).lt;have h3':=h3.below l4 h3.lt;rw[s1]at h2';rw[s2]at h3';rw[s3]at h4;exact⟨h1',h2',h3',h4,(bfH' (bfH' (bfH' (Lib.hid l1) l2) l3) l4).out⟩
set_option maxRecDepth 20000 in
theorem sizeRt:(Tryz.prog.info? 28).map (·.size)=some 2:=by kernel_rfl
set_option maxRecDepth 20000 in
theorem load_rt {w:World} {g:Nat} {t:TypeId} {cs:Array Value} (h:Blk w g t cs) (hs:cs.size=2):(loadVar 28 ⟨g,0,none⟩).run Tryz.prog w=.ok (.agg cs) w :=
 run_loadVar_row w g t _ cs (0,0) _ h Tryz.underlying28 rfl (by rw[hs];exact sizeRt)
theorem ret_sz {fn:Func} {p q u:Tmp} {tmps:Array Value} {w:World} {g k:Nat} {t t':TypeId} {cs ds:Array Value} {x:Value} (hr:fn.results=#[.cell p 28,.cell q 28,.tmp u]) (hp:tmps.getD p undef=.pointer (some ⟨g,0,none⟩)) (hq:tmps.getD q undef=.pointer (some ⟨k,0,none⟩)) (hu:tmps.getD u undef=x)
  (h:Blk w g t cs) (hs:cs.size=2) (h':Blk w k t' ds) (hs':ds.size=2):(results fn tmps).run Tryz.prog w=.ok (.tuple #[.agg cs,.agg ds,x]) w:=by
 rw[Array.getD_eq_getD_getElem?]at hp hq hu;simp only[results,hr];simp[Sem.run_bind,Result.andThen,hp,hq,hu,asAddr,load_rt h hs,load_rt h' hs']
structure SzAt (w wr:World) (g8 g9 g11 g12:Nat) (ec:Array Value) (q0 q1:Rt) (b0 b1:Bool):Prop where
 bel:Below w.heap.size w wr
 e:Blk wr g11 57 ec
 q8:Blk wr g8 28 #[.int .i64 q0.1,.int .i64 q0.2]
 q9:Blk wr g9 28 #[.int .i64 q1.1,.int .i64 q1.2]
 fl:Blk wr g12 83 #[.bool b0,.bool b1]
section
variable {w wr w':World} {g8 g9 g11 g12:Nat} {ec:Array Value} {q0 q1:Rt} {b0 b1:Bool}
theorem SzAt.below (h:SzAt w wr g8 g9 g11 g12 ec q0 q1 b0 b1) (hb:Below wr.heap.size wr w'):SzAt w w' g8 g9 g11 g12 ec q0 q1 b0 b1 :=
 ⟨(bfH' (Lib.hid h.bel) hb).out,h.e.below hb h.e.lt,h.q8.below hb h.q8.lt,h.q9.below hb h.q9.lt,h.fl.below hb h.fl.lt⟩
theorem below_put (h:Below w.heap.size w wr) {g:Nat} (hg:wr.grownBy w' (some g)) (hl:w.heap.size≤g):Below w.heap.size w w':=below_far h hg (fun k e=>by obtain rfl:=Option.some.inj e;exact hl)
theorem SzAt.put8 (h:SzAt w wr g8 g9 g11 g12 ec q0 q1 b0 b1) (n d:Int) (hd:g8<g9∧g9<g11∧g11<g12∧w.heap.size≤g8):SzAt w ((wr.setCell ⟨g8,0,none⟩ (.int .i64 n)).setCell ⟨g8,1,none⟩ (.int .i64 d)) g8 g9 g11 g12 ec (n,d) q1 b0 b1:=by
 have hg:=grownBy_puts [.int .i64 n,.int .i64 d] wr g8 0;simp only[puts,Nat.zero_add]at hg;exact⟨below_put h.bel hg hd.2.2.2,h.e.other hg (by omega),((h.q8.put 0 _).put 1 _).to rfl,h.q9.other hg (by omega),h.fl.other hg (by omega)⟩
theorem SzAt.put9 (h:SzAt w wr g8 g9 g11 g12 ec q0 q1 b0 b1) (n d:Int) (hd:g8<g9∧g9<g11∧g11<g12∧w.heap.size≤g8):SzAt w ((wr.setCell ⟨g9,0,none⟩ (.int .i64 n)).setCell ⟨g9,1,none⟩ (.int .i64 d)) g8 g9 g11 g12 ec q0 (n,d) b0 b1:=by
 have hg:=grownBy_puts [.int .i64 n,.int .i64 d] wr g9 0;simp only[puts,Nat.zero_add]at hg;exact⟨below_put h.bel hg (by omega),h.e.other hg (by omega),h.q8.other hg (by omega),((h.q9.put 0 _).put 1 _).to rfl,h.fl.other hg (by omega)⟩
theorem SzAt.flag0 (h:SzAt w wr g8 g9 g11 g12 ec q0 q1 b0 b1) (hd:g8<g9∧g9<g11∧g11<g12∧w.heap.size≤g8):SzAt w (wr.setCell ⟨g12,0,none⟩ (.bool true)) g8 g9 g11 g12 ec q0 q1 true b1:=by
 have hg:=grownBy_set wr ⟨g12,0,none⟩ (.bool true);exact⟨below_put h.bel hg (by show w.heap.size≤g12;omega),h.e.other hg (by show g11≠g12;omega),h.q8.other hg (by show g8≠g12;omega),h.q9.other hg (by show g9≠g12;omega),(h.fl.put 0 _).to rfl⟩
theorem SzAt.flag1 (h:SzAt w wr g8 g9 g11 g12 ec q0 q1 b0 b1) (hd:g8<g9∧g9<g11∧g11<g12∧w.heap.size≤g8):SzAt w (wr.setCell ⟨g12,1,none⟩ (.bool true)) g8 g9 g11 g12 ec q0 q1 b0 true:=by
 have hg:=grownBy_set wr ⟨g12,1,none⟩ (.bool true);exact⟨below_put h.bel hg (by show w.heap.size≤g12;omega),h.e.other hg (by show g11≠g12;omega),h.q8.other hg (by show g8≠g12;omega),h.q9.other hg (by show g9≠g12;omega),(h.fl.put 1 _).to rfl⟩
theorem SzAt.putE (h:SzAt w wr g8 g9 g11 g12 ec q0 q1 b0 b1) {ec':Array Value} (hg:wr.grownBy w' (some g11)) (he:Blk w' g11 57 ec') (hd:g8<g9∧g9<g11∧g11<g12∧w.heap.size≤g8):SzAt w w' g8 g9 g11 g12 ec' q0 q1 b0 b1 :=
 ⟨below_put h.bel hg (by omega),he,h.q8.other hg (by omega),h.q9.other hg (by omega),h.fl.other hg (by omega)⟩
end
def zwT (r:(Rt×Rt)×Bool):Value:=.tuple #[rv r.1.1,rv r.1.2,.bool r.2]
theorem zw_t (k:Int) (x:Bx) (n v:Rt):zwS true k x=true∧zwV true k x n v=v:=⟨rfl,by simp[zwV]⟩
theorem zw_n {k:Int} {x:Bx} (h:decide (k≤x.type)=false) (n v:Rt):zwS false k x=false∧zwV false k x n v=v:=⟨by unfold zwS;rw[h];rfl,by unfold zwV;rw[h];simp⟩
theorem zw_y {k:Int} {x:Bx} (h:decide (k≤x.type)=true) (n v:Rt):zwS false k x=true∧zwV false k x n v=n:=⟨by unfold zwS;rw[h];rfl,by unfold zwV;rw[h];simp⟩
set_option maxRecDepth 20000 in
set_option maxHeartbeats 4000000 in
theorem sizes_any {w:World} {tB mb B:Nat} {els:List Me} (h:Dm w tB mb B els) (id:Int) (h1:-9223372036854775808≤id) (h2:id≤9223372036854775807) (p1 p2 r1 r2:Int) :
  Calls Tryz.prog 12 #[.pointer (some ⟨tB,0,none⟩),.int .i64 id,.agg #[.int .i64 p1,.int .i64 p2],.agg #[.int .i64 r1,.int .i64 r2]] w fun x w'=>x=.returned (zwT (zwR els id (p1,p2) (r1,r2)))∧Below w.heap.size w w':=by
 have hsm:=h.small;obtain⟨n1,n2,n3,n4,nb⟩:=four_new w 28 28 28 28 #[.int .i64 p1,.int .i64 p2] #[.int .i64 r1,.int .i64 r2] #[.int .i64 0,.int .i64 0] #[.int .i64 0,.int .i64 0];have hD:=h.below nb;obtain⟨FF,hFF⟩:∃ FF,zwR els id (p1,p2) (r1,r2)=FF:=⟨_,rfl⟩;obtain⟨g,hg⟩:∃ g,w.heap.size=g:=⟨_,rfl⟩;rw[hg]at n1 n2 n3 n4;have HB:=Lib.hid nb;have HD:=Lib.hid hD;have HD0:=Lib.hid h;have HN1:=Lib.hid n1;have HN2:=Lib.hid n2;have HN3:=Lib.hid n3;have HN4:=Lib.hid n4;have HFF:=Lib.hid hFF;simp only[hFF];clear n1 n2 n3 n4 nb hD h hFF
 go_enter Tryz.func12,Tryz.ntmps12
 go_upto_region 1 with fail
 try simp only[hg]
 have HG:=Lib.hid hg;clear hg;generalize World.alloc _ _=wa at *
 have l67:g<g+1:=by omega
 have l78:g+1<g+1+1:=by omega
 have l89:g+1+1<g+1+1+1:=by omega
 generalize g+1+1+1=g9 at *;generalize g+1+1=g8 at *;generalize g+1=g7 at *;go_wp2_with fail
 ((with_reducible refine(elem_case HD.out id h1 h2).mono ?_);rintro e wb ⟨⟨ok,i0,pa,tg,a1,m1,c1,bt,bn,wn,wd',hn,hd,rfl,hok,hno⟩,hbb⟩)
 have HBb:=bfH' HB hbb;have HOK:=Lib.hid hok;have HNO:=Lib.hid hno;have HM1:=Lib.hid (HN1.out.below hbb HN1.out.lt);have HM2:=Lib.hid (HN2.out.below hbb HN2.out.lt);have HM3:=Lib.hid (HN3.out.below hbb HN3.out.lt);have HM4:=Lib.hid (HN4.out.below hbb HN4.out.lt);clear hbb hok hno HB HN1 HN2 HN3 HN4
 go_upto_region 4 with fail
 obtain⟨hz1,hzb⟩:=box_new' wb 57 #[.int .i64 i0,.int .i64 pa,.string ⟨tg.toArray⟩,.slice a1 m1 c1,.slice none 0 0,.int .i64 bt,.string ⟨bn.toArray⟩,.int .i64 wn,.int .i64 wd',.int .i64 hn,.int .i64 hd];have HBc:=bfH' HBb hzb;have HK1:=Lib.hid (HM1.out.below hzb HM1.out.lt);have HK2:=Lib.hid (HM2.out.below hzb HM2.out.lt);have HK3:=Lib.hid (HM3.out.below hzb HM3.out.lt);have HK4:=Lib.hid (HM4.out.below hzb HM4.out.lt);have hgm:g9<wb.heap.size:=HM4.out.lt;obtain⟨g11,hg11⟩:∃ g11,wb.heap.size=g11:=⟨_,rfl⟩;rw[hg11]at hz1 hgm;simp only[hg11];have HZ:=Lib.hid hz1;clear hz1 hzb hg11 HBb HM1 HM2 HM3 HM4;generalize World.alloc wb _=wc at *
 cases ok with
 | false =>
   have hff:=HFF.out;have hno:=HNO.out rfl
   rw [show zwR els id (p1,p2) (r1,r2)=(((0,0),(0,0)),false) by
    unfold zwR
    by_cases h0:0≤id
    · rw[if_pos h0,List.getElem?_eq_none (by omega)]
    · rw[if_neg h0]]at hff
   subst hff;clear HFF hno HOK HNO;have x0:wc.cell? ⟨g8,0,none⟩=some (.int .i64 0):=(HK3.out).cell 0;have fx0:=(HK3.out).frozen 0;have x1:wc.cell? ⟨g8,1,none⟩=some (.int .i64 0):=(HK3.out).cell 1;have fx1:=(HK3.out).frozen 1;have lx:=(HK3.out).lt;have y0:wc.cell? ⟨g9,0,none⟩=some (.int .i64 0):=(HK4.out).cell 0;have fy0:=(HK4.out).frozen 0;have y1:wc.cell? ⟨g9,1,none⟩=some (.int .i64 0):=(HK4.out).cell 1;have fy1:=(HK4.out).frozen 1;have ly:=(HK4.out).lt;go_wp2_with fail;have hq8:=grownBy_puts [.int .i64 0,.int .i64 0] wc g8 0;have hq9:=grownBy_puts [.int .i64 0,.int .i64 0] ((wc.setCell ⟨g8,0,none⟩ (.int .i64 0)).setCell ⟨g8,1,none⟩ (.int .i64 0)) g9 0;simp only[puts,Nat.zero_add]at hq8 hq9;have hf8:Blk _ g8 28 #[.int .i64 0,.int .i64 0]:=(((HK3.out.put 0 (.int .i64 0)).put 1 (.int .i64 0)).to rfl).other hq9 (by omega)
   have hf9:Blk _ g9 28 #[.int .i64 0,.int .i64 0]:=(((HK4.out.other hq8 (by omega)).put 0 (.int .i64 0)).put 1 (.int .i64 0)).to rfl;refine bodyPost_ret (v:=.tuple #[.agg #[.int .i64 0,.int .i64 0],.agg #[.int .i64 0,.int .i64 0],.bool false]) ?_ rfl ⟨rfl,?_⟩
   · exact ret_sz Tryz.results12 rfl rfl rfl hf8 rfl hf9 rfl
   · exact below_put (below_put HBc.out hq8 (by have:=HG.out;omega)) hq9 (by have:=HG.out;omega)
 | true =>
   obtain⟨j,f,hj,-,hf,hp,-⟩:=HOK.out rfl;have hff:=HFF.out
   rw [show zwR els id (p1,p2) (r1,r2)=(zwG els pa false (p1,p2) false (r1,r2),true) by
    unfold zwR;rw[if_pos (by omega),← hj,Int.toNat_natCast,hf];simp only
    rw[hp]]at hff
   have HGG:=Lib.hid hff;clear HFF HOK HNO hff;have d1:wc.cell? ⟨g,0,none⟩=some (.int .i64 p1):=HK1.out.cell 0;have d2:wc.cell? ⟨g,1,none⟩=some (.int .i64 p2):=HK1.out.cell 1;have d3:wc.cell? ⟨g7,0,none⟩=some (.int .i64 r1):=HK2.out.cell 0;have d4:wc.cell? ⟨g7,1,none⟩=some (.int .i64 r2):=HK2.out.cell 1;have c1:=HK1.out.lt;have c2:=HK2.out.lt;have x0:wc.cell? ⟨g8,0,none⟩=some (.int .i64 0):=(HK3.out).cell 0;have fx0:=(HK3.out).frozen 0;have x1:wc.cell? ⟨g8,1,none⟩=some (.int .i64 0):=(HK3.out).cell 1;have fx1:=(HK3.out).frozen 1;have lx:=(HK3.out).lt;have y0:wc.cell? ⟨g9,0,none⟩=some (.int .i64 0):=(HK4.out).cell 0;have fy0:=(HK4.out).frozen 0;have y1:wc.cell? ⟨g9,1,none⟩=some (.int .i64 0):=(HK4.out).cell 1;have fy1:=(HK4.out).frozen 1;have ly:=(HK4.out).lt
   have u1:g≠g8:=by omega
   have u2:g≠g9:=by omega
   have u3:g7≠g8:=by omega
   have u4:g7≠g9:=by omega
   have u5:g8≠g9:=by omega
   have v1:g8≠g:=by omega
   have v2:g9≠g:=by omega
   have v3:g8≠g7:=by omega
   have v4:g9≠g7:=by omega
   have v5:g9≠g8:=by omega
   go_upto_region 6 with fail
   go_region_held3 (fun wx=>wx.cell? ⟨g,0,none⟩=some (.int .i64 p1)∧wx.cell? ⟨g,1,none⟩=some (.int .i64 p2)∧wx.cell? ⟨g7,0,none⟩=some (.int .i64 r1)∧wx.cell? ⟨g7,1,none⟩=some (.int .i64 r2)) (go_keep) (fail)
   have hq8:=grownBy_puts [.int .i64 p1,.int .i64 p2] wc g8 0;have hq9:=grownBy_puts [.int .i64 r1,.int .i64 r2] ((wc.setCell ⟨g8,0,none⟩ (.int .i64 p1)).setCell ⟨g8,1,none⟩ (.int .i64 p2)) g9 0;simp only[puts,Nat.zero_add]at hq8 hq9;have hf8:Blk _ g8 28 #[.int .i64 p1,.int .i64 p2]:=(((HK3.out.put 0 (.int .i64 p1)).put 1 (.int .i64 p2)).to rfl).other hq9 u5;have hf9:Blk _ g9 28 #[.int .i64 r1,.int .i64 r2]:=(((HK4.out.other hq8 v5).put 0 (.int .i64 r1)).put 1 (.int .i64 r2)).to rfl;have hfe:=(HZ.out.other hq8 (by omega)).other hq9 (by omega);have hfb:=below_put (below_put HBc.out hq8 (by have:=HG.out;omega)) hq9 (by have:=HG.out;omega);clear hq8 hq9 d1 d2 d3 d4 c1 c2 x0 fx0 x1 fx1 lx y0 fy0 y1 fy1 ly;have HF8:=Lib.hid hf8.drewn;have HF9:=Lib.hid hf9.drewn;have HFE:=Lib.hid hfe.drewn;have HFB:=Lib.hid hfb.drew;clear hf8 hf9 hfe hfb HZ HK1 HK2 HK3 HK4 HBc;generalize World.drew _=wd1 at *
   go_upto_region 8 with fail
   obtain⟨hz1,hzb⟩:=box_new' wd1 83 #[.bool false,.bool false];have hlt12:g11<wd1.heap.size:=HFE.out.lt;obtain⟨g12,hg12⟩:∃ g12,wd1.heap.size=g12:=⟨_,rfl⟩;rw[hg12]at hz1 hlt12;simp only[hg12];have hSz:SzAt w _ g8 g9 g11 g12 _ (p1,p2) (r1,r2) false false:=⟨(bfH' HFB hzb).out,HFE.out.below hzb HFE.out.lt,HF8.out.below hzb HF8.out.lt,HF9.out.below hzb HF9.out.lt,hz1⟩;have HS:=Lib.hid hSz;clear hz1 hzb hg12 hSz HFB HFE HF8 HF9;generalize World.alloc wd1 _=we at *
   have hpa:pa<(els.length:Int):=by
    have:=(List.getElem?_eq_some_iff.1 hf).1
    rcases HD.out.par j f hf with ⟨-,h3⟩ | ⟨-,-,h3⟩<;>rw[hp]at h3<;>omega
   have hdd:g8<g9∧g9<g11∧g11<g12∧w.heap.size≤g8:=⟨l89,hgm,hlt12,by have:=HG.out;omega⟩;have HDD:=Lib.hid hdd;clear hj hf hp hdd u1 u2 u3 u4 v1 v2 v3 v4
   have v6:g8≠g11:=by omega
   have v7:g8≠g12:=by omega
   have v8:g9≠g11:=by omega
   have v9:g9≠g12:=by omega
   have va:g11≠g12:=by omega
   go_loopg [] els.length (fun q wr=>∃ (i0 pa:Int) (tg:List UInt8) (a1:Option Addr) (m1 c1:Nat) (bt:Int) (bn:List UInt8) (wn wd hn hd:Int) (q0 q1:Rt) (b0 b1:Bool),Hid (SzAt w wr g8 g9 g11 g12 #[.int .i64 i0,.int .i64 pa,.string ⟨tg.toArray⟩,.slice a1 m1 c1,.slice none 0 0,.int .i64 bt,.string ⟨bn.toArray⟩,.int .i64 wn,.int .i64 wd,.int .i64 hn,.int .i64 hd] q0 q1 b0 b1)∧Hid ((zwG els pa b0 q0 b1 q1,true)=FF)∧pa<(els.length:Int)∧pa+1≤(q:Int))
   case atStart=>exact⟨i0,pa,tg,a1,m1,c1,bt,bn,wn,wd',hn,hd,(p1,p2),(r1,r2),false,false,HS,HGG,hpa,by omega⟩
   case round =>
    clear HS HGG hpa;obtain⟨i,pa,tg,a1,m1,c1,bt,bn,wn,wd,hn,hd,⟨qa,qb⟩,⟨qc,qd⟩,b0,b1,HS,HGG,hpl,hq⟩:=hrel;obtain⟨z0,fz0,z1,fz1,z2,fz2,z3,fz3,z4,fz4,z5,fz5,z6,fz6,z7,fz7,z8,fz8,z9,fz9,z10,fz10,lz⟩:=HS.out.e.el11
    by_cases hp0:0≤pa
    · obtain⟨p,rfl⟩:∃ i:Nat,pa=(i:Int):=⟨pa.toNat,by omega⟩
      have hpl2:p<els.length:=by omega
      obtain⟨x,hx⟩:∃ x,els[p]?=some x:=⟨_,List.getElem?_eq_getElem hpl2⟩;obtain⟨xp,xt,⟨xbt,xbn,⟨xwn,xwd⟩,⟨xhn,xhd⟩⟩,xg,xks⟩:=x;have HEC:=Lib.hid (elem_some (HD0.out.below HS.out.bel) hx)
      have hxp:xp<(p:Int):=by
       rcases HD.out.par p _ hx with ⟨h0,h3⟩ | ⟨h0,h2,h3⟩<;>simp only at h3<;>omega
      have hgg:=HGG.out;rw[zwG_step HD.out.Par hx]at hgg;have HGG:=Lib.hid (show (zwG els xp (zwS b0 1 ⟨xbt,xbn,(xwn,xwd),(xhn,xhd)⟩) (zwV b0 1 ⟨xbt,xbn,(xwn,xwd),(xhn,xhd)⟩ (xwn,xwd) (qa,qb)) (zwS b1 2 ⟨xbt,xbn,(xwn,xwd),(xhn,xhd)⟩) (zwV b1 2 ⟨xbt,xbn,(xwn,xwd),(xhn,xhd)⟩ (xhn,xhd) (qc,qd)),true)=FF from hgg);clear hx hgg;go_wp2_with fail
      ((with_reducible refine HEC.out.mono ?_);rintro e wf ⟨⟨a1',n1',c1',rfl⟩,hbe⟩)
      have HS1:=Lib.hid (HS.out.below hbe);clear z0 fz0 z1 fz1 z2 fz2 z3 fz3 z4 fz4 z5 fz5 z6 fz6 z7 fz7 z8 fz8 z9 fz9 z10 fz10 lz HS hbe HEC;obtain⟨z0,fz0,z1,fz1,z2,fz2,z3,fz3,z4,fz4,z5,fz5,z6,fz6,z7,fz7,z8,fz8,z9,fz9,z10,fz10,lz⟩:=HS1.out.e.el11
      go_upto_region 10 with fail
      have hz:=blk_putsM [] [.int .i64 (p:Int),.int .i64 xp,.string ⟨xt.toArray⟩,.slice a1' n1' c1',.slice none 0 0,.int .i64 xbt,.string ⟨xbn.toArray⟩,.int .i64 xwn,.int .i64 xwd,.int .i64 xhn,.int .i64 xhd] [.int .i64 i,.int .i64 (p:Int),.string ⟨tg.toArray⟩,.slice a1 m1 c1,.slice none 0 0,.int .i64 bt,.string ⟨bn.toArray⟩,.int .i64 wn,.int .i64 wd,.int .i64 hn,.int .i64 hd] wf 0 [] HS1.out.e rfl rfl;have hgz:=grownBy_puts [.int .i64 (p:Int),.int .i64 xp,.string ⟨xt.toArray⟩,.slice a1' n1' c1',.slice none 0 0,.int .i64 xbt,.string ⟨xbn.toArray⟩,.int .i64 xwn,.int .i64 xwd,.int .i64 xhn,.int .i64 xhd] wf g11 0;simp only[puts,Nat.zero_add,Nat.reduceAdd]at hz hgz;have HS2:=Lib.hid (HS1.out.putE hgz hz HDD.out);clear z0 fz0 z1 fz1 z2 fz2 z3 fz3 z4 fz4 z5 fz5 z6 fz6 z7 fz7 z8 fz8 z9 fz9 z10 fz10 lz;clear hz hgz HS1;generalize World.setCell _ _ _=wk at *
      have x0:wk.cell? ⟨g8,0,none⟩=some (.int .i64 qa):=(HS2.out.q8).cell 0;have fx0:=(HS2.out.q8).frozen 0;have x1:wk.cell? ⟨g8,1,none⟩=some (.int .i64 qb):=(HS2.out.q8).cell 1;have fx1:=(HS2.out.q8).frozen 1;have lx:=(HS2.out.q8).lt;have y0:wk.cell? ⟨g9,0,none⟩=some (.int .i64 qc):=(HS2.out.q9).cell 0;have fy0:=(HS2.out.q9).frozen 0;have y1:wk.cell? ⟨g9,1,none⟩=some (.int .i64 qd):=(HS2.out.q9).cell 1;have fy1:=(HS2.out.q9).frozen 1;have ly:=(HS2.out.q9).lt;have f0:wk.cell? ⟨g12,0,none⟩=some (.bool b0):=(HS2.out.fl).cell 0;have ff0:=(HS2.out.fl).frozen 0;have f1:wk.cell? ⟨g12,1,none⟩=some (.bool b1):=(HS2.out.fl).cell 1;have ff1:=(HS2.out.fl).frozen 1;have lf:=(HS2.out.fl).lt;obtain⟨z0,fz0,z1,fz1,z2,fz2,z3,fz3,z4,fz4,z5,fz5,z6,fz6,z7,fz7,z8,fz8,z9,fz9,z10,fz10,lz⟩:=HS2.out.e.el11
      cases b0 with
      | true =>
        have hgg:=HGG.out;rw[(zw_t 1 ⟨xbt,xbn,(xwn,xwd),(xhn,xhd)⟩ (xwn,xwd) (qa,qb)).1,(zw_t 1 ⟨xbt,xbn,(xwn,xwd),(xhn,xhd)⟩ (xwn,xwd) (qa,qb)).2]at hgg;have HGG:=Lib.hid hgg;clear hgg
        go_upto_region 12 with fail
        clear x0 fx0 x1 fx1 lx y0 fy0 y1 fy1 ly f0 ff0 f1 ff1 lf;clear z0 fz0 z1 fz1 z2 fz2 z3 fz3 z4 fz4 z5 fz5 z6 fz6 z7 fz7 z8 fz8 z9 fz9 z10 fz10 lz;have x0:wk.cell? ⟨g8,0,none⟩=some (.int .i64 qa):=(HS2.out.q8).cell 0;have fx0:=(HS2.out.q8).frozen 0;have x1:wk.cell? ⟨g8,1,none⟩=some (.int .i64 qb):=(HS2.out.q8).cell 1;have fx1:=(HS2.out.q8).frozen 1;have lx:=(HS2.out.q8).lt;have y0:wk.cell? ⟨g9,0,none⟩=some (.int .i64 qc):=(HS2.out.q9).cell 0;have fy0:=(HS2.out.q9).frozen 0;have y1:wk.cell? ⟨g9,1,none⟩=some (.int .i64 qd):=(HS2.out.q9).cell 1;have fy1:=(HS2.out.q9).frozen 1;have ly:=(HS2.out.q9).lt;have f0:wk.cell? ⟨g12,0,none⟩=some (.bool true):=(HS2.out.fl).cell 0;have ff0:=(HS2.out.fl).frozen 0;have f1:wk.cell? ⟨g12,1,none⟩=some (.bool b1):=(HS2.out.fl).cell 1;have ff1:=(HS2.out.fl).frozen 1;have lf:=(HS2.out.fl).lt
        obtain⟨z0,fz0,z1,fz1,z2,fz2,z3,fz3,z4,fz4,z5,fz5,z6,fz6,z7,fz7,z8,fz8,z9,fz9,z10,fz10,lz⟩:=HS2.out.e.el11
        cases b1 with
        | true =>
          have hgg:=HGG.out;rw[(zw_t 2 ⟨xbt,xbn,(xwn,xwd),(xhn,xhd)⟩ (xhn,xhd) (qc,qd)).1,(zw_t 2 ⟨xbt,xbn,(xwn,xwd),(xhn,xhd)⟩ (xhn,xhd) (qc,qd)).2]at hgg;have HGG:=Lib.hid hgg;clear hgg;go_wp2_with fail
          go_roundg p
          case measure=>omega
          case rel=>exact⟨_,xp,_,_,_,_,_,_,_,_,_,_,(qa,qb),(qc,qd),true,true,HS2,HGG,by omega,by omega⟩
        | false =>
          by_cases kt3:(2:Int)≤xbt
          · have kt4:decide ((2:Int)≤xbt)=true:=by simpa using kt3
            have hgg:=HGG.out;rw[(zw_y (x:=⟨xbt,xbn,(xwn,xwd),(xhn,xhd)⟩) kt4 (xhn,xhd) (qc,qd)).1,(zw_y (x:=⟨xbt,xbn,(xwn,xwd),(xhn,xhd)⟩) kt4 (xhn,xhd) (qc,qd)).2]at hgg;have HGG:=Lib.hid hgg;clear hgg;go_wp2_with fail;have HSe:=Lib.hid ((HS2.out.put9 xhn xhd HDD.out).flag1 HDD.out)
            go_roundg p
            case measure=>omega
            case rel=>exact⟨_,xp,_,_,_,_,_,_,_,_,_,_,(qa,qb),(xhn,xhd),true,true,HSe,HGG,by omega,by omega⟩
          · have kt4:decide ((2:Int)≤xbt)=false:=by simpa using kt3
            have hgg:=HGG.out;rw[(zw_n (x:=⟨xbt,xbn,(xwn,xwd),(xhn,xhd)⟩) kt4 (xhn,xhd) (qc,qd)).1,(zw_n (x:=⟨xbt,xbn,(xwn,xwd),(xhn,xhd)⟩) kt4 (xhn,xhd) (qc,qd)).2]at hgg;have HGG:=Lib.hid hgg;clear hgg;go_wp2_with fail
            go_roundg p
            case measure=>omega
            case rel=>exact⟨_,xp,_,_,_,_,_,_,_,_,_,_,(qa,qb),(qc,qd),true,false,HS2,HGG,by omega,by omega⟩
      | false =>
        by_cases kt:(1:Int)≤xbt
        · have kt2:decide ((1:Int)≤xbt)=true:=by simpa using kt
          have hgg:=HGG.out;rw[(zw_y (x:=⟨xbt,xbn,(xwn,xwd),(xhn,xhd)⟩) kt2 (xwn,xwd) (qa,qb)).1,(zw_y (x:=⟨xbt,xbn,(xwn,xwd),(xhn,xhd)⟩) kt2 (xwn,xwd) (qa,qb)).2]at hgg;have HGG:=Lib.hid hgg;clear hgg
          go_upto_region 12 with fail
          have HS3:=Lib.hid ((HS2.out.put8 xwn xwd HDD.out).flag0 HDD.out);clear x0 fx0 x1 fx1 lx y0 fy0 y1 fy1 ly f0 ff0 f1 ff1 lf;clear z0 fz0 z1 fz1 z2 fz2 z3 fz3 z4 fz4 z5 fz5 z6 fz6 z7 fz7 z8 fz8 z9 fz9 z10 fz10 lz;clear HS2;generalize World.setCell _ _ _=wm at *;have x0:wm.cell? ⟨g8,0,none⟩=some (.int .i64 xwn):=(HS3.out.q8).cell 0;have fx0:=(HS3.out.q8).frozen 0;have x1:wm.cell? ⟨g8,1,none⟩=some (.int .i64 xwd):=(HS3.out.q8).cell 1;have fx1:=(HS3.out.q8).frozen 1;have lx:=(HS3.out.q8).lt;have y0:wm.cell? ⟨g9,0,none⟩=some (.int .i64 qc):=(HS3.out.q9).cell 0;have fy0:=(HS3.out.q9).frozen 0;have y1:wm.cell? ⟨g9,1,none⟩=some (.int .i64 qd):=(HS3.out.q9).cell 1;have fy1:=(HS3.out.q9).frozen 1;have ly:=(HS3.out.q9).lt;have f0:wm.cell? ⟨g12,0,none⟩=some (.bool true):=(HS3.out.fl).cell 0;have ff0:=(HS3.out.fl).frozen 0;have f1:wm.cell? ⟨g12,1,none⟩=some (.bool b1):=(HS3.out.fl).cell 1
          have ff1:=(HS3.out.fl).frozen 1;have lf:=(HS3.out.fl).lt;obtain⟨z0,fz0,z1,fz1,z2,fz2,z3,fz3,z4,fz4,z5,fz5,z6,fz6,z7,fz7,z8,fz8,z9,fz9,z10,fz10,lz⟩:=HS3.out.e.el11
          cases b1 with
          | true =>
            have hgg:=HGG.out;rw[(zw_t 2 ⟨xbt,xbn,(xwn,xwd),(xhn,xhd)⟩ (xhn,xhd) (qc,qd)).1,(zw_t 2 ⟨xbt,xbn,(xwn,xwd),(xhn,xhd)⟩ (xhn,xhd) (qc,qd)).2]at hgg;have HGG:=Lib.hid hgg;clear hgg;go_wp2_with fail
            go_roundg p
            case measure=>omega
            case rel=>exact⟨_,xp,_,_,_,_,_,_,_,_,_,_,(xwn,xwd),(qc,qd),true,true,HS3,HGG,by omega,by omega⟩
          | false =>
            by_cases kt3:(2:Int)≤xbt
            · have kt4:decide ((2:Int)≤xbt)=true:=by simpa using kt3
              have hgg:=HGG.out;rw[(zw_y (x:=⟨xbt,xbn,(xwn,xwd),(xhn,xhd)⟩) kt4 (xhn,xhd) (qc,qd)).1,(zw_y (x:=⟨xbt,xbn,(xwn,xwd),(xhn,xhd)⟩) kt4 (xhn,xhd) (qc,qd)).2]at hgg;have HGG:=Lib.hid hgg;clear hgg;go_wp2_with fail;have HSe:=Lib.hid ((HS3.out.put9 xhn xhd HDD.out).flag1 HDD.out)
              go_roundg p
              case measure=>omega
              case rel=>exact⟨_,xp,_,_,_,_,_,_,_,_,_,_,(xwn,xwd),(xhn,xhd),true,true,HSe,HGG,by omega,by omega⟩
            · have kt4:decide ((2:Int)≤xbt)=false:=by simpa using kt3
              have hgg:=HGG.out;rw[(zw_n (x:=⟨xbt,xbn,(xwn,xwd),(xhn,xhd)⟩) kt4 (xhn,xhd) (qc,qd)).1,(zw_n (x:=⟨xbt,xbn,(xwn,xwd),(xhn,xhd)⟩) kt4 (xhn,xhd) (qc,qd)).2]at hgg;have HGG:=Lib.hid hgg;clear hgg;go_wp2_with fail
              go_roundg p
              case measure=>omega
              case rel=>exact⟨_,xp,_,_,_,_,_,_,_,_,_,_,(xwn,xwd),(qc,qd),true,false,HS3,HGG,by omega,by omega⟩
        · have kt2:decide ((1:Int)≤xbt)=false:=by simpa using kt
          have hgg:=HGG.out;rw[(zw_n (x:=⟨xbt,xbn,(xwn,xwd),(xhn,xhd)⟩) kt2 (xwn,xwd) (qa,qb)).1,(zw_n (x:=⟨xbt,xbn,(xwn,xwd),(xhn,xhd)⟩) kt2 (xwn,xwd) (qa,qb)).2]at hgg;have HGG:=Lib.hid hgg;clear hgg
          go_upto_region 12 with fail
          clear x0 fx0 x1 fx1 lx y0 fy0 y1 fy1 ly f0 ff0 f1 ff1 lf;clear z0 fz0 z1 fz1 z2 fz2 z3 fz3 z4 fz4 z5 fz5 z6 fz6 z7 fz7 z8 fz8 z9 fz9 z10 fz10 lz;have x0:wk.cell? ⟨g8,0,none⟩=some (.int .i64 qa):=(HS2.out.q8).cell 0;have fx0:=(HS2.out.q8).frozen 0;have x1:wk.cell? ⟨g8,1,none⟩=some (.int .i64 qb):=(HS2.out.q8).cell 1;have fx1:=(HS2.out.q8).frozen 1;have lx:=(HS2.out.q8).lt;have y0:wk.cell? ⟨g9,0,none⟩=some (.int .i64 qc):=(HS2.out.q9).cell 0;have fy0:=(HS2.out.q9).frozen 0;have y1:wk.cell? ⟨g9,1,none⟩=some (.int .i64 qd):=(HS2.out.q9).cell 1;have fy1:=(HS2.out.q9).frozen 1;have ly:=(HS2.out.q9).lt;have f0:wk.cell? ⟨g12,0,none⟩=some (.bool false):=(HS2.out.fl).cell 0;have ff0:=(HS2.out.fl).frozen 0;have f1:wk.cell? ⟨g12,1,none⟩=some (.bool b1):=(HS2.out.fl).cell 1;have ff1:=(HS2.out.fl).frozen 1;have lf:=(HS2.out.fl).lt
          obtain⟨z0,fz0,z1,fz1,z2,fz2,z3,fz3,z4,fz4,z5,fz5,z6,fz6,z7,fz7,z8,fz8,z9,fz9,z10,fz10,lz⟩:=HS2.out.e.el11
          cases b1 with
          | true =>
            have hgg:=HGG.out;rw[(zw_t 2 ⟨xbt,xbn,(xwn,xwd),(xhn,xhd)⟩ (xhn,xhd) (qc,qd)).1,(zw_t 2 ⟨xbt,xbn,(xwn,xwd),(xhn,xhd)⟩ (xhn,xhd) (qc,qd)).2]at hgg;have HGG:=Lib.hid hgg;clear hgg;go_wp2_with fail
            go_roundg p
            case measure=>omega
            case rel=>exact⟨_,xp,_,_,_,_,_,_,_,_,_,_,(qa,qb),(qc,qd),false,true,HS2,HGG,by omega,by omega⟩
          | false =>
            by_cases kt3:(2:Int)≤xbt
            · exact absurd kt3 (by omega)
            · have kt4:decide ((2:Int)≤xbt)=false:=by simpa using kt3
              have hgg:=HGG.out;rw[(zw_n (x:=⟨xbt,xbn,(xwn,xwd),(xhn,xhd)⟩) kt4 (xhn,xhd) (qc,qd)).1,(zw_n (x:=⟨xbt,xbn,(xwn,xwd),(xhn,xhd)⟩) kt4 (xhn,xhd) (qc,qd)).2]at hgg;have HGG:=Lib.hid hgg;clear hgg;go_wp2_with fail
              go_roundg p
              case measure=>omega
              case rel=>exact⟨_,xp,_,_,_,_,_,_,_,_,_,_,(qa,qb),(qc,qd),false,false,HS2,HGG,by omega,by omega⟩
    · have hgg:=HGG.out;rw[zwG_neg _ (by omega)]at hgg;subst hgg;clear HGG;have x0:wr.cell? ⟨g8,0,none⟩=some (.int .i64 qa):=(HS.out.q8).cell 0;have fx0:=(HS.out.q8).frozen 0;have x1:wr.cell? ⟨g8,1,none⟩=some (.int .i64 qb):=(HS.out.q8).cell 1;have fx1:=(HS.out.q8).frozen 1;have lx:=(HS.out.q8).lt;have y0:wr.cell? ⟨g9,0,none⟩=some (.int .i64 qc):=(HS.out.q9).cell 0;have fy0:=(HS.out.q9).frozen 0;have y1:wr.cell? ⟨g9,1,none⟩=some (.int .i64 qd):=(HS.out.q9).cell 1;have fy1:=(HS.out.q9).frozen 1;have ly:=(HS.out.q9).lt
      go_upto_region 14 with fail
      go_region_with (fail)
      all_goals
       go_wp2_with fail;have hS:=(HS.out.put8 qa qb HDD.out).put9 qc qd HDD.out;refine bodyPost_ret (v:=.tuple #[.agg #[.int .i64 qa,.int .i64 qb],.agg #[.int .i64 qc,.int .i64 qd],.bool true]) ?_ rfl ⟨rfl,hS.bel.drew⟩;exact ret_sz Tryz.results12 rfl rfl rfl hS.q8.drewn rfl hS.q9.drewn rfl
theorem findF_up (els:List Me) (R:Int) (nm:List UInt8) (id:Int):findF els R nm id=abG els R nm (upE els id):=by
 by_cases h:0≤id∧id<(els.length:Int)
 · obtain⟨i,rfl⟩:∃ i:Nat,id=(i:Int):=⟨id.toNat,by omega⟩;have he:els[i]?=some els[i]:=List.getElem?_eq_getElem (by omega);rw[findF_some he,upE_some he]
 · rw[findF_none (by omega),upE_none h,abG_neg _ _ _ (by decide)]
theorem zwR_up (els:List Me) (id:Int) (a b:Rt):zwR els id a b=if atF els.length id<0 then (((0,0),(0,0)),false) else (zwG els (upE els id) false a false b,true):=by
 by_cases h:0≤id∧id<(els.length:Int)
 · obtain⟨i,rfl⟩:∃ i:Nat,id=(i:Int):=⟨id.toNat,by omega⟩;have he:els[i]?=some els[i]:=List.getElem?_eq_getElem (by omega);unfold zwR atF;rw[if_pos h,if_pos h.1,if_neg (by omega),Int.toNat_natCast,he,upE_some he]
 · unfold zwR atF
   by_cases h0:0≤id
   · rw[if_pos h0,List.getElem?_eq_none (by omega),if_neg h,if_pos (show (-1:Int)<0 by decide)]
   · rw[if_neg h0,if_neg h,if_pos (show (-1:Int)<0 by decide)]
theorem upE_lt {els:List Me} (hp:Par els) (id:Int):upE els id<(els.length:Int):=by
 by_cases h:0≤id∧id<(els.length:Int)
 · obtain⟨i,rfl⟩:∃ i:Nat,id=(i:Int):=⟨id.toNat,by omega⟩;have he:els[i]?=some els[i]:=List.getElem?_eq_getElem (by omega);rw[upE_some he]
   rcases hp i _ he with ⟨-,h3⟩ | ⟨-,-,h3⟩<;>omega
 · rw[upE_none h];omega
set_option maxRecDepth 20000 in
set_option maxHeartbeats 8000000 in
theorem find18_any {w:World} {tR:Nat} {els:List Me} (h:RT w tR els) (hp:Par els) (hsm:els.length≤41) (id:Int) (nm:List UInt8) (hc:Nat) (e:Cd) (hx:CdIn w hc e) (hbk:(leavesC hc e).length≤1048576) :
  Calls Tryz.prog 11 #[.pointer (some ⟨tR,0,none⟩),.int .i64 id,askV nm e] w fun x w'=>x=.returned (findV (findF els (foldN 0 ((leavesN hc e).map keyL)) nm id))∧Below w.heap.size w w':=by
 have hne:=fun wx (hb:Below w.heap.size w wx)=>needsR_any hc e wx (hx.below hc hb) hbk
 obtain⟨R,hR⟩:∃ R,foldN 0 ((leavesN hc e).map keyL)=R:=⟨_,rfl⟩;simp only[hR]at hne ⊢;clear hx hbk hR;obtain⟨c,oa,b,o,cap,kids,⟨lk,lt,nmc,op,⟨k',n,d,u,oa',b',o',cap',kids'⟩,wd,vl,an⟩⟩:=e;simp only[cv_mk,askV_mk]at hne ⊢;obtain⟨K,hK⟩:∃ K,kids.length=K:=⟨_,rfl⟩;obtain⟨K',hK'⟩:∃ K,kids'.length=K:=⟨_,rfl⟩;simp only[hK,hK']at hne ⊢;obtain⟨hbx,hb1⟩:=box_new' w 37 #[.string ⟨nm.toArray⟩,.int .i64 c,.slice oa K cap,.int .i64 lk,.int .i64 lt,.string nmc,.int .i64 op,.int .i64 k',.int .i64 n,.int .i64 d,.int .i64 u,.slice oa' K' cap',.string wd,.string vl,.bool an];obtain⟨g,hg⟩:∃ g,w.heap.size=g:=⟨_,rfl⟩;rw[hg]at hbx;have HNE:=Lib.hid hne;have HB1:=Lib.hid hb1;have HH:=Lib.hid h;have H1:=Lib.hid hbx;have HPar:=Lib.hid hp;have HUP:=Lib.hid (fun wx (hb:Below w.heap.size w wx) (k:Int)=>up8_any (h.below hb) hsm k);have HU0:=Lib.hid (fun wx (hb:Below w.heap.size w wx)=>up8_any (h.below hb) hsm id)
 have HAT:=Lib.hid (fun wx (hb:Below w.heap.size w wx) (k:Int)=>at8_any (h.below hb) hsm k);have hul:=upE_lt hp id;obtain⟨FF,hFF⟩:∃ FF,findF els R nm id=FF:=⟨_,rfl⟩;have hFG:=(findF_up els R nm id).symm.trans hFF;simp only[hFF];generalize upE els id=u0 at *;have HFG:=Lib.hid hFG;clear hne hb1 hK hK' h hbx hFF hFG hp
 go_enter Tryz.func11,Tryz.ntmps11
 go_upto_region 1 with fail
 try simp only[hg]
 have HG:=Lib.hid hg;clear hg;generalize World.alloc w _=wa at *;obtain⟨e0,fe0,e1,fe1,e2,fe2,e3,fe3,e4,fe4,e5,fe5,e6,fe6,e7,fe7,e8,fe8,e9,fe9,e10,fe10,e11,fe11,e12,fe12,e13,fe13,e14,fe14,le⟩:=H1.out.many15;go_wp2_with fail
 ((with_reducible refine(HNE.out _ HB1.out).mono ?_);rintro e wb ⟨rfl,hbb⟩)
 have HB2:=bfH' HB1 hbb;have H2:=Lib.hid (H1.out.below hbb H1.out.lt);clear e0 fe0 e1 fe1 e2 fe2 e3 fe3 e4 fe4 e5 fe5 e6 fe6 e7 fe7 e8 fe8 e9 fe9 e10 fe10 e11 fe11 e12 fe12 e13 fe13 e14 fe14 le HB1 H1 HNE hbb;go_wp2_with fail
 ((with_reducible refine(HU0.out _ HB2.out).mono ?_);rintro e wc ⟨rfl,hbc⟩)
 have HB3:=bfH' HB2 hbc;have H3:=Lib.hid (H2.out.below hbc H2.out.lt);clear HB2 H2 HU0 hbc;go_wp2_with fail
 go_loopg [9] els.length (fun q s9 wr=>∃ p:Int,s9=.int .i64 p∧Hid (Below w.heap.size w wr)∧Hid (Blk wr g 37 #[.string ⟨nm.toArray⟩,.int .i64 c,.slice oa K cap,.int .i64 lk,.int .i64 lt,.string nmc,.int .i64 op,.int .i64 k',.int .i64 n,.int .i64 d,.int .i64 u,.slice oa' K' cap',.string wd,.string vl,.bool an])∧Hid (abG els R nm p=FF)∧p<(els.length:Int)∧p+1≤(q:Int))
 case atStart=>exact⟨u0,rfl,HB3,H3,HFG,hul,by omega⟩
 case round =>
  clear HFG HB3 H3 hul;obtain⟨p,rfl,HB,HA,HFG,hpl,hq⟩:=hrel
  by_cases hp0:0≤p
  · obtain⟨p,rfl⟩:∃ i:Nat,p=(i:Int):=⟨p.toNat,by omega⟩
    have hpl2:p<els.length:=by omega
    have k0:decide ((0:Int)≤(p:Int))=true:=by simp
    obtain⟨⟨xp,xt,⟨xbt,xbn,⟨xwn,xwd⟩,⟨xhn,xhd⟩⟩,xg,xks⟩,hx⟩:∃ e,els[p]?=some e:=⟨_,List.getElem?_eq_getElem hpl2⟩
    have hxp:xp<(p:Int):=by
     rcases HPar.out p _ hx with ⟨h0,h3⟩ | ⟨h0,h2,h3⟩<;>simp only at h3<;>omega
    have hff:=HFG.out;rw[abG_step HPar.out R nm hx]at hff;have HF:=Lib.hid hff
    have hup:=fun wx (hb:Below w.heap.size w wx)=>HUP.out wx hb (p:Int)
    rw[upE_some hx]at hup;have HU:=Lib.hid (show ∀ wx,Below w.heap.size w wx→Calls Tryz.prog 28 #[.pointer (some ⟨tR,0,none⟩),.int .i64 (p:Int)] wx fun x w'=>x=.returned (.int .i64 xp)∧Below wx.heap.size wx w' from hup);clear hff HFG hup
    have hAp:atF els.length (p:Int)=(p:Int):=by unfold atF;rw[if_pos ⟨by omega,by omega⟩]
    have hca:=fun wx (hb:Below w.heap.size w wx)=>HAT.out wx hb (p:Int)
    rw[hAp]at hca;have HCA:=Lib.hid hca;obtain⟨oz,cz,bz,xs,hTz,hsz,hez⟩:=HH.out.below HB.out;obtain⟨rfl,hbl⟩:=hsz.lies (by omega);obtain⟨ka,kn,kc,-,f0,f1,f2,f3,f4,f5,f6,f7,f8,f9,f10⟩:=es_cells hsz hez hpl2 hx;obtain⟨NL,hNL⟩:∃ NL,els.length=NL:=⟨_,rfl⟩;rw[hNL]at hTz
    have gpN:decide (p<NL)=true:=by simp;omega
    have gpI:(p:Int)<(NL:Int):=by omega
    have t0:wr.cell? ⟨tR,0,none⟩=some (.slice (some ⟨bz,0,none⟩) NL cz):=(hTz).cell 0;have ft0:=(hTz).frozen 0;have t1:wr.cell? ⟨tR,1,none⟩=some (.int .i64 (NL:Int)):=(hTz).cell 1;have ft1:=(hTz).frozen 1;have lt:=(hTz).lt;have HX:=Lib.hid hx;have HBr:=HB;have HAr:=HA;clear hca hTz hsz hez hx f0 f1 f2 f3 f4
    go_upto_region 5 with fail
    refine wp_region_loose 11 [Loose.claim 1 23 (.pointer (some ⟨tR,0,none⟩)),Loose.claim 6 28 (.int .i64 (p:Int)),Loose.cells 10 10 55 #[.int .i64 0,.string ⟨#[]⟩,.int .i64 0,.int .i64 0,.int .i64 0,.int .i64 0] wr.heap.size] (by kernel_rfl) rfl (by kernel_rfl) (by kernel_rfl) (by kernel_rfl) (by kernel_rfl) ?_;simp only[headL,hushL,List.find?,Loose.claim_i,Loose.cells_i,Loose.rowL_i,Loose.claim_hush,Loose.cells_hush,Loose.rowL_hush,Nat.reduceBEq,Nat.reduceAdd]
    repeat (go_big_quiet_step (fail))
    refine wpQuiet_nil ⟨fun V m=>?_,fun V m=>?_⟩
    · simp only[obs_cons,obs_nil,List.getElem?_cons_zero,List.getElem?_cons_succ,fill_nil,fill_claim,fill_cells,fill_rowL,Loose.claim_i,Loose.cells_i,Loose.rowL_i,Act.put,List.setIfInBounds_toArray,List.set_cons_zero,List.set_cons_succ];refine⟨fun _=>?_,fun _=>?_,fun _=>?_,trivial⟩
      · go_wp2_with fail;exact post_claim rfl (Below.refl _ _)
      · go_wp2_with fail
        ((with_reducible refine(HCA.out _ (below_grow HB.out m)).mono ?_);rintro e w' ⟨rfl,hbw⟩)
        go_wp2_with fail;exact post_claim rfl hbw
      · go_wp2_with fail;exact post_cells rfl (grow_size m)
    · simp only[laws_nil,laws_claim,laws_cells,laws_rowL,dist_nil,dist_claim,dist_cells,dist_rowL,dist1_nil,dist1_claim,dist1_cells,dist1_rowL,dist1_cells_rowL,dist1_rowL_cells,List.drop_succ_cons,List.drop_zero,and_true,fill_nil,fill_claim,fill_cells,fill_rowL,Loose.claim_i,Loose.cells_i,Loose.rowL_i,Act.put,List.setIfInBounds_toArray,List.set_cons_zero,List.set_cons_succ];rintro⟨gB,hv10,hgB,hbk⟩ _;rw[hv10];have hbq:=below_grow HB.out m;have haq:=HA.out.grow m;clear f5 f6 f7 f8 f9 f10 t0 t1 ft0 ft1 lt hv10 hbl HB HA HCA;generalize grow wr m=wq at *;obtain⟨z0,fz0,z1,fz1,z2,fz2,z3,fz3,z4,fz4,z5,fz5,lz⟩:=hbk.bx6;have hgw:w.heap.size≤wr.heap.size:=HBr.out.size;have hAg:=HAr.out.lt
      go_upto_region 6 with fail
      have hz:=blk_putsM [] [.int .i64 xbt,.string ⟨xbn.toArray⟩,.int .i64 xwn,.int .i64 xwd,.int .i64 xhn,.int .i64 xhd] [.int .i64 0,.string ⟨#[]⟩,.int .i64 0,.int .i64 0,.int .i64 0,.int .i64 0] wq 0 [] hbk rfl rfl;have hgz:=grownBy_puts [.int .i64 xbt,.string ⟨xbn.toArray⟩,.int .i64 xwn,.int .i64 xwd,.int .i64 xhn,.int .i64 xhd] wq gB 0;simp only[puts,Nat.zero_add,Nat.reduceAdd]at hz hgz;have HZ:=Lib.hid hz;have HBk:=Lib.hid (below_far hbq hgz (fun k e=>by obtain rfl:=Option.some.inj e;omega));have HAk:=Lib.hid (show Blk _ g 37 _ from haq.other hgz (by omega));clear z0 fz0 z1 fz1 z2 fz2 z3 fz3 z4 fz4 z5 fz5 lz hz hgz hbk hbq haq;generalize World.setCell _ _ _=wk at *;obtain⟨z0,fz0,z1,fz1,z2,fz2,z3,fz3,z4,fz4,z5,fz5,lz⟩:=HZ.out.bx6;have e0:=HAk.out.cell 0;have le:=HAk.out.lt
      by_cases kt:R≤xbt
      · have kt2:decide (R≤xbt)=true:=by simpa using kt
        have hHit:hitB R nm ⟨xp,xt,⟨xbt,xbn,(xwn,xwd),(xhn,xhd)⟩,xg,xks⟩=(decide (nm=[])||decide (xbn=nm)):=by
         unfold hitB;rw[kt2];rfl
        have hFF:=HF.out;rw[hHit]at hFF;clear hHit HF kt
        by_cases hn0:nm.isEmpty=true
        · rw[if_pos (by rw[List.isEmpty_iff.1 hn0];rfl)]at hFF;subst hFF;go_wp2_with fail;exact bodyPost_ret (v:=.tuple #[.int .i64 (p:Int),.bool true]) (by simp[results,Tryz.results11,go_sem]) rfl ⟨rfl,HBk.out⟩
        · have hn1:nm.isEmpty=false:=by simpa using hn0
          have hn2:nm≠[]:=fun e=>hn0 (by rw[e];rfl)
          have HN2:=Lib.hid hn2;clear hn0 hn2
          by_cases hq1:xbn=nm
          · have hq2:(xbn==nm)=true:=by rw[hq1];exact beq_self_eq_true nm
            rw[if_pos (by simp[hq1])]at hFF;subst hFF;clear hq1;go_wp2_with fail;exact bodyPost_ret (v:=.tuple #[.int .i64 (p:Int),.bool true]) (by simp[results,Tryz.results11,go_sem]) rfl ⟨rfl,HBk.out⟩
          · have hq2:(xbn==nm)=false:=by simpa using hq1
            rw[if_neg (by simp[hq1,HN2.out])]at hFF;have HF2:=Lib.hid hFF;clear hFF hq1;go_wp2_with fail
            ((with_reducible refine(HU.out _ HBk.out).mono ?_);rintro e wl ⟨rfl,hbl⟩)
            go_wp2_with fail
            go_roundg p
            case measure=>omega
            case rel=>exact⟨xp,rfl,bfH' HBk hbl,Lib.hid (HAk.out.below hbl HAk.out.lt),HF2,by omega,by omega⟩
      · have kt2:decide (R≤xbt)=false:=by simpa using kt
        have hFF:=HF.out;rw[show hitB R nm ⟨xp,xt,⟨xbt,xbn,(xwn,xwd),(xhn,xhd)⟩,xg,xks⟩=false by unfold hitB;rw[kt2];rfl,if_neg (by simp)]at hFF;have HF2:=Lib.hid hFF;clear hFF HF;go_wp2_with fail
        ((with_reducible refine(HU.out _ HBk.out).mono ?_);rintro e wl ⟨rfl,hbl⟩)
        go_wp2_with fail
        go_roundg p
        case measure=>omega
        case rel=>exact⟨xp,rfl,bfH' HBk hbl,Lib.hid (HAk.out.below hbl HAk.out.lt),HF2,by omega,by omega⟩
  · have k0:decide ((0:Int)≤p)=false:=by simpa using hp0
    have hff:=HFG.out;rw[abG_neg _ _ _ (by omega)]at hff;subst hff;go_wp2_with fail;exact bodyPost_ret (v:=.tuple #[.int .i64 0,.bool false]) (by simp[results,Tryz.results11,go_sem]) rfl ⟨rfl,HB.out⟩
structure RzAt (w wr:World) (g g7 g8 g9:Nat) (q0 q1:Rt):Prop where
 bel:Below w.heap.size w wr
 q6:Blk wr g 28 #[.int .i64 q0.1,.int .i64 q0.2]
 q7:Blk wr g7 28 #[.int .i64 q1.1,.int .i64 q1.2]
 z8:Blk wr g8 28 #[.int .i64 0,.int .i64 0]
 z9:Blk wr g9 28 #[.int .i64 0,.int .i64 0]
section
variable {w wr w':World} {g g7 g8 g9 gB:Nat} {q0 q1:Rt}
theorem RzAt.below (h:RzAt w wr g g7 g8 g9 q0 q1) (hb:Below wr.heap.size wr w'):RzAt w w' g g7 g8 g9 q0 q1 :=
 ⟨(bfH' (Lib.hid h.bel) hb).out,h.q6.below hb h.q6.lt,h.q7.below hb h.q7.lt,h.z8.below hb h.z8.lt,h.z9.below hb h.z9.lt⟩
theorem RzAt.far (h:RzAt w wr g g7 g8 g9 q0 q1) (hg:wr.grownBy w' (some gB)) (hd:g<g7∧g7<g8∧g8<g9∧w.heap.size≤g) (hB:g9<gB):RzAt w w' g g7 g8 g9 q0 q1 :=
 ⟨below_put h.bel hg (by omega),h.q6.other hg (by omega),h.q7.other hg (by omega),h.z8.other hg (by omega),h.z9.other hg (by omega)⟩
theorem RzAt.put6 (h:RzAt w wr g g7 g8 g9 q0 q1) (n d:Int) (hd:g<g7∧g7<g8∧g8<g9∧w.heap.size≤g):RzAt w ((wr.setCell ⟨g,0,none⟩ (.int .i64 n)).setCell ⟨g,1,none⟩ (.int .i64 d)) g g7 g8 g9 (n,d) q1:=by
 have hg:=grownBy_puts [.int .i64 n,.int .i64 d] wr g 0;simp only[puts,Nat.zero_add]at hg;exact⟨below_put h.bel hg hd.2.2.2,((h.q6.put 0 _).put 1 _).to rfl,h.q7.other hg (by omega),h.z8.other hg (by omega),h.z9.other hg (by omega)⟩
theorem RzAt.put7 (h:RzAt w wr g g7 g8 g9 q0 q1) (n d:Int) (hd:g<g7∧g7<g8∧g8<g9∧w.heap.size≤g):RzAt w ((wr.setCell ⟨g7,0,none⟩ (.int .i64 n)).setCell ⟨g7,1,none⟩ (.int .i64 d)) g g7 g8 g9 q0 (n,d):=by
 have hg:=grownBy_puts [.int .i64 n,.int .i64 d] wr g7 0;simp only[puts,Nat.zero_add]at hg;exact⟨below_put h.bel hg (by omega),h.q6.other hg (by omega),((h.q7.put 0 _).put 1 _).to rfl,h.z8.other hg (by omega),h.z9.other hg (by omega)⟩
end
set_option maxRecDepth 20000 in
set_option maxHeartbeats 8000000 in
theorem sizes18_any {w:World} {tR:Nat} {els:List Me} (h:RT w tR els) (hp:Par els) (hbt:∀ (i:Nat) (e:Me),els[i]?=some e→e.bx.type≤2) (hsm:els.length≤41) (id:Int) (p1 p2 r1 r2:Int) :
  Calls Tryz.prog 13 #[.pointer (some ⟨tR,0,none⟩),.int .i64 id,.agg #[.int .i64 p1,.int .i64 p2],.agg #[.int .i64 r1,.int .i64 r2]] w fun x w'=>x=.returned (zwT (zwR els id (p1,p2) (r1,r2)))∧Below w.heap.size w w':=by
 obtain⟨n1,n2,n3,n4,nb⟩:=four_new w 28 28 28 28 #[.int .i64 p1,.int .i64 p2] #[.int .i64 r1,.int .i64 r2] #[.int .i64 0,.int .i64 0] #[.int .i64 0,.int .i64 0];obtain⟨g,hg⟩:∃ g,w.heap.size=g:=⟨_,rfl⟩;rw[hg]at n1 n2 n3 n4;have HS0:=Lib.hid (show RzAt w _ g (g+1) (g+1+1) (g+1+1+1) (p1,p2) (r1,r2) from ⟨nb,n1,n2,n3,n4⟩);have HH:=Lib.hid h;have HPar:=Lib.hid hp;have HBT:=Lib.hid hbt;have HUP:=Lib.hid (fun wx (hb:Below w.heap.size w wx) (k:Int)=>up8_any (h.below hb) hsm k);have HAT:=Lib.hid (fun wx (hb:Below w.heap.size w wx) (k:Int)=>at8_any (h.below hb) hsm k);have HU0:=Lib.hid (fun wx (hb:Below w.heap.size w wx)=>up8_any (h.below hb) hsm id);have HA0:=Lib.hid (fun wx (hb:Below w.heap.size w wx)=>at8_any (h.below hb) hsm id);have hul:=upE_lt hp id;obtain⟨FF,hFF⟩:∃ FF,zwR els id (p1,p2) (r1,r2)=FF:=⟨_,rfl⟩;have hFG:=(zwR_up els id (p1,p2) (r1,r2)).symm.trans hFF;simp only[hFF]
 generalize upE els id=u0 at *;generalize atF els.length id=a0 at *;have HFG:=Lib.hid hFG;clear n1 n2 n3 n4 nb h hp hbt hFF hFG
 go_enter Tryz.func13,Tryz.ntmps13
 go_upto_region 1 with fail
 try simp only[hg]
 have HG:=Lib.hid hg;clear hg;generalize World.alloc _ _=wa at *
 have l67:g<g+1:=by omega
 have l78:g+1<g+1+1:=by omega
 have l89:g+1+1<g+1+1+1:=by omega
 generalize g+1+1+1=g9 at *;generalize g+1+1=g8 at *;generalize g+1=g7 at *;have HDD:=Lib.hid (show g<g7∧g7<g8∧g8<g9∧w.heap.size≤g from ⟨l67,l78,l89,by have:=HG.out;omega⟩);go_wp2_with fail
 ((with_reducible refine(HA0.out _ HS0.out.bel).mono ?_);rintro e wb ⟨rfl,hbb⟩)
 have HSb:=Lib.hid (HS0.out.below hbb);clear hbb HS0 HA0
 by_cases ha:a0<0
 · have k1:decide (a0<(0:Int))=true:=by simpa using ha
   have hff:=HFG.out;rw[if_pos ha]at hff;subst hff;clear ha;have x0:wb.cell? ⟨g8,0,none⟩=some (.int .i64 0):=(HSb.out.z8).cell 0;have fx0:=(HSb.out.z8).frozen 0;have x1:wb.cell? ⟨g8,1,none⟩=some (.int .i64 0):=(HSb.out.z8).cell 1;have fx1:=(HSb.out.z8).frozen 1;have lx:=(HSb.out.z8).lt;have y0:wb.cell? ⟨g9,0,none⟩=some (.int .i64 0):=(HSb.out.z9).cell 0;have fy0:=(HSb.out.z9).frozen 0;have y1:wb.cell? ⟨g9,1,none⟩=some (.int .i64 0):=(HSb.out.z9).cell 1;have fy1:=(HSb.out.z9).frozen 1;have ly:=(HSb.out.z9).lt;go_wp2_with fail;have hq8:=grownBy_puts [.int .i64 0,.int .i64 0] wb g8 0;have hq9:=grownBy_puts [.int .i64 0,.int .i64 0] ((wb.setCell ⟨g8,0,none⟩ (.int .i64 0)).setCell ⟨g8,1,none⟩ (.int .i64 0)) g9 0;simp only[puts,Nat.zero_add]at hq8 hq9;have hf8:Blk _ g8 28 #[.int .i64 0,.int .i64 0]:=(((HSb.out.z8.put 0 (.int .i64 0)).put 1 (.int .i64 0)).to rfl).other hq9 (by omega)
   have hf9:Blk _ g9 28 #[.int .i64 0,.int .i64 0]:=(((HSb.out.z9.other hq8 (by omega)).put 0 (.int .i64 0)).put 1 (.int .i64 0)).to rfl;refine bodyPost_ret (v:=.tuple #[.agg #[.int .i64 0,.int .i64 0],.agg #[.int .i64 0,.int .i64 0],.bool false]) ?_ rfl ⟨rfl,?_⟩
   · exact ret_sz Tryz.results13 rfl rfl rfl hf8 rfl hf9 rfl
   · exact below_put (below_put HSb.out.bel hq8 (by have:=HG.out;omega)) hq9 (by have:=HG.out;omega)
 · have k1:decide (a0<(0:Int))=false:=by simpa using ha
   have hff:=HFG.out;rw[if_neg ha]at hff;have HGG:=Lib.hid hff;clear ha hff HFG;go_wp2_with fail
   ((with_reducible refine(HU0.out _ HSb.out.bel).mono ?_);rintro e wc ⟨rfl,hbc⟩)
   have HSc:=Lib.hid (HSb.out.below hbc);clear hbc HSb HU0 k1;go_wp2_with fail
   go_loopg [11,12,13] els.length (fun q s11 s12 s13 wr=>∃ (b0 b1:Bool) (p:Int) (q0 q1:Rt),s11=.bool b0∧s12=.bool b1∧s13=.int .i64 p∧Hid (RzAt w wr g g7 g8 g9 q0 q1)∧Hid ((zwG els p b0 q0 b1 q1,true)=FF)∧p<(els.length:Int)∧p+1≤(q:Int))
   case atStart=>exact⟨false,false,u0,(p1,p2),(r1,r2),rfl,rfl,rfl,HSc,HGG,hul,by omega⟩
   case round =>
    clear HGG HSc hul;obtain⟨b0,b1,p,⟨qa,qb⟩,⟨qc,qd⟩,rfl,rfl,rfl,HS,HGG,hpl,hq⟩:=hrel
    by_cases hp0:0≤p
    · obtain⟨p,rfl⟩:∃ i:Nat,p=(i:Int):=⟨p.toNat,by omega⟩
      have hpl2:p<els.length:=by omega
      have k0:decide ((0:Int)≤(p:Int))=true:=by simp
      obtain⟨⟨xp,xt,⟨xbt,xbn,⟨xwn,xwd⟩,⟨xhn,xhd⟩⟩,xg,xks⟩,hx⟩:∃ e,els[p]?=some e:=⟨_,List.getElem?_eq_getElem hpl2⟩
      have hxp:xp<(p:Int):=by
       rcases HPar.out p _ hx with ⟨h0,h3⟩ | ⟨h0,h2,h3⟩<;>simp only at h3<;>omega
      have htp:xbt≤2:=HBT.out p _ hx;have hgg:=HGG.out;rw[zwG_step HPar.out hx]at hgg;have HG1:=Lib.hid (show (zwG els xp (zwS b0 1 ⟨xbt,xbn,(xwn,xwd),(xhn,xhd)⟩) (zwV b0 1 ⟨xbt,xbn,(xwn,xwd),(xhn,xhd)⟩ (xwn,xwd) (qa,qb)) (zwS b1 2 ⟨xbt,xbn,(xwn,xwd),(xhn,xhd)⟩) (zwV b1 2 ⟨xbt,xbn,(xwn,xwd),(xhn,xhd)⟩ (xhn,xhd) (qc,qd)),true)=FF from hgg)
      have hup:=fun wx (hb:Below w.heap.size w wx)=>HUP.out wx hb (p:Int)
      rw[upE_some hx]at hup;have HU:=Lib.hid (show ∀ wx,Below w.heap.size w wx→Calls Tryz.prog 28 #[.pointer (some ⟨tR,0,none⟩),.int .i64 (p:Int)] wx fun x w'=>x=.returned (.int .i64 xp)∧Below wx.heap.size wx w' from hup);have HB:=Lib.hid HS.out.bel;clear hgg HGG hup
      have hAp:atF els.length (p:Int)=(p:Int):=by unfold atF;rw[if_pos ⟨by omega,by omega⟩]
      have hca:=fun wx (hb:Below w.heap.size w wx)=>HAT.out wx hb (p:Int)
      rw[hAp]at hca;have HCA:=Lib.hid hca;obtain⟨oz,cz,bz,xs,hTz,hsz,hez⟩:=HH.out.below HB.out;obtain⟨rfl,hbl⟩:=hsz.lies (by omega);obtain⟨ka,kn,kc,-,f0,f1,f2,f3,f4,f5,f6,f7,f8,f9,f10⟩:=es_cells hsz hez hpl2 hx;obtain⟨NL,hNL⟩:∃ NL,els.length=NL:=⟨_,rfl⟩;rw[hNL]at hTz
      have gpN:decide (p<NL)=true:=by simp;omega
      have gpI:(p:Int)<(NL:Int):=by omega
      have t0:wr.cell? ⟨tR,0,none⟩=some (.slice (some ⟨bz,0,none⟩) NL cz):=(hTz).cell 0;have ft0:=(hTz).frozen 0;have t1:wr.cell? ⟨tR,1,none⟩=some (.int .i64 (NL:Int)):=(hTz).cell 1;have ft1:=(hTz).frozen 1;have lt:=(hTz).lt;clear hca hTz hsz hez hx f0 f1 f2 f3 f4
      go_upto_region 7 with fail
      refine wp_region_loose 11 [Loose.claim 1 30 (.pointer (some ⟨tR,0,none⟩)),Loose.claim 6 35 (.int .i64 (p:Int)),Loose.cells 10 14 55 #[.int .i64 0,.string ⟨#[]⟩,.int .i64 0,.int .i64 0,.int .i64 0,.int .i64 0] wr.heap.size] (by kernel_rfl) rfl (by kernel_rfl) (by kernel_rfl) (by kernel_rfl) (by kernel_rfl) ?_;simp only[headL,hushL,List.find?,Loose.claim_i,Loose.cells_i,Loose.rowL_i,Loose.claim_hush,Loose.cells_hush,Loose.rowL_hush,Nat.reduceBEq,Nat.reduceAdd]
      repeat (go_big_quiet_step (fail))
      refine wpQuiet_nil ⟨fun V m=>?_,fun V m=>?_⟩
      · simp only[obs_cons,obs_nil,List.getElem?_cons_zero,List.getElem?_cons_succ,fill_nil,fill_claim,fill_cells,fill_rowL,Loose.claim_i,Loose.cells_i,Loose.rowL_i,Act.put,List.setIfInBounds_toArray,List.set_cons_zero,List.set_cons_succ];refine⟨fun _=>?_,fun _=>?_,fun _=>?_,trivial⟩
        · go_wp2_with fail;exact post_claim rfl (Below.refl _ _)
        · go_wp2_with fail
          ((with_reducible refine(HCA.out _ (below_grow HB.out m)).mono ?_);rintro e w' ⟨rfl,hbw⟩)
          go_wp2_with fail;exact post_claim rfl hbw
        · go_wp2_with fail;exact post_cells rfl (grow_size m)
      · simp only[laws_nil,laws_claim,laws_cells,laws_rowL,dist_nil,dist_claim,dist_cells,dist_rowL,dist1_nil,dist1_claim,dist1_cells,dist1_rowL,dist1_cells_rowL,dist1_rowL_cells,List.drop_succ_cons,List.drop_zero,and_true,fill_nil,fill_claim,fill_cells,fill_rowL,Loose.claim_i,Loose.cells_i,Loose.rowL_i,Act.put,List.setIfInBounds_toArray,List.set_cons_zero,List.set_cons_succ];rintro⟨gB,hv10,hgB,hbk⟩ _;rw[hv10];have HS2:=Lib.hid (HS.out.below (grow_below m));have hg9B:g9<gB:=Nat.lt_of_lt_of_le HS.out.z9.lt hgB;clear f5 f6 f7 f8 f9 f10 t0 t1 ft0 ft1 lt hv10 hbl HB HS HCA hgB;generalize grow wr m=wq at *;obtain⟨z0,fz0,z1,fz1,z2,fz2,z3,fz3,z4,fz4,z5,fz5,lz⟩:=hbk.bx6
        go_upto_region 8 with fail
        have hz:=blk_putsM [] [.int .i64 xbt,.string ⟨xbn.toArray⟩,.int .i64 xwn,.int .i64 xwd,.int .i64 xhn,.int .i64 xhd] [.int .i64 0,.string ⟨#[]⟩,.int .i64 0,.int .i64 0,.int .i64 0,.int .i64 0] wq 0 [] hbk rfl rfl;have hgz:=grownBy_puts [.int .i64 xbt,.string ⟨xbn.toArray⟩,.int .i64 xwn,.int .i64 xwd,.int .i64 xhn,.int .i64 xhd] wq gB 0;simp only[puts,Nat.zero_add,Nat.reduceAdd]at hz hgz;have HZ:=Lib.hid hz;have HSk:=Lib.hid (HS2.out.far hgz HDD.out hg9B);clear z0 fz0 z1 fz1 z2 fz2 z3 fz3 z4 fz4 z5 fz5 lz hz hgz hbk HS2;generalize World.setCell _ _ _=wk at *;obtain⟨z0,fz0,z1,fz1,z2,fz2,z3,fz3,z4,fz4,z5,fz5,lz⟩:=HZ.out.bx6;have x0:wk.cell? ⟨g,0,none⟩=some (.int .i64 qa):=(HSk.out.q6).cell 0;have fx0:=(HSk.out.q6).frozen 0;have x1:wk.cell? ⟨g,1,none⟩=some (.int .i64 qb):=(HSk.out.q6).cell 1;have fx1:=(HSk.out.q6).frozen 1;have lx:=(HSk.out.q6).lt
        have y0:wk.cell? ⟨g7,0,none⟩=some (.int .i64 qc):=(HSk.out.q7).cell 0;have fy0:=(HSk.out.q7).frozen 0;have y1:wk.cell? ⟨g7,1,none⟩=some (.int .i64 qd):=(HSk.out.q7).cell 1;have fy1:=(HSk.out.q7).frozen 1;have ly:=(HSk.out.q7).lt
        have u1:g≠gB:=by omega
        have u2:gB≠g:=by omega
        have u3:g7≠gB:=by omega
        have u4:gB≠g7:=by omega
        have u5:g≠g7:=by omega
        have u6:g7≠g:=by omega
        have ways:xbt<1∨xbt=1∨xbt=2:=by omega
        rcases ways with t|t|t
        all_goals
         first|have k1:decide ((1:Int)≤xbt)=true:=(by simp;omega) | have k1:decide ((1:Int)≤xbt)=false:=(by simp;omega)
         first|have k2:(xbt==2)=true:=(by simp;omega) | have k2:(xbt==2)=false:=(by simp;omega)
         first|have k3:decide ((2:Int)≤xbt)=true:=(by simp;omega) | have k3:decide ((2:Int)≤xbt)=false:=(by simp;omega)
         clear t
         cases b0<;>cases b1
        all_goals
         have hgg:=HG1.out
         first|rw[(zw_t 1 ⟨xbt,xbn,(xwn,xwd),(xhn,xhd)⟩ (xwn,xwd) (qa,qb)).1,(zw_t 1 ⟨xbt,xbn,(xwn,xwd),(xhn,xhd)⟩ (xwn,xwd) (qa,qb)).2]at hgg|rw[(zw_y (x:=⟨xbt,xbn,(xwn,xwd),(xhn,xhd)⟩) k1 (xwn,xwd) (qa,qb)).1,(zw_y (x:=⟨xbt,xbn,(xwn,xwd),(xhn,xhd)⟩) k1 (xwn,xwd) (qa,qb)).2]at hgg|rw[(zw_n (x:=⟨xbt,xbn,(xwn,xwd),(xhn,xhd)⟩) k1 (xwn,xwd) (qa,qb)).1,(zw_n (x:=⟨xbt,xbn,(xwn,xwd),(xhn,xhd)⟩) k1 (xwn,xwd) (qa,qb)).2]at hgg
         first|rw[(zw_t 2 ⟨xbt,xbn,(xwn,xwd),(xhn,xhd)⟩ (xhn,xhd) (qc,qd)).1,(zw_t 2 ⟨xbt,xbn,(xwn,xwd),(xhn,xhd)⟩ (xhn,xhd) (qc,qd)).2]at hgg|rw[(zw_y (x:=⟨xbt,xbn,(xwn,xwd),(xhn,xhd)⟩) k3 (xhn,xhd) (qc,qd)).1,(zw_y (x:=⟨xbt,xbn,(xwn,xwd),(xhn,xhd)⟩) k3 (xhn,xhd) (qc,qd)).2]at hgg|rw[(zw_n (x:=⟨xbt,xbn,(xwn,xwd),(xhn,xhd)⟩) k3 (xhn,xhd) (qc,qd)).1,(zw_n (x:=⟨xbt,xbn,(xwn,xwd),(xhn,xhd)⟩) k3 (xhn,xhd) (qc,qd)).2]at hgg
         have HG2:=Lib.hid hgg;clear hgg k3 HG1;go_wp2_with fail
         first
          | ((with_reducible refine(HU.out _ HSk.out.bel).mono ?_);rintro e wl ⟨rfl,hbl⟩;have HE:=Lib.hid (HSk.out.below hbl))
          | ((with_reducible refine(HU.out _ (HSk.out.put6 xwn xwd HDD.out).bel).mono ?_);rintro e wl ⟨rfl,hbl⟩;have HE:=Lib.hid ((HSk.out.put6 xwn xwd HDD.out).below hbl))
          | ((with_reducible refine(HU.out _ (HSk.out.put7 xhn xhd HDD.out).bel).mono ?_);rintro e wl ⟨rfl,hbl⟩;have HE:=Lib.hid ((HSk.out.put7 xhn xhd HDD.out).below hbl))
          | ((with_reducible refine(HU.out _ ((HSk.out.put6 xwn xwd HDD.out).put7 xhn xhd HDD.out).bel).mono ?_);rintro e wl ⟨rfl,hbl⟩;have HE:=Lib.hid (((HSk.out.put6 xwn xwd HDD.out).put7 xhn xhd HDD.out).below hbl))
         go_wp2_with fail
         go_roundg p
         case measure=>omega
         case rel=>exact⟨_,_,xp,(_,_),(_,_),rfl,rfl,rfl,HE,HG2,by omega,by omega⟩
    · have k0:decide ((0:Int)≤p)=false:=by simpa using hp0
      have hgg:=HGG.out;rw[zwG_neg _ (by omega)]at hgg;subst hgg;have d1:wr.cell? ⟨g,0,none⟩=some (.int .i64 qa):=HS.out.q6.cell 0;have d2:wr.cell? ⟨g,1,none⟩=some (.int .i64 qb):=HS.out.q6.cell 1;have d3:wr.cell? ⟨g7,0,none⟩=some (.int .i64 qc):=HS.out.q7.cell 0;have d4:wr.cell? ⟨g7,1,none⟩=some (.int .i64 qd):=HS.out.q7.cell 1;have c1:=HS.out.q6.lt;have c2:=HS.out.q7.lt;have x0:wr.cell? ⟨g8,0,none⟩=some (.int .i64 0):=(HS.out.z8).cell 0;have fx0:=(HS.out.z8).frozen 0;have x1:wr.cell? ⟨g8,1,none⟩=some (.int .i64 0):=(HS.out.z8).cell 1;have fx1:=(HS.out.z8).frozen 1;have lx:=(HS.out.z8).lt;have y0:wr.cell? ⟨g9,0,none⟩=some (.int .i64 0):=(HS.out.z9).cell 0;have fy0:=(HS.out.z9).frozen 0;have y1:wr.cell? ⟨g9,1,none⟩=some (.int .i64 0):=(HS.out.z9).cell 1;have fy1:=(HS.out.z9).frozen 1;have ly:=(HS.out.z9).lt
      have u1:g≠g8:=by omega
      have u2:g≠g9:=by omega
      have u3:g7≠g8:=by omega
      have u4:g7≠g9:=by omega
      have u5:g8≠g9:=by omega
      have v1:g8≠g:=by omega
      have v2:g9≠g:=by omega
      have v3:g8≠g7:=by omega
      have v4:g9≠g7:=by omega
      have v5:g9≠g8:=by omega
      go_upto_region 12 with fail
      go_region_held3 (fun wx=>wx.cell? ⟨g,0,none⟩=some (.int .i64 qa)∧wx.cell? ⟨g,1,none⟩=some (.int .i64 qb)∧wx.cell? ⟨g7,0,none⟩=some (.int .i64 qc)∧wx.cell? ⟨g7,1,none⟩=some (.int .i64 qd)) (go_keep) (fail)
      have hq8:=grownBy_puts [.int .i64 qa,.int .i64 qb] wr g8 0;have hq9:=grownBy_puts [.int .i64 qc,.int .i64 qd] ((wr.setCell ⟨g8,0,none⟩ (.int .i64 qa)).setCell ⟨g8,1,none⟩ (.int .i64 qb)) g9 0;simp only[puts,Nat.zero_add]at hq8 hq9;have hf8:Blk _ g8 28 #[.int .i64 qa,.int .i64 qb]:=(((HS.out.z8.put 0 (.int .i64 qa)).put 1 (.int .i64 qb)).to rfl).other hq9 u5;have hf9:Blk _ g9 28 #[.int .i64 qc,.int .i64 qd]:=(((HS.out.z9.other hq8 v5).put 0 (.int .i64 qc)).put 1 (.int .i64 qd)).to rfl;have hfb:=below_put (below_put HS.out.bel hq8 (by have:=HG.out;omega)) hq9 (by have:=HG.out;omega);go_wp2_with fail;refine bodyPost_ret (v:=.tuple #[.agg #[.int .i64 qa,.int .i64 qb],.agg #[.int .i64 qc,.int .i64 qd],.bool true]) ?_ rfl ⟨rfl,hfb.drew⟩;exact ret_sz Tryz.results13 rfl rfl rfl hf8.drewn rfl hf9.drewn rfl
theorem lenT_any {w:World} {tB mb B:Nat} {els:List Me} (h:Dm w tB mb B els):Calls Tryz.prog 9 #[.pointer (some ⟨tB,0,none⟩)] w fun x w'=>x=.returned (.int .i64 (els.length:Int))∧Below w.heap.size w w':=by
 obtain⟨D,hD,hm⟩:=h.map
 have hSZ:Maps.size D=els.length:=by rw[hD.size,List.length_map]
 have t0:w.cell? ⟨tB,0,none⟩=some (.map (some mb)):=(h.tree).cell 0;have ft0:=(h.tree).frozen 0;have t1:w.cell? ⟨tB,1,none⟩=some (.int .i64 0):=(h.tree).cell 1;have ft1:=(h.tree).frozen 1;have t2:w.cell? ⟨tB,2,none⟩=some (.int .i64 (els.length:Int)):=(h.tree).cell 2;have ft2:=(h.tree).frozen 2;have lt:=(h.tree).lt;have hb:=Lib.hid (Below.refl w.heap.size w);clear hD h
 go_enter Tryz.func9,Tryz.ntmps9
 go_wp2_with (at_len;refine wpList_len_own _ rfl _ 75 rfl 3 76 Tryz.underlying75 ptrE mb els.length D rfl hm ?_;rw[hSZ]);go_ret;exact⟨rfl,hb.out⟩
theorem nextT_any {w:World} {tB mb B:Nat} {els:List Me} (h:Dm w tB mb B els):Calls Tryz.prog 8 #[.pointer (some ⟨tB,0,none⟩)] w fun x w'=>x=.returned (.int .i64 (els.length:Int))∧Below w.heap.size w w':=by
 have t0:w.cell? ⟨tB,0,none⟩=some (.map (some mb)):=(h.tree).cell 0;have ft0:=(h.tree).frozen 0;have t1:w.cell? ⟨tB,1,none⟩=some (.int .i64 0):=(h.tree).cell 1;have ft1:=(h.tree).frozen 1;have t2:w.cell? ⟨tB,2,none⟩=some (.int .i64 (els.length:Int)):=(h.tree).cell 2;have ft2:=(h.tree).frozen 2;have lt:=(h.tree).lt;have hb:=Lib.hid (Below.refl w.heap.size w);clear h
 go_enter Tryz.func8,Tryz.ntmps8
 go_wp2_with fail;go_ret;exact⟨rfl,hb.out⟩
theorem two_newR (w:World) (t1 t2:TypeId) (a b:Array Value):Blk ((w.alloc (.cells a t1)).alloc (.cells b t2)) w.heap.size t1 a∧Blk ((w.alloc (.cells a t1)).alloc (.cells b t2)) (w.heap.size+1) t2 b∧Below w.heap.size w ((w.alloc (.cells a t1)).alloc (.cells b t2)):=by
 obtain⟨h1,l1⟩:=box_new' w t1 a;obtain⟨h2,l2⟩:=box_new' (w.alloc (.cells a t1)) t2 b
 have s1:(w.alloc (.cells a t1)).heap.size=w.heap.size+1:=by simp
 have h1':=h1.below l2 h1.lt;rw[s1]at h2;exact⟨h1',h2,(bfH' (Lib.hid l1) l2).out⟩
structure Both (wz:World) (tB tR N gA gP gQ:Nat) (A:Array Value) (p1 p2 r1 r2:Int):Prop where
 len:∀ wx,Below wz.heap.size wz wx→Calls Tryz.prog 9 #[.pointer (some ⟨tB,0,none⟩)] wx fun x w'=>x=.returned (.int .i64 (N:Int))∧Below wx.heap.size wx w'
 find:∀ id:Int,-1≤id→id≤100→∃ (fk:Int) (fb:Bool),(∀ wx,Below wz.heap.size wz wx→Calls Tryz.prog 10 #[.pointer (some ⟨tB,0,none⟩),.int .i64 id,.agg A] wx fun x w'=>x=.returned (.tuple #[.int .i64 fk,.bool fb])∧Below wx.heap.size wx w') ∧
  ∀ wx,Below wz.heap.size wz wx→Calls Tryz.prog 11 #[.pointer (some ⟨tR,0,none⟩),.int .i64 id,.agg A] wx fun x w'=>x=.returned (.tuple #[.int .i64 fk,.bool fb])∧Below wx.heap.size wx w'
 sizes:∀ id:Int,-1≤id→id≤100→∃ (x1 x2 y1 y2:Int) (sb:Bool),(∀ wx,Below wz.heap.size wz wx→Calls Tryz.prog 12 #[.pointer (some ⟨tB,0,none⟩),.int .i64 id,.agg #[.int .i64 p1,.int .i64 p2],.agg #[.int .i64 r1,.int .i64 r2]] wx fun x w'=>x=.returned (.tuple #[.agg #[.int .i64 x1,.int .i64 x2],.agg #[.int .i64 y1,.int .i64 y2],.bool sb])∧Below wx.heap.size wx w') ∧
  ∀ wx,Below wz.heap.size wz wx→Calls Tryz.prog 13 #[.pointer (some ⟨tR,0,none⟩),.int .i64 id,.agg #[.int .i64 p1,.int .i64 p2],.agg #[.int .i64 r1,.int .i64 r2]] wx fun x w'=>x=.returned (.tuple #[.agg #[.int .i64 x1,.int .i64 x2],.agg #[.int .i64 y1,.int .i64 y2],.bool sb])∧Below wx.heap.size wx w'
 a:Blk wz gA 37 A
 p:Blk wz gP 28 #[.int .i64 p1,.int .i64 p2]
 q:Blk wz gQ 28 #[.int .i64 r1,.int .i64 r2]
set_option maxRecDepth 20000 in
set_option maxHeartbeats 16000000 in
theorem law_containFinds (uo:Option Addr) (uc ub uf:Nat) (U:List Int) (bo:Option Addr) (bc bb bf:Nat) (L:List Bx) (nm:List UInt8) (hc:Nat) (e:Cd) (p1 p2 r1 r2:Int) (w:World) (hU:Ints w uo U.length uc ub uf U) (hL:BxIn w bo bc bb bf L)
  (hx:CdIn w hc e) (hK:Kd w) (hbk:(leavesC hc e).length≤1048576) :
  Calls Tryz.prog 3 #[.agg #[.slice uo U.length uc,.slice bo L.length bc],askV nm e,.agg #[.int .i64 p1,.int .i64 p2],.agg #[.int .i64 r1,.int .i64 r2]] w fun x w'=>x=.returned (.bool true)∧Below w.heap.size w w':=by
 have haw:=fun wx (hb:Below w.heap.size w wx)=>awake19_any wx (hK.below hb)
 have hro:=fun wx (hb:Below w.heap.size w wx)=>rooms_any uo uc ub uf U bo bc bb bf L wx (hU.below hb) (hL.below hb)
 have hbo:=fun(wz:World) (hb:Below w.heap.size w wz) tB mb els tR gA gP gQ A (hD:Dm wz tB mb w.heap.size els) (hT:RT wz tR els) (ha:Blk wz gA 37 A) (hA:askV nm e=.agg A) (hp:Blk wz gP 28 #[.int .i64 p1,.int .i64 p2]) (hq:Blk wz gQ 28 #[.int .i64 r1,.int .i64 r2]) =>
  (⟨fun wx hz=>lenT_any (hD.below hz),fun id h1 h2=>by
    obtain⟨fk,fb,hfv,-,-⟩:=findV_mk (findF els (foldN 0 ((leavesN hc e).map keyL)) nm id);refine⟨fk,fb,fun wx hz=>?_,fun wx hz=>?_⟩
    · have:=find_any (hD.below hz) id (by omega) (by omega) nm hc e (hx.below hc (bfH' (Lib.hid hb) hz).out) hbk;rw[hfv,hA]at this;exact this
    · have:=find18_any (hT.below hz) hD.Par hD.small id nm hc e (hx.below hc (bfH' (Lib.hid hb) hz).out) hbk;rw[hfv,hA]at this
      exact this,fun id h1 h2=>by
    obtain⟨⟨⟨⟨x1,x2⟩,⟨y1,y2⟩⟩,sb⟩,hzr⟩:∃ r,zwR els id (p1,p2) (r1,r2)=r:=⟨_,rfl⟩;refine⟨x1,x2,y1,y2,sb,fun wx hz=>?_,fun wx hz=>?_⟩
    · have:=sizes_any (hD.below hz) id (by omega) (by omega) p1 p2 r1 r2;rw[hzr]at this;exact this
    · have:=sizes18_any (hT.below hz) hD.Par (fun i f hf=>(hD.el i f hf).2.2.1.2) hD.small id p1 p2 r1 r2;rw[hzr]at this
      exact this,ha,hp,hq⟩:Both wz tB tR els.length gA gP gQ A p1 p2 r1 r2)
 clear hx hbk hU hL hK;obtain⟨c,oa,b,o,cap,kids,⟨lk,lt,nmc,op,⟨k',n,d,u,oa',b',o',cap',kids'⟩,wd,vl,an⟩⟩:=e;simp only[askV_mk]at hbo ⊢;obtain⟨K,hK⟩:∃ K,kids.length=K:=⟨_,rfl⟩;obtain⟨K',hK'⟩:∃ K,kids'.length=K:=⟨_,rfl⟩;obtain⟨ul,hul⟩:∃ K,U.length=K:=⟨_,rfl⟩;obtain⟨ll,hll⟩:∃ K,L.length=K:=⟨_,rfl⟩;simp only[hK,hK',hul,hll]at hbo hro ⊢;obtain⟨n1,n2,n3,n4,nb⟩:=four_new w 25 37 28 28 #[.slice uo ul uc,.slice bo ll bc] #[.string ⟨nm.toArray⟩,.int .i64 c,.slice oa K cap,.int .i64 lk,.int .i64 lt,.string nmc,.int .i64 op,.int .i64 k',.int .i64 n,.int .i64 d,.int .i64 u,.slice oa' K' cap',.string wd,.string vl,.bool an] #[.int .i64 p1,.int .i64 p2] #[.int .i64 r1,.int .i64 r2];obtain⟨g,hg⟩:∃ g,w.heap.size=g:=⟨_,rfl⟩;rw[hg]at n1 n2 n3 n4;have HBO:=Lib.hid hbo;have HAW:=Lib.hid haw;have HRO:=Lib.hid hro;have HB1:=Lib.hid nb;have HR:=Lib.hid n1;have HA:=Lib.hid n2;have HP:=Lib.hid n3
 have HQ:=Lib.hid n4;clear hbo haw hro hK hK' hul hll n1 n2 n3 n4 nb
 go_enter Tryz.func3,Tryz.ntmps3
 go_upto_region 1 with fail
 try simp only[hg]
 have HG:=Lib.hid hg;clear hg;generalize World.alloc _ _=wa at *;generalize g+1+1+1=gQ at *;generalize g+1+1=gP at *;generalize g+1=gA at *;have c0:wa.cell? ⟨g,0,none⟩=some (.slice uo ul uc):=HR.out.cell 0;have c1:wa.cell? ⟨g,1,none⟩=some (.slice bo ll bc):=HR.out.cell 1;have lx:=HR.out.lt;go_wp2_with fail
 ((with_reducible refine(HRO.out _ HB1.out).mono ?_);rintro e wb ⟨⟨tB,mb,els,rfl,hD⟩,hbb⟩)
 have HBb:=bfH' HB1 hbb;have HDb:=Lib.hid (hD.lower HB1.out.size);have HAb:=Lib.hid (HA.out.below hbb HA.out.lt);have HPb:=Lib.hid (HP.out.below hbb HP.out.lt);have HQb:=Lib.hid (HQ.out.below hbb HQ.out.lt);clear c0 c1 lx hD hbb HB1 HA HR HP HQ HRO;go_wp2_with fail
 ((with_reducible refine(elems_any HDb.out).mono ?_);rintro e wc ⟨⟨eo,ec,eb,xs,rfl,hsl,hes⟩,hbc⟩)
 have HBc:=bfH' HBb hbc;have HDc:=Lib.hid (HDb.out.below hbc);have HAc:=Lib.hid (HAb.out.below hbc HAb.out.lt);have HPc:=Lib.hid (HPb.out.below hbc HPb.out.lt);have HQc:=Lib.hid (HQb.out.below hbc HQb.out.lt);have HSL:=Lib.hid hsl;have HES:=Lib.hid hes;clear hsl hes hbc HBb HDb HAb HPb HQb;go_wp2_with fail
 ((with_reducible refine(nextT_any HDc.out).mono ?_);rintro e wd1 ⟨rfl,hbd⟩)
 have HBd:=bfH' HBc hbd;have HDd:=Lib.hid (HDc.out.below hbd);have HAd:=Lib.hid (HAc.out.below hbd HAc.out.lt);have HPd:=Lib.hid (HPc.out.below hbd HPc.out.lt);have HQd:=Lib.hid (HQc.out.below hbd HQc.out.lt);have HLO:=Lib.hid (load10_any (HSL.out.below hbd) (HES.out.mono fun a m c h=>h.below hbd) HDd.out.small);clear hbd HBc HDc HAc HPc HQc HSL HES;go_wp2_with fail
 ((with_reducible refine HLO.out.mono ?_);rintro e wz ⟨⟨tR,rfl,hT⟩,hbz⟩)
 have HBz:=bfH' HBd hbz;have hBO:=HBO.out wz HBz.out tB mb els tR gA gP gQ _ (HDd.out.below hbz) hT (HAd.out.below hbz HAd.out.lt) rfl (HPd.out.below hbz HPd.out.lt) (HQd.out.below hbz HQd.out.lt);have hsm:=HDd.out.small;obtain⟨N,hN⟩:∃ N,els.length=N:=⟨_,rfl⟩;rw[hN]at hBO hsm;have H:=Lib.hid hBO;clear hBO hT hbz hN HBd HDd HAd HPd HQd HLO HBO;have HB0:=Lib.hid (Below.refl wz.heap.size wz);go_wp2_with fail
 go_loopg [11] (N+2) (fun q s11 wr=>∃ id:Int,s11=.int .i64 id∧Hid (Below wz.heap.size wz wr)∧-1≤id∧id≤(N:Int)+1∧(N:Int)+1-id≤(q:Int))
 case atStart=>exact⟨-1,rfl,HB0,by omega,by omega,by omega⟩
 case round =>
  clear HB0;obtain⟨id,rfl,HB,hi1,hi2,hq⟩:=hrel;go_wp2_with fail
  ((with_reducible refine(H.out.len _ HB.out).mono ?_);rintro e w1 ⟨rfl,hb1⟩)
  have HB1:=bfH' HB hb1;clear hb1 HB
  by_cases hle:id≤(N:Int)
  · have k1:decide (id≤(N:Int))=true:=by simpa using hle
    obtain⟨fk,fb,hf1,hf2⟩:=H.out.find id hi1 (by omega);obtain⟨x1,x2,y1,y2,sb,hs1,hs2⟩:=H.out.sizes id hi1 (by omega);have HF1:=Lib.hid hf1;have HF2:=Lib.hid hf2;have HS1:=Lib.hid hs1;have HS2:=Lib.hid hs2;clear hf1 hf2 hs1 hs2;obtain⟨e0,fe0,e1,fe1,e2,fe2,e3,fe3,e4,fe4,e5,fe5,e6,fe6,e7,fe7,e8,fe8,e9,fe9,e10,fe10,e11,fe11,e12,fe12,e13,fe13,e14,fe14,le⟩:=(H.out.a.below HB1.out H.out.a.lt).many15;go_wp2_with fail
    ((with_reducible refine(HF1.out _ HB1.out).mono ?_);rintro e w2 ⟨rfl,hb2⟩)
    have HB2:=bfH' HB1 hb2;clear e0 fe0 e1 fe1 e2 fe2 e3 fe3 e4 fe4 e5 fe5 e6 fe6 e7 fe7 e8 fe8 e9 fe9 e10 fe10 e11 fe11 e12 fe12 e13 fe13 e14 fe14 le hb2 HB1 HF1;obtain⟨e0,fe0,e1,fe1,e2,fe2,e3,fe3,e4,fe4,e5,fe5,e6,fe6,e7,fe7,e8,fe8,e9,fe9,e10,fe10,e11,fe11,e12,fe12,e13,fe13,e14,fe14,le⟩:=(H.out.a.below HB2.out H.out.a.lt).many15;go_wp2_with fail
    ((with_reducible refine(HF2.out _ HB2.out).mono ?_);rintro e w3 ⟨rfl,hb3⟩)
    have HB3:=bfH' HB2 hb3;clear e0 fe0 e1 fe1 e2 fe2 e3 fe3 e4 fe4 e5 fe5 e6 fe6 e7 fe7 e8 fe8 e9 fe9 e10 fe10 e11 fe11 e12 fe12 e13 fe13 e14 fe14 le hb3 HB2 HF2;have X0:w3.cell? ⟨gP,0,none⟩=some (.int .i64 p1):=((H.out.p.below HB3.out H.out.p.lt)).cell 0;have fX0:=((H.out.p.below HB3.out H.out.p.lt)).frozen 0;have X1:w3.cell? ⟨gP,1,none⟩=some (.int .i64 p2):=((H.out.p.below HB3.out H.out.p.lt)).cell 1;have fX1:=((H.out.p.below HB3.out H.out.p.lt)).frozen 1;have lX:=((H.out.p.below HB3.out H.out.p.lt)).lt;have Y0:w3.cell? ⟨gQ,0,none⟩=some (.int .i64 r1):=((H.out.q.below HB3.out H.out.q.lt)).cell 0;have fY0:=((H.out.q.below HB3.out H.out.q.lt)).frozen 0;have Y1:w3.cell? ⟨gQ,1,none⟩=some (.int .i64 r2):=((H.out.q.below HB3.out H.out.q.lt)).cell 1;have fY1:=((H.out.q.below HB3.out H.out.q.lt)).frozen 1;have lY:=((H.out.q.below HB3.out H.out.q.lt)).lt;go_wp2_with fail
    ((with_reducible refine(HS1.out _ HB3.out).mono ?_);rintro e w4 ⟨rfl,hb4⟩)
    have HB4:=bfH' HB3 hb4;clear X0 fX0 X1 fX1 lX Y0 fY0 Y1 fY1 lY hb4 HB3 HS1
    go_upto_region 11 with fail
    obtain⟨t1,t2,tb⟩:=two_newR w4 28 28 #[.int .i64 x1,.int .i64 x2] #[.int .i64 y1,.int .i64 y2];have HB5:=bfH' HB4 tb;obtain⟨g16,hg16⟩:∃ g16,w4.heap.size=g16:=⟨_,rfl⟩;rw[hg16]at t1 t2;simp only[hg16];have HT1:=Lib.hid t1;have HT2:=Lib.hid t2;clear t1 t2 tb hg16 HB4;generalize World.alloc _ _=w5 at *;generalize g16+1=g17 at *;have X0:w5.cell? ⟨gP,0,none⟩=some (.int .i64 p1):=((H.out.p.below HB5.out H.out.p.lt)).cell 0;have fX0:=((H.out.p.below HB5.out H.out.p.lt)).frozen 0;have X1:w5.cell? ⟨gP,1,none⟩=some (.int .i64 p2):=((H.out.p.below HB5.out H.out.p.lt)).cell 1;have fX1:=((H.out.p.below HB5.out H.out.p.lt)).frozen 1;have lX:=((H.out.p.below HB5.out H.out.p.lt)).lt;have Y0:w5.cell? ⟨gQ,0,none⟩=some (.int .i64 r1):=((H.out.q.below HB5.out H.out.q.lt)).cell 0;have fY0:=((H.out.q.below HB5.out H.out.q.lt)).frozen 0
    have Y1:w5.cell? ⟨gQ,1,none⟩=some (.int .i64 r2):=((H.out.q.below HB5.out H.out.q.lt)).cell 1;have fY1:=((H.out.q.below HB5.out H.out.q.lt)).frozen 1;have lY:=((H.out.q.below HB5.out H.out.q.lt)).lt;go_wp2_with fail
    ((with_reducible refine(HS2.out _ HB5.out).mono ?_);rintro e w6 ⟨rfl,hb6⟩)
    have HB6:=bfH' HB5 hb6;have HU1:=Lib.hid (HT1.out.below hb6 HT1.out.lt);have HU2:=Lib.hid (HT2.out.below hb6 HT2.out.lt);clear X0 fX0 X1 fX1 lX Y0 fY0 Y1 fY1 lY hb6 HB5 HS2 HT1 HT2
    go_upto_region 12 with fail
    obtain⟨t1,t2,tb⟩:=two_newR w6 28 28 #[.int .i64 x1,.int .i64 x2] #[.int .i64 y1,.int .i64 y2];have HB7:=bfH' HB6 tb;have HV1:=Lib.hid (HU1.out.below tb HU1.out.lt);have HV2:=Lib.hid (HU2.out.below tb HU2.out.lt);obtain⟨g19,hg19⟩:∃ g19,w6.heap.size=g19:=⟨_,rfl⟩;rw[hg19]at t1 t2;simp only[hg19];have HT1:=Lib.hid t1;have HT2:=Lib.hid t2;clear t1 t2 tb hg19 HB6 HU1 HU2;generalize World.alloc _ _=w7 at *;generalize g19+1=g20 at *;have X0:w7.cell? ⟨g16,0,none⟩=some (.int .i64 x1):=(HV1.out).cell 0;have fX0:=(HV1.out).frozen 0;have X1:w7.cell? ⟨g16,1,none⟩=some (.int .i64 x2):=(HV1.out).cell 1;have fX1:=(HV1.out).frozen 1;have lX:=(HV1.out).lt;have Y0:w7.cell? ⟨g17,0,none⟩=some (.int .i64 y1):=(HV2.out).cell 0;have fY0:=(HV2.out).frozen 0;have Y1:w7.cell? ⟨g17,1,none⟩=some (.int .i64 y2):=(HV2.out).cell 1;have fY1:=(HV2.out).frozen 1;have lY:=(HV2.out).lt
    have V0:w7.cell? ⟨g19,0,none⟩=some (.int .i64 x1):=(HT1.out).cell 0;have fV0:=(HT1.out).frozen 0;have V1:w7.cell? ⟨g19,1,none⟩=some (.int .i64 x2):=(HT1.out).cell 1;have fV1:=(HT1.out).frozen 1;have lV:=(HT1.out).lt;have W0:w7.cell? ⟨g20,0,none⟩=some (.int .i64 y1):=(HT2.out).cell 0;have fW0:=(HT2.out).frozen 0;have W1:w7.cell? ⟨g20,1,none⟩=some (.int .i64 y2):=(HT2.out).cell 1;have fW1:=(HT2.out).frozen 1;have lW:=(HT2.out).lt;go_wp2_with fail
    go_roundg ((N:Int)-id).toNat
    case measure=>omega
    case rel=>exact⟨id+1,by go_num,HB7,by omega,by omega,by omega⟩
  · have k1:decide (id≤(N:Int))=false:=by simpa using hle
    clear hle;go_wp2_with fail
    ((with_reducible refine(HAW.out _ (bfH' HBz HB1.out).out).mono ?_);rintro e wg ⟨rfl,hbg⟩)
    go_wp2_with fail;go_ret;exact⟨rfl,(bfH' (bfH' HBz HB1.out) hbg).out⟩
end Go.Proofs.YtnbkbenkhkinoaaGreatDoor
