/- Of my texts: Copy, By, Eval, REval, Leaves. -/
import Derived.Test.YtnbkbenkhkinoaaGreatDoorM04
import Derived.Test.YtnbkbenkhkinoaaGreatDoorM27
import Derived.OwnWalk
import Derived.Deep.AppendLies
import Derived.Deep.RegionHeld3
import Derived.WideLaws
namespace Go.Proofs.YtnbkbenkhkinoaaGreatDoor
set_option linter.unusedVariables false
set_option linter.unusedSimpArgs false
open Go.RowKit
theorem below_grownBy {B:Nat} {a w w':World} {row:Option Nat} (h:Below B a w) (hg:w.grownBy w' row) (hs:B≤w.heap.size) (hr:∀ k,row=some k→B≤k):Below B a w' :=
 h.trans ⟨hg.os,hg.tape,hg.output,Nat.le_trans (Nat.le_refl _) (by have:=hg.size;omega),fun k hk=>hg.block k (Nat.lt_of_lt_of_le hk hs) (fun e=>by have:=hr k e.symm;omega)⟩
theorem owns_below {w w':World} {base:Nat} {e:TypeId} {size:Nat} {v:Value} {n:Nat} {xs:List Value} (h:w.ownsRow base e size v n xs) (hb:Below w.heap.size w w'):w'.ownsRow base e size v n xs:=by
 refine⟨h.1,?_⟩
 rcases h.2 with h0 | ⟨g,cap,cur,hv,hg,hc,rest⟩
 · exact .inl h0
 · refine .inr ⟨g,cap,cur,hv,hg,?_,rest⟩
   have:g<w.heap.size:=by
    rcases Nat.lt_or_ge g w.heap.size with h1 | h1
    · exact h1
    · rw[Array.getElem?_eq_none h1]at hc;cases hc
   exact(hb.block g this).trans hc
theorem owns_set {w:World} {base:Nat} {e:TypeId} {size:Nat} {v:Value} {n:Nat} {xs:List Value} (h:w.ownsRow base e size v n xs) {p:Addr} (hp:p.block<base) (u:Value):(w.setCell p u).ownsRow base e size v n xs:=by
 refine⟨h.1,?_⟩
 rcases h.2 with h0 | ⟨g,cap,cur,hv,hg,hc,rest⟩
 · exact .inl h0
 · exact .inr ⟨g,cap,cur,hv,hg,(Below.heap_setCell w p u g (by omega)).trans hc,rest⟩
theorem blk_grownBy {w w':World} {row:Option Nat} {g:Nat} {t:TypeId} {cs:Array Value} (h:Blk w g t cs) (hg:w.grownBy w' row) (hne:some g≠row):Blk w' g t cs:=(hg.block g h.lt hne).trans h
theorem infoExpr:(Tryz.prog.info? 31).map (fun i=>(i.zero,i.size,i.bytes))=some (some (.agg #[.int .i64 0,.int .i64 0,.int .i64 0,.int .i64 0,.slice none 0 0]),5,56):=by kernel_rfl
structure Ge (w wr:World) (k n d u:Int) (v:Value) (i:Nat):Prop where
 below:Below w.heap.size w wr
 box:Blk wr w.heap.size 31 #[.int .i64 k,.int .i64 n,.int .i64 d,.int .i64 u,v]
 res:Blk wr (w.heap.size+1) 31 #[.int .i64 0,.int .i64 0,.int .i64 0,.int .i64 0,.slice none 0 0]
 own:∃ xs,wr.ownsRow (w.heap.size+2) 31 5 v i xs
def isXs (cs:Array Value):Prop:=∃ (k n d u:Int) (oa:Option Addr) (len cap:Nat),cs=#[.int .i64 k,.int .i64 n,.int .i64 d,.int .i64 u,.slice oa len cap]
def isX (v:Value):Prop:=∃ (k n d u:Int) (oa:Option Addr) (len cap:Nat),v=.agg #[.int .i64 k,.int .i64 n,.int .i64 d,.int .i64 u,.slice oa len cap]
structure Sx (w wr:World) (k n d u:Int) (v:Value) (g:Nat) (cs:Array Value):Prop where
 below:Below w.heap.size w wr
 box:Blk wr w.heap.size 31 #[.int .i64 k,.int .i64 n,.int .i64 d,.int .i64 u,v]
 res:Blk wr (w.heap.size+1) 31 #[.int .i64 0,.int .i64 0,.int .i64 0,.int .i64 0,.slice none 0 0]
 kid:Blk wr g 31 cs
section
variable {w wr w':World} {k n d u:Int} {v:Value} {g:Nat} {cs:Array Value}
theorem Sx.drew (h:Sx w wr k n d u v g cs):Sx w wr.drew k n d u v g cs:=⟨h.below.drew,h.box,h.res,h.kid⟩
theorem Sx.next (h:Sx w wr k n d u v g cs) (hb:Below wr.heap.size wr w'):Sx w w' k n d u v g cs :=
 ⟨h.below.trans (hb.mono h.below.size),h.box.below hb h.box.lt,h.res.below hb h.res.lt,h.kid.below hb h.kid.lt⟩
theorem Sx.alloc (h:Sx w wr k n d u v g cs) (o:Obj):Sx w (wr.alloc o) k n d u v g cs:=⟨h.below.alloc h.below.size _,h.box.old _,h.res.old _,h.kid.old _⟩
theorem Sx.grown {row:Option Nat} (h:Sx w wr k n d u v g cs) (hg:wr.grownBy w' row) (h0:row≠some w.heap.size) (h1:row≠some (w.heap.size+1)) (h2:row≠some g) (hr:∀ k,row=some k→w.heap.size≤k):Sx w w' k n d u v g cs :=
 ⟨below_grownBy h.below hg h.below.size hr,blk_grownBy h.box hg (Ne.symm h0),blk_grownBy h.res hg (Ne.symm h1),blk_grownBy h.kid hg (Ne.symm h2)⟩
theorem Sx.all {x0 x1 x2 x3 x4:Value} (h:Sx w wr k n d u v g #[x0,x1,x2,x3,x4]):Sx w wr k n d u v g #[x0,x1,x2,x3,x4]∧wr.cell? ⟨w.heap.size,4,none⟩=some v∧wr.frozen? ⟨w.heap.size,4,none⟩=false∧wr.cell? ⟨g,0,none⟩=some x0∧wr.cell? ⟨g,1,none⟩=some x1∧wr.cell? ⟨g,2,none⟩=some x2∧wr.cell? ⟨g,3,none⟩=some x3∧wr.cell? ⟨g,4,none⟩=some x4 :=
 ⟨h,h.box.cell 4,h.box.frozen 4,h.kid.cell 0,h.kid.cell 1,h.kid.cell 2,h.kid.cell 3,h.kid.cell 4⟩
end
set_option maxRecDepth 20000 in
set_option maxHeartbeats 4000000 in
theorem expr_any:∀ (h:Nat) (e:Ex) (w:World),ExIn w h e →
  Calls Tryz.prog 62 #[xv e] w fun x w'=>(∃ (k n d u:Int) (oa:Option Addr) (len cap:Nat),x=.returned (.agg #[.int .i64 k,.int .i64 n,.int .i64 d,.int .i64 u,.slice oa len cap]))∧Below w.heap.size w w':=by
 intro h
 induction h with
 | zero=>exact fun _ _ h=>h.elim
 | succ h ih =>
   intro e w hx;obtain⟨k,n,d,u,oa,b,o,cap,kids⟩:=e;obtain⟨h1,h2,h3,h4,h5,h6,h7,h8⟩:=hx;have hsm:kids.length≤9223372036854775807:=Nat.le_trans (Nat.le_trans h4 h5) (by decide);have hmax:kids.length≤maxLen:=Nat.le_trans h4 h5;have HIH:=Lib.hid ih;clear ih h1 h2 h3;rw[xv_mk]
   go_enter Tryz.func62,Tryz.ntmps62
   go_wp2_with fail
   go_loopg [11] kids.length (fun kk s wr=>∃ (i:Nat) (v:Value),s=.int .i64 i∧Hid (Ge w wr k n d u v i)∧i≤kids.length∧kids.length-i≤kk)
   case atStart=>exact⟨0,.slice none 0 0,rfl,Lib.hid ⟨(below_box _ _).alloc (by simp) _,(Blk.new _ _ _).old _,Blk.new2 _ _ _ _,[],World.ownsRow_nil _ _ _ _⟩,Nat.zero_le _,by omega⟩
   case round =>
    obtain⟨i,v,rfl,hg,hle,hk2⟩:=hrel
    by_cases hi:i<kids.length
    · have gi:decide ((i:Int)<kids.length)=true:=by simpa using hi
      have hr:kids[i]?=some kids[i]:=List.getElem?_eq_getElem hi;have hx:=h8 i _ hr;obtain⟨rfl,hbl⟩:=h7 (by omega);generalize kids[i]=x at *
      have hX:=fun wx hb=>HIH.out x wx (hx.2.below (w':=wx) _ hb)
      obtain⟨k',n',d',u',oa',b',o',cap',kids'⟩:=x;simp only[xv_mk]at hX;have HX:=Lib.hid hX;clear hX;have f0:wr.cell? ⟨b,o+i*5,none⟩=some (.int .i64 k'):=(hg.out.below.cell hbl).trans (hx.1 0 _ rfl);have f1:wr.cell? ⟨b,o+i*5+1,none⟩=some (.int .i64 n'):=(hg.out.below.cell hbl).trans (hx.1 1 _ rfl);have f2:wr.cell? ⟨b,o+i*5+2,none⟩=some (.int .i64 d'):=(hg.out.below.cell hbl).trans (hx.1 2 _ rfl);have f3:wr.cell? ⟨b,o+i*5+3,none⟩=some (.int .i64 u'):=(hg.out.below.cell hbl).trans (hx.1 3 _ rfl);have f4:wr.cell? ⟨b,o+i*5+4,none⟩=some (.slice oa' kids'.length cap'):=(hg.out.below.cell hbl).trans (hx.1 4 _ rfl);clear hx hr h8 h7;generalize kids'.length=L' at *;go_wp2_with fail;have hbv:=hg.out.below.alloc hg.out.below.size (.cells #[.int .i64 k',.int .i64 n',.int .i64 d',.int .i64 u',.slice oa' L' cap'] 31)
      have hbx:=hg.out.box.old (.cells #[.int .i64 k',.int .i64 n',.int .i64 d',.int .i64 u',.slice oa' L' cap'] 31);have hrs:=hg.out.res.old (.cells #[.int .i64 k',.int .i64 n',.int .i64 d',.int .i64 u',.slice oa' L' cap'] 31);have hkd:=Blk.new wr 31 #[.int .i64 k',.int .i64 n',.int .i64 d',.int .i64 u',.slice oa' L' cap'];obtain⟨xs,how⟩:=hg.out.own;have hvr:=how.lt;have hown:=how.alloc (.cells #[.int .i64 k',.int .i64 n',.int .i64 d',.int .i64 u',.slice oa' L' cap'] 31);have hgs:=hg.out.res.lt
      have hws:wr.heap.size<(wr.alloc (.cells #[.int .i64 k',.int .i64 n',.int .i64 d',.int .i64 u',.slice oa' L' cap'] 31)).heap.size:=by simp
      clear how f0 f1 f2 f3 f4 hg;generalize hgg:wr.heap.size=g at *;generalize wr.alloc _=wv at *;have hvb:=hown.lt;have HV:=Lib.hid hvb
      have hne:v.ownBlock≠some w.heap.size:=fun e=>by have:=(hvb _ e).1;omega
      have hne1:v.ownBlock≠some (w.heap.size+1):=fun e=>by have:=(hvb _ e).1;omega
      have hne2:v.ownBlock≠some g:=fun e=>by have:=(hvr _ e).2;omega
      have hrow:∀ k,v.ownBlock=some k→w.heap.size≤k:=fun k e=>by have:=(hvb _ e).1;omega
      have hbn:=hbv.size;have HVR:=Lib.hid hrow;obtain⟨i0,hi0,hz0,hz1,hz2⟩:=info_parts infoExpr
      have hin:i+1≤maxLen:=by omega
      have hib:(i+1)*56≤140737488355328:=by omega
      clear hvb hvr hrow;have cb0:wv.cell? ⟨w.heap.size,0,none⟩=some (.int .i64 k):=(hbx).cell 0;have fcb0:=(hbx).frozen 0;have cb1:wv.cell? ⟨w.heap.size,1,none⟩=some (.int .i64 n):=(hbx).cell 1;have fcb1:=(hbx).frozen 1;have cb2:wv.cell? ⟨w.heap.size,2,none⟩=some (.int .i64 d):=(hbx).cell 2;have fcb2:=(hbx).frozen 2;have cb3:wv.cell? ⟨w.heap.size,3,none⟩=some (.int .i64 u):=(hbx).cell 3;have fcb3:=(hbx).frozen 3;have cb4:wv.cell? ⟨w.heap.size,4,none⟩=some (v):=(hbx).cell 4;have fcb4:=(hbx).frozen 4;have lcb:=(hbx).lt;have ck0:wv.cell? ⟨g,0,none⟩=some (.int .i64 k'):=(hkd).cell 0;have fck0:=(hkd).frozen 0;have ck1:wv.cell? ⟨g,1,none⟩=some (.int .i64 n'):=(hkd).cell 1;have fck1:=(hkd).frozen 1;have ck2:wv.cell? ⟨g,2,none⟩=some (.int .i64 d'):=(hkd).cell 2;have fck2:=(hkd).frozen 2;have ck3:wv.cell? ⟨g,3,none⟩=some (.int .i64 u'):=(hkd).cell 3;have fck3:=(hkd).frozen 3
      have ck4:wv.cell? ⟨g,4,none⟩=some (.slice oa' L' cap'):=(hkd).cell 4;have fck4:=(hkd).frozen 4;have lck:=(hkd).lt;refine wp_region_loose 5 [Loose.val 3 18 isX,Loose.rowS 4 19 31 1 isXs wv.heap.size] (by kernel_rfl) rfl (by kernel_rfl) (by kernel_rfl) (by kernel_rfl) (by kernel_rfl) ?_;simp only[headL,hushL,List.find?,Loose.claim_i,Loose.cells_i,Loose.rowL_i,Loose.claim_hush,Loose.cells_hush,Loose.rowL_hush,Loose.val_i,Loose.rowS_i,Loose.val_hush,Loose.rowS_hush,Nat.reduceBEq,Nat.reduceAdd]
      repeat (go_big_quiet_step (fail))
      refine wpQuiet_nil ⟨fun V m=>?_,fun V m=>?_⟩
      · simp only[obs_cons,obs_nil,List.getElem?_cons_zero,List.getElem?_cons_succ,fill_nil,fill_claim,fill_cells,fill_rowL,Loose.claim_i,Loose.cells_i,Loose.rowL_i,Act.put,List.setIfInBounds_toArray,List.set_cons_zero,List.set_cons_succ,fill_val,fill_rowS,Loose.val_i,Loose.rowS_i];refine⟨fun _=>?_,fun hw=>?_,trivial⟩
        · go_wp2_with fail
          ((with_reducible refine(HX.out _ (below_grow hbv m)).mono ?_);rintro e w' ⟨⟨yk,yn,yd,yu,ya,yl,yc,rfl⟩,hbw⟩)
          go_wp2_with fail;exact post_val rfl ⟨_,_,_,_,_,_,_,rfl⟩ hbw
        · obtain⟨h3,_⟩:=hw;obtain⟨yk,yn,yd,yu,ya,yl,yc,hv⟩:=h3 (by kernel_rfl);change V 3=_ at hv;rw[hv];clear hv h3;go_wp2_with fail;exact post_rowS rfl (grow_size m) ⟨_,_,_,_,_,_,_,rfl⟩
      · simp only[laws_nil,laws_claim,laws_cells,laws_rowL,laws_val,laws_rowS,dist_nil,dist_claim,dist_cells,dist_rowL,dist_val,dist_rowS,dist1_nil,dist1_claim,dist1_cells,dist1_rowL,dist1_val,dist1_cells_rowL,dist1_rowL_cells,List.drop_succ_cons,List.drop_zero,and_true,fill_nil,fill_claim,fill_cells,fill_rowL,Loose.claim_i,Loose.cells_i,Loose.rowL_i,Act.put,List.setIfInBounds_toArray,List.set_cons_zero,List.set_cons_succ,fill_val,fill_rowS,Loose.val_i,Loose.rowS_i];rintro⟨_,gb,cs,hv4,hgb,⟨yk,yn,yd,yu,ya,yl,yc,rfl⟩,hbk⟩ _;rw[hv4];clear cb0 cb1 cb2 cb3 cb4 fcb0 fcb1 fcb2 fcb3 fcb4 lcb ck0 ck1 ck2 ck3 ck4 fck0 fck1 fck2 fck3 fck4 lck hv4 hkd HX;have hbq:=below_grow hbv m;have hxq:=hbx.grow m;have hrq:=hrs.grow m;have hoq:=owns_below hown (grow_below m);have hsq:=grow_size m;clear hbv hbx hrs hown;generalize grow wv m=wq at *;have hxl:=hxq.lt;have hrl:=hrq.lt
        go_wp2_with (at_builtin;refine wpList_append_lies _ rfl _ _ _ rfl (w.heap.size+2) 31 i0 _ 5 56 Tryz.underlying29 hi0 hz0 hz1 hz2 rfl (by omega) v i xs rfl hoq ⟨gb,0,none⟩ 1 1 [.int .i64 yk,.int .i64 yn,.int .i64 yd,.int .i64 yu,.slice ya yl yc] rfl rfl (World.news_of_block hbk) (by simp[Value.oneCell']) (by omega) hin hib (by omega) wq.heap.size rfl ?_;intro gg cap2 w1 hown1 hgrow hat hlt;have hx1:=blk_grownBy hxq hgrow (Ne.symm hne);have cw4:=hx1.cell 4;have fw4:=hx1.frozen 4;have lw:=hx1.lt;have HR1:=Lib.hid (And.intro hx1 (And.intro (blk_grownBy hrq hgrow (Ne.symm hne1)) (And.intro (below_grownBy hbq hgrow hbq.size HVR.out) hown1)));clear hx1 hown1 hgrow hat)
        go_roundg (kids.length-(i+1))
        case measure=>omega
        case rel =>
         obtain⟨r1,r2,r3,r4⟩:=HR1.out;exact⟨i+1,_,by go_num,Lib.hid ⟨r3.setCell (Nat.le_refl _) _,(r1.put 4 _).to rfl,r2.far (by simp) _,_,owns_set r4 (by simp) _⟩,hi,by omega⟩
    · obtain rfl:i=kids.length:=by omega
      have HG:=hg;have cb0:wr.cell? ⟨w.heap.size,0,none⟩=some (.int .i64 k):=(hg.out.box).cell 0;have fcb0:=(hg.out.box).frozen 0;have cb1:wr.cell? ⟨w.heap.size,1,none⟩=some (.int .i64 n):=(hg.out.box).cell 1;have fcb1:=(hg.out.box).frozen 1;have cb2:wr.cell? ⟨w.heap.size,2,none⟩=some (.int .i64 d):=(hg.out.box).cell 2;have fcb2:=(hg.out.box).frozen 2;have cb3:wr.cell? ⟨w.heap.size,3,none⟩=some (.int .i64 u):=(hg.out.box).cell 3;have fcb3:=(hg.out.box).frozen 3;have cb4:wr.cell? ⟨w.heap.size,4,none⟩=some (v):=(hg.out.box).cell 4;have fcb4:=(hg.out.box).frozen 4;have lcb:=(hg.out.box).lt;have cr0:wr.cell? ⟨w.heap.size+1,0,none⟩=some (.int .i64 0):=(hg.out.res).cell 0;have fcr0:=(hg.out.res).frozen 0;have cr1:wr.cell? ⟨w.heap.size+1,1,none⟩=some (.int .i64 0):=(hg.out.res).cell 1;have fcr1:=(hg.out.res).frozen 1
      have cr2:wr.cell? ⟨w.heap.size+1,2,none⟩=some (.int .i64 0):=(hg.out.res).cell 2;have fcr2:=(hg.out.res).frozen 2;have cr3:wr.cell? ⟨w.heap.size+1,3,none⟩=some (.int .i64 0):=(hg.out.res).cell 3;have fcr3:=(hg.out.res).frozen 3;have cr4:wr.cell? ⟨w.heap.size+1,4,none⟩=some (.slice none 0 0):=(hg.out.res).cell 4;have fcr4:=(hg.out.res).frozen 4;have lcr:=(hg.out.res).lt;obtain⟨xs,how⟩:=hg.out.own
      obtain ⟨voa,vl,vc,rfl⟩:∃ voa vl vc,v=.slice voa vl vc:=by
       rcases how.2 with ⟨rfl,_⟩ | ⟨g,cp,cur,rfl,_⟩
       · exact⟨_,_,_,rfl⟩
       · exact⟨_,_,_,rfl⟩
      clear how;have hbel:=Lib.hid hg.out.below;clear hg HG;go_wp2_with fail;exact bodyPost_ret (v:=.agg #[.int .i64 k,.int .i64 n,.int .i64 d,.int .i64 u,.slice voa vl vc]) (by simp[results,Tryz.results62,go_sem,cr0,cr1,cr2,cr3,cr4,lcr]) rfl ⟨⟨_,_,_,_,_,_,_,rfl⟩,by repeat (first|exact hbel.out | (with_reducible refine Below.setCell ?_ ?hq _;case hq=>simp))⟩
structure Strs (w:World) (oa:Option Addr) (len cap:Nat) (b o:Nat) (l:List ByteArray):Prop where
 hlen:len=l.length
 hcap:len≤cap
 small:cap≤maxLen
 at_:0<len→oa=some ⟨b,o,none⟩
 lt:0<len→b<w.heap.size
 c0:∀ (i:Nat) (x:ByteArray),l[i]?=some x→w.cell? ⟨b,o+i,none⟩=some (.string x)
theorem Strs.below {w w':World} {oa:Option Addr} {len cap b o:Nat} {l:List ByteArray} (h:Strs w oa len cap b o l) (hb:Below w.heap.size w w'):Strs w' oa len cap b o l:=by
 have key:∀ (i:Nat) (r:ByteArray),l[i]?=some r→0<len:=fun i r hr=>by
  have:=(List.getElem?_eq_some_iff.1 hr).1;rw[h.hlen];omega
 refine⟨h.hlen,h.hcap,h.small,h.at_,fun hl=>Nat.lt_of_lt_of_le (h.lt hl) hb.size,fun i r hr=>?_⟩;rw[hb.cell (h.lt (key i r hr))];exact h.c0 i r hr
structure Env (w:World) (gN gT:Nat) (oa:Option Addr) (len cap b o:Nat) (ns:List ByteArray) (oa':Option Addr) (len' cap' b' o':Nat) (ts:List Int):Prop where
 names:Strs w oa len cap b o ns
 truths:Ints w oa' len' cap' b' o' ts
 boxN:Blk w gN 195 #[.slice oa len cap]
 boxT:Blk w gT 22 #[.slice oa' len' cap']
theorem Env.below {w w':World} {gN gT:Nat} {oa:Option Addr} {len cap b o:Nat} {ns:List ByteArray} {oa':Option Addr} {len' cap' b' o':Nat} {ts:List Int} (h:Env w gN gT oa len cap b o ns oa' len' cap' b' o' ts) (hb:Below w.heap.size w w') :
 Env w' gN gT oa len cap b o ns oa' len' cap' b' o' ts:=⟨h.names.below hb,h.truths.below hb,h.boxN.below hb h.boxN.lt,h.boxT.below hb h.boxT.lt⟩
theorem func_nil0 (f:Fn) (a c:Array Value) (w:World) (d:Nat):(Op.equalIn (d+1) 98 (.func f a c) .nilFunc).run Tryz.prog w=.ok false w:=by
 simp[Op.equalIn,run_underlying Tryz.underlying98]
theorem nil_nil0 (w:World) (d:Nat):(Op.equalIn (d+1) 98 .nilFunc .nilFunc).run Tryz.prog w=.ok true w:=by
 simp[Op.equalIn,run_underlying Tryz.underlying98]
@[go_sem] theorem func_nil (f:Fn) (a c:Array Value) (w:World):Sem.run Tryz.prog (binOp .eql 98 (.func f a c) .nilFunc) w=.ok (.bool false) w:=by
 have h2:(Op.equal 98 (.func f a c) .nilFunc).run Tryz.prog w=.ok false w:=func_nil0 f a c w 9999;simp only[binOp];simp[h2]
@[go_sem] theorem nil_nil (w:World):Sem.run Tryz.prog (binOp .eql 98 .nilFunc .nilFunc) w=.ok (.bool true) w:=by
 have h2:(Op.equal 98 .nilFunc .nilFunc).run Tryz.prog w=.ok true w:=nil_nil0 w 9999;simp only[binOp];simp[h2]
theorem mayC_parts {f:Nat} {c:Int} {oa:Option Addr} {b o cap:Nat} {kids:List Cd} {lf:Lf} (hc:¬ c=4) (h:mayC f (.mk c oa b o cap kids lf)=true) :
  (c=1∨c=2∨c=3∧kids.length=1)∧∃ f',∀ (i:Nat) (x:Cd),kids[i]?=some x→mayC f' x=true:=by
 cases f with
 | zero=>cases h
 | succ f =>
   rw[mayC_more f hc]at h;simp only[Bool.and_eq_true]at h;refine⟨?_,f,fun i x hx=>List.all_eq_true.1 h.2 x (List.mem_of_getElem? hx)⟩
   by_cases c1:c=1∨c=2
   · omega
   by_cases c3:c=3
   · rw[carity_one c3]at h;have:=h.1.2;simp only[beq_iff_eq]at this;omega
   · rw[carity_none c1 c3]at h
     cases h.1.2
def Told (g:Lf→Int) (ls:List Lf) (t R:List Int):Prop:=t=ls.map g++R∨(t=[]∧R=[]∧∀ lf,g lf=1)
theorem Told.split {g:Lf→Int} {l1 l2:List Lf} {t R:List Int} (h:Told g (l1++l2) t R):∃ R1,Told g l1 t R1∧Told g l2 R1 R:=by
 rcases h with h|⟨h1,h2,h3⟩
 · exact⟨l2.map g++R,Or.inl (by rw[h,List.map_append,List.append_assoc]),Or.inl rfl⟩
 · exact⟨[],Or.inr ⟨h1,rfl,h3⟩,Or.inr ⟨rfl,h2,h3⟩⟩
theorem Told.nil {g:Lf→Int} {t R:List Int} (h:Told g [] t R):t=R:=by
 rcases h with h|⟨h1,h2,_⟩
 · simpa using h
 · rw[h1,h2]
theorem leavesC_leaf (h:Nat) (oa:Option Addr) (b o cap:Nat) (kids:List Cd) (lf:Lf):leavesC (h+1) (.mk 4 oa b o cap kids lf)=[lf]:=by
 unfold leavesC;rw[if_pos rfl]
theorem leavesC_more (h:Nat) {c:Int} (hc:¬ c=4) (oa:Option Addr) (b o cap:Nat) (kids:List Cd) (lf:Lf):leavesC (h+1) (.mk c oa b o cap kids lf)=kids.flatMap (leavesC h):=by
 unfold leavesC;rw[if_neg hc]
theorem Ints.tail {w:World} {oa:Option Addr} {len cap b o:Nat} {x:Int} {l:List Int} (h:Ints w oa len cap b o (x::l)) (oa2:Option Addr) (hoa:1<cap→oa2=some ⟨b,o+1,none⟩):Ints w oa2 l.length (cap-1) b (o+1) l:=by
 have hl:=h.hlen;have hc:=h.hcap;have hs:=h.small;simp only[List.length_cons]at hl;refine⟨rfl,by omega,by omega,fun hp=>hoa (by omega),fun _=>h.lt (by omega),fun i y hy=>?_,fun i y hy=>h.is64 (i+1) y (by simpa using hy)⟩;have:=h.c0 (i+1) y (by simpa using hy);rwa [show o+(i+1)=o+1+i by omega]at this
theorem lcells_length (l:Lf):(lcells l).length=12:=by
 obtain⟨k,t,nm,op,⟨k',n,d,u,oa,b,o,cap,kids⟩,wd,vl,an⟩:=l;rfl
theorem rows_at {ls:List Lf} {i:Nat} {l:Lf} (h:ls[i]?=some l) (j:Nat) (v:Value) (hj:(lcells l)[j]?=some v):(ls.flatMap lcells)[i*12+j]?=some v:=by
 induction ls generalizing i with
 | nil=>simp at h
 | cons a ls ih =>
   have h12:=lcells_length a;rw[List.flatMap_cons]
   cases i with
   | zero =>
     simp at h;subst h
     have hlt:j<12:=by have:=(List.getElem?_eq_some_iff.1 hj).1;omega
     rw[Nat.zero_mul,Nat.zero_add,List.getElem?_append_left (by omega)];exact hj
   | succ i =>
     rw[List.getElem?_append_right (by omega),h12,show (i+1)*12+j-12=i*12+j by omega];exact ih (by simpa using h)
theorem owns_base {w:World} {base base':Nat} {e:TypeId} {size:Nat} {v:Value} {n:Nat} {xs:List Value} (h:w.ownsRow base e size v n xs) (hb:base'≤base):w.ownsRow base' e size v n xs:=by
 refine⟨h.1,?_⟩
 rcases h.2 with h0 | ⟨g,cap,cur,hv,hg,rest⟩
 · exact .inl h0
 · exact .inr ⟨g,cap,cur,hv,by omega,rest⟩
theorem take_flat {kids:List Cd} {i:Nat} {x:Cd} (f:Cd→List Lf) (h:kids[i]?=some x):(kids.take (i+1)).flatMap f=(kids.take i).flatMap f++f x:=by
 rw[List.take_add_one,h,List.flatMap_append];simp
theorem take_flat_le (kids:List Cd) (i:Nat) (f:Cd→List Lf):((kids.take i).flatMap f).length≤(kids.flatMap f).length:=by
 have:kids.flatMap f=(kids.take i).flatMap f++(kids.drop i).flatMap f:=by rw[← List.flatMap_append,List.take_append_drop]
 rw[this,List.length_append];omega
end Go.Proofs.YtnbkbenkhkinoaaGreatDoor
