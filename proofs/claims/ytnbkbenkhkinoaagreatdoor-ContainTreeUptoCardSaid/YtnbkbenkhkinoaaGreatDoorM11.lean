/- Of my texts: TokF, TokG, TokH, TokI, TxB, TxC. -/
import Derived.Test.YtnbkbenkhkinoaaGreatDoorM08
import Derived.Deep.RegionHeld3
namespace Go.Proofs.YtnbkbenkhkinoaaGreatDoor
set_option linter.unusedVariables false
set_option linter.unusedSimpArgs false
open Go.RowKit
structure RAt (w:World) (B:Nat) (oa:Option Addr) (cap b o:Nat) (l:List Int) (i:Nat):Prop where
 blk:Blk w B 182 #[.slice oa l.length cap,.int .i64 (i:Int)]
 sl:Sl w oa l.length cap b o 1 (runesV l)
 ne:b≠B
 rng:∀ x∈l,I32 x
 pos:i≤l.length+8
 len:l.length≤549755813888
section
variable {w w':World} {B:Nat} {oa:Option Addr} {cap b o:Nat} {l:List Int} {i:Nat}
theorem RAt.below (h:RAt w B oa cap b o l i) (hb:Below w.heap.size w w'):RAt w' B oa cap b o l i :=
 ⟨h.blk.below hb h.blk.lt,h.sl.below hb,h.ne,h.rng,h.pos,h.len⟩
theorem RAt.grow (h:RAt w B oa cap b o l i) (m:Ext w):RAt (grow w m) B oa cap b o l i:=h.below (grow_below m)
theorem RAt.old (h:RAt w B oa cap b o l i) (ob:Obj):RAt (w.alloc ob) B oa cap b o l i:=h.below ((Below.refl _ _).alloc (Nat.le_refl _) ob)
theorem RAt.set (h:RAt w B oa cap b o l i) {j:Nat} (hj:j≤l.length+8):RAt (w.setCell ⟨B,1,none⟩ (.int .i64 (j:Int))) B oa cap b o l j :=
 ⟨(h.blk.put 1 _).to rfl,⟨h.sl.len,h.sl.le,h.sl.max,fun hp=>⟨(h.sl.lies hp).1,by simpa using (h.sl.lies hp).2⟩,fun k v hv=>by
   rw[World.cell?_setCell_other _ _ _ _ (by intro e;have:=congrArg Addr.block e;simp at this;exact h.ne this.symm)]
   exact h.sl.cell k v hv⟩,h.ne,h.rng,hj,h.len⟩
end
theorem aF_lt {l:List Int} {i:Nat} (h:aF l i≠-1):i<l.length:=by
 rcases Nat.lt_or_ge i l.length with h1 | h1
 · exact h1
 · exact absurd (by rw[aF,List.getElem?_eq_none h1]) h
set_option maxRecDepth 20000 in
set_option maxHeartbeats 4000000 in
theorem at_any {w:World} {B:Nat} {oa:Option Addr} {cap b o:Nat} {l:List Int} {i:Nat} (h:RAt w B oa cap b o l i) (k:Nat) (hk:k≤4) :
  Calls Tryz.prog 107 #[.pointer (some ⟨B,0,none⟩),.int .i64 k] w fun e w'=>e=.returned (.int .i32 (aF l (i+k)))∧Below w.heap.size w w':=by
 have hpos:=h.pos;have hlen:=h.len;obtain⟨N,hN⟩:∃ N,l.length=N:=⟨_,rfl⟩;rw[hN]at hpos hlen;obtain⟨j,hj⟩:∃ j,i+k=j:=⟨_,rfl⟩
 have ij:(i:Int)+(k:Int)=(j:Int):=by omega
 rw[hj];obtain⟨A,hA⟩:∃ A,aF l j=A:=⟨_,rfl⟩;rw[hA];have hblk:=h.blk;rw[hN]at hblk;have HB:=Lib.hid hblk;have cr0:w.cell? ⟨B,0,none⟩=some (.slice oa N cap):=(hblk).cell 0;have fcr0:=(hblk).frozen 0;have cr1:w.cell? ⟨B,1,none⟩=some (.int .i64 (i:Int)):=(hblk).cell 1;have fcr1:=(hblk).frozen 1;have lcr:=(hblk).lt;clear hblk
 by_cases hlt:j<N
 · have gl:decide ((N:Int)≤(j:Int))=false:=by simp;omega
   have gln:decide (N≤j)=false:=by simp;omega
   have hjl:j<l.length:=by omega
   obtain⟨rfl,hbl⟩:=h.sl.lies (by omega);rw[aF,List.getElem?_eq_getElem hjl]at hA;obtain⟨x,hx⟩:∃ x,l[j]=x:=⟨_,rfl⟩;rw[hx]at hA;simp only at hA;have HX:=Lib.hid hx
   have his:=fun w=>isC_any x w
   have HA:=Lib.hid hA;have HR:=Lib.hid h;clear h hx hA hj hN
   cases hc:isC x with
   | true =>
     rw[hc]at his;have HI:=Lib.hid his;have HF:=Lib.hid (show A=x by rw[← HA.out,hc];rfl);clear his hc HA
     go_enter Tryz.func107,Tryz.ntmps107
     go_upto_region 1 with fail
     refine wp_region_grow (by kernel_rfl) (by kernel_rfl) ?_
     repeat (go_big_quiet_step (fail))
     refine wpQuiet_nil ?_;rintro _ ⟨m1,rfl⟩;clear cr0 cr1 fcr0 fcr1 lcr;go_wp2_with fail;have hblk:=HB.out.grow m1;have cr0:(grow w m1).cell? ⟨B,0,none⟩=some (.slice (some ⟨b,o,none⟩) N cap):=(hblk).cell 0;have fcr0:=(hblk).frozen 0;have cr1:(grow w m1).cell? ⟨B,1,none⟩=some (.int .i64 (i:Int)):=(hblk).cell 1;have fcr1:=(hblk).frozen 1;have lcr:=(hblk).lt;have hcell:=(HR.out.grow m1).sl.cell j _ (runesV_at hjl);rw[HX.out]at hcell;have hbl1:b<(grow w m1).heap.size:=((HR.out.grow m1).sl.lies (by omega)).2;have hb:=grow_below m1;clear hblk;generalize grow w m1=w1 at *;refine wp_region_grow (by kernel_rfl) (by kernel_rfl) ?_
     repeat (go_big_quiet_step (fail))
     refine wpQuiet_nil ?_;rintro _ ⟨m2,rfl⟩;clear cr0 cr1 fcr0 fcr1 lcr hcell;go_wp2_with fail
     ((with_reducible refine(HI.out _).mono ?_);rintro e w' ⟨rfl,rfl⟩)
     replace hb:=below_grow hb m2;go_wp2_with fail;go_ret;exact⟨by rw[HF.out];rfl,hb⟩
   | false =>
     rw[hc]at his;have HI:=Lib.hid his;have HF:=Lib.hid (show A=65533 by rw[← HA.out,hc];rfl);clear his hc HA
     go_enter Tryz.func107,Tryz.ntmps107
     go_upto_region 1 with fail
     refine wp_region_grow (by kernel_rfl) (by kernel_rfl) ?_
     repeat (go_big_quiet_step (fail))
     refine wpQuiet_nil ?_;rintro _ ⟨m1,rfl⟩;clear cr0 cr1 fcr0 fcr1 lcr;go_wp2_with fail;have hblk:=HB.out.grow m1;have cr0:(grow w m1).cell? ⟨B,0,none⟩=some (.slice (some ⟨b,o,none⟩) N cap):=(hblk).cell 0;have fcr0:=(hblk).frozen 0;have cr1:(grow w m1).cell? ⟨B,1,none⟩=some (.int .i64 (i:Int)):=(hblk).cell 1;have fcr1:=(hblk).frozen 1;have lcr:=(hblk).lt;have hcell:=(HR.out.grow m1).sl.cell j _ (runesV_at hjl);rw[HX.out]at hcell;have hbl1:b<(grow w m1).heap.size:=((HR.out.grow m1).sl.lies (by omega)).2;have hb:=grow_below m1;clear hblk;generalize grow w m1=w1 at *;refine wp_region_grow (by kernel_rfl) (by kernel_rfl) ?_
     repeat (go_big_quiet_step (fail))
     refine wpQuiet_nil ?_;rintro _ ⟨m2,rfl⟩;clear cr0 cr1 fcr0 fcr1 lcr hcell;go_wp2_with fail
     ((with_reducible refine(HI.out _).mono ?_);rintro e w' ⟨rfl,rfl⟩)
     replace hb:=below_grow hb m2;go_wp2_with fail;go_ret;exact⟨by rw[HF.out];rfl,hb⟩
 · have gl:decide ((N:Int)≤(j:Int))=true:=by simp;omega
   have gln:decide (N≤j)=true:=by simp;omega
   rw[aF,List.getElem?_eq_none (by omega)]at hA;subst hA;clear h hj hN
   go_enter Tryz.func107,Tryz.ntmps107
   go_upto_region 1 with fail
   refine wp_region_grow (by kernel_rfl) (by kernel_rfl) ?_
   repeat (go_big_quiet_step (fail))
   refine wpQuiet_nil ?_;rintro _ ⟨m1,rfl⟩;clear cr0 cr1 fcr0 fcr1 lcr;go_wp2_with fail;go_ret;exact⟨rfl,grow_below m1⟩
section
variable {w:World} {B:Nat} {oa:Option Addr} {cap b o:Nat} {l:List Int} {i:Nat}
theorem at0_any (h:RAt w B oa cap b o l i):Calls Tryz.prog 107 #[.pointer (some ⟨B,0,none⟩),.int .i64 0] w fun e w'=>e=.returned (.int .i32 (aF l i))∧Below w.heap.size w w':=at_any h 0 (by omega)
theorem at1_any (h:RAt w B oa cap b o l i):Calls Tryz.prog 107 #[.pointer (some ⟨B,0,none⟩),.int .i64 1] w fun e w'=>e=.returned (.int .i32 (aF l (i+1)))∧Below w.heap.size w w':=at_any h 1 (by omega)
theorem at2_any (h:RAt w B oa cap b o l i):Calls Tryz.prog 107 #[.pointer (some ⟨B,0,none⟩),.int .i64 2] w fun e w'=>e=.returned (.int .i32 (aF l (i+2)))∧Below w.heap.size w w':=at_any h 2 (by omega)
end
structure Moved (w w':World) (B:Nat) (oa:Option Addr) (cap b o:Nat) (l:List Int) (i:Nat):Prop where
 gb:w.grownBy w' (some B)
 rd:RAt w' B oa cap b o l i
section
variable {w w' w2:World} {B:Nat} {oa:Option Addr} {cap b o:Nat} {l:List Int} {i j:Nat}
theorem Moved.start (h:RAt w B oa cap b o l i):Moved w w B oa cap b o l i:=⟨World.grownBy.refl _ _,h⟩
theorem Moved.below (h:Moved w w' B oa cap b o l i) (hb:Below w'.heap.size w' w2):Moved w w2 B oa cap b o l i:=⟨grownBy_trans h.gb (grownBy_of_below hb _),h.rd.below hb⟩
theorem Moved.grow (h:Moved w w' B oa cap b o l i) (m:Ext w'):Moved w (grow w' m) B oa cap b o l i:=h.below (grow_below m)
theorem Moved.next (h:Moved w w' B oa cap b o l i) (h2:Moved w' w2 B oa cap b o l j):Moved w w2 B oa cap b o l j:=⟨grownBy_trans h.gb h2.gb,h2.rd⟩
theorem grownBy_set (w:World) (p:Addr) (v:Value):w.grownBy (w.setCell p v) (some p.block) :=
 ⟨rfl,rfl,rfl,by simp[World.setCell],fun k _ hne=>Below.heap_setCell w p v k (fun e=>hne (by rw[e]))⟩
theorem Moved.set (h:Moved w w' B oa cap b o l i) (hj:j≤l.length+8):Moved w (w'.setCell ⟨B,1,none⟩ (.int .i64 (j:Int))) B oa cap b o l j :=
 ⟨grownBy_trans h.gb (grownBy_set w' ⟨B,1,none⟩ _),h.rd.set hj⟩
theorem Moved.alloc (h:Moved w w' B oa cap b o l i) (ob:Obj):Moved w (w'.alloc ob) B oa cap b o l i:=h.below ((Below.refl _ _).alloc (Nat.le_refl _) ob)
end
theorem digit_lt {l:List Int} {i:Nat} (h:digitI (aF l i)=true):i<l.length:=aF_lt fun e=>by rw[e]at h;cases h
theorem blank_lt {l:List Int} {i:Nat} (h:blankI (aF l i)=true):i<l.length:=aF_lt fun e=>by rw[e]at h;cases h
set_option maxRecDepth 20000 in
set_option maxHeartbeats 4000000 in
theorem digits3_any {w:World} {B:Nat} {oa:Option Addr} {cap b o:Nat} {l:List Int} {i:Nat} (h:RAt w B oa cap b o l i) :
  Calls Tryz.prog 193 #[.pointer (some ⟨B,0,none⟩)] w fun e w'=>e=.returned (.tuple #[])∧Moved w w' B oa cap b o l (digF l i):=by
 obtain⟨E,hE⟩:∃ E,digF l i=E:=⟨_,rfl⟩;rw[hE];have HE:=Lib.hid (show digE l (l.length+2-i) i=E from hE);have HM:=Lib.hid (Moved.start h);have hl:=h.len
 have hN0:l.length≤(l.length+2-i)+i:=by omega
 clear hE h
 go_enter Tryz.func193,Tryz.ntmps193
 go_wp2_with fail
 go_loopg [] (l.length+2-i) (fun q wr=>∃ (i f:Nat),Hid (Moved w wr B oa cap b o l i)∧Hid (digE l f i=E)∧l.length≤f+i∧f≤q)
 case atStart=>exact⟨i,_,HM,HE,hN0,Nat.le_refl _⟩
 case round =>
  clear HM HE hN0;obtain⟨i,f,hM,hE,hf,hq⟩:=hrel;have hat:=at0_any hM.out.rd
  have hdg:=fun w=>digit3_any (aF l i) w
  cases hd:digitI (aF l i) with
  | true =>
    have hi:=digit_lt hd;obtain⟨f,rfl⟩:∃ f',f=f'+1:=⟨f-1,by omega⟩;have hE2:=hE.out;rw[digE,if_pos hd]at hE2;rw[hd]at hdg;have HA:=Lib.hid hat;have HD:=Lib.hid hdg;have HE2:=Lib.hid hE2;generalize aF l i=c at *;clear hat hdg hE2 hE hd;go_wp2_with fail
    ((with_reducible refine(HA.out).mono ?_);rintro e w' ⟨rfl,hbw⟩)
    obtain⟨m,rfl⟩:=grow_mk hbw;clear hbw;go_wp2_with fail
    ((with_reducible refine(HD.out _).mono ?_);rintro e w' ⟨rfl,rfl⟩)
    have HM2:=Lib.hid (hM.out.grow m);have hblk:=(hM.out.grow m).rd.blk;clear hM HA HD;generalize grow _ m=wx at *;have cr0:wx.cell? ⟨B,0,none⟩=some (.slice oa l.length cap):=(hblk).cell 0;have fcr0:=(hblk).frozen 0;have cr1:wx.cell? ⟨B,1,none⟩=some (.int .i64 (i:Int)):=(hblk).cell 1;have fcr1:=(hblk).frozen 1;have lcr:=(hblk).lt;clear hblk;go_wp2_with fail
    go_roundg f
    case measure=>omega
    case rel=>exact⟨i+1,f,Lib.hid (by have:=HM2.out.set (j:=i+1) (by omega);simpa using this),HE2,by omega,Nat.le_refl _⟩
  | false =>
    have hEi:E=i:=by
     have h0:=hE.out
     cases f with
     | zero=>exact h0.symm
     | succ f =>
       rw[digE,hd]at h0;exact h0.symm
    subst hEi;rw[hd]at hdg;have HA:=Lib.hid hat;have HD:=Lib.hid hdg;generalize aF l E=c at *;clear hat hdg hE hd;go_wp2_with fail
    ((with_reducible refine(HA.out).mono ?_);rintro e w' ⟨rfl,hbw⟩)
    obtain⟨m,rfl⟩:=grow_mk hbw;clear hbw;go_wp2_with fail
    ((with_reducible refine(HD.out _).mono ?_);rintro e w' ⟨rfl,rfl⟩)
    go_wp2_with fail
    go_end0
    exact⟨rfl,hM.out.grow m⟩
set_option maxRecDepth 20000 in
set_option maxHeartbeats 4000000 in
theorem blanks_any {w:World} {B:Nat} {oa:Option Addr} {cap b o:Nat} {l:List Int} {i:Nat} (h:RAt w B oa cap b o l i) :
  Calls Tryz.prog 147 #[.pointer (some ⟨B,0,none⟩)] w fun e w'=>e=.returned (.tuple #[])∧Moved w w' B oa cap b o l (blaF l i):=by
 obtain⟨E,hE⟩:∃ E,blaF l i=E:=⟨_,rfl⟩;rw[hE];have HE:=Lib.hid (show blaE l (l.length+2-i) i=E from hE);have HM:=Lib.hid (Moved.start h);have hl:=h.len
 have hN0:l.length≤(l.length+2-i)+i:=by omega
 clear hE h
 go_enter Tryz.func147,Tryz.ntmps147
 go_wp2_with fail
 go_loopg [] (l.length+2-i) (fun q wr=>∃ (i f:Nat),Hid (Moved w wr B oa cap b o l i)∧Hid (blaE l f i=E)∧l.length≤f+i∧f≤q)
 case atStart=>exact⟨i,_,HM,HE,hN0,Nat.le_refl _⟩
 case round =>
  clear HM HE hN0;obtain⟨i,f,hM,hE,hf,hq⟩:=hrel;have hat:=at0_any hM.out.rd
  have hdg:=fun w=>blank_any (aF l i) w
  cases hd:blankI (aF l i) with
  | true =>
    have hi:=blank_lt hd;obtain⟨f,rfl⟩:∃ f',f=f'+1:=⟨f-1,by omega⟩;have hE2:=hE.out;rw[blaE,if_pos hd]at hE2;rw[hd]at hdg;have HA:=Lib.hid hat;have HD:=Lib.hid hdg;have HE2:=Lib.hid hE2;generalize aF l i=c at *;clear hat hdg hE2 hE hd;go_wp2_with fail
    ((with_reducible refine(HA.out).mono ?_);rintro e w' ⟨rfl,hbw⟩)
    obtain⟨m,rfl⟩:=grow_mk hbw;clear hbw;go_wp2_with fail
    ((with_reducible refine(HD.out _).mono ?_);rintro e w' ⟨rfl,rfl⟩)
    have HM2:=Lib.hid (hM.out.grow m);have hblk:=(hM.out.grow m).rd.blk;clear hM HA HD;generalize grow _ m=wx at *;have cr0:wx.cell? ⟨B,0,none⟩=some (.slice oa l.length cap):=(hblk).cell 0;have fcr0:=(hblk).frozen 0;have cr1:wx.cell? ⟨B,1,none⟩=some (.int .i64 (i:Int)):=(hblk).cell 1;have fcr1:=(hblk).frozen 1;have lcr:=(hblk).lt;clear hblk;go_wp2_with fail
    go_roundg f
    case measure=>omega
    case rel=>exact⟨i+1,f,Lib.hid (by have:=HM2.out.set (j:=i+1) (by omega);simpa using this),HE2,by omega,Nat.le_refl _⟩
  | false =>
    have hEi:E=i:=by
     have h0:=hE.out
     cases f with
     | zero=>exact h0.symm
     | succ f =>
       rw[blaE,hd]at h0;exact h0.symm
    subst hEi;rw[hd]at hdg;have HA:=Lib.hid hat;have HD:=Lib.hid hdg;generalize aF l E=c at *;clear hat hdg hE hd;go_wp2_with fail
    ((with_reducible refine(HA.out).mono ?_);rintro e w' ⟨rfl,hbw⟩)
    obtain⟨m,rfl⟩:=grow_mk hbw;clear hbw;go_wp2_with fail
    ((with_reducible refine(HD.out _).mono ?_);rintro e w' ⟨rfl,rfl⟩)
    go_wp2_with fail
    go_end0
    exact⟨rfl,hM.out.grow m⟩
theorem wpList_put {ops:Array Oper} {rest:List Oper} {o:Oper} {a:Act} {Q:Exit→Act→World→Prop} {base:Nat} {w:World} {t e:TypeId} {z:Value} {size bytes:Nat} (E:El t e z size bytes)
  (hgd:o.guard=none) (s x:Operand) (ho:o.op=.call { callee:=.builtin .append,args:=#[s,x],argTypes:=#[t,t] }) {v:Value} {n:Nat} {xs:List Value} (hs:a.eval s=v)
  (hown:w.ownsRow base e size v n xs) (hbase:base≤w.heap.size) (m c:Nat) (cs:Array Value) (tc:TypeId) (hx:a.eval x=.slice (some ⟨w.heap.size,0,none⟩) m c) (hl:cs.toList.length=m*size) (h1:∀ u∈cs.toList,u.oneCell'=true)
  (hm:0<m) (hbytes:(n+m)*bytes≤140737488355328) (h63:n+m≤140737488355328)
  (h:∀ g cap w',w'.ownsRow base e size (.slice (some ⟨g,0,none⟩) (n+m) cap) (n+m) (xs++cs.toList)→w.grownBy w' v.ownBlock→(∀ k,v.ownBlock=some k→base≤k)→wpList Tryz.prog ops Q rest (a.put o.dst (.slice (some ⟨g,0,none⟩) (n+m) cap)) w') :
  wpList Tryz.prog ops Q (o::rest) a (w.alloc (.cells cs tc)):=by
 obtain⟨i0,hi0,hz0,hz1,hz2⟩:=info_parts E.info
 refine wpList_append_lies _ hgd s x t ho base e i0 z size bytes E.under hi0 hz0 hz1 hz2 E.zs E.pos v n xs hs (hown.alloc _) ⟨w.heap.size,0,none⟩ m c cs.toList hx hl
  (World.news_of_block (cs:=cs) (t:=tc) (fr:=(0,0)) (heap_alloc_new w _)) h1 hm (Nat.le_trans h63 (by decide)) hbytes (Nat.le_trans hbase (by simp)) _ rfl fun g cap w' hown hg _ _=>?_
 exact h g cap w' hown (grownBy_trans (World.grownBy_alloc w _ _) hg) (fun k hk=>(by assumption:w.ownsRow base e size v n xs).lt k hk |>.1)
section
variable {w wr w':World} {B:Nat} {oa:Option Addr} {cap b o:Nat} {l:List Int} {i j:Nat} {row:Option Nat}
theorem RAt.grown (h:RAt wr B oa cap b o l i) (hg:wr.grownBy w' row) (h1:row≠some B) (h2:0<l.length→row≠some b):RAt w' B oa cap b o l i :=
 ⟨(hg.block B h.blk.lt (Ne.symm h1)).trans h.blk,h.sl.grown hg (fun hp=>Ne.symm (h2 hp)),h.ne,h.rng,h.pos,h.len⟩
theorem Moved.push (h:Moved w wr B oa cap b o l i) (h0:RAt w B oa cap b o l j) (hg:wr.grownBy w' row) (hr:∀ k,row=some k→w.heap.size≤k):Moved w w' B oa cap b o l i :=
 ⟨grownBy_far h.gb hg hr,h.rd.grown hg (fun e=>by have:=hr B e;have:=h0.blk.lt;omega) (fun hp e=>by have:=hr b e;have:=(h0.sl.lies hp).2;omega)⟩
end
theorem owns_moved {w w':World} {base:Nat} {e:TypeId} {size:Nat} {v:Value} {n:Nat} {xs:List Value} {B:Nat} (h:w.ownsRow base e size v n xs) (hg:w.grownBy w' (some B)) (hB:B<base):w'.ownsRow base e size v n xs :=
 h.kept hg (by
  cases hv:v.ownBlock with
  | none=>exact .inl rfl
  | some k=>exact .inr (fun e=>by have:=(h.lt k hv).1;have:=Option.some.inj e;omega))
theorem owns_grow {w:World} {base:Nat} {e:TypeId} {size:Nat} {v:Value} {n:Nat} {xs:List Value} (h:w.ownsRow base e size v n xs) (m:Ext w):(grow w m).ownsRow base e size v n xs :=
 h.kept (grownBy_of_below (grow_below m) none) (by cases v.ownBlock<;>simp)
structure Bl (w:World) (g:Nat) (l:List UInt8):Prop where
 lt:g<w.heap.size
 cell:∀ (j:Nat) (c:UInt8),l[j]?=some c→w.cell? ⟨g,j,none⟩=some (.int .u8 (c.toNat:Int))
 free:∀ (j:Nat),j<l.length→w.frozen? ⟨g,j,none⟩=false
theorem Bl.set {w:World} {g:Nat} {l:List UInt8} (h:Bl w g l) {i:Nat} (hi:i<l.length) (c:UInt8):Bl (w.setCell ⟨g,i,none⟩ (.int .u8 (c.toNat:Int))) g (l.set i c) :=
 ⟨by simpa using h.lt,fun j d hd=>by
   by_cases hj:i=j
   · subst hj;rw[List.getElem?_set_self hi]at hd;obtain rfl:=Option.some.inj hd;exact World.cell?_setCell_same _ _ _ (h.cell i _ (List.getElem?_eq_getElem hi))
   · rw[List.getElem?_set_ne hj]at hd;rw[World.cell?_setCell_other _ _ _ _ (by simp[hj])]
     exact h.cell j d hd,fun j hj=>(World.frozen?_setCell _ _ _ _).trans (h.free j (by simpa using hj))⟩
theorem frozen_row {w:World} {g j lo hi:Nat} {cs:Array Value} {t:TypeId} (h:w.heap[g]?=some (.cells cs t (lo,hi))) (hj:j<lo):w.frozen? ⟨g,j,none⟩=false:=by
 unfold World.frozen?;simp only[h]
 have:decide (lo≤j)=false:=by simp;omega
 rw[this];rfl
theorem bytes_made (m:List UInt8) (w:World):∃ (cap:Nat) (w1:World),(convert 9 112 (.string ⟨m.toArray⟩)).run Tryz.prog w=.ok (.slice (some ⟨w.heap.size,0,none⟩) m.length cap) w1∧Below w.heap.size w w1∧Bl w1 w.heap.size m:=by
 have h:=run_bytes_of_string (P:=Tryz.prog) w 9 112 5 ⟨m.toArray⟩ Tryz.underlying9 Tryz.underlying112 Tryz.underlying5;refine⟨_,_,h,((Below.refl _ _).drew.alloc (Nat.le_refl _) _),by simp,fun i c hc=>?_,fun j hj=>?_⟩
 · obtain⟨hi,rfl⟩:=List.getElem?_eq_some_iff.1 hc;rw[cell_of_row _ w.heap.size i _ _ _ (heap_alloc_new w.drew _)];exact bytesRow_at ⟨m.toArray⟩ _ i hi
 · have h1:=bytesRow_at ⟨m.toArray⟩ (grownCap w (⟨m.toArray⟩:ByteArray).size 0 5) j hj;have h2:=(Array.getElem?_eq_some_iff.1 h1).1;exact frozen_row (heap_alloc_new w.drew _) h2
theorem Bl.text {w:World} {g:Nat} {l:List UInt8} (h:Bl w g l) (cap:Nat):(convert 112 9 (.slice (some ⟨g,0,none⟩) l.length cap)).run Tryz.prog w=.ok (.string ⟨l.toArray⟩) w :=
 run_convert_bytes_back w _ _ _ ⟨g,0,none⟩ cap l Tryz.underlying112 Tryz.underlying5 Tryz.underlying9 (fun j hj=>by
  rw[Addr.add_lit,Nat.zero_add]
  exact h.cell j _ (List.getElem?_eq_getElem hj))
theorem lowB_up {c:UInt8} (h:65≤c.toNat∧c.toNat≤90):(lowB c).toNat=c.toNat+32:=by
 unfold lowB;rw[if_pos ⟨UInt8.le_iff_toNat_le.2 h.1,UInt8.le_iff_toNat_le.2 h.2⟩,UInt8.toNat_add];show (c.toNat+32) % 256=_;omega
theorem lowB_same {c:UInt8} (h:¬ (65≤c.toNat∧c.toNat≤90)):lowB c=c:=by
 unfold lowB;rw[if_neg (fun e=>h ⟨by have:=UInt8.le_iff_toNat_le.1 e.1;simpa using this,by have:=UInt8.le_iff_toNat_le.1 e.2;simpa using this⟩)]
def lowG (m:List UInt8) (i:Nat):List UInt8:=lowS (m.take i)++m.drop i
theorem lowG_len (m:List UInt8) (i:Nat):(lowG m i).length=m.length:=by
 unfold lowG lowS;rw[List.length_append,List.length_map,List.length_take,List.length_drop];omega
theorem lowG_step {m:List UInt8} {i:Nat} (h:i<m.length):lowG m (i+1)=(lowG m i).set i (lowB m[i]):=by
 have e:(lowS (m.take i)).length=i:=by unfold lowS;rw[List.length_map,List.length_take];omega
 unfold lowG;rw[List.drop_eq_getElem_cons h,List.take_succ_eq_append_getElem h,List.set_append,if_neg (by omega),e,Nat.sub_self,List.set_cons_zero];unfold lowS;rw[List.map_append,List.append_assoc];rfl
theorem lowG_at {m:List UInt8} {i:Nat} (h:i<m.length):(lowG m i)[i]?=some m[i]:=by
 have e:(lowS (m.take i)).length=i:=by unfold lowS;rw[List.length_map,List.length_take];omega
 unfold lowG;rw[List.getElem?_append_right (by omega),e,Nat.sub_self,List.drop_eq_getElem_cons h];rfl
theorem lowG_all (m:List UInt8):lowG m m.length=lowS m:=by
 unfold lowG;rw[List.take_length,List.drop_length,List.append_nil]
def tv (t:Tk):Value:=.agg #[.int .i64 t.kind,.string ⟨t.text.toArray⟩,.int .i64 t.num.1,.int .i64 t.num.2,.bool t.int,.bool t.id]
section
variable {w wr w':World} {B:Nat} {oa:Option Addr} {cap b o:Nat} {l:List Int} {i j:Nat} {row:Option Nat}
theorem Moved.far (h:Moved w wr B oa cap b o l i) (h0:RAt w B oa cap b o l j) (p:Addr) (v:Value) (hp:w.heap.size≤p.block):Moved w (wr.setCell p v) B oa cap b o l i :=
 h.push h0 (grownBy_set wr p v) (fun k hk=>by cases hk;exact hp)
theorem Moved.lies (h:Moved w wr B oa cap b o l i) (h0:RAt w B oa cap b o l j):B<w.heap.size:=h0.blk.lt
theorem Blk.mvd {g:Nat} {t:TypeId} {cs:Array Value} (h:Blk w g t cs) (hm:Moved w wr B oa cap b o l i) (hne:g≠B):Blk wr g t cs:=(hm.gb.block g h.lt (by simpa using hne)).trans h
end
set_option maxRecDepth 20000 in
set_option maxHeartbeats 4000000 in
theorem encodeS_any (d:List UInt8) (oa:Option Addr) (cap b o:Nat) (w:World) (hs:Sl w oa d.length cap b o 1 (runesV (runeF d))) (hp:plainB d) (hm:d.length≤1000) :
  Calls Tryz.prog 197 #[.slice oa d.length cap] w fun e w'=>(∃ v,e=.returned v∧Rw w w' 5 1 v d.length (bytesV d)):=by
 have HS:=Lib.hid (And.intro hs hp);obtain⟨N,hN⟩:∃ N,d.length=N:=⟨_,rfl⟩;rw[hN]at hm ⊢;have HN:=Lib.hid hN;clear hs hp hN
 go_enter Tryz.func197,Tryz.ntmps197
 go_wp2_with fail
 go_loopg [3,8] N (fun q s3 s8 wr=>∃ (i:Nat) (v:Value),v=s3∧s8=.int .i64 i∧Hid (Rw w wr 5 1 v i (bytesV (d.take i)))∧i≤N∧N-i≤q)
 case atStart=>exact⟨0,_,rfl,rfl,Lib.hid (Rw.start _ _ _),Nat.zero_le _,by omega⟩
 case round =>
  obtain⟨i,v,rfl,rfl,hR,hiN,hq⟩:=hrel
  by_cases hi:i<N
  · have gi:decide ((i:Int)<(N:Int))=true:=by simpa using hi
    have gin:decide (i<N)=true:=by simpa using hi
    have hil:i<d.length:=by rw[HN.out];exact hi
    have hsl2:=HS.out.1.below hR.out.below;rw[HN.out]at hsl2;obtain⟨rfl,hyb⟩:=hsl2.lies (by omega);have hcell:=hsl2.cell i _ (runesV_at (l:=runeF d) (by unfold runeF;rw[List.length_map];exact hil));rw[show (runeF d)[i]'(by unfold runeF;rw[List.length_map];exact hil)=((d[i]).toNat:Int) by unfold runeF;rw[List.getElem_map]]at hcell;have hx:=HS.out.2 _ (List.getElem_mem hil);have HT:=Lib.hid (show bytesV (d.take (i+1))=bytesV (d.take i)++[.int .u8 ((d[i]).toNat:Int)] by unfold bytesV;rw[List.take_succ_eq_append_getElem hil,List.map_append];rfl);generalize (d[i]).toNat=x at *;have HI:=Lib.hid (fun w=>isC_any (x:Int) w);rw[show isC (x:Int)=true by unfold isC;simp;omega]at HI
    have g1:decide ((x:Int)<(128:Int))=true:=by simp;omega
    clear hsl2;go_wp2_with fail;go_wp2_with fail
    ((with_reducible refine(HI.out _).mono ?_);rintro e w' ⟨rfl,rfl⟩)
    go_wp2_with (at_builtin;refine wpList_push elByte rfl _ _ rfl rfl hR.out 1 1 #[_] _ rfl rfl (by simp[Value.oneCell']) (by omega) (by omega) (by omega) ?_;intro g2 cap2 w2 hR2 hg2;have HR2:=Lib.hid hR2;clear hR2 hg2)
    go_roundg (N-(i+1))
    case measure=>omega
    case rel=>exact⟨i+1,_,rfl,by go_num,Lib.hid (by have:=HR2.out;rw[HT.out];exact this),hi,Nat.le_refl _⟩
  · obtain rfl:i=N:=by omega
    have gi:decide ((i:Int)<(i:Int))=false:=by simp
    have gin:decide (i<i)=false:=by simp
    have hR2:=hR.out;rw[List.take_of_length_le (by rw[HN.out];exact Nat.le_refl _)]at hR2;have HR2:=Lib.hid hR2;clear hR2 hR;go_wp2_with fail;go_ret;exact⟨_,rfl,HR2.out⟩
set_option maxHeartbeats 1000000 in
theorem textS_any (d:List UInt8) (oa:Option Addr) (cap b o:Nat) (w:World) (hs:Sl w oa d.length cap b o 1 (runesV (runeF d))) (hp:plainB d) (hm:d.length≤1000) :
  Calls Tryz.prog 156 #[.slice oa d.length cap] w fun e w'=>e=.returned (.string ⟨d.toArray⟩)∧Below w.heap.size w w':=by
 have HE:=Lib.hid (encodeS_any d oa cap b o w hs hp hm);clear hs hp
 go_enter Tryz.func156,Tryz.ntmps156
 go_wp2_with fail
 ((with_reducible refine HE.out.mono ?_);rintro e w' ⟨v,rfl,hR⟩)
 obtain⟨ya,yc,yb,rfl,hsl,_⟩:=hR.sl;have hcv:=conv_sl hsl;have hb:=hR.below;go_wp2_with fail;go_ret;exact⟨rfl,hb⟩
def midB (m:List UInt8) (i e:Nat):List UInt8:=(m.take e).drop i
theorem midB_plain {m:List UInt8} (h:plainB m) (i e:Nat):plainB (midB m i e):=fun c hc=>h c (List.mem_of_mem_take (List.mem_of_mem_drop hc))
theorem midB_len (m:List UInt8) {i e:Nat} (he:e≤m.length):(midB m i e).length=e-i:=by unfold midB;rw[List.length_drop,List.length_take];omega
theorem midB_next (m:List UInt8) {i p:Nat} (hi:i≤p) (hp:p<m.length):runeF (midB m i (p+1))=runeF (midB m i p)++[((m[p]).toNat:Int)]:=by
 unfold midB runeF;rw[List.take_succ_eq_append_getElem hp,List.drop_append_of_le_length (by rw[List.length_take];omega),List.map_append];rfl
theorem aF_plain {m:List UInt8} (h:plainB m) {p:Nat} (hp:p<m.length):aF (runeF m) p=((m[p]).toNat:Int):=by
 have hc:=(h _ (List.getElem_mem hp)).2;unfold aF runeF;rw[List.getElem?_map,List.getElem?_eq_getElem hp];simp only[Option.map_some];rw[if_pos (by unfold isC;simp;omega)]
set_option maxRecDepth 20000 in
set_option maxHeartbeats 8000000 in
theorem nameS_any {w:World} {B:Nat} {oa:Option Addr} {cap b o:Nat} {m:List UInt8} {i:Nat} (h:RAt w B oa cap b o (runeF m) i) (hp:plainB m) (hm:m.length≤1000) (e:Nat) (hie:i≤e) (hem:e<m.length) (hL:∀ j,i≤j→j<e→letterI (aF (runeF m) j)=true) (hE:letterI (aF (runeF m) e)=false) (hE2:escI (aF (runeF m) e) (aF (runeF m) (e+1))=false) :
  Calls Tryz.prog 152 #[.pointer (some ⟨B,0,none⟩)] w fun x w'=>x=.returned (.string ⟨(midB m i e).toArray⟩)∧Moved w w' B oa cap b o (runeF m) e:=by
 have he:=Nat.le_of_lt hem;have hsz:=h.blk.lt;have HR:=Lib.hid h;have HM:=Lib.hid (Moved.start h);have HH:=Lib.hid (And.intro hp (And.intro hL (And.intro hE hE2)))
 have hlr:(runeF m).length=m.length:=by unfold runeF;rw[List.length_map]
 clear h hp hL hE hE2
 go_enter Tryz.func152,Tryz.ntmps152
 go_wp2_with fail
 go_loopg [3] (e-i) (fun q s3 wr=>∃ (p:Nat) (v:Value),v=s3∧Hid (Moved w wr B oa cap b o (runeF m) p)∧Hid (wr.ownsRow w.heap.size 21 1 v (p-i) (runesV (runeF (midB m i p))))∧i≤p∧p≤e∧e-p≤q)
 case atStart=>exact⟨i,_,rfl,HM,Lib.hid (by rw[Nat.sub_self,show midB m i i=[] by unfold midB;exact List.drop_eq_nil_of_le (by rw[List.length_take];omega)];exact World.ownsRow_nil _ _ _ _),Nat.le_refl _,hie,Nat.le_refl _⟩
 case round =>
  clear HM;obtain⟨p,v,rfl,hM,hO,hip,hpe,hq⟩:=hrel;have hws:=hM.out.gb.size;have HA:=Lib.hid (at0_any hM.out.rd)
  by_cases hp:p<e
  · have hpm:p<m.length:=by omega
    have HN:=Lib.hid (midB_next m hip hpm)
    have hlet:=fun w=>letter3_any (aF (runeF m) p) w
    rw[HH.out.2.1 p hip hp]at hlet;have HL:=Lib.hid hlet;have hpp:=aF_plain HH.out.1 hpm;have hcb:=(HH.out.1 _ (List.getElem_mem hpm));rw[hpp]at HA HL;generalize (m[p]).toNat=c at *
    have gc:((c:Int) != -1)=true:=by rw[bne_iff_ne];omega
    clear hlet hpp;go_wp2_with fail
    ((with_reducible refine(HA.out).mono ?_);rintro e w' ⟨rfl,hbw⟩)
    obtain⟨m1,rfl⟩:=grow_mk hbw;clear hbw;go_wp2_with fail;go_wp2_with fail
    ((with_reducible refine(HL.out _).mono ?_);rintro e w' ⟨rfl,rfl⟩)
    have HM2:=Lib.hid (hM.out.grow m1);have HO2:=Lib.hid (owns_grow hO.out m1);have hsz2:=grow_size m1;clear hM hO HA HL;generalize grow _ m1=wx at *;go_wp2_with (at_builtin;refine wpList_put elRune rfl _ _ rfl rfl HO2.out (by omega) 1 1 #[.int .i32 c] _ rfl rfl (by simp[Value.oneCell']) (by omega) (by omega) (by omega) ?_;intro g2 cap2 w2 hR2 hg2 hr2;have HM3:=Lib.hid (HM2.out.push HR.out hg2 hr2);have HO3:=Lib.hid hR2;have hblk:=HM3.out.rd.blk;clear hR2 hg2 hr2 HM2 HO2;have cr0:=hblk.cell 0;have cr1:=hblk.cell 1;have fr1:=hblk.frozen 1;have lcr:=hblk.lt;clear hblk)
    go_roundg (e-(p+1))
    case measure=>omega
    case rel=>exact⟨p+1,_,rfl,Lib.hid (by have:=HM3.out.set (j:=p+1) (by omega);simpa using this),Lib.hid (by have:=ownsRow_setCell_below HO3.out (a:=⟨B,1,none⟩) hsz (.int .i64 ((p:Int)+1));rw[HN.out,show p+1-i=p-i+1 by omega];simpa[runesV] using this),by omega,hp,Nat.le_refl _⟩
  · obtain rfl:p=e:=by omega
    have hlet:=fun w=>letter3_any (aF (runeF m) p) w
    have hesc:=fun w=>esc_any (aF (runeF m) p) (aF (runeF m) (p+1)) w
    have HA1:=Lib.hid (fun m1=>at1_any (hM.out.grow m1).rd);rw[HH.out.2.2.1]at hlet;rw[HH.out.2.2.2]at hesc;have HL:=Lib.hid hlet;have HE:=Lib.hid hesc;obtain⟨va,vc,vb,rfl,hsl,_⟩:=sl_of_own hO.out;have HTX:=Lib.hid (fun wy (hy:Below wr.heap.size wr wy)=>textS_any (midB m i p) va vc vb 0 wy (by rw[midB_len m he];exact hsl.below hy) (midB_plain HH.out.1 i p) (by rw[midB_len m he];omega));rw[midB_len m he]at HTX;have hA2:=HA.out;have hce:=aF_plain HH.out.1 hem;rw[hce]at hA2 HL HE;generalize (m[p]).toNat=c at *
    have gc:((c:Int) != -1)=true:=by rw[bne_iff_ne];omega
    clear hlet hesc hO HA hsl hce;generalize aF (runeF m) (p+1)=c1 at *;have HA:=Lib.hid hA2;clear hA2;go_wp2_with fail
    ((with_reducible refine(HA.out).mono ?_);rintro e w' ⟨rfl,hbw⟩)
    obtain⟨m1,rfl⟩:=grow_mk hbw;clear hbw;have HM1:=Lib.hid (hM.out.grow m1);have HA3:=Lib.hid (HA1.out m1);have HTX2:=Lib.hid (fun m2=>HTX.out _ ((grow_below m1).trans ((grow_below m2).mono (grow_size m1))));clear hM HA HA1 HTX;generalize grow _ m1=wv at *;go_wp2_with fail;go_wp2_with fail
    ((with_reducible refine(HL.out _).mono ?_);rintro e w' ⟨rfl,rfl⟩)
    go_wp2_with fail
    ((with_reducible refine(HA3.out).mono ?_);rintro e w' ⟨rfl,hbw⟩)
    obtain⟨m2,rfl⟩:=grow_mk hbw;clear hbw;go_wp2_with fail
    ((with_reducible refine(HE.out _).mono ?_);rintro e w' ⟨rfl,rfl⟩)
    go_wp2_with fail;go_wp2_with fail
    ((with_reducible refine(HTX2.out m2).mono ?_);rintro e w' ⟨rfl,hbw⟩)
    obtain⟨m3,rfl⟩:=grow_mk hbw;clear hbw;go_wp2_with fail;go_ret;exact⟨rfl,(HM1.out.grow m2).below (by first|exact grow_below m3 | exact(grow_below _))⟩
theorem Blk.six {w:World} {g:Nat} {t:TypeId} {a0 a1 a2 a3 a4 a5:Value} (h:Blk w g t #[a0,a1,a2,a3,a4,a5]):w.cell? ⟨g,0,none⟩=some a0∧w.frozen? ⟨g,0,none⟩=false∧w.cell? ⟨g,1,none⟩=some a1∧w.frozen? ⟨g,1,none⟩=false∧w.cell? ⟨g,2,none⟩=some a2∧w.frozen? ⟨g,2,none⟩=false∧w.cell? ⟨g,3,none⟩=some a3∧w.frozen? ⟨g,3,none⟩=false∧w.cell? ⟨g,4,none⟩=some a4∧w.frozen? ⟨g,4,none⟩=false∧w.cell? ⟨g,5,none⟩=some a5∧w.frozen? ⟨g,5,none⟩=false∧g<w.heap.size :=
 ⟨h.cell 0,h.frozen 0,h.cell 1,h.frozen 1,h.cell 2,h.frozen 2,h.cell 3,h.frozen 3,h.cell 4,h.frozen 4,h.cell 5,h.frozen 5,h.lt⟩
theorem RAt.duo {w:World} {B:Nat} {oa:Option Addr} {cap b o:Nat} {l:List Int} {i:Nat} (h:RAt w B oa cap b o l i):w.cell? ⟨B,0,none⟩=some (.slice oa l.length cap)∧w.cell? ⟨B,1,none⟩=some (.int .i64 (i:Int))∧w.frozen? ⟨B,1,none⟩=false∧B<w.heap.size :=
 ⟨h.blk.cell 0,h.blk.cell 1,h.blk.frozen 1,h.blk.lt⟩
section
variable {w:World} {B:Nat} {oa:Option Addr} {cap b o:Nat} {l:List Int} {i:Nat}
set_option maxHeartbeats 1000000 in
theorem remarkS_any (h:RAt w B oa cap b o l i) (hc:aF l i≠47) :
  Calls Tryz.prog 106 #[.pointer (some ⟨B,0,none⟩)] w fun e w'=>e=.returned (.tuple #[])∧Moved w w' B oa cap b o l i:=by
 have hA:=at0_any h;have HM:=Lib.hid (Moved.start h);obtain⟨c,hc1⟩:∃ c,aF l i=c:=⟨_,rfl⟩;rw[hc1]at hA hc;have HA:=Lib.hid hA
 have k1:(c==47)=false:=by simpa using hc
 clear h hA hc hc1
 go_enter Tryz.func106,Tryz.ntmps106
 go_wp2_with fail
 go_loopg [] 0 (fun q wr=>wr=w∧0≤q)
 case atStart=>exact⟨rfl,Nat.le_refl _⟩
 case round =>
  obtain⟨rfl,hq⟩:=hrel;go_wp2_with fail
  ((with_reducible refine(HA.out).mono ?_);rintro e w' ⟨rfl,hbw⟩)
  obtain⟨m3,rfl⟩:=grow_mk hbw;clear hbw;have HM3:=Lib.hid (HM.out.grow m3);go_wp2_with fail
  go_end0
  exact⟨rfl,HM3.out⟩
def NameIs (B:Nat) (oa:Option Addr) (cap b o:Nat) (l:List Int) (i:Nat) (s:List UInt8) (e:Nat):Prop :=
 ∀ w,RAt w B oa cap b o l i→Calls Tryz.prog 152 #[.pointer (some ⟨B,0,none⟩)] w fun x w'=>x=.returned (.string ⟨s.toArray⟩)∧Moved w w' B oa cap b o l e
set_option maxRecDepth 20000 in
set_option maxHeartbeats 8000000 in
theorem wordS_any {s:List UInt8} {j:Nat} (h:RAt w B oa cap b o l i) (hn:NameIs B oa cap b o l i s j) (h40:aF l j≠40) :
  Calls Tryz.prog 155 #[.pointer (some ⟨B,0,none⟩)] w fun e w'=>e=.returned (tv (tok0 1 s))∧Moved w w' B oa cap b o l j:=by
 have hB:=h.blk.lt;have HR:=Lib.hid h;unfold NameIs at hn;have HNM:=Lib.hid hn;obtain⟨c,hc⟩:∃ c,aF l j=c:=⟨_,rfl⟩;have HC:=Lib.hid hc
 have g40:(c != 40)=true:=by rw[hc]at h40;simpa using h40
 obtain⟨r0,hr0⟩:∃ r0,w.heap.size=r0:=⟨_,rfl⟩
 have hBr:B<r0:=by omega
 clear h hn h40 hc
 go_enter Tryz.func155,Tryz.ntmps155
 go_upto_region 1 with fail
 have HR1:=Lib.hid (HR.out.old (.cells #[.int .i64 0,.string ⟨#[]⟩,.int .i64 0,.int .i64 0,.bool false,.bool false] 102));have hT:=Blk.new w 102 #[.int .i64 0,.string ⟨#[]⟩,.int .i64 0,.int .i64 0,.bool false,.bool false];have HW:=Lib.hid ((Moved.start HR.out).alloc (.cells #[.int .i64 0,.string ⟨#[]⟩,.int .i64 0,.int .i64 0,.bool false,.bool false] 102));rw[hr0]at hT;have HT:=Lib.hid hT;clear hT;generalize w.alloc _=w1 at *;go_wp2_with fail
 ((with_reducible refine(HNM.out _ HR1.out).mono ?_);rintro e w2 ⟨rfl,hmv⟩)
 have HM:=Lib.hid hmv;have hA:=at0_any HM.out.rd;rw[HC.out]at hA;have HA:=Lib.hid hA;clear hA hmv HNM HC;go_wp2_with fail;go_wp2_with fail
 ((with_reducible refine(HA.out).mono ?_);rintro e w' ⟨rfl,hbw⟩)
 obtain⟨m,rfl⟩:=grow_mk hbw;clear hbw;have HM1:=Lib.hid (HM.out.grow m);clear HM HA;generalize grow _ m=wx at *;obtain⟨c0,f0,c1,f1,c2,f2,c3,f3,c4,f4,c5,f5,l0⟩:=(HT.out.mvd HM1.out (by omega)).six;go_wp2_with fail
 exact bodyPost_ret (v:=tv (tok0 1 s)) (by simp[results,Tryz.results155,go_sem,c0,c1,c2,c3,c4,c5,l0,tv,tok0]) rfl ⟨rfl,by
  have h0:=HW.out.next HM1.out
  repeat (first|with_reducible exact h0 | (with_reducible refine Moved.far ?_ HR.out _ _ ?hq;case hq=>(show w.heap.size≤r0;omega)))⟩
end
end Go.Proofs.YtnbkbenkhkinoaaGreatDoor
