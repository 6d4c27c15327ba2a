/- Of my texts: TokF, TokG, TokH, TokI. -/
import Derived.Test.YtnahlfaehelfjaaGreatDoorM09
import Derived.Deep.RegionHeld3
namespace Go.Proofs.YtnahlfaehelfjaaGreatDoor
set_option linter.unusedVariables false
set_option linter.unusedSimpArgs false
open Go.RowKit
structure RAt (w:World) (B:Nat) (oa:Option Addr) (cap b o:Nat) (l:List Int) (i:Nat):Prop where
 blk:Blk w B 145 #[.slice oa l.length cap,.int .i64 (i:Int)]
 sl:Sl w oa l.length cap b o 1 (runesV l)
 ne:b≠B
 rng:∀ x∈l,I32 x
 pos:i≤l.length+8
 len:l.length≤549755813888
section
variable {w w':World} {B:Nat} {oa:Option Addr} {cap b o:Nat} {l:List Int} {i:Nat}
theorem RAt.below (h:RAt w B oa cap b o l i) (hb:Below w.heap.size w w'):RAt w' B oa cap b o l i :=
 ⟨h.blk.below hb h.blk.lt,h.sl.below hb,h.ne,h.rng,h.pos,h.len⟩
theorem RAt.grow (h:RAt w B oa cap b o l i) (m:Ext w):RAt (grow w m) B oa cap b o l i:=h.below (grow_below m)
theorem RAt.old (h:RAt w B oa cap b o l i) (ob:Obj):RAt (w.alloc ob) B oa cap b o l i:=h.below ((Below.refl _ _).alloc (Nat.le_refl _) ob)
theorem RAt.set (h:RAt w B oa cap b o l i) {j:Nat} (hj:j≤l.length+8):RAt (w.setCell ⟨B,1,none⟩ (.int .i64 (j:Int))) B oa cap b o l j :=
 ⟨(h.blk.put 1 _).to rfl,⟨h.sl.len,h.sl.le,h.sl.max,fun hp=>⟨(h.sl.lies hp).1,by simpa using (h.sl.lies hp).2⟩,fun k v hv=>by
   rw[World.cell?_setCell_other _ _ _ _ (by intro e;have:=congrArg Addr.block e;simp at this;exact h.ne this.symm)]
   exact h.sl.cell k v hv⟩,h.ne,h.rng,hj,h.len⟩
end
theorem aF_lt {l:List Int} {i:Nat} (h:aF l i≠-1):i<l.length:=by
 rcases Nat.lt_or_ge i l.length with h1 | h1
 · exact h1
 · exact absurd (by rw[aF,List.getElem?_eq_none h1]) h
theorem aF_32 {l:List Int} (h:∀ x∈l,I32 x) (i:Nat):I32 (aF l i):=by
 unfold aF;split
 · unfold I32;decide
 · rename_i x hx
   split
   · exact h x (List.mem_of_getElem? hx)
   · unfold I32;decide
set_option maxRecDepth 20000 in
set_option maxHeartbeats 4000000 in
theorem at_any {w:World} {B:Nat} {oa:Option Addr} {cap b o:Nat} {l:List Int} {i:Nat} (h:RAt w B oa cap b o l i) (k:Nat) (hk:k≤4) :
  Calls Tryz.prog 69 #[.pointer (some ⟨B,0,none⟩),.int .i64 k] w fun e w'=>e=.returned (.int .i32 (aF l (i+k)))∧Below w.heap.size w w':=by
 have hpos:=h.pos;have hlen:=h.len;obtain⟨N,hN⟩:∃ N,l.length=N:=⟨_,rfl⟩;rw[hN]at hpos hlen;obtain⟨j,hj⟩:∃ j,i+k=j:=⟨_,rfl⟩
 have ij:(i:Int)+(k:Int)=(j:Int):=by omega
 rw[hj];obtain⟨A,hA⟩:∃ A,aF l j=A:=⟨_,rfl⟩;rw[hA];have hblk:=h.blk;rw[hN]at hblk;have HB:=Lib.hid hblk;have cr0:w.cell? ⟨B,0,none⟩=some (.slice oa N cap):=(hblk).cell 0;have fcr0:=(hblk).frozen 0;have cr1:w.cell? ⟨B,1,none⟩=some (.int .i64 (i:Int)):=(hblk).cell 1;have fcr1:=(hblk).frozen 1;have lcr:=(hblk).lt;clear hblk
 by_cases hlt:j<N
 · have gl:decide ((N:Int)≤(j:Int))=false:=by simp;omega
   have gln:decide (N≤j)=false:=by simp;omega
   have hjl:j<l.length:=by omega
   obtain⟨rfl,hbl⟩:=h.sl.lies (by omega);rw[aF,List.getElem?_eq_getElem hjl]at hA;obtain⟨x,hx⟩:∃ x,l[j]=x:=⟨_,rfl⟩;rw[hx]at hA;simp only at hA;have HX:=Lib.hid hx
   have his:=fun w=>isC_any x w
   have HA:=Lib.hid hA;have HR:=Lib.hid h;clear h hx hA hj hN
   cases hc:isC x with
   | true =>
     rw[hc]at his;have HI:=Lib.hid his;have HF:=Lib.hid (show A=x by rw[← HA.out,hc];rfl);clear his hc HA
     go_enter Tryz.func69,Tryz.ntmps69
     go_upto_region 1 with fail
     refine wp_region_grow (by kernel_rfl) (by kernel_rfl) ?_
     repeat (go_big_quiet_step (fail))
     refine wpQuiet_nil ?_;rintro _ ⟨m1,rfl⟩;clear cr0 cr1 fcr0 fcr1 lcr;go_wp2_with fail;have hblk:=HB.out.grow m1;have cr0:(grow w m1).cell? ⟨B,0,none⟩=some (.slice (some ⟨b,o,none⟩) N cap):=(hblk).cell 0;have fcr0:=(hblk).frozen 0;have cr1:(grow w m1).cell? ⟨B,1,none⟩=some (.int .i64 (i:Int)):=(hblk).cell 1;have fcr1:=(hblk).frozen 1;have lcr:=(hblk).lt;have hcell:=(HR.out.grow m1).sl.cell j _ (runesV_at hjl);rw[HX.out]at hcell;have hbl1:b<(grow w m1).heap.size:=((HR.out.grow m1).sl.lies (by omega)).2;have hb:=grow_below m1;clear hblk;generalize grow w m1=w1 at *;refine wp_region_grow (by kernel_rfl) (by kernel_rfl) ?_
     repeat (go_big_quiet_step (fail))
     refine wpQuiet_nil ?_;rintro _ ⟨m2,rfl⟩;clear cr0 cr1 fcr0 fcr1 lcr hcell;go_wp2_with fail
     ((with_reducible refine(HI.out _).mono ?_);rintro e w' ⟨rfl,rfl⟩)
     replace hb:=below_grow hb m2;go_wp2_with fail;go_ret;exact⟨by rw[HF.out];rfl,hb⟩
   | false =>
     rw[hc]at his;have HI:=Lib.hid his;have HF:=Lib.hid (show A=65533 by rw[← HA.out,hc];rfl);clear his hc HA
     go_enter Tryz.func69,Tryz.ntmps69
     go_upto_region 1 with fail
     refine wp_region_grow (by kernel_rfl) (by kernel_rfl) ?_
     repeat (go_big_quiet_step (fail))
     refine wpQuiet_nil ?_;rintro _ ⟨m1,rfl⟩;clear cr0 cr1 fcr0 fcr1 lcr;go_wp2_with fail;have hblk:=HB.out.grow m1;have cr0:(grow w m1).cell? ⟨B,0,none⟩=some (.slice (some ⟨b,o,none⟩) N cap):=(hblk).cell 0;have fcr0:=(hblk).frozen 0;have cr1:(grow w m1).cell? ⟨B,1,none⟩=some (.int .i64 (i:Int)):=(hblk).cell 1;have fcr1:=(hblk).frozen 1;have lcr:=(hblk).lt;have hcell:=(HR.out.grow m1).sl.cell j _ (runesV_at hjl);rw[HX.out]at hcell;have hbl1:b<(grow w m1).heap.size:=((HR.out.grow m1).sl.lies (by omega)).2;have hb:=grow_below m1;clear hblk;generalize grow w m1=w1 at *;refine wp_region_grow (by kernel_rfl) (by kernel_rfl) ?_
     repeat (go_big_quiet_step (fail))
     refine wpQuiet_nil ?_;rintro _ ⟨m2,rfl⟩;clear cr0 cr1 fcr0 fcr1 lcr hcell;go_wp2_with fail
     ((with_reducible refine(HI.out _).mono ?_);rintro e w' ⟨rfl,rfl⟩)
     replace hb:=below_grow hb m2;go_wp2_with fail;go_ret;exact⟨by rw[HF.out];rfl,hb⟩
 · have gl:decide ((N:Int)≤(j:Int))=true:=by simp;omega
   have gln:decide (N≤j)=true:=by simp;omega
   rw[aF,List.getElem?_eq_none (by omega)]at hA;subst hA;clear h hj hN
   go_enter Tryz.func69,Tryz.ntmps69
   go_upto_region 1 with fail
   refine wp_region_grow (by kernel_rfl) (by kernel_rfl) ?_
   repeat (go_big_quiet_step (fail))
   refine wpQuiet_nil ?_;rintro _ ⟨m1,rfl⟩;clear cr0 cr1 fcr0 fcr1 lcr;go_wp2_with fail;go_ret;exact⟨rfl,grow_below m1⟩
section
variable {w:World} {B:Nat} {oa:Option Addr} {cap b o:Nat} {l:List Int} {i:Nat}
theorem at0_any (h:RAt w B oa cap b o l i):Calls Tryz.prog 69 #[.pointer (some ⟨B,0,none⟩),.int .i64 0] w fun e w'=>e=.returned (.int .i32 (aF l i))∧Below w.heap.size w w':=at_any h 0 (by omega)
theorem at1_any (h:RAt w B oa cap b o l i):Calls Tryz.prog 69 #[.pointer (some ⟨B,0,none⟩),.int .i64 1] w fun e w'=>e=.returned (.int .i32 (aF l (i+1)))∧Below w.heap.size w w':=at_any h 1 (by omega)
theorem at2_any (h:RAt w B oa cap b o l i):Calls Tryz.prog 69 #[.pointer (some ⟨B,0,none⟩),.int .i64 2] w fun e w'=>e=.returned (.int .i32 (aF l (i+2)))∧Below w.heap.size w w':=at_any h 2 (by omega)
theorem at3_any (h:RAt w B oa cap b o l i):Calls Tryz.prog 69 #[.pointer (some ⟨B,0,none⟩),.int .i64 3] w fun e w'=>e=.returned (.int .i32 (aF l (i+3)))∧Below w.heap.size w w':=at_any h 3 (by omega)
end
structure Moved (w w':World) (B:Nat) (oa:Option Addr) (cap b o:Nat) (l:List Int) (i:Nat):Prop where
 gb:w.grownBy w' (some B)
 rd:RAt w' B oa cap b o l i
section
variable {w w' w2:World} {B:Nat} {oa:Option Addr} {cap b o:Nat} {l:List Int} {i j:Nat}
theorem Moved.start (h:RAt w B oa cap b o l i):Moved w w B oa cap b o l i:=⟨World.grownBy.refl _ _,h⟩
theorem Moved.below (h:Moved w w' B oa cap b o l i) (hb:Below w'.heap.size w' w2):Moved w w2 B oa cap b o l i:=⟨grownBy_trans h.gb (grownBy_of_below hb _),h.rd.below hb⟩
theorem Moved.grow (h:Moved w w' B oa cap b o l i) (m:Ext w'):Moved w (grow w' m) B oa cap b o l i:=h.below (grow_below m)
theorem Moved.next (h:Moved w w' B oa cap b o l i) (h2:Moved w' w2 B oa cap b o l j):Moved w w2 B oa cap b o l j:=⟨grownBy_trans h.gb h2.gb,h2.rd⟩
theorem grownBy_set (w:World) (p:Addr) (v:Value):w.grownBy (w.setCell p v) (some p.block) :=
 ⟨rfl,rfl,rfl,by simp[World.setCell],fun k _ hne=>Below.heap_setCell w p v k (fun e=>hne (by rw[e]))⟩
theorem Moved.set (h:Moved w w' B oa cap b o l i) (hj:j≤l.length+8):Moved w (w'.setCell ⟨B,1,none⟩ (.int .i64 (j:Int))) B oa cap b o l j :=
 ⟨grownBy_trans h.gb (grownBy_set w' ⟨B,1,none⟩ _),h.rd.set hj⟩
theorem Moved.alloc (h:Moved w w' B oa cap b o l i) (ob:Obj):Moved w (w'.alloc ob) B oa cap b o l i:=h.below ((Below.refl _ _).alloc (Nat.le_refl _) ob)
end
theorem digit_lt {l:List Int} {i:Nat} (h:digitI (aF l i)=true):i<l.length:=aF_lt fun e=>by rw[e]at h;cases h
theorem blank_lt {l:List Int} {i:Nat} (h:blankI (aF l i)=true):i<l.length:=aF_lt fun e=>by rw[e]at h;cases h
set_option maxRecDepth 20000 in
set_option maxHeartbeats 4000000 in
theorem digits3_any {w:World} {B:Nat} {oa:Option Addr} {cap b o:Nat} {l:List Int} {i:Nat} (h:RAt w B oa cap b o l i) :
  Calls Tryz.prog 143 #[.pointer (some ⟨B,0,none⟩)] w fun e w'=>e=.returned (.tuple #[])∧Moved w w' B oa cap b o l (digF l i):=by
 obtain⟨E,hE⟩:∃ E,digF l i=E:=⟨_,rfl⟩;rw[hE];have HE:=Lib.hid (show digE l (l.length+2-i) i=E from hE);have HM:=Lib.hid (Moved.start h);have hl:=h.len
 have hN0:l.length≤(l.length+2-i)+i:=by omega
 clear hE h
 go_enter Tryz.func143,Tryz.ntmps143
 go_wp2_with fail
 go_loopg [] (l.length+2-i) (fun q wr=>∃ (i f:Nat),Hid (Moved w wr B oa cap b o l i)∧Hid (digE l f i=E)∧l.length≤f+i∧f≤q)
 case atStart=>exact⟨i,_,HM,HE,hN0,Nat.le_refl _⟩
 case round =>
  clear HM HE hN0;obtain⟨i,f,hM,hE,hf,hq⟩:=hrel;have hat:=at0_any hM.out.rd
  have hdg:=fun w=>digit3_any (aF l i) w
  cases hd:digitI (aF l i) with
  | true =>
    have hi:=digit_lt hd;obtain⟨f,rfl⟩:∃ f',f=f'+1:=⟨f-1,by omega⟩;have hE2:=hE.out;rw[digE,if_pos hd]at hE2;rw[hd]at hdg;have HA:=Lib.hid hat;have HD:=Lib.hid hdg;have HE2:=Lib.hid hE2;generalize aF l i=c at *;clear hat hdg hE2 hE hd;go_wp2_with fail
    ((with_reducible refine(HA.out).mono ?_);rintro e w' ⟨rfl,hbw⟩)
    obtain⟨m,rfl⟩:=grow_mk hbw;clear hbw;go_wp2_with fail
    ((with_reducible refine(HD.out _).mono ?_);rintro e w' ⟨rfl,rfl⟩)
    have HM2:=Lib.hid (hM.out.grow m);have hblk:=(hM.out.grow m).rd.blk;clear hM HA HD;generalize grow _ m=wx at *;have cr0:wx.cell? ⟨B,0,none⟩=some (.slice oa l.length cap):=(hblk).cell 0;have fcr0:=(hblk).frozen 0;have cr1:wx.cell? ⟨B,1,none⟩=some (.int .i64 (i:Int)):=(hblk).cell 1;have fcr1:=(hblk).frozen 1;have lcr:=(hblk).lt;clear hblk;go_wp2_with fail
    go_roundg f
    case measure=>omega
    case rel=>exact⟨i+1,f,Lib.hid (by have:=HM2.out.set (j:=i+1) (by omega);simpa using this),HE2,by omega,Nat.le_refl _⟩
  | false =>
    have hEi:E=i:=by
     have h0:=hE.out
     cases f with
     | zero=>exact h0.symm
     | succ f =>
       rw[digE,hd]at h0;exact h0.symm
    subst hEi;rw[hd]at hdg;have HA:=Lib.hid hat;have HD:=Lib.hid hdg;generalize aF l E=c at *;clear hat hdg hE hd;go_wp2_with fail
    ((with_reducible refine(HA.out).mono ?_);rintro e w' ⟨rfl,hbw⟩)
    obtain⟨m,rfl⟩:=grow_mk hbw;clear hbw;go_wp2_with fail
    ((with_reducible refine(HD.out _).mono ?_);rintro e w' ⟨rfl,rfl⟩)
    go_wp2_with fail
    go_end0
    exact⟨rfl,hM.out.grow m⟩
set_option maxRecDepth 20000 in
set_option maxHeartbeats 4000000 in
theorem blanks_any {w:World} {B:Nat} {oa:Option Addr} {cap b o:Nat} {l:List Int} {i:Nat} (h:RAt w B oa cap b o l i) :
  Calls Tryz.prog 101 #[.pointer (some ⟨B,0,none⟩)] w fun e w'=>e=.returned (.tuple #[])∧Moved w w' B oa cap b o l (blaF l i):=by
 obtain⟨E,hE⟩:∃ E,blaF l i=E:=⟨_,rfl⟩;rw[hE];have HE:=Lib.hid (show blaE l (l.length+2-i) i=E from hE);have HM:=Lib.hid (Moved.start h);have hl:=h.len
 have hN0:l.length≤(l.length+2-i)+i:=by omega
 clear hE h
 go_enter Tryz.func101,Tryz.ntmps101
 go_wp2_with fail
 go_loopg [] (l.length+2-i) (fun q wr=>∃ (i f:Nat),Hid (Moved w wr B oa cap b o l i)∧Hid (blaE l f i=E)∧l.length≤f+i∧f≤q)
 case atStart=>exact⟨i,_,HM,HE,hN0,Nat.le_refl _⟩
 case round =>
  clear HM HE hN0;obtain⟨i,f,hM,hE,hf,hq⟩:=hrel;have hat:=at0_any hM.out.rd
  have hdg:=fun w=>blank_any (aF l i) w
  cases hd:blankI (aF l i) with
  | true =>
    have hi:=blank_lt hd;obtain⟨f,rfl⟩:∃ f',f=f'+1:=⟨f-1,by omega⟩;have hE2:=hE.out;rw[blaE,if_pos hd]at hE2;rw[hd]at hdg;have HA:=Lib.hid hat;have HD:=Lib.hid hdg;have HE2:=Lib.hid hE2;generalize aF l i=c at *;clear hat hdg hE2 hE hd;go_wp2_with fail
    ((with_reducible refine(HA.out).mono ?_);rintro e w' ⟨rfl,hbw⟩)
    obtain⟨m,rfl⟩:=grow_mk hbw;clear hbw;go_wp2_with fail
    ((with_reducible refine(HD.out _).mono ?_);rintro e w' ⟨rfl,rfl⟩)
    have HM2:=Lib.hid (hM.out.grow m);have hblk:=(hM.out.grow m).rd.blk;clear hM HA HD;generalize grow _ m=wx at *;have cr0:wx.cell? ⟨B,0,none⟩=some (.slice oa l.length cap):=(hblk).cell 0;have fcr0:=(hblk).frozen 0;have cr1:wx.cell? ⟨B,1,none⟩=some (.int .i64 (i:Int)):=(hblk).cell 1;have fcr1:=(hblk).frozen 1;have lcr:=(hblk).lt;clear hblk;go_wp2_with fail
    go_roundg f
    case measure=>omega
    case rel=>exact⟨i+1,f,Lib.hid (by have:=HM2.out.set (j:=i+1) (by omega);simpa using this),HE2,by omega,Nat.le_refl _⟩
  | false =>
    have hEi:E=i:=by
     have h0:=hE.out
     cases f with
     | zero=>exact h0.symm
     | succ f =>
       rw[blaE,hd]at h0;exact h0.symm
    subst hEi;rw[hd]at hdg;have HA:=Lib.hid hat;have HD:=Lib.hid hdg;generalize aF l E=c at *;clear hat hdg hE hd;go_wp2_with fail
    ((with_reducible refine(HA.out).mono ?_);rintro e w' ⟨rfl,hbw⟩)
    obtain⟨m,rfl⟩:=grow_mk hbw;clear hbw;go_wp2_with fail
    ((with_reducible refine(HD.out _).mono ?_);rintro e w' ⟨rfl,rfl⟩)
    go_wp2_with fail
    go_end0
    exact⟨rfl,hM.out.grow m⟩
theorem hexI_range {x n:Int} (h:hexI x=some n):0≤n∧n≤15∧x≠-1:=by
 unfold hexI at h;split at h
 · rename_i hd
   simp only[digitI,Bool.and_eq_true,decide_eq_true_eq]at hd;obtain rfl:=Option.some.inj h;omega
 · split at h
   · obtain rfl:=Option.some.inj h;omega
   · split at h
     · obtain rfl:=Option.some.inj h;omega
     · cases h
theorem hexV_some {x n:Int} (h:hexI x=some n):hexV x=.tuple #[.int .i32 n,.bool true]:=by unfold hexV;rw[h]
theorem hexV_none {x:Int} (h:hexI x=none):hexV x=.tuple #[.int .i32 0,.bool false]:=by unfold hexV;rw[h]
theorem pow16_le {k:Nat} (h:k≤6):(16:Int) ^ k≤16777216:=by
 have:k=0∨k=1∨k=2∨k=3∨k=4∨k=5∨k=6:=by omega
 rcases this with rfl|rfl|rfl|rfl|rfl|rfl|rfl<;>decide
set_option maxRecDepth 20000 in
set_option maxHeartbeats 8000000 in
theorem taken_any {w:World} {B:Nat} {oa:Option Addr} {cap b o:Nat} {l:List Int} {i:Nat} (h:RAt w B oa cap b o l i) :
  Calls Tryz.prog 140 #[.pointer (some ⟨B,0,none⟩)] w fun e w'=>e=.returned (.int .i32 (takenF l i).1)∧Moved w w' B oa cap b o l (takenF l i).2:=by
 obtain⟨T,hT⟩:∃ T,takenF l i=T:=⟨_,rfl⟩;rw[hT];have hrng:=h.rng;have hl:=h.len;have hat:=at0_any h
 have hhx:=fun w=>hex_any (aF l i) w (aF_32 hrng i)
 have HA:=Lib.hid hat;have HR:=Lib.hid h;have HRN:=Lib.hid hrng;clear hat hrng
 cases hx:hexI (aF l i) with
 | none =>
   rw[hexV_none hx]at hhx;have HH:=Lib.hid hhx
   have hT2:T=if aF l i=-1 then (65533,i) else (aF l i,i+1):=by
    rw[← hT,takenF,hx]
   have HT:=Lib.hid hT2
   have hat2:=fun(m:Ext w)=>at0_any (h.grow m)
   have HA2:=Lib.hid hat2;have hir:=@aF_lt l i;obtain⟨c,hc⟩:∃ c,aF l i=c:=⟨_,rfl⟩;rw[hc]at hir;have hcc:=HA.out;have hcc2:=HA2.out;have hct:=HT.out;have hch:=HH.out;rw[hc]at hcc hcc2 hct hch;have HA:=Lib.hid hcc;have HA2:=Lib.hid hcc2;have HT:=Lib.hid hct;have HH:=Lib.hid hch;clear hcc hcc2 hct hch hhx hT hT2 hat2 hx h
   by_cases he:c=-1
   · subst he;have HT2:=Lib.hid (show T=(65533,i) by rw[HT.out,if_pos rfl]);clear hir hc
     go_enter Tryz.func140,Tryz.ntmps140
     go_wp2_with fail
     ((with_reducible refine(HA.out).mono ?_);rintro e w' ⟨rfl,hbw⟩)
     obtain⟨m,rfl⟩:=grow_mk hbw;clear hbw;go_wp2_with fail
     ((with_reducible refine(HH.out _).mono ?_);rintro e w' ⟨rfl,rfl⟩)
     go_wp2_with fail;go_wp2_with fail
     ((with_reducible refine(HA2.out m).mono ?_);rintro e w' ⟨rfl,hbw⟩)
     obtain⟨m2,rfl⟩:=grow_mk hbw;clear hbw;go_wp2_with fail;go_ret;exact⟨by rw[HT2.out];rfl,by rw[HT2.out];exact(Moved.start HR.out).grow m |>.grow m2⟩
   · have hi:=hir he
     have gc:(c==-1)=false:=by simpa using he
     have HT2:=Lib.hid (show T=(c,i+1) by rw[HT.out,if_neg he]);clear hir hc
     go_enter Tryz.func140,Tryz.ntmps140
     go_wp2_with fail
     ((with_reducible refine(HA.out).mono ?_);rintro e w' ⟨rfl,hbw⟩)
     obtain⟨m,rfl⟩:=grow_mk hbw;clear hbw;go_wp2_with fail
     ((with_reducible refine(HH.out _).mono ?_);rintro e w' ⟨rfl,rfl⟩)
     go_wp2_with fail;go_wp2_with fail
     ((with_reducible refine(HA2.out m).mono ?_);rintro e w' ⟨rfl,hbw⟩)
     obtain⟨m2,rfl⟩:=grow_mk hbw;clear hbw;have HM:=Lib.hid (((Moved.start HR.out).grow m).grow m2);have hblk:=HM.out.rd.blk;generalize grow (grow _ m) m2=wx at *;have cr0:wx.cell? ⟨B,0,none⟩=some (.slice oa l.length cap):=(hblk).cell 0;have fcr0:=(hblk).frozen 0;have cr1:wx.cell? ⟨B,1,none⟩=some (.int .i64 (i:Int)):=(hblk).cell 1;have fcr1:=(hblk).frozen 1;have lcr:=(hblk).lt;clear hblk HA HA2;go_wp2_with fail;go_ret;exact⟨by rw[HT2.out];rfl,by rw[HT2.out];have:=HM.out.set (j:=i+1) (by omega);simpa using this⟩
 | some n0 =>
   have hi:=aF_lt (hexI_range hx).2.2;obtain⟨R,hR⟩:∃ R,hexR l 6 0 i=R:=⟨_,rfl⟩
   have hT2:T=(if R.1=0∨isC R.1=false then 65533 else R.1,if blankI (aF l R.2) then R.2+1 else R.2):=by
    rw[← hT,takenF,hx];simp only[hR]
   have HT:=Lib.hid hT2;have HRR:=Lib.hid hR;rw[hexV_some hx]at hhx;have HH:=Lib.hid hhx;have HV:=Lib.hid (hexV_some hx);clear hT hT2 hR hhx hx h;obtain⟨r,j⟩:=R
   go_enter Tryz.func140,Tryz.ntmps140
   go_wp2_with fail
   ((with_reducible refine(HA.out).mono ?_);rintro e w' ⟨rfl,hbw⟩)
   obtain⟨m,rfl⟩:=grow_mk hbw;clear hbw;go_wp2_with fail
   ((with_reducible refine(HH.out _).mono ?_);rintro e w' ⟨rfl,rfl⟩)
   have HM:=Lib.hid ((Moved.start HR.out).grow m);generalize grow _ m=wx at *;clear HA HH;go_wp2_with fail
   go_loopg [3,4,6,7] 6 (fun q s3 s4 s6 s7 wr=>∃ (x:Int) (ok:Bool) (n:Int) (k p:Nat),s3=.int .i32 x∧s4=.bool ok∧s6=.int .i32 n∧s7=.int .i64 k∧Hid (Moved w wr B oa cap b o l p)∧Hid (hexV (aF l p)=.tuple #[.int .i32 x,.bool ok])∧Hid (hexR l (6-k) n p=(r,j))∧k≤6∧0≤n∧n<16 ^ k∧6-k≤q)
   case atStart=>exact⟨n0,true,0,0,i,rfl,rfl,rfl,rfl,HM,HV,HRR,by omega,by decide,by decide,by omega⟩
   case round =>
    clear HM HV HRR;obtain⟨x,ok,n,k,p,rfl,rfl,rfl,rfl,hM,hV,hRR,hk,hn0,hn1,hq⟩:=hrel;have hn24:=pow16_le hk
    by_cases hgo:k<6∧ok=true
    · obtain⟨hk6,rfl⟩:=hgo
      have gk:decide ((k:Int)<6)=true:=by simp;omega
      have hxs:hexI (aF l p)=some x:=by
       have h0:=hV.out
       cases hh:hexI (aF l p) with
       | none=>rw[hexV_none hh]at h0;simp at h0
       | some y=>rw[hexV_some hh]at h0;simp at h0;rw[h0]
      obtain⟨x0,x1,x2⟩:=hexI_range hxs;have hp:=aF_lt x2;have h5:=pow16_le (k:=k+1) (by omega);have hR2:=hRR.out;rw[show 6-k=(6-(k+1))+1 by omega,hexR,hxs]at hR2;simp only at hR2
      have hn2:n*16+x<16 ^ (k+1):=by
       rw[Int.pow_succ];clear h5 hn24;generalize (16:Int) ^ k=P at *;omega
      have hn3:n≤1048575:=by
       rw[Int.pow_succ]at h5;clear hn24 hn2;generalize (16:Int) ^ k=P at *;omega
      obtain⟨n2,hne⟩:∃ n2,n*16+x=n2:=⟨_,rfl⟩;rw[hne]at hR2 hn2
      have hn20:0≤n2:=by omega
      have HR2:=Lib.hid hR2
      have hM2:∀ wy,wy=wr.setCell ⟨B,1,none⟩ (.int .i64 ((p+1:Nat):Int))→Moved w wy B oa cap b o l (p+1):=fun wy e=>by rw[e];exact hM.out.set (by omega)
      have hblk:=hM.out.rd.blk;have cr0:wr.cell? ⟨B,0,none⟩=some (.slice oa l.length cap):=(hblk).cell 0;have fcr0:=(hblk).frozen 0;have cr1:wr.cell? ⟨B,1,none⟩=some (.int .i64 (p:Int)):=(hblk).cell 1;have fcr1:=(hblk).frozen 1;have lcr:=(hblk).lt
      have ip:((p+1:Nat):Int)=(p:Int)+1:=by omega
      rw[ip]at hM2;have HM2:=Lib.hid hM2;have HA:=Lib.hid (at0_any (hM2 _ rfl).rd)
      have hhx:=fun w=>hex_any (aF l (p+1)) w (aF_32 HRN.out _)
      obtain⟨y,ok2,hy⟩:∃ y ok2,hexV (aF l (p+1))=.tuple #[.int .i32 y,.bool ok2]:=by unfold hexV;split<;>exact⟨_,_,rfl⟩
      rw[hy]at hhx;have HY:=Lib.hid hy;have HH:=Lib.hid hhx;clear hblk hM2 hR2 hM hV hRR hhx hy hxs ip x2 h5 hn24;go_wp2_with fail;go_wp2_with fail
      ((with_reducible refine(HA.out).mono ?_);rintro e w' ⟨rfl,hbw⟩)
      obtain⟨m2,rfl⟩:=grow_mk hbw;clear hbw;go_wp2_with fail
      ((with_reducible refine(HH.out _).mono ?_);rintro e w' ⟨rfl,rfl⟩)
      go_wp2_with fail
      go_roundg (6-(k+1))
      case measure=>omega
      case rel=>exact⟨y,ok2,n2,k+1,p+1,rfl,rfl,by go_num,by go_num,Lib.hid ((HM2.out _ rfl).grow m2),HY,HR2,by omega,hn20,hn2,Nat.le_refl _⟩
    · have hend:r=n∧j=p:=by
       have h0:=hRR.out
       by_cases hk6:k<6
       · have hok:ok=false:=by
          cases ok with
          | false=>rfl
          | true=>exact absurd ⟨hk6,rfl⟩ hgo
         subst hok
         have hnone:hexI (aF l p)=none:=by
          have h1:=hV.out
          cases hh:hexI (aF l p) with
          | none=>rfl
          | some y=>rw[hexV_some hh]at h1;simp at h1
         rw[show 6-k=(6-(k+1))+1 by omega,hexR,hnone]at h0;simp only[Prod.mk.injEq]at h0;exact⟨h0.1.symm,h0.2.symm⟩
       · rw[show 6-k=0 by omega,hexR,Prod.mk.injEq]at h0;exact⟨h0.1.symm,h0.2.symm⟩
      obtain⟨rfl,rfl⟩:=hend
      have ways:decide ((k:Int)<6)=false∨decide ((k:Int)<6)=true∧ok=false:=by
       by_cases hk6:k<6
       · refine Or.inr ⟨by simp;omega,?_⟩
         cases ok with
         | false=>rfl
         | true=>exact absurd ⟨hk6,rfl⟩ hgo
       · exact Or.inl (by simp;omega)
      have hat:=at0_any hM.out.rd
      have hbl:=fun w=>blank_any (aF l j) w
      have his:=fun w=>isC_any r w
      have hT:=HT.out;have hlt:blankI (aF l j)=true→j<l.length:=blank_lt;obtain⟨bb,hbb⟩:∃ bb,blankI (aF l j)=bb:=⟨_,rfl⟩;rw[hbb]at hbl hT hlt;generalize aF l j=c at *;have HA:=Lib.hid hat;have HB:=Lib.hid hbl;have HLT:=Lib.hid hlt
      have hblk:=fun m=>(hM.out.grow m).rd.blk
      have HBLK:=Lib.hid hblk;clear hRR hV hgo hat hbl hbb hlt hblk HT hn1 hn24
      have rways:(r=0∧T.1=65533)∨((r==0)=false∧isC r=false∧T.1=65533)∨((r==0)=false∧isC r=true∧T.1=r):=by
       by_cases h0:r=0
       · exact Or.inl ⟨h0,by rw[hT,if_pos (Or.inl h0)]⟩
       · cases hc:isC r with
         | false=>exact Or.inr (Or.inl ⟨by simpa using h0,rfl,by rw[hT,if_pos (Or.inr hc)]⟩)
         | true=>exact Or.inr (Or.inr ⟨by simpa using h0,rfl,by rw[hT,if_neg (by rw[hc];simp[h0])]⟩)
      have hT2:T.2=if bb=true then j+1 else j:=by rw[hT]
      have HT2:=Lib.hid hT2;clear hT hT2
      rcases ways with g1 | ⟨g1,rfl⟩
      all_goals
       go_wp2_with fail;go_wp2_with fail
       ((with_reducible refine(HA.out).mono ?_);rintro e w' ⟨rfl,hbw⟩)
       obtain⟨m3,rfl⟩:=grow_mk hbw;clear hbw;go_wp2_with fail
       ((with_reducible refine(HB.out _).mono ?_);rintro e w' ⟨rfl,rfl⟩)
       have hbk:=HBLK.out m3;have HM3:=Lib.hid (hM.out.grow m3);clear HBLK HA HB;generalize grow _ m3=wy at *;have cr0:wy.cell? ⟨B,0,none⟩=some (.slice oa l.length cap):=(hbk).cell 0;have fcr0:=(hbk).frozen 0;have cr1:wy.cell? ⟨B,1,none⟩=some (.int .i64 (j:Int)):=(hbk).cell 1;have fcr1:=(hbk).frozen 1;have lcr:=(hbk).lt;clear hbk
       cases bb with
       | true =>
         have hj:=HLT.out rfl
         have ij:((j+1:Nat):Int)=(j:Int)+1:=by omega
         have hM4:=HM3.out.set (j:=j+1) (by omega);rw[ij]at hM4;have HM4:=Lib.hid hM4;have HT3:=Lib.hid (show T.2=j+1 by rw[HT2.out,if_pos rfl]);clear hM4 HT2 ij
         rcases rways with ⟨rfl,e⟩ | ⟨r1,r2,e⟩ | ⟨r1,r2,e⟩
         all_goals
          have HE:=Lib.hid e;clear e
          first | (rw[r2]at his) | skip
          have HI:=Lib.hid his;clear his;go_wp2_with fail
          first | ((with_reducible refine(HI.out _).mono ?_);rintro e w' ⟨rfl,rfl⟩) | skip
          go_wp2_with fail;go_ret;exact⟨by rw[HE.out];rfl,by rw[HT3.out];exact HM4.out⟩
       | false =>
         have HT3:=Lib.hid (show T.2=j by rw[HT2.out];rfl);clear HT2
         rcases rways with ⟨rfl,e⟩ | ⟨r1,r2,e⟩ | ⟨r1,r2,e⟩
         all_goals
          have HE:=Lib.hid e;clear e
          first | (rw[r2]at his) | skip
          have HI:=Lib.hid his;clear his;go_wp2_with fail
          first | ((with_reducible refine(HI.out _).mono ?_);rintro e w' ⟨rfl,rfl⟩) | skip
          go_wp2_with fail;go_ret;exact⟨by rw[HE.out];rfl,by rw[HT3.out];exact HM3.out⟩
theorem wpList_put {ops:Array Oper} {rest:List Oper} {o:Oper} {a:Act} {Q:Exit→Act→World→Prop} {base:Nat} {w:World} {t e:TypeId} {z:Value} {size bytes:Nat} (E:El t e z size bytes)
  (hgd:o.guard=none) (s x:Operand) (ho:o.op=.call { callee:=.builtin .append,args:=#[s,x],argTypes:=#[t,t] }) {v:Value} {n:Nat} {xs:List Value} (hs:a.eval s=v)
  (hown:w.ownsRow base e size v n xs) (hbase:base≤w.heap.size) (m c:Nat) (cs:Array Value) (tc:TypeId) (hx:a.eval x=.slice (some ⟨w.heap.size,0,none⟩) m c) (hl:cs.toList.length=m*size) (h1:∀ u∈cs.toList,u.oneCell'=true)
  (hm:0<m) (hbytes:(n+m)*bytes≤140737488355328) (h63:n+m≤140737488355328)
  (h:∀ g cap w',w'.ownsRow base e size (.slice (some ⟨g,0,none⟩) (n+m) cap) (n+m) (xs++cs.toList)→w.grownBy w' v.ownBlock→(∀ k,v.ownBlock=some k→base≤k)→wpList Tryz.prog ops Q rest (a.put o.dst (.slice (some ⟨g,0,none⟩) (n+m) cap)) w') :
  wpList Tryz.prog ops Q (o::rest) a (w.alloc (.cells cs tc)):=by
 obtain⟨i0,hi0,hz0,hz1,hz2⟩:=info_parts E.info
 refine wpList_append_lies _ hgd s x t ho base e i0 z size bytes E.under hi0 hz0 hz1 hz2 E.zs E.pos v n xs hs (hown.alloc _) ⟨w.heap.size,0,none⟩ m c cs.toList hx hl
  (World.news_of_block (cs:=cs) (t:=tc) (fr:=(0,0)) (heap_alloc_new w _)) h1 hm (Nat.le_trans h63 (by decide)) hbytes (Nat.le_trans hbase (by simp)) _ rfl fun g cap w' hown hg _ _=>?_
 exact h g cap w' hown (grownBy_trans (World.grownBy_alloc w _ _) hg) (fun k hk=>(by assumption:w.ownsRow base e size v n xs).lt k hk |>.1)
section
variable {w wr w':World} {B:Nat} {oa:Option Addr} {cap b o:Nat} {l:List Int} {i j:Nat} {row:Option Nat}
theorem RAt.grown (h:RAt wr B oa cap b o l i) (hg:wr.grownBy w' row) (h1:row≠some B) (h2:0<l.length→row≠some b):RAt w' B oa cap b o l i :=
 ⟨(hg.block B h.blk.lt (Ne.symm h1)).trans h.blk,h.sl.grown hg (fun hp=>Ne.symm (h2 hp)),h.ne,h.rng,h.pos,h.len⟩
theorem Moved.push (h:Moved w wr B oa cap b o l i) (h0:RAt w B oa cap b o l j) (hg:wr.grownBy w' row) (hr:∀ k,row=some k→w.heap.size≤k):Moved w w' B oa cap b o l i :=
 ⟨grownBy_far h.gb hg hr,h.rd.grown hg (fun e=>by have:=hr B e;have:=h0.blk.lt;omega) (fun hp e=>by have:=hr b e;have:=(h0.sl.lies hp).2;omega)⟩
end
theorem owns_moved {w w':World} {base:Nat} {e:TypeId} {size:Nat} {v:Value} {n:Nat} {xs:List Value} {B:Nat} (h:w.ownsRow base e size v n xs) (hg:w.grownBy w' (some B)) (hB:B<base):w'.ownsRow base e size v n xs :=
 h.kept hg (by
  cases hv:v.ownBlock with
  | none=>exact .inl rfl
  | some k=>exact .inr (fun e=>by have:=(h.lt k hv).1;have:=Option.some.inj e;omega))
theorem owns_grow {w:World} {base:Nat} {e:TypeId} {size:Nat} {v:Value} {n:Nat} {xs:List Value} (h:w.ownsRow base e size v n xs) (m:Ext w):(grow w m).ownsRow base e size v n xs :=
 h.kept (grownBy_of_below (grow_below m) none) (by cases v.ownBlock<;>simp)
theorem hexR_le (l:List Int):∀ (k:Nat) (n:Int) (i:Nat),i≤(hexR l k n i).2
 | 0,_,_=>Nat.le_refl _
 | k+1,n,i=>by
   unfold hexR;split
   · exact Nat.le_refl _
   · rename_i x _
     exact Nat.le_trans (Nat.le_succ i) (hexR_le l k _ (i+1))
theorem takenF_le (l:List Int) (i:Nat):i≤(takenF l i).2:=by
 unfold takenF;split
 · split<;>simp
 · have:=hexR_le l 6 0 i;simp only;split<;>omega
theorem takenF_32 {l:List Int} (h:∀ x∈l,I32 x) (i:Nat):I32 (takenF l i).1:=by
 unfold takenF;split
 · split
   · exact(by unfold I32;decide:I32 65533)
   · exact aF_32 h i
 · simp only;split
   · exact(by unfold I32;decide:I32 65533)
   · rename_i hc
     have hc2:isC (hexR l 6 0 i).1=true:=by
      cases hb:isC (hexR l 6 0 i).1 with
      | true=>rfl
      | false=>exact absurd (Or.inr hb) hc
     have:=isC_range hc2;unfold I32;omega
theorem nameG_32 {l:List Int} (h:∀ x∈l,I32 x):∀ (f i:Nat),∀ x∈(nameG l f i).1,I32 x
 | 0,_,x,hx=>by cases hx
 | f+1,i,x,hx=>by
   unfold nameG at hx;split at hx
   · rcases List.mem_cons.1 hx with rfl|hx
     · exact aF_32 h i
     · exact nameG_32 h f _ x hx
   · split at hx
     · rcases List.mem_cons.1 hx with rfl|hx
       · exact takenF_32 h _
       · exact nameG_32 h f _ x hx
     · cases hx
theorem esc_92 {a b:Int} (h:escI a b=true):a=92:=by
 simp only[escI,Bool.and_eq_true,beq_iff_eq]at h;exact h.1
theorem letter_lt {l:List Int} {i:Nat} (h:aF l i≠-1∧letterI (aF l i)=true):i<l.length:=aF_lt h.1
set_option maxRecDepth 20000 in
set_option maxHeartbeats 8000000 in
theorem name_any {w:World} {B:Nat} {oa:Option Addr} {cap b o:Nat} {l:List Int} {i:Nat} (h:RAt w B oa cap b o l i) :
  Calls Tryz.prog 106 #[.pointer (some ⟨B,0,none⟩)] w fun e w'=>e=.returned (.string ⟨(nameF l i).1.toArray⟩)∧Moved w w' B oa cap b o l (nameF l i).2:=by
 obtain⟨S,E,hSE⟩:∃ S E,nameG l (l.length+2-i) i=(S,E):=⟨_,_,rfl⟩
 have hn1:(nameF l i).1=encF S:=by rw[nameF,hSE]
 have hn2:(nameF l i).2=E:=by rw[nameF,hSE]
 rw[hn1,hn2];have hS32:=nameG_32 h.rng (l.length+2-i) i;rw[hSE]at hS32;have hsz:=h.blk.lt;have hl:=h.len;have hipos:=h.pos;have HR:=Lib.hid h;have HRN:=Lib.hid h.rng;have HM:=Lib.hid (Moved.start h);have HS32:=Lib.hid hS32;have HG:=Lib.hid (show ([]++(nameG l (l.length+2-i) i).1,(nameG l (l.length+2-i) i).2)=(S,E) by rw[hSE];rfl)
 have hN0:l.length≤(l.length+2-i)+i:=by omega
 clear hn1 hn2 hSE hS32 h
 go_enter Tryz.func106,Tryz.ntmps106
 go_wp2_with fail
 go_loopg [3] (l.length+2-i) (fun q s3 wr=>∃ (p f:Nat) (D:List Int) (v:Value),v=s3∧Hid (Moved w wr B oa cap b o l p)∧Hid (wr.ownsRow w.heap.size 21 1 v D.length (runesV D))∧Hid ((D++(nameG l f p).1,(nameG l f p).2)=(S,E))∧l.length≤f+p∧D.length+i≤p∧f≤q)
 case atStart=>exact⟨i,_,[],_,rfl,HM,Lib.hid (World.ownsRow_nil _ _ _ _),HG,hN0,by simp,Nat.le_refl _⟩
 case round =>
  clear HM HG hN0;obtain⟨p,f,D,v,rfl,hM,hO,hG,hf,hD,hq⟩:=hrel;have hppos:=hM.out.rd.pos;have hws:=hM.out.gb.size;have hat:=at0_any hM.out.rd
  have hat1:=fun m=>at1_any (hM.out.grow m).rd
  have hlet:=fun w=>letter3_any (aF l p) w
  have hesc:=fun w=>esc_any (aF l p) (aF l (p+1)) w
  have HA:=Lib.hid hat;have HA1:=Lib.hid hat1;clear hat hat1
  by_cases hA:aF l p≠-1∧letterI (aF l p)=true
  · have hp:=letter_lt hA;obtain⟨f,rfl⟩:∃ f',f=f'+1:=⟨f-1,by omega⟩;have hG2:=hG.out;rw[nameG,if_pos hA]at hG2
    have gc:(aF l p != -1)=true:=by simpa using hA.1
    rw[hA.2]at hlet;have HG2:=Lib.hid hG2;have HL:=Lib.hid hlet;have hA2:=HA.out;clear hlet hesc hG hG2 hA HA HA1;generalize aF l p=c at *;have HA:=Lib.hid hA2;clear hA2;go_wp2_with fail
    ((with_reducible refine(HA.out).mono ?_);rintro e w' ⟨rfl,hbw⟩)
    obtain⟨m,rfl⟩:=grow_mk hbw;clear hbw;go_wp2_with fail;go_wp2_with fail
    ((with_reducible refine(HL.out _).mono ?_);rintro e w' ⟨rfl,rfl⟩)
    have HM2:=Lib.hid (hM.out.grow m);have HO2:=Lib.hid (owns_grow hO.out m);have hsz2:=grow_size m;clear hM hO HA HL;generalize grow _ m=wx at *;go_wp2_with (at_builtin;refine wpList_put elRune rfl _ _ rfl rfl HO2.out (by omega) 1 1 #[.int .i32 c] _ rfl rfl (by simp[Value.oneCell']) (by omega) (by omega) (by omega) ?_;intro g2 cap2 w2 hR2 hg2 hr2;have HM3:=Lib.hid (HM2.out.push HR.out hg2 hr2);have HO3:=Lib.hid hR2;have hblk:=HM3.out.rd.blk;clear hR2 hg2 hr2 HM2 HO2;have cr0:=hblk.cell 0;have cr1:=hblk.cell 1;have fr1:=hblk.frozen 1;have lcr:=hblk.lt;clear hblk)
    go_roundg f
    case measure=>omega
    case rel=>exact⟨p+1,f,D++[c],_,rfl,Lib.hid (by have:=HM3.out.set (j:=p+1) (by omega);simpa using this),Lib.hid (by have:=ownsRow_setCell_below HO3.out (a:=⟨B,1,none⟩) hsz (.int .i64 ((p:Int)+1));simpa[runesV] using this),Lib.hid (by rw[List.append_assoc];exact HG2.out),by omega,by simp;omega,Nat.le_refl _⟩
  · by_cases hB:escI (aF l p) (aF l (p+1))=true
    · have hc:=esc_92 hB;have hp:p<l.length:=aF_lt (by rw[hc];decide);obtain⟨f,rfl⟩:∃ f',f=f'+1:=⟨f-1,by omega⟩;have hG2:=hG.out;rw[nameG,if_neg hA,if_pos hB]at hG2;rw[hB]at hesc;rw[hc]at hesc hlet;rw[show letterI 92=false from rfl]at hlet;have hA2:=HA.out;rw[hc]at hA2;have hpl:=takenF_le l (p+1);have hx32:=takenF_32 HRN.out (p+1)
      have htk:=fun wy (hy:RAt wy B oa cap b o l (p+1))=>taken_any hy
      obtain⟨⟨x,q2⟩,hx⟩:∃ T,takenF l (p+1)=T:=⟨_,rfl⟩;rw[hx]at hG2 hpl hx32 htk;simp only at hG2 hpl hx32 htk;have HG2:=Lib.hid hG2;have HL:=Lib.hid hlet;have HE:=Lib.hid hesc;have HT:=Lib.hid htk;have HA:=Lib.hid hA2;have hx32':=hx32;unfold I32 at hx32';clear hlet hesc hG hG2 hA hA2 hB hc hx htk;generalize aF l (p+1)=c1 at *;go_wp2_with fail
      ((with_reducible refine(HA.out).mono ?_);rintro e w' ⟨rfl,hbw⟩)
      obtain⟨m,rfl⟩:=grow_mk hbw;clear hbw;have HM1:=Lib.hid (hM.out.grow m);have HO1:=Lib.hid (owns_grow hO.out m);have HA3:=Lib.hid (HA1.out m);have hsz2:=grow_size m;clear hM hO HA HA1;generalize grow _ m=wv at *;go_wp2_with fail;go_wp2_with fail
      ((with_reducible refine(HL.out _).mono ?_);rintro e w' ⟨rfl,rfl⟩)
      go_wp2_with fail
      ((with_reducible refine(HA3.out).mono ?_);rintro e w' ⟨rfl,hbw⟩)
      obtain⟨m2,rfl⟩:=grow_mk hbw;clear hbw;go_wp2_with fail
      ((with_reducible refine(HE.out _).mono ?_);rintro e w' ⟨rfl,rfl⟩)
      have HM2:=Lib.hid (HM1.out.grow m2);have HO2:=Lib.hid (owns_grow HO1.out m2);have hsz3:=grow_size m2;clear HM1 HO1 HL HE HA3;generalize grow _ m2=wx at *;have hblk:=HM2.out.rd.blk;have cr0:wx.cell? ⟨B,0,none⟩=some (.slice oa l.length cap):=(hblk).cell 0;have fcr0:=(hblk).frozen 0;have cr1:wx.cell? ⟨B,1,none⟩=some (.int .i64 (p:Int)):=(hblk).cell 1;have fcr1:=(hblk).frozen 1;have lcr:=(hblk).lt
      have hset:Moved w (wx.setCell ⟨B,1,none⟩ (.int .i64 ((p:Int)+1))) B oa cap b o l (p+1):=by have:=HM2.out.set (j:=p+1) (by omega);simpa using this
      have HO3:=Lib.hid (ownsRow_setCell_below HO2.out (a:=⟨B,1,none⟩) hsz (.int .i64 ((p:Int)+1)));have HS:=Lib.hid hset;clear hblk hset HM2 HO2;go_wp2_with fail
      ((with_reducible refine(HT.out _ HS.out.rd).mono ?_);rintro e w2 ⟨rfl,hmv⟩)
      have HM4:=Lib.hid (HS.out.next hmv);have HO4:=Lib.hid (owns_moved HO3.out hmv.gb hsz);have hsz4:=HM4.out.gb.size;have hpos4:=HM4.out.rd.pos;clear hmv HS HO3 HT cr0 cr1 fcr0 fcr1 lcr;go_wp2_with (at_builtin;refine wpList_put elRune rfl _ _ rfl rfl HO4.out (by omega) 1 1 #[.int .i32 x] _ rfl rfl (by simp[Value.oneCell']) (by omega) (by omega) (by omega) ?_;intro g2 cap2 w3 hR2 hg2 hr2;have HM5:=Lib.hid (HM4.out.push HR.out hg2 hr2);have HO5:=Lib.hid hR2;clear hR2 hg2 hr2 HM4 HO4)
      go_roundg f
      case measure=>omega
      case rel=>exact⟨q2,f,D++[x],_,rfl,HM5,Lib.hid (by have:=HO5.out;simpa[runesV] using this),Lib.hid (by rw[List.append_assoc];exact HG2.out),by omega,by simp;omega,Nat.le_refl _⟩
    · have hend:S=D∧E=p:=by
       have h0:=hG.out
       have h1:nameG l f p=([],p):=by
        cases f with
        | zero=>rfl
        | succ f=>rw[nameG,if_neg hA,if_neg hB]
       rw[h1]at h0;simp only[List.append_nil,Prod.mk.injEq]at h0;exact⟨h0.1.symm,h0.2.symm⟩
      obtain⟨rfl,rfl⟩:=hend
      have ways:(aF l E != -1)=false∨(aF l E != -1)=true∧letterI (aF l E)=false:=by
       by_cases h0:aF l E=-1
       · exact Or.inl (by simp[h0])
       · refine Or.inr ⟨by simpa using h0,?_⟩
         cases hl:letterI (aF l E) with
         | false=>rfl
         | true=>exact absurd ⟨h0,hl⟩ hA
      have hB2:escI (aF l E) (aF l (E+1))=false:=by simpa using hB
      rw[hB2]at hesc;have HE:=Lib.hid hesc;obtain⟨va,vc,vb,rfl,hsl,_⟩:=sl_of_own hO.out;have HTX:=Lib.hid (fun wy (hy:Below wr.heap.size wr wy)=>text_of S va vc vb 0 wy (hsl.below hy) HS32.out (by omega));have hA2:=HA.out;clear hesc hG hA hB hB2 hO HA hsl HRN HS32;generalize aF l E=c at *;generalize aF l (E+1)=c1 at *;have HA:=Lib.hid hA2;clear hA2
      rcases ways with g1 | ⟨g1,g2⟩
      · clear hlet;go_wp2_with fail
        ((with_reducible refine(HA.out).mono ?_);rintro e w' ⟨rfl,hbw⟩)
        obtain⟨m,rfl⟩:=grow_mk hbw;clear hbw;have HM1:=Lib.hid (hM.out.grow m);have HA3:=Lib.hid (HA1.out m);have HTX2:=Lib.hid (fun m2=>HTX.out _ ((grow_below m).trans ((grow_below m2).mono (grow_size m))));clear hM HA HA1 HTX;generalize grow _ m=wv at *;go_wp2_with fail;go_wp2_with fail
        ((with_reducible refine(HA3.out).mono ?_);rintro e w' ⟨rfl,hbw⟩)
        obtain⟨m2,rfl⟩:=grow_mk hbw;clear hbw;go_wp2_with fail
        ((with_reducible refine(HE.out _).mono ?_);rintro e w' ⟨rfl,rfl⟩)
        go_wp2_with fail;go_wp2_with fail
        ((with_reducible refine(HTX2.out m2).mono ?_);rintro e w' ⟨rfl,hbw⟩)
        obtain⟨m3,rfl⟩:=grow_mk hbw;clear hbw;go_wp2_with fail;go_ret;exact⟨rfl,(HM1.out.grow m2).below (by first|exact grow_below m3 | exact(grow_below _))⟩
      · rw[g2]at hlet;have HL:=Lib.hid hlet;clear hlet;go_wp2_with fail
        ((with_reducible refine(HA.out).mono ?_);rintro e w' ⟨rfl,hbw⟩)
        obtain⟨m,rfl⟩:=grow_mk hbw;clear hbw;have HM1:=Lib.hid (hM.out.grow m);have HA3:=Lib.hid (HA1.out m);have HTX2:=Lib.hid (fun m2=>HTX.out _ ((grow_below m).trans ((grow_below m2).mono (grow_size m))));clear hM HA HA1 HTX;generalize grow _ m=wv at *;go_wp2_with fail;go_wp2_with fail
        ((with_reducible refine(HL.out _).mono ?_);rintro e w' ⟨rfl,rfl⟩)
        go_wp2_with fail
        ((with_reducible refine(HA3.out).mono ?_);rintro e w' ⟨rfl,hbw⟩)
        obtain⟨m2,rfl⟩:=grow_mk hbw;clear hbw;go_wp2_with fail
        ((with_reducible refine(HE.out _).mono ?_);rintro e w' ⟨rfl,rfl⟩)
        go_wp2_with fail;go_wp2_with fail
        ((with_reducible refine(HTX2.out m2).mono ?_);rintro e w' ⟨rfl,hbw⟩)
        obtain⟨m3,rfl⟩:=grow_mk hbw;clear hbw;go_wp2_with fail;go_ret;exact⟨rfl,(HM1.out.grow m2).below (by first|exact grow_below m3 | exact(grow_below _))⟩
structure Bl (w:World) (g:Nat) (l:List UInt8):Prop where
 lt:g<w.heap.size
 cell:∀ (j:Nat) (c:UInt8),l[j]?=some c→w.cell? ⟨g,j,none⟩=some (.int .u8 (c.toNat:Int))
 free:∀ (j:Nat),j<l.length→w.frozen? ⟨g,j,none⟩=false
theorem Bl.set {w:World} {g:Nat} {l:List UInt8} (h:Bl w g l) {i:Nat} (hi:i<l.length) (c:UInt8):Bl (w.setCell ⟨g,i,none⟩ (.int .u8 (c.toNat:Int))) g (l.set i c) :=
 ⟨by simpa using h.lt,fun j d hd=>by
   by_cases hj:i=j
   · subst hj;rw[List.getElem?_set_self hi]at hd;obtain rfl:=Option.some.inj hd;exact World.cell?_setCell_same _ _ _ (h.cell i _ (List.getElem?_eq_getElem hi))
   · rw[List.getElem?_set_ne hj]at hd;rw[World.cell?_setCell_other _ _ _ _ (by simp[hj])]
     exact h.cell j d hd,fun j hj=>(World.frozen?_setCell _ _ _ _).trans (h.free j (by simpa using hj))⟩
theorem frozen_row {w:World} {g j lo hi:Nat} {cs:Array Value} {t:TypeId} (h:w.heap[g]?=some (.cells cs t (lo,hi))) (hj:j<lo):w.frozen? ⟨g,j,none⟩=false:=by
 unfold World.frozen?;simp only[h]
 have:decide (lo≤j)=false:=by simp;omega
 rw[this];rfl
theorem bytes_made (m:List UInt8) (w:World):∃ (cap:Nat) (w1:World),(convert 9 95 (.string ⟨m.toArray⟩)).run Tryz.prog w=.ok (.slice (some ⟨w.heap.size,0,none⟩) m.length cap) w1∧Below w.heap.size w w1∧Bl w1 w.heap.size m:=by
 have h:=run_bytes_of_string (P:=Tryz.prog) w 9 95 5 ⟨m.toArray⟩ Tryz.underlying9 Tryz.underlying95 Tryz.underlying5;refine⟨_,_,h,((Below.refl _ _).drew.alloc (Nat.le_refl _) _),by simp,fun i c hc=>?_,fun j hj=>?_⟩
 · obtain⟨hi,rfl⟩:=List.getElem?_eq_some_iff.1 hc;rw[cell_of_row _ w.heap.size i _ _ _ (heap_alloc_new w.drew _)];exact bytesRow_at ⟨m.toArray⟩ _ i hi
 · have h1:=bytesRow_at ⟨m.toArray⟩ (grownCap w (⟨m.toArray⟩:ByteArray).size 0 5) j hj;have h2:=(Array.getElem?_eq_some_iff.1 h1).1;exact frozen_row (heap_alloc_new w.drew _) h2
theorem Bl.text {w:World} {g:Nat} {l:List UInt8} (h:Bl w g l) (cap:Nat):(convert 95 9 (.slice (some ⟨g,0,none⟩) l.length cap)).run Tryz.prog w=.ok (.string ⟨l.toArray⟩) w :=
 run_convert_bytes_back w _ _ _ ⟨g,0,none⟩ cap l Tryz.underlying95 Tryz.underlying5 Tryz.underlying9 (fun j hj=>by
  rw[Addr.add_lit,Nat.zero_add]
  exact h.cell j _ (List.getElem?_eq_getElem hj))
theorem lowB_up {c:UInt8} (h:65≤c.toNat∧c.toNat≤90):(lowB c).toNat=c.toNat+32:=by
 unfold lowB;rw[if_pos ⟨UInt8.le_iff_toNat_le.2 h.1,UInt8.le_iff_toNat_le.2 h.2⟩,UInt8.toNat_add];show (c.toNat+32) % 256=_;omega
theorem lowB_same {c:UInt8} (h:¬ (65≤c.toNat∧c.toNat≤90)):lowB c=c:=by
 unfold lowB;rw[if_neg (fun e=>h ⟨by have:=UInt8.le_iff_toNat_le.1 e.1;simpa using this,by have:=UInt8.le_iff_toNat_le.1 e.2;simpa using this⟩)]
def lowG (m:List UInt8) (i:Nat):List UInt8:=lowS (m.take i)++m.drop i
theorem lowG_len (m:List UInt8) (i:Nat):(lowG m i).length=m.length:=by
 unfold lowG lowS;rw[List.length_append,List.length_map,List.length_take,List.length_drop];omega
theorem lowG_step {m:List UInt8} {i:Nat} (h:i<m.length):lowG m (i+1)=(lowG m i).set i (lowB m[i]):=by
 have e:(lowS (m.take i)).length=i:=by unfold lowS;rw[List.length_map,List.length_take];omega
 unfold lowG;rw[List.drop_eq_getElem_cons h,List.take_succ_eq_append_getElem h,List.set_append,if_neg (by omega),e,Nat.sub_self,List.set_cons_zero];unfold lowS;rw[List.map_append,List.append_assoc];rfl
theorem lowG_at {m:List UInt8} {i:Nat} (h:i<m.length):(lowG m i)[i]?=some m[i]:=by
 have e:(lowS (m.take i)).length=i:=by unfold lowS;rw[List.length_map,List.length_take];omega
 unfold lowG;rw[List.getElem?_append_right (by omega),e,Nat.sub_self,List.drop_eq_getElem_cons h];rfl
theorem lowG_all (m:List UInt8):lowG m m.length=lowS m:=by
 unfold lowG;rw[List.take_length,List.drop_length,List.append_nil]
set_option maxRecDepth 20000 in
set_option maxHeartbeats 4000000 in
theorem lower_any (m:List UInt8) (w:World) (hm:m.length≤140737488355328) :
  Calls Tryz.prog 169 #[.string ⟨m.toArray⟩] w fun e w'=>e=.returned (.string ⟨(lowS m).toArray⟩)∧Below w.heap.size w w':=by
 obtain⟨cap,w1,hrun,hb1,hbl⟩:=bytes_made m w;obtain⟨N,hN⟩:∃ N,m.length=N:=⟨_,rfl⟩;rw[hN]at hrun hm;have HN:=Lib.hid hN;obtain⟨g,hg⟩:∃ g,w.heap.size=g:=⟨_,rfl⟩;rw[hg]at hrun hb1 hbl ⊢;have HB0:=Lib.hid hb1;have HBL:=Lib.hid hbl;clear hN hb1 hbl hg
 go_enter Tryz.func169,Tryz.ntmps169
 go_wp2_with fail
 go_loopg [10] N (fun q s10 wr=>∃ (i:Nat),s10=.int .i64 i∧Hid (Below g w wr)∧Hid (Bl wr g (lowG m i))∧i≤N∧N-i≤q)
 case atStart=>exact⟨0,rfl,HB0,HBL,Nat.zero_le _,by omega⟩
 case round =>
  clear HB0 HBL hrun;obtain⟨i,rfl,hb,hbl,hiN,hq⟩:=hrel
  by_cases hi:i<N
  · have gi:decide ((i:Int)<(N:Int))=true:=by simpa using hi
    have gin:decide (i<N)=true:=by simpa using hi
    have him:i<m.length:=by rw[HN.out];exact hi
    have hcell:=hbl.out.cell i _ (lowG_at him);have hfree:=hbl.out.free i (by rw[lowG_len];exact him);have hlt:=hbl.out.lt;have hst:=lowG_step him;obtain⟨c,hc⟩:∃ c,m[i]=c:=⟨_,rfl⟩;rw[hc]at hcell hst;have hc256:=UInt8.toNat_lt c;have hset:=hbl.out.set (i:=i) (by rw[lowG_len];exact him) (lowB c);rw[← hst]at hset
    by_cases hup:65≤c.toNat∧c.toNat≤90
    · rw[lowB_up hup]at hset;obtain⟨n,hn⟩:∃ n,c.toNat=n:=⟨_,rfl⟩;rw[hn]at hcell hset hup hc256
      have g1:decide ((65:Int)≤(n:Int))=true:=by simp;omega
      have g2:decide ((n:Int)≤(90:Int))=true:=by simp;omega
      have HS:=Lib.hid hset;clear hset hst hc hn hbl;go_wp2_with fail
      go_roundg (N-(i+1))
      case measure=>omega
      case rel=>exact⟨i+1,by go_num,Lib.hid (hb.out.setCell (by simp) _),Lib.hid (by have:=HS.out;simpa using this),hi,Nat.le_refl _⟩
    · have hsame:lowG m (i+1)=lowG m i:=by
       rw[hst,lowB_same hup]
       refine List.ext_getElem? fun j=>?_
       by_cases hj:i=j
       · subst hj;rw[List.getElem?_set_self (by rw[lowG_len];exact him),lowG_at him,hc]
       · rw[List.getElem?_set_ne hj]
      obtain⟨n,hn⟩:∃ n,c.toNat=n:=⟨_,rfl⟩;rw[hn]at hcell hup hc256
      have ways:decide ((65:Int)≤(n:Int))=false∨decide ((65:Int)≤(n:Int))=true∧decide ((n:Int)≤(90:Int))=false:=by
       by_cases h:65≤n
       · exact Or.inr ⟨by simp;omega,by simp;omega⟩
       · exact Or.inl (by simp;omega)
      have HBL2:=Lib.hid (show Bl wr g (lowG m (i+1)) by rw[hsame];exact hbl.out);clear hset hst hc hn hbl hsame
      rcases ways with g1 | ⟨g1,g2⟩
      all_goals
       go_wp2_with fail
       go_roundg (N-(i+1))
       case measure=>omega
       case rel=>exact⟨i+1,by go_num,hb,HBL2,hi,Nat.le_refl _⟩
  · obtain rfl:i=N:=by omega
    have gi:decide ((i:Int)<(i:Int))=false:=by simp
    have gin:decide (i<i)=false:=by simp
    have htx:=hbl.out.text cap;rw[lowG_len,HN.out]at htx
    have hall:lowG m i=lowS m:=by rw[← HN.out,lowG_all]
    rw[hall]at htx;clear hbl hall;go_wp2_with fail;go_ret;exact⟨rfl,hb.out⟩
set_option maxHeartbeats 1000000 in
theorem like_any (a b:List UInt8) (w:World) (ha:a.length≤140737488355328) (hb:b.length≤140737488355328) :
  Calls Tryz.prog 145 #[.string ⟨a.toArray⟩,.string ⟨b.toArray⟩] w fun e w'=>e=.returned (.bool (likeS a b))∧Below w.heap.size w w':=by
 have h1:=fun w=>lower_any a w ha
 have h2:=fun w=>lower_any b w hb
 unfold likeS;generalize lowS a=x at *;generalize lowS b=y at *;have H1:=Lib.hid h1;have H2:=Lib.hid h2;clear h1 h2 ha hb
 go_enter Tryz.func145,Tryz.ntmps145
 go_wp2_with fail
 ((with_reducible refine(H1.out _).mono ?_);rintro e w' ⟨rfl,hbw⟩)
 obtain⟨m,rfl⟩:=grow_mk hbw;clear hbw;go_wp2_with fail
 ((with_reducible refine(H2.out _).mono ?_);rintro e w' ⟨rfl,hbw⟩)
 obtain⟨m2,rfl⟩:=grow_mk hbw;clear hbw;go_wp2_with fail;go_ret;exact⟨ret_bool rfl,grow_below _⟩
def tv (t:Tk):Value:=.agg #[.int .i64 t.kind,.string ⟨t.text.toArray⟩,.int .i64 t.num.1,.int .i64 t.num.2,.bool t.int,.bool t.id]
section
variable {w wr w':World} {B:Nat} {oa:Option Addr} {cap b o:Nat} {l:List Int} {i j:Nat} {row:Option Nat}
theorem Moved.far (h:Moved w wr B oa cap b o l i) (h0:RAt w B oa cap b o l j) (p:Addr) (v:Value) (hp:w.heap.size≤p.block):Moved w (wr.setCell p v) B oa cap b o l i :=
 h.push h0 (grownBy_set wr p v) (fun k hk=>by cases hk;exact hp)
theorem Moved.lies (h:Moved w wr B oa cap b o l i) (h0:RAt w B oa cap b o l j):B<w.heap.size:=h0.blk.lt
theorem Blk.mvd {g:Nat} {t:TypeId} {cs:Array Value} (h:Blk w g t cs) (hm:Moved w wr B oa cap b o l i) (hne:g≠B):Blk wr g t cs:=(hm.gb.block g h.lt (by simpa using hne)).trans h
end
theorem hexR_len (l:List Int):∀ (k:Nat) (n:Int) (i:Nat),i≤l.length→(hexR l k n i).2≤l.length
 | 0,_,_,h=>h
 | k+1,n,i,h=>by
   unfold hexR;split
   · exact h
   · rename_i x hx
     exact hexR_len l k _ (i+1) (aF_lt (hexI_range hx).2.2)
theorem takenF_len {l:List Int} {i:Nat} (h:i≤l.length):(takenF l i).2≤l.length:=by
 unfold takenF;split
 · split
   · exact h
   · rename_i h1
     exact aF_lt h1
 · have h1:=hexR_len l 6 0 i h;simp only;split
   · rename_i hb
     exact blank_lt hb
   · exact h1
set_option maxRecDepth 20000 in
set_option maxHeartbeats 8000000 in
theorem rest_any {w:World} {B:Nat} {oa:Option Addr} {cap b o:Nat} {l:List Int} {i:Nat} (h:RAt w B oa cap b o l i) (hil:i≤l.length) :
  Calls Tryz.prog 170 #[.pointer (some ⟨B,0,none⟩)] w fun e w'=>e=.returned (tv (tok0 8 []))∧Moved w w' B oa cap b o l (rest3F l i):=by
 obtain⟨E,hE⟩:∃ E,rest3F l i=E:=⟨_,rfl⟩;rw[hE];have HE:=Lib.hid (show restG l (l.length+2-i) i=E from hE);have hl:=h.len;have hB:=h.blk.lt;have HR:=Lib.hid h
 have hN0:l.length+1≤(l.length+2-i)+i:=by omega
 obtain⟨r0,hr0⟩:∃ r0,w.heap.size=r0:=⟨_,rfl⟩
 have hBr:B<r0:=by omega
 clear hE h
 go_enter Tryz.func170,Tryz.ntmps170
 go_wp2_with fail;have HM:=Lib.hid (Moved.start (HR.out.old (.cells #[.int .i64 0,.string ⟨#[]⟩,.int .i64 0,.int .i64 0,.bool false,.bool false] 85)));have hT:=Blk.new w 85 #[.int .i64 0,.string ⟨#[]⟩,.int .i64 0,.int .i64 0,.bool false,.bool false];have HW:=Lib.hid ((Moved.start HR.out).alloc (.cells #[.int .i64 0,.string ⟨#[]⟩,.int .i64 0,.int .i64 0,.bool false,.bool false] 85));rw[hr0]at hT;have HT:=Lib.hid hT;clear hT;generalize w.alloc _=w1 at *
 go_loopg [] (l.length+2-i) (fun q wr=>∃ (p f:Nat),Hid (Moved w1 wr B oa cap b o l p)∧Hid (restG l f p=E)∧l.length+1≤f+p∧p≤l.length∧f≤q)
 case atStart=>exact⟨i,_,HM,HE,hN0,hil,Nat.le_refl _⟩
 case round =>
  clear HM HE hN0;obtain⟨p,f,hM,hE,hf,hp,hq⟩:=hrel;obtain⟨f,rfl⟩:∃ f',f=f'+1:=⟨f-1,by omega⟩;have hat:=at0_any hM.out.rd;have HA:=Lib.hid hat;have hE2:=hE.out;rw[restG]at hE2
  have hset:∀ m:Ext wr,Moved w1 ((grow wr m).setCell ⟨B,1,none⟩ (.int .i64 ((p:Int)+1))) B oa cap b o l (p+1):=fun m=>by have:=(hM.out.grow m).set (j:=p+1) (by omega);simpa using this
  have HS:=Lib.hid hset;have hir:=@aF_lt l p
  have hesc:=fun w=>esc_any (aF l p) (aF l (p+1)) w
  have hTl:=takenF_len (l:=l) (i:=p+1);have hTg:=takenF_le l (p+1);clear hat hset hE;obtain⟨c,hc⟩:∃ c,aF l p=c:=⟨_,rfl⟩;have hA2:=HA.out;rw[hc]at hA2 hE2 hir hesc;have HA:=Lib.hid hA2;clear hA2 hc;go_wp2_with fail
  ((with_reducible refine(HA.out).mono ?_);rintro e w' ⟨rfl,hbw⟩)
  obtain⟨m,rfl⟩:=grow_mk hbw;clear hbw;have hblk:=(hM.out.grow m).rd.blk;have hS:=HS.out m;have hTb:=HT.out.mvd (hM.out.grow m) (by omega);clear HS HA;generalize grow _ m=wx at *;have cr0:wx.cell? ⟨B,0,none⟩=some (.slice oa l.length cap):=(hblk).cell 0;have fcr0:=(hblk).frozen 0;have cr1:wx.cell? ⟨B,1,none⟩=some (.int .i64 (p:Int)):=(hblk).cell 1;have fcr1:=(hblk).frozen 1;have lcr:=(hblk).lt;clear hblk
  by_cases hend:c=-1∨c=41
  · rw[if_pos hend]at hE2;subst hE2;have ct0:wx.cell? ⟨r0,0,none⟩=some (.int .i64 0):=(hTb).cell 0;have fct0:=(hTb).frozen 0;have ct1:wx.cell? ⟨r0,1,none⟩=some (.string ⟨#[]⟩):=(hTb).cell 1;have fct1:=(hTb).frozen 1;have ct2:wx.cell? ⟨r0,2,none⟩=some (.int .i64 0):=(hTb).cell 2;have fct2:=(hTb).frozen 2;have ct3:wx.cell? ⟨r0,3,none⟩=some (.int .i64 0):=(hTb).cell 3;have fct3:=(hTb).frozen 3;have ct4:wx.cell? ⟨r0,4,none⟩=some (.bool false):=(hTb).cell 4;have fct4:=(hTb).frozen 4;have ct5:wx.cell? ⟨r0,5,none⟩=some (.bool false):=(hTb).cell 5;have fct5:=(hTb).frozen 5;have lct:=(hTb).lt;have HS2:=Lib.hid hS;clear hTb hS hesc hir hTl hTg hM
    rcases hend with rfl|rfl
    all_goals
     go_wp2_with fail
     exact bodyPost_ret (v:=tv (tok0 8 [])) (by simp[results,Tryz.results170,go_sem,ct0,ct1,ct2,ct3,ct4,ct5,lct,tv,tok0]) rfl ⟨rfl,by
      have h0:=HW.out.next HS2.out
      repeat (first|with_reducible exact h0 | (with_reducible refine Moved.far ?_ HR.out _ _ ?hq;case hq=>(show w.heap.size≤r0;omega)))⟩
  · rw[if_neg hend]at hE2
    have hc1:c≠-1:=fun e=>hend (Or.inl e)
    have hp1:=hir hc1
    have g1:(c==-1)=false:=by simpa using hc1
    have g2:(c==41)=false:=by rw[beq_eq_false_iff_ne];exact fun e=>hend (Or.inr e)
    have HA:=Lib.hid (at0_any hS.rd);have HS2:=Lib.hid hS
    cases hes:escI c (aF l (p+1)) with
    | true =>
      rw[if_pos hes]at hE2;rw[hes]at hesc
      have htk:=fun wy (hy:RAt wy B oa cap b o l (p+1))=>taken_any hy
      obtain⟨⟨x,q2⟩,hx⟩:∃ T,takenF l (p+1)=T:=⟨_,rfl⟩;rw[hx]at hE2 hTl hTg htk;simp only at hE2 hTl hTg htk;have HE:=Lib.hid hesc;have HE2:=Lib.hid hE2;have HTK:=Lib.hid htk;have hTl2:=hTl (by omega);clear hesc hE2 htk hes hS hir hTb hx hTl hM hend;generalize aF l (p+1)=c1 at *;go_wp2_with fail;go_wp2_with fail
      ((with_reducible refine(HA.out).mono ?_);rintro e w' ⟨rfl,hbw⟩)
      obtain⟨m2,rfl⟩:=grow_mk hbw;clear hbw;go_wp2_with fail
      ((with_reducible refine(HE.out _).mono ?_);rintro e w' ⟨rfl,rfl⟩)
      go_wp2_with fail
      ((with_reducible refine(HTK.out _ (HS2.out.grow m2).rd).mono ?_);rintro e w2 ⟨rfl,hmv⟩)
      have HM4:=Lib.hid ((HS2.out.grow m2).next hmv);clear hmv HS2 HTK HA HE;go_wp2_with fail
      go_roundg f
      case measure=>omega
      case rel=>exact⟨q2,f,HM4,HE2,by omega,hTl2,Nat.le_refl _⟩
    | false =>
      rw[if_neg (by rw[hes];simp)]at hE2;rw[hes]at hesc;have HE:=Lib.hid hesc;have HE2:=Lib.hid hE2;clear hesc hE2 hes hS hir hTb hTl hM hend;generalize aF l (p+1)=c1 at *;go_wp2_with fail;go_wp2_with fail
      ((with_reducible refine(HA.out).mono ?_);rintro e w' ⟨rfl,hbw⟩)
      obtain⟨m2,rfl⟩:=grow_mk hbw;clear hbw;go_wp2_with fail
      ((with_reducible refine(HE.out _).mono ?_);rintro e w' ⟨rfl,rfl⟩)
      have HM4:=Lib.hid (HS2.out.grow m2);clear HS2 HA HE;go_wp2_with fail
      go_roundg f
      case measure=>omega
      case rel=>exact⟨p+1,f,HM4,HE2,by omega,by omega,Nat.le_refl _⟩
theorem textG_32 {l:List Int} (h:∀ x∈l,I32 x) (sign:Int):∀ (f i:Nat) (S:List Int),(textG l sign f i).1=some S→∀ x∈S,I32 x
 | 0,i,S,hs,x,hx=>by simp[textG]at hs
 | f+1,i,S,hs,x,hx=>by
   unfold textG at hs;split at hs
   · cases hs
   · split at hs
     · split at hs
       · exact textG_32 h sign f _ S hs x hx
       · split at hs
         · exact textG_32 h sign f _ S hs x hx
         · simp only[Option.map_eq_some_iff]at hs;obtain⟨S',h1,rfl⟩:=hs
           rcases List.mem_cons.1 hx with rfl|hx
           · exact takenF_32 h _
           · exact textG_32 h sign f _ S' h1 x hx
     · split at hs
       · obtain rfl:=Option.some.inj hs
         cases hx
       · simp only[Option.map_eq_some_iff]at hs;obtain⟨S',h1,rfl⟩:=hs
         rcases List.mem_cons.1 hx with rfl|hx
         · exact aF_32 h _
         · exact textG_32 h sign f _ S' h1 x hx
def addO (D:List Int) (x:Option (List Int)×Nat):Option (List Int)×Nat:=(x.1.map (D++·),x.2)
theorem addO_cons (D:List Int) (c:Int) (x:Option (List Int)×Nat):addO (D++[c]) x=addO D (x.1.map (c::·),x.2):=by
 unfold addO;rw[Option.map_map]
 congr 2
 funext s
 simp
set_option maxRecDepth 20000 in
set_option maxHeartbeats 8000000 in
theorem string_any {w:World} {B:Nat} {oa:Option Addr} {cap b o:Nat} {l:List Int} {i:Nat} (sign:Int) (h:RAt w B oa cap b o l i) (hil:i≤l.length) :
  Calls Tryz.prog 102 #[.pointer (some ⟨B,0,none⟩),.int .i32 sign] w fun e w'=>e=.returned (tv (stringF l sign i).1)∧Moved w w' B oa cap b o l (stringF l sign i).2:=by
 obtain⟨R,hR⟩:∃ R,textG l sign (l.length+2-i) i=R:=⟨_,rfl⟩
 have hst:stringF l sign i=strT R:=by rw[stringF,hR]
 rw[hst];have HG:=Lib.hid (show addO [] (textG l sign (l.length+2-i) i)=R by rw[hR];unfold addO;simp);have hS32:=textG_32 h.rng sign (l.length+2-i) i;rw[hR]at hS32;have HS32:=Lib.hid hS32;have hl:=h.len;have hB:=h.blk.lt;have HR:=Lib.hid h
 have hN0:l.length+1≤(l.length+2-i)+i:=by omega
 obtain⟨r0,hr0⟩:∃ r0,w.heap.size=r0:=⟨_,rfl⟩
 have hBr:B<r0:=by omega
 clear hst hR hS32 h
 go_enter Tryz.func102,Tryz.ntmps102
 go_wp2_with fail;have HR1:=Lib.hid (HR.out.old (.cells #[.int .i64 0,.string ⟨#[]⟩,.int .i64 0,.int .i64 0,.bool false,.bool false] 85));have HM:=Lib.hid (Moved.start HR1.out);have hT:=Blk.new w 85 #[.int .i64 0,.string ⟨#[]⟩,.int .i64 0,.int .i64 0,.bool false,.bool false];have HW:=Lib.hid ((Moved.start HR.out).alloc (.cells #[.int .i64 0,.string ⟨#[]⟩,.int .i64 0,.int .i64 0,.bool false,.bool false] 85));rw[hr0]at hT;have HT:=Lib.hid hT;have hB1:=HR1.out.blk.lt;clear hT;generalize w.alloc _=w1 at *
 go_loopg [5] (l.length+2-i) (fun q s5 wr=>∃ (p f:Nat) (D:List Int) (v:Value),v=s5∧Hid (Moved w1 wr B oa cap b o l p)∧Hid (wr.ownsRow w1.heap.size 21 1 v D.length (runesV D))∧Hid (addO D (textG l sign f p)=R)∧l.length+1≤f+p∧p≤l.length∧D.length≤p∧f≤q)
 case atStart=>exact⟨i,_,[],_,rfl,HM,Lib.hid (World.ownsRow_nil _ _ _ _),HG,hN0,hil,by simp,Nat.le_refl _⟩
 case round =>
  clear HM HG hN0;obtain⟨p,f,D,v,rfl,hM,hO,hG,hf,hp,hD,hq⟩:=hrel;obtain⟨f,rfl⟩:∃ f',f=f'+1:=⟨f-1,by omega⟩;have hws:=hM.out.gb.size;have hA0:=at0_any hM.out.rd;have hG2:=hG.out;rw[textG]at hG2;have hir:=@aF_lt l p;obtain⟨c,hc⟩:∃ c,aF l p=c:=⟨_,rfl⟩;rw[hc]at hA0 hG2 hir;have HA:=Lib.hid hA0;clear hA0 hc hG;go_wp2_with fail
  ((with_reducible refine(HA.out).mono ?_);rintro e w' ⟨rfl,hbw⟩)
  obtain⟨m,rfl⟩:=grow_mk hbw;clear hbw;have HM1:=Lib.hid (hM.out.grow m);have HO1:=Lib.hid (owns_grow hO.out m);have hws1:=grow_size m;clear hM hO HA;generalize grow _ m=wx at *;have hTb:=HT.out.mvd HM1.out (by omega);have hblk:=HM1.out.rd.blk
  by_cases h10:c=10
  · subst h10;rw[if_pos rfl]at hG2;obtain rfl:=hG2;have ct0:wx.cell? ⟨r0,0,none⟩=some (.int .i64 0):=(hTb).cell 0;have fct0:=(hTb).frozen 0;have ct1:wx.cell? ⟨r0,1,none⟩=some (.string ⟨#[]⟩):=(hTb).cell 1;have fct1:=(hTb).frozen 1;have ct2:wx.cell? ⟨r0,2,none⟩=some (.int .i64 0):=(hTb).cell 2;have fct2:=(hTb).frozen 2;have ct3:wx.cell? ⟨r0,3,none⟩=some (.int .i64 0):=(hTb).cell 3;have fct3:=(hTb).frozen 3;have ct4:wx.cell? ⟨r0,4,none⟩=some (.bool false):=(hTb).cell 4;have fct4:=(hTb).frozen 4;have ct5:wx.cell? ⟨r0,5,none⟩=some (.bool false):=(hTb).cell 5;have fct5:=(hTb).frozen 5;have lct:=(hTb).lt;clear hTb hblk HS32 HO1 hir;go_wp2_with fail
    exact bodyPost_ret (v:=tv (tok0 6 [])) (by simp[results,Tryz.results102,go_sem,ct0,ct1,ct2,ct3,ct4,ct5,lct,tv,tok0,strT]) rfl ⟨by rfl,by
     have h0:=HW.out.next HM1.out;show Moved w _ B oa cap b o l p
     repeat (first|with_reducible exact h0 | (with_reducible refine Moved.far ?_ HR.out _ _ ?hq;case hq=>(show w.heap.size≤r0;omega)))⟩
  rw[if_neg h10]at hG2
  have g10:(c==10)=false:=by simpa using h10
  by_cases h92:c=92
  · subst h92;have hp1:=hir (by decide);rw[if_pos rfl]at hG2;have HA1:=Lib.hid (at1_any HM1.out.rd);have hir2:=@aF_lt l (p+1);have hTl:=takenF_len (l:=l) (i:=p+1) (by omega);have hTg:=takenF_le l (p+1);have hA1:=HA1.out;obtain⟨d,hd⟩:∃ d,aF l (p+1)=d:=⟨_,rfl⟩;rw[hd]at hA1 hG2 hir2;have HA1:=Lib.hid hA1;have HDD:=Lib.hid hd;clear hA1 hd hTb hblk hir
    by_cases hd1:d=-1
    · subst hd1;rw[if_pos rfl]at hG2;have HG2:=Lib.hid hG2;clear hG2 hir2 hTl hTg;go_wp2_with fail;go_wp2_with fail
      ((with_reducible refine(HA1.out).mono ?_);rintro e w' ⟨rfl,hbw⟩)
      obtain⟨m2,rfl⟩:=grow_mk hbw;clear hbw;have HM2:=Lib.hid (HM1.out.grow m2);have HO2:=Lib.hid (owns_grow HO1.out m2);clear HM1 HO1 HA1;generalize grow _ m2=wy at *
      have hset:Moved w1 (wy.setCell ⟨B,1,none⟩ (.int .i64 ((p:Int)+1))) B oa cap b o l (p+1):=by have:=HM2.out.set (j:=p+1) (by omega);simpa using this
      have HS:=Lib.hid hset;have HO3:=Lib.hid (ownsRow_setCell_below HO2.out (a:=⟨B,1,none⟩) hB1 (.int .i64 ((p:Int)+1)));have hblk:=HM2.out.rd.blk;have cr0:wy.cell? ⟨B,0,none⟩=some (.slice oa l.length cap):=(hblk).cell 0;have fcr0:=(hblk).frozen 0;have cr1:wy.cell? ⟨B,1,none⟩=some (.int .i64 (p:Int)):=(hblk).cell 1;have fcr1:=(hblk).frozen 1;have lcr:=(hblk).lt;clear hblk hset HM2 HO2;go_wp2_with fail
      go_roundg f
      case measure=>omega
      case rel=>exact⟨p+1,f,D,_,rfl,HS,HO3,HG2,by omega,by omega,by omega,Nat.le_refl _⟩
    · rw[if_neg hd1]at hG2
      have gd1:(d==-1)=false:=by simpa using hd1
      by_cases hd10:d=10
      · subst hd10;have hp2:=hir2 (by decide);rw[if_pos rfl]at hG2;have HG2:=Lib.hid hG2;clear hG2 hir2 hTl hTg;go_wp2_with fail;go_wp2_with fail
        ((with_reducible refine(HA1.out).mono ?_);rintro e w' ⟨rfl,hbw⟩)
        obtain⟨m2,rfl⟩:=grow_mk hbw;clear hbw;have HM2:=Lib.hid (HM1.out.grow m2);have HO2:=Lib.hid (owns_grow HO1.out m2);clear HM1 HO1 HA1;generalize grow _ m2=wy at *;have hA2:=at1_any HM2.out.rd;rw[HDD.out]at hA2;have HA2:=Lib.hid hA2;clear hA2;go_wp2_with fail;go_wp2_with fail
        ((with_reducible refine(HA2.out).mono ?_);rintro e w' ⟨rfl,hbw⟩)
        obtain⟨m3,rfl⟩:=grow_mk hbw;clear hbw;have HM3:=Lib.hid (HM2.out.grow m3);have HO3:=Lib.hid (owns_grow HO2.out m3);clear HM2 HO2 HA2;generalize grow _ m3=wz at *
        have hset:Moved w1 (wz.setCell ⟨B,1,none⟩ (.int .i64 ((p:Int)+2))) B oa cap b o l (p+2):=by have:=HM3.out.set (j:=p+2) (by omega);simpa using this
        have HS:=Lib.hid hset;have HO4:=Lib.hid (ownsRow_setCell_below HO3.out (a:=⟨B,1,none⟩) hB1 (.int .i64 ((p:Int)+2)));have hblk:=HM3.out.rd.blk;have cr0:wz.cell? ⟨B,0,none⟩=some (.slice oa l.length cap):=(hblk).cell 0;have fcr0:=(hblk).frozen 0;have cr1:wz.cell? ⟨B,1,none⟩=some (.int .i64 (p:Int)):=(hblk).cell 1;have fcr1:=(hblk).frozen 1;have lcr:=(hblk).lt;clear hblk hset HM3 HO3;go_wp2_with fail
        go_roundg f
        case measure=>omega
        case rel=>exact⟨p+2,f,D,_,rfl,HS,HO4,HG2,by omega,by omega,by omega,Nat.le_refl _⟩
      · rw[if_neg hd10]at hG2
        have gd10:(d==10)=false:=by simpa using hd10
        have htk:=fun wy (hy:RAt wy B oa cap b o l (p+1))=>taken_any hy
        have hx32:=takenF_32 HR.out.rng (p+1);obtain⟨⟨x,q2⟩,hx⟩:∃ T,takenF l (p+1)=T:=⟨_,rfl⟩;rw[hx]at hG2 hTl hTg htk hx32;simp only at hG2 hTl hTg htk hx32;rw[← addO_cons]at hG2;have HG2:=Lib.hid hG2;have HTK:=Lib.hid htk;unfold I32 at hx32;clear hG2 hir2 htk hx hd10 hd1;go_wp2_with fail;go_wp2_with fail
        ((with_reducible refine(HA1.out).mono ?_);rintro e w' ⟨rfl,hbw⟩)
        obtain⟨m2,rfl⟩:=grow_mk hbw;clear hbw;have HM2:=Lib.hid (HM1.out.grow m2);have HO2:=Lib.hid (owns_grow HO1.out m2);have hws2:=grow_size m2;clear HM1 HO1 HA1;generalize grow _ m2=wy at *;have hA2:=at1_any HM2.out.rd;rw[HDD.out]at hA2;have HA2:=Lib.hid hA2;clear hA2;go_wp2_with fail;go_wp2_with fail
        ((with_reducible refine(HA2.out).mono ?_);rintro e w' ⟨rfl,hbw⟩)
        obtain⟨m3,rfl⟩:=grow_mk hbw;clear hbw;have HM3:=Lib.hid (HM2.out.grow m3);have HO3:=Lib.hid (owns_grow HO2.out m3);have hws3:=grow_size m3;clear HM2 HO2 HA2;generalize grow _ m3=wz at *
        have hset:Moved w1 (wz.setCell ⟨B,1,none⟩ (.int .i64 ((p:Int)+1))) B oa cap b o l (p+1):=by have:=HM3.out.set (j:=p+1) (by omega);simpa using this
        have HS:=Lib.hid hset;have HO4:=Lib.hid (ownsRow_setCell_below HO3.out (a:=⟨B,1,none⟩) hB1 (.int .i64 ((p:Int)+1)));have hblk:=HM3.out.rd.blk;have cr0:wz.cell? ⟨B,0,none⟩=some (.slice oa l.length cap):=(hblk).cell 0;have fcr0:=(hblk).frozen 0;have cr1:wz.cell? ⟨B,1,none⟩=some (.int .i64 (p:Int)):=(hblk).cell 1;have fcr1:=(hblk).frozen 1;have lcr:=(hblk).lt;clear hblk hset HM3 HO3;go_wp2_with fail
        ((with_reducible refine(HTK.out _ HS.out.rd).mono ?_);rintro e w2 ⟨rfl,hmv⟩)
        have HM4:=Lib.hid (HS.out.next hmv);have HO5:=Lib.hid (owns_moved HO4.out hmv.gb hB1);have hsz4:=HM4.out.gb.size;clear hmv HS HO4 HTK cr0 cr1 fcr0 fcr1 lcr;go_wp2_with (at_builtin;refine wpList_put elRune rfl _ _ rfl rfl HO5.out (by omega) 1 1 #[.int .i32 x] _ rfl rfl (by simp[Value.oneCell']) (by omega) (by omega) (by omega) ?_;intro g2 cap2 w3 hR2 hg2 hr2;have HM5:=Lib.hid (HM4.out.push HR1.out hg2 hr2);have HO6:=Lib.hid hR2;clear hR2 hg2 hr2 HM4 HO5)
        go_roundg f
        case measure=>omega
        case rel=>exact⟨q2,f,D++[x],_,rfl,HM5,Lib.hid (by have:=HO6.out;simpa[runesV] using this),HG2,by omega,by omega,by simp;omega,Nat.le_refl _⟩
  · have g92:(c==92)=false:=by simpa using h92
    rw[if_neg h92]at hG2
    have hset:Moved w1 (wx.setCell ⟨B,1,none⟩ (.int .i64 ((p:Int)+1))) B oa cap b o l (p+1):=by have:=HM1.out.set (j:=p+1) (by omega);simpa using this
    have HS:=Lib.hid hset;have HO3:=Lib.hid (ownsRow_setCell_below HO1.out (a:=⟨B,1,none⟩) hB1 (.int .i64 ((p:Int)+1)));have cr0:wx.cell? ⟨B,0,none⟩=some (.slice oa l.length cap):=(hblk).cell 0;have fcr0:=(hblk).frozen 0;have cr1:wx.cell? ⟨B,1,none⟩=some (.int .i64 (p:Int)):=(hblk).cell 1;have fcr1:=(hblk).frozen 1;have lcr:=(hblk).lt
    by_cases hend:c=-1∨c=sign
    · rw[if_pos hend]at hG2
      have hG3:R=(some D,p+1):=by rw[← hG2];simp[addO]
      subst hG3;have hD32:=HS32.out D rfl;obtain⟨va,vc,vb,rfl,hsl,_⟩:=sl_of_own HO3.out;have HTX:=Lib.hid (text_of D va vc vb 0 _ hsl hD32 (by omega))
      have ways:(c==-1)=true∨(c==-1)=false∧(c==sign)=true:=by
       rcases hend with rfl|rfl
       · exact Or.inl rfl
       · by_cases h0:c=-1
         · exact Or.inl (by simp[h0])
         · exact Or.inr ⟨by simpa using h0,by simp⟩
      have hTb2:Blk (wx.setCell ⟨B,1,none⟩ (.int .i64 ((p:Int)+1))) r0 85 #[.int .i64 0,.string ⟨#[]⟩,.int .i64 0,.int .i64 0,.bool false,.bool false]:=HT.out.mvd HS.out (by omega);clear hblk hset HM1 HO1 HO3 hsl hTb hG2 hend HS32 hD32 hir;have hlt2:=hTb2.lt
      rcases ways with g1 | ⟨g1,g2⟩
      all_goals
       go_wp2_with fail;go_wp2_with fail
       ((with_reducible refine(HTX.out).mono ?_);rintro e w' ⟨rfl,hbw⟩)
       obtain⟨m3,rfl⟩:=grow_mk hbw;clear hbw;have hTb3:=hTb2.grow m3;have HM5:=Lib.hid (HS.out.grow m3);clear hTb2 HS HTX cr0 cr1 fcr0 fcr1 lcr hlt2;generalize grow _ m3=wz at *;have ct0:wz.cell? ⟨r0,0,none⟩=some (.int .i64 0):=(hTb3).cell 0;have fct0:=(hTb3).frozen 0;have ct1:wz.cell? ⟨r0,1,none⟩=some (.string ⟨#[]⟩):=(hTb3).cell 1;have fct1:=(hTb3).frozen 1;have ct2:wz.cell? ⟨r0,2,none⟩=some (.int .i64 0):=(hTb3).cell 2;have fct2:=(hTb3).frozen 2;have ct3:wz.cell? ⟨r0,3,none⟩=some (.int .i64 0):=(hTb3).cell 3;have fct3:=(hTb3).frozen 3;have ct4:wz.cell? ⟨r0,4,none⟩=some (.bool false):=(hTb3).cell 4;have fct4:=(hTb3).frozen 4;have ct5:wz.cell? ⟨r0,5,none⟩=some (.bool false):=(hTb3).cell 5;have fct5:=(hTb3).frozen 5;have lct:=(hTb3).lt;clear hTb3;go_wp2_with fail
       exact bodyPost_ret (v:=tv (tok0 5 (encF D))) (by simp[results,Tryz.results102,go_sem,ct0,ct1,ct2,ct3,ct4,ct5,lct,tv,tok0,strT]) rfl ⟨by rfl,by
        have h0:=HW.out.next HM5.out;show Moved w _ B oa cap b o l (p+1)
        repeat (first|with_reducible exact h0 | (with_reducible refine Moved.far ?_ HR.out _ _ ?hq;case hq=>(show w.heap.size≤r0;omega)))⟩
    · rw[if_neg hend,← addO_cons]at hG2
      have hc1:c≠-1:=fun e=>hend (Or.inl e)
      have hp1:=hir hc1
      have g1:(c==-1)=false:=by simpa using hc1
      have g2:(c==sign)=false:=by rw[beq_eq_false_iff_ne];exact fun e=>hend (Or.inr e)
      have HG2:=Lib.hid hG2;have hsz4:=HS.out.gb.size;clear hblk hset HM1 HO1 hTb hG2 hend HS32 hir
      go_upto_region 4 with fail
      clear cr0 cr1 fcr0 fcr1 lcr;generalize wx.setCell _ _=wy at *;go_wp2_with (at_builtin;refine wpList_put elRune rfl _ _ rfl rfl HO3.out (by omega) 1 1 #[.int .i32 c] _ rfl rfl (by simp[Value.oneCell']) (by omega) (by omega) (by omega) ?_;intro g2 cap2 w3 hR2 hg2 hr2;have HM5:=Lib.hid (HS.out.push HR1.out hg2 hr2);have HO6:=Lib.hid hR2;clear hR2 hg2 hr2 HS HO3)
      go_roundg f
      case measure=>omega
      case rel=>exact⟨p+1,f,D++[c],_,rfl,HM5,Lib.hid (by have:=HO6.out;simpa[runesV] using this),HG2,by omega,by omega,by simp;omega,Nat.le_refl _⟩
end Go.Proofs.YtnahlfaehelfjaaGreatDoor
