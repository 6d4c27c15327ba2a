/- Of my texts: TokF, TokG, TokH, TokI, TxB, TxC. -/
import Derived.Test.YtnanffmhbjdpaaaGreatDoorM00
import Derived.Test.YtnanffmhbjdpaaaGreatDoorM09
import Derived.Deep.RegionHeld3
namespace Go.Proofs.YtnanffmhbjdpaaaGreatDoor
set_option maxHeartbeats 8000000
set_option maxRecDepth 20000
set_option linter.unusedVariables false
set_option linter.unusedSimpArgs false
open Go.RowKit
structure Gx (w:World) (B:Nat) (oa:Option Addr) (cap b o:Nat) (l:List Int) (i:Nat):Prop where
 blk:Ql w B 112 #[.slice oa l.length cap,.int .i64 (i:Int)]
 sl:Sl w oa l.length cap b o 1 (Vo l)
 ne:b≠B
 rng:∀ x∈l,I32 x
 pos:i≤l.length+8
 len:l.length≤549755813888
section
variable {w w':World} {B:Nat} {oa:Option Addr} {cap b o:Nat} {l:List Int} {i:Nat}
theorem Gx.below (h:Gx w B oa cap b o l i) (hb:Below w.heap.size w w'):Gx w' B oa cap b o l i :=
 ⟨h.blk.below hb h.blk.lt,h.sl.below hb,h.ne,h.rng,h.pos,h.len⟩
theorem Gx.grow (h:Gx w B oa cap b o l i) (m:Kc w):Gx (grow w m) B oa cap b o l i:=h.below (Qk m)
theorem Gx.old (h:Gx w B oa cap b o l i) (ob:Obj):Gx (w.alloc ob) B oa cap b o l i:=h.below ((Below.refl _ _).alloc (Q6 _) ob)
theorem Gx.set (h:Gx w B oa cap b o l i) {j:Nat} (hj:j≤l.length+8):Gx (w.setCell ⟨B,1,none⟩ (.int .i64 (j:Int))) B oa cap b o l j :=
 ⟨(h.blk.put 1 _).to rfl,⟨h.sl.len,h.sl.le,h.sl.max,fun hp=>⟨(h.sl.lies hp).1,by simpa using (h.sl.lies hp).2⟩,fun k v hv=>by
   rw[World.cell?_setCell_other _ _ _ _ (by intro e;have:=congrArg Addr.block e;simp at this;exact h.ne this.symm)]
   exact h.sl.cell k v hv⟩,h.ne,h.rng,hj,h.len⟩
end
theorem Q6y {l:List Int} {i:Nat} (h:aF l i≠-1):i<l.length:=by
 rcases Nat.lt_or_ge i l.length with h1 | h1
 · exact h1
 · exact absurd (by rw[aF,Zf h1]) h
theorem Tx {w:World} {B:Nat} {oa:Option Addr} {cap b o:Nat} {l:List Int} {i:Nat} (h:Gx w B oa cap b o l i) (k:Nat) (hk:k≤4) :
  Calls Tryz.prog 83 #[.pointer (some ⟨B,0,none⟩),.int .i64 k] w fun e w'=>e=.returned (.int .i32 (aF l (i+k)))∧Below w.heap.size w w':=by
 have hpos:=h.pos;have hlen:=h.len;obtain⟨N,hN⟩:∃ N,l.length=N:=⟨_,rfl⟩;rw[hN]at hpos hlen;obtain⟨j,hj⟩:∃ j,i+k=j:=⟨_,rfl⟩
 have ij:(i:Int)+(k:Int)=(j:Int):=by omega
 rw[hj];obtain⟨A,hA⟩:∃ A,aF l j=A:=⟨_,rfl⟩;rw[hA];have hblk:=h.blk;rw[hN]at hblk;have HB:=Q1 hblk;have cr0:w.cell? ⟨B,0,none⟩=some (.slice oa N cap):=(hblk).cell 0;have fcr0:=(hblk).frozen 0;have cr1:w.cell? ⟨B,1,none⟩=some (.int .i64 (i:Int)):=(hblk).cell 1;have fcr1:=(hblk).frozen 1;have lcr:=(hblk).lt;clear hblk
 by_cases hlt:j<N
 · have gl:decide ((N:Int)≤(j:Int))=false:=by simp;omega
   have gln:decide (N≤j)=false:=by simp;omega
   have hjl:j<l.length:=by omega
   obtain⟨rfl,hbl⟩:=h.sl.lies (by omega);rw[aF,Q9 hjl]at hA;obtain⟨x,hx⟩:∃ x,l[j]=x:=⟨_,rfl⟩;rw[hx]at hA;simp only at hA;have HX:=Q1 hx
   have his:=fun w=>Q0i x w
   have HA:=Q1 hA;have HR:=Q1 h;clear h hx hA hj hN
   cases hc:isC x with
   | true =>
     rw[hc]at his;have HI:=Q1 his;have HF:=Q1 (show A=x by rw[← HA.out,hc];rfl);clear his hc HA
     go_enter Tryz.func83,Tryz.ntmps83
     go_upto_region 1 with fail
     refine Qx (by kernel_rfl) (by kernel_rfl) ?_
     repeat (go_big_quiet_step (fail))
     refine wpQuiet_nil ?_;rintro _ ⟨m1,rfl⟩;clear cr0 cr1 fcr0 fcr1 lcr;go_wp2_with fail;have hblk:=HB.out.grow m1;have cr0:(grow w m1).cell? ⟨B,0,none⟩=some (.slice (some ⟨b,o,none⟩) N cap):=(hblk).cell 0;have fcr0:=(hblk).frozen 0;have cr1:(grow w m1).cell? ⟨B,1,none⟩=some (.int .i64 (i:Int)):=(hblk).cell 1;have fcr1:=(hblk).frozen 1;have lcr:=(hblk).lt;have hcell:=(HR.out.grow m1).sl.cell j _ (Dt hjl);rw[HX.out]at hcell;have hbl1:b<(grow w m1).heap.size:=((HR.out.grow m1).sl.lies (by omega)).2;have hb:=Qk m1;clear hblk;generalize grow w m1=w1 at *;refine Qx (by kernel_rfl) (by kernel_rfl) ?_
     repeat (go_big_quiet_step (fail))
     refine wpQuiet_nil ?_;rintro _ ⟨m2,rfl⟩;clear cr0 cr1 fcr0 fcr1 lcr hcell;go_wp2_with fail
     ((with_reducible refine(HI.out _).mono ?_);rintro e w' ⟨rfl,rfl⟩)
     replace hb:=Qa hb m2;go_wp2_with fail;go_ret;exact⟨by rw[HF.out];rfl,hb⟩
   | false =>
     rw[hc]at his;have HI:=Q1 his;have HF:=Q1 (show A=65533 by rw[← HA.out,hc];rfl);clear his hc HA
     go_enter Tryz.func83,Tryz.ntmps83
     go_upto_region 1 with fail
     refine Qx (by kernel_rfl) (by kernel_rfl) ?_
     repeat (go_big_quiet_step (fail))
     refine wpQuiet_nil ?_;rintro _ ⟨m1,rfl⟩;clear cr0 cr1 fcr0 fcr1 lcr;go_wp2_with fail;have hblk:=HB.out.grow m1;have cr0:(grow w m1).cell? ⟨B,0,none⟩=some (.slice (some ⟨b,o,none⟩) N cap):=(hblk).cell 0;have fcr0:=(hblk).frozen 0;have cr1:(grow w m1).cell? ⟨B,1,none⟩=some (.int .i64 (i:Int)):=(hblk).cell 1;have fcr1:=(hblk).frozen 1;have lcr:=(hblk).lt;have hcell:=(HR.out.grow m1).sl.cell j _ (Dt hjl);rw[HX.out]at hcell;have hbl1:b<(grow w m1).heap.size:=((HR.out.grow m1).sl.lies (by omega)).2;have hb:=Qk m1;clear hblk;generalize grow w m1=w1 at *;refine Qx (by kernel_rfl) (by kernel_rfl) ?_
     repeat (go_big_quiet_step (fail))
     refine wpQuiet_nil ?_;rintro _ ⟨m2,rfl⟩;clear cr0 cr1 fcr0 fcr1 lcr hcell;go_wp2_with fail
     ((with_reducible refine(HI.out _).mono ?_);rintro e w' ⟨rfl,rfl⟩)
     replace hb:=Qa hb m2;go_wp2_with fail;go_ret;exact⟨by rw[HF.out];rfl,hb⟩
 · have gl:decide ((N:Int)≤(j:Int))=true:=by simp;omega
   have gln:decide (N≤j)=true:=by simp;omega
   rw[aF,Zf (by omega)]at hA;subst hA;clear h hj hN
   go_enter Tryz.func83,Tryz.ntmps83
   go_upto_region 1 with fail
   refine Qx (by kernel_rfl) (by kernel_rfl) ?_
   repeat (go_big_quiet_step (fail))
   refine wpQuiet_nil ?_;rintro _ ⟨m1,rfl⟩;clear cr0 cr1 fcr0 fcr1 lcr;go_wp2_with fail;go_ret;exact⟨rfl,Qk m1⟩
section
variable {w:World} {B:Nat} {oa:Option Addr} {cap b o:Nat} {l:List Int} {i:Nat}
theorem Xg (h:Gx w B oa cap b o l i):Calls Tryz.prog 83 #[.pointer (some ⟨B,0,none⟩),.int .i64 0] w fun e w'=>e=.returned (.int .i32 (aF l i))∧Below w.heap.size w w':=Tx h 0 (by omega)
theorem Px (h:Gx w B oa cap b o l i):Calls Tryz.prog 83 #[.pointer (some ⟨B,0,none⟩),.int .i64 1] w fun e w'=>e=.returned (.int .i32 (aF l (i+1)))∧Below w.heap.size w w':=Tx h 1 (by omega)
theorem Q0m (h:Gx w B oa cap b o l i):Calls Tryz.prog 83 #[.pointer (some ⟨B,0,none⟩),.int .i64 2] w fun e w'=>e=.returned (.int .i32 (aF l (i+2)))∧Below w.heap.size w w':=Tx h 2 (by omega)
end
structure Jb (w w':World) (B:Nat) (oa:Option Addr) (cap b o:Nat) (l:List Int) (i:Nat):Prop where
 gb:w.grownBy w' (some B)
 rd:Gx w' B oa cap b o l i
section
variable {w w' w2:World} {B:Nat} {oa:Option Addr} {cap b o:Nat} {l:List Int} {i j:Nat}
theorem Jb.start (h:Gx w B oa cap b o l i):Jb w w B oa cap b o l i:=⟨World.grownBy.refl _ _,h⟩
theorem Jb.below (h:Jb w w' B oa cap b o l i) (hb:Below w'.heap.size w' w2):Jb w w2 B oa cap b o l i:=⟨Z7 h.gb (Qc hb _),h.rd.below hb⟩
theorem Jb.grow (h:Jb w w' B oa cap b o l i) (m:Kc w'):Jb w (grow w' m) B oa cap b o l i:=h.below (Qk m)
theorem Jb.next (h:Jb w w' B oa cap b o l i) (h2:Jb w' w2 B oa cap b o l j):Jb w w2 B oa cap b o l j:=⟨Z7 h.gb h2.gb,h2.rd⟩
theorem J9 (w:World) (p:Addr) (v:Value):w.grownBy (w.setCell p v) (some p.block) :=
 ⟨rfl,rfl,rfl,by simp[World.setCell],fun k _ hne=>Below.heap_setCell w p v k (fun e=>hne (by rw[e]))⟩
theorem Jb.set (h:Jb w w' B oa cap b o l i) (hj:j≤l.length+8):Jb w (w'.setCell ⟨B,1,none⟩ (.int .i64 (j:Int))) B oa cap b o l j :=
 ⟨Z7 h.gb (J9 w' ⟨B,1,none⟩ _),h.rd.set hj⟩
theorem Jb.alloc (h:Jb w w' B oa cap b o l i) (ob:Obj):Jb w (w'.alloc ob) B oa cap b o l i:=h.below ((Below.refl _ _).alloc (Q6 _) ob)
end
theorem Q4y {l:List Int} {i:Nat} (h:V0 (aF l i)=true):i<l.length:=Q6y fun e=>by rw[e]at h;cases h
theorem Q58 {l:List Int} {i:Nat} (h:Kv (aF l i)=true):i<l.length:=Q6y fun e=>by rw[e]at h;cases h
theorem Sy {w:World} {B:Nat} {oa:Option Addr} {cap b o:Nat} {l:List Int} {i:Nat} (h:Gx w B oa cap b o l i) :
  Calls Tryz.prog 152 #[.pointer (some ⟨B,0,none⟩)] w fun e w'=>e=.returned (.tuple #[])∧Jb w w' B oa cap b o l (Q7o l i):=by
 obtain⟨E,hE⟩:∃ E,Q7o l i=E:=⟨_,rfl⟩;rw[hE];have HE:=Q1 (show Q2t l (l.length+2-i) i=E from hE);have HM:=Q1 (Jb.start h);have hl:=h.len
 have hN0:l.length≤(l.length+2-i)+i:=by omega
 clear hE h
 go_enter Tryz.func152,Tryz.ntmps152
 go_wp2_with fail
 go_loopg [] (l.length+2-i) (fun q wr=>∃ (i f:Nat),Hid (Jb w wr B oa cap b o l i)∧Hid (Q2t l f i=E)∧l.length≤f+i∧f≤q)
 case atStart=>exact⟨i,_,HM,HE,hN0,Q6 _⟩
 case round =>
  clear HM HE hN0;obtain⟨i,f,hM,hE,hf,hq⟩:=hrel;have hat:=Xg hM.out.rd
  have hdg:=fun w=>Yd (aF l i) w
  cases hd:V0 (aF l i) with
  | true =>
    have hi:=Q4y hd;obtain⟨f,rfl⟩:∃ f',f=f'+1:=⟨f-1,by omega⟩;have hE2:=hE.out;rw[Q2t,if_pos hd]at hE2;rw[hd]at hdg;have HA:=Q1 hat;have HD:=Q1 hdg;have HE2:=Q1 hE2;generalize aF l i=c at *;clear hat hdg hE2 hE hd;go_wp2_with fail
    ((with_reducible refine(HA.out).mono ?_);rintro e w' ⟨rfl,hbw⟩)
    obtain⟨m,rfl⟩:=Qf hbw;clear hbw;go_wp2_with fail
    ((with_reducible refine(HD.out _).mono ?_);rintro e w' ⟨rfl,rfl⟩)
    have HM2:=Q1 (hM.out.grow m);have hblk:=(hM.out.grow m).rd.blk;clear hM HA HD;generalize grow _ m=wx at *;have cr0:wx.cell? ⟨B,0,none⟩=some (.slice oa l.length cap):=(hblk).cell 0;have fcr0:=(hblk).frozen 0;have cr1:wx.cell? ⟨B,1,none⟩=some (.int .i64 (i:Int)):=(hblk).cell 1;have fcr1:=(hblk).frozen 1;have lcr:=(hblk).lt;clear hblk;go_wp2_with fail
    go_roundg f
    case measure=>omega
    case rel=>exact⟨i+1,f,Q1 (by have:=HM2.out.set (j:=i+1) (by omega);simpa using this),HE2,by omega,Q6 _⟩
  | false =>
    have hEi:E=i:=by
     have h0:=hE.out
     cases f with
     | zero=>exact h0.symm
     | succ f =>
       rw[Q2t,hd]at h0;exact h0.symm
    subst hEi;rw[hd]at hdg;have HA:=Q1 hat;have HD:=Q1 hdg;generalize aF l E=c at *;clear hat hdg hE hd;go_wp2_with fail
    ((with_reducible refine(HA.out).mono ?_);rintro e w' ⟨rfl,hbw⟩)
    obtain⟨m,rfl⟩:=Qf hbw;clear hbw;go_wp2_with fail
    ((with_reducible refine(HD.out _).mono ?_);rintro e w' ⟨rfl,rfl⟩)
    go_wp2_with fail
    go_end0
    exact⟨rfl,hM.out.grow m⟩
theorem Ts {w:World} {B:Nat} {oa:Option Addr} {cap b o:Nat} {l:List Int} {i:Nat} (h:Gx w B oa cap b o l i) :
  Calls Tryz.prog 116 #[.pointer (some ⟨B,0,none⟩)] w fun e w'=>e=.returned (.tuple #[])∧Jb w w' B oa cap b o l (Q7t l i):=by
 obtain⟨E,hE⟩:∃ E,Q7t l i=E:=⟨_,rfl⟩;rw[hE];have HE:=Q1 (show Q32 l (l.length+2-i) i=E from hE);have HM:=Q1 (Jb.start h);have hl:=h.len
 have hN0:l.length≤(l.length+2-i)+i:=by omega
 clear hE h
 go_enter Tryz.func116,Tryz.ntmps116
 go_wp2_with fail
 go_loopg [] (l.length+2-i) (fun q wr=>∃ (i f:Nat),Hid (Jb w wr B oa cap b o l i)∧Hid (Q32 l f i=E)∧l.length≤f+i∧f≤q)
 case atStart=>exact⟨i,_,HM,HE,hN0,Q6 _⟩
 case round =>
  clear HM HE hN0;obtain⟨i,f,hM,hE,hf,hq⟩:=hrel;have hat:=Xg hM.out.rd
  have hdg:=fun w=>Ec (aF l i) w
  cases hd:Kv (aF l i) with
  | true =>
    have hi:=Q58 hd;obtain⟨f,rfl⟩:∃ f',f=f'+1:=⟨f-1,by omega⟩;have hE2:=hE.out;rw[Q32,if_pos hd]at hE2;rw[hd]at hdg;have HA:=Q1 hat;have HD:=Q1 hdg;have HE2:=Q1 hE2;generalize aF l i=c at *;clear hat hdg hE2 hE hd;go_wp2_with fail
    ((with_reducible refine(HA.out).mono ?_);rintro e w' ⟨rfl,hbw⟩)
    obtain⟨m,rfl⟩:=Qf hbw;clear hbw;go_wp2_with fail
    ((with_reducible refine(HD.out _).mono ?_);rintro e w' ⟨rfl,rfl⟩)
    have HM2:=Q1 (hM.out.grow m);have hblk:=(hM.out.grow m).rd.blk;clear hM HA HD;generalize grow _ m=wx at *;have cr0:wx.cell? ⟨B,0,none⟩=some (.slice oa l.length cap):=(hblk).cell 0;have fcr0:=(hblk).frozen 0;have cr1:wx.cell? ⟨B,1,none⟩=some (.int .i64 (i:Int)):=(hblk).cell 1;have fcr1:=(hblk).frozen 1;have lcr:=(hblk).lt;clear hblk;go_wp2_with fail
    go_roundg f
    case measure=>omega
    case rel=>exact⟨i+1,f,Q1 (by have:=HM2.out.set (j:=i+1) (by omega);simpa using this),HE2,by omega,Q6 _⟩
  | false =>
    have hEi:E=i:=by
     have h0:=hE.out
     cases f with
     | zero=>exact h0.symm
     | succ f =>
       rw[Q32,hd]at h0;exact h0.symm
    subst hEi;rw[hd]at hdg;have HA:=Q1 hat;have HD:=Q1 hdg;generalize aF l E=c at *;clear hat hdg hE hd;go_wp2_with fail
    ((with_reducible refine(HA.out).mono ?_);rintro e w' ⟨rfl,hbw⟩)
    obtain⟨m,rfl⟩:=Qf hbw;clear hbw;go_wp2_with fail
    ((with_reducible refine(HD.out _).mono ?_);rintro e w' ⟨rfl,rfl⟩)
    go_wp2_with fail
    go_end0
    exact⟨rfl,hM.out.grow m⟩
theorem Hq {ops:Array Oper} {rest:List Oper} {o:Oper} {a:Act} {Q:Exit→Act→World→Prop} {base:Nat} {w:World} {t e:TypeId} {z:Value} {size bytes:Nat} (E:El t e z size bytes)
  (hgd:o.guard=none) (s x:Operand) (ho:o.op=.call { callee:=.builtin .append,args:=#[s,x],argTypes:=#[t,t] }) {v:Value} {n:Nat} {xs:List Value} (hs:a.eval s=v)
  (hown:w.ownsRow base e size v n xs) (hbase:base≤w.heap.size) (m c:Nat) (cs:Array Value) (tc:TypeId) (hx:a.eval x=.slice (some ⟨w.heap.size,0,none⟩) m c) (hl:cs.toList.length=m*size) (h1:∀ u∈cs.toList,u.oneCell'=true)
  (hm:0<m) (hbytes:(n+m)*bytes≤140737488355328) (h63:n+m≤140737488355328)
  (h:∀ g cap w',w'.ownsRow base e size (.slice (some ⟨g,0,none⟩) (n+m) cap) (n+m) (xs++cs.toList)→w.grownBy w' v.ownBlock→(∀ k,v.ownBlock=some k→base≤k)→wpList Tryz.prog ops Q rest (a.put o.dst (.slice (some ⟨g,0,none⟩) (n+m) cap)) w') :
  wpList Tryz.prog ops Q (o::rest) a (w.alloc (.cells cs tc)):=by
 obtain⟨i0,hi0,hz0,hz1,hz2⟩:=info_parts E.info
 refine wpList_append_lies _ hgd s x t ho base e i0 z size bytes E.under hi0 hz0 hz1 hz2 E.zs E.pos v n xs hs (hown.alloc _) ⟨w.heap.size,0,none⟩ m c cs.toList hx hl
  (World.news_of_block (cs:=cs) (t:=tc) (fr:=(0,0)) (heap_alloc_new w _)) h1 hm (Qz h63 (by decide)) hbytes (Qz hbase (by simp)) _ rfl fun g cap w' hown hg _ _=>?_
 exact h g cap w' hown (Z7 (World.grownBy_alloc w _ _) hg) (fun k hk=>(by assumption:w.ownsRow base e size v n xs).lt k hk |>.1)
section
variable {w wr w':World} {B:Nat} {oa:Option Addr} {cap b o:Nat} {l:List Int} {i j:Nat} {row:Option Nat}
theorem Gx.grown (h:Gx wr B oa cap b o l i) (hg:wr.grownBy w' row) (h1:row≠some B) (h2:0<l.length→row≠some b):Gx w' B oa cap b o l i :=
 ⟨(hg.block B h.blk.lt (Ne.symm h1)).trans h.blk,h.sl.grown hg (fun hp=>Ne.symm (h2 hp)),h.ne,h.rng,h.pos,h.len⟩
theorem Jb.push (h:Jb w wr B oa cap b o l i) (h0:Gx w B oa cap b o l j) (hg:wr.grownBy w' row) (hr:∀ k,row=some k→w.heap.size≤k):Jb w w' B oa cap b o l i :=
 ⟨Db h.gb hg hr,h.rd.grown hg (fun e=>by have:=hr B e;have:=h0.blk.lt;omega) (fun hp e=>by have:=hr b e;have:=(h0.sl.lies hp).2;omega)⟩
end
theorem V9 {w w':World} {base:Nat} {e:TypeId} {size:Nat} {v:Value} {n:Nat} {xs:List Value} {B:Nat} (h:w.ownsRow base e size v n xs) (hg:w.grownBy w' (some B)) (hB:B<base):w'.ownsRow base e size v n xs :=
 h.kept hg (by
  cases hv:v.ownBlock with
  | none=>exact .inl rfl
  | some k=>exact .inr (fun e=>by have:=(h.lt k hv).1;have:=Q8 e;omega))
theorem G5 {w:World} {base:Nat} {e:TypeId} {size:Nat} {v:Value} {n:Nat} {xs:List Value} (h:w.ownsRow base e size v n xs) (m:Kc w):(grow w m).ownsRow base e size v n xs :=
 h.kept (Qc (Qk m) none) (by cases v.ownBlock<;>simp)
structure Bl (w:World) (g:Nat) (l:List UInt8):Prop where
 lt:g<w.heap.size
 cell:∀ (j:Nat) (c:UInt8),l[j]?=some c→w.cell? ⟨g,j,none⟩=some (.int .u8 (c.toNat:Int))
 free:∀ (j:Nat),j<l.length→w.frozen? ⟨g,j,none⟩=false
theorem Bl.set {w:World} {g:Nat} {l:List UInt8} (h:Bl w g l) {i:Nat} (hi:i<l.length) (c:UInt8):Bl (w.setCell ⟨g,i,none⟩ (.int .u8 (c.toNat:Int))) g (l.set i c) :=
 ⟨by simpa using h.lt,fun j d hd=>by
   by_cases hj:i=j
   · subst hj;rw[List.getElem?_set_self hi]at hd;obtain rfl:=Q8 hd;exact World.cell?_setCell_same _ _ _ (h.cell i _ (Q9 hi))
   · rw[List.getElem?_set_ne hj]at hd;rw[World.cell?_setCell_other _ _ _ _ (by simp[hj])]
     exact h.cell j d hd,fun j hj=>(World.frozen?_setCell _ _ _ _).trans (h.free j (by simpa using hj))⟩
theorem T2 {w:World} {g j lo hi:Nat} {cs:Array Value} {t:TypeId} (h:w.heap[g]?=some (.cells cs t (lo,hi))) (hj:j<lo):w.frozen? ⟨g,j,none⟩=false:=by
 unfold World.frozen?;simp only[h]
 have:decide (lo≤j)=false:=by simp;omega
 rw[this];rfl
theorem Bj (m:List UInt8) (w:World):∃ (cap:Nat) (w1:World),(convert 9 46 (.string ⟨m.toArray⟩)).run Tryz.prog w=.ok (.slice (some ⟨w.heap.size,0,none⟩) m.length cap) w1∧Below w.heap.size w w1∧Bl w1 w.heap.size m:=by
 have h:=run_bytes_of_string (P:=Tryz.prog) w 9 46 5 ⟨m.toArray⟩ Tryz.underlying9 Tryz.underlying46 Tryz.underlying5;refine⟨_,_,h,((Below.refl _ _).drew.alloc (Q6 _) _),by simp,fun i c hc=>?_,fun j hj=>?_⟩
 · obtain⟨hi,rfl⟩:=Qn.1 hc;rw[cell_of_row _ w.heap.size i _ _ _ (heap_alloc_new w.drew _)];exact bytesRow_at ⟨m.toArray⟩ _ i hi
 · have h1:=bytesRow_at ⟨m.toArray⟩ (grownCap w (⟨m.toArray⟩:ByteArray).size 0 5) j hj;have h2:=(Zt.1 h1).1;exact T2 (heap_alloc_new w.drew _) h2
theorem Bl.text {w:World} {g:Nat} {l:List UInt8} (h:Bl w g l) (cap:Nat):(convert 46 9 (.slice (some ⟨g,0,none⟩) l.length cap)).run Tryz.prog w=.ok (.string ⟨l.toArray⟩) w :=
 run_convert_bytes_back w _ _ _ ⟨g,0,none⟩ cap l Tryz.underlying46 Tryz.underlying5 Tryz.underlying9 (fun j hj=>by
  rw[Addr.add_lit,Nat.zero_add]
  exact h.cell j _ (Q9 hj))
theorem Pe {c:UInt8} (h:65≤c.toNat∧c.toNat≤90):(Pf c).toNat=c.toNat+32:=by
 unfold Pf;rw[if_pos ⟨UInt8.le_iff_toNat_le.2 h.1,UInt8.le_iff_toNat_le.2 h.2⟩,UInt8.toNat_add];show (c.toNat+32) % 256=_;omega
theorem F4 {c:UInt8} (h:¬ (65≤c.toNat∧c.toNat≤90)):Pf c=c:=by
 unfold Pf;rw[if_neg (fun e=>h ⟨by have:=UInt8.le_iff_toNat_le.1 e.1;simpa using this,by have:=UInt8.le_iff_toNat_le.1 e.2;simpa using this⟩)]
def Yt (m:List UInt8) (i:Nat):List UInt8:=U6 (m.take i)++m.drop i
theorem Vi (m:List UInt8) (i:Nat):(Yt m i).length=m.length:=by
 unfold Yt U6;rw[Qd,Qj,Zb,Zu];omega
theorem F3 {m:List UInt8} {i:Nat} (h:i<m.length):Yt m (i+1)=(Yt m i).set i (Pf m[i]):=by
 have e:(U6 (m.take i)).length=i:=by unfold U6;rw[Qj,Zb];omega
 unfold Yt;rw[Qv h,Ze h,List.set_append,if_neg (by omega),e,Nat.sub_self,Q4];unfold U6;rw[Zp,List.append_assoc];rfl
theorem Dx {m:List UInt8} {i:Nat} (h:i<m.length):(Yt m i)[i]?=some m[i]:=by
 have e:(U6 (m.take i)).length=i:=by unfold U6;rw[Qj,Zb];omega
 unfold Yt;rw[Z0 (by omega),e,Nat.sub_self,Qv h];rfl
theorem Lw (m:List UInt8):Yt m m.length=U6 m:=by
 unfold Yt;rw[List.take_length,List.drop_length,List.append_nil]
def tv (t:Tk):Value:=.agg #[.int .i64 t.kind,.string ⟨t.text.toArray⟩,.int .i64 t.num.1,.int .i64 t.num.2,.bool t.int,.bool t.id]
section
variable {w wr w':World} {B:Nat} {oa:Option Addr} {cap b o:Nat} {l:List Int} {i j:Nat} {row:Option Nat}
theorem Jb.far (h:Jb w wr B oa cap b o l i) (h0:Gx w B oa cap b o l j) (p:Addr) (v:Value) (hp:w.heap.size≤p.block):Jb w (wr.setCell p v) B oa cap b o l i :=
 h.push h0 (J9 wr p v) (fun k hk=>by cases hk;exact hp)
theorem Jb.lies (h:Jb w wr B oa cap b o l i) (h0:Gx w B oa cap b o l j):B<w.heap.size:=h0.blk.lt
theorem Ql.mvd {g:Nat} {t:TypeId} {cs:Array Value} (h:Ql w g t cs) (hm:Jb w wr B oa cap b o l i) (hne:g≠B):Ql wr g t cs:=(hm.gb.block g h.lt (by simpa using hne)).trans h
end
theorem Sw (d:List UInt8) (oa:Option Addr) (cap b o:Nat) (w:World) (hs:Sl w oa d.length cap b o 1 (Vo (J7 d))) (hp:Y5 d) (hm:d.length≤1000) :
  Calls Tryz.prog 155 #[.slice oa d.length cap] w fun e w'=>(∃ v,e=.returned v∧Rw w w' 5 1 v d.length (Xv d)):=by
 have HS:=Q1 (Q3 hs hp);obtain⟨N,hN⟩:∃ N,d.length=N:=⟨_,rfl⟩;rw[hN]at hm ⊢;have HN:=Q1 hN;clear hs hp hN
 go_enter Tryz.func155,Tryz.ntmps155
 go_wp2_with fail
 go_loopg [3,8] N (fun q s3 s8 wr=>∃ (i:Nat) (v:Value),v=s3∧s8=.int .i64 i∧Hid (Rw w wr 5 1 v i (Xv (d.take i)))∧i≤N∧N-i≤q)
 case atStart=>exact⟨0,_,rfl,rfl,Q1 (Rw.start _ _ _),Qs _,by omega⟩
 case round =>
  obtain⟨i,v,rfl,rfl,hR,hiN,hq⟩:=hrel
  by_cases hi:i<N
  · have gi:decide ((i:Int)<(N:Int))=true:=by simpa using hi
    have gin:decide (i<N)=true:=by simpa using hi
    have hil:i<d.length:=by rw[HN.out];exact hi
    have hsl2:=HS.out.1.below hR.out.below;rw[HN.out]at hsl2;obtain⟨rfl,hyb⟩:=hsl2.lies (by omega);have hcell:=hsl2.cell i _ (Dt (l:=J7 d) (by unfold J7;rw[Qj];exact hil));rw[show (J7 d)[i]'(by unfold J7;rw[Qj];exact hil)=((d[i]).toNat:Int) by unfold J7;rw[List.getElem_map]]at hcell;have hx:=HS.out.2 _ (List.getElem_mem hil);have HT:=Q1 (show Xv (d.take (i+1))=Xv (d.take i)++[.int .u8 ((d[i]).toNat:Int)] by unfold Xv;rw[Ze hil,Zp];rfl);generalize (d[i]).toNat=x at *;have HI:=Q1 (fun w=>Q0i (x:Int) w);rw[show isC (x:Int)=true by unfold isC;simp;omega]at HI
    have g1:decide ((x:Int)<(128:Int))=true:=by simp;omega
    clear hsl2;go_wp2_with fail;go_wp2_with fail
    ((with_reducible refine(HI.out _).mono ?_);rintro e w' ⟨rfl,rfl⟩)
    go_wp2_with (at_builtin;refine Wo Q7m rfl _ _ rfl rfl hR.out 1 1 #[_] _ rfl rfl (by simp[Value.oneCell']) (by omega) (by omega) (by omega) ?_;intro g2 cap2 w2 hR2 hg2;have HR2:=Q1 hR2;clear hR2 hg2)
    go_roundg (N-(i+1))
    case measure=>omega
    case rel=>exact⟨i+1,_,rfl,by go_num,Q1 (by have:=HR2.out;rw[HT.out];exact this),hi,Q6 _⟩
  · obtain rfl:i=N:=by omega
    have gi:decide ((i:Int)<(i:Int))=false:=by simp
    have gin:decide (i<i)=false:=by simp
    have hR2:=hR.out;rw[Zc (by rw[HN.out];exact Q6 _)]at hR2;have HR2:=Q1 hR2;clear hR2 hR;go_wp2_with fail;go_ret;exact⟨_,rfl,HR2.out⟩
theorem Nj (d:List UInt8) (oa:Option Addr) (cap b o:Nat) (w:World) (hs:Sl w oa d.length cap b o 1 (Vo (J7 d))) (hp:Y5 d) (hm:d.length≤1000) :
  Calls Tryz.prog 125 #[.slice oa d.length cap] w fun e w'=>e=.returned (.string ⟨d.toArray⟩)∧Below w.heap.size w w':=by
 have HE:=Q1 (Sw d oa cap b o w hs hp hm);clear hs hp
 go_enter Tryz.func125,Tryz.ntmps125
 go_wp2_with fail
 ((with_reducible refine HE.out.mono ?_);rintro e w' ⟨v,rfl,hR⟩)
 obtain⟨ya,yc,yb,rfl,hsl,_⟩:=hR.sl;have hcv:=Q6g hsl;have hb:=hR.below;go_wp2_with fail;go_ret;exact⟨rfl,hb⟩
def Hf (m:List UInt8) (i e:Nat):List UInt8:=(m.take e).drop i
theorem Il {m:List UInt8} (h:Y5 m) (i e:Nat):Y5 (Hf m i e):=fun c hc=>h c (List.mem_of_mem_take (List.mem_of_mem_drop hc))
theorem Lr (m:List UInt8) {i e:Nat} (he:e≤m.length):(Hf m i e).length=e-i:=by unfold Hf;rw[Zu,Zb];omega
theorem Q25 (m:List UInt8) {i p:Nat} (hi:i≤p) (hp:p<m.length):J7 (Hf m i (p+1))=J7 (Hf m i p)++[((m[p]).toNat:Int)]:=by
 unfold Hf J7;rw[Ze hp,List.drop_append_of_le_length (by rw[Zb];omega),Zp];rfl
theorem Al {m:List UInt8} (h:Y5 m) {p:Nat} (hp:p<m.length):aF (J7 m) p=((m[p]).toNat:Int):=by
 have hc:=(h _ (List.getElem_mem hp)).2;unfold aF J7;rw[Z5,Q9 hp];simp only[Option.map_some];rw[if_pos (by unfold isC;simp;omega)]
theorem Q22 {w:World} {B:Nat} {oa:Option Addr} {cap b o:Nat} {m:List UInt8} {i:Nat} (h:Gx w B oa cap b o (J7 m) i) (hp:Y5 m) (hm:m.length≤1000) (e:Nat) (hie:i≤e) (hem:e<m.length) (hL:∀ j,i≤j→j<e→Dy (aF (J7 m) j)=true) (hE:Dy (aF (J7 m) e)=false) (hE2:Su (aF (J7 m) e) (aF (J7 m) (e+1))=false) :
  Calls Tryz.prog 121 #[.pointer (some ⟨B,0,none⟩)] w fun x w'=>x=.returned (.string ⟨(Hf m i e).toArray⟩)∧Jb w w' B oa cap b o (J7 m) e:=by
 have he:=Zg hem;have hsz:=h.blk.lt;have HR:=Q1 h;have HM:=Q1 (Jb.start h);have HH:=Q1 (Q3 hp (Q3 hL (Q3 hE hE2)))
 have hlr:(J7 m).length=m.length:=by unfold J7;rw[Qj]
 clear h hp hL hE hE2
 go_enter Tryz.func121,Tryz.ntmps121
 go_wp2_with fail
 go_loopg [3] (e-i) (fun q s3 wr=>∃ (p:Nat) (v:Value),v=s3∧Hid (Jb w wr B oa cap b o (J7 m) p)∧Hid (wr.ownsRow w.heap.size 21 1 v (p-i) (Vo (J7 (Hf m i p))))∧i≤p∧p≤e∧e-p≤q)
 case atStart=>exact⟨i,_,rfl,HM,Q1 (by rw[Nat.sub_self,show Hf m i i=[] by unfold Hf;exact Z3 (by rw[Zb];omega)];exact World.ownsRow_nil _ _ _ _),Q6 _,hie,Q6 _⟩
 case round =>
  clear HM;obtain⟨p,v,rfl,hM,hO,hip,hpe,hq⟩:=hrel;have hws:=hM.out.gb.size;have HA:=Q1 (Xg hM.out.rd)
  by_cases hp:p<e
  · have hpm:p<m.length:=by omega
    have HN:=Q1 (Q25 m hip hpm)
    have hlet:=fun w=>Fr (aF (J7 m) p) w
    rw[HH.out.2.1 p hip hp]at hlet;have HL:=Q1 hlet;have hpp:=Al HH.out.1 hpm;have hcb:=(HH.out.1 _ (List.getElem_mem hpm));rw[hpp]at HA HL;generalize (m[p]).toNat=c at *
    have gc:((c:Int) != -1)=true:=by rw[bne_iff_ne];omega
    clear hlet hpp;go_wp2_with fail
    ((with_reducible refine(HA.out).mono ?_);rintro e w' ⟨rfl,hbw⟩)
    obtain⟨m1,rfl⟩:=Qf hbw;clear hbw;go_wp2_with fail;go_wp2_with fail
    ((with_reducible refine(HL.out _).mono ?_);rintro e w' ⟨rfl,rfl⟩)
    have HM2:=Q1 (hM.out.grow m1);have HO2:=Q1 (G5 hO.out m1);have hsz2:=Zn m1;clear hM hO HA HL;generalize grow _ m1=wx at *;go_wp2_with (at_builtin;refine Hq Tc rfl _ _ rfl rfl HO2.out (by omega) 1 1 #[.int .i32 c] _ rfl rfl (by simp[Value.oneCell']) (by omega) (by omega) (by omega) ?_;intro g2 cap2 w2 hR2 hg2 hr2;have HM3:=Q1 (HM2.out.push HR.out hg2 hr2);have HO3:=Q1 hR2;have hblk:=HM3.out.rd.blk;clear hR2 hg2 hr2 HM2 HO2;have cr0:=hblk.cell 0;have cr1:=hblk.cell 1;have fr1:=hblk.frozen 1;have lcr:=hblk.lt;clear hblk)
    go_roundg (e-(p+1))
    case measure=>omega
    case rel=>exact⟨p+1,_,rfl,Q1 (by have:=HM3.out.set (j:=p+1) (by omega);simpa using this),Q1 (by have:=ownsRow_setCell_below HO3.out (a:=⟨B,1,none⟩) hsz (.int .i64 ((p:Int)+1));rw[HN.out,show p+1-i=p-i+1 by omega];simpa[Vo] using this),by omega,hp,Q6 _⟩
  · obtain rfl:p=e:=by omega
    have hlet:=fun w=>Fr (aF (J7 m) p) w
    have hesc:=fun w=>Pl (aF (J7 m) p) (aF (J7 m) (p+1)) w
    have HA1:=Q1 (fun m1=>Px (hM.out.grow m1).rd);rw[HH.out.2.2.1]at hlet;rw[HH.out.2.2.2]at hesc;have HL:=Q1 hlet;have HE:=Q1 hesc;obtain⟨va,vc,vb,rfl,hsl,_⟩:=Zx hO.out;have HTX:=Q1 (fun wy (hy:Below wr.heap.size wr wy)=>Nj (Hf m i p) va vc vb 0 wy (by rw[Lr m he];exact hsl.below hy) (Il HH.out.1 i p) (by rw[Lr m he];omega));rw[Lr m he]at HTX;have hA2:=HA.out;have hce:=Al HH.out.1 hem;rw[hce]at hA2 HL HE;generalize (m[p]).toNat=c at *
    have gc:((c:Int) != -1)=true:=by rw[bne_iff_ne];omega
    clear hlet hesc hO HA hsl hce;generalize aF (J7 m) (p+1)=c1 at *;have HA:=Q1 hA2;clear hA2;go_wp2_with fail
    ((with_reducible refine(HA.out).mono ?_);rintro e w' ⟨rfl,hbw⟩)
    obtain⟨m1,rfl⟩:=Qf hbw;clear hbw;have HM1:=Q1 (hM.out.grow m1);have HA3:=Q1 (HA1.out m1);have HTX2:=Q1 (fun m2=>HTX.out _ ((Qk m1).trans ((Qk m2).mono (Zn m1))));clear hM HA HA1 HTX;generalize grow _ m1=wv at *;go_wp2_with fail;go_wp2_with fail
    ((with_reducible refine(HL.out _).mono ?_);rintro e w' ⟨rfl,rfl⟩)
    go_wp2_with fail
    ((with_reducible refine(HA3.out).mono ?_);rintro e w' ⟨rfl,hbw⟩)
    obtain⟨m2,rfl⟩:=Qf hbw;clear hbw;go_wp2_with fail
    ((with_reducible refine(HE.out _).mono ?_);rintro e w' ⟨rfl,rfl⟩)
    go_wp2_with fail;go_wp2_with fail
    ((with_reducible refine(HTX2.out m2).mono ?_);rintro e w' ⟨rfl,hbw⟩)
    obtain⟨m3,rfl⟩:=Qf hbw;clear hbw;go_wp2_with fail;go_ret;exact⟨rfl,(HM1.out.grow m2).below (by first|exact Qk m3 | exact(Qk _))⟩
theorem Ql.six {w:World} {g:Nat} {t:TypeId} {a0 a1 a2 a3 a4 a5:Value} (h:Ql w g t #[a0,a1,a2,a3,a4,a5]):w.cell? ⟨g,0,none⟩=some a0∧w.frozen? ⟨g,0,none⟩=false∧w.cell? ⟨g,1,none⟩=some a1∧w.frozen? ⟨g,1,none⟩=false∧w.cell? ⟨g,2,none⟩=some a2∧w.frozen? ⟨g,2,none⟩=false∧w.cell? ⟨g,3,none⟩=some a3∧w.frozen? ⟨g,3,none⟩=false∧w.cell? ⟨g,4,none⟩=some a4∧w.frozen? ⟨g,4,none⟩=false∧w.cell? ⟨g,5,none⟩=some a5∧w.frozen? ⟨g,5,none⟩=false∧g<w.heap.size :=
 ⟨h.cell 0,h.frozen 0,h.cell 1,h.frozen 1,h.cell 2,h.frozen 2,h.cell 3,h.frozen 3,h.cell 4,h.frozen 4,h.cell 5,h.frozen 5,h.lt⟩
theorem Gx.duo {w:World} {B:Nat} {oa:Option Addr} {cap b o:Nat} {l:List Int} {i:Nat} (h:Gx w B oa cap b o l i):w.cell? ⟨B,0,none⟩=some (.slice oa l.length cap)∧w.cell? ⟨B,1,none⟩=some (.int .i64 (i:Int))∧w.frozen? ⟨B,1,none⟩=false∧B<w.heap.size :=
 ⟨h.blk.cell 0,h.blk.cell 1,h.blk.frozen 1,h.blk.lt⟩
section
variable {w:World} {B:Nat} {oa:Option Addr} {cap b o:Nat} {l:List Int} {i:Nat}
theorem Fl (h:Gx w B oa cap b o l i) (hc:aF l i≠47) :
  Calls Tryz.prog 82 #[.pointer (some ⟨B,0,none⟩)] w fun e w'=>e=.returned (.tuple #[])∧Jb w w' B oa cap b o l i:=by
 have hA:=Xg h;have HM:=Q1 (Jb.start h);obtain⟨c,hc1⟩:∃ c,aF l i=c:=⟨_,rfl⟩;rw[hc1]at hA hc;have HA:=Q1 hA
 have k1:(c==47)=false:=by simpa using hc
 clear h hA hc hc1
 go_enter Tryz.func82,Tryz.ntmps82
 go_wp2_with fail
 go_loopg [] 0 (fun q wr=>wr=w∧0≤q)
 case atStart=>exact⟨rfl,Q6 _⟩
 case round =>
  obtain⟨rfl,hq⟩:=hrel;go_wp2_with fail
  ((with_reducible refine(HA.out).mono ?_);rintro e w' ⟨rfl,hbw⟩)
  obtain⟨m3,rfl⟩:=Qf hbw;clear hbw;have HM3:=Q1 (HM.out.grow m3);go_wp2_with fail
  go_end0
  exact⟨rfl,HM3.out⟩
def Ff (B:Nat) (oa:Option Addr) (cap b o:Nat) (l:List Int) (i:Nat) (s:List UInt8) (e:Nat):Prop :=
 ∀ w,Gx w B oa cap b o l i→Calls Tryz.prog 121 #[.pointer (some ⟨B,0,none⟩)] w fun x w'=>x=.returned (.string ⟨s.toArray⟩)∧Jb w w' B oa cap b o l e
theorem Q0t {s:List UInt8} {j:Nat} (h:Gx w B oa cap b o l i) (hn:Ff B oa cap b o l i s j) (h40:aF l j≠40) :
  Calls Tryz.prog 124 #[.pointer (some ⟨B,0,none⟩)] w fun e w'=>e=.returned (tv (L6 1 s))∧Jb w w' B oa cap b o l j:=by
 have hB:=h.blk.lt;have HR:=Q1 h;unfold Ff at hn;have HNM:=Q1 hn;obtain⟨c,hc⟩:∃ c,aF l j=c:=⟨_,rfl⟩;have HC:=Q1 hc
 have g40:(c != 40)=true:=by rw[hc]at h40;simpa using h40
 obtain⟨r0,hr0⟩:∃ r0,w.heap.size=r0:=⟨_,rfl⟩
 have hBr:B<r0:=by omega
 clear h hn h40 hc
 go_enter Tryz.func124,Tryz.ntmps124
 go_upto_region 1 with fail
 have HR1:=Q1 (HR.out.old (.cells #[.int .i64 0,.string ⟨#[]⟩,.int .i64 0,.int .i64 0,.bool false,.bool false] 25));have hT:=Ql.new w 25 #[.int .i64 0,.string ⟨#[]⟩,.int .i64 0,.int .i64 0,.bool false,.bool false];have HW:=Q1 ((Jb.start HR.out).alloc (.cells #[.int .i64 0,.string ⟨#[]⟩,.int .i64 0,.int .i64 0,.bool false,.bool false] 25));rw[hr0]at hT;have HT:=Q1 hT;clear hT;generalize w.alloc _=w1 at *;go_wp2_with fail
 ((with_reducible refine(HNM.out _ HR1.out).mono ?_);rintro e w2 ⟨rfl,hmv⟩)
 have HM:=Q1 hmv;have hA:=Xg HM.out.rd;rw[HC.out]at hA;have HA:=Q1 hA;clear hA hmv HNM HC;go_wp2_with fail;go_wp2_with fail
 ((with_reducible refine(HA.out).mono ?_);rintro e w' ⟨rfl,hbw⟩)
 obtain⟨m,rfl⟩:=Qf hbw;clear hbw;have HM1:=Q1 (HM.out.grow m);clear HM HA;generalize grow _ m=wx at *;obtain⟨c0,f0,c1,f1,c2,f2,c3,f3,c4,f4,c5,f5,l0⟩:=(HT.out.mvd HM1.out (by omega)).six;go_wp2_with fail
 exact bodyPost_ret (v:=tv (L6 1 s)) (by simp[results,Tryz.results124,go_sem,c0,c1,c2,c3,c4,c5,l0,tv,L6]) rfl ⟨rfl,by
  have h0:=HW.out.next HM1.out
  repeat (first|with_reducible exact h0 | (with_reducible refine Jb.far ?_ HR.out _ _ ?hq;case hq=>(show w.heap.size≤r0;omega)))⟩
end
end Go.Proofs.YtnanffmhbjdpaaaGreatDoor
