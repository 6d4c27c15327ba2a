/- Of my texts: WideC, WideD, WideE, RatD, Fold, Times, LooseB, RatF, Rats, FoldA, MulR, LooseC, BlkN, FoldT, MulP. -/
import Derived.Test.YtnanffmhbjdpaaaGreatDoorM00
import Derived.Test.YtnanffmhbjdpaaaGreatDoorM02
import Derived.Test.YtnanffmhbjdpaaaGreatDoorM03
import Derived.Test.YtnanffmhbjdpaaaGreatDoorM04
import Derived.Deep.LoopGhost
import Derived.Deep.RegionWith
import Derived.Deep.CutBlock
import Derived.Deep.DeepCutAuto
namespace Go.Proofs.YtnanffmhbjdpaaaGreatDoor
set_option maxHeartbeats 2000000
set_option linter.unusedVariables false
set_option linter.unusedSimpArgs false
open Go.RowKit
def Ql (w:World) (g:Nat) (t:TypeId) (cs:Array Value):Prop:=w.heap[g]?=some (.cells cs t (0,0))
section
variable {w w':World} {g:Nat} {t:TypeId} {cs:Array Value}
theorem Ql.lt (h:Ql w g t cs):g<w.heap.size:=by
 apply Classical.byContradiction
 intro hn;unfold Ql at h;rw[Array.getElem?_eq_none (by omega)]at h
 cases h
theorem Ql.cell (h:Ql w g t cs) (i:Nat):w.cell? ⟨g,i,none⟩=cs[i]?:=cell_of_row w g i cs t (0,0) h
theorem Ql.frozen (h:Ql w g t cs) (i:Nat):w.frozen? ⟨g,i,none⟩=false:=by unfold Ql at h;simp[World.frozen?,h]
theorem Ql.new (w:World) (t:TypeId) (cs:Array Value):Ql (w.alloc (.cells cs t)) w.heap.size t cs:=heap_alloc_new w _
theorem Ql.old (h:Ql w g t cs) (o:Obj):Ql (w.alloc o) g t cs:=(Below.heap_alloc w o g h.lt).trans h
theorem Ql.below {B:Nat} (h:Ql w g t cs) (hb:Below B w w') (hg:g<B):Ql w' g t cs:=(hb.block g hg).trans h
theorem Ql.grow (h:Ql w g t cs) (m:Kc w):Ql (grow w m) g t cs:=h.below (Qk m) h.lt
theorem Ql.put (h:Ql w g t cs) (i:Nat) (u:Value):Ql (w.setCell ⟨g,i,none⟩ u) g t (cs.setIfInBounds i u):=by
 unfold Ql at h ⊢;simp[World.setCell,Array.getElem?_modify,h]
theorem Ql.far (h:Ql w g t cs) {p:Addr} (hp:g≠p.block) (u:Value):Ql (w.setCell p u) g t cs:=(Below.heap_setCell w p u g hp).trans h
theorem Ql.five {w:World} {g:Nat} {t:TypeId} {a0 a1 a2 a3 a4:Value} (h:Ql w g t #[a0,a1,a2,a3,a4]):w.cell? ⟨g,0,none⟩=some a0∧w.frozen? ⟨g,0,none⟩=false∧w.cell? ⟨g,1,none⟩=some a1∧w.frozen? ⟨g,1,none⟩=false∧w.cell? ⟨g,2,none⟩=some a2∧w.frozen? ⟨g,2,none⟩=false∧w.cell? ⟨g,3,none⟩=some a3∧w.frozen? ⟨g,3,none⟩=false∧w.cell? ⟨g,4,none⟩=some a4∧w.frozen? ⟨g,4,none⟩=false∧g<w.heap.size :=
 ⟨h.cell 0,h.frozen 0,h.cell 1,h.frozen 1,h.cell 2,h.frozen 2,h.cell 3,h.frozen 3,h.cell 4,h.frozen 4,h.lt⟩
theorem Ql.to (h:Ql w g t cs) {cs':Array Value} (e:cs=cs'):Ql w g t cs':=e ▸ h
end
structure Gw (w0 wr:World) (t ah al bh bl:Nat):Prop where
 below:Below w0.heap.size w0 wr
 a:Ql wr w0.heap.size t #[.int .u64 ah,.int .u64 al]
 b:Ql wr (w0.heap.size+1) t #[.int .u64 bh,.int .u64 bl]
 r:Ql wr (w0.heap.size+1+1) t #[.int .u64 0,.int .u64 0]
 b1:ah<18446744073709551616
 b2:al<18446744073709551616
 b3:bh<18446744073709551616
 b4:bl<18446744073709551616
theorem Ql.put2 {w:World} {g:Nat} {t:TypeId} {x y:Value} (h:Ql w g t #[x,y]) (a b:Value):Ql ((w.setCell ⟨g,0,none⟩ a).setCell ⟨g,1,none⟩ b) g t #[a,b]:=(h.put 0 a).put 1 b
theorem Ql.far2 {w:World} {g g':Nat} {t:TypeId} {cs:Array Value} (h:Ql w g t cs) (hne:g≠g') (i j:Nat) (a b:Value):Ql ((w.setCell ⟨g',i,none⟩ a).setCell ⟨g',j,none⟩ b) g t cs:=(h.far (p:=⟨g',i,none⟩) hne a).far (p:=⟨g',j,none⟩) hne b
section
variable {w0 wr:World} {t ah al bh bl:Nat}
theorem Gw.grow (h:Gw w0 wr t ah al bh bl) (m:Kc wr):Gw w0 (grow wr m) t ah al bh bl:=⟨Qa h.below m,h.a.grow m,h.b.grow m,h.r.grow m,h.b1,h.b2,h.b3,h.b4⟩
end
structure Gs (G ah al bh bl n:Nat):Prop where
 a:wn ah al≠0
 b:wn bh bl≠0
 eq:2 ^ n*Nat.gcd (wn ah al) (wn bh bl)=G
 lt:G<340282366920938463463374607431768211456
structure Gt (G ah al bh bl n:Nat):Prop where
 odd:al % 2=1
 eq:2 ^ n*Nat.gcd (wn ah al) (wn bh bl)=G
 lt:G<340282366920938463463374607431768211456
theorem Gs.done {G ah al bh bl n:Nat} (h:Gs G ah al bh bl n) (pa:al % 2=1):Gt G ah al bh bl n:=⟨pa,h.eq,h.lt⟩
theorem Gt.pos {G ah al bh bl n:Nat} (h:Gt G ah al bh bl n):0<wn ah al:=by have:=h.odd;unfold wn;omega
theorem Gt.last {G ah al bh bl n:Nat} (h:Gt G ah al bh bl n) (hb:bh=0∧bl=0):2 ^ n*wn ah al=G:=by
 have:=h.eq;rw[hb.1,hb.2,show wn 0 0=0 from rfl,Nat.gcd_zero_right]at this;exact this
structure Gd (w0 wr:World) (t ah al bh bl qh ql rh rl:Nat):Prop where
 below:Below w0.heap.size w0 wr
 a:Ql wr w0.heap.size t #[.int .u64 ah,.int .u64 al]
 b:Ql wr (w0.heap.size+1) t #[.int .u64 bh,.int .u64 bl]
 o:Ql wr (w0.heap.size+1+1) t #[.int .u64 0,.int .u64 0]
 q:Ql wr (w0.heap.size+1+1+1) t #[.int .u64 qh,.int .u64 ql]
 r:Ql wr (w0.heap.size+1+1+1+1) t #[.int .u64 rh,.int .u64 rl]
section
variable {w0 wr:World} {t ah al bh bl qh ql rh rl:Nat}
theorem Gd.grow (h:Gd w0 wr t ah al bh bl qh ql rh rl) (m:Kc wr):Gd w0 (grow wr m) t ah al bh bl qh ql rh rl:=⟨Qa h.below m,h.a.grow m,h.b.grow m,h.o.grow m,h.q.grow m,h.r.grow m⟩
end
theorem Q45 (w:World):Calls Tryz.prog 180 #[] w fun e w'=>e=.returned (.agg #[.int .i64 0,.int .i64 0])∧Below w.heap.size w w':=by
 go_enter Tryz.func180,Tryz.ntmps180
 go_wp2
 exact bodyPost_ret (v:=.agg #[.int .i64 0,.int .i64 0]) (by simp[results,Tryz.results180,go_sem]) rfl ⟨rfl,Q7 _ _⟩
structure Gm (w0 wr:World) (t tr nh nl dh dl:Nat):Prop where
 below:Below w0.heap.size w0 wr
 n:Ql wr w0.heap.size t #[.int .u64 nh,.int .u64 nl]
 d:Ql wr (w0.heap.size+1) t #[.int .u64 dh,.int .u64 dl]
 o:Ql wr (w0.heap.size+1+1) tr #[.int .i64 0,.int .i64 0]
section
variable {w0 wr:World} {t tr nh nl dh dl:Nat}
theorem Gm.start (w0:World) (t tr nh nl dh dl:Nat):Gm w0 (((w0.alloc (.cells #[.int .u64 nh,.int .u64 nl] t)).alloc (.cells #[.int .u64 dh,.int .u64 dl] t)).alloc (.cells #[.int .i64 0,.int .i64 0] tr)) t tr nh nl dh dl:=by
 have k1:=Ql.new w0 t #[.int .u64 nh,.int .u64 nl];have k2:=Ql.new (w0.alloc (.cells #[.int .u64 nh,.int .u64 nl] t)) t #[.int .u64 dh,.int .u64 dl];have k3:=Ql.new ((w0.alloc (.cells #[.int .u64 nh,.int .u64 nl] t)).alloc (.cells #[.int .u64 dh,.int .u64 dl] t)) tr #[.int .i64 0,.int .i64 0];simp only[World.size_alloc]at k2 k3;exact⟨((Q7 _ _).alloc (by first|omega | (simp;done) | (simp;omega)) _).alloc (by first|omega | (simp;done) | (simp;omega)) _,(k1.old _).old _,k2.old _,k3⟩
theorem Gm.grow (h:Gm w0 wr t tr nh nl dh dl) (m:Kc wr):Gm w0 (grow wr m) t tr nh nl dh dl:=⟨Qa h.below m,h.n.grow m,h.d.grow m,h.o.grow m⟩
theorem Gm.old (h:Gm w0 wr t tr nh nl dh dl) (o:Obj):Gm w0 (wr.alloc o) t tr nh nl dh dl:=⟨h.below.alloc h.below.size o,h.n.old o,h.d.old o,h.o.old o⟩
end
def D6 (r:Rt):Bool:=(decide (r.1=0)&&decide (r.2=0))||U4 r
theorem C3 (r:Rt) (w:World) (h64:U2 r) :
  Calls Tryz.prog 133 #[rv r] w fun e w'=>e=.returned (.bool (D6 r))∧Below w.heap.size w w':=by
 have hs:=fun w=>K4 r w h64
 obtain⟨n,d⟩:=r;have HS:=Q1 hs;clear hs;unfold D6;simp only;generalize U4 (n,d)=b at *
 by_cases c1:n=0
 · subst c1
   by_cases c2:d=0
   · subst c2
     go_enter Tryz.func133,Tryz.ntmps133
     go_wp2_with fail;go_ret;exact⟨Qw rfl,Q7 _ _⟩
   · have HF:=Q1 (show (decide ((0:Int)=0)&&decide (d=0)||b)=b by simp[c2])
     go_enter Tryz.func133,Tryz.ntmps133
     go_wp2_with fail
     ((with_reducible refine(HS.out _).mono ?_);rintro e w' ⟨rfl,hbw⟩)
     obtain⟨m,rfl⟩:=Qf hbw;clear hbw;go_wp2_with fail;go_ret;exact⟨Qw (by simp[c2]),Qa (Q7 _ _) _⟩
 · go_enter Tryz.func133,Tryz.ntmps133
   go_wp2_with fail
   ((with_reducible refine(HS.out _).mono ?_);rintro e w' ⟨rfl,hbw⟩)
   obtain⟨m,rfl⟩:=Qf hbw;clear hbw;go_wp2_with fail;go_ret;exact⟨Qw (by simp[c1]),Qa (Q7 _ _) _⟩
theorem Ry (r:Rt) (w:World) (h64:U2 r) :
  Calls Tryz.prog 165 #[rv r] w fun e w'=>e=.returned (.bool (D6 r))∧Below w.heap.size w w':=by
 obtain⟨n,d⟩:=r;obtain⟨b1,b2,b3,b4⟩:=h64;unfold D6 U4;simp only at *
 by_cases c0:n=0∧d=0
 · obtain⟨rfl,rfl⟩:=c0
   go_enter Tryz.func165,Tryz.ntmps165
   go_wp2_with fail;go_ret;exact⟨Qw rfl,Q7 _ _⟩
 · have t0:((n==0)=false∨((n==0)=true∧(d==0)=false)):=by
    by_cases hn:n=0
    · exact Or.inr ⟨by simpa using hn,by simp;omega⟩
    · exact Or.inl (by simpa using hn)
   have HZ:=Q1 (show (decide (n=0)&&decide (d=0))=false by simp;omega);clear c0
   by_cases c1:1≤d
   · have g1:decide ((1:Int)≤d)=true:=by simpa using c1
     by_cases c2:n=-9223372036854775808
     · subst c2;clear t0
       go_enter Tryz.func165,Tryz.ntmps165
       go_wp2_with fail;refine Qx (by kernel_rfl) (by kernel_rfl) ?_
       repeat (go_big_quiet_step (fail))
       refine wpQuiet_nil ?_;rintro _ ⟨m,rfl⟩;go_wp2_with fail;go_ret;exact⟨Qw (by rw[HZ.out];simp),Qa (Q7 _ _) m⟩
     · have g2:(n != -9223372036854775808)=true:=by simpa using c2
       have HF:=Q1 (show (decide (1≤d)&&n != -9223372036854775808&&Nat.gcd n.natAbs d.toNat==1)=(((Nat.gcd n.natAbs d.toNat:Nat):Int)==1) from by
        rw[g1,g2,Bool.true_and,Bool.true_and,Qt];simp;omega)
       have e2:((d.toNat:Nat):Int)=d:=by omega
       have HS:=Q1 (fun w=>e2 ▸ Q19 n.natAbs d.toNat w (by omega) (by omega));clear c2 e2
       rcases t0 with t0 | ⟨t0,t1⟩
       all_goals
        go_enter Tryz.func165,Tryz.ntmps165
        go_wp2_with fail;refine Qx (by kernel_rfl) (by kernel_rfl) ?_
        repeat (go_big_quiet_step ((first | (go_at_call 194;exact Zv (Q67 n _ b1 b2)) | (go_at_call 193;exact Vg (HS.out _)))))
        refine wpQuiet_nil ?_;rintro _ ⟨m,rfl⟩;go_wp2_with fail;go_ret;exact⟨Qw (by rw[HZ.out,Bool.false_or];exact HF.out.symm),Qa (Q7 _ _) m⟩
   · have g1:decide ((1:Int)≤d)=false:=by simpa using c1
     rcases t0 with t0 | ⟨t0,t1⟩
     all_goals
      go_enter Tryz.func165,Tryz.ntmps165
      go_wp2_with fail;refine Qx (by kernel_rfl) (by kernel_rfl) ?_
      repeat (go_big_quiet_step (fail))
      refine wpQuiet_nil ?_;rintro _ ⟨m,rfl⟩;go_wp2_with fail;go_ret;exact⟨Qw (by rw[HZ.out,g1];rfl),Qa (Q7 _ _) m⟩
theorem X4 {P:Program} {f:FuncId} {args:Array Value} {w:World} {m:Kc w} {x:Kc (grow w m)} {v:Value}
  (h:Calls P f args (grow w (m.trans x)) fun e w'=>e=.returned v∧grow w (m.trans x)=w') :
  Calls P f args (grow w (m.trans x)) fun e w''=>e=.returned v∧∃ n,w''=grow w (m.trans n) :=
 h.mono fun _ _ ⟨he,hb⟩=>⟨he,x,hb.symm⟩
def Am (op:Rt→Rt→Rt):Rt→List Rt→Rt
 | out,[]=>out
 | out,r::l=>if U4 out&&U4 r then Am op (op out r) l else (0,0)
def O8 (op:Rt→Rt→Rt) (none:Rt):List Rt→Rt
 | []=>none
 | x::l=>if U4 x then Am op x l else (0,0)
def Je (x:Rt):Rt:=if D6 x then x else (0,0)
def Yi (op:Rt→Rt→Rt) (a b:Rt):Rt:=if U4 a&&U4 b then op a b else (0,0)
def N4 (a b:Rt):Rt:=Xs (Q4b a.1 b.1) (a.1.natAbs*b.1.natAbs) (a.2.toNat*b.2.toNat)
theorem Sj (neg:Bool) (n d:Nat):U2 (Xs neg n d):=by
 unfold Xs;split
 · exact⟨by decide,by decide,by decide,by decide⟩
 · rename_i h
   unfold Ls at h;generalize n / Nat.gcd n d=x at *;generalize d / Nat.gcd n d=y at *
   cases neg<;>refine⟨?_,?_,?_,?_⟩<;>simp<;>omega
theorem Q2f (a b:Rt):U2 (N4 a b):=Sj _ _ _
theorem Q2e:U2 (0,0):=⟨by decide,by decide,by decide,by decide⟩
theorem Sm {x:Rt} (h:U2 x):U2 (Je x):=by unfold Je;split;exact h;exact Q2e
theorem Q23 {a b:Rt} (h:a.1=0∨b.1=0) (ha:1≤a.2) (hb:1≤b.2):N4 a b=(0,1):=by
 unfold N4
 have:a.1.natAbs*b.1.natAbs=0:=by rcases h with h|h<;>simp[h]
 rw[this];exact Sq _ _ (Nat.mul_pos (by omega) (by omega))
theorem Q14 (a b:Rt) (w:World) (ha:U2 a) (hb:U2 b) (sa:U4 a=true) (sb:U4 b=true) :
  Calls Tryz.prog 198 #[rv a,rv b] w fun e w'=>e=.returned (rv (N4 a b))∧Below w.heap.size w w':=by
 have d1:=Ds sa;have d2:=Ds sb;have n1:=Dr sa;have n2:=Dr sb;have HZ:=Q1 (fun h=>Q23 (a:=a) (b:=b) h d1 d2);have s1:=(Nm.1 sa).2.2;have s2:=(Nm.1 sb).2.2;have HT:=Q1 (Q13 (Q4b a.1 b.1) a.1.natAbs b.1.natAbs a.2.toNat b.2.toNat (by omega) (by omega) s1 s2);change Hid (N4 a b=_) at HT;clear s1 s2 sa sb;obtain⟨n,d⟩:=a;obtain⟨p,q⟩:=b;obtain⟨b1,b2,b3,b4⟩:=ha;obtain⟨b5,b6,b7,b8⟩:=hb;simp only at b1 b2 b3 b4 b5 b6 b7 b8 d1 n1 d2 n2 HT
 by_cases c1:n=0
 · subst c1;have HF:=Q1 (HZ.out (Or.inl rfl));clear HZ HT
   go_enter Tryz.func198,Tryz.ntmps198
   go_wp2_with fail;exact bodyPost_ret (v:=.agg #[.int .i64 0,.int .i64 1]) (by simp[results,Tryz.results198,go_sem]) rfl ⟨(by rw[HF.out]),(((Q7 _ _).alloc (by simp) _).alloc (by simp;omega) _)⟩
 have g1:(n==0)=false:=by simpa using c1
 by_cases c2:p=0
 · subst c2;have HF:=Q1 (HZ.out (Or.inr rfl));clear HZ HT
   go_enter Tryz.func198,Tryz.ntmps198
   go_wp2_with fail;exact bodyPost_ret (v:=.agg #[.int .i64 0,.int .i64 1]) (by simp[results,Tryz.results198,go_sem]) rfl ⟨(by rw[HF.out]),(((Q7 _ _).alloc (by simp) _).alloc (by simp;omega) _)⟩
 have g2:(p==0)=false:=by simpa using c2
 clear HZ
 have hx1:d.toNat<18446744073709551616:=by omega
 have hx2:q.toNat<18446744073709551616:=by omega
 have hy1:n.natAbs<18446744073709551616:=by omega
 have hy2:p.natAbs<18446744073709551616:=by omega
 have e1:((d.toNat:Nat):Int)=d:=by omega
 have e2:((q.toNat:Nat):Int)=q:=by omega
 have e3:IntKind.u64.wrap d=d:=by rw[IntKind.wrap_u64];omega
 have e4:IntKind.u64.wrap q=q:=by rw[IntKind.wrap_u64];omega
 have G1:=Q1 (fun w=>e2 ▸ Pi n.natAbs q.toNat w hy1 hx2);have G2:=Q1 (fun w=>e1 ▸ Pi p.natAbs d.toNat w hy2 hx1);have gp:0<Nat.gcd n.natAbs q.toNat:=Nat.gcd_pos_of_pos_right _ (by omega);have kp:0<Nat.gcd p.natAbs d.toNat:=Nat.gcd_pos_of_pos_right _ (by omega);generalize Nat.gcd n.natAbs q.toNat=g at *;generalize Nat.gcd p.natAbs d.toNat=k at *;have l1:=Nat.div_le_self n.natAbs g;have l2:=Nat.div_le_self p.natAbs k;have l3:=Nat.div_le_self d.toNat k;have l4:=Nat.div_le_self q.toNat g
 have f1:IntKind.u64.wrap ((n.natAbs:Int) / (g:Int))=((n.natAbs / g:Nat):Int):=by rw[← Int.natCast_ediv];exact Bq _ (by omega)
 have f2:IntKind.u64.wrap ((p.natAbs:Int) / (k:Int))=((p.natAbs / k:Nat):Int):=by rw[← Int.natCast_ediv];exact Bq _ (by omega)
 have f3:d / (k:Int)=((d.toNat / k:Nat):Int):=by rw[Int.natCast_ediv,e1]
 have f4:q / (g:Int)=((q.toNat / g:Nat):Int):=by rw[Int.natCast_ediv,e2]
 have f5:IntKind.u64.wrap ((d.toNat / k:Nat):Int)=((d.toNat / k:Nat):Int):=Bq _ (by omega);have f6:IntKind.u64.wrap ((q.toNat / g:Nat):Int)=((q.toNat / g:Nat):Int):=Bq _ (by omega);have M1:=Q1 (fun w=>Dv (n.natAbs / g) (p.natAbs / k) (by omega) (by omega) w);have M2:=Q1 (fun w=>Dv (d.toNat / k) (q.toNat / g) (by omega) (by omega) w);clear e1 e2 l1 l2 l3 l4;generalize n.natAbs / g=A at *;generalize p.natAbs / k=B at *;generalize d.toNat / k=D at *;generalize q.toNat / g=Q at *;generalize A*B=X at *;generalize D*Q=Y at *;obtain⟨xh,hxh⟩:∃ v,v=X / 18446744073709551616:=⟨_,rfl⟩;obtain⟨xl,hxl⟩:∃ v,v=X % 18446744073709551616:=⟨_,rfl⟩;obtain⟨yh,hyh⟩:∃ v,v=Y / 18446744073709551616:=⟨_,rfl⟩;obtain⟨yl,hyl⟩:∃ v,v=Y % 18446744073709551616:=⟨_,rfl⟩;rw[← hxh,← hxl]at M1;rw[← hyh,← hyl]at M2
 have v1:xl<18446744073709551616:=by omega
 have v2:yl<18446744073709551616:=by omega
 have X1:=Q1 (show X=xh*18446744073709551616+xl by omega);have Y1:=Q1 (show Y=yh*18446744073709551616+yl by omega);clear hxh hxl hyh hyl c1 c2
 go_enter Tryz.func198,Tryz.ntmps198
 go_wp2_with fail;refine Qx (by kernel_rfl) (by kernel_rfl) ?_
 repeat (go_big_quiet_step ((first | (go_at_call 175;with_reducible exact Zv (Xp n _ b1 b2)) | (go_at_call 175;with_reducible exact Zv (Xp p _ b5 b6)) | (go_at_call 195;with_reducible exact Zv (G1.out _)) | (go_at_call 195;with_reducible exact Zv (G2.out _)))))
 refine wpQuiet_nil ?_;rintro _ ⟨m3,rfl⟩;go_wp2_with fail;refine Qx (by kernel_rfl) (by kernel_rfl) ?_
 repeat (go_big_quiet_step ((first | (go_at_call 175;with_reducible exact X4 (Xp n _ b1 b2)) | (go_at_call 175;with_reducible exact X4 (Xp p _ b5 b6)) | (go_at_call 174;with_reducible exact X4 (M1.out _)))))
 refine wpQuiet_nil ?_;rintro _ ⟨m4,rfl⟩;rw[E5];go_wp2_with fail;refine Qx (by kernel_rfl) (by kernel_rfl) ?_
 repeat (go_big_quiet_step ((first | (go_at_call 174;first|with_reducible exact X4 (M2.out _) | with_reducible exact Zv (M2.out _)))))
 refine wpQuiet_nil ?_;rintro _ ⟨m5,rfl⟩;rw[E5];clear G1 G2 M1 M2 f1 f2 f3 f4 f5 f6
 by_cases x0:0<xh
 · have k1:decide ((0:Int)<(xh:Int))=true:=by simp;omega
   have HF:=Q1 (HT.out.trans (Lu _ _ _ (Or.inl (by rw[X1.out];unfold Ls;omega))));go_wp2_with fail;exact bodyPost_ret (v:=.agg #[.int .i64 0,.int .i64 0]) (by simp[results,Tryz.results198,go_sem]) rfl ⟨(by rw[HF.out]),((Qa (((Q7 _ _).alloc (by simp) _).alloc (by simp;omega) _) _).setCell (by first|omega | (simp;done) | (simp;omega)) _).setCell (by first|omega | (simp;done) | (simp;omega)) _⟩
 obtain rfl:xh=0:=by omega
 by_cases y0:0<yh
 · have k2:decide ((0:Int)<(yh:Int))=true:=by simp;omega
   have HF:=Q1 (HT.out.trans (Lu _ _ _ (Or.inr (by rw[Y1.out];unfold Ls;omega))));go_wp2_with fail;exact bodyPost_ret (v:=.agg #[.int .i64 0,.int .i64 0]) (by simp[results,Tryz.results198,go_sem]) rfl ⟨(by rw[HF.out]),((Qa (((Q7 _ _).alloc (by simp) _).alloc (by simp;omega) _) _).setCell (by first|omega | (simp;done) | (simp;omega)) _).setCell (by first|omega | (simp;done) | (simp;omega)) _⟩
 obtain rfl:yh=0:=by omega
 obtain rfl:X=xl:=by have:=X1.out;omega
 obtain rfl:Y=yl:=by have:=Y1.out;omega
 have mk:∀ w,_:=fun w=>Q4g (Q4b n p) X Y w v1 v2
 obtain⟨⟨u,v⟩,hr⟩:∃ r,C5 (Q4b n p) X Y=r:=⟨_,rfl⟩;rw[hr]at mk HT;rw[show Q4b n p=(!(decide (n<0)==decide (p<0))) from rfl]at mk;have MK:=Q1 mk;clear hr mk;go_wp2_with fail
 ((with_reducible refine(MK.out _).mono ?_);rintro e w' ⟨rfl,hbw⟩)
 obtain⟨m6,rfl⟩:=Qf hbw;clear hbw;go_wp2_with fail;exact bodyPost_ret (v:=.agg #[.int .i64 u,.int .i64 v]) (by simp[results,Tryz.results198,go_sem]) rfl ⟨(by rw[HT.out]),((Qa (((Q7 _ _).alloc (by simp) _).alloc (by simp;omega) _) _).setCell (by first|omega | (simp;done) | (simp;omega)) _).setCell (by first|omega | (simp;done) | (simp;omega)) _⟩
theorem Ql.new2 (w:World) (o:Obj) (t:TypeId) (cs:Array Value):Ql ((w.alloc o).alloc (.cells cs t)) (w.heap.size+1) t cs:=by have:=Ql.new (w.alloc o) t cs;simpa using this
def Q1v (v:Value):Option Nat:=match v with
 | .pointer (some a)=>some a.block
 | _=>none
def Qb.cells (i:Nat) (d:Tmp) (t:TypeId) (cs:Array Value) (k0:Nat):Qb :=
 ⟨i,d,none,fun v w=>∃ b,v=.pointer (some ⟨b,0,none⟩)∧k0≤b∧Ql w b t cs,Q1v,fun _ _ _ ⟨b,h1,h0,h2⟩ hb=>⟨b,h1,h0,h2.below hb h2.lt⟩⟩
theorem Qb.claim_i (i:Nat) (d:Tmp) (c:Value):(Qb.claim i d c).i=i:=rfl
theorem Qb.cells_i (k0:Nat) (i:Nat) (d:Tmp) (t:TypeId) (cs:Array Value):(Qb.cells i d t cs k0).i=i:=rfl
theorem Qb.claim_hush (i:Nat) (d:Tmp) (c:Value) (o:Oper):(Qb.claim i d c).hush o={ o with op:=.move (.const c),guard:=none }:=rfl
theorem Qb.cells_hush (k0:Nat) (i:Nat) (d:Tmp) (t:TypeId) (cs:Array Value) (o:Oper):(Qb.cells i d t cs k0).hush o={ o with dst:=none,op:=.move (.const undef),guard:=none }:=rfl
theorem Vk (V:Nat→Value) (a:Act):Xt V [] a=a:=rfl
theorem Ua (V:Nat→Value) (i:Nat) (d:Tmp) (c:Value) (cl:List Qb) (a:Act):Xt V (Qb.claim i d c::cl) a=Xt V cl a:=rfl
theorem Ub (k0:Nat) (V:Nat→Value) (i:Nat) (d:Tmp) (t:TypeId) (cs:Array Value) (cl:List Qb) (a:Act):Xt V (Qb.cells i d t cs k0::cl) a=Xt V cl (a.put (some d) (V i)):=rfl
theorem Ge (V:Nat→Value) (w:World):Xb V w []=True:=rfl
theorem Y8 (V:Nat→Value) (w:World) (i:Nat) (d:Tmp) (c:Value) (cl:List Qb):Xb V w (Qb.claim i d c::cl)=Xb V w cl:=by
 simp[Xb,Qb.claim]
theorem Y9 (k0:Nat) (V:Nat→Value) (w:World) (i:Nat) (d:Tmp) (t:TypeId) (cs:Array Value) (cl:List Qb):Xb V w (Qb.cells i d t cs k0::cl)=((∃ b,V i=.pointer (some ⟨b,0,none⟩)∧k0≤b∧Ql w b t cs)∧Xb V w cl):=rfl
theorem Gn (V:Nat→Value):Vw V []=True:=rfl
theorem Yz (V:Nat→Value) (L:Qb):Uc V L []=True:=rfl
theorem Ya (V:Nat→Value) (i:Nat) (d:Tmp) (c:Value) (cl:List Qb):Vw V (Qb.claim i d c::cl)=Vw V cl:=by
 have h:∀ cl:List Qb,Uc V (Qb.claim i d c) cl:=fun cl=>Gp fun L' _ k k' h=>by cases h
 simp[Vw,h]
theorem Yb (k0:Nat) (V:Nat→Value) (i:Nat) (d:Tmp) (t:TypeId) (cs:Array Value) (cl:List Qb):Vw V (Qb.cells i d t cs k0::cl)=(Uc V (Qb.cells i d t cs k0) cl∧Vw V cl):=rfl
theorem Xl (V:Nat→Value) (L:Qb) (i:Nat) (d:Tmp) (c:Value) (cl:List Qb):Uc V L (Qb.claim i d c::cl)=Uc V L cl:=by
 have h:∀ k k',L.own (V L.i)=some k→(Qb.claim i d c).own (V i)=some k'→k≠k':=fun k k' _ h=>by cases h
 exact propext ⟨fun h2=>h2.2,fun h2=>⟨h,h2⟩⟩
theorem Xm (k0:Nat) (j0:Nat) (V:Nat→Value) (i j:Nat) (d e:Tmp) (t u:TypeId) (cs ds:Array Value) (cl:List Qb):Uc V (Qb.cells i d t cs k0) (Qb.cells j e u ds j0::cl)=((∀ k k',Q1v (V i)=some k→Q1v (V j)=some k'→k≠k')∧Uc V (Qb.cells i d t cs k0) cl):=rfl
theorem Du (P:Program) (l:List Oper) (V:Nat→Value) (w':World) (F:Act) (all:List Qb):Sb P l V w' F all []=True:=rfl
theorem G8 (P:Program) (l:List Oper) (V:Nat→Value) (w':World) (F:Act) (all:List Qb) (L:Qb) (cl:List Qb) :
 Sb P l V w' F all (L::cl)=((match l[L.i]? with|some o=>Hw V w' o all→(match o.guard with|none=>wpList P l.toArray (Wi L F w') [o] F w' | some _=>Region.wanted o (yielded l.toArray F.tmps)=true∧wpList P l.toArray (Wi L F w') [o] F w') | none=>True)∧Sb P l V w' F all cl):=rfl
def P7 (v:Value):Option Nat:=match v with
 | .slice (some a) _ _=>some a.block
 | _=>none
def Qb.rowL (i:Nat) (d:Tmp) (t:TypeId) (k:Nat) (cs:Array Value) (k0:Nat):Qb :=
 ⟨i,d,none,fun v w=>∃ b,v=.slice (some ⟨b,0,none⟩) k k∧k0≤b∧Ql w b t cs,P7,fun _ _ _ ⟨b,h1,h0,h2⟩ hb=>⟨b,h1,h0,h2.below hb h2.lt⟩⟩
theorem Qb.rowL_i (k0:Nat) (i:Nat) (d:Tmp) (t:TypeId) (k:Nat) (cs:Array Value):(Qb.rowL i d t k cs k0).i=i:=rfl
theorem Qb.rowL_hush (k0:Nat) (i:Nat) (d:Tmp) (t:TypeId) (k:Nat) (cs:Array Value) (o:Oper):(Qb.rowL i d t k cs k0).hush o={ o with dst:=none,op:=.move (.const undef),guard:=none }:=rfl
theorem Uw (k0:Nat) (V:Nat→Value) (i:Nat) (d:Tmp) (t:TypeId) (k:Nat) (cs:Array Value) (cl:List Qb) (a:Act):Xt V (Qb.rowL i d t k cs k0::cl) a=Xt V cl (a.put (some d) (V i)):=rfl
theorem Yx (k0:Nat) (V:Nat→Value) (w:World) (i:Nat) (d:Tmp) (t:TypeId) (k:Nat) (cs:Array Value) (cl:List Qb):Xb V w (Qb.rowL i d t k cs k0::cl)=((∃ b,V i=.slice (some ⟨b,0,none⟩) k k∧k0≤b∧Ql w b t cs)∧Xb V w cl):=rfl
theorem Yy (k0:Nat) (V:Nat→Value) (i:Nat) (d:Tmp) (t:TypeId) (k:Nat) (cs:Array Value) (cl:List Qb):Vw V (Qb.rowL i d t k cs k0::cl)=(Uc V (Qb.rowL i d t k cs k0) cl∧Vw V cl):=rfl
theorem Yc (k0:Nat) (j0:Nat) (V:Nat→Value) (i j:Nat) (d e:Tmp) (t u:TypeId) (k l:Nat) (cs ds:Array Value) (cl:List Qb):Uc V (Qb.rowL i d t k cs k0) (Qb.rowL j e u l ds j0::cl)=((∀ k k',P7 (V i)=some k→P7 (V j)=some k'→k≠k')∧Uc V (Qb.rowL i d t k cs k0) cl):=rfl
theorem Uj (k0:Nat) (j0:Nat) (V:Nat→Value) (i j:Nat) (d e:Tmp) (t u:TypeId) (l:Nat) (cs ds:Array Value) (cl:List Qb):Uc V (Qb.cells i d t cs k0) (Qb.rowL j e u l ds j0::cl)=((∀ k k',Q1v (V i)=some k→P7 (V j)=some k'→k≠k')∧Uc V (Qb.cells i d t cs k0) cl):=rfl
theorem Ui (k0:Nat) (j0:Nat) (V:Nat→Value) (i j:Nat) (d e:Tmp) (t u:TypeId) (k:Nat) (cs ds:Array Value) (cl:List Qb):Uc V (Qb.rowL i d t k cs k0) (Qb.cells j e u ds j0::cl)=((∀ k k',P7 (V i)=some k→Q1v (V j)=some k'→k≠k')∧Uc V (Qb.rowL i d t k cs k0) cl):=rfl
theorem Cz {k0:Nat} {i:Nat} {d:Tmp} {t:TypeId} {k:Nat} {cs:Array Value} {F:Act} {w:World} {a:Act} (h:a=F.put (some d) (.slice (some ⟨w.heap.size,0,none⟩) k k)) (hk:k0≤w.heap.size):Wi (Qb.rowL i d t k cs k0) F w .normal a (w.alloc (.cells cs t)) :=
 ⟨rfl,_,h,Q7 _ _,⟨_,rfl,hk,Ql.new _ _ _⟩,fun k2 hk=>by
   simp only[Qb.rowL,P7,Option.some.injEq]at hk;subst hk
   simp,fun c hc=>by cases hc⟩
theorem I4 {k0:Nat} {i:Nat} {d:Tmp} {t:TypeId} {cs:Array Value} {F:Act} {w:World} {a:Act} (h:a=F.put (some d) (.pointer (some ⟨w.heap.size,0,none⟩))) (hk:k0≤w.heap.size):Wi (Qb.cells i d t cs k0) F w .normal a (w.alloc (.cells cs t)) :=
 ⟨rfl,_,h,Q7 _ _,⟨_,rfl,hk,Ql.new _ _ _⟩,fun k hk=>by
   simp only[Qb.cells,Q1v,Option.some.injEq]at hk;subst hk
   simp,fun c hc=>by cases hc⟩
theorem Vu {i:Nat} {d:Tmp} {c:Value} {F:Act} {w w':World} {a:Act} (h:a=F.put (some d) c) (hb:Below w.heap.size w w'):Wi (Qb.claim i d c) F w .normal a w' :=
 ⟨rfl,_,h,hb,trivial,fun k hk=>(by cases hk),fun c2 hc=>(by cases hc;rfl)⟩
structure Cm (w wr:World) (g g' tr t:Nat) (n d p q:Int) (xh xl yh yl:Nat):Prop where
 below:Below w.heap.size w wr
 a:Ql wr w.heap.size tr #[.int .i64 n,.int .i64 d]
 b:Ql wr (w.heap.size+1) tr #[.int .i64 p,.int .i64 q]
 x:Ql wr g t #[.int .u64 xh,.int .u64 xl]
 y:Ql wr g' t #[.int .u64 yh,.int .u64 yl]
theorem Cm.set {w wr:World} {g g' tr t:Nat} {n d p q:Int} {xh xl yh yl a1 a2 a3 a4:Nat} (h:Cm w wr g g' tr t n d p q a1 a2 a3 a4) (k:w.heap.size+2≤g) (k':w.heap.size+2≤g') (hne:g≠g') :
  Cm w ((((wr.setCell ⟨g,0,none⟩ (.int .u64 xh)).setCell ⟨g,1,none⟩ (.int .u64 xl)).setCell ⟨g',0,none⟩ (.int .u64 yh)).setCell ⟨g',1,none⟩ (.int .u64 yl)) g g' tr t n d p q xh xl yh yl :=
 ⟨(((h.below.setCell (by simp;omega) _).setCell (by simp;omega) _).setCell (by simp;omega) _).setCell (by simp;omega) _,(h.a.far2 (by omega) _ _ _ _).far2 (by omega) _ _ _ _,(h.b.far2 (by omega) _ _ _ _).far2 (by omega) _ _ _ _,
  (h.x.put2 _ _).far2 hne _ _ _ _,(h.y.far2 (Ne.symm hne) _ _ _ _).put2 _ _⟩
theorem Cm.grow {w wr:World} {g g' tr t:Nat} {n d p q:Int} {xh xl yh yl:Nat} (h:Cm w wr g g' tr t n d p q xh xl yh yl) (m:Kc wr):Cm w (grow wr m) g g' tr t n d p q xh xl yh yl:=⟨Qa h.below m,h.a.grow m,h.b.grow m,h.x.grow m,h.y.grow m⟩
structure Pz (w:World) (oa:Option Addr) (len cap:Nat) (b o:Nat) (l:List Rt):Prop where
 hlen:len=l.length
 hcap:len≤cap
 small:cap≤maxLen
 at_:0<len→oa=some ⟨b,o,none⟩
 lt:0<len→b<w.heap.size
 c0:∀ (i:Nat) (r:Rt),l[i]?=some r→w.cell? ⟨b,o+i*2,none⟩=some (.int .i64 r.1)
 c1:∀ (i:Nat) (r:Rt),l[i]?=some r→w.cell? ⟨b,o+i*2+1,none⟩=some (.int .i64 r.2)
 is64:∀ (i:Nat) (r:Rt),l[i]?=some r→U2 r
theorem Pz.below {w w':World} {oa:Option Addr} {len cap b o:Nat} {l:List Rt} (h:Pz w oa len cap b o l) (hb:Below w.heap.size w w'):Pz w' oa len cap b o l:=by
 have key:∀ (i:Nat) (r:Rt),l[i]?=some r→0<len:=fun i r hr=>by
  have:=(Qn.1 hr).1;rw[h.hlen];omega
 refine⟨h.hlen,h.hcap,h.small,h.at_,fun hl=>Qg (h.lt hl) hb.size,fun i r hr=>?_,fun i r hr=>?_,h.is64⟩
 · rw[hb.cell (h.lt (key i r hr))];exact h.c0 i r hr
 · rw[hb.cell (h.lt (key i r hr))];exact h.c1 i r hr
def Be (sign:Int):Bool→Rt→List Rt→Rt
 | _,out,[]=>out
 | b,out,r::l=>if U4 r then Be sign false (if b||Q6i r out==sign then r else out) l else (0,0)
structure Gf (w wr:World) (tr:TypeId) (sign:Int) (l:List Rt) (i:Nat) (out:Rt):Prop where
 below:Below w.heap.size w wr
 res:Ql wr w.heap.size tr #[.int .i64 0,.int .i64 0]
 best:Ql wr (w.heap.size+1) tr #[.int .i64 out.1,.int .i64 out.2]
 i64:U2 out
 le:i≤l.length
 law:Be sign (i==0) out (l.drop i)=Be sign true (0,0) l
section
variable {w wr:World} {tr:TypeId} {sign:Int} {l:List Rt} {i:Nat} {out:Rt}
theorem Gf.alloc (h:Gf w wr tr sign l i out) (o:Obj):Gf w (wr.alloc o) tr sign l i out:=⟨h.below.alloc h.below.size _,h.res.old _,h.best.old _,h.i64,h.le,h.law⟩
theorem Gf.grow (h:Gf w wr tr sign l i out) (m:Kc wr):Gf w (grow wr m) tr sign l i out:=⟨Qa h.below m,h.res.grow m,h.best.grow m,h.i64,h.le,h.law⟩
theorem Gf.set (h:Gf w wr tr sign l i out) {r:Rt} (h64:U2 r) (hi:i<l.length) (hl:Be sign false r (l.drop (i+1))=Be sign true (0,0) l) :
  Gf w ((wr.setCell ⟨w.heap.size+1,0,none⟩ (.int .i64 r.1)).setCell ⟨w.heap.size+1,1,none⟩ (.int .i64 r.2)) tr sign l (i+1) r :=
 ⟨(h.below.setCell (by first|omega | (simp;done) | (simp;omega)) _).setCell (by first|omega | (simp;done) | (simp;omega)) _,h.res.far2 (by first|omega | (simp;done) | (simp;omega)) _ _ _ _,h.best.put2 _ _,h64,hi,hl⟩
theorem Gf.next (h:Gf w wr tr sign l i out) (hi:i<l.length) (hl:Be sign false out (l.drop (i+1))=Be sign true (0,0) l):Gf w wr tr sign l (i+1) out:=⟨h.below,h.res,h.best,h.i64,hi,hl⟩
end
def Q6z (f:FuncId) (op:Rt→Rt→Rt):Prop :=
 (∀ a b,U2 (op a b))∧∀ (a b:Rt) (w:World),U2 a→U2 b→U4 a=true→U4 b=true→Calls Tryz.prog f #[rv a,rv b] w fun e w'=>e=.returned (rv (op a b))∧Below w.heap.size w w'
theorem Ql.moved {w:World} {k k':Nat} {t:TypeId} {v:Array Value} (h:Ql w k t v) (e:k=k'):Ql w k' t v:=e ▸ h
structure Gj (w wr:World) (tr:TypeId) (op:Rt→Rt→Rt) (l:List Rt) (x:Rt) (i:Nat) (out:Rt):Prop where
 below:Below w.heap.size w wr
 res:Ql wr (w.heap.size+1) tr #[.int .i64 0,.int .i64 0]
 best:Ql wr (w.heap.size+1+1) tr #[.int .i64 out.1,.int .i64 out.2]
 i64:U2 out
 le:i≤l.length
 law:Am op out (l.drop i)=Am op x l
section
variable {w wr:World} {tr:TypeId} {op:Rt→Rt→Rt} {l:List Rt} {x:Rt} {i:Nat} {out:Rt}
theorem Gj.alloc (h:Gj w wr tr op l x i out) (o:Obj):Gj w (wr.alloc o) tr op l x i out:=⟨h.below.alloc h.below.size _,h.res.old _,h.best.old _,h.i64,h.le,h.law⟩
theorem Gj.grow (h:Gj w wr tr op l x i out) (m:Kc wr):Gj w (grow wr m) tr op l x i out:=⟨Qa h.below m,h.res.grow m,h.best.grow m,h.i64,h.le,h.law⟩
theorem Gj.set (h:Gj w wr tr op l x i out) {r:Rt} (h64:U2 r) (hi:i<l.length) (hl:Am op r (l.drop (i+1))=Am op x l) :
  Gj w ((wr.setCell ⟨w.heap.size+1+1,0,none⟩ (.int .i64 r.1)).setCell ⟨w.heap.size+1+1,1,none⟩ (.int .i64 r.2)) tr op l x (i+1) r :=
 ⟨(h.below.setCell (by first|omega | (simp;done) | (simp;omega)) _).setCell (by first|omega | (simp;done) | (simp;omega)) _,h.res.far2 (by first|omega | (simp;done) | (simp;omega)) _ _ _ _,h.best.put2 _ _,h64,hi,hl⟩
end
theorem Pz.tail {w:World} {oa:Option Addr} {cap b o:Nat} {x:Rt} {l:List Rt} (h:Pz w oa (x::l).length cap b o (x::l)):Pz w (some ⟨b,o+2,none⟩) l.length (cap-1) b (o+2) l:=by
 have h1:=h.hcap;have h2:=h.small;simp only[Z8]at h1
 have e:∀ i,o+2+i*2=o+(i+1)*2:=fun i=>by omega
 refine⟨rfl,by omega,by omega,fun _=>rfl,fun _=>h.lt (by simp),fun i r hr=>?_,fun i r hr=>?_,fun i r hr=>?_⟩
 · rw[e];exact h.c0 (i+1) r (by simpa using hr)
 · rw[e];exact h.c1 (i+1) r (by simpa using hr)
 · exact h.is64 (i+1) r (by simpa using hr)
theorem Cc (n:Int) (w:World):Calls Tryz.prog 71 #[.int .i64 n] w fun e w'=>e=.returned (rv (n,1))∧Below w.heap.size w w':=by
 go_enter Tryz.func71,Tryz.ntmps71
 go_wp2_with fail;exact bodyPost_ret (v:=.agg #[.int .i64 n,.int .i64 1]) (by simp[results,Tryz.results71,go_sem]) rfl ⟨rfl,(Q7 _ _)⟩
theorem Oi (r:Rt) (w:World) (h64:U2 r) :
  Calls Tryz.prog 161 #[rv r] w fun e w'=>e=.returned (rv (Je r))∧Below w.heap.size w w':=by
 have hm:=fun w=>Ry r w h64
 unfold Je
 cases hmay:D6 r with
 | true =>
   rw[hmay]at hm;obtain⟨n,d⟩:=r;have HM:=Q1 hm;clear hm hmay h64
   go_enter Tryz.func161,Tryz.ntmps161
   go_wp2_with fail
   ((with_reducible refine(HM.out _).mono ?_);rintro e w' ⟨rfl,hbw⟩)
   obtain⟨m,rfl⟩:=Qf hbw;clear hbw;go_wp2_with fail;exact bodyPost_ret (v:=.agg #[.int .i64 n,.int .i64 d]) (by simp[results,Tryz.results161,go_sem]) rfl ⟨rfl,(((Qa ((Q7 _ _).alloc (by simp) _) m).setCell (by first|omega | (simp;done) | (simp;omega)) _).setCell (by first|omega | (simp;done) | (simp;omega)) _)⟩
 | false =>
   rw[hmay]at hm;obtain⟨n,d⟩:=r;have HM:=Q1 hm;have HO:=Q1 (fun w=>Q45 w);clear hm hmay h64
   go_enter Tryz.func161,Tryz.ntmps161
   go_wp2_with fail
   ((with_reducible refine(HM.out _).mono ?_);rintro e w' ⟨rfl,hbw⟩)
   obtain⟨m,rfl⟩:=Qf hbw;clear hbw;go_wp2_with fail
   ((with_reducible refine(HO.out _).mono ?_);rintro e w' ⟨rfl,hbw⟩)
   obtain⟨m2,rfl⟩:=Qf hbw;clear hbw;go_wp2_with fail;exact bodyPost_ret (v:=.agg #[.int .i64 0,.int .i64 0]) (by simp[results,Tryz.results161,go_sem]) rfl ⟨rfl,(((Qa (Qa ((Q7 _ _).alloc (by simp) _) m) m2).setCell (by first|omega | (simp;done) | (simp;omega)) _).setCell (by first|omega | (simp;done) | (simp;omega)) _)⟩
def Qb.val (i:Nat) (d:Tmp) (φ:Value→Prop):Qb:=⟨i,d,none,fun v _=>φ v,fun _=>none,fun _ _ _ h _=>h⟩
theorem Qb.val_i (i:Nat) (d:Tmp) (φ:Value→Prop):(Qb.val i d φ).i=i:=rfl
theorem Qb.val_hush (i:Nat) (d:Tmp) (φ:Value→Prop) (o:Oper):(Qb.val i d φ).hush o={ o with dst:=none,op:=.move (.const undef),guard:=none }:=rfl
theorem Xc (V:Nat→Value) (i:Nat) (d:Tmp) (φ:Value→Prop) (cl:List Qb) (a:Act):Xt V (Qb.val i d φ::cl) a=Xt V cl (a.put (some d) (V i)):=rfl
theorem D8 (V:Nat→Value) (w:World) (i:Nat) (d:Tmp) (φ:Value→Prop) (cl:List Qb):Xb V w (Qb.val i d φ::cl)=(φ (V i)∧Xb V w cl):=rfl
theorem Df (V:Nat→Value) (i:Nat) (d:Tmp) (φ:Value→Prop) (cl:List Qb):Vw V (Qb.val i d φ::cl)=Vw V cl:=by
 have h:∀ cl:List Qb,Uc V (Qb.val i d φ) cl:=fun cl=>Gp fun L' _ k k' h=>by cases h
 simp[Vw,h]
theorem Gq (V:Nat→Value) (L:Qb) (i:Nat) (d:Tmp) (φ:Value→Prop) (cl:List Qb):Uc V L (Qb.val i d φ::cl)=Uc V L cl:=by
 have h:∀ k k',L.own (V L.i)=some k→(Qb.val i d φ).own (V i)=some k'→k≠k':=fun k k' _ h=>by cases h
 exact propext ⟨fun h2=>h2.2,fun h2=>⟨h,h2⟩⟩
def Qb.rowS (i:Nat) (d:Tmp) (t:TypeId) (k:Nat) (φ:Array Value→Prop) (k0:Nat):Qb :=
 ⟨i,d,none,fun v w=>∃ b cs,v=.slice (some ⟨b,0,none⟩) k k∧k0≤b∧φ cs∧Ql w b t cs,P7,fun _ _ _ ⟨b,cs,h1,h0,hc,h2⟩ hb=>⟨b,cs,h1,h0,hc,h2.below hb h2.lt⟩⟩
theorem Qb.rowS_i (i:Nat) (d:Tmp) (t:TypeId) (k:Nat) (φ:Array Value→Prop) (k0:Nat):(Qb.rowS i d t k φ k0).i=i:=rfl
theorem Qb.rowS_hush (i:Nat) (d:Tmp) (t:TypeId) (k:Nat) (φ:Array Value→Prop) (k0:Nat) (o:Oper):(Qb.rowS i d t k φ k0).hush o={ o with dst:=none,op:=.move (.const undef),guard:=none }:=rfl
theorem Vn (V:Nat→Value) (i:Nat) (d:Tmp) (t:TypeId) (k:Nat) (φ:Array Value→Prop) (k0:Nat) (cl:List Qb) (a:Act):Xt V (Qb.rowS i d t k φ k0::cl) a=Xt V cl (a.put (some d) (V i)):=rfl
theorem Gc (V:Nat→Value) (w:World) (i:Nat) (d:Tmp) (t:TypeId) (k:Nat) (φ:Array Value→Prop) (k0:Nat) (cl:List Qb):Xb V w (Qb.rowS i d t k φ k0::cl)=((∃ b cs,V i=.slice (some ⟨b,0,none⟩) k k∧k0≤b∧φ cs∧Ql w b t cs)∧Xb V w cl):=rfl
theorem Gl (V:Nat→Value) (i:Nat) (d:Tmp) (t:TypeId) (k:Nat) (φ:Array Value→Prop) (k0:Nat) (cl:List Qb):Vw V (Qb.rowS i d t k φ k0::cl)=(Uc V (Qb.rowS i d t k φ k0) cl∧Vw V cl):=rfl
theorem Ql.seven {w:World} {g:Nat} {t:TypeId} {a0 a1 a2 a3 a4 a5 a6:Value} (h:Ql w g t #[a0,a1,a2,a3,a4,a5,a6]):w.cell? ⟨g,0,none⟩=some a0∧w.frozen? ⟨g,0,none⟩=false∧w.cell? ⟨g,1,none⟩=some a1∧w.frozen? ⟨g,1,none⟩=false∧w.cell? ⟨g,2,none⟩=some a2∧w.frozen? ⟨g,2,none⟩=false∧w.cell? ⟨g,3,none⟩=some a3∧w.frozen? ⟨g,3,none⟩=false∧w.cell? ⟨g,4,none⟩=some a4∧w.frozen? ⟨g,4,none⟩=false∧w.cell? ⟨g,5,none⟩=some a5∧w.frozen? ⟨g,5,none⟩=false∧w.cell? ⟨g,6,none⟩=some a6∧w.frozen? ⟨g,6,none⟩=false∧g<w.heap.size :=
 ⟨h.cell 0,h.frozen 0,h.cell 1,h.frozen 1,h.cell 2,h.frozen 2,h.cell 3,h.frozen 3,h.cell 4,h.frozen 4,h.cell 5,h.frozen 5,h.cell 6,h.frozen 6,h.lt⟩
theorem Ql.many14 {w:World} {g:Nat} {t:TypeId} {a0 a1 a2 a3 a4 a5 a6 a7 a8 a9 a10 a11 a12 a13:Value} (h:Ql w g t #[a0,a1,a2,a3,a4,a5,a6,a7,a8,a9,a10,a11,a12,a13]):w.cell? ⟨g,0,none⟩=some a0∧w.frozen? ⟨g,0,none⟩=false∧w.cell? ⟨g,1,none⟩=some a1∧w.frozen? ⟨g,1,none⟩=false∧w.cell? ⟨g,2,none⟩=some a2∧w.frozen? ⟨g,2,none⟩=false∧w.cell? ⟨g,3,none⟩=some a3∧w.frozen? ⟨g,3,none⟩=false∧w.cell? ⟨g,4,none⟩=some a4∧w.frozen? ⟨g,4,none⟩=false∧w.cell? ⟨g,5,none⟩=some a5∧w.frozen? ⟨g,5,none⟩=false∧w.cell? ⟨g,6,none⟩=some a6∧w.frozen? ⟨g,6,none⟩=false∧w.cell? ⟨g,7,none⟩=some a7∧w.frozen? ⟨g,7,none⟩=false∧w.cell? ⟨g,8,none⟩=some a8∧w.frozen? ⟨g,8,none⟩=false∧w.cell? ⟨g,9,none⟩=some a9∧w.frozen? ⟨g,9,none⟩=false∧w.cell? ⟨g,10,none⟩=some a10∧w.frozen? ⟨g,10,none⟩=false∧w.cell? ⟨g,11,none⟩=some a11∧w.frozen? ⟨g,11,none⟩=false∧w.cell? ⟨g,12,none⟩=some a12∧w.frozen? ⟨g,12,none⟩=false∧w.cell? ⟨g,13,none⟩=some a13∧w.frozen? ⟨g,13,none⟩=false∧g<w.heap.size :=
 ⟨h.cell 0,h.frozen 0,h.cell 1,h.frozen 1,h.cell 2,h.frozen 2,h.cell 3,h.frozen 3,h.cell 4,h.frozen 4,h.cell 5,h.frozen 5,h.cell 6,h.frozen 6,h.cell 7,h.frozen 7,h.cell 8,h.frozen 8,h.cell 9,h.frozen 9,h.cell 10,h.frozen 10,h.cell 11,h.frozen 11,h.cell 12,h.frozen 12,h.cell 13,h.frozen 13,h.lt⟩
theorem Q83 {w:World} {b o:Nat} {a0 a1 a2 a3 a4 a5 a6:Value} (h:∀ (j:Nat) (v:Value),([a0,a1,a2,a3,a4,a5,a6]:List Value)[j]?=some v→w.cell? ⟨b,o+j,none⟩=some v):w.cell? ⟨b,o,none⟩=some a0∧w.cell? ⟨b,o+1,none⟩=some a1∧w.cell? ⟨b,o+2,none⟩=some a2∧w.cell? ⟨b,o+3,none⟩=some a3∧w.cell? ⟨b,o+4,none⟩=some a4∧w.cell? ⟨b,o+5,none⟩=some a5∧w.cell? ⟨b,o+6,none⟩=some a6 :=
 ⟨h 0 _ rfl,h 1 _ rfl,h 2 _ rfl,h 3 _ rfl,h 4 _ rfl,h 5 _ rfl,h 6 _ rfl⟩
theorem Q3t {w:World} {b o:Nat} {a0 a1 a2 a3 a4 a5 a6 a7 a8 a9 a10 a11 a12 a13:Value} (h:∀ (j:Nat) (v:Value),([a0,a1,a2,a3,a4,a5,a6,a7,a8,a9,a10,a11,a12,a13]:List Value)[j]?=some v→w.cell? ⟨b,o+j,none⟩=some v):w.cell? ⟨b,o,none⟩=some a0∧w.cell? ⟨b,o+1,none⟩=some a1∧w.cell? ⟨b,o+2,none⟩=some a2∧w.cell? ⟨b,o+3,none⟩=some a3∧w.cell? ⟨b,o+4,none⟩=some a4∧w.cell? ⟨b,o+5,none⟩=some a5∧w.cell? ⟨b,o+6,none⟩=some a6∧w.cell? ⟨b,o+7,none⟩=some a7∧w.cell? ⟨b,o+8,none⟩=some a8∧w.cell? ⟨b,o+9,none⟩=some a9∧w.cell? ⟨b,o+10,none⟩=some a10∧w.cell? ⟨b,o+11,none⟩=some a11∧w.cell? ⟨b,o+12,none⟩=some a12∧w.cell? ⟨b,o+13,none⟩=some a13 :=
 ⟨h 0 _ rfl,h 1 _ rfl,h 2 _ rfl,h 3 _ rfl,h 4 _ rfl,h 5 _ rfl,h 6 _ rfl,h 7 _ rfl,h 8 _ rfl,h 9 _ rfl,h 10 _ rfl,h 11 _ rfl,h 12 _ rfl,h 13 _ rfl⟩
theorem Pj (op:Rt→Rt→Rt) (hj:Q6z 198 op) (nn:Rt) (oa:Option Addr) (len cap b o:Nat) (l:List Rt) (w:World) (h:Pz w oa len cap b o l) :
  Calls Tryz.prog 197 #[rv nn,.func (.func 198) #[] #[],.slice oa len cap] w fun e w'=>e=.returned (rv (O8 op nn l))∧Below w.heap.size w w':=by
 have hlen:=h.hlen;subst hlen;have hcap:=h.hcap;have hsm:l.length≤9223372036854775807:=Qz (Qz h.hcap h.small) (by decide);have H:=Q1 h;have HJ:=Q1 hj;clear h hj;obtain⟨nn1,nn2⟩:=nn
 cases l with
 | nil =>
   go_enter Tryz.func197,Tryz.ntmps197
   go_wp2_with fail;exact bodyPost_ret (v:=.agg #[.int .i64 nn1,.int .i64 nn2]) (by simp[results,Tryz.results197,go_sem]) rfl ⟨rfl,((Q7 _ _).alloc (by simp) _)⟩
 | cons x l =>
   have hoa:=H.out.at_ (by simp);have hbl:=H.out.lt (by simp);have e0:=H.out.c0 0 x rfl;have e1:=H.out.c1 0 x rfl;have x64:=H.out.is64 0 x rfl
   have hs:=fun w=>K4 x w x64
   simp only[Nat.zero_mul,Nat.add_zero]at e0 e1
   have gL:(((x::l).length:Int)==0)=false:=by rw[beq_eq_false_iff_ne];simp;omega
   have hlen:(x::l).length=l.length+1:=rfl;rw[hlen]at gL hcap hsm;subst hoa
   cases hsure:U4 x with
   | false =>
     have HF:=Q1 (show O8 op (nn1,nn2) (x::l)=(0,0) by show (if U4 x then Am op x l else (0,0))=_;rw[hsure];rfl);rw[hsure]at hs;obtain⟨n0,d0⟩:=x;have HS:=Q1 hs;rw[hlen];clear hs
     go_enter Tryz.func197,Tryz.ntmps197
     go_wp2_with fail
     ((with_reducible refine(HS.out _).mono ?_);rintro e w' ⟨rfl,hbw⟩)
     obtain⟨m,rfl⟩:=Qf hbw;clear hbw;go_wp2_with fail;exact bodyPost_ret (v:=.agg #[.int .i64 0,.int .i64 0]) (by simp[results,Tryz.results197,go_sem]) rfl ⟨(by rw[HF.out]),((Qa (((Q7 _ _).alloc (by simp) _).alloc (by simp;omega) _) m).setCell (by first|omega | (simp;done) | (simp;omega)) _).setCell (by first|omega | (simp;done) | (simp;omega)) _⟩
   | true =>
     rw[hsure]at hs;have HL:=Q1 (show O8 op (nn1,nn2) (x::l)=Am op x l by show (if U4 x then Am op x l else (0,0))=_;rw[hsure];rfl);have HT:=Q1 H.out.tail;have ht:=HT.out.at_
     have hlc:l.length≤cap-1:=by omega
     have hcp:1≤cap:=by omega
     obtain⟨n0,d0⟩:=x;have HS:=Q1 hs;have HO:=Q1 (HJ.out.2);have H6:=Q1 (HJ.out.1);rw[hlen];clear hs
     by_cases hc1:cap=1
     · have hl0:l=[]:=List.eq_nil_of_length_eq_zero (by omega);subst hc1;subst hl0;have HL:=Q1 (HL.out.trans rfl);clear HO H6 HT ht HJ
       go_enter Tryz.func197,Tryz.ntmps197
       go_wp2_with fail
       ((with_reducible refine(HS.out _).mono ?_);rintro e w' ⟨rfl,hbw⟩)
       obtain⟨m,rfl⟩:=Qf hbw;clear hbw;go_wp2_with fail
       go_loopg [24] 0 (fun k s wr=>s=.int .i64 0∧Hid (Gj w wr 23 op [] (n0,d0) 0 (n0,d0)))
       case atStart=>exact⟨rfl,Q1 ⟨Qa (((Q7 _ _).alloc (by simp) _).alloc (by simp;omega) _) m,((((Ql.new _ _ _).old _).grow m).moved (by simp)),(((Ql.new _ _ _).grow m).moved (by simp)),x64,Q6 _,rfl⟩⟩
       case round =>
        obtain⟨rfl,hg⟩:=hrel;have co0:wr.cell? ⟨w.heap.size+1+1,0,none⟩=some (.int .i64 n0):=(hg.out.best).cell 0;have fco0:=(hg.out.best).frozen 0;have co1:wr.cell? ⟨w.heap.size+1+1,1,none⟩=some (.int .i64 d0):=(hg.out.best).cell 1;have fco1:=(hg.out.best).frozen 1;have lco:=(hg.out.best).lt;have cr0:wr.cell? ⟨w.heap.size+1,0,none⟩=some (.int .i64 0):=(hg.out.res).cell 0;have fcr0:=(hg.out.res).frozen 0;have cr1:wr.cell? ⟨w.heap.size+1,1,none⟩=some (.int .i64 0):=(hg.out.res).cell 1;have fcr1:=(hg.out.res).frozen 1;have lcr:=(hg.out.res).lt;go_wp2_with fail;exact bodyPost_ret (v:=.agg #[.int .i64 n0,.int .i64 d0]) (by simp[results,Tryz.results197,go_sem,cr0,cr1,lcr]) rfl ⟨(by rw[HL.out];rfl),((hg.out.below.setCell (by first|omega | (simp;done) | (simp;omega)) _).setCell (by first|omega | (simp;done) | (simp;omega)) _)⟩
     · obtain⟨o2,ho2⟩:∃ o2,o2=o+2:=⟨_,rfl⟩;obtain⟨c2,hc2⟩:∃ c2,c2=cap-1:=⟨_,rfl⟩
       go_enter Tryz.func197,Tryz.ntmps197
       go_wp2_with fail
       ((with_reducible refine(HS.out _).mono ?_);rintro e w' ⟨rfl,hbw⟩)
       obtain⟨m,rfl⟩:=Qf hbw;clear hbw;go_wp2_with fail;rw[← ho2,← hc2];rw[← ho2,← hc2]at HT;clear e0 e1 ho2 hc2 hc1 hcp ht
       go_loopg [24] l.length (fun k s wr=>∃ (i:Nat) (out:Rt),s=.int .i64 i∧Hid (Gj w wr 23 op l (n0,d0) i out)∧l.length-i≤k)
       case atStart =>
        exact⟨0,(n0,d0),rfl,Q1 ⟨Qa (((Q7 _ _).alloc (by simp) _).alloc (by simp;omega) _) m,((((Ql.new _ _ _).old _).grow m).moved (by simp)),(((Ql.new _ _ _).grow m).moved (by simp)),x64,Qs _,rfl⟩,by omega⟩
       case round =>
        obtain⟨i,out,rfl,hg,hk⟩:=hrel;have hle:=hg.out.le
        by_cases hi:i<l.length
        · have hr:l[i]?=some l[i]:=Q9 hi;have e0:=HT.out.c0 i _ hr;have e1:=HT.out.c1 i _ hr;have h64:=HT.out.is64 i _ hr;have hdrop:l.drop i=l[i]::l.drop (i+1):=Qv hi;have hlaw:=hg.out.law;rw[hdrop]at hlaw;clear hdrop hr;generalize l[i]=x at *;obtain⟨n,d⟩:=x;have f0:wr.cell? ⟨b,o2+i*2,none⟩=some (.int .i64 n):=(hg.out.below.cell hbl).trans e0;have f1:wr.cell? ⟨b,o2+i*2+1,none⟩=some (.int .i64 d):=(hg.out.below.cell hbl).trans e1;clear e0 e1;obtain⟨p,q⟩:=out;have cp0:wr.cell? ⟨w.heap.size+1+1,0,none⟩=some (.int .i64 p):=(hg.out.best).cell 0;have fcp0:=(hg.out.best).frozen 0;have cp1:wr.cell? ⟨w.heap.size+1+1,1,none⟩=some (.int .i64 q):=(hg.out.best).cell 1;have fcp1:=(hg.out.best).frozen 1;have lcp:=(hg.out.best).lt;go_wp2_with fail;clear cp0 cp1 fcp0 fcp1 lcp;have o64:=hg.out.i64
          have hs:=fun w=>K4 (p,q) w o64
          have ht:=fun w=>K4 (n,d) w h64
          have hx:=Ql.new wr 23 #[.int .i64 n,.int .i64 d];replace hg:=hg.out.alloc (.cells #[.int .i64 n,.int .i64 d] 23);clear f0 f1 HS;generalize wr.heap.size=g at *;generalize wr.alloc _=wa at *;have cx0:wa.cell? ⟨g,0,none⟩=some (.int .i64 n):=(hx).cell 0;have fcx0:=(hx).frozen 0;have cx1:wa.cell? ⟨g,1,none⟩=some (.int .i64 d):=(hx).cell 1;have fcx1:=(hx).frozen 1;have lcx:=(hx).lt;have co0:wa.cell? ⟨w.heap.size+1+1,0,none⟩=some (.int .i64 p):=(hg.best).cell 0;have fco0:=(hg.best).frozen 0;have co1:wa.cell? ⟨w.heap.size+1+1,1,none⟩=some (.int .i64 q):=(hg.best).cell 1;have fco1:=(hg.best).frozen 1;have lco:=(hg.best).lt;have cr0:wa.cell? ⟨w.heap.size+1,0,none⟩=some (.int .i64 0):=(hg.res).cell 0;have fcr0:=(hg.res).frozen 0;have cr1:wa.cell? ⟨w.heap.size+1,1,none⟩=some (.int .i64 0):=(hg.res).cell 1;have fcr1:=(hg.res).frozen 1;have lcr:=(hg.res).lt;clear hsure
          cases hsp:U4 (p,q) with
          | false =>
            rw[hsp]at hs;have HS:=Q1 hs;have HF:=Q1 (show Am op (n0,d0) l=(0,0) by rw[← hlaw];unfold Am;rw[hsp];rfl);clear hs ht hlaw hsp;go_wp2_with fail
            ((with_reducible refine(HS.out _).mono ?_);rintro e w' ⟨rfl,hbw⟩)
            obtain⟨m1,rfl⟩:=Qf hbw;clear hbw;go_wp2_with fail;exact bodyPost_ret (v:=.agg #[.int .i64 0,.int .i64 0]) (by simp[results,Tryz.results197,go_sem,cr0,cr1,lcr]) rfl ⟨(by rw[HL.out,HF.out]),(((hg.grow m1).below.setCell (by first|omega | (simp;done) | (simp;omega)) _).setCell (by first|omega | (simp;done) | (simp;omega)) _)⟩
          | true =>
            rw[hsp]at hs;have HS:=Q1 hs
            cases hsn:U4 (n,d) with
            | false =>
              rw[hsn]at ht;have HT2:=Q1 ht;have HF:=Q1 (show Am op (n0,d0) l=(0,0) by rw[← hlaw];unfold Am;rw[hsp,hsn];rfl);clear hs ht hlaw hsp hsn;go_wp2_with fail
              ((with_reducible refine(HS.out _).mono ?_);rintro e w' ⟨rfl,hbw⟩)
              obtain⟨m1,rfl⟩:=Qf hbw;clear hbw;go_wp2_with fail
              ((with_reducible refine(HT2.out _).mono ?_);rintro e w' ⟨rfl,hbw⟩)
              obtain⟨m2,rfl⟩:=Qf hbw;clear hbw;go_wp2_with fail;exact bodyPost_ret (v:=.agg #[.int .i64 0,.int .i64 0]) (by simp[results,Tryz.results197,go_sem,cr0,cr1,lcr]) rfl ⟨(by rw[HL.out,HF.out]),((((hg.grow m1).grow m2).below.setCell (by first|omega | (simp;done) | (simp;omega)) _).setCell (by first|omega | (simp;done) | (simp;omega)) _)⟩
            | true =>
              rw[hsn]at ht;have HT2:=Q1 ht
              have hop:=fun w=>HO.out (p,q) (n,d) w o64 h64 hsp hsn
              have o6:=H6.out (p,q) (n,d)
              have hl2:Am op (op (p,q) (n,d)) (l.drop (i+1))=Am op (n0,d0) l:=by
               rw[← hlaw]
               conv=>rhs;unfold Am
               rw[hsp,hsn];rfl
              generalize op (p,q) (n,d)=v at *;obtain⟨v1,v2⟩:=v;have HP:=Q1 hop;have HF:=Q1 hl2;clear hs ht hlaw hsp hsn hop hl2;go_wp2_with fail
              ((with_reducible refine(HS.out _).mono ?_);rintro e w' ⟨rfl,hbw⟩)
              obtain⟨m1,rfl⟩:=Qf hbw;clear hbw;go_wp2_with fail
              ((with_reducible refine(HT2.out _).mono ?_);rintro e w' ⟨rfl,hbw⟩)
              obtain⟨m2,rfl⟩:=Qf hbw;clear hbw;go_wp2_with (go_at_call 198;with_reducible refine(HP.out _).mono ?_;rintro e w' ⟨rfl,hbw⟩;obtain⟨m3,rfl⟩:=Qf hbw;clear hbw);go_wp2_with fail
              go_roundg (l.length-(i+1))
              case measure=>omega
              case rel=>exact⟨i+1,(v1,v2),by go_num,Q1 ((((hg.grow m1).grow m2).grow m3).set o6 hi HF.out),by omega⟩
        · obtain rfl:i=l.length:=by omega
          obtain⟨p,q⟩:=out;have hlw:=hg.out.law;rw[List.drop_length]at hlw;have HF:=Q1 hlw;have co0:wr.cell? ⟨w.heap.size+1+1,0,none⟩=some (.int .i64 p):=(hg.out.best).cell 0;have fco0:=(hg.out.best).frozen 0;have co1:wr.cell? ⟨w.heap.size+1+1,1,none⟩=some (.int .i64 q):=(hg.out.best).cell 1;have fco1:=(hg.out.best).frozen 1;have lco:=(hg.out.best).lt;have cr0:wr.cell? ⟨w.heap.size+1,0,none⟩=some (.int .i64 0):=(hg.out.res).cell 0;have fcr0:=(hg.out.res).frozen 0;have cr1:wr.cell? ⟨w.heap.size+1,1,none⟩=some (.int .i64 0):=(hg.out.res).cell 1;have fcr1:=(hg.out.res).frozen 1;have lcr:=(hg.out.res).lt;go_wp2_with fail
          exact bodyPost_ret (v:=.agg #[.int .i64 p,.int .i64 q]) (by simp[results,Tryz.results197,go_sem,cr0,cr1,lcr]) rfl ⟨(by rw[HL.out,← HF.out];rfl),((hg.out.below.setCell (by first|omega | (simp;done) | (simp;omega)) _).setCell (by first|omega | (simp;done) | (simp;omega)) _)⟩
theorem Sg:Q6z 198 N4:=⟨Q2f,Q14⟩
theorem Q63 {oa:Option Addr} {len cap b o:Nat} {l:List Rt} (w:World) (h:Pz w oa len cap b o l) :
  Calls Tryz.prog 169 #[.slice oa len cap] w fun e w'=>e=.returned (rv (O8 N4 (1,1) l))∧Below w.heap.size w w':=by
 have hc:=Pj N4 Sg (1,1) oa len cap b o l (w.alloc (.cells #[.int .i64 0,.int .i64 0] 23)) (h.below (Q7 _ _));obtain⟨⟨p,q⟩,hr⟩:∃ r,O8 N4 (1,1) l=r:=⟨_,rfl⟩;rw[hr]at hc ⊢;have HC:=Q1 hc;clear hc h hr
 go_enter Tryz.func169,Tryz.ntmps169
 go_wp2_with fail
 ((with_reducible refine(HC.out).mono ?_);rintro e w' ⟨rfl,hbw⟩)
 obtain⟨m,rfl⟩:=Qf hbw;clear hbw;go_wp2_with fail;exact bodyPost_ret (v:=.agg #[.int .i64 p,.int .i64 q]) (by simp[results,Tryz.results169,go_sem]) rfl ⟨rfl,(((Qa (Q7 _ _) m).setCell (Q6 _) _).setCell (Q6 _) _)⟩
end Go.Proofs.YtnanffmhbjdpaaaGreatDoor
