/- Of my texts: WideB, RatE. -/
import Derived.Test.YtnanffmhbjdpaaaGreatDoorM00
import Derived.Test.YtnanffmhbjdpaaaGreatDoorM03
import Derived.Shelf.Spec.BitsCarry
import Derived.Lib.Mul64
namespace Go.Proofs.YtnanffmhbjdpaaaGreatDoor
set_option maxHeartbeats 2000000
set_option linter.unusedVariables false
set_option linter.unusedSimpArgs false
open Go.RowKit
theorem Dv (x y:Nat) (hx:x<18446744073709551616) (hy:y<18446744073709551616) (w:World) :
  Calls Tryz.prog 174 #[.int .u64 x,.int .u64 y] w fun e w'=>e=.returned (.tuple #[.int .u64 ((x*y / 18446744073709551616:Nat):Int),.int .u64 ((x*y % 18446744073709551616:Nat):Int)])∧w=w':=by
 have ar:=mul64_arith x y (by omega) (by omega) (by omega) (by omega);have b1:=and_low32 (x:Int) (by omega) (by omega);have b2:=and_low32 (y:Int) (by omega) (by omega)
 have b3:∀ z:Int,bits BinOp.and IntKind.u64 (z % 18446744073709551616) 4294967295=z % 18446744073709551616 % 4294967296:=fun z=>and_low32 _ (by omega) (by omega)
 have B1:=Q1 b1;have B2:=Q1 b2;have B3:=Q1 b3;have AR:=Q1 ar;clear b1 b2 b3 ar
 go_enter Tryz.func174,Tryz.ntmps174
 go_wp2
 go_ret2
 refine⟨Q3u ?_ ?_,rfl⟩
 · simp only[IntKind.wrap_u64,B1.out,B2.out,B3.out];rw[AR.out,Int.natCast_ediv,Int.natCast_mul];rfl
 · rw[IntKind.wrap_u64,Int.natCast_emod,Int.natCast_mul];rfl
def Q6i (a b:Rt):Int:=if U4 a&&U4 b then Mk a b else 0
theorem Ds {r:Rt} (h:U4 r=true):1≤r.2:=by
 unfold U4 at h;simp only[Qe,decide_eq_true_eq]at h;exact h.1.1
theorem Dr {r:Rt} (h:U4 r=true):r.1≠-9223372036854775808:=by
 unfold U4 at h;simp only[Qe,bne_iff_ne]at h;exact h.1.2
theorem Nm {r:Rt}:U4 r=true↔Q88 r:=by
 unfold U4 Q88;simp only[Qe,decide_eq_true_eq,bne_iff_ne,beq_iff_eq,and_assoc]
def Q6j (a b:Nat):Int:=if a<b then -1 else if b<a then 1 else 0
def Hh (ah al bh bl:Nat):Int:=if ah<bh∨ah=bh∧al<bl then -1 else if bh<ah∨bh=ah∧bl<al then 1 else 0
theorem Q51 (a b:Nat):Q6j a b=Hh (a / 18446744073709551616) (a % 18446744073709551616) (b / 18446744073709551616) (b % 18446744073709551616):=by
 unfold Q6j Hh;have h1:(a<b)=(a / 18446744073709551616<b / 18446744073709551616∨a / 18446744073709551616=b / 18446744073709551616∧a % 18446744073709551616<b % 18446744073709551616):=propext (by omega);have h2:(b<a)=(b / 18446744073709551616<a / 18446744073709551616∨b / 18446744073709551616=a / 18446744073709551616∧b % 18446744073709551616<a % 18446744073709551616):=propext (by omega);simp only[h1,h2]
theorem Xq {k:IntKind} {a c:Int} {b d:Bool} (h1:a=c) (h2:b=d):Ending.returned (.tuple #[.int k a,.bool b])=.returned (.tuple #[.int k c,.bool d]):=by rw[h1,h2]
theorem Q6h (a b:Rt) (w:World) (ha:U2 a) (hb:U2 b) :
  Calls Tryz.prog 144 #[rv a,rv b] w fun e w'=>e=.returned (.tuple #[.int .i64 (Q6i a b),.bool (U4 a&&U4 b)])∧Below w.heap.size w w':=by
 have hs:=fun w=>K4 a w ha
 have ht:=fun w=>K4 b w hb
 unfold Q6i
 cases c1:U4 a with
 | false =>
   rw[c1]at hs;obtain⟨n,d⟩:=a;obtain⟨p,q⟩:=b;have HS:=Q1 hs;clear hs ht c1
   go_enter Tryz.func144,Tryz.ntmps144
   go_wp2_with fail
   ((with_reducible refine(HS.out _).mono ?_);rintro e w' ⟨rfl,hbw⟩)
   obtain⟨m,rfl⟩:=Qf hbw;clear hbw;go_wp2_with fail
   go_ret2
   exact⟨Xq rfl rfl,Qa ((Q7 _ _).alloc (by simp) _) _⟩
 | true =>
   rw[c1]at hs;have d1:=Ds c1;have n1:=Dr c1
   cases c2:U4 b with
   | false =>
     rw[c2]at ht;obtain⟨n,d⟩:=a;obtain⟨p,q⟩:=b;have HS:=Q1 hs;have HT:=Q1 ht;clear hs ht c1 c2
     go_enter Tryz.func144,Tryz.ntmps144
     go_wp2_with fail
     ((with_reducible refine(HS.out _).mono ?_);rintro e w' ⟨rfl,hbw⟩)
     obtain⟨m,rfl⟩:=Qf hbw;clear hbw;go_wp2_with fail
     ((with_reducible refine(HT.out _).mono ?_);rintro e w' ⟨rfl,hbw⟩)
     obtain⟨m2,rfl⟩:=Qf hbw;clear hbw;go_wp2_with fail
     go_ret2
     exact⟨Xq rfl rfl,Qa (Qa ((Q7 _ _).alloc (by simp) _) _) _⟩
   | true =>
     rw[c2]at ht;have d2:=Ds c2;have n2:=Dr c2;obtain⟨n,d⟩:=a;obtain⟨p,q⟩:=b;obtain⟨b1,b2,b3,b4⟩:=ha;obtain⟨b5,b6,b7,b8⟩:=hb;simp only at b1 b2 b3 b4 b5 b6 b7 b8 d1 n1 d2 n2;have HS:=Q1 hs;have HT:=Q1 ht
     have hx1:d.toNat<18446744073709551616:=by omega
     have hx2:q.toNat<18446744073709551616:=by omega
     have hy1:n.natAbs<18446744073709551616:=by omega
     have hy2:p.natAbs<18446744073709551616:=by omega
     have e1:((d.toNat:Nat):Int)=d:=by omega
     have e2:((q.toNat:Nat):Int)=q:=by omega
     have e3:IntKind.u64.wrap d=d:=by rw[IntKind.wrap_u64];omega
     have e4:IntKind.u64.wrap q=q:=by rw[IntKind.wrap_u64];omega
     have M1:=Q1 (fun w=>e2 ▸ Dv n.natAbs q.toNat hy1 hx2 w);have M2:=Q1 (fun w=>e1 ▸ Dv p.natAbs d.toNat hy2 hx1 w);clear e1 e2;clear hs ht c1 c2
     have HC:=Q1 (show Mk (n,d) (p,q)=(if n<0 then (if p<0 then Q6j (p.natAbs*d.toNat) (n.natAbs*q.toNat) else -1) else if p<0 then 1 else Q6j (n.natAbs*q.toNat) (p.natAbs*d.toNat)) by
      by_cases s1:n<0
      · by_cases s2:p<0
        · rw[Q53 d1 d2 s1 s2,if_pos s1,if_pos s2];rfl
        · rw[Tl d1 d2 s1 s2,if_pos s1,if_neg s2]
      · by_cases s2:p<0
        · rw[Ab d1 d2 s1 s2,if_neg s1,if_pos s2]
        · rw[Q52 d1 d2 s1 s2,if_neg s1,if_neg s2];rfl)
     generalize Mk (n,d) (p,q)=R at *;generalize n.natAbs*q.toNat=X at *;generalize p.natAbs*d.toNat=Y at *;clear d1 d2;rw[Q51 X Y,Q51 Y X]at HC;generalize X / 18446744073709551616=xh at *;generalize X % 18446744073709551616=xl at *;generalize Y / 18446744073709551616=yh at *;generalize Y % 18446744073709551616=yl at *
     by_cases s1:n<0<;>by_cases s2:p<0
     · have g1:decide (n<0)=true:=by simpa using s1
       have g2:decide (p<0)=true:=by simpa using s2
       have HF:=Q1 (HC.out.trans (by rw[if_pos s1,if_pos s2]));clear HC s1 s2
       go_enter Tryz.func144,Tryz.ntmps144
       go_wp2_with fail
       ((with_reducible refine(HS.out _).mono ?_);rintro e w' ⟨rfl,hbw⟩)
       obtain⟨m,rfl⟩:=Qf hbw;clear hbw;go_wp2_with fail
       ((with_reducible refine(HT.out _).mono ?_);rintro e w' ⟨rfl,hbw⟩)
       obtain⟨m2,rfl⟩:=Qf hbw;clear hbw;go_wp2_with fail;refine Qx (by kernel_rfl) (by kernel_rfl) ?_
       repeat (go_big_quiet_step ((first | (go_at_call 175;exact Zv (Xp n _ b1 b2)) | (go_at_call 174;exact Zv (M1.out _)))))
       refine wpQuiet_nil ?_;rintro _ ⟨m3,rfl⟩;go_wp2_with fail;refine Qx (by kernel_rfl) (by kernel_rfl) ?_
       repeat (go_big_quiet_step ((first | (go_at_call 175;exact Zv (Xp p _ b5 b6)) | (go_at_call 174;exact Zv (M2.out _)))))
       refine wpQuiet_nil ?_;rintro _ ⟨m4,rfl⟩;rw[E5];clear HS HT M1 M2
       rcases Nat.lt_trichotomy xh yh with c|c|c
       · have g3:decide ((xh:Int)<(yh:Int))=true:=by first | (simp;omega) | simp
         have k3:decide (xh<yh)=true:=by first | (simp;omega) | simp
         have HF:=Q1 (HF.out.trans (show _=(1:Int) by unfold Hh;rw[if_neg (by omega),if_pos (by omega)]));go_wp2_with fail
         go_ret2
         exact⟨Xq HF.out.symm rfl,Qa ((Q7 _ _).alloc (by simp) _) _⟩
       · subst c
         rcases Nat.lt_trichotomy xl yl with c|c|c
         · have g3:decide ((xh:Int)<(xh:Int))=false:=by first | (simp;omega) | simp
           have k3:decide (xh<xh)=false:=by first | (simp;omega) | simp
           have g4:((xh:Int)==(xh:Int))=true:=by first | (simp;omega) | simp
           have k4:(xh==xh)=true:=by first | (simp;omega) | simp
           have g5:((xh:Int) != (xh:Int))=false:=by first | (simp;omega) | simp
           have k5:(xh != xh)=false:=by first | (simp;omega) | simp
           have g6:decide ((xl:Int)<(yl:Int))=true:=by first | (simp;omega) | simp
           have k6:decide (xl<yl)=true:=by first | (simp;omega) | simp
           have HF:=Q1 (HF.out.trans (show _=(1:Int) by unfold Hh;rw[if_neg (by omega),if_pos (by omega)]));go_wp2_with fail
           go_ret2
           exact⟨Xq HF.out.symm rfl,Qa ((Q7 _ _).alloc (by simp) _) _⟩
         · subst c
           have g3:decide ((xh:Int)<(xh:Int))=false:=by first | (simp;omega) | simp
           have k3:decide (xh<xh)=false:=by first | (simp;omega) | simp
           have g4:((xh:Int)==(xh:Int))=true:=by first | (simp;omega) | simp
           have k4:(xh==xh)=true:=by first | (simp;omega) | simp
           have g5:((xh:Int) != (xh:Int))=false:=by first | (simp;omega) | simp
           have k5:(xh != xh)=false:=by first | (simp;omega) | simp
           have g6:decide ((xl:Int)<(xl:Int))=false:=by first | (simp;omega) | simp
           have k6:decide (xl<xl)=false:=by first | (simp;omega) | simp
           have g7:((xl:Int) != (xl:Int))=false:=by first | (simp;omega) | simp
           have k7:(xl != xl)=false:=by first | (simp;omega) | simp
           have HF:=Q1 (HF.out.trans (show _=(0:Int) by unfold Hh;rw[if_neg (by omega),if_neg (by omega)]));go_wp2_with fail
           go_ret2
           exact⟨Xq HF.out.symm rfl,Qa ((Q7 _ _).alloc (by simp) _) _⟩
         · have g3:decide ((xh:Int)<(xh:Int))=false:=by first | (simp;omega) | simp
           have k3:decide (xh<xh)=false:=by first | (simp;omega) | simp
           have g4:((xh:Int)==(xh:Int))=true:=by first | (simp;omega) | simp
           have k4:(xh==xh)=true:=by first | (simp;omega) | simp
           have g5:((xh:Int) != (xh:Int))=false:=by first | (simp;omega) | simp
           have k5:(xh != xh)=false:=by first | (simp;omega) | simp
           have g6:decide ((xl:Int)<(yl:Int))=false:=by first | (simp;omega) | simp
           have k6:decide (xl<yl)=false:=by first | (simp;omega) | simp
           have g7:((xl:Int) != (yl:Int))=true:=by first | (simp;omega) | simp
           have k7:(xl != yl)=true:=by first | (simp;omega) | simp
           have HF:=Q1 (HF.out.trans (show _=(-1:Int) by unfold Hh;rw[if_pos (by omega)]));go_wp2_with fail
           go_ret2
           exact⟨Xq HF.out.symm rfl,Qa ((Q7 _ _).alloc (by simp) _) _⟩
       · have g3:decide ((xh:Int)<(yh:Int))=false:=by first | (simp;omega) | simp
         have k3:decide (xh<yh)=false:=by first | (simp;omega) | simp
         have g4:((xh:Int)==(yh:Int))=false:=by first | (simp;omega) | simp
         have k4:(xh==yh)=false:=by first | (simp;omega) | simp
         have g5:((xh:Int) != (yh:Int))=true:=by first | (simp;omega) | simp
         have k5:(xh != yh)=true:=by first | (simp;omega) | simp
         have HF:=Q1 (HF.out.trans (show _=(-1:Int) by unfold Hh;rw[if_pos (by omega)]));go_wp2_with fail
         go_ret2
         exact⟨Xq HF.out.symm rfl,Qa ((Q7 _ _).alloc (by simp) _) _⟩
     · have g1:decide (n<0)=true:=by simpa using s1
       have g2:decide (p<0)=false:=by simpa using s2
       have HF:=Q1 (HC.out.trans (by rw[if_pos s1,if_neg s2]));clear HC s1 s2
       go_enter Tryz.func144,Tryz.ntmps144
       go_wp2_with fail
       ((with_reducible refine(HS.out _).mono ?_);rintro e w' ⟨rfl,hbw⟩)
       obtain⟨m,rfl⟩:=Qf hbw;clear hbw;go_wp2_with fail
       ((with_reducible refine(HT.out _).mono ?_);rintro e w' ⟨rfl,hbw⟩)
       obtain⟨m2,rfl⟩:=Qf hbw;clear hbw;go_wp2_with fail
       go_ret2
       exact⟨Xq HF.out.symm rfl,Qa (Qa ((Q7 _ _).alloc (by simp) _) _) _⟩
     · have g1:decide (n<0)=false:=by simpa using s1
       have g2:decide (p<0)=true:=by simpa using s2
       have HF:=Q1 (HC.out.trans (by rw[if_neg s1,if_pos s2]));clear HC s1 s2
       go_enter Tryz.func144,Tryz.ntmps144
       go_wp2_with fail
       ((with_reducible refine(HS.out _).mono ?_);rintro e w' ⟨rfl,hbw⟩)
       obtain⟨m,rfl⟩:=Qf hbw;clear hbw;go_wp2_with fail
       ((with_reducible refine(HT.out _).mono ?_);rintro e w' ⟨rfl,hbw⟩)
       obtain⟨m2,rfl⟩:=Qf hbw;clear hbw;go_wp2_with fail
       go_ret2
       exact⟨Xq HF.out.symm rfl,Qa (Qa ((Q7 _ _).alloc (by simp) _) _) _⟩
     · have g1:decide (n<0)=false:=by simpa using s1
       have g2:decide (p<0)=false:=by simpa using s2
       have HF:=Q1 (HC.out.trans (by rw[if_neg s1,if_neg s2]));clear HC s1 s2
       go_enter Tryz.func144,Tryz.ntmps144
       go_wp2_with fail
       ((with_reducible refine(HS.out _).mono ?_);rintro e w' ⟨rfl,hbw⟩)
       obtain⟨m,rfl⟩:=Qf hbw;clear hbw;go_wp2_with fail
       ((with_reducible refine(HT.out _).mono ?_);rintro e w' ⟨rfl,hbw⟩)
       obtain⟨m2,rfl⟩:=Qf hbw;clear hbw;go_wp2_with fail;refine Qx (by kernel_rfl) (by kernel_rfl) ?_
       repeat (go_big_quiet_step ((first | (go_at_call 175;exact Zv (Xp n _ b1 b2)) | (go_at_call 174;exact Zv (M1.out _)))))
       refine wpQuiet_nil ?_;rintro _ ⟨m3,rfl⟩;go_wp2_with fail;refine Qx (by kernel_rfl) (by kernel_rfl) ?_
       repeat (go_big_quiet_step ((first | (go_at_call 175;exact Zv (Xp p _ b5 b6)) | (go_at_call 174;exact Zv (M2.out _)))))
       refine wpQuiet_nil ?_;rintro _ ⟨m4,rfl⟩;rw[E5];clear HS HT M1 M2
       rcases Nat.lt_trichotomy xh yh with c|c|c
       · have g3:decide ((xh:Int)<(yh:Int))=true:=by first | (simp;omega) | simp
         have k3:decide (xh<yh)=true:=by first | (simp;omega) | simp
         have HF:=Q1 (HF.out.trans (show _=(-1:Int) by unfold Hh;rw[if_pos (by omega)]));go_wp2_with fail
         go_ret2
         exact⟨Xq HF.out.symm rfl,Qa ((Q7 _ _).alloc (by simp) _) _⟩
       · subst c
         rcases Nat.lt_trichotomy xl yl with c|c|c
         · have g3:decide ((xh:Int)<(xh:Int))=false:=by first | (simp;omega) | simp
           have k3:decide (xh<xh)=false:=by first | (simp;omega) | simp
           have g4:((xh:Int)==(xh:Int))=true:=by first | (simp;omega) | simp
           have k4:(xh==xh)=true:=by first | (simp;omega) | simp
           have g5:((xh:Int) != (xh:Int))=false:=by first | (simp;omega) | simp
           have k5:(xh != xh)=false:=by first | (simp;omega) | simp
           have g6:decide ((xl:Int)<(yl:Int))=true:=by first | (simp;omega) | simp
           have k6:decide (xl<yl)=true:=by first | (simp;omega) | simp
           have HF:=Q1 (HF.out.trans (show _=(-1:Int) by unfold Hh;rw[if_pos (by omega)]));go_wp2_with fail
           go_ret2
           exact⟨Xq HF.out.symm rfl,Qa ((Q7 _ _).alloc (by simp) _) _⟩
         · subst c
           have g3:decide ((xh:Int)<(xh:Int))=false:=by first | (simp;omega) | simp
           have k3:decide (xh<xh)=false:=by first | (simp;omega) | simp
           have g4:((xh:Int)==(xh:Int))=true:=by first | (simp;omega) | simp
           have k4:(xh==xh)=true:=by first | (simp;omega) | simp
           have g5:((xh:Int) != (xh:Int))=false:=by first | (simp;omega) | simp
           have k5:(xh != xh)=false:=by first | (simp;omega) | simp
           have g6:decide ((xl:Int)<(xl:Int))=false:=by first | (simp;omega) | simp
           have k6:decide (xl<xl)=false:=by first | (simp;omega) | simp
           have g7:((xl:Int) != (xl:Int))=false:=by first | (simp;omega) | simp
           have k7:(xl != xl)=false:=by first | (simp;omega) | simp
           have HF:=Q1 (HF.out.trans (show _=(0:Int) by unfold Hh;rw[if_neg (by omega),if_neg (by omega)]));go_wp2_with fail
           go_ret2
           exact⟨Xq HF.out.symm rfl,Qa ((Q7 _ _).alloc (by simp) _) _⟩
         · have g3:decide ((xh:Int)<(xh:Int))=false:=by first | (simp;omega) | simp
           have k3:decide (xh<xh)=false:=by first | (simp;omega) | simp
           have g4:((xh:Int)==(xh:Int))=true:=by first | (simp;omega) | simp
           have k4:(xh==xh)=true:=by first | (simp;omega) | simp
           have g5:((xh:Int) != (xh:Int))=false:=by first | (simp;omega) | simp
           have k5:(xh != xh)=false:=by first | (simp;omega) | simp
           have g6:decide ((xl:Int)<(yl:Int))=false:=by first | (simp;omega) | simp
           have k6:decide (xl<yl)=false:=by first | (simp;omega) | simp
           have g7:((xl:Int) != (yl:Int))=true:=by first | (simp;omega) | simp
           have k7:(xl != yl)=true:=by first | (simp;omega) | simp
           have HF:=Q1 (HF.out.trans (show _=(1:Int) by unfold Hh;rw[if_neg (by omega),if_pos (by omega)]));go_wp2_with fail
           go_ret2
           exact⟨Xq HF.out.symm rfl,Qa ((Q7 _ _).alloc (by simp) _) _⟩
       · have g3:decide ((xh:Int)<(yh:Int))=false:=by first | (simp;omega) | simp
         have k3:decide (xh<yh)=false:=by first | (simp;omega) | simp
         have g4:((xh:Int)==(yh:Int))=false:=by first | (simp;omega) | simp
         have k4:(xh==yh)=false:=by first | (simp;omega) | simp
         have g5:((xh:Int) != (yh:Int))=true:=by first | (simp;omega) | simp
         have k5:(xh != yh)=true:=by first | (simp;omega) | simp
         have HF:=Q1 (HF.out.trans (show _=(1:Int) by unfold Hh;rw[if_neg (by omega),if_pos (by omega)]));go_wp2_with fail
         go_ret2
         exact⟨Xq HF.out.symm rfl,Qa ((Q7 _ _).alloc (by simp) _) _⟩
end Go.Proofs.YtnanffmhbjdpaaaGreatDoor
