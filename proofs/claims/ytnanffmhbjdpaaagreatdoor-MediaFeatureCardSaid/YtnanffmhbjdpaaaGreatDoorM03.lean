/- Of my texts: RatA, RatB, RatC, WideA. -/
import Derived.Test.YtnanffmhbjdpaaaGreatDoorM00
import Derived.Test.YtnanffmhbjdpaaaGreatDoorM01
import Derived.Test.YtnanffmhbjdpaaaGreatDoorM02
import Derived.Test.YtnanffmhbjdpaaaGreatDoorProg
namespace Go.Proofs.YtnanffmhbjdpaaaGreatDoor
set_option maxHeartbeats 1000000
set_option linter.unusedVariables false
set_option linter.unusedSimpArgs false
open Go.RowKit
theorem Yr {k:IntKind} {a b:Int} (h:a=b):Ending.returned (.int k a)=.returned (.int k b):=by rw[h]
theorem Bq (a:Nat) (h:a<18446744073709551616):IntKind.u64.wrap (a:Int)=(a:Int):=by rw[IntKind.wrap_u64];omega
theorem Qw {a b:Bool} (h:a=b):Ending.returned (.bool a)=.returned (.bool b):=by rw[h]
theorem Q3u {k:IntKind} {a b c d:Int} (h1:a=c) (h2:b=d):Ending.returned (.tuple #[.int k a,.int k b])=.returned (.tuple #[.int k c,.int k d]):=by rw[h1,h2]
abbrev rv (r:Rt):Value:=.agg #[.int .i64 r.1,.int .i64 r.2]
theorem Xp (x:Int) (w:World) (h1:-9223372036854775808≤x) (h2:x≤9223372036854775807) :
  Calls Tryz.prog 175 #[.int .i64 x] w fun e w'=>e=.returned (.int .u64 (x.natAbs:Int))∧w=w':=by
 by_cases h:x<0
 · go_enter Tryz.func175,Tryz.ntmps175
   go_wp2
   go_ret;exact⟨Yr (by rw[IntKind.wrap_u64,IntKind.wrap_u64];omega),rfl⟩
 · go_enter Tryz.func175,Tryz.ntmps175
   go_wp2
   go_ret;exact⟨Yr (by omega),rfl⟩
theorem Q67 (x:Int) (w:World) (h1:-9223372036854775808≤x) (h2:x≤9223372036854775807) :
  Calls Tryz.prog 194 #[.int .i64 x] w fun e w'=>e=.returned (.int .u64 (x.natAbs:Int))∧w=w':=by
 by_cases h:x<0
 · go_enter Tryz.func194,Tryz.ntmps194
   go_wp2
   go_ret;exact⟨Yr (by omega),rfl⟩
 · go_enter Tryz.func194,Tryz.ntmps194
   go_wp2
   go_ret;exact⟨Yr (by omega),rfl⟩
theorem Pi (a b:Nat) (w:World) (h1:a<18446744073709551616) (h2:b<18446744073709551616) :
  Calls Tryz.prog 195 #[.int .u64 a,.int .u64 b] w fun e w'=>e=.returned (.int .u64 (Nat.gcd a b:Int))∧w=w':=by
 go_enter Tryz.func195,Tryz.ntmps195
 go_wp2
 go_loop [0,1] (fun s t=>∃ x y:Nat,s=.int .u64 x∧t=.int .u64 y∧x<18446744073709551616∧y<18446744073709551616∧Hid (Nat.gcd x y=Nat.gcd a b)) (fun s _=>(intOf s).toNat)
 case atStart=>exact⟨a,b,rfl,rfl,h1,h2,Q1 rfl⟩
 case round =>
  obtain⟨x,y,rfl,rfl,b1,b2,hg⟩:=hrel
  by_cases hx:0<x
  · have hm:=Nat.mod_lt y hx
    go_wp2
    go_round
    case rel=>exact⟨y % x,x,by go_num,rfl,by omega,b1,Q1 (by rw[← hg.out,Nat.gcd_rec x y])⟩
    case measure=>simp[intOf];omega
  · obtain rfl:x=0:=by omega
    go_wp2
    go_ret;exact⟨Yr (by rw[← hg.out,Nat.gcd_zero_left]),rfl⟩
theorem Q19 (a b:Nat) (w:World) (h1:a<18446744073709551616) (h2:b<18446744073709551616) :
  Calls Tryz.prog 193 #[.int .u64 a,.int .u64 b] w fun e w'=>e=.returned (.int .u64 (Nat.gcd a b:Int))∧Below w.heap.size w w':=by
 go_enter Tryz.func193,Tryz.ntmps193
 go_wp2
 go_loopw [0,1] (fun s t wr=>∃ x y:Nat,s=.int .u64 x∧t=.int .u64 y∧x<18446744073709551616∧y<18446744073709551616∧Hid (Nat.gcd x y=Nat.gcd a b)∧Below w.heap.size w wr) (fun _ t _=>(intOf t).toNat)
 case atStart=>exact⟨a,b,rfl,rfl,h1,h2,Q1 rfl,Below.refl _ _⟩
 case round =>
  obtain⟨x,y,rfl,rfl,b1,b2,hg,hb⟩:=hrel
  by_cases hy:0<y
  · have hm:=Nat.mod_lt x hy
    go_wp2
    go_quiet (fail)
    go_wp2
    go_roundw
    case rel=>exact⟨y,x % y,rfl,by go_num,b2,by omega,Q1 (by rw[← hg.out,Nat.gcd_comm x y,Nat.gcd_rec y x,Nat.gcd_comm]),Ag hb _⟩
    case measure=>simp[intOf];omega
  · obtain rfl:y=0:=by omega
    go_wp2
    go_ret;exact⟨Yr (by rw[← hg.out,Nat.gcd_zero_right]),hb⟩
theorem Q4g (below:Bool) (n d:Nat) (w:World) (h1:n<18446744073709551616) (h2:d<18446744073709551616) :
  Calls Tryz.prog 215 #[.bool below,.int .u64 n,.int .u64 d] w fun e w'=>e=.returned (rv (C5 below n d))∧Below w.heap.size w w':=by
 unfold C5 Ls rv
 by_cases c1:9223372036854775807<n
 · rw[if_pos (by omega)]
   go_enter Tryz.func215,Tryz.ntmps215
   go_wp2
   exact bodyPost_ret (v:=.agg #[.int .i64 0,.int .i64 0]) (by simp[results,Tryz.results215,go_sem]) rfl ⟨rfl,(Below.refl _ _).alloc (Q6 _) _⟩
 have g1:decide ((9223372036854775807:Int)<(n:Int))=false:=by simp;omega
 by_cases c2:9223372036854775807<d
 · rw[if_pos (by omega)]
   go_enter Tryz.func215,Tryz.ntmps215
   go_wp2
   exact bodyPost_ret (v:=.agg #[.int .i64 0,.int .i64 0]) (by simp[results,Tryz.results215,go_sem]) rfl ⟨rfl,(Below.refl _ _).alloc (Q6 _) _⟩
 have g2:decide ((9223372036854775807:Int)<(d:Int))=false:=by simp;omega
 by_cases c3:d=0
 · subst c3;rw[if_pos (by omega)]
   go_enter Tryz.func215,Tryz.ntmps215
   go_wp2
   exact bodyPost_ret (v:=.agg #[.int .i64 0,.int .i64 0]) (by simp[results,Tryz.results215,go_sem]) rfl ⟨rfl,(Below.refl _ _).alloc (Q6 _) _⟩
 have c4:0<d:=by omega
 have g3:((d:Int)==0)=false:=by simp;omega
 rw[if_neg (by omega)]
 cases below
 · go_enter Tryz.func215,Tryz.ntmps215
   go_wp2
   exact bodyPost_ret (v:=.agg #[.int .i64 n,.int .i64 d]) (by simp[results,Tryz.results215,go_sem]) rfl ⟨rfl,(Below.refl _ _).alloc (Q6 _) _⟩
 · go_enter Tryz.func215,Tryz.ntmps215
   go_wp2
   exact bodyPost_ret (v:=.agg #[.int .i64 (-(n:Int)),.int .i64 d]) (by simp[results,Tryz.results215,go_sem]) rfl ⟨rfl,(Below.refl _ _).alloc (Q6 _) _⟩
def U4 (r:Rt):Bool:=decide (1≤r.2)&&(r.1 != -9223372036854775808)&&(Nat.gcd r.1.natAbs r.2.toNat==1)
theorem K4 (r:Rt) (w:World) (h64:U2 r) :
  Calls Tryz.prog 166 #[rv r] w fun e w'=>e=.returned (.bool (U4 r))∧Below w.heap.size w w':=by
 obtain⟨n,d⟩:=r;obtain⟨b1,b2,b3,b4⟩:=h64;unfold U4 rv;simp only at *
 by_cases c1:1≤d
 · by_cases c2:n=-9223372036854775808
   · subst c2
     have g1:decide ((1:Int)≤d)=true:=by simpa using c1
     go_enter Tryz.func166,Tryz.ntmps166
     go_wp2
     refine Qx (by kernel_rfl) (by kernel_rfl) ?_
     repeat (go_big_quiet_step (fail))
     refine wpQuiet_nil ?_;rintro _ ⟨m,rfl⟩
     go_wp2
     go_ret;exact⟨by simp,Qa (Q7 _ _) m⟩
   · have g1:decide ((1:Int)≤d)=true:=by simpa using c1
     have g2:(n != -9223372036854775808)=true:=by simpa using c2
     have HF:=Q1 (show (decide (1≤d)&&n != -9223372036854775808&&Nat.gcd n.natAbs d.toNat==1)=(((Nat.gcd n.natAbs d.toNat:Nat):Int)==1) from by
      rw[g1,g2,Bool.true_and,Bool.true_and,Qt];simp;omega)
     have e2:((d.toNat:Nat):Int)=d:=by omega
     clear c2
     go_enter Tryz.func166,Tryz.ntmps166
     go_wp2
     refine Qx (by kernel_rfl) (by kernel_rfl) ?_
     repeat (go_big_quiet_step ((first | (go_at_call 175;exact Zv (Xp n _ b1 b2)) | (go_at_call 195;exact Zv (e2 ▸ Pi n.natAbs d.toNat _ (by omega) (by omega))))))
     refine wpQuiet_nil ?_;rintro _ ⟨m,rfl⟩
     go_wp2
     go_ret;exact⟨by rw[HF.out];rfl,Qa (Q7 _ _) m⟩
 · have g1:decide ((1:Int)≤d)=false:=by simpa using c1
   go_enter Tryz.func166,Tryz.ntmps166
   go_wp2
   refine Qx (by kernel_rfl) (by kernel_rfl) ?_
   repeat (go_big_quiet_step (fail))
   refine wpQuiet_nil ?_;rintro _ ⟨m,rfl⟩
   go_wp2
   go_ret;exact⟨by rw[g1];rfl,Qa (Q7 _ _) m⟩
def Q4b (a b:Int):Bool:=decide (a<0) != decide (b<0)
abbrev wv (hi lo:Nat):Value:=.agg #[.int .u64 hi,.int .u64 lo]
def wn (hi lo:Nat):Nat:=hi*18446744073709551616+lo
end Go.Proofs.YtnanffmhbjdpaaaGreatDoor
