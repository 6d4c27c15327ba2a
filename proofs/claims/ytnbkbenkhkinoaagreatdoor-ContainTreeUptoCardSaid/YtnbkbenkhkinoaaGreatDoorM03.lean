/- Of my texts: RatA, RatB, WideA. -/
import Derived.Test.YtnbkbenkhkinoaaGreatDoorM01
import Derived.Test.YtnbkbenkhkinoaaGreatDoorM02
import Derived.Test.YtnbkbenkhkinoaaGreatDoorProg
namespace Go.Proofs.YtnbkbenkhkinoaaGreatDoor
set_option linter.unusedVariables false
set_option linter.unusedSimpArgs false
open Go.RowKit
theorem ret_int {k:IntKind} {a b:Int} (h:a=b):Ending.returned (.int k a)=.returned (.int k b):=by rw[h]
theorem ret_bool {a b:Bool} (h:a=b):Ending.returned (.bool a)=.returned (.bool b):=by rw[h]
abbrev rv (r:Rt):Value:=.agg #[.int .i64 r.1,.int .i64 r.2]
set_option maxHeartbeats 400000 in
theorem size_any (x:Int) (w:World) (h1:-9223372036854775808≤x) (h2:x≤9223372036854775807) :
  Calls Tryz.prog 159 #[.int .i64 x] w fun e w'=>e=.returned (.int .u64 (x.natAbs:Int))∧w=w':=by
 by_cases h:x<0
 · go_enter Tryz.func159,Tryz.ntmps159
   go_wp2
   go_ret;exact⟨ret_int (by rw[IntKind.wrap_u64,IntKind.wrap_u64];omega),rfl⟩
 · go_enter Tryz.func159,Tryz.ntmps159
   go_wp2
   go_ret;exact⟨ret_int (by omega),rfl⟩
set_option maxHeartbeats 400000 in
theorem gcd_any (a b:Nat) (w:World) (h1:a<18446744073709551616) (h2:b<18446744073709551616) :
  Calls Tryz.prog 158 #[.int .u64 a,.int .u64 b] w fun e w'=>e=.returned (.int .u64 (Nat.gcd a b:Int))∧w=w':=by
 go_enter Tryz.func158,Tryz.ntmps158
 go_wp2
 go_loop [0,1] (fun s t=>∃ x y:Nat,s=.int .u64 x∧t=.int .u64 y∧x<18446744073709551616∧y<18446744073709551616∧Hid (Nat.gcd x y=Nat.gcd a b)) (fun s _=>(intOf s).toNat)
 case atStart=>exact⟨a,b,rfl,rfl,h1,h2,Lib.hid rfl⟩
 case round =>
  obtain⟨x,y,rfl,rfl,b1,b2,hg⟩:=hrel
  by_cases hx:0<x
  · have hm:=Nat.mod_lt y hx
    go_wp2
    go_round
    case rel=>exact⟨y % x,x,by go_num,rfl,by omega,b1,Lib.hid (by rw[← hg.out,Nat.gcd_rec x y])⟩
    case measure=>simp[intOf];omega
  · obtain rfl:x=0:=by omega
    go_wp2
    go_ret;exact⟨ret_int (by rw[← hg.out,Nat.gcd_zero_left]),rfl⟩
def sureB (r:Rt):Bool:=decide (1≤r.2)&&(r.1 != -9223372036854775808)&&(Nat.gcd r.1.natAbs r.2.toNat==1)
set_option maxHeartbeats 1000000 in
theorem sure_any (r:Rt) (w:World) (h64:Is64 r) :
  Calls Tryz.prog 111 #[rv r] w fun e w'=>e=.returned (.bool (sureB r))∧Below w.heap.size w w':=by
 obtain⟨n,d⟩:=r;obtain⟨b1,b2,b3,b4⟩:=h64;unfold sureB rv;simp only at *
 by_cases c1:1≤d
 · by_cases c2:n=-9223372036854775808
   · subst c2
     have g1:decide ((1:Int)≤d)=true:=by simpa using c1
     go_enter Tryz.func111,Tryz.ntmps111
     go_wp2
     refine wp_region_grow (by kernel_rfl) (by kernel_rfl) ?_
     repeat (go_big_quiet_step (fail))
     refine wpQuiet_nil ?_;rintro _ ⟨m,rfl⟩
     go_wp2
     go_ret;exact⟨by simp,below_grow (below_box _ _) m⟩
   · have g1:decide ((1:Int)≤d)=true:=by simpa using c1
     have g2:(n != -9223372036854775808)=true:=by simpa using c2
     have HF:=Lib.hid (show (decide (1≤d)&&n != -9223372036854775808&&Nat.gcd n.natAbs d.toNat==1)=(((Nat.gcd n.natAbs d.toNat:Nat):Int)==1) from by
      rw[g1,g2,Bool.true_and,Bool.true_and,Bool.eq_iff_iff];simp;omega)
     have e2:((d.toNat:Nat):Int)=d:=by omega
     clear c2
     go_enter Tryz.func111,Tryz.ntmps111
     go_wp2
     refine wp_region_grow (by kernel_rfl) (by kernel_rfl) ?_
     repeat (go_big_quiet_step ((first | (go_at_call 159;exact calls_grow_same (size_any n _ b1 b2)) | (go_at_call 158;exact calls_grow_same (e2 ▸ gcd_any n.natAbs d.toNat _ (by omega) (by omega))))))
     refine wpQuiet_nil ?_;rintro _ ⟨m,rfl⟩
     go_wp2
     go_ret;exact⟨by rw[HF.out];rfl,below_grow (below_box _ _) m⟩
 · have g1:decide ((1:Int)≤d)=false:=by simpa using c1
   go_enter Tryz.func111,Tryz.ntmps111
   go_wp2
   refine wp_region_grow (by kernel_rfl) (by kernel_rfl) ?_
   repeat (go_big_quiet_step (fail))
   refine wpQuiet_nil ?_;rintro _ ⟨m,rfl⟩
   go_wp2
   go_ret;exact⟨by rw[g1];rfl,below_grow (below_box _ _) m⟩
abbrev wv (hi lo:Nat):Value:=.agg #[.int .u64 hi,.int .u64 lo]
def wn (hi lo:Nat):Nat:=hi*18446744073709551616+lo
end Go.Proofs.YtnbkbenkhkinoaaGreatDoor
