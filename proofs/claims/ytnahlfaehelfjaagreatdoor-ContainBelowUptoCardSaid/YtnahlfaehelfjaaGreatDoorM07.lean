/- Of my texts: TokA. -/
import Derived.Test.YtnahlfaehelfjaaGreatDoorM05
import Derived.Test.YtnahlfaehelfjaaGreatDoorM06
namespace Go.Proofs.YtnahlfaehelfjaaGreatDoor
set_option linter.unusedVariables false
set_option linter.unusedSimpArgs false
open Go.RowKit
def I32 (x:Int):Prop:=-2147483648≤x∧x≤2147483647
set_option maxHeartbeats 1000000 in
theorem isC_any (x:Int) (w:World) :
  Calls Tryz.prog 99 #[.int .i32 x] w fun e w'=>e=.returned (.bool (isC x))∧w'=w:=by
 have ways:x≤-1∨(0≤x∧x≤55295)∨(55296≤x∧x≤57343)∨(57344≤x∧x≤1114111)∨1114112≤x:=by omega
 rcases ways with h|h|h|h|h
 · -- None..-1
   have g0:(decide ((0:Int)≤x))=false:=by simp;omega
   have g1:(decide (x≤(1114111:Int)))=true:=by simp;omega
   have g2:(decide (x<(55296:Int)))=true:=by simp;omega
   have g3:(decide ((57343:Int)<x))=false:=by simp;omega
   go_enter Tryz.func99,Tryz.ntmps99
   go_wp2_with fail;go_ret;exact⟨ret_bool (by unfold isC;first | (simp;done) | (simp;omega) | (simp only[Bool.eq_iff_iff,Bool.or_eq_true,Bool.and_eq_true,decide_eq_true_eq,beq_iff_eq,Bool.false_eq_true,true_iff,false_iff];omega)),rfl⟩
 · -- 0..55295
   have g0:(decide ((0:Int)≤x))=true:=by simp;omega
   have g1:(decide (x≤(1114111:Int)))=true:=by simp;omega
   have g2:(decide (x<(55296:Int)))=true:=by simp;omega
   have g3:(decide ((57343:Int)<x))=false:=by simp;omega
   go_enter Tryz.func99,Tryz.ntmps99
   go_wp2_with fail;go_ret;exact⟨ret_bool (by unfold isC;first | (simp;done) | (simp;omega) | (simp only[Bool.eq_iff_iff,Bool.or_eq_true,Bool.and_eq_true,decide_eq_true_eq,beq_iff_eq,Bool.false_eq_true,true_iff,false_iff];omega)),rfl⟩
 · -- 55296..57343
   have g0:(decide ((0:Int)≤x))=true:=by simp;omega
   have g1:(decide (x≤(1114111:Int)))=true:=by simp;omega
   have g2:(decide (x<(55296:Int)))=false:=by simp;omega
   have g3:(decide ((57343:Int)<x))=false:=by simp;omega
   go_enter Tryz.func99,Tryz.ntmps99
   go_wp2_with fail;go_ret;exact⟨ret_bool (by unfold isC;first | (simp;done) | (simp;omega) | (simp only[Bool.eq_iff_iff,Bool.or_eq_true,Bool.and_eq_true,decide_eq_true_eq,beq_iff_eq,Bool.false_eq_true,true_iff,false_iff];omega)),rfl⟩
 · -- 57344..1114111
   have g0:(decide ((0:Int)≤x))=true:=by simp;omega
   have g1:(decide (x≤(1114111:Int)))=true:=by simp;omega
   have g2:(decide (x<(55296:Int)))=false:=by simp;omega
   have g3:(decide ((57343:Int)<x))=true:=by simp;omega
   go_enter Tryz.func99,Tryz.ntmps99
   go_wp2_with fail;go_ret;exact⟨ret_bool (by unfold isC;first | (simp;done) | (simp;omega) | (simp only[Bool.eq_iff_iff,Bool.or_eq_true,Bool.and_eq_true,decide_eq_true_eq,beq_iff_eq,Bool.false_eq_true,true_iff,false_iff];omega)),rfl⟩
 · -- 1114112..None
   have g0:(decide ((0:Int)≤x))=true:=by simp;omega
   have g1:(decide (x≤(1114111:Int)))=false:=by simp;omega
   have g2:(decide (x<(55296:Int)))=false:=by simp;omega
   have g3:(decide ((57343:Int)<x))=true:=by simp;omega
   go_enter Tryz.func99,Tryz.ntmps99
   go_wp2_with fail;go_ret;exact⟨ret_bool (by unfold isC;first | (simp;done) | (simp;omega) | (simp only[Bool.eq_iff_iff,Bool.or_eq_true,Bool.and_eq_true,decide_eq_true_eq,beq_iff_eq,Bool.false_eq_true,true_iff,false_iff];omega)),rfl⟩
set_option maxHeartbeats 1000000 in
theorem digit3_any (x:Int) (w:World) :
  Calls Tryz.prog 142 #[.int .i32 x] w fun e w'=>e=.returned (.bool (digitI x))∧w'=w:=by
 have ways:x≤47∨(48≤x∧x≤57)∨58≤x:=by omega
 rcases ways with h|h|h
 · -- None..47
   have g0:(decide ((48:Int)≤x))=false:=by simp;omega
   have g1:(decide (x≤(57:Int)))=true:=by simp;omega
   go_enter Tryz.func142,Tryz.ntmps142
   go_wp2_with fail;go_ret;exact⟨ret_bool (by unfold digitI;first | (simp;done) | (simp;omega) | (simp only[Bool.eq_iff_iff,Bool.or_eq_true,Bool.and_eq_true,decide_eq_true_eq,beq_iff_eq,Bool.false_eq_true,true_iff,false_iff];omega)),rfl⟩
 · -- 48..57
   have g0:(decide ((48:Int)≤x))=true:=by simp;omega
   have g1:(decide (x≤(57:Int)))=true:=by simp;omega
   go_enter Tryz.func142,Tryz.ntmps142
   go_wp2_with fail;go_ret;exact⟨ret_bool (by unfold digitI;first | (simp;done) | (simp;omega) | (simp only[Bool.eq_iff_iff,Bool.or_eq_true,Bool.and_eq_true,decide_eq_true_eq,beq_iff_eq,Bool.false_eq_true,true_iff,false_iff];omega)),rfl⟩
 · -- 58..None
   have g0:(decide ((48:Int)≤x))=true:=by simp;omega
   have g1:(decide (x≤(57:Int)))=false:=by simp;omega
   go_enter Tryz.func142,Tryz.ntmps142
   go_wp2_with fail;go_ret;exact⟨ret_bool (by unfold digitI;first | (simp;done) | (simp;omega) | (simp only[Bool.eq_iff_iff,Bool.or_eq_true,Bool.and_eq_true,decide_eq_true_eq,beq_iff_eq,Bool.false_eq_true,true_iff,false_iff];omega)),rfl⟩
set_option maxHeartbeats 1000000 in
theorem firstC_any (x:Int) (w:World) :
  Calls Tryz.prog 141 #[.int .i32 x] w fun e w'=>e=.returned (.bool (firstI x))∧w'=w:=by
 have ways:x≤64∨(65≤x∧x≤90)∨(91≤x∧x≤94)∨x=95∨x=96∨(97≤x∧x≤122)∨(123≤x∧x≤127)∨128≤x:=by omega
 rcases ways with h|h|h|rfl|rfl|h|h|h
 · -- None..64
   have g0:(decide ((97:Int)≤x))=false:=by simp;omega
   have g1:(decide (x≤(122:Int)))=true:=by simp;omega
   have g2:(decide ((65:Int)≤x))=false:=by simp;omega
   have g3:(decide (x≤(90:Int)))=true:=by simp;omega
   have g4:((x==95))=false:=by simp;omega
   have g5:(decide ((128:Int)≤x))=false:=by simp;omega
   go_enter Tryz.func141,Tryz.ntmps141
   go_wp2_with fail;go_ret;exact⟨ret_bool (by unfold firstI;first | (simp;done) | (simp;omega) | (simp only[Bool.eq_iff_iff,Bool.or_eq_true,Bool.and_eq_true,decide_eq_true_eq,beq_iff_eq,Bool.false_eq_true,true_iff,false_iff];omega)),rfl⟩
 · -- 65..90
   have g0:(decide ((97:Int)≤x))=false:=by simp;omega
   have g1:(decide (x≤(122:Int)))=true:=by simp;omega
   have g2:(decide ((65:Int)≤x))=true:=by simp;omega
   have g3:(decide (x≤(90:Int)))=true:=by simp;omega
   have g4:((x==95))=false:=by simp;omega
   have g5:(decide ((128:Int)≤x))=false:=by simp;omega
   go_enter Tryz.func141,Tryz.ntmps141
   go_wp2_with fail;go_ret;exact⟨ret_bool (by unfold firstI;first | (simp;done) | (simp;omega) | (simp only[Bool.eq_iff_iff,Bool.or_eq_true,Bool.and_eq_true,decide_eq_true_eq,beq_iff_eq,Bool.false_eq_true,true_iff,false_iff];omega)),rfl⟩
 · -- 91..94
   have g0:(decide ((97:Int)≤x))=false:=by simp;omega
   have g1:(decide (x≤(122:Int)))=true:=by simp;omega
   have g2:(decide ((65:Int)≤x))=true:=by simp;omega
   have g3:(decide (x≤(90:Int)))=false:=by simp;omega
   have g4:((x==95))=false:=by simp;omega
   have g5:(decide ((128:Int)≤x))=false:=by simp;omega
   go_enter Tryz.func141,Tryz.ntmps141
   go_wp2_with fail;go_ret;exact⟨ret_bool (by unfold firstI;first | (simp;done) | (simp;omega) | (simp only[Bool.eq_iff_iff,Bool.or_eq_true,Bool.and_eq_true,decide_eq_true_eq,beq_iff_eq,Bool.false_eq_true,true_iff,false_iff];omega)),rfl⟩
 · -- 95..95
   go_enter Tryz.func141,Tryz.ntmps141
   go_wp2_with fail;go_ret;exact⟨ret_bool (by unfold firstI;first | (simp;done) | (simp;omega) | (simp only[Bool.eq_iff_iff,Bool.or_eq_true,Bool.and_eq_true,decide_eq_true_eq,beq_iff_eq,Bool.false_eq_true,true_iff,false_iff];omega)),rfl⟩
 · -- 96..96
   go_enter Tryz.func141,Tryz.ntmps141
   go_wp2_with fail;go_ret;exact⟨ret_bool (by unfold firstI;first | (simp;done) | (simp;omega) | (simp only[Bool.eq_iff_iff,Bool.or_eq_true,Bool.and_eq_true,decide_eq_true_eq,beq_iff_eq,Bool.false_eq_true,true_iff,false_iff];omega)),rfl⟩
 · -- 97..122
   have g0:(decide ((97:Int)≤x))=true:=by simp;omega
   have g1:(decide (x≤(122:Int)))=true:=by simp;omega
   have g2:(decide ((65:Int)≤x))=true:=by simp;omega
   have g3:(decide (x≤(90:Int)))=false:=by simp;omega
   have g4:((x==95))=false:=by simp;omega
   have g5:(decide ((128:Int)≤x))=false:=by simp;omega
   go_enter Tryz.func141,Tryz.ntmps141
   go_wp2_with fail;go_ret;exact⟨ret_bool (by unfold firstI;first | (simp;done) | (simp;omega) | (simp only[Bool.eq_iff_iff,Bool.or_eq_true,Bool.and_eq_true,decide_eq_true_eq,beq_iff_eq,Bool.false_eq_true,true_iff,false_iff];omega)),rfl⟩
 · -- 123..127
   have g0:(decide ((97:Int)≤x))=true:=by simp;omega
   have g1:(decide (x≤(122:Int)))=false:=by simp;omega
   have g2:(decide ((65:Int)≤x))=true:=by simp;omega
   have g3:(decide (x≤(90:Int)))=false:=by simp;omega
   have g4:((x==95))=false:=by simp;omega
   have g5:(decide ((128:Int)≤x))=false:=by simp;omega
   go_enter Tryz.func141,Tryz.ntmps141
   go_wp2_with fail;go_ret;exact⟨ret_bool (by unfold firstI;first | (simp;done) | (simp;omega) | (simp only[Bool.eq_iff_iff,Bool.or_eq_true,Bool.and_eq_true,decide_eq_true_eq,beq_iff_eq,Bool.false_eq_true,true_iff,false_iff];omega)),rfl⟩
 · -- 128..None
   have g0:(decide ((97:Int)≤x))=true:=by simp;omega
   have g1:(decide (x≤(122:Int)))=false:=by simp;omega
   have g2:(decide ((65:Int)≤x))=true:=by simp;omega
   have g3:(decide (x≤(90:Int)))=false:=by simp;omega
   have g4:((x==95))=false:=by simp;omega
   have g5:(decide ((128:Int)≤x))=true:=by simp;omega
   go_enter Tryz.func141,Tryz.ntmps141
   go_wp2_with fail;go_ret;exact⟨ret_bool (by unfold firstI;first | (simp;done) | (simp;omega) | (simp only[Bool.eq_iff_iff,Bool.or_eq_true,Bool.and_eq_true,decide_eq_true_eq,beq_iff_eq,Bool.false_eq_true,true_iff,false_iff];omega)),rfl⟩
set_option maxHeartbeats 1000000 in
theorem blank_any (x:Int) (w:World) :
  Calls Tryz.prog 100 #[.int .i32 x] w fun e w'=>e=.returned (.bool (blankI x))∧w'=w:=by
 have ways:x≤8∨x=9∨x=10∨(11≤x∧x≤31)∨x=32∨33≤x:=by omega
 rcases ways with h|rfl|rfl|h|rfl|h
 · -- None..8
   have g0:((x==10))=false:=by simp;omega
   have g1:((x==9))=false:=by simp;omega
   have g2:((x==32))=false:=by simp;omega
   go_enter Tryz.func100,Tryz.ntmps100
   go_wp2_with fail;go_ret;exact⟨ret_bool (by unfold blankI;first | (simp;done) | (simp;omega) | (simp only[Bool.eq_iff_iff,Bool.or_eq_true,Bool.and_eq_true,decide_eq_true_eq,beq_iff_eq,Bool.false_eq_true,true_iff,false_iff];omega)),rfl⟩
 · -- 9..9
   go_enter Tryz.func100,Tryz.ntmps100
   go_wp2_with fail;go_ret;exact⟨ret_bool (by unfold blankI;first | (simp;done) | (simp;omega) | (simp only[Bool.eq_iff_iff,Bool.or_eq_true,Bool.and_eq_true,decide_eq_true_eq,beq_iff_eq,Bool.false_eq_true,true_iff,false_iff];omega)),rfl⟩
 · -- 10..10
   go_enter Tryz.func100,Tryz.ntmps100
   go_wp2_with fail;go_ret;exact⟨ret_bool (by unfold blankI;first | (simp;done) | (simp;omega) | (simp only[Bool.eq_iff_iff,Bool.or_eq_true,Bool.and_eq_true,decide_eq_true_eq,beq_iff_eq,Bool.false_eq_true,true_iff,false_iff];omega)),rfl⟩
 · -- 11..31
   have g0:((x==10))=false:=by simp;omega
   have g1:((x==9))=false:=by simp;omega
   have g2:((x==32))=false:=by simp;omega
   go_enter Tryz.func100,Tryz.ntmps100
   go_wp2_with fail;go_ret;exact⟨ret_bool (by unfold blankI;first | (simp;done) | (simp;omega) | (simp only[Bool.eq_iff_iff,Bool.or_eq_true,Bool.and_eq_true,decide_eq_true_eq,beq_iff_eq,Bool.false_eq_true,true_iff,false_iff];omega)),rfl⟩
 · -- 32..32
   go_enter Tryz.func100,Tryz.ntmps100
   go_wp2_with fail;go_ret;exact⟨ret_bool (by unfold blankI;first | (simp;done) | (simp;omega) | (simp only[Bool.eq_iff_iff,Bool.or_eq_true,Bool.and_eq_true,decide_eq_true_eq,beq_iff_eq,Bool.false_eq_true,true_iff,false_iff];omega)),rfl⟩
 · -- 33..None
   have g0:((x==10))=false:=by simp;omega
   have g1:((x==9))=false:=by simp;omega
   have g2:((x==32))=false:=by simp;omega
   go_enter Tryz.func100,Tryz.ntmps100
   go_wp2_with fail;go_ret;exact⟨ret_bool (by unfold blankI;first | (simp;done) | (simp;omega) | (simp only[Bool.eq_iff_iff,Bool.or_eq_true,Bool.and_eq_true,decide_eq_true_eq,beq_iff_eq,Bool.false_eq_true,true_iff,false_iff];omega)),rfl⟩
set_option maxHeartbeats 1000000 in
theorem hidden_any (x:Int) (w:World) :
  Calls Tryz.prog 171 #[.int .i32 x] w fun e w'=>e=.returned (.bool (hiddenI x))∧w'=w:=by
 have ways:x≤-1∨(0≤x∧x≤8)∨(9≤x∧x≤10)∨x=11∨(12≤x∧x≤13)∨(14≤x∧x≤31)∨(32≤x∧x≤126)∨x=127∨128≤x:=by omega
 rcases ways with h|h|h|rfl|h|h|h|rfl|h
 · -- None..-1
   have g0:(decide ((0:Int)≤x))=false:=by simp;omega
   have g1:(decide (x≤(8:Int)))=true:=by simp;omega
   have g2:((x==11))=false:=by simp;omega
   have g3:(decide ((14:Int)≤x))=false:=by simp;omega
   have g4:(decide (x≤(31:Int)))=true:=by simp;omega
   have g5:((x==127))=false:=by simp;omega
   go_enter Tryz.func171,Tryz.ntmps171
   go_wp2_with fail;go_ret;exact⟨ret_bool (by unfold hiddenI;first | (simp;done) | (simp;omega) | (simp only[Bool.eq_iff_iff,Bool.or_eq_true,Bool.and_eq_true,decide_eq_true_eq,beq_iff_eq,Bool.false_eq_true,true_iff,false_iff];omega)),rfl⟩
 · -- 0..8
   have g0:(decide ((0:Int)≤x))=true:=by simp;omega
   have g1:(decide (x≤(8:Int)))=true:=by simp;omega
   have g2:((x==11))=false:=by simp;omega
   have g3:(decide ((14:Int)≤x))=false:=by simp;omega
   have g4:(decide (x≤(31:Int)))=true:=by simp;omega
   have g5:((x==127))=false:=by simp;omega
   go_enter Tryz.func171,Tryz.ntmps171
   go_wp2_with fail;go_ret;exact⟨ret_bool (by unfold hiddenI;first | (simp;done) | (simp;omega) | (simp only[Bool.eq_iff_iff,Bool.or_eq_true,Bool.and_eq_true,decide_eq_true_eq,beq_iff_eq,Bool.false_eq_true,true_iff,false_iff];omega)),rfl⟩
 · -- 9..10
   have g0:(decide ((0:Int)≤x))=true:=by simp;omega
   have g1:(decide (x≤(8:Int)))=false:=by simp;omega
   have g2:((x==11))=false:=by simp;omega
   have g3:(decide ((14:Int)≤x))=false:=by simp;omega
   have g4:(decide (x≤(31:Int)))=true:=by simp;omega
   have g5:((x==127))=false:=by simp;omega
   go_enter Tryz.func171,Tryz.ntmps171
   go_wp2_with fail;go_ret;exact⟨ret_bool (by unfold hiddenI;first | (simp;done) | (simp;omega) | (simp only[Bool.eq_iff_iff,Bool.or_eq_true,Bool.and_eq_true,decide_eq_true_eq,beq_iff_eq,Bool.false_eq_true,true_iff,false_iff];omega)),rfl⟩
 · -- 11..11
   go_enter Tryz.func171,Tryz.ntmps171
   go_wp2_with fail;go_ret;exact⟨ret_bool (by unfold hiddenI;first | (simp;done) | (simp;omega) | (simp only[Bool.eq_iff_iff,Bool.or_eq_true,Bool.and_eq_true,decide_eq_true_eq,beq_iff_eq,Bool.false_eq_true,true_iff,false_iff];omega)),rfl⟩
 · -- 12..13
   have g0:(decide ((0:Int)≤x))=true:=by simp;omega
   have g1:(decide (x≤(8:Int)))=false:=by simp;omega
   have g2:((x==11))=false:=by simp;omega
   have g3:(decide ((14:Int)≤x))=false:=by simp;omega
   have g4:(decide (x≤(31:Int)))=true:=by simp;omega
   have g5:((x==127))=false:=by simp;omega
   go_enter Tryz.func171,Tryz.ntmps171
   go_wp2_with fail;go_ret;exact⟨ret_bool (by unfold hiddenI;first | (simp;done) | (simp;omega) | (simp only[Bool.eq_iff_iff,Bool.or_eq_true,Bool.and_eq_true,decide_eq_true_eq,beq_iff_eq,Bool.false_eq_true,true_iff,false_iff];omega)),rfl⟩
 · -- 14..31
   have g0:(decide ((0:Int)≤x))=true:=by simp;omega
   have g1:(decide (x≤(8:Int)))=false:=by simp;omega
   have g2:((x==11))=false:=by simp;omega
   have g3:(decide ((14:Int)≤x))=true:=by simp;omega
   have g4:(decide (x≤(31:Int)))=true:=by simp;omega
   have g5:((x==127))=false:=by simp;omega
   go_enter Tryz.func171,Tryz.ntmps171
   go_wp2_with fail;go_ret;exact⟨ret_bool (by unfold hiddenI;first | (simp;done) | (simp;omega) | (simp only[Bool.eq_iff_iff,Bool.or_eq_true,Bool.and_eq_true,decide_eq_true_eq,beq_iff_eq,Bool.false_eq_true,true_iff,false_iff];omega)),rfl⟩
 · -- 32..126
   have g0:(decide ((0:Int)≤x))=true:=by simp;omega
   have g1:(decide (x≤(8:Int)))=false:=by simp;omega
   have g2:((x==11))=false:=by simp;omega
   have g3:(decide ((14:Int)≤x))=true:=by simp;omega
   have g4:(decide (x≤(31:Int)))=false:=by simp;omega
   have g5:((x==127))=false:=by simp;omega
   go_enter Tryz.func171,Tryz.ntmps171
   go_wp2_with fail;go_ret;exact⟨ret_bool (by unfold hiddenI;first | (simp;done) | (simp;omega) | (simp only[Bool.eq_iff_iff,Bool.or_eq_true,Bool.and_eq_true,decide_eq_true_eq,beq_iff_eq,Bool.false_eq_true,true_iff,false_iff];omega)),rfl⟩
 · -- 127..127
   go_enter Tryz.func171,Tryz.ntmps171
   go_wp2_with fail;go_ret;exact⟨ret_bool (by unfold hiddenI;first | (simp;done) | (simp;omega) | (simp only[Bool.eq_iff_iff,Bool.or_eq_true,Bool.and_eq_true,decide_eq_true_eq,beq_iff_eq,Bool.false_eq_true,true_iff,false_iff];omega)),rfl⟩
 · -- 128..None
   have g0:(decide ((0:Int)≤x))=true:=by simp;omega
   have g1:(decide (x≤(8:Int)))=false:=by simp;omega
   have g2:((x==11))=false:=by simp;omega
   have g3:(decide ((14:Int)≤x))=true:=by simp;omega
   have g4:(decide (x≤(31:Int)))=false:=by simp;omega
   have g5:((x==127))=false:=by simp;omega
   go_enter Tryz.func171,Tryz.ntmps171
   go_wp2_with fail;go_ret;exact⟨ret_bool (by unfold hiddenI;first | (simp;done) | (simp;omega) | (simp only[Bool.eq_iff_iff,Bool.or_eq_true,Bool.and_eq_true,decide_eq_true_eq,beq_iff_eq,Bool.false_eq_true,true_iff,false_iff];omega)),rfl⟩
set_option maxHeartbeats 1000000 in
theorem letter3_any (x:Int) (w:World) :
  Calls Tryz.prog 103 #[.int .i32 x] w fun e w'=>e=.returned (.bool (letterI x))∧w'=w:=by
 have h1:=fun w=>firstC_any x w
 have h2:=fun w=>digit3_any x w
 unfold letterI;obtain⟨p,hp⟩:∃ p,firstI x=p:=⟨_,rfl⟩;obtain⟨q,hq⟩:∃ q,digitI x=q:=⟨_,rfl⟩;obtain⟨r,hr⟩:∃ r,(x==45)=r:=⟨_,rfl⟩;rw[hp]at h1;rw[hq]at h2;rw[hp,hq,hr];have H1:=Lib.hid h1;have H2:=Lib.hid h2;clear h1 h2 hp hq
 cases p
 · cases q
   · go_enter Tryz.func103,Tryz.ntmps103
     go_wp2_with fail
     ((with_reducible refine(H1.out _).mono ?_);rintro e w' ⟨rfl,rfl⟩)
     go_wp2_with fail
     ((with_reducible refine(H2.out _).mono ?_);rintro e w' ⟨rfl,rfl⟩)
     go_wp2_with fail;go_ret;exact⟨rfl,rfl⟩
   · go_enter Tryz.func103,Tryz.ntmps103
     go_wp2_with fail
     ((with_reducible refine(H1.out _).mono ?_);rintro e w' ⟨rfl,rfl⟩)
     go_wp2_with fail
     ((with_reducible refine(H2.out _).mono ?_);rintro e w' ⟨rfl,rfl⟩)
     go_wp2_with fail;go_ret;exact⟨rfl,rfl⟩
 · go_enter Tryz.func103,Tryz.ntmps103
   go_wp2_with fail
   ((with_reducible refine(H1.out _).mono ?_);rintro e w' ⟨rfl,rfl⟩)
   go_wp2_with fail;go_ret;exact⟨rfl,rfl⟩
set_option maxHeartbeats 1000000 in
theorem esc_any (a b:Int) (w:World) :
  Calls Tryz.prog 104 #[.int .i32 a,.int .i32 b] w fun e w'=>e=.returned (.bool (escI a b))∧w'=w:=by
 unfold escI;obtain⟨p,hp⟩:∃ p,(a==92)=p:=⟨_,rfl⟩;obtain⟨q,hq⟩:∃ q,(b != 10)=q:=⟨_,rfl⟩;rw[hp,hq]
 cases p
 all_goals
  go_enter Tryz.func104,Tryz.ntmps104
  go_wp2_with fail;go_ret;exact⟨rfl,rfl⟩
set_option maxHeartbeats 1000000 in
theorem begins_any (a b c:Int) (w:World) :
  Calls Tryz.prog 105 #[.int .i32 a,.int .i32 b,.int .i32 c] w fun e w'=>e=.returned (.bool (beginsI a b c))∧w'=w:=by
 by_cases ha:a=45
 · subst ha
   have h1:=fun w=>firstC_any b w
   have h2:=fun w=>esc_any b c w
   unfold beginsI;rw[if_pos rfl];obtain⟨p,hp⟩:∃ p,firstI b=p:=⟨_,rfl⟩;obtain⟨q,hq⟩:∃ q,escI b c=q:=⟨_,rfl⟩;obtain⟨r,hr⟩:∃ r,(b==45)=r:=⟨_,rfl⟩;rw[hp]at h1;rw[hq]at h2;rw[hp,hq,hr];have H1:=Lib.hid h1;have H2:=Lib.hid h2;clear h1 h2 hp hq
   cases p
   · cases r
     · go_enter Tryz.func105,Tryz.ntmps105
       go_wp2_with fail
       ((with_reducible refine(H1.out _).mono ?_);rintro e w' ⟨rfl,rfl⟩)
       go_wp2_with fail
       ((with_reducible refine(H2.out _).mono ?_);rintro e w' ⟨rfl,rfl⟩)
       go_wp2_with fail;go_ret;exact⟨rfl,rfl⟩
     · go_enter Tryz.func105,Tryz.ntmps105
       go_wp2_with fail
       ((with_reducible refine(H1.out _).mono ?_);rintro e w' ⟨rfl,rfl⟩)
       go_wp2_with fail;go_ret;exact⟨rfl,rfl⟩
   · go_enter Tryz.func105,Tryz.ntmps105
     go_wp2_with fail
     ((with_reducible refine(H1.out _).mono ?_);rintro e w' ⟨rfl,rfl⟩)
     go_wp2_with fail;go_ret;exact⟨rfl,rfl⟩
 · have h1:=fun w=>firstC_any a w
   have h2:=fun w=>esc_any a b w
   have ga:(a==45)=false:=by simpa using ha
   unfold beginsI;rw[if_neg ha];obtain⟨p,hp⟩:∃ p,firstI a=p:=⟨_,rfl⟩;obtain⟨q,hq⟩:∃ q,escI a b=q:=⟨_,rfl⟩;rw[hp]at h1;rw[hq]at h2;rw[hp,hq];have H1:=Lib.hid h1;have H2:=Lib.hid h2;clear h1 h2 hp hq
   cases p
   · go_enter Tryz.func105,Tryz.ntmps105
     go_wp2_with fail
     ((with_reducible refine(H1.out _).mono ?_);rintro e w' ⟨rfl,rfl⟩)
     go_wp2_with fail
     ((with_reducible refine(H2.out _).mono ?_);rintro e w' ⟨rfl,rfl⟩)
     go_wp2_with fail;go_ret;exact⟨rfl,rfl⟩
   · go_enter Tryz.func105,Tryz.ntmps105
     go_wp2_with fail
     ((with_reducible refine(H1.out _).mono ?_);rintro e w' ⟨rfl,rfl⟩)
     go_wp2_with fail;go_ret;exact⟨rfl,rfl⟩
set_option maxHeartbeats 1000000 in
theorem number3_any (a b c:Int) (w:World) :
  Calls Tryz.prog 107 #[.int .i32 a,.int .i32 b,.int .i32 c] w fun e w'=>e=.returned (.bool (numI a b c))∧w'=w:=by
 have key:∀ (x y:Int) (S:Bool),(digitI x||(x==46&&digitI y))=S→∃ p q r,digitI x=p∧(x==46)=q∧digitI y=r∧(p||(q&&r))=S:=fun x y S h=>⟨_,_,_,rfl,rfl,rfl,h⟩
 by_cases ha:a=43∨a=45
 · unfold numI;rw[if_pos ha]
   have h1:=fun w=>digit3_any b w
   have h2:=fun w=>digit3_any c w
   obtain⟨p,hp⟩:∃ p,digitI b=p:=⟨_,rfl⟩;obtain⟨q,hq⟩:∃ q,digitI c=q:=⟨_,rfl⟩;obtain⟨r,hr⟩:∃ r,(b==46)=r:=⟨_,rfl⟩;rw[hp]at h1;rw[hq]at h2;rw[hp,hq,hr];have H1:=Lib.hid h1;have H2:=Lib.hid h2;clear h1 h2 hp hq key
   rcases ha with rfl|rfl
   all_goals
    cases p
    · cases r
      · go_enter Tryz.func107,Tryz.ntmps107
        go_wp2_with fail
        ((with_reducible refine(H1.out _).mono ?_);rintro e w' ⟨rfl,rfl⟩)
        go_wp2_with fail;go_ret;exact⟨rfl,rfl⟩
      · go_enter Tryz.func107,Tryz.ntmps107
        go_wp2_with fail
        ((with_reducible refine(H1.out _).mono ?_);rintro e w' ⟨rfl,rfl⟩)
        go_wp2_with fail
        ((with_reducible refine(H2.out _).mono ?_);rintro e w' ⟨rfl,rfl⟩)
        go_wp2_with fail;go_ret;exact⟨rfl,rfl⟩
    · go_enter Tryz.func107,Tryz.ntmps107
      go_wp2_with fail
      ((with_reducible refine(H1.out _).mono ?_);rintro e w' ⟨rfl,rfl⟩)
      go_wp2_with fail;go_ret;exact⟨rfl,rfl⟩
 · unfold numI;rw[if_neg ha]
   have g1:(a==43)=false:=by simp;omega
   have g2:(a==45)=false:=by simp;omega
   have h1:=fun w=>digit3_any a w
   have h2:=fun w=>digit3_any b w
   obtain⟨p,hp⟩:∃ p,digitI a=p:=⟨_,rfl⟩;obtain⟨q,hq⟩:∃ q,digitI b=q:=⟨_,rfl⟩;obtain⟨r,hr⟩:∃ r,(a==46)=r:=⟨_,rfl⟩;rw[hp]at h1;rw[hq]at h2;rw[hp,hq,hr];have H1:=Lib.hid h1;have H2:=Lib.hid h2;clear h1 h2 hp hq key ha
   cases p
   · cases r
     · go_enter Tryz.func107,Tryz.ntmps107
       go_wp2_with fail
       ((with_reducible refine(H1.out _).mono ?_);rintro e w' ⟨rfl,rfl⟩)
       go_wp2_with fail;go_ret;exact⟨rfl,rfl⟩
     · go_enter Tryz.func107,Tryz.ntmps107
       go_wp2_with fail
       ((with_reducible refine(H1.out _).mono ?_);rintro e w' ⟨rfl,rfl⟩)
       go_wp2_with fail
       ((with_reducible refine(H2.out _).mono ?_);rintro e w' ⟨rfl,rfl⟩)
       go_wp2_with fail;go_ret;exact⟨rfl,rfl⟩
   · go_enter Tryz.func107,Tryz.ntmps107
     go_wp2_with fail
     ((with_reducible refine(H1.out _).mono ?_);rintro e w' ⟨rfl,rfl⟩)
     go_wp2_with fail;go_ret;exact⟨rfl,rfl⟩
def hexV (x:Int):Value:=match hexI x with
 | none=>.tuple #[.int .i32 0,.bool false]
 | some n=>.tuple #[.int .i32 n,.bool true]
set_option maxHeartbeats 1000000 in
theorem hex_any (x:Int) (w:World) (hx:I32 x) :
  Calls Tryz.prog 165 #[.int .i32 x] w fun e w'=>e=.returned (hexV x)∧w'=w:=by
 have h1:=fun w=>digit3_any x w
 unfold I32 at hx
 by_cases hd:digitI x=true
 · have HV:=Lib.hid (show hexV x=.tuple #[.int .i32 (x-48),.bool true] by unfold hexV hexI;rw[if_pos hd]);rw[hd]at h1;have H1:=Lib.hid h1;clear h1;simp only[digitI,Bool.and_eq_true,decide_eq_true_eq]at hd
   go_enter Tryz.func165,Tryz.ntmps165
   go_wp2_with fail
   ((with_reducible refine(H1.out _).mono ?_);rintro e w' ⟨rfl,rfl⟩)
   go_wp2_with fail;exact bodyPost_ret (v:=.tuple #[.int .i32 (x-48),.bool true]) (by simp[results,Tryz.results165,go_sem]) rfl ⟨(by rw[HV.out]),rfl⟩
 · have hd':digitI x=false:=by simpa using hd
   rw[hd']at h1;have H1:=Lib.hid h1;clear h1
   by_cases h2:97≤x∧x≤102
   · have HV:=Lib.hid (show hexV x=.tuple #[.int .i32 (x-87),.bool true] by unfold hexV hexI;rw[if_neg hd,if_pos h2])
     have g1:decide ((97:Int)≤x)=true:=by simp;omega
     have g2:decide (x≤(102:Int))=true:=by simp;omega
     have e1:x-97+10=x-87:=by omega
     clear hd
     go_enter Tryz.func165,Tryz.ntmps165
     go_wp2_with fail
     ((with_reducible refine(H1.out _).mono ?_);rintro e w' ⟨rfl,rfl⟩)
     go_wp2_with fail;exact bodyPost_ret (v:=.tuple #[.int .i32 (x-87),.bool true]) (by simp[results,Tryz.results165,go_sem]) rfl ⟨(by rw[HV.out]),rfl⟩
   · by_cases h3:65≤x∧x≤70
     · have HV:=Lib.hid (show hexV x=.tuple #[.int .i32 (x-55),.bool true] by unfold hexV hexI;rw[if_neg hd,if_neg h2,if_pos h3])
       have g1:decide ((97:Int)≤x)=false:=by simp;omega
       have g3:decide ((65:Int)≤x)=true:=by simp;omega
       have g4:decide (x≤(70:Int))=true:=by simp;omega
       have e1:x-65+10=x-55:=by omega
       clear hd h2
       go_enter Tryz.func165,Tryz.ntmps165
       go_wp2_with fail
       ((with_reducible refine(H1.out _).mono ?_);rintro e w' ⟨rfl,rfl⟩)
       go_wp2_with fail;exact bodyPost_ret (v:=.tuple #[.int .i32 (x-55),.bool true]) (by simp[results,Tryz.results165,go_sem]) rfl ⟨(by rw[HV.out]),rfl⟩
     · have HV:=Lib.hid (show hexV x=.tuple #[.int .i32 0,.bool false] by unfold hexV hexI;rw[if_neg hd,if_neg h2,if_neg h3])
       have w1:decide ((97:Int)≤x)=false∨decide ((97:Int)≤x)=true∧decide (x≤(102:Int))=false:=by
        by_cases h:97≤x
        · exact Or.inr ⟨by simpa using h,by simp;omega⟩
        · exact Or.inl (by simpa using h)
       have w2:decide ((65:Int)≤x)=false∨decide ((65:Int)≤x)=true∧decide (x≤(70:Int))=false:=by
        by_cases h:65≤x
        · exact Or.inr ⟨by simpa using h,by simp;omega⟩
        · exact Or.inl (by simpa using h)
       clear hd h2 h3
       rcases w1 with g1 | ⟨g1,g2⟩<;>rcases w2 with g3 | ⟨g3,g4⟩
       all_goals
        go_enter Tryz.func165,Tryz.ntmps165
        go_wp2_with fail
        ((with_reducible refine(H1.out _).mono ?_);rintro e w' ⟨rfl,rfl⟩)
        go_wp2_with fail;exact bodyPost_ret (v:=.tuple #[.int .i32 0,.bool false]) (by simp[results,Tryz.results165,go_sem]) rfl ⟨(by rw[HV.out]),rfl⟩
def needV (c:Nat):Value:=.tuple #[.int .i64 (needF c).1,.int .u8 (needF c).2.1,.int .u8 (needF c).2.2]
set_option maxHeartbeats 4000000 in
theorem need_any (c:Nat) (w:World) (hc:c<256) :
  Calls Tryz.prog 148 #[.int .u8 c] w fun e w'=>e=.returned (needV c)∧w'=w:=by
 unfold needV
 have ways:(0≤(c:Int)∧(c:Int)≤193)∨(194≤(c:Int)∧(c:Int)≤223)∨c=224∨(225≤(c:Int)∧(c:Int)≤236)∨c=237∨(238≤(c:Int)∧(c:Int)≤239)∨c=240∨(241≤(c:Int)∧(c:Int)≤243)∨c=244∨(245≤(c:Int)∧(c:Int)≤255):=by omega
 rcases ways with h|h|rfl|h|rfl|h|rfl|h|rfl|h
 · -- 0..193
   have g0:(decide ((194:Int)≤(c:Int)))=false:=by simp;omega
   have g1:(decide ((c:Int)≤(223:Int)))=true:=by simp;omega
   have g2:(((c:Int)==224))=false:=by simp;omega
   have g3:(((c:Int)==237))=false:=by simp;omega
   have g4:(decide ((225:Int)≤(c:Int)))=false:=by simp;omega
   have g5:(decide ((c:Int)≤(239:Int)))=true:=by simp;omega
   have g6:(((c:Int)==240))=false:=by simp;omega
   have g7:(decide ((241:Int)≤(c:Int)))=false:=by simp;omega
   have g8:(decide ((c:Int)≤(243:Int)))=true:=by simp;omega
   have g9:(((c:Int)==244))=false:=by simp;omega
   have hv:needF c=(0,0,0):=by unfold needF;repeat (first|rw[if_pos (by omega)] | rw[if_neg (by omega)])
   have HV:=Lib.hid hv;clear hv
   go_enter Tryz.func148,Tryz.ntmps148
   go_wp2_with fail;exact bodyPost_ret (v:=.tuple #[.int .i64 0,.int .u8 0,.int .u8 0]) (by simp[results,Tryz.results148,go_sem]) rfl ⟨(by rw[HV.out];rfl),rfl⟩
 · -- 194..223
   have g0:(decide ((194:Int)≤(c:Int)))=true:=by simp;omega
   have g1:(decide ((c:Int)≤(223:Int)))=true:=by simp;omega
   have g2:(((c:Int)==224))=false:=by simp;omega
   have g3:(((c:Int)==237))=false:=by simp;omega
   have g4:(decide ((225:Int)≤(c:Int)))=false:=by simp;omega
   have g5:(decide ((c:Int)≤(239:Int)))=true:=by simp;omega
   have g6:(((c:Int)==240))=false:=by simp;omega
   have g7:(decide ((241:Int)≤(c:Int)))=false:=by simp;omega
   have g8:(decide ((c:Int)≤(243:Int)))=true:=by simp;omega
   have g9:(((c:Int)==244))=false:=by simp;omega
   have hv:needF c=(1,128,191):=by unfold needF;repeat (first|rw[if_pos (by omega)] | rw[if_neg (by omega)])
   have HV:=Lib.hid hv;clear hv
   go_enter Tryz.func148,Tryz.ntmps148
   go_wp2_with fail;exact bodyPost_ret (v:=.tuple #[.int .i64 1,.int .u8 128,.int .u8 191]) (by simp[results,Tryz.results148,go_sem]) rfl ⟨(by rw[HV.out];rfl),rfl⟩
 · -- 224..224
   have hv:needF 224=(2,160,191):=rfl;have HV:=Lib.hid hv;clear hv
   go_enter Tryz.func148,Tryz.ntmps148
   go_wp2_with fail;exact bodyPost_ret (v:=.tuple #[.int .i64 2,.int .u8 160,.int .u8 191]) (by simp[results,Tryz.results148,go_sem]) rfl ⟨(by rw[HV.out];rfl),rfl⟩
 · -- 225..236
   have g0:(decide ((194:Int)≤(c:Int)))=true:=by simp;omega
   have g1:(decide ((c:Int)≤(223:Int)))=false:=by simp;omega
   have g2:(((c:Int)==224))=false:=by simp;omega
   have g3:(((c:Int)==237))=false:=by simp;omega
   have g4:(decide ((225:Int)≤(c:Int)))=true:=by simp;omega
   have g5:(decide ((c:Int)≤(239:Int)))=true:=by simp;omega
   have g6:(((c:Int)==240))=false:=by simp;omega
   have g7:(decide ((241:Int)≤(c:Int)))=false:=by simp;omega
   have g8:(decide ((c:Int)≤(243:Int)))=true:=by simp;omega
   have g9:(((c:Int)==244))=false:=by simp;omega
   have hv:needF c=(2,128,191):=by unfold needF;repeat (first|rw[if_pos (by omega)] | rw[if_neg (by omega)])
   have HV:=Lib.hid hv;clear hv
   go_enter Tryz.func148,Tryz.ntmps148
   go_wp2_with fail;exact bodyPost_ret (v:=.tuple #[.int .i64 2,.int .u8 128,.int .u8 191]) (by simp[results,Tryz.results148,go_sem]) rfl ⟨(by rw[HV.out];rfl),rfl⟩
 · -- 237..237
   have hv:needF 237=(2,128,159):=rfl;have HV:=Lib.hid hv;clear hv
   go_enter Tryz.func148,Tryz.ntmps148
   go_wp2_with fail;exact bodyPost_ret (v:=.tuple #[.int .i64 2,.int .u8 128,.int .u8 159]) (by simp[results,Tryz.results148,go_sem]) rfl ⟨(by rw[HV.out];rfl),rfl⟩
 · -- 238..239
   have g0:(decide ((194:Int)≤(c:Int)))=true:=by simp;omega
   have g1:(decide ((c:Int)≤(223:Int)))=false:=by simp;omega
   have g2:(((c:Int)==224))=false:=by simp;omega
   have g3:(((c:Int)==237))=false:=by simp;omega
   have g4:(decide ((225:Int)≤(c:Int)))=true:=by simp;omega
   have g5:(decide ((c:Int)≤(239:Int)))=true:=by simp;omega
   have g6:(((c:Int)==240))=false:=by simp;omega
   have g7:(decide ((241:Int)≤(c:Int)))=false:=by simp;omega
   have g8:(decide ((c:Int)≤(243:Int)))=true:=by simp;omega
   have g9:(((c:Int)==244))=false:=by simp;omega
   have hv:needF c=(2,128,191):=by unfold needF;repeat (first|rw[if_pos (by omega)] | rw[if_neg (by omega)])
   have HV:=Lib.hid hv;clear hv
   go_enter Tryz.func148,Tryz.ntmps148
   go_wp2_with fail;exact bodyPost_ret (v:=.tuple #[.int .i64 2,.int .u8 128,.int .u8 191]) (by simp[results,Tryz.results148,go_sem]) rfl ⟨(by rw[HV.out];rfl),rfl⟩
 · -- 240..240
   have hv:needF 240=(3,144,191):=rfl;have HV:=Lib.hid hv;clear hv
   go_enter Tryz.func148,Tryz.ntmps148
   go_wp2_with fail;exact bodyPost_ret (v:=.tuple #[.int .i64 3,.int .u8 144,.int .u8 191]) (by simp[results,Tryz.results148,go_sem]) rfl ⟨(by rw[HV.out];rfl),rfl⟩
 · -- 241..243
   have g0:(decide ((194:Int)≤(c:Int)))=true:=by simp;omega
   have g1:(decide ((c:Int)≤(223:Int)))=false:=by simp;omega
   have g2:(((c:Int)==224))=false:=by simp;omega
   have g3:(((c:Int)==237))=false:=by simp;omega
   have g4:(decide ((225:Int)≤(c:Int)))=true:=by simp;omega
   have g5:(decide ((c:Int)≤(239:Int)))=false:=by simp;omega
   have g6:(((c:Int)==240))=false:=by simp;omega
   have g7:(decide ((241:Int)≤(c:Int)))=true:=by simp;omega
   have g8:(decide ((c:Int)≤(243:Int)))=true:=by simp;omega
   have g9:(((c:Int)==244))=false:=by simp;omega
   have hv:needF c=(3,128,191):=by unfold needF;repeat (first|rw[if_pos (by omega)] | rw[if_neg (by omega)])
   have HV:=Lib.hid hv;clear hv
   go_enter Tryz.func148,Tryz.ntmps148
   go_wp2_with fail;exact bodyPost_ret (v:=.tuple #[.int .i64 3,.int .u8 128,.int .u8 191]) (by simp[results,Tryz.results148,go_sem]) rfl ⟨(by rw[HV.out];rfl),rfl⟩
 · -- 244..244
   have hv:needF 244=(3,128,143):=rfl;have HV:=Lib.hid hv;clear hv
   go_enter Tryz.func148,Tryz.ntmps148
   go_wp2_with fail;exact bodyPost_ret (v:=.tuple #[.int .i64 3,.int .u8 128,.int .u8 143]) (by simp[results,Tryz.results148,go_sem]) rfl ⟨(by rw[HV.out];rfl),rfl⟩
 · -- 245..255
   have g0:(decide ((194:Int)≤(c:Int)))=true:=by simp;omega
   have g1:(decide ((c:Int)≤(223:Int)))=false:=by simp;omega
   have g2:(((c:Int)==224))=false:=by simp;omega
   have g3:(((c:Int)==237))=false:=by simp;omega
   have g4:(decide ((225:Int)≤(c:Int)))=true:=by simp;omega
   have g5:(decide ((c:Int)≤(239:Int)))=false:=by simp;omega
   have g6:(((c:Int)==240))=false:=by simp;omega
   have g7:(decide ((241:Int)≤(c:Int)))=true:=by simp;omega
   have g8:(decide ((c:Int)≤(243:Int)))=false:=by simp;omega
   have g9:(((c:Int)==244))=false:=by simp;omega
   have hv:needF c=(0,0,0):=by unfold needF;repeat (first|rw[if_pos (by omega)] | rw[if_neg (by omega)])
   have HV:=Lib.hid hv;clear hv
   go_enter Tryz.func148,Tryz.ntmps148
   go_wp2_with fail;exact bodyPost_ret (v:=.tuple #[.int .i64 0,.int .u8 0,.int .u8 0]) (by simp[results,Tryz.results148,go_sem]) rfl ⟨(by rw[HV.out];rfl),rfl⟩
end Go.Proofs.YtnahlfaehelfjaaGreatDoor
