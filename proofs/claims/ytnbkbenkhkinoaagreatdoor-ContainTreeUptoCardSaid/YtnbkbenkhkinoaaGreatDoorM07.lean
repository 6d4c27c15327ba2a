/- Of my texts: TokA. -/
import Derived.Test.YtnbkbenkhkinoaaGreatDoorM05
import Derived.Test.YtnbkbenkhkinoaaGreatDoorM06
namespace Go.Proofs.YtnbkbenkhkinoaaGreatDoor
set_option linter.unusedVariables false
set_option linter.unusedSimpArgs false
open Go.RowKit
def I32 (x:Int):Prop:=-2147483648≤x∧x≤2147483647
set_option maxHeartbeats 1000000 in
theorem isC_any (x:Int) (w:World) :
  Calls Tryz.prog 145 #[.int .i32 x] w fun e w'=>e=.returned (.bool (isC x))∧w'=w:=by
 have ways:x≤-1∨(0≤x∧x≤55295)∨(55296≤x∧x≤57343)∨(57344≤x∧x≤1114111)∨1114112≤x:=by omega
 rcases ways with h|h|h|h|h
 · -- None..-1
   have g0:(decide ((0:Int)≤x))=false:=by simp;omega
   have g1:(decide (x≤(1114111:Int)))=true:=by simp;omega
   have g2:(decide (x<(55296:Int)))=true:=by simp;omega
   have g3:(decide ((57343:Int)<x))=false:=by simp;omega
   go_enter Tryz.func145,Tryz.ntmps145
   go_wp2_with fail;go_ret;exact⟨ret_bool (by unfold isC;first | (simp;done) | (simp;omega) | (simp only[Bool.eq_iff_iff,Bool.or_eq_true,Bool.and_eq_true,decide_eq_true_eq,beq_iff_eq,Bool.false_eq_true,true_iff,false_iff];omega)),rfl⟩
 · -- 0..55295
   have g0:(decide ((0:Int)≤x))=true:=by simp;omega
   have g1:(decide (x≤(1114111:Int)))=true:=by simp;omega
   have g2:(decide (x<(55296:Int)))=true:=by simp;omega
   have g3:(decide ((57343:Int)<x))=false:=by simp;omega
   go_enter Tryz.func145,Tryz.ntmps145
   go_wp2_with fail;go_ret;exact⟨ret_bool (by unfold isC;first | (simp;done) | (simp;omega) | (simp only[Bool.eq_iff_iff,Bool.or_eq_true,Bool.and_eq_true,decide_eq_true_eq,beq_iff_eq,Bool.false_eq_true,true_iff,false_iff];omega)),rfl⟩
 · -- 55296..57343
   have g0:(decide ((0:Int)≤x))=true:=by simp;omega
   have g1:(decide (x≤(1114111:Int)))=true:=by simp;omega
   have g2:(decide (x<(55296:Int)))=false:=by simp;omega
   have g3:(decide ((57343:Int)<x))=false:=by simp;omega
   go_enter Tryz.func145,Tryz.ntmps145
   go_wp2_with fail;go_ret;exact⟨ret_bool (by unfold isC;first | (simp;done) | (simp;omega) | (simp only[Bool.eq_iff_iff,Bool.or_eq_true,Bool.and_eq_true,decide_eq_true_eq,beq_iff_eq,Bool.false_eq_true,true_iff,false_iff];omega)),rfl⟩
 · -- 57344..1114111
   have g0:(decide ((0:Int)≤x))=true:=by simp;omega
   have g1:(decide (x≤(1114111:Int)))=true:=by simp;omega
   have g2:(decide (x<(55296:Int)))=false:=by simp;omega
   have g3:(decide ((57343:Int)<x))=true:=by simp;omega
   go_enter Tryz.func145,Tryz.ntmps145
   go_wp2_with fail;go_ret;exact⟨ret_bool (by unfold isC;first | (simp;done) | (simp;omega) | (simp only[Bool.eq_iff_iff,Bool.or_eq_true,Bool.and_eq_true,decide_eq_true_eq,beq_iff_eq,Bool.false_eq_true,true_iff,false_iff];omega)),rfl⟩
 · -- 1114112..None
   have g0:(decide ((0:Int)≤x))=true:=by simp;omega
   have g1:(decide (x≤(1114111:Int)))=false:=by simp;omega
   have g2:(decide (x<(55296:Int)))=false:=by simp;omega
   have g3:(decide ((57343:Int)<x))=true:=by simp;omega
   go_enter Tryz.func145,Tryz.ntmps145
   go_wp2_with fail;go_ret;exact⟨ret_bool (by unfold isC;first | (simp;done) | (simp;omega) | (simp only[Bool.eq_iff_iff,Bool.or_eq_true,Bool.and_eq_true,decide_eq_true_eq,beq_iff_eq,Bool.false_eq_true,true_iff,false_iff];omega)),rfl⟩
set_option maxHeartbeats 1000000 in
theorem digit3_any (x:Int) (w:World) :
  Calls Tryz.prog 192 #[.int .i32 x] w fun e w'=>e=.returned (.bool (digitI x))∧w'=w:=by
 have ways:x≤47∨(48≤x∧x≤57)∨58≤x:=by omega
 rcases ways with h|h|h
 · -- None..47
   have g0:(decide ((48:Int)≤x))=false:=by simp;omega
   have g1:(decide (x≤(57:Int)))=true:=by simp;omega
   go_enter Tryz.func192,Tryz.ntmps192
   go_wp2_with fail;go_ret;exact⟨ret_bool (by unfold digitI;first | (simp;done) | (simp;omega) | (simp only[Bool.eq_iff_iff,Bool.or_eq_true,Bool.and_eq_true,decide_eq_true_eq,beq_iff_eq,Bool.false_eq_true,true_iff,false_iff];omega)),rfl⟩
 · -- 48..57
   have g0:(decide ((48:Int)≤x))=true:=by simp;omega
   have g1:(decide (x≤(57:Int)))=true:=by simp;omega
   go_enter Tryz.func192,Tryz.ntmps192
   go_wp2_with fail;go_ret;exact⟨ret_bool (by unfold digitI;first | (simp;done) | (simp;omega) | (simp only[Bool.eq_iff_iff,Bool.or_eq_true,Bool.and_eq_true,decide_eq_true_eq,beq_iff_eq,Bool.false_eq_true,true_iff,false_iff];omega)),rfl⟩
 · -- 58..None
   have g0:(decide ((48:Int)≤x))=true:=by simp;omega
   have g1:(decide (x≤(57:Int)))=false:=by simp;omega
   go_enter Tryz.func192,Tryz.ntmps192
   go_wp2_with fail;go_ret;exact⟨ret_bool (by unfold digitI;first | (simp;done) | (simp;omega) | (simp only[Bool.eq_iff_iff,Bool.or_eq_true,Bool.and_eq_true,decide_eq_true_eq,beq_iff_eq,Bool.false_eq_true,true_iff,false_iff];omega)),rfl⟩
set_option maxHeartbeats 1000000 in
theorem firstC_any (x:Int) (w:World) :
  Calls Tryz.prog 191 #[.int .i32 x] w fun e w'=>e=.returned (.bool (firstI x))∧w'=w:=by
 have ways:x≤64∨(65≤x∧x≤90)∨(91≤x∧x≤94)∨x=95∨x=96∨(97≤x∧x≤122)∨(123≤x∧x≤127)∨128≤x:=by omega
 rcases ways with h|h|h|rfl|rfl|h|h|h
 · -- None..64
   have g0:(decide ((97:Int)≤x))=false:=by simp;omega
   have g1:(decide (x≤(122:Int)))=true:=by simp;omega
   have g2:(decide ((65:Int)≤x))=false:=by simp;omega
   have g3:(decide (x≤(90:Int)))=true:=by simp;omega
   have g4:((x==95))=false:=by simp;omega
   have g5:(decide ((128:Int)≤x))=false:=by simp;omega
   go_enter Tryz.func191,Tryz.ntmps191
   go_wp2_with fail;go_ret;exact⟨ret_bool (by unfold firstI;first | (simp;done) | (simp;omega) | (simp only[Bool.eq_iff_iff,Bool.or_eq_true,Bool.and_eq_true,decide_eq_true_eq,beq_iff_eq,Bool.false_eq_true,true_iff,false_iff];omega)),rfl⟩
 · -- 65..90
   have g0:(decide ((97:Int)≤x))=false:=by simp;omega
   have g1:(decide (x≤(122:Int)))=true:=by simp;omega
   have g2:(decide ((65:Int)≤x))=true:=by simp;omega
   have g3:(decide (x≤(90:Int)))=true:=by simp;omega
   have g4:((x==95))=false:=by simp;omega
   have g5:(decide ((128:Int)≤x))=false:=by simp;omega
   go_enter Tryz.func191,Tryz.ntmps191
   go_wp2_with fail;go_ret;exact⟨ret_bool (by unfold firstI;first | (simp;done) | (simp;omega) | (simp only[Bool.eq_iff_iff,Bool.or_eq_true,Bool.and_eq_true,decide_eq_true_eq,beq_iff_eq,Bool.false_eq_true,true_iff,false_iff];omega)),rfl⟩
 · -- 91..94
   have g0:(decide ((97:Int)≤x))=false:=by simp;omega
   have g1:(decide (x≤(122:Int)))=true:=by simp;omega
   have g2:(decide ((65:Int)≤x))=true:=by simp;omega
   have g3:(decide (x≤(90:Int)))=false:=by simp;omega
   have g4:((x==95))=false:=by simp;omega
   have g5:(decide ((128:Int)≤x))=false:=by simp;omega
   go_enter Tryz.func191,Tryz.ntmps191
   go_wp2_with fail;go_ret;exact⟨ret_bool (by unfold firstI;first | (simp;done) | (simp;omega) | (simp only[Bool.eq_iff_iff,Bool.or_eq_true,Bool.and_eq_true,decide_eq_true_eq,beq_iff_eq,Bool.false_eq_true,true_iff,false_iff];omega)),rfl⟩
 · -- 95..95
   go_enter Tryz.func191,Tryz.ntmps191
   go_wp2_with fail;go_ret;exact⟨ret_bool (by unfold firstI;first | (simp;done) | (simp;omega) | (simp only[Bool.eq_iff_iff,Bool.or_eq_true,Bool.and_eq_true,decide_eq_true_eq,beq_iff_eq,Bool.false_eq_true,true_iff,false_iff];omega)),rfl⟩
 · -- 96..96
   go_enter Tryz.func191,Tryz.ntmps191
   go_wp2_with fail;go_ret;exact⟨ret_bool (by unfold firstI;first | (simp;done) | (simp;omega) | (simp only[Bool.eq_iff_iff,Bool.or_eq_true,Bool.and_eq_true,decide_eq_true_eq,beq_iff_eq,Bool.false_eq_true,true_iff,false_iff];omega)),rfl⟩
 · -- 97..122
   have g0:(decide ((97:Int)≤x))=true:=by simp;omega
   have g1:(decide (x≤(122:Int)))=true:=by simp;omega
   have g2:(decide ((65:Int)≤x))=true:=by simp;omega
   have g3:(decide (x≤(90:Int)))=false:=by simp;omega
   have g4:((x==95))=false:=by simp;omega
   have g5:(decide ((128:Int)≤x))=false:=by simp;omega
   go_enter Tryz.func191,Tryz.ntmps191
   go_wp2_with fail;go_ret;exact⟨ret_bool (by unfold firstI;first | (simp;done) | (simp;omega) | (simp only[Bool.eq_iff_iff,Bool.or_eq_true,Bool.and_eq_true,decide_eq_true_eq,beq_iff_eq,Bool.false_eq_true,true_iff,false_iff];omega)),rfl⟩
 · -- 123..127
   have g0:(decide ((97:Int)≤x))=true:=by simp;omega
   have g1:(decide (x≤(122:Int)))=false:=by simp;omega
   have g2:(decide ((65:Int)≤x))=true:=by simp;omega
   have g3:(decide (x≤(90:Int)))=false:=by simp;omega
   have g4:((x==95))=false:=by simp;omega
   have g5:(decide ((128:Int)≤x))=false:=by simp;omega
   go_enter Tryz.func191,Tryz.ntmps191
   go_wp2_with fail;go_ret;exact⟨ret_bool (by unfold firstI;first | (simp;done) | (simp;omega) | (simp only[Bool.eq_iff_iff,Bool.or_eq_true,Bool.and_eq_true,decide_eq_true_eq,beq_iff_eq,Bool.false_eq_true,true_iff,false_iff];omega)),rfl⟩
 · -- 128..None
   have g0:(decide ((97:Int)≤x))=true:=by simp;omega
   have g1:(decide (x≤(122:Int)))=false:=by simp;omega
   have g2:(decide ((65:Int)≤x))=true:=by simp;omega
   have g3:(decide (x≤(90:Int)))=false:=by simp;omega
   have g4:((x==95))=false:=by simp;omega
   have g5:(decide ((128:Int)≤x))=true:=by simp;omega
   go_enter Tryz.func191,Tryz.ntmps191
   go_wp2_with fail;go_ret;exact⟨ret_bool (by unfold firstI;first | (simp;done) | (simp;omega) | (simp only[Bool.eq_iff_iff,Bool.or_eq_true,Bool.and_eq_true,decide_eq_true_eq,beq_iff_eq,Bool.false_eq_true,true_iff,false_iff];omega)),rfl⟩
set_option maxHeartbeats 1000000 in
theorem blank_any (x:Int) (w:World) :
  Calls Tryz.prog 146 #[.int .i32 x] w fun e w'=>e=.returned (.bool (blankI x))∧w'=w:=by
 have ways:x≤8∨x=9∨x=10∨(11≤x∧x≤31)∨x=32∨33≤x:=by omega
 rcases ways with h|rfl|rfl|h|rfl|h
 · -- None..8
   have g0:((x==10))=false:=by simp;omega
   have g1:((x==9))=false:=by simp;omega
   have g2:((x==32))=false:=by simp;omega
   go_enter Tryz.func146,Tryz.ntmps146
   go_wp2_with fail;go_ret;exact⟨ret_bool (by unfold blankI;first | (simp;done) | (simp;omega) | (simp only[Bool.eq_iff_iff,Bool.or_eq_true,Bool.and_eq_true,decide_eq_true_eq,beq_iff_eq,Bool.false_eq_true,true_iff,false_iff];omega)),rfl⟩
 · -- 9..9
   go_enter Tryz.func146,Tryz.ntmps146
   go_wp2_with fail;go_ret;exact⟨ret_bool (by unfold blankI;first | (simp;done) | (simp;omega) | (simp only[Bool.eq_iff_iff,Bool.or_eq_true,Bool.and_eq_true,decide_eq_true_eq,beq_iff_eq,Bool.false_eq_true,true_iff,false_iff];omega)),rfl⟩
 · -- 10..10
   go_enter Tryz.func146,Tryz.ntmps146
   go_wp2_with fail;go_ret;exact⟨ret_bool (by unfold blankI;first | (simp;done) | (simp;omega) | (simp only[Bool.eq_iff_iff,Bool.or_eq_true,Bool.and_eq_true,decide_eq_true_eq,beq_iff_eq,Bool.false_eq_true,true_iff,false_iff];omega)),rfl⟩
 · -- 11..31
   have g0:((x==10))=false:=by simp;omega
   have g1:((x==9))=false:=by simp;omega
   have g2:((x==32))=false:=by simp;omega
   go_enter Tryz.func146,Tryz.ntmps146
   go_wp2_with fail;go_ret;exact⟨ret_bool (by unfold blankI;first | (simp;done) | (simp;omega) | (simp only[Bool.eq_iff_iff,Bool.or_eq_true,Bool.and_eq_true,decide_eq_true_eq,beq_iff_eq,Bool.false_eq_true,true_iff,false_iff];omega)),rfl⟩
 · -- 32..32
   go_enter Tryz.func146,Tryz.ntmps146
   go_wp2_with fail;go_ret;exact⟨ret_bool (by unfold blankI;first | (simp;done) | (simp;omega) | (simp only[Bool.eq_iff_iff,Bool.or_eq_true,Bool.and_eq_true,decide_eq_true_eq,beq_iff_eq,Bool.false_eq_true,true_iff,false_iff];omega)),rfl⟩
 · -- 33..None
   have g0:((x==10))=false:=by simp;omega
   have g1:((x==9))=false:=by simp;omega
   have g2:((x==32))=false:=by simp;omega
   go_enter Tryz.func146,Tryz.ntmps146
   go_wp2_with fail;go_ret;exact⟨ret_bool (by unfold blankI;first | (simp;done) | (simp;omega) | (simp only[Bool.eq_iff_iff,Bool.or_eq_true,Bool.and_eq_true,decide_eq_true_eq,beq_iff_eq,Bool.false_eq_true,true_iff,false_iff];omega)),rfl⟩
set_option maxHeartbeats 1000000 in
theorem letter3_any (x:Int) (w:World) :
  Calls Tryz.prog 149 #[.int .i32 x] w fun e w'=>e=.returned (.bool (letterI x))∧w'=w:=by
 have h1:=fun w=>firstC_any x w
 have h2:=fun w=>digit3_any x w
 unfold letterI;obtain⟨p,hp⟩:∃ p,firstI x=p:=⟨_,rfl⟩;obtain⟨q,hq⟩:∃ q,digitI x=q:=⟨_,rfl⟩;obtain⟨r,hr⟩:∃ r,(x==45)=r:=⟨_,rfl⟩;rw[hp]at h1;rw[hq]at h2;rw[hp,hq,hr];have H1:=Lib.hid h1;have H2:=Lib.hid h2;clear h1 h2 hp hq
 cases p
 · cases q
   · go_enter Tryz.func149,Tryz.ntmps149
     go_wp2_with fail
     ((with_reducible refine(H1.out _).mono ?_);rintro e w' ⟨rfl,rfl⟩)
     go_wp2_with fail
     ((with_reducible refine(H2.out _).mono ?_);rintro e w' ⟨rfl,rfl⟩)
     go_wp2_with fail;go_ret;exact⟨rfl,rfl⟩
   · go_enter Tryz.func149,Tryz.ntmps149
     go_wp2_with fail
     ((with_reducible refine(H1.out _).mono ?_);rintro e w' ⟨rfl,rfl⟩)
     go_wp2_with fail
     ((with_reducible refine(H2.out _).mono ?_);rintro e w' ⟨rfl,rfl⟩)
     go_wp2_with fail;go_ret;exact⟨rfl,rfl⟩
 · go_enter Tryz.func149,Tryz.ntmps149
   go_wp2_with fail
   ((with_reducible refine(H1.out _).mono ?_);rintro e w' ⟨rfl,rfl⟩)
   go_wp2_with fail;go_ret;exact⟨rfl,rfl⟩
set_option maxHeartbeats 1000000 in
theorem esc_any (a b:Int) (w:World) :
  Calls Tryz.prog 150 #[.int .i32 a,.int .i32 b] w fun e w'=>e=.returned (.bool (escI a b))∧w'=w:=by
 unfold escI;obtain⟨p,hp⟩:∃ p,(a==92)=p:=⟨_,rfl⟩;obtain⟨q,hq⟩:∃ q,(b != 10)=q:=⟨_,rfl⟩;rw[hp,hq]
 cases p
 all_goals
  go_enter Tryz.func150,Tryz.ntmps150
  go_wp2_with fail;go_ret;exact⟨rfl,rfl⟩
set_option maxHeartbeats 1000000 in
theorem begins_any (a b c:Int) (w:World) :
  Calls Tryz.prog 151 #[.int .i32 a,.int .i32 b,.int .i32 c] w fun e w'=>e=.returned (.bool (beginsI a b c))∧w'=w:=by
 by_cases ha:a=45
 · subst ha
   have h1:=fun w=>firstC_any b w
   have h2:=fun w=>esc_any b c w
   unfold beginsI;rw[if_pos rfl];obtain⟨p,hp⟩:∃ p,firstI b=p:=⟨_,rfl⟩;obtain⟨q,hq⟩:∃ q,escI b c=q:=⟨_,rfl⟩;obtain⟨r,hr⟩:∃ r,(b==45)=r:=⟨_,rfl⟩;rw[hp]at h1;rw[hq]at h2;rw[hp,hq,hr];have H1:=Lib.hid h1;have H2:=Lib.hid h2;clear h1 h2 hp hq
   cases p
   · cases r
     · go_enter Tryz.func151,Tryz.ntmps151
       go_wp2_with fail
       ((with_reducible refine(H1.out _).mono ?_);rintro e w' ⟨rfl,rfl⟩)
       go_wp2_with fail
       ((with_reducible refine(H2.out _).mono ?_);rintro e w' ⟨rfl,rfl⟩)
       go_wp2_with fail;go_ret;exact⟨rfl,rfl⟩
     · go_enter Tryz.func151,Tryz.ntmps151
       go_wp2_with fail
       ((with_reducible refine(H1.out _).mono ?_);rintro e w' ⟨rfl,rfl⟩)
       go_wp2_with fail;go_ret;exact⟨rfl,rfl⟩
   · go_enter Tryz.func151,Tryz.ntmps151
     go_wp2_with fail
     ((with_reducible refine(H1.out _).mono ?_);rintro e w' ⟨rfl,rfl⟩)
     go_wp2_with fail;go_ret;exact⟨rfl,rfl⟩
 · have h1:=fun w=>firstC_any a w
   have h2:=fun w=>esc_any a b w
   have ga:(a==45)=false:=by simpa using ha
   unfold beginsI;rw[if_neg ha];obtain⟨p,hp⟩:∃ p,firstI a=p:=⟨_,rfl⟩;obtain⟨q,hq⟩:∃ q,escI a b=q:=⟨_,rfl⟩;rw[hp]at h1;rw[hq]at h2;rw[hp,hq];have H1:=Lib.hid h1;have H2:=Lib.hid h2;clear h1 h2 hp hq
   cases p
   · go_enter Tryz.func151,Tryz.ntmps151
     go_wp2_with fail
     ((with_reducible refine(H1.out _).mono ?_);rintro e w' ⟨rfl,rfl⟩)
     go_wp2_with fail
     ((with_reducible refine(H2.out _).mono ?_);rintro e w' ⟨rfl,rfl⟩)
     go_wp2_with fail;go_ret;exact⟨rfl,rfl⟩
   · go_enter Tryz.func151,Tryz.ntmps151
     go_wp2_with fail
     ((with_reducible refine(H1.out _).mono ?_);rintro e w' ⟨rfl,rfl⟩)
     go_wp2_with fail;go_ret;exact⟨rfl,rfl⟩
set_option maxHeartbeats 1000000 in
theorem number3_any (a b c:Int) (w:World) :
  Calls Tryz.prog 153 #[.int .i32 a,.int .i32 b,.int .i32 c] w fun e w'=>e=.returned (.bool (numI a b c))∧w'=w:=by
 have key:∀ (x y:Int) (S:Bool),(digitI x||(x==46&&digitI y))=S→∃ p q r,digitI x=p∧(x==46)=q∧digitI y=r∧(p||(q&&r))=S:=fun x y S h=>⟨_,_,_,rfl,rfl,rfl,h⟩
 by_cases ha:a=43∨a=45
 · unfold numI;rw[if_pos ha]
   have h1:=fun w=>digit3_any b w
   have h2:=fun w=>digit3_any c w
   obtain⟨p,hp⟩:∃ p,digitI b=p:=⟨_,rfl⟩;obtain⟨q,hq⟩:∃ q,digitI c=q:=⟨_,rfl⟩;obtain⟨r,hr⟩:∃ r,(b==46)=r:=⟨_,rfl⟩;rw[hp]at h1;rw[hq]at h2;rw[hp,hq,hr];have H1:=Lib.hid h1;have H2:=Lib.hid h2;clear h1 h2 hp hq key
   rcases ha with rfl|rfl
   all_goals
    cases p
    · cases r
      · go_enter Tryz.func153,Tryz.ntmps153
        go_wp2_with fail
        ((with_reducible refine(H1.out _).mono ?_);rintro e w' ⟨rfl,rfl⟩)
        go_wp2_with fail;go_ret;exact⟨rfl,rfl⟩
      · go_enter Tryz.func153,Tryz.ntmps153
        go_wp2_with fail
        ((with_reducible refine(H1.out _).mono ?_);rintro e w' ⟨rfl,rfl⟩)
        go_wp2_with fail
        ((with_reducible refine(H2.out _).mono ?_);rintro e w' ⟨rfl,rfl⟩)
        go_wp2_with fail;go_ret;exact⟨rfl,rfl⟩
    · go_enter Tryz.func153,Tryz.ntmps153
      go_wp2_with fail
      ((with_reducible refine(H1.out _).mono ?_);rintro e w' ⟨rfl,rfl⟩)
      go_wp2_with fail;go_ret;exact⟨rfl,rfl⟩
 · unfold numI;rw[if_neg ha]
   have g1:(a==43)=false:=by simp;omega
   have g2:(a==45)=false:=by simp;omega
   have h1:=fun w=>digit3_any a w
   have h2:=fun w=>digit3_any b w
   obtain⟨p,hp⟩:∃ p,digitI a=p:=⟨_,rfl⟩;obtain⟨q,hq⟩:∃ q,digitI b=q:=⟨_,rfl⟩;obtain⟨r,hr⟩:∃ r,(a==46)=r:=⟨_,rfl⟩;rw[hp]at h1;rw[hq]at h2;rw[hp,hq,hr];have H1:=Lib.hid h1;have H2:=Lib.hid h2;clear h1 h2 hp hq key ha
   cases p
   · cases r
     · go_enter Tryz.func153,Tryz.ntmps153
       go_wp2_with fail
       ((with_reducible refine(H1.out _).mono ?_);rintro e w' ⟨rfl,rfl⟩)
       go_wp2_with fail;go_ret;exact⟨rfl,rfl⟩
     · go_enter Tryz.func153,Tryz.ntmps153
       go_wp2_with fail
       ((with_reducible refine(H1.out _).mono ?_);rintro e w' ⟨rfl,rfl⟩)
       go_wp2_with fail
       ((with_reducible refine(H2.out _).mono ?_);rintro e w' ⟨rfl,rfl⟩)
       go_wp2_with fail;go_ret;exact⟨rfl,rfl⟩
   · go_enter Tryz.func153,Tryz.ntmps153
     go_wp2_with fail
     ((with_reducible refine(H1.out _).mono ?_);rintro e w' ⟨rfl,rfl⟩)
     go_wp2_with fail;go_ret;exact⟨rfl,rfl⟩
end Go.Proofs.YtnbkbenkhkinoaaGreatDoor
