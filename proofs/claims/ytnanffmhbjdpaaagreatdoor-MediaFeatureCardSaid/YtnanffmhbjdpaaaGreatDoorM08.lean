/- Of my texts: TokA. -/
import Derived.Test.YtnanffmhbjdpaaaGreatDoorM00
import Derived.Test.YtnanffmhbjdpaaaGreatDoorM06
import Derived.Test.YtnanffmhbjdpaaaGreatDoorM07
namespace Go.Proofs.YtnanffmhbjdpaaaGreatDoor
set_option maxHeartbeats 1000000
set_option linter.unusedVariables false
set_option linter.unusedSimpArgs false
open Go.RowKit
def I32 (x:Int):Prop:=-2147483648≤x∧x≤2147483647
theorem Q0i (x:Int) (w:World) :
  Calls Tryz.prog 114 #[.int .i32 x] w fun e w'=>e=.returned (.bool (isC x))∧w'=w:=by
 have ways:x≤-1∨(0≤x∧x≤55295)∨(55296≤x∧x≤57343)∨(57344≤x∧x≤1114111)∨1114112≤x:=by omega
 rcases ways with h|h|h|h|h
 · -- None..-1
   have g0:(decide ((0:Int)≤x))=false:=by simp;omega
   have g1:(decide (x≤(1114111:Int)))=true:=by simp;omega
   have g2:(decide (x<(55296:Int)))=true:=by simp;omega
   have g3:(decide ((57343:Int)<x))=false:=by simp;omega
   go_enter Tryz.func114,Tryz.ntmps114
   go_wp2_with fail;go_ret;exact⟨Qw (by unfold isC;first | (simp;done) | (simp;omega) | (simp only[Qt,Za,Qe,decide_eq_true_eq,beq_iff_eq,Bool.false_eq_true,true_iff,false_iff];omega)),rfl⟩
 · -- 0..55295
   have g0:(decide ((0:Int)≤x))=true:=by simp;omega
   have g1:(decide (x≤(1114111:Int)))=true:=by simp;omega
   have g2:(decide (x<(55296:Int)))=true:=by simp;omega
   have g3:(decide ((57343:Int)<x))=false:=by simp;omega
   go_enter Tryz.func114,Tryz.ntmps114
   go_wp2_with fail;go_ret;exact⟨Qw (by unfold isC;first | (simp;done) | (simp;omega) | (simp only[Qt,Za,Qe,decide_eq_true_eq,beq_iff_eq,Bool.false_eq_true,true_iff,false_iff];omega)),rfl⟩
 · -- 55296..57343
   have g0:(decide ((0:Int)≤x))=true:=by simp;omega
   have g1:(decide (x≤(1114111:Int)))=true:=by simp;omega
   have g2:(decide (x<(55296:Int)))=false:=by simp;omega
   have g3:(decide ((57343:Int)<x))=false:=by simp;omega
   go_enter Tryz.func114,Tryz.ntmps114
   go_wp2_with fail;go_ret;exact⟨Qw (by unfold isC;first | (simp;done) | (simp;omega) | (simp only[Qt,Za,Qe,decide_eq_true_eq,beq_iff_eq,Bool.false_eq_true,true_iff,false_iff];omega)),rfl⟩
 · -- 57344..1114111
   have g0:(decide ((0:Int)≤x))=true:=by simp;omega
   have g1:(decide (x≤(1114111:Int)))=true:=by simp;omega
   have g2:(decide (x<(55296:Int)))=false:=by simp;omega
   have g3:(decide ((57343:Int)<x))=true:=by simp;omega
   go_enter Tryz.func114,Tryz.ntmps114
   go_wp2_with fail;go_ret;exact⟨Qw (by unfold isC;first | (simp;done) | (simp;omega) | (simp only[Qt,Za,Qe,decide_eq_true_eq,beq_iff_eq,Bool.false_eq_true,true_iff,false_iff];omega)),rfl⟩
 · -- 1114112..None
   have g0:(decide ((0:Int)≤x))=true:=by simp;omega
   have g1:(decide (x≤(1114111:Int)))=false:=by simp;omega
   have g2:(decide (x<(55296:Int)))=false:=by simp;omega
   have g3:(decide ((57343:Int)<x))=true:=by simp;omega
   go_enter Tryz.func114,Tryz.ntmps114
   go_wp2_with fail;go_ret;exact⟨Qw (by unfold isC;first | (simp;done) | (simp;omega) | (simp only[Qt,Za,Qe,decide_eq_true_eq,beq_iff_eq,Bool.false_eq_true,true_iff,false_iff];omega)),rfl⟩
theorem Yd (x:Int) (w:World) :
  Calls Tryz.prog 151 #[.int .i32 x] w fun e w'=>e=.returned (.bool (V0 x))∧w'=w:=by
 have ways:x≤47∨(48≤x∧x≤57)∨58≤x:=by omega
 rcases ways with h|h|h
 · -- None..47
   have g0:(decide ((48:Int)≤x))=false:=by simp;omega
   have g1:(decide (x≤(57:Int)))=true:=by simp;omega
   go_enter Tryz.func151,Tryz.ntmps151
   go_wp2_with fail;go_ret;exact⟨Qw (by unfold V0;first | (simp;done) | (simp;omega) | (simp only[Qt,Za,Qe,decide_eq_true_eq,beq_iff_eq,Bool.false_eq_true,true_iff,false_iff];omega)),rfl⟩
 · -- 48..57
   have g0:(decide ((48:Int)≤x))=true:=by simp;omega
   have g1:(decide (x≤(57:Int)))=true:=by simp;omega
   go_enter Tryz.func151,Tryz.ntmps151
   go_wp2_with fail;go_ret;exact⟨Qw (by unfold V0;first | (simp;done) | (simp;omega) | (simp only[Qt,Za,Qe,decide_eq_true_eq,beq_iff_eq,Bool.false_eq_true,true_iff,false_iff];omega)),rfl⟩
 · -- 58..None
   have g0:(decide ((48:Int)≤x))=true:=by simp;omega
   have g1:(decide (x≤(57:Int)))=false:=by simp;omega
   go_enter Tryz.func151,Tryz.ntmps151
   go_wp2_with fail;go_ret;exact⟨Qw (by unfold V0;first | (simp;done) | (simp;omega) | (simp only[Qt,Za,Qe,decide_eq_true_eq,beq_iff_eq,Bool.false_eq_true,true_iff,false_iff];omega)),rfl⟩
theorem Bf (x:Int) (w:World) :
  Calls Tryz.prog 150 #[.int .i32 x] w fun e w'=>e=.returned (.bool (Xi x))∧w'=w:=by
 have ways:x≤64∨(65≤x∧x≤90)∨(91≤x∧x≤94)∨x=95∨x=96∨(97≤x∧x≤122)∨(123≤x∧x≤127)∨128≤x:=by omega
 rcases ways with h|h|h|rfl|rfl|h|h|h
 · -- None..64
   have g0:(decide ((97:Int)≤x))=false:=by simp;omega
   have g1:(decide (x≤(122:Int)))=true:=by simp;omega
   have g2:(decide ((65:Int)≤x))=false:=by simp;omega
   have g3:(decide (x≤(90:Int)))=true:=by simp;omega
   have g4:((x==95))=false:=by simp;omega
   have g5:(decide ((128:Int)≤x))=false:=by simp;omega
   go_enter Tryz.func150,Tryz.ntmps150
   go_wp2_with fail;go_ret;exact⟨Qw (by unfold Xi;first | (simp;done) | (simp;omega) | (simp only[Qt,Za,Qe,decide_eq_true_eq,beq_iff_eq,Bool.false_eq_true,true_iff,false_iff];omega)),rfl⟩
 · -- 65..90
   have g0:(decide ((97:Int)≤x))=false:=by simp;omega
   have g1:(decide (x≤(122:Int)))=true:=by simp;omega
   have g2:(decide ((65:Int)≤x))=true:=by simp;omega
   have g3:(decide (x≤(90:Int)))=true:=by simp;omega
   have g4:((x==95))=false:=by simp;omega
   have g5:(decide ((128:Int)≤x))=false:=by simp;omega
   go_enter Tryz.func150,Tryz.ntmps150
   go_wp2_with fail;go_ret;exact⟨Qw (by unfold Xi;first | (simp;done) | (simp;omega) | (simp only[Qt,Za,Qe,decide_eq_true_eq,beq_iff_eq,Bool.false_eq_true,true_iff,false_iff];omega)),rfl⟩
 · -- 91..94
   have g0:(decide ((97:Int)≤x))=false:=by simp;omega
   have g1:(decide (x≤(122:Int)))=true:=by simp;omega
   have g2:(decide ((65:Int)≤x))=true:=by simp;omega
   have g3:(decide (x≤(90:Int)))=false:=by simp;omega
   have g4:((x==95))=false:=by simp;omega
   have g5:(decide ((128:Int)≤x))=false:=by simp;omega
   go_enter Tryz.func150,Tryz.ntmps150
   go_wp2_with fail;go_ret;exact⟨Qw (by unfold Xi;first | (simp;done) | (simp;omega) | (simp only[Qt,Za,Qe,decide_eq_true_eq,beq_iff_eq,Bool.false_eq_true,true_iff,false_iff];omega)),rfl⟩
 · -- 95..95
   go_enter Tryz.func150,Tryz.ntmps150
   go_wp2_with fail;go_ret;exact⟨Qw (by unfold Xi;first | (simp;done) | (simp;omega) | (simp only[Qt,Za,Qe,decide_eq_true_eq,beq_iff_eq,Bool.false_eq_true,true_iff,false_iff];omega)),rfl⟩
 · -- 96..96
   go_enter Tryz.func150,Tryz.ntmps150
   go_wp2_with fail;go_ret;exact⟨Qw (by unfold Xi;first | (simp;done) | (simp;omega) | (simp only[Qt,Za,Qe,decide_eq_true_eq,beq_iff_eq,Bool.false_eq_true,true_iff,false_iff];omega)),rfl⟩
 · -- 97..122
   have g0:(decide ((97:Int)≤x))=true:=by simp;omega
   have g1:(decide (x≤(122:Int)))=true:=by simp;omega
   have g2:(decide ((65:Int)≤x))=true:=by simp;omega
   have g3:(decide (x≤(90:Int)))=false:=by simp;omega
   have g4:((x==95))=false:=by simp;omega
   have g5:(decide ((128:Int)≤x))=false:=by simp;omega
   go_enter Tryz.func150,Tryz.ntmps150
   go_wp2_with fail;go_ret;exact⟨Qw (by unfold Xi;first | (simp;done) | (simp;omega) | (simp only[Qt,Za,Qe,decide_eq_true_eq,beq_iff_eq,Bool.false_eq_true,true_iff,false_iff];omega)),rfl⟩
 · -- 123..127
   have g0:(decide ((97:Int)≤x))=true:=by simp;omega
   have g1:(decide (x≤(122:Int)))=false:=by simp;omega
   have g2:(decide ((65:Int)≤x))=true:=by simp;omega
   have g3:(decide (x≤(90:Int)))=false:=by simp;omega
   have g4:((x==95))=false:=by simp;omega
   have g5:(decide ((128:Int)≤x))=false:=by simp;omega
   go_enter Tryz.func150,Tryz.ntmps150
   go_wp2_with fail;go_ret;exact⟨Qw (by unfold Xi;first | (simp;done) | (simp;omega) | (simp only[Qt,Za,Qe,decide_eq_true_eq,beq_iff_eq,Bool.false_eq_true,true_iff,false_iff];omega)),rfl⟩
 · -- 128..None
   have g0:(decide ((97:Int)≤x))=true:=by simp;omega
   have g1:(decide (x≤(122:Int)))=false:=by simp;omega
   have g2:(decide ((65:Int)≤x))=true:=by simp;omega
   have g3:(decide (x≤(90:Int)))=false:=by simp;omega
   have g4:((x==95))=false:=by simp;omega
   have g5:(decide ((128:Int)≤x))=true:=by simp;omega
   go_enter Tryz.func150,Tryz.ntmps150
   go_wp2_with fail;go_ret;exact⟨Qw (by unfold Xi;first | (simp;done) | (simp;omega) | (simp only[Qt,Za,Qe,decide_eq_true_eq,beq_iff_eq,Bool.false_eq_true,true_iff,false_iff];omega)),rfl⟩
theorem Ec (x:Int) (w:World) :
  Calls Tryz.prog 115 #[.int .i32 x] w fun e w'=>e=.returned (.bool (Kv x))∧w'=w:=by
 have ways:x≤8∨x=9∨x=10∨(11≤x∧x≤31)∨x=32∨33≤x:=by omega
 rcases ways with h|rfl|rfl|h|rfl|h
 · -- None..8
   have g0:((x==10))=false:=by simp;omega
   have g1:((x==9))=false:=by simp;omega
   have g2:((x==32))=false:=by simp;omega
   go_enter Tryz.func115,Tryz.ntmps115
   go_wp2_with fail;go_ret;exact⟨Qw (by unfold Kv;first | (simp;done) | (simp;omega) | (simp only[Qt,Za,Qe,decide_eq_true_eq,beq_iff_eq,Bool.false_eq_true,true_iff,false_iff];omega)),rfl⟩
 · -- 9..9
   go_enter Tryz.func115,Tryz.ntmps115
   go_wp2_with fail;go_ret;exact⟨Qw (by unfold Kv;first | (simp;done) | (simp;omega) | (simp only[Qt,Za,Qe,decide_eq_true_eq,beq_iff_eq,Bool.false_eq_true,true_iff,false_iff];omega)),rfl⟩
 · -- 10..10
   go_enter Tryz.func115,Tryz.ntmps115
   go_wp2_with fail;go_ret;exact⟨Qw (by unfold Kv;first | (simp;done) | (simp;omega) | (simp only[Qt,Za,Qe,decide_eq_true_eq,beq_iff_eq,Bool.false_eq_true,true_iff,false_iff];omega)),rfl⟩
 · -- 11..31
   have g0:((x==10))=false:=by simp;omega
   have g1:((x==9))=false:=by simp;omega
   have g2:((x==32))=false:=by simp;omega
   go_enter Tryz.func115,Tryz.ntmps115
   go_wp2_with fail;go_ret;exact⟨Qw (by unfold Kv;first | (simp;done) | (simp;omega) | (simp only[Qt,Za,Qe,decide_eq_true_eq,beq_iff_eq,Bool.false_eq_true,true_iff,false_iff];omega)),rfl⟩
 · -- 32..32
   go_enter Tryz.func115,Tryz.ntmps115
   go_wp2_with fail;go_ret;exact⟨Qw (by unfold Kv;first | (simp;done) | (simp;omega) | (simp only[Qt,Za,Qe,decide_eq_true_eq,beq_iff_eq,Bool.false_eq_true,true_iff,false_iff];omega)),rfl⟩
 · -- 33..None
   have g0:((x==10))=false:=by simp;omega
   have g1:((x==9))=false:=by simp;omega
   have g2:((x==32))=false:=by simp;omega
   go_enter Tryz.func115,Tryz.ntmps115
   go_wp2_with fail;go_ret;exact⟨Qw (by unfold Kv;first | (simp;done) | (simp;omega) | (simp only[Qt,Za,Qe,decide_eq_true_eq,beq_iff_eq,Bool.false_eq_true,true_iff,false_iff];omega)),rfl⟩
theorem Fr (x:Int) (w:World) :
  Calls Tryz.prog 118 #[.int .i32 x] w fun e w'=>e=.returned (.bool (Dy x))∧w'=w:=by
 have h1:=fun w=>Bf x w
 have h2:=fun w=>Yd x w
 unfold Dy;obtain⟨p,hp⟩:∃ p,Xi x=p:=⟨_,rfl⟩;obtain⟨q,hq⟩:∃ q,V0 x=q:=⟨_,rfl⟩;obtain⟨r,hr⟩:∃ r,(x==45)=r:=⟨_,rfl⟩;rw[hp]at h1;rw[hq]at h2;rw[hp,hq,hr];have H1:=Q1 h1;have H2:=Q1 h2;clear h1 h2 hp hq
 cases p
 · cases q
   · go_enter Tryz.func118,Tryz.ntmps118
     go_wp2_with fail
     ((with_reducible refine(H1.out _).mono ?_);rintro e w' ⟨rfl,rfl⟩)
     go_wp2_with fail
     ((with_reducible refine(H2.out _).mono ?_);rintro e w' ⟨rfl,rfl⟩)
     go_wp2_with fail;go_ret;exact⟨rfl,rfl⟩
   · go_enter Tryz.func118,Tryz.ntmps118
     go_wp2_with fail
     ((with_reducible refine(H1.out _).mono ?_);rintro e w' ⟨rfl,rfl⟩)
     go_wp2_with fail
     ((with_reducible refine(H2.out _).mono ?_);rintro e w' ⟨rfl,rfl⟩)
     go_wp2_with fail;go_ret;exact⟨rfl,rfl⟩
 · go_enter Tryz.func118,Tryz.ntmps118
   go_wp2_with fail
   ((with_reducible refine(H1.out _).mono ?_);rintro e w' ⟨rfl,rfl⟩)
   go_wp2_with fail;go_ret;exact⟨rfl,rfl⟩
theorem Pl (a b:Int) (w:World) :
  Calls Tryz.prog 119 #[.int .i32 a,.int .i32 b] w fun e w'=>e=.returned (.bool (Su a b))∧w'=w:=by
 unfold Su;obtain⟨p,hp⟩:∃ p,(a==92)=p:=⟨_,rfl⟩;obtain⟨q,hq⟩:∃ q,(b != 10)=q:=⟨_,rfl⟩;rw[hp,hq]
 cases p
 all_goals
  go_enter Tryz.func119,Tryz.ntmps119
  go_wp2_with fail;go_ret;exact⟨rfl,rfl⟩
theorem Mu (a b c:Int) (w:World) :
  Calls Tryz.prog 120 #[.int .i32 a,.int .i32 b,.int .i32 c] w fun e w'=>e=.returned (.bool (Pw a b c))∧w'=w:=by
 by_cases ha:a=45
 · subst ha
   have h1:=fun w=>Bf b w
   have h2:=fun w=>Pl b c w
   unfold Pw;rw[if_pos rfl];obtain⟨p,hp⟩:∃ p,Xi b=p:=⟨_,rfl⟩;obtain⟨q,hq⟩:∃ q,Su b c=q:=⟨_,rfl⟩;obtain⟨r,hr⟩:∃ r,(b==45)=r:=⟨_,rfl⟩;rw[hp]at h1;rw[hq]at h2;rw[hp,hq,hr];have H1:=Q1 h1;have H2:=Q1 h2;clear h1 h2 hp hq
   cases p
   · cases r
     · go_enter Tryz.func120,Tryz.ntmps120
       go_wp2_with fail
       ((with_reducible refine(H1.out _).mono ?_);rintro e w' ⟨rfl,rfl⟩)
       go_wp2_with fail
       ((with_reducible refine(H2.out _).mono ?_);rintro e w' ⟨rfl,rfl⟩)
       go_wp2_with fail;go_ret;exact⟨rfl,rfl⟩
     · go_enter Tryz.func120,Tryz.ntmps120
       go_wp2_with fail
       ((with_reducible refine(H1.out _).mono ?_);rintro e w' ⟨rfl,rfl⟩)
       go_wp2_with fail;go_ret;exact⟨rfl,rfl⟩
   · go_enter Tryz.func120,Tryz.ntmps120
     go_wp2_with fail
     ((with_reducible refine(H1.out _).mono ?_);rintro e w' ⟨rfl,rfl⟩)
     go_wp2_with fail;go_ret;exact⟨rfl,rfl⟩
 · have h1:=fun w=>Bf a w
   have h2:=fun w=>Pl a b w
   have ga:(a==45)=false:=by simpa using ha
   unfold Pw;rw[if_neg ha];obtain⟨p,hp⟩:∃ p,Xi a=p:=⟨_,rfl⟩;obtain⟨q,hq⟩:∃ q,Su a b=q:=⟨_,rfl⟩;rw[hp]at h1;rw[hq]at h2;rw[hp,hq];have H1:=Q1 h1;have H2:=Q1 h2;clear h1 h2 hp hq
   cases p
   · go_enter Tryz.func120,Tryz.ntmps120
     go_wp2_with fail
     ((with_reducible refine(H1.out _).mono ?_);rintro e w' ⟨rfl,rfl⟩)
     go_wp2_with fail
     ((with_reducible refine(H2.out _).mono ?_);rintro e w' ⟨rfl,rfl⟩)
     go_wp2_with fail;go_ret;exact⟨rfl,rfl⟩
   · go_enter Tryz.func120,Tryz.ntmps120
     go_wp2_with fail
     ((with_reducible refine(H1.out _).mono ?_);rintro e w' ⟨rfl,rfl⟩)
     go_wp2_with fail;go_ret;exact⟨rfl,rfl⟩
theorem Fq (a b c:Int) (w:World) :
  Calls Tryz.prog 122 #[.int .i32 a,.int .i32 b,.int .i32 c] w fun e w'=>e=.returned (.bool (Q7b a b c))∧w'=w:=by
 have key:∀ (x y:Int) (S:Bool),(V0 x||(x==46&&V0 y))=S→∃ p q r,V0 x=p∧(x==46)=q∧V0 y=r∧(p||(q&&r))=S:=fun x y S h=>⟨_,_,_,rfl,rfl,rfl,h⟩
 by_cases ha:a=43∨a=45
 · unfold Q7b;rw[if_pos ha]
   have h1:=fun w=>Yd b w
   have h2:=fun w=>Yd c w
   obtain⟨p,hp⟩:∃ p,V0 b=p:=⟨_,rfl⟩;obtain⟨q,hq⟩:∃ q,V0 c=q:=⟨_,rfl⟩;obtain⟨r,hr⟩:∃ r,(b==46)=r:=⟨_,rfl⟩;rw[hp]at h1;rw[hq]at h2;rw[hp,hq,hr];have H1:=Q1 h1;have H2:=Q1 h2;clear h1 h2 hp hq key
   rcases ha with rfl|rfl
   all_goals
    cases p
    · cases r
      · go_enter Tryz.func122,Tryz.ntmps122
        go_wp2_with fail
        ((with_reducible refine(H1.out _).mono ?_);rintro e w' ⟨rfl,rfl⟩)
        go_wp2_with fail;go_ret;exact⟨rfl,rfl⟩
      · go_enter Tryz.func122,Tryz.ntmps122
        go_wp2_with fail
        ((with_reducible refine(H1.out _).mono ?_);rintro e w' ⟨rfl,rfl⟩)
        go_wp2_with fail
        ((with_reducible refine(H2.out _).mono ?_);rintro e w' ⟨rfl,rfl⟩)
        go_wp2_with fail;go_ret;exact⟨rfl,rfl⟩
    · go_enter Tryz.func122,Tryz.ntmps122
      go_wp2_with fail
      ((with_reducible refine(H1.out _).mono ?_);rintro e w' ⟨rfl,rfl⟩)
      go_wp2_with fail;go_ret;exact⟨rfl,rfl⟩
 · unfold Q7b;rw[if_neg ha]
   have g1:(a==43)=false:=by simp;omega
   have g2:(a==45)=false:=by simp;omega
   have h1:=fun w=>Yd a w
   have h2:=fun w=>Yd b w
   obtain⟨p,hp⟩:∃ p,V0 a=p:=⟨_,rfl⟩;obtain⟨q,hq⟩:∃ q,V0 b=q:=⟨_,rfl⟩;obtain⟨r,hr⟩:∃ r,(a==46)=r:=⟨_,rfl⟩;rw[hp]at h1;rw[hq]at h2;rw[hp,hq,hr];have H1:=Q1 h1;have H2:=Q1 h2;clear h1 h2 hp hq key ha
   cases p
   · cases r
     · go_enter Tryz.func122,Tryz.ntmps122
       go_wp2_with fail
       ((with_reducible refine(H1.out _).mono ?_);rintro e w' ⟨rfl,rfl⟩)
       go_wp2_with fail;go_ret;exact⟨rfl,rfl⟩
     · go_enter Tryz.func122,Tryz.ntmps122
       go_wp2_with fail
       ((with_reducible refine(H1.out _).mono ?_);rintro e w' ⟨rfl,rfl⟩)
       go_wp2_with fail
       ((with_reducible refine(H2.out _).mono ?_);rintro e w' ⟨rfl,rfl⟩)
       go_wp2_with fail;go_ret;exact⟨rfl,rfl⟩
   · go_enter Tryz.func122,Tryz.ntmps122
     go_wp2_with fail
     ((with_reducible refine(H1.out _).mono ?_);rintro e w' ⟨rfl,rfl⟩)
     go_wp2_with fail;go_ret;exact⟨rfl,rfl⟩
end Go.Proofs.YtnanffmhbjdpaaaGreatDoor
