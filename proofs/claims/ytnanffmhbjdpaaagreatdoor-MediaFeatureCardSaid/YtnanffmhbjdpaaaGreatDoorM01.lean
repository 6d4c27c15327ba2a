/- Of my texts: RatMath. -/
import Derived.Test.YtnanffmhbjdpaaaGreatDoorM00
namespace Go.Proofs.YtnanffmhbjdpaaaGreatDoor
set_option linter.unusedVariables false
set_option linter.unusedSimpArgs false
theorem Q12 (A B da db:Nat) (ha:0<da) (hb:0<db) (h1:Nat.gcd A da=1) (h2:Nat.gcd B db=1) :
  Nat.gcd (A*B) (da*db)=Nat.gcd A db*Nat.gcd B da:=by
 have g1:Nat.gcd A db∣A:=Nat.gcd_dvd_left _ _;have g2:Nat.gcd A db∣db:=Nat.gcd_dvd_right _ _;have k1:Nat.gcd B da∣B:=Nat.gcd_dvd_left _ _;have k2:Nat.gcd B da∣da:=Nat.gcd_dvd_right _ _;have gp:0<Nat.gcd A db:=Nat.gcd_pos_of_pos_right _ hb;have kp:0<Nat.gcd B da:=Nat.gcd_pos_of_pos_right _ ha;have c1:=Nat.coprime_div_gcd_div_gcd gp;have c2:=Nat.coprime_div_gcd_div_gcd kp;generalize Nat.gcd A db=g at *;generalize Nat.gcd B da=k at *;obtain⟨a,rfl⟩:=g1;obtain⟨b,rfl⟩:=k1;obtain⟨e,rfl⟩:=g2;obtain⟨f,rfl⟩:=k2;rw[Nat.mul_div_cancel_left _ gp,Nat.mul_div_cancel_left _ gp]at c1;rw[Nat.mul_div_cancel_left _ kp,Nat.mul_div_cancel_left _ kp]at c2
 have e1:g*a*(k*b)=g*k*(a*b):=by
  simp only[Nat.mul_assoc,Nat.mul_left_comm]
 have e2:k*f*(g*e)=g*k*(e*f):=by
  simp only[Nat.mul_comm,Nat.mul_left_comm]
 rw[e1,e2,Nat.gcd_mul_left];have x1:Nat.Coprime a f:=Nat.Coprime.coprime_dvd_left ⟨g,Nat.mul_comm _ _⟩ (Nat.Coprime.coprime_dvd_right ⟨k,Nat.mul_comm _ _⟩ h1);have x2:Nat.Coprime b e:=Nat.Coprime.coprime_dvd_left ⟨k,Nat.mul_comm _ _⟩ (Nat.Coprime.coprime_dvd_right ⟨g,Nat.mul_comm _ _⟩ h2)
 have x3:Nat.gcd (a*b) (e*f)=1 :=
  Nat.Coprime.mul_left (Nat.Coprime.mul_right c1 x1) (Nat.Coprime.mul_right x2 c2)
 rw[x3,Nat.mul_one]
def Ls:Nat:=9223372036854775807
def Xs (neg:Bool) (n d:Nat):Int×Int :=
 if d=0∨Ls<n / Nat.gcd n d∨Ls<d / Nat.gcd n d then (0,0)
 else (if neg then -((n / Nat.gcd n d:Nat):Int) else ((n / Nat.gcd n d:Nat):Int),((d / Nat.gcd n d:Nat):Int))
theorem T4 (neg:Bool) (g n d:Nat) (hg:0<g):Xs neg (g*n) (g*d)=Xs neg n d:=by
 unfold Xs;rw[Nat.gcd_mul_left,Nat.mul_div_mul_left _ _ hg,Nat.mul_div_mul_left _ _ hg]
 have:g*d=0↔d=0:=by
  rw[Nat.mul_eq_zero];omega
 simp only[this]
theorem T3 (neg:Bool) (n d:Nat) (hd:0<d):Xs neg n d=Xs neg (n / Nat.gcd n d) (d / Nat.gcd n d):=by
 have gp:=Nat.gcd_pos_of_pos_right n hd;have h1:=Nat.mul_div_cancel' (Nat.gcd_dvd_left n d);have h2:=Nat.mul_div_cancel' (Nat.gcd_dvd_right n d);have e:=T4 neg (n.gcd d) (n / n.gcd d) (d / n.gcd d) gp;rw[h1,h2]at e;exact e
theorem Sq (neg:Bool) (d:Nat) (hd:0<d):Xs neg 0 d=(0,1):=by
 unfold Xs;rw[Nat.gcd_zero_left,Nat.div_self hd,Nat.zero_div];rw[if_neg (by unfold Ls;omega)]
 cases neg<;>rfl
def C5 (neg:Bool) (n d:Nat):Int×Int :=
 if d=0∨Ls<n∨Ls<d then (0,0) else (if neg then -(n:Int) else (n:Int),(d:Int))
theorem T5 (neg:Bool) (n d:Nat) (h:Nat.gcd n d=1):Xs neg n d=C5 neg n d:=by
 unfold Xs C5;rw[h,Nat.div_one,Nat.div_one]
theorem Sp (n d:Nat) (hd:0<d):Nat.gcd (n / Nat.gcd n d) (d / Nat.gcd n d)=1 :=
 Nat.coprime_div_gcd_div_gcd (Nat.gcd_pos_of_pos_right n hd)
theorem Q7a (neg:Bool) (n d:Nat) (hd:0<d):Xs neg n d=C5 neg (n / Nat.gcd n d) (d / Nat.gcd n d):=by
 rw[T3 neg n d hd];exact T5 _ _ _ (Sp n d hd)
theorem Q13 (neg:Bool) (A B da db:Nat) (ha:0<da) (hb:0<db) (h1:Nat.gcd A da=1) (h2:Nat.gcd B db=1) :
  Xs neg (A*B) (da*db)=C5 neg (A / Nat.gcd A db*(B / Nat.gcd B da)) (da / Nat.gcd B da*(db / Nat.gcd A db)):=by
 rw[Q7a neg _ _ (Nat.mul_pos ha hb),Q12 A B da db ha hb h1 h2];have g1:Nat.gcd A db∣A:=Nat.gcd_dvd_left _ _;have g2:Nat.gcd A db∣db:=Nat.gcd_dvd_right _ _;have k1:Nat.gcd B da∣B:=Nat.gcd_dvd_left _ _;have k2:Nat.gcd B da∣da:=Nat.gcd_dvd_right _ _;rw[Nat.mul_div_mul_comm g1 k1,Nat.mul_comm (Nat.gcd A db) (Nat.gcd B da),Nat.mul_div_mul_comm k2 g2]
theorem Lu (neg:Bool) (n d:Nat) (h:Ls<n∨Ls<d):C5 neg n d=(0,0):=by
 unfold C5;rw[if_pos (Or.inr h)]
abbrev Rt:=Int×Int
def Q88 (r:Rt):Prop:=1≤r.2∧r.1≠-9223372036854775808∧Nat.gcd r.1.natAbs r.2.toNat=1
def U2 (r:Rt):Prop:=-9223372036854775808≤r.1∧r.1≤9223372036854775807∧-9223372036854775808≤r.2∧r.2≤9223372036854775807
def Mk (a b:Rt):Int:=if a.1*b.2<b.1*a.2 then -1 else if b.1*a.2<a.1*b.2 then 1 else 0
theorem Tl {a b:Rt} (ha:1≤a.2) (hb:1≤b.2) (h1:a.1<0) (h2:¬ b.1<0):Mk a b=-1:=by
 unfold Mk;have e1:a.1*b.2<0:=Int.mul_neg_of_neg_of_pos h1 (by omega);have e2:0≤b.1*a.2:=Int.mul_nonneg (by omega) (by omega);rw[if_pos (by omega)]
theorem Ab {a b:Rt} (ha:1≤a.2) (hb:1≤b.2) (h1:¬ a.1<0) (h2:b.1<0):Mk a b=1:=by
 unfold Mk;have e1:b.1*a.2<0:=Int.mul_neg_of_neg_of_pos h2 (by omega);have e2:0≤a.1*b.2:=Int.mul_nonneg (by omega) (by omega);rw[if_neg (by omega),if_pos (by omega)]
def Xu (a b:Rt):Nat:=a.1.natAbs*b.2.toNat
theorem Mg {a b:Rt} (hb:1≤b.2) (h:¬ a.1<0):(Xu a b:Int)=a.1*b.2:=by
 unfold Xu;rw[Int.natCast_mul,Int.toNat_of_nonneg (by omega),show (a.1.natAbs:Int)=a.1 from by omega]
theorem Mh {a b:Rt} (hb:1≤b.2) (h:a.1<0):(Xu a b:Int)=-(a.1*b.2):=by
 unfold Xu;rw[Int.natCast_mul,Int.toNat_of_nonneg (by omega),show (a.1.natAbs:Int)=-a.1 from by omega,Int.neg_mul]
theorem Q52 {a b:Rt} (ha:1≤a.2) (hb:1≤b.2) (h1:¬ a.1<0) (h2:¬ b.1<0) :
  Mk a b=if Xu a b<Xu b a then -1 else if Xu b a<Xu a b then 1 else 0:=by
 unfold Mk;have e1:=Mg hb h1;have e2:=Mg ha h2;rw[← e1,← e2];simp only[Int.ofNat_lt]
theorem Q53 {a b:Rt} (ha:1≤a.2) (hb:1≤b.2) (h1:a.1<0) (h2:b.1<0) :
  Mk a b=if Xu b a<Xu a b then -1 else if Xu a b<Xu b a then 1 else 0:=by
 unfold Mk;have e1:=Mh hb h1;have e2:=Mh ha h2;rw[show a.1*b.2=-(Xu a b:Int) from by omega,show b.1*a.2=-(Xu b a:Int) from by omega];simp only[Int.neg_lt_neg_iff,Int.ofNat_lt]
end Go.Proofs.YtnanffmhbjdpaaaGreatDoor
