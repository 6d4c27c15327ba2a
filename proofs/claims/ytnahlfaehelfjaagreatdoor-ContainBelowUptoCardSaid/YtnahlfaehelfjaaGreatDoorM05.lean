/- Of my texts: TextM, DecM, TextP, TextW, TextV, DecV, TokM, ValM, TextR, FlatM. -/
import Derived.Test.YtnahlfaehelfjaaGreatDoorM04
import Derived.Lib.ItoaNum
import Derived.Deep.LoopGhost
import Derived.OwnWalk
namespace Go.Proofs.YtnahlfaehelfjaaGreatDoor
set_option linter.unusedVariables false
set_option linter.unusedSimpArgs false
open Go.Lib
theorem snoc_ind {α:Type} {P:List α→Prop} (h0:P []) (h1:∀ l c,P l→P (l++[c])) (l:List α):P l:=by
 have key:∀ r:List α,P r.reverse:=by
  intro r
  induction r with
  | nil=>exact h0
  | cons a r ih=>rw[List.reverse_cons];exact h1 _ _ ih
 have:=key l.reverse;rwa [List.reverse_reverse]at this
def isD (c:UInt8):Bool:=decide (48≤c.toNat)&&decide (c.toNat≤57)
def valD (l:List UInt8):Nat:=l.foldl (fun n c=>n*10+(c.toNat-48)) 0
theorem valD_snoc (l:List UInt8) (c:UInt8):valD (l++[c])=valD l*10+(c.toNat-48):=by
 unfold valD;rw[List.foldl_append];rfl
theorem val_pos:∀ (l:List UInt8),l.all isD=true→l≠[]→l.head?≠some 48→1≤valD l:=by
 intro l;refine snoc_ind (P:=fun l=>l.all isD=true→l≠[]→l.head?≠some 48→1≤valD l) ?_ ?_ l
 · intro _ h;exact absurd rfl h
 · intro l c ih;intro hall _ hh;rw[valD_snoc];rw[List.all_append]at hall;simp only[List.all_cons,List.all_nil,Bool.and_true,Bool.and_eq_true]at hall
   cases l with
   | nil =>
     have hc:=hall.2;simp only[isD,Bool.and_eq_true,decide_eq_true_eq]at hc;simp only[List.nil_append,List.head?_cons,ne_eq,Option.some.injEq]at hh
     have:c.toNat≠48:=fun e=>hh (by rw[← UInt8.toNat_inj];exact e)
     omega
   | cons a l =>
     have:=ih hall.1 (by simp) (by simpa using hh);omega
def signC (s:List UInt8):Bool:=(s.head?==some 43)||(s.head?==some 45)
def signN (s:List UInt8):Bool:=s.head?==some 45
def signS (s:List UInt8):List UInt8:=if signC s then s.tail else s
def capD (l:List UInt8):Nat:=l.foldl (fun n c=>min 1099511627776 (n*10+(c.toNat-48))) 0
theorem capD_snoc (l:List UInt8) (c:UInt8):capD (l++[c])=min 1099511627776 (capD l*10+(c.toNat-48)):=by
 unfold capD;rw[List.foldl_append];rfl
theorem capD_le (l:List UInt8):capD l≤1099511627776:=by
 refine snoc_ind (P:=fun l=>capD l≤1099511627776) (by decide) (fun l c _=>?_) l;rw[capD_snoc];omega
def expF (r:List UInt8) (w:Bool):Option (Int×Bool) :=
 if r=[] then some (0,w) else
  if r.head?=some 101∨r.head?=some 69 then
   if signS r.tail=[]∨(signS r.tail).all isD=false then none
   else some (if signN r.tail then -(capD (signS r.tail):Int) else capD (signS r.tail),false)
  else none
def pointF (r:List UInt8):Option (List UInt8×Bool×List UInt8) :=
 if r.head?=some 46 then
  if r.tail.takeWhile isD=[] then none else some (r.tail.takeWhile isD,false,r.tail.dropWhile isD)
 else some ([],true,r)
def partsF (s:List UInt8):Option (Bool×List UInt8×Nat×Int×Bool) :=
 match pointF ((signS s).dropWhile isD) with
 | none=>none
 | some (f,w0,r) =>
   if (signS s).takeWhile isD++f=[] then none else
    match expF r w0 with
    | none=>none
    | some (e,w)=>some (signN s,(signS s).takeWhile isD++f,f.length,e,w)
def tenF:Nat→Nat→Option Nat
 | 0,n=>some n
 | k+1,n=>if 922337203685477580<n then none else tenF k (n*10)
def stripF (b:Nat):Nat→Nat→Nat×Nat
 | 0,n=>(n,0)
 | k+1,n=>if n % b=0 then stripF b k (n / b) else (n,k+1)
def upF (b:Nat):Nat→Nat→Option Nat
 | 0,d=>some d
 | k+1,d=>if 9223372036854775807 / b<d then none else upF b k (d*b)
theorem upF_eq (b:Nat) (hb:2≤b):∀ (k d:Nat),1≤d→d≤9223372036854775807→upF b k d=if d*b ^ k≤9223372036854775807 then some (d*b ^ k) else none:=by
 intro k
 induction k with
 | zero=>intro d _ h;rw[upF,Nat.pow_zero,Nat.mul_one,if_pos h]
 | succ k ih =>
   intro d h1 h2
   have hlt:9223372036854775807 / b<d↔¬ d*b≤9223372036854775807:=by
    rw[Nat.not_le,Nat.div_lt_iff_lt_mul (by omega)]
   rw[upF,Nat.pow_succ,Nat.mul_comm (b ^ k) b,← Nat.mul_assoc]
   by_cases h:9223372036854775807 / b<d
   · rw[if_pos h,if_neg];have h3:=hlt.1 h;have:1≤b ^ k:=Nat.one_le_pow _ _ (by omega);have h4:d*b≤d*b*b ^ k:=Nat.le_mul_of_pos_right _ this;omega
   · rw[if_neg h];have h3:d*b≤9223372036854775807:=Nat.not_lt.1 (fun h4=>h (hlt.2 (by omega)));exact ih _ (Nat.mul_pos h1 (by omega)) h3
theorem strip_le (b:Nat):∀ (k n:Nat),(stripF b k n).2≤k:=by
 intro k
 induction k with
 | zero=>intro n;exact Nat.le_refl _
 | succ k ih =>
   intro n;rw[stripF];split
   · exact Nat.le_succ_of_le (ih _)
   · exact Nat.le_refl _
theorem strip_pow (b:Nat) (hb:2≤b):∀ (k n:Nat),1≤n→b ^ (k-(stripF b k n).2)≤n∧1≤(stripF b k n).1∧(stripF b k n).1≤n:=by
 intro k
 induction k with
 | zero=>intro n h;simpa[stripF] using h
 | succ k ih =>
   intro n h;rw[stripF];split
   · rename_i h0
     have hd:b*(n / b)=n:=by have:=Nat.div_add_mod n b;omega
     have h1:1≤n / b:=by
      rcases Nat.eq_zero_or_pos (n / b) with h2 | h2
      · rw[h2]at hd;omega
      · exact h2
     obtain⟨i1,i2,i3⟩:=ih (n / b) h1;have hle:=strip_le b k (n / b);refine⟨?_,i2,Nat.le_trans i3 (Nat.div_le_self _ _)⟩;rw[show k+1-(stripF b k (n / b)).2=(k-(stripF b k (n / b)).2)+1 by omega,Nat.pow_succ,Nat.mul_comm]
     calc b*b ^ (k-(stripF b k (n / b)).2)≤b*(n / b):=Nat.mul_le_mul_left _ i1
      _=n:=hd
   · exact⟨by rw[Nat.sub_self];exact h,h,Nat.le_refl _⟩
def scaleF (neg:Bool) (num:Nat) (q:Int):Rt :=
 if 0<q then
  match tenF q.toNat num with
  | none=>(0,0)
  | some m=>(if neg then -(m:Int) else m,1)
 else
  match (upF 2 (stripF 2 (-q).toNat num).2 1).bind (upF 5 (stripF 5 (-q).toNat (stripF 2 (-q).toNat num).1).2) with
  | none=>(0,0)
  | some d=>(if neg then -((stripF 5 (-q).toNat (stripF 2 (-q).toNat num).1).1:Int) else ((stripF 5 (-q).toNat (stripF 2 (-q).toNat num).1).1:Int),(d:Int))
theorem five_28:(5:Nat) ^ 28=37252902984619140625:=by decide
theorem up_five {f d:Nat} (hd:1≤d) (h:28≤f):upF 5 f d=none:=by
 rcases Nat.lt_or_ge 9223372036854775807 d with h2 | h2
 · obtain⟨f',rfl⟩:∃ f',f=f'+1:=⟨f-1,by omega⟩;rw[upF,if_pos (by omega)]
 · rw[upF_eq 5 (by decide) f d hd h2,if_neg];have h3:(5:Nat) ^ 28≤5 ^ f:=Nat.pow_le_pow_right (by decide) h;have h4:5 ^ f≤d*5 ^ f:=Nat.le_mul_of_pos_left _ hd;rw[five_28]at h3;omega
theorem two_63:(2:Nat) ^ 63=9223372036854775808:=by decide
theorem up_two {t:Nat}:upF 2 t 1=if t≤62 then some (2 ^ t) else none:=by
 rw[upF_eq 2 (by decide) t 1 (by decide) (by decide),Nat.one_mul]
 by_cases h:t≤62
 · have h3:(2:Nat) ^ t≤2 ^ 62:=Nat.pow_le_pow_right (by decide) h
   have h4:(2:Nat) ^ 62=4611686018427387904:=by decide
   rw[if_pos h,if_pos (by omega)]
 · have h3:(2:Nat) ^ 63≤2 ^ t:=Nat.pow_le_pow_right (by decide) (by omega);rw[if_neg h,if_neg (by rw[two_63]at h3;omega)]
def trimR (l:List UInt8):List UInt8:=(l.reverse.dropWhile (·==48)).reverse
theorem trimR_nought (l:List UInt8):trimR (l++[48])=trimR l:=by simp[trimR]
theorem trimR_stop {l:List UInt8} {c:UInt8} (h:c≠48):trimR (l++[c])=l++[c]:=by
 simp[trimR,h]
def valueF (neg:Bool) (ds:List UInt8) (p:Int):Rt :=
 if ds.dropWhile (·==48)=[] then (0,1) else
  if 18<(trimR (ds.dropWhile (·==48))).length then (0,0) else
   scaleF neg (valD (trimR (ds.dropWhile (·==48)))) (p+((ds.dropWhile (·==48)).length-(trimR (ds.dropWhile (·==48))).length:Nat))
def decimalF (s:List UInt8):Rt×Bool×Bool :=
 match partsF s with
 | none=>((0,0),false,false)
 | some (neg,ds,k,e,w)=>(valueF neg ds (e-k),w,true)
theorem take_all {p:UInt8→Bool} {l m:List UInt8} (h:l.all p=true) (hm:∀ a,m.head?=some a→p a=false):(l++m).takeWhile p=l∧(l++m).dropWhile p=m:=by
 induction l with
 | nil =>
   cases m with
   | nil=>exact⟨rfl,rfl⟩
   | cons a m =>
     have:=hm a rfl;simp[this]
 | cons a l ih =>
   simp only[List.all_cons,Bool.and_eq_true]at h;obtain⟨h1,h2⟩:=ih h.2;simp[h.1,h1,h2]
end Go.Proofs.YtnahlfaehelfjaaGreatDoor
namespace Go.Proofs.YtnahlfaehelfjaaGreatDoor
set_option linter.unusedVariables false
set_option linter.unusedSimpArgs false
open Go.RowKit Go.Lib
@[go_sem] theorem ba_get (l:List UInt8) (i:Nat) (h:i<(⟨l.toArray⟩:ByteArray).size):(⟨l.toArray⟩:ByteArray)[i]'h=l[i]'h:=rfl
theorem take_step {l:List UInt8} {i:Nat} (h:i<l.length):((l.drop i).takeWhile isD).length=if isD l[i] then 1+((l.drop (i+1)).takeWhile isD).length else 0:=by
 rw[List.drop_eq_getElem_cons h,List.takeWhile_cons];split
 · rw[List.length_cons];omega
 · rfl
theorem bytes_conv (m:List UInt8) (w:World):∃ (cap:Nat) (w1:World),(convert 9 95 (.string ⟨m.toArray⟩)).run Tryz.prog w=.ok (.slice (some ⟨w.heap.size,0,none⟩) m.length cap) w1∧Below w.heap.size w w1 ∧
  w.heap.size<w1.heap.size∧∀ (i:Nat) (c:UInt8),m[i]?=some c→w1.cell? ⟨w.heap.size,i,none⟩=some (.int .u8 (c.toNat:Int)):=by
 have h:=run_bytes_of_string (P:=Tryz.prog) w 9 95 5 ⟨m.toArray⟩ Tryz.underlying9 Tryz.underlying95 Tryz.underlying5;refine⟨_,_,h,((Below.refl _ _).drew.alloc (Nat.le_refl _) _),by simp,fun i c hc=>?_⟩;obtain⟨hi,rfl⟩:=List.getElem?_eq_some_iff.1 hc;rw[cell_of_row _ w.heap.size i _ _ _ (heap_alloc_new w.drew _)];exact bytesRow_at ⟨m.toArray⟩ _ i hi
theorem val_lt:∀ (l:List UInt8),l.all isD=true→valD l<10 ^ l.length:=by
 intro l;refine snoc_ind (P:=fun l=>l.all isD=true→valD l<10 ^ l.length) ?_ ?_ l
 · intro _;decide
 · intro l c ih h;rw[List.all_append]at h;simp only[List.all_cons,List.all_nil,Bool.and_true,Bool.and_eq_true,isD,decide_eq_true_eq]at h;have:=ih h.1;rw[valD_snoc,List.length_append,List.length_singleton,Nat.pow_succ];omega
end Go.Proofs.YtnahlfaehelfjaaGreatDoor
namespace Go.Proofs.YtnahlfaehelfjaaGreatDoor
set_option linter.unusedVariables false
set_option linter.unusedSimpArgs false
open Go.Lib
theorem trim_cat (l:List UInt8):∃ k,l=trimR l++List.replicate k 48:=by
 refine snoc_ind (P:=fun l=>∃ k,l=trimR l++List.replicate k 48) ⟨0,rfl⟩ (fun l c ih=>?_) l
 by_cases h:c=48
 · subst h;obtain⟨k,hk⟩:=ih;refine⟨k+1,?_⟩;rw[trimR_nought,List.replicate_succ',← List.append_assoc,← hk]
 · exact⟨0,by rw[trimR_stop h];simp⟩
theorem trim_all {l:List UInt8} (h:l.all isD=true):(trimR l).all isD=true:=by
 obtain⟨k,hk⟩:=trim_cat l;rw[hk,List.all_append,Bool.and_eq_true]at h;exact h.1
theorem trim_head {l:List UInt8} (hne:l≠[]) (h:l.head?≠some 48):trimR l≠[]∧(trimR l).head?≠some 48:=by
 obtain⟨k,hk⟩:=trim_cat l
 have h1:trimR l≠[]:=by
  intro e;rw[e,List.nil_append]at hk
  cases k with
  | zero=>exact hne hk
  | succ k=>rw[hk]at h;exact h rfl
 refine⟨h1,fun e=>h ?_⟩
 cases ht:trimR l with
 | nil=>exact absurd ht h1
 | cons a b=>rw[ht]at hk e;rw[hk];exact e
theorem drop_head (l:List UInt8):(l.dropWhile (·==48)).head?≠some 48:=by
 induction l with
 | nil=>simp
 | cons a b ih =>
   by_cases h:(a==48)=true
   · rw[List.dropWhile_cons_of_pos (p:=(·==48)) h];exact ih
   · rw[List.dropWhile_cons_of_neg (p:=(·==48)) h];intro e;exact h (by simpa using e)
theorem drop_all {l:List UInt8} (h:l.all isD=true):(l.dropWhile (·==48)).all isD=true:=by
 rw[List.all_eq_true]at h ⊢
 exact fun x hx=>h x ((List.dropWhile_suffix _).subset hx)
theorem core_val {l:List UInt8} (h:l.all isD=true) (hne:l.dropWhile (·==48)≠[]) (hlen:(trimR (l.dropWhile (·==48))).length≤18) :
  1≤valD (trimR (l.dropWhile (·==48)))∧valD (trimR (l.dropWhile (·==48)))<1000000000000000000:=by
 obtain⟨h1,h2⟩:=trim_head hne (drop_head l);have h3:=trim_all (drop_all h);refine⟨val_pos _ h3 h1 h2,Nat.lt_of_lt_of_le (val_lt _ h3) ?_⟩;exact Nat.le_trans (Nat.pow_le_pow_right (by decide) hlen) (by decide)
theorem scale_nought (neg:Bool) (n:Nat):scaleF neg n 0=(if neg then -(n:Int) else n,1):=by
 simp[scaleF,stripF,upF]
theorem scale_step {neg:Bool} {n:Nat} {e:Int} (h:0<e) (h2:n≤922337203685477580):scaleF neg n e=scaleF neg (n*10) (e-1):=by
 have h3:tenF e.toNat n=tenF (e-1).toNat (n*10):=by
  rw[show e.toNat=(e-1).toNat+1 by omega,tenF,if_neg (by omega)]
 by_cases h1:e=1
 · subst h1;rw[show (1:Int)-1=0 from rfl,scale_nought];unfold scaleF;rw[if_pos h,h3];rfl
 · unfold scaleF;rw[if_pos h,if_pos (show 0<e-1 by omega),h3]
theorem scale_stop {neg:Bool} {n:Nat} {e:Int} (h:0<e) (h2:922337203685477580<n):scaleF neg n e=(0,0):=by
 unfold scaleF;rw[if_pos h,show e.toNat=(e-1).toNat+1 by omega,tenF,if_pos h2]
def downT (neg:Bool) (x:Option (Nat×Nat)):Rt :=
 match x with
 | none=>(0,0)
 | some (n,d)=>(if neg then -(n:Int) else n,(d:Int))
theorem scale_ref {neg:Bool} {n:Nat} {e:Int} {x y:Nat×Nat} (h:e≤0) (hx:stripF 2 (-e).toNat n=x) (hy:stripF 5 (-e).toNat x.1=y) :
  scaleF neg n e=if 62<x.2∨27<y.2 then (0,0) else
   match upF 5 y.2 (2 ^ x.2) with
   | none=>(0,0)
   | some d=>(if neg then -(y.1:Int) else y.1,(d:Int)):=by
 unfold scaleF;rw[if_neg (by omega),hx,hy,up_two]
 by_cases h1:x.2≤62
 · rw[if_pos h1,Option.bind_some]
   by_cases h2:y.2≤27
   · rw[if_neg (show ¬ (62<x.2∨27<y.2) by omega)]
     all_goals rfl
   · rw[if_pos (show 62<x.2∨27<y.2 by omega),up_five (Nat.one_le_pow _ _ (by decide)) (by omega)]
 · rw[if_neg h1,if_pos (show 62<x.2∨27<y.2 by omega)]
   all_goals rfl
theorem lead_step {l:List UInt8} {i:Nat} (h:i<l.length) (hc:l[i]=48):(l.drop (i+1)).dropWhile (·==48)=(l.drop i).dropWhile (·==48):=by
 rw[List.drop_eq_getElem_cons h,hc,List.dropWhile_cons_of_pos (by decide)]
theorem lead_stop {l:List UInt8} {i:Nat} (h:i<l.length) (hc:l[i]≠48):(l.drop i).dropWhile (·==48)=l.drop i:=by
 rw[List.drop_eq_getElem_cons h,List.dropWhile_cons_of_neg (by simpa using hc)]
theorem trail_step {l:List UInt8} {i b:Nat} (h:b<l.length) (hi:i≤b) (hc:l[b]=48):trimR ((l.take b).drop i)=trimR ((l.take (b+1)).drop i):=by
 have:l.take (b+1)=l.take b++[48]:=by rw[List.take_add_one,List.getElem?_eq_getElem h,hc];rfl
 rw[this,List.drop_append_of_le_length (by rw[List.length_take];omega),trimR_nought]
theorem trail_stop {l:List UInt8} {i b:Nat} (h:b<l.length) (hi:i≤b) (hc:l[b]≠48):trimR ((l.take (b+1)).drop i)=(l.take (b+1)).drop i:=by
 have:l.take (b+1)=l.take b++[l[b]]:=by rw[List.take_add_one,List.getElem?_eq_getElem h];rfl
 rw[this,List.drop_append_of_le_length (by rw[List.length_take];omega),trimR_stop hc]
theorem value_nought {neg:Bool} {ds:List UInt8} {p:Int} (h:ds.dropWhile (·==48)=[]):valueF neg ds p=(0,1):=by
 unfold valueF;rw[if_pos h]
theorem value_long {neg:Bool} {ds d:List UInt8} {p:Int} (hd:ds.dropWhile (·==48)=d) (h:d≠[]) (h2:18<(trimR d).length):valueF neg ds p=(0,0):=by
 unfold valueF;rw[hd,if_neg h,if_pos h2]
theorem value_short {neg:Bool} {ds d:List UInt8} {p:Int} (hd:ds.dropWhile (·==48)=d) (h:d≠[]) (h2:¬ 18<(trimR d).length):valueF neg ds p=scaleF neg (valD (trimR d)) (p+(d.length-(trimR d).length:Nat)):=by
 unfold valueF;rw[hd,if_neg h,if_neg h2]
end Go.Proofs.YtnahlfaehelfjaaGreatDoor
namespace Go.Proofs.YtnahlfaehelfjaaGreatDoor
set_option linter.unusedVariables false
set_option linter.unusedSimpArgs false
structure Tk where
 kind:Int
 text:List UInt8
 num:Rt
 int:Bool
 id:Bool
deriving DecidableEq
def isC (x:Int):Bool:=decide (0≤x)&&decide (x≤1114111)&&(decide (x<55296)||decide (57343<x))
def needF (c:Nat):Nat×Nat×Nat :=
 if 194≤c∧c≤223 then (1,128,191) else if c=224 then (2,160,191) else if c=237 then (2,128,159) else if 225≤c∧c≤239 then (2,128,191)
 else if c=240 then (3,144,191) else if 241≤c∧c≤243 then (3,128,191) else if c=244 then (3,128,143) else (0,0,0)
def goF (b:List UInt8) (i:Nat):Nat→Nat→Nat→Nat→Nat→Int×Nat×Bool
 | 0,k,_,_,x=>((x:Int),k,true)
 | f+1,k,lo,hi,x =>
   match b[i+k]? with
   | none=>(65533,k,false)
   | some y=>if y.toNat<lo∨hi<y.toNat then (65533,k,false) else goF b i f (k+1) 128 191 (x*64+y.toNat % 64)
def oneF (b:List UInt8) (i:Nat):Int×Nat×Bool :=
 match b[i]? with
 | none=>(65533,1,false)
 | some c =>
   if c.toNat<128 then ((c.toNat:Int),1,true) else
    if (needF c.toNat).1=0 then (65533,1,false) else
     goF b i (needF c.toNat).1 1 (needF c.toNat).2.1 (needF c.toNat).2.2 (c.toNat % (64 / 2 ^ (needF c.toNat).1))
def rawF (b:List UInt8):Nat→Nat→List Int
 | 0,_=>[]
 | f+1,i=>if i<b.length then (oneF b i).1::rawF b f (i+(oneF b i).2.1) else []
def yF (x:Int):Int:=if x=13∨x=12 then 10 else if x=0 then 65533 else x
def decG:Int→List Int→List Int
 | _,[]=>[]
 | last,x::r=>if x=10∧last=13 then decG x r else yF x::decG x r
def bomF (b:List UInt8):List UInt8:=match b with
 | 239::187::191::r=>r
 | l=>l
def decodeF (b:List UInt8):List Int:=decG 0 (rawF (bomF b) (bomF b).length 0)
def enc1 (x0:Int):List UInt8 :=
 let x:=(if isC x0 then x0 else 65533).toNat
 if x<128 then [UInt8.ofNat x] else
  if x<2048 then [UInt8.ofNat (192+x / 64),UInt8.ofNat (128+x % 64)] else
   if x<65536 then [UInt8.ofNat (224+x / 4096),UInt8.ofNat (128+x / 64 % 64),UInt8.ofNat (128+x % 64)] else
    [UInt8.ofNat (240+x / 262144),UInt8.ofNat (128+x / 4096 % 64),UInt8.ofNat (128+x / 64 % 64),UInt8.ofNat (128+x % 64)]
def encF (l:List Int):List UInt8:=l.flatMap enc1
def aF (l:List Int) (i:Nat):Int :=
 match l[i]? with
 | none=>-1
 | some x=>if isC x then x else 65533
def digitI (x:Int):Bool:=decide (48≤x)&&decide (x≤57)
def firstI (x:Int):Bool:=(decide (97≤x)&&decide (x≤122))||(decide (65≤x)&&decide (x≤90))||x==95||decide (128≤x)
def letterI (x:Int):Bool:=firstI x||digitI x||x==45
def blankI (x:Int):Bool:=x==10||x==9||x==32
def hexI (x:Int):Option Int:=if digitI x then some (x-48) else if 97≤x∧x≤102 then some (x-87) else if 65≤x∧x≤70 then some (x-55) else none
def hiddenI (x:Int):Bool:=(decide (0≤x)&&decide (x≤8))||x==11||(decide (14≤x)&&decide (x≤31))||x==127
def escI (a b:Int):Bool:=a==92&&b != 10
def beginsI (a b c:Int):Bool:=if a=45 then firstI b||b==45||escI b c else firstI a||escI a b
def numI (a b c:Int):Bool:=if a=43∨a=45 then digitI b||(b==46&&digitI c) else digitI a||(a==46&&digitI b)
def hexR (l:List Int):Nat→Int→Nat→Int×Nat
 | 0,n,i=>(n,i)
 | k+1,n,i=>match hexI (aF l i) with
   | none=>(n,i)
   | some x=>hexR l k (n*16+x) (i+1)
def takenF (l:List Int) (i:Nat):Int×Nat :=
 match hexI (aF l i) with
 | none=>if aF l i=-1 then (65533,i) else (aF l i,i+1)
 | some _ =>
   (if (hexR l 6 0 i).1=0∨isC (hexR l 6 0 i).1=false then 65533 else (hexR l 6 0 i).1,if blankI (aF l (hexR l 6 0 i).2) then (hexR l 6 0 i).2+1 else (hexR l 6 0 i).2)
def nameG (l:List Int):Nat→Nat→List Int×Nat
 | 0,i=>([],i)
 | f + 1,i=>if aF l i≠-1∧letterI (aF l i)=true then (aF l i::(nameG l f (i+1)).1,(nameG l f (i+1)).2)
    else if escI (aF l i) (aF l (i+1)) then ((takenF l (i+1)).1::(nameG l f (takenF l (i+1)).2).1,(nameG l f (takenF l (i+1)).2).2)
    else ([],i)
def nameF (l:List Int) (i:Nat):List UInt8×Nat:=(encF (nameG l (l.length+2-i) i).1,(nameG l (l.length+2-i) i).2)
def digE (l:List Int):Nat→Nat→Nat
 | 0,i=>i
 | f+1,i=>if digitI (aF l i) then digE l f (i+1) else i
def digF (l:List Int) (i:Nat):Nat:=digE l (l.length+2-i) i
def blaE (l:List Int):Nat→Nat→Nat
 | 0,i=>i
 | f+1,i=>if blankI (aF l i) then blaE l f (i+1) else i
def blaF (l:List Int) (i:Nat):Nat:=blaE l (l.length+2-i) i
def lowB (c:UInt8):UInt8:=if 65≤c∧c≤90 then c+32 else c
def lowS (s:List UInt8):List UInt8:=s.map lowB
def likeS (a b:List UInt8):Bool:=lowS a==lowS b
def figS (l:List Int) (i:Nat):Nat:=if aF l i=43∨aF l i=45 then i+1 else i
def figP (l:List Int) (i:Nat):Nat:=if aF l i=46∧digitI (aF l (i+1))=true then digF l (i+1) else i
def figX (l:List Int) (i:Nat):Nat :=
 if aF l i=101∨aF l i=69 then
  (if aF l (i+1)=43∨aF l (i+1)=45 then (if digitI (aF l (i+2)) then digF l (i+2) else i) else if digitI (aF l (i+1)) then digF l (i+1) else i)
 else i
def figE (l:List Int) (i:Nat):Nat:=figX l (figP l (digF l (figS l i)))
def figureF (l:List Int) (i:Nat):Tk×Nat :=
 let e:=figE l i
 let d:=decimalF (encF ((l.drop i).take (e-i)))
 if beginsI (aF l e) (aF l (e+1)) (aF l (e+2)) then (⟨12,(nameF l e).1,d.1,d.2.1,false⟩,(nameF l e).2)
 else if aF l e=37 then (⟨11,[],d.1,d.2.1,false⟩,e+1) else (⟨10,[],d.1,d.2.1,false⟩,e)
def tok0 (k:Int) (s:List UInt8):Tk:=⟨k,s,(0,0),false,false⟩
def twoE (l:List Int):Nat→Nat→Nat
 | 0,i=>i
 | f+1,i=>if blankI (aF l i)=true∧blankI (aF l (i+1))=true then twoE l f (i+1) else i
def restG (l:List Int):Nat→Nat→Nat
 | 0,i=>i
 | f+1,i=>if aF l i=-1∨aF l i=41 then i+1 else if escI (aF l i) (aF l (i+1)) then restG l f (takenF l (i+1)).2 else restG l f (i+1)
def rest3F (l:List Int) (i:Nat):Nat:=restG l (l.length+2-i) i
def urlG (l:List Int):Nat→Nat→Option (List Int)×Nat
 | 0,i=>(none,i)
 | f+1,i =>
   if aF l i=-1∨aF l i=41 then (some [],i+1)
   else if blankI (aF l i) then (if aF l (blaF l i)≠-1∧aF l (blaF l i)≠41 then (none,rest3F l (blaF l i)) else urlG l f (blaF l i))
   else if aF l i=34∨aF l i=39∨aF l i=40∨hiddenI (aF l i)=true then (none,rest3F l i)
   else if aF l i=92 then (if escI (aF l i) (aF l (i+1)) then ((urlG l f (takenF l (i+1)).2).1.map ((takenF l (i+1)).1::·),(urlG l f (takenF l (i+1)).2).2) else (none,rest3F l i))
   else ((urlG l f (i+1)).1.map (aF l i::·),(urlG l f (i+1)).2)
def urlT (x:Option (List Int)×Nat):Tk×Nat :=
 match x.1 with
 | none=>(tok0 8 [],x.2)
 | some s=>(tok0 7 (encF s),x.2)
def urlF (l:List Int) (i:Nat):Tk×Nat:=urlT (urlG l (l.length+2-blaF l i) (blaF l i))
def wordT (l:List Int) (s:List UInt8) (j:Nat):Tk×Nat :=
 if aF l j≠40 then (tok0 1 s,j)
 else if likeS s [117,114,108]=false then (tok0 2 s,j+1)
 else
  let k:=twoE l (l.length+2-(j+1)) (j+1)
  let c:=if blankI (aF l k) then aF l (k+1) else aF l k
  if c=34∨c=39 then (tok0 2 s,k) else urlF l k
def wordF (l:List Int) (i:Nat):Tk×Nat:=wordT l (nameF l i).1 (nameF l i).2
def textG (l:List Int) (sign:Int):Nat→Nat→Option (List Int)×Nat
 | 0,i=>(none,i)
 | f+1,i =>
   if aF l i=10 then (none,i)
   else if aF l i=92 then
    (if aF l (i+1)=-1 then textG l sign f (i+1) else if aF l (i+1)=10 then textG l sign f (i+2)
     else ((textG l sign f (takenF l (i+1)).2).1.map ((takenF l (i+1)).1::·),(textG l sign f (takenF l (i+1)).2).2))
   else if aF l i=-1∨aF l i=sign then (some [],i+1) else ((textG l sign f (i+1)).1.map (aF l i::·),(textG l sign f (i+1)).2)
def strT (x:Option (List Int)×Nat):Tk×Nat :=
 match x.1 with
 | none=>(tok0 6 [],x.2)
 | some s=>(tok0 5 (encF s),x.2)
def stringF (l:List Int) (sign:Int) (i:Nat):Tk×Nat:=strT (textG l sign (l.length+2-i) i)
def skipE (l:List Int):Nat→Nat→Nat
 | 0,i=>i
 | f+1,i=>if aF l i≠-1∧(aF l i≠42∨aF l (i+1)≠47) then skipE l f (i+1) else i
def remE (l:List Int):Nat→Nat→Nat
 | 0,i=>i
 | f+1,i=>if aF l i=47∧aF l (i+1)=42 then remE l f (skipE l (l.length+2-(i+2)) (i+2)+2) else i
def remF (l:List Int) (i:Nat):Nat:=remE l (l.length+2-i) i
def singleF (c:Int):Option Int :=
 if c=40 then some 21 else if c=41 then some 22 else if c=91 then some 19 else if c=93 then some 20 else if c=123 then some 23 else if c=125 then some 24
 else if c=44 then some 18 else if c=58 then some 16 else if c=59 then some 17 else none
def nextF (l:List Int) (i:Nat):Tk×Nat :=
 match singleF (aF l i) with
 | some k=>(tok0 k [],i+1)
 | none =>
   if blankI (aF l i) then (tok0 13 [],blaF l i)
   else if aF l i=34∨aF l i=39 then stringF l (aF l i) (i+1)
   else if aF l i=35∧((aF l (i+1)≠-1∧letterI (aF l (i+1))=true)∨escI (aF l (i+1)) (aF l (i+2))=true) then
    (⟨4,(nameF l (i+1)).1,(0,0),false,beginsI (aF l (i+1)) (aF l (i+2)) (aF l (i+3))⟩,(nameF l (i+1)).2)
   else if numI (aF l i) (aF l (i+1)) (aF l (i+2)) then figureF l i
   else if aF l i=45∧aF l (i+1)=45∧aF l (i+2)=62 then (tok0 15 [],i+3)
   else if aF l i=60∧aF l (i+1)=33∧aF l (i+2)=45∧aF l (i+3)=45 then (tok0 14 [],i+4)
   else if aF l i=64∧beginsI (aF l (i+1)) (aF l (i+2)) (aF l (i+3))=true then (tok0 3 (nameF l (i+1)).1,(nameF l (i+1)).2)
   else if beginsI (aF l i) (aF l (i+1)) (aF l (i+2)) then wordF l i
   else (tok0 9 (encF [aF l i]),i+1)
def tokG (l:List Int):Nat→Nat→List Tk
 | 0,_=>[]
 | f+1,i=>if aF l (remF l i)=-1 then [] else (nextF l (remF l i)).1::tokG l f (nextF l (remF l i)).2
def tokensF (l:List Int):List Tk:=tokG l (l.length+2) 0
def bytesF (b:List UInt8):List Tk:=tokensF (decodeF b)
inductive Vt where
 | mk (t:Tk) (kids:List Vt)
def closeF (k:Int):Int:=if k=2∨k=21 then 22 else if k=19 then 20 else if k=23 then 24 else 0
def shutF:List (Tk×List Vt)→List (Tk×List Vt)
 | (t,k)::(t',k')::r=>(t',k'++[.mk t k])::r
 | s=>s
def stepV (s:List (Tk×List Vt)) (t:Tk):List (Tk×List Vt) :=
 match s with
 | []=>[]
 | (t0,k0)::r=>if r≠[]∧t.kind=closeF t0.kind then shutF s else if closeF t.kind≠0 then (t,[])::s else (t0,k0++[.mk t []])::r
def closeV:Nat→List (Tk×List Vt)→List (Tk×List Vt)
 | 0,s=>s
 | n+1,s=>if 2≤s.length then closeV n (shutF s) else s
def zeroTk:Tk:=⟨0,[],(0,0),false,false⟩
def valuesF (l:List Tk):List Vt :=
 match closeV (l.foldl stepV [(zeroTk,[])]).length (l.foldl stepV [(zeroTk,[])]) with
 | (_,k)::_=>k
 | []=>[]
def mayV:Nat→List Vt→Bool
 | _,[]=>true
 | n, .mk t k::r=>decide (1≤t.kind)&&decide (t.kind≤24)&&(if closeF t.kind=0 then k.isEmpty else match n with
    | 0=>false
    | n+1=>mayV n k)&&mayV n r
termination_by n l=>(n,l.length)
end Go.Proofs.YtnahlfaehelfjaaGreatDoor
namespace Go.Proofs.YtnahlfaehelfjaaGreatDoor
set_option linter.unusedVariables false
set_option linter.unusedSimpArgs false
open Go.RowKit Go.Lib
set_option maxHeartbeats 1000000 in
theorem digit_any (c:UInt8) (w:World):Calls Tryz.prog 184 #[.int .u8 (c.toNat:Int)] w fun e w'=>e=.returned (.bool (isD c))∧w=w':=by
 have hbd:=UInt8.toNat_lt c
 have hD:isD c=(decide ((48:Int)≤c.toNat)&&decide ((c.toNat:Int)≤57)):=by
  unfold isD;rw[Bool.eq_iff_iff];simp;omega
 rw[hD];generalize c.toNat=d at *;obtain⟨b1,g1⟩:∃ b,decide ((48:Int)≤d)=b:=⟨_,rfl⟩;obtain⟨b2,g2⟩:∃ b,decide ((d:Int)≤57)=b:=⟨_,rfl⟩;rw[g1,g2];clear hD
 cases b1 with
 | false =>
   go_enter Tryz.func184,Tryz.ntmps184
   go_wp2_with fail;go_ret;exact⟨rfl,rfl⟩
 | true =>
   go_enter Tryz.func184,Tryz.ntmps184
   go_wp2_with fail;go_ret;exact⟨ret_bool rfl,rfl⟩
end Go.Proofs.YtnahlfaehelfjaaGreatDoor
namespace Go.Proofs.YtnahlfaehelfjaaGreatDoor
set_option linter.unusedVariables false
set_option linter.unusedSimpArgs false
def Vt.tok:Vt→Tk
 | .mk t _=>t
end Go.Proofs.YtnahlfaehelfjaaGreatDoor
