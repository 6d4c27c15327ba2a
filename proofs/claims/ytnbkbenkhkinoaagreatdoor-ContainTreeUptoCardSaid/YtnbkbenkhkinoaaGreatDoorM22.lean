/- Of my texts: CalcM, Ct, CondP, CalcN. -/
import Derived.Test.YtnbkbenkhkinoaaGreatDoorM05
import Derived.Test.YtnbkbenkhkinoaaGreatDoorM14
namespace Go.Proofs.YtnbkbenkhkinoaaGreatDoor
set_option linter.unusedVariables false
set_option linter.unusedSimpArgs false
inductive Et where
 | mk (k n d u:Int) (kids:List Et)
def calcS:List UInt8:=[99,97,108,99]
def minS:List UInt8:=[109,105,110]
def maxS:List UInt8:=[109,97,120]
def clampS:List UInt8:=[99,108,97,109,112]
def plusS:List UInt8:=[43]
def minusS:List UInt8:=[45]
def starS:List UInt8:=[42]
def slashS:List UInt8:=[47]
def unitsS:List (List UInt8):=[[112,120],[101,109],[114,101,109],[118,119],[118,104],[99,113,119],[99,113,104]]
def unitG (x:List UInt8):List (List UInt8)→Nat→Nat
 | [],_=>0
 | n::r,i=>if x=n then i else unitG x r (i+1)
def unitF (s:List UInt8):Nat:=unitG (lowS s) unitsS 1
def numE (r:Rt) (u:Int):Et:=.mk 1 (cleanR r).1 (cleanR r).2 u []
def kindS (x:List UInt8):Int:=if x=minS then 6 else if x=maxS then 7 else if x=clampS then 8 else 0
def spV:Vt→Bool
 | .mk t _=>t.kind==13
def frontV (l:List Vt):List Vt:=l.dropWhile spV
def trimV (l:List Vt):List Vt:=((frontV l).reverse.dropWhile spV).reverse
def commaV:Vt→Bool
 | .mk t _=>t.kind==18
def splitG (cur:List Vt):List Vt→List (List Vt)
 | []=>[trimV cur]
 | x::r=>if commaV x then trimV cur::splitG [] r else splitG (cur++[x]) r
def splitV (l:List Vt):List (List Vt):=splitG [] l
def mapO {α β:Type} (f:α→Option β):List α→Option (List β)
 | []=>some []
 | x::r=>match f x with
   | none=>none
   | some y=>(mapO f r).map (y::·)
def exprF (whole:List Vt→Option Et) (t:Tk) (kids:List Vt):Option Et :=
 if t.kind=10 then some (numE t.num 0)
 else if t.kind=12 then (if unitF t.text=0 then none else some (numE t.num (unitF t.text)))
 else if t.kind=2 then
  (if lowS t.text=calcS then whole kids
  else if kindS (lowS t.text)=0 then none
  else match mapO whole (splitV kids) with
   | none=>none
   | some es=>if kindS (lowS t.text)=8∧es.length≠3 then none else some (.mk (kindS (lowS t.text)) 0 0 0 es))
 else none
def opF (W:(Vt→Option Et)→List Vt→Option Et):Nat→Vt→Option Et
 | 0,_=>none
 | n+1,.mk t kids=>if t.kind=21 then W (opF W n) kids else exprF (W (opF W n)) t kids
def exF (W:(Vt→Option Et)→List Vt→Option Et):Nat→Vt→Option Et
 | 0,_=>none
 | n+1,.mk t kids=>exprF (W (opF W n)) t kids
def single (k:Int):List Et→Et
 | [e]=>e
 | l=>.mk k 0 0 0 l
def blankP (l:List Vt) (i:Nat):Nat:=i+((l.drop i).takeWhile spV).length
def signP (l:List Vt) (one other:List UInt8) (apart:Bool) (i:Nat):List UInt8×Nat :=
 match l[blankP l i]? with
 | none=>([],i)
 | some (.mk t _)=>if t.kind=9∧(t.text=one∨t.text=other)∧(apart=false∨(i<blankP l i∧blankP l i+1<blankP l (blankP l i+1))) then (t.text,blankP l (blankP l i+1)) else ([],i)
def opAt (f:Vt→Option Et) (l:List Vt) (i:Nat):Option Et:=match l[i]? with
 | none=>none
 | some v=>f v
def restP (read:Nat→Option (Et×Nat)) (sign:Nat→List UInt8×Nat) (turn:List UInt8) (k:Int):Nat→Nat→Option (List Et×Nat)
 | 0,i=>some ([],i)
 | n+1,i=>match sign i with
   | ([],_)=>some ([],i)
   | (c::s,j)=>match read j with
    | none=>none
    | some (e,j')=>(restP read sign turn k n j').map fun r=>((if c::s=turn then .mk k 0 0 0 [e] else e)::r.1,r.2)
def prodP (f:Vt→Option Et) (l:List Vt) (i:Nat):Option (Et×Nat) :=
 match opAt f l i with
 | none=>none
 | some e=>(restP (fun j=>(opAt f l j).map fun e=>(e,j+1)) (signP l starS slashS false) slashS 5 (l.length+1) (i+1)).map fun r=>(single 4 (e::r.1),r.2)
def sumP (f:Vt→Option Et) (l:List Vt) (i:Nat):Option (Et×Nat) :=
 match prodP f l i with
 | none=>none
 | some (e,j)=>(restP (prodP f l) (signP l plusS minusS true) minusS 3 (l.length+1) j).map fun r=>(single 2 (e::r.1),r.2)
def wholeP (f:Vt→Option Et) (l:List Vt):Option Et:=match sumP f (trimV l) 0 with
 | none=>none
 | some (e,j)=>if j=(trimV l).length then some e else none
def parseF (W:(Vt→Option Et)→List Vt→Option Et) (h:Nat) (l:List Vt):Option Et×Int :=
 if mayV 64 l=false then (none,1) else match trimV l with
  | [v]=>(match exF W h v with
    | none=>(none,3)
    | some e=>(some e,0))
  | _=>(none,3)
def zeroEt:Et:=.mk 0 0 0 0 []
structure Lt where
 kind:Int
 truth:Int
 name:List UInt8
 op:Int
 ex:Et
 word:List UInt8
 value:List UInt8
 any:Bool
def lt0:Lt:=⟨0,0,[],0,zeroEt,[],[],false⟩
inductive Ct where
 | mk (k:Int) (kids:List Ct) (leaf:Lt)
def leafC (L:Lt):Ct:=.mk 4 [] L
def zeroCt:Ct:=.mk 0 [] lt0
def boolC (n:List UInt8):Ct:=leafC { lt0 with kind:=3,name:=n }
def cmpC (n:List UInt8) (op:Int) (e:Et):Ct:=leafC { lt0 with kind:=4,name:=n,op:=op,ex:=e }
def nameWordC (n w:List UInt8):Ct:=leafC { lt0 with kind:=5,name:=n,word:=w }
def wordV (v:Vt):List UInt8:=if v.tok.kind=1 then lowS v.tok.text else []
def headSp:List Vt→Bool
 | []=>false
 | u::_=>spV u
def nbs (l:List Vt):List Vt:=l.filter fun x=>!spV x
def oneN (f:Vt→Option Et):List Vt→Option Et
 | [v]=>f v
 | _=>none
theorem nbs_front:∀ l:List Vt,nbs (l.dropWhile spV)=nbs l
 | []=>rfl
 | x::r=>by
   cases h:spV x with
   | true =>
     rw[List.dropWhile_cons_of_pos h,nbs_front r];unfold nbs;rw[List.filter_cons_of_neg (by simp[h])]
   | false=>rw[List.dropWhile_cons_of_neg (by simp[h])]
theorem nbs_reverse (l:List Vt):nbs l.reverse=(nbs l).reverse:=by unfold nbs;rw[List.filter_reverse]
theorem nbs_trim (l:List Vt):nbs (trimV l)=nbs l:=by
 unfold trimV frontV;rw[nbs_reverse,nbs_front,nbs_reverse,List.reverse_reverse,nbs_front]
theorem drop_blanks:∀ l:List Vt,nbs l=[]→l.dropWhile spV=[]
 | [],_=>rfl
 | x::r,h=>by
   cases hx:spV x with
   | true =>
     rw[List.dropWhile_cons_of_pos hx];refine drop_blanks r ?_;unfold nbs at h ⊢;rwa [List.filter_cons_of_neg (by simp[hx])]at h
   | false =>
     unfold nbs at h;rw[List.filter_cons_of_pos (by simp[hx])]at h
     cases h
theorem front_head:∀ (l:List Vt) (x:Vt) (r:List Vt),l.dropWhile spV=x::r→spV x=false
 | [],_,_,h=>by cases h
 | y::l,x,r,h=>by
   cases hy:spV y with
   | true=>rw[List.dropWhile_cons_of_pos hy]at h;exact front_head l x r h
   | false =>
     rw[List.dropWhile_cons_of_neg (by simp[hy])]at h
     cases h
     exact hy
theorem trim_one {l:List Vt} {v:Vt} (h:nbs l=[v]):trimV l=[v]:=by
 have h1:nbs (frontV l)=[v]:=(nbs_front l).trans h;unfold trimV
 cases hf:frontV l with
 | nil=>rw[hf]at h1;cases h1
 | cons x r =>
   have hx:=front_head l x r hf;rw[hf]at h1;unfold nbs at h1;rw[List.filter_cons_of_pos (by simp[hx]),List.cons.injEq]at h1;obtain⟨rfl,h2⟩:=h1
   have h3:nbs r.reverse=[]:=by rw[nbs_reverse];unfold nbs;rw[h2];rfl
   rw[List.reverse_cons,List.dropWhile_append,drop_blanks _ h3];simp[hx]
section
variable (f:Vt→Option Et)
variable (m:List Vt)
theorem blank_le (i:Nat):i≤blankP m i:=Nat.le_add_right _ _
theorem blank_len {i:Nat} (h:i≤m.length):blankP m i≤m.length:=by
 unfold blankP;have:((m.drop i).takeWhile spV).length≤(m.drop i).length:=(List.takeWhile_prefix spV).length_le;rw[List.length_drop]at this;omega
variable (hf:∀ t k,(t.kind=9∨t.kind=13)→f (.mk t k)=none) (hend:∀ i,i<m.length→blankP m i<m.length)
include hf hend
end
theorem trimV_head (l:List Vt):headSp (trimV l)=false:=by
 cases h:trimV l with
 | nil=>rfl
 | cons x r =>
   have h1:(frontV l).reverse.dropWhile spV=(x::r).reverse:=by rw[← h];unfold trimV;rw[List.reverse_reverse]
   have h2:∃ c,frontV l=(x::r)++c:=by
    have:=List.takeWhile_append_dropWhile (p:=spV) (l:=(frontV l).reverse);rw[h1]at this;refine⟨((frontV l).reverse.takeWhile spV).reverse,?_⟩;have e2:=congrArg List.reverse this;rw[List.reverse_append,List.reverse_reverse,List.reverse_reverse]at e2;exact e2.symm
   obtain⟨c,hc⟩:=h2;exact front_head l x (r++c) hc
end Go.Proofs.YtnbkbenkhkinoaaGreatDoor
