/- Of my texts: TextM, TextW, TextV, TokM, ValM, TextR, CalcM, Ct, FlatM, CondP, CalcN, TxD. -/
import Derived.Test.YtnanffmhbjdpaaaGreatDoorM00
import Derived.Test.YtnanffmhbjdpaaaGreatDoorM05
import Derived.Lib.ItoaNum
import Derived.Deep.LoopGhost
import Derived.OwnWalk
namespace Go.Proofs.YtnanffmhbjdpaaaGreatDoor
set_option maxHeartbeats 8000000
set_option maxRecDepth 20000
set_option linter.unusedVariables false
set_option linter.unusedSimpArgs false
open Go.Lib
def isD (c:UInt8):Bool:=decide (48≤c.toNat)&&decide (c.toNat≤57)
end Go.Proofs.YtnanffmhbjdpaaaGreatDoor
namespace Go.Proofs.YtnanffmhbjdpaaaGreatDoor
set_option maxHeartbeats 8000000
set_option maxRecDepth 20000
set_option linter.unusedVariables false
set_option linter.unusedSimpArgs false
open Go.RowKit Go.Lib
@[go_sem] theorem Q8i (l:List UInt8) (i:Nat) (h:i<(⟨l.toArray⟩:ByteArray).size):(⟨l.toArray⟩:ByteArray)[i]'h=l[i]'h:=rfl
theorem Tq (m:List UInt8) (w:World):∃ (cap:Nat) (w1:World),(convert 9 46 (.string ⟨m.toArray⟩)).run Tryz.prog w=.ok (.slice (some ⟨w.heap.size,0,none⟩) m.length cap) w1∧Below w.heap.size w w1 ∧
  w.heap.size<w1.heap.size∧∀ (i:Nat) (c:UInt8),m[i]?=some c→w1.cell? ⟨w.heap.size,i,none⟩=some (.int .u8 (c.toNat:Int)):=by
 have h:=run_bytes_of_string (P:=Tryz.prog) w 9 46 5 ⟨m.toArray⟩ Tryz.underlying9 Tryz.underlying46 Tryz.underlying5;refine⟨_,_,h,((Below.refl _ _).drew.alloc (Q6 _) _),by simp,fun i c hc=>?_⟩;obtain⟨hi,rfl⟩:=Qn.1 hc;rw[cell_of_row _ w.heap.size i _ _ _ (heap_alloc_new w.drew _)];exact bytesRow_at ⟨m.toArray⟩ _ i hi
end Go.Proofs.YtnanffmhbjdpaaaGreatDoor
namespace Go.Proofs.YtnanffmhbjdpaaaGreatDoor
set_option maxHeartbeats 8000000
set_option maxRecDepth 20000
set_option linter.unusedVariables false
set_option linter.unusedSimpArgs false
structure Tk where
 kind:Int
 text:List UInt8
 num:Rt
 int:Bool
 id:Bool
deriving DecidableEq
def isC (x:Int):Bool:=decide (0≤x)&&decide (x≤1114111)&&(decide (x<55296)||decide (57343<x))
def aF (l:List Int) (i:Nat):Int :=
 match l[i]? with
 | none=>-1
 | some x=>if isC x then x else 65533
def V0 (x:Int):Bool:=decide (48≤x)&&decide (x≤57)
def Xi (x:Int):Bool:=(decide (97≤x)&&decide (x≤122))||(decide (65≤x)&&decide (x≤90))||x==95||decide (128≤x)
def Dy (x:Int):Bool:=Xi x||V0 x||x==45
def Kv (x:Int):Bool:=x==10||x==9||x==32
def Su (a b:Int):Bool:=a==92&&b != 10
def Pw (a b c:Int):Bool:=if a=45 then Xi b||b==45||Su b c else Xi a||Su a b
def Q7b (a b c:Int):Bool:=if a=43∨a=45 then V0 b||(b==46&&V0 c) else V0 a||(a==46&&V0 b)
def Q2t (l:List Int):Nat→Nat→Nat
 | 0,i=>i
 | f+1,i=>if V0 (aF l i) then Q2t l f (i+1) else i
def Q7o (l:List Int) (i:Nat):Nat:=Q2t l (l.length+2-i) i
def Q32 (l:List Int):Nat→Nat→Nat
 | 0,i=>i
 | f+1,i=>if Kv (aF l i) then Q32 l f (i+1) else i
def Q7t (l:List Int) (i:Nat):Nat:=Q32 l (l.length+2-i) i
def Pf (c:UInt8):UInt8:=if 65≤c∧c≤90 then c+32 else c
def U6 (s:List UInt8):List UInt8:=s.map Pf
def Ga (a b:List UInt8):Bool:=U6 a==U6 b
def L6 (k:Int) (s:List UInt8):Tk:=⟨k,s,(0,0),false,false⟩
inductive Vt where
 | mk (t:Tk) (kids:List Vt)
def J2 (k:Int):Int:=if k=2∨k=21 then 22 else if k=19 then 20 else if k=23 then 24 else 0
def Ru:List (Tk×List Vt)→List (Tk×List Vt)
 | (t,k)::(t',k')::r=>(t',k'++[.mk t k])::r
 | s=>s
def L7 (s:List (Tk×List Vt)) (t:Tk):List (Tk×List Vt) :=
 match s with
 | []=>[]
 | (t0,k0)::r=>if r≠[]∧t.kind=J2 t0.kind then Ru s else if J2 t.kind≠0 then (t,[])::s else (t0,k0++[.mk t []])::r
def Bi:Nat→List (Tk×List Vt)→List (Tk×List Vt)
 | 0,s=>s
 | n+1,s=>if 2≤s.length then Bi n (Ru s) else s
def Gy:Tk:=⟨0,[],(0,0),false,false⟩
def Hk (l:List Tk):List Vt :=
 match Bi (l.foldl L7 [(Gy,[])]).length (l.foldl L7 [(Gy,[])]) with
 | (_,k)::_=>k
 | []=>[]
def Jf:Nat→List Vt→Bool
 | _,[]=>true
 | n, .mk t k::r=>decide (1≤t.kind)&&decide (t.kind≤24)&&(if J2 t.kind=0 then k.isEmpty else match n with
    | 0=>false
    | n+1=>Jf n k)&&Jf n r
termination_by n l=>(n,l.length)
end Go.Proofs.YtnanffmhbjdpaaaGreatDoor
namespace Go.Proofs.YtnanffmhbjdpaaaGreatDoor
set_option maxHeartbeats 8000000
set_option maxRecDepth 20000
set_option linter.unusedVariables false
set_option linter.unusedSimpArgs false
open Go.RowKit Go.Lib
theorem Oe (c:UInt8) (w:World):Calls Tryz.prog 208 #[.int .u8 (c.toNat:Int)] w fun e w'=>e=.returned (.bool (isD c))∧w=w':=by
 have hbd:=UInt8.toNat_lt c
 have hD:isD c=(decide ((48:Int)≤c.toNat)&&decide ((c.toNat:Int)≤57)):=by
  unfold isD;rw[Qt];simp;omega
 rw[hD];generalize c.toNat=d at *;obtain⟨b1,g1⟩:∃ b,decide ((48:Int)≤d)=b:=⟨_,rfl⟩;obtain⟨b2,g2⟩:∃ b,decide ((d:Int)≤57)=b:=⟨_,rfl⟩;rw[g1,g2];clear hD
 cases b1 with
 | false =>
   go_enter Tryz.func208,Tryz.ntmps208
   go_wp2_with fail;go_ret;exact⟨rfl,rfl⟩
 | true =>
   go_enter Tryz.func208,Tryz.ntmps208
   go_wp2_with fail;go_ret;exact⟨Qw rfl,rfl⟩
end Go.Proofs.YtnanffmhbjdpaaaGreatDoor
namespace Go.Proofs.YtnanffmhbjdpaaaGreatDoor
set_option maxHeartbeats 8000000
set_option maxRecDepth 20000
set_option linter.unusedVariables false
set_option linter.unusedSimpArgs false
inductive Et where
 | mk (k n d u:Int) (kids:List Et)
def Cq:List UInt8:=[99,97,108,99]
def Q64:List UInt8:=[109,105,110]
def Q66:List UInt8:=[109,97,120]
def Ps:List UInt8:=[99,108,97,109,112]
def Um:List UInt8:=[43]
def J1:List UInt8:=[45]
def Ur:List UInt8:=[42]
def Zi:List UInt8:=[47]
def U8:List (List UInt8):=[[112,120],[101,109],[114,101,109],[118,119],[118,104],[99,113,119],[99,113,104]]
def X5 (x:List UInt8):List (List UInt8)→Nat→Nat
 | [],_=>0
 | n::r,i=>if x=n then i else X5 x r (i+1)
def Xx (s:List UInt8):Nat:=X5 (U6 s) U8 1
def Pa (r:Rt) (u:Int):Et:=.mk 1 (Je r).1 (Je r).2 u []
def Gg (x:List UInt8):Int:=if x=Q64 then 6 else if x=Q66 then 7 else if x=Ps then 8 else 0
def Ud:Vt→Bool
 | .mk t _=>t.kind==13
def X9 (l:List Vt):List Vt:=l.dropWhile Ud
def Z9 (l:List Vt):List Vt:=((X9 l).reverse.dropWhile Ud).reverse
def Dh:Vt→Bool
 | .mk t _=>t.kind==18
def Y3 (cur:List Vt):List Vt→List (List Vt)
 | []=>[Z9 cur]
 | x::r=>if Dh x then Z9 cur::Y3 [] r else Y3 (cur++[x]) r
def Y0 (l:List Vt):List (List Vt):=Y3 [] l
def N5 {α β:Type} (f:α→Option β):List α→Option (List β)
 | []=>some []
 | x::r=>match f x with
   | none=>none
   | some y=>(N5 f r).map (y::·)
def K8 (whole:List Vt→Option Et) (t:Tk) (kids:List Vt):Option Et :=
 if t.kind=10 then some (Pa t.num 0)
 else if t.kind=12 then (if Xx t.text=0 then none else some (Pa t.num (Xx t.text)))
 else if t.kind=2 then
  (if U6 t.text=Cq then whole kids
  else if Gg (U6 t.text)=0 then none
  else match N5 whole (Y0 kids) with
   | none=>none
   | some es=>if Gg (U6 t.text)=8∧es.length≠3 then none else some (.mk (Gg (U6 t.text)) 0 0 0 es))
 else none
def Kb (W:(Vt→Option Et)→List Vt→Option Et):Nat→Vt→Option Et
 | 0,_=>none
 | n+1,.mk t kids=>if t.kind=21 then W (Kb W n) kids else K8 (W (Kb W n)) t kids
def Cr (W:(Vt→Option Et)→List Vt→Option Et):Nat→Vt→Option Et
 | 0,_=>none
 | n+1,.mk t kids=>K8 (W (Kb W n)) t kids
def Jm (k:Int):List Et→Et
 | [e]=>e
 | l=>.mk k 0 0 0 l
def Ja (l:List Vt) (i:Nat):Nat:=i+((l.drop i).takeWhile Ud).length
def Jt (l:List Vt) (one other:List UInt8) (apart:Bool) (i:Nat):List UInt8×Nat :=
 match l[Ja l i]? with
 | none=>([],i)
 | some (.mk t _)=>if t.kind=9∧(t.text=one∨t.text=other)∧(apart=false∨(i<Ja l i∧Ja l i+1<Ja l (Ja l i+1))) then (t.text,Ja l (Ja l i+1)) else ([],i)
def W6 (f:Vt→Option Et) (l:List Vt) (i:Nat):Option Et:=match l[i]? with
 | none=>none
 | some v=>f v
def V6 (read:Nat→Option (Et×Nat)) (sign:Nat→List UInt8×Nat) (turn:List UInt8) (k:Int):Nat→Nat→Option (List Et×Nat)
 | 0,i=>some ([],i)
 | n+1,i=>match sign i with
   | ([],_)=>some ([],i)
   | (c::s,j)=>match read j with
    | none=>none
    | some (e,j')=>(V6 read sign turn k n j').map fun r=>((if c::s=turn then .mk k 0 0 0 [e] else e)::r.1,r.2)
def Eo (f:Vt→Option Et) (l:List Vt) (i:Nat):Option (Et×Nat) :=
 match W6 f l i with
 | none=>none
 | some e=>(V6 (fun j=>(W6 f l j).map fun e=>(e,j+1)) (Jt l Ur Zi false) Zi 5 (l.length+1) (i+1)).map fun r=>(Jm 4 (e::r.1),r.2)
def Rn (f:Vt→Option Et) (l:List Vt) (i:Nat):Option (Et×Nat) :=
 match Eo f l i with
 | none=>none
 | some (e,j)=>(V6 (Eo f l) (Jt l Um J1 true) J1 3 (l.length+1) j).map fun r=>(Jm 2 (e::r.1),r.2)
def J0 (f:Vt→Option Et) (l:List Vt):Option Et:=match Rn f (Z9 l) 0 with
 | none=>none
 | some (e,j)=>if j=(Z9 l).length then some e else none
def V8 (a b:List UInt8):Vt→Bool
 | .mk t _=>t.kind==9&&(t.text==a||t.text==b)
def Xy:Vt→List UInt8
 | .mk t _=>t.text
def Cl (l:List Vt) (i:Nat):Bool:=match l[i]? with
 | none=>false
 | some v=>decide (0<i)&&decide (i+1<l.length)&&V8 Um J1 v&&(l[i-1]?.map Ud).getD false&&(l[i+1]?.map Ud).getD false
def N8 (l:List Vt) (i:Nat):Bool:=match l[i]? with
 | none=>false
 | some v=>V8 Ur Zi v
def Ye (read:List Vt→Option Et) (cut:Nat→Bool) (l:List Vt) (turn:List UInt8) (k:Int):Nat→Nat→Nat→Bool→Option (List Et)
 | 0,_,_,_=>some []
 | n+1,i,start,over =>
   if i<l.length∧cut i=false then Ye read cut l turn k n (i+1) start over
   else match read ((l.take i).drop start) with
    | none=>none
    | some e=>(Ye read cut l turn k n (i+1) (i+1) ((l[i]?.map Xy).getD []==turn)).map ((if over then .mk k 0 0 0 [e] else e)::·)
def Wk (f:Vt→Option Et) (l:List Vt):Option Et:=match Z9 l with
 | [v]=>f v
 | _=>none
def Kj (f:Vt→Option Et) (l:List Vt):Option Et:=(Ye (Wk f) (N8 l) l Zi 5 (l.length+1) 0 0 false).map (Jm 4)
def Ux (f:Vt→Option Et) (l0:List Vt):Option Et:=(Ye (Kj f) (Cl (Z9 l0)) (Z9 l0) J1 3 ((Z9 l0).length+1) 0 0 false).map (Jm 2)
def Jz (W:(Vt→Option Et)→List Vt→Option Et) (h:Nat) (l:List Vt):Option Et×Int :=
 if Jf 64 l=false then (none,1) else match Z9 l with
  | [v]=>(match Cr W h v with
    | none=>(none,3)
    | some e=>(some e,0))
  | _=>(none,3)
def Wn:Et:=.mk 0 0 0 0 []
structure Lt where
 kind:Int
 truth:Int
 name:List UInt8
 op:Int
 ex:Et
 word:List UInt8
 value:List UInt8
 any:Bool
def lt0:Lt:=⟨0,0,[],0,Wn,[],[],false⟩
inductive Ct where
 | mk (k:Int) (kids:List Ct) (leaf:Lt)
def O3 (L:Lt):Ct:=.mk 4 [] L
def Ao:Ct:=.mk 0 [] lt0
def Ep (n:List UInt8):Ct:=O3 { lt0 with kind:=3,name:=n }
def Vx (n:List UInt8) (op:Int) (e:Et):Ct:=O3 { lt0 with kind:=4,name:=n,op:=op,ex:=e }
def Y6 (n w:List UInt8):Ct:=O3 { lt0 with kind:=5,name:=n,word:=w }
def Vt.tok:Vt→Tk
 | .mk t _=>t
def Wq (v:Vt):List UInt8:=if v.tok.kind=1 then U6 v.tok.text else []
def Ut:List Vt→Bool
 | []=>false
 | u::_=>Ud u
def tE (over:Bool) (k:Int) (e:Et):Et:=if over then .mk k 0 0 0 [e] else e
def Cn (read:List Vt→Option Et) (cutp:Bool→Vt→List Vt→Bool) (turn:List UInt8) (k:Int):Bool→List Vt→List Vt→Bool→Option (List Et)
 | _,cur,[],over=>(read cur).map fun e=>[tE over k e]
 | p, cur,v::r,over=>if cutp p v r=true then (match read cur with
    | none=>none
    | some e=>(Cn read cutp turn k (Ud v) [] r (Xy v==turn)).map (tE over k e::·)) else Cn read cutp turn k (Ud v) (cur++[v]) r over
def W4 (l:List Vt) (i:Nat):Bool:=if i=0 then false else (l[i-1]?.map Ud).getD false
theorem Fp {l:List Vt} {i:Nat} {v:Vt} (h:l[i]?=some v):W4 l (i+1)=Ud v:=by
 unfold W4;rw[if_neg (by omega),Nat.add_sub_cancel,h];rfl
theorem E8 {read:List Vt→Option Et} {cut:Nat→Bool} {cutp:Bool→Vt→List Vt→Bool} {l:List Vt} {turn:List UInt8} {k:Int} (hcut:∀ i v,l[i]?=some v→cut i=cutp (W4 l i) v (l.drop (i+1))) :
  ∀ (n i start:Nat) (over:Bool),n+i=l.length→start≤i→Ye read cut l turn k (n+1) i start over=Cn read cutp turn k (W4 l i) ((l.take i).drop start) (l.drop i) over
 | 0,i,start,over,hn,hs=>by
   rw[Ye,if_neg (by omega),Z3 (show l.length≤i by omega),Cn]
   cases read ((l.take i).drop start) with
   | none=>rfl
   | some e=>simp[Ye,tE]
 | n+1,i,start,over,hn,hs=>by
   have hi:i<l.length:=by omega
   have hli:l[i]?=some l[i]:=Q9 hi;rw[Ye,Qv hi,Cn,← hcut i _ hli]
   cases hc:cut i with
   | false =>
     rw[if_pos ⟨hi,rfl⟩,if_neg (by simp),E8 hcut n (i+1) start over (by omega) (by omega),Fp hli,Ze hi,List.drop_append_of_le_length (by rw[Zb];omega)]
   | true =>
     rw[if_neg (by simp),if_pos rfl,E8 hcut n (i+1) (i+1) _ (by omega) (Q6 _),Fp hli,hli];have e:(l.take (i+1)).drop (i+1)=[]:=Z3 (by rw[Zb];omega);rw[e];rfl
def Ue (l:List Vt):List Vt:=l.filter fun x=>!Ud x
def Eh (f:Vt→Option Et):List Vt→Option Et
 | [v]=>f v
 | _=>none
theorem G9:∀ l:List Vt,Ue (l.dropWhile Ud)=Ue l
 | []=>rfl
 | x::r=>by
   cases h:Ud x with
   | true =>
     rw[List.dropWhile_cons_of_pos h,G9 r];unfold Ue;rw[List.filter_cons_of_neg (by simp[h])]
   | false=>rw[List.dropWhile_cons_of_neg (by simp[h])]
theorem D0 (l:List Vt):Ue l.reverse=(Ue l).reverse:=by unfold Ue;rw[List.filter_reverse]
theorem V7 (l:List Vt):Ue (Z9 l)=Ue l:=by
 unfold Z9 X9;rw[D0,G9,D0,List.reverse_reverse,G9]
theorem Fy:∀ l:List Vt,Ue l=[]→l.dropWhile Ud=[]
 | [],_=>rfl
 | x::r,h=>by
   cases hx:Ud x with
   | true =>
     rw[List.dropWhile_cons_of_pos hx];refine Fy r ?_;unfold Ue at h ⊢;rwa [List.filter_cons_of_neg (by simp[hx])]at h
   | false =>
     unfold Ue at h;rw[List.filter_cons_of_pos (by simp[hx])]at h
     cases h
theorem Xh:∀ (l:List Vt) (x:Vt) (r:List Vt),l.dropWhile Ud=x::r→Ud x=false
 | [],_,_,h=>by cases h
 | y::l,x,r,h=>by
   cases hy:Ud y with
   | true=>rw[List.dropWhile_cons_of_pos hy]at h;exact Xh l x r h
   | false =>
     rw[List.dropWhile_cons_of_neg (by simp[hy])]at h
     cases h
     exact hy
theorem Wr {l:List Vt} {v:Vt} (h:Ue l=[v]):Z9 l=[v]:=by
 have h1:Ue (X9 l)=[v]:=(G9 l).trans h;unfold Z9
 cases hf:X9 l with
 | nil=>rw[hf]at h1;cases h1
 | cons x r =>
   have hx:=Xh l x r hf;rw[hf]at h1;unfold Ue at h1;rw[List.filter_cons_of_pos (by simp[hx]),List.cons.injEq]at h1;obtain⟨rfl,h2⟩:=h1
   have h3:Ue r.reverse=[]:=by rw[D0];unfold Ue;rw[h2];rfl
   rw[List.reverse_cons,List.dropWhile_append,Fy _ h3];simp[hx]
theorem S9 (f:Vt→Option Et) (l:List Vt):Wk f l=Eh f (Ue l):=by
 have ht:=V7 l;unfold Wk
 match h:Z9 l with
 | []=>rw[h]at ht;rw[← ht];rfl
 | [v] =>
   have hx:Ud v=false:=by
    unfold Z9 at h
    have h2:(X9 l).reverse.dropWhile Ud=[v]:=by rw[← List.reverse_reverse ((X9 l).reverse.dropWhile Ud),h];rfl
    exact Xh _ _ _ h2
   rw[h]at ht;rw[← ht];simp[Ue,hx,Eh]
 | x::y::r =>
   simp only
   match hn:Ue l with
   | []=>rfl
   | [v]=>rw[Wr hn]at h;cases h
   | _::_::_=>rfl
def FR (f:Vt→Option Et):Bool→List Vt→Bool→List Et→Bool→List Vt→Option (List Et)
 | _,c,over,es,minus,[]=>(Eh f c).map fun e=>[tE minus 3 (Jm 4 (es++[tE over 5 e]))]
 | p,c,over,es,minus,v::r =>
   if (V8 Um J1 v&&p&&Ut r)=true then (match Eh f c with
    | none=>none
    | some e=>(FR f (Ud v) [] false [] (Xy v==J1) r).map (tE minus 3 (Jm 4 (es++[tE over 5 e]))::·))
   else if V8 Ur Zi v=true then (match Eh f c with
    | none=>none
    | some e=>FR f (Ud v) [] (Xy v==Zi) (es++[tE over 5 e]) minus r)
   else FR f (Ud v) (if Ud v then c else c++[v]) over es minus r
def Te (_:Bool) (v:Vt) (_:List Vt):Bool:=V8 Ur Zi v
def Q5n (p:Bool) (v:Vt) (r:List Vt):Bool:=V8 Um J1 v&&p&&Ut r
def Em (f:Vt→Option Et) (st:Option (List Et×Bool×List Vt)) (v:Vt):Option (List Et×Bool×List Vt):=match st with
 | none=>none
 | some (es,over,cur)=>if V8 Ur Zi v=true then (match Wk f cur with
    | none=>none
    | some e=>some (es++[tE over 5 e],Xy v==Zi,[])) else some (es,over,cur++[v])
def Q2k (f:Vt→Option Et) (st:Option (List Et×Bool×List Vt)):Option (List Et):=match st with
 | none=>none
 | some (es,over,cur)=>(Wk f cur).map fun e=>es++[tE over 5 e]
theorem L8 (f:Vt→Option Et):∀ P:List Vt,P.foldl (Em f) none=none
 | []=>rfl
 | v::P=>by rw[List.foldl_cons];exact L8 f P
theorem Bg (f:Vt→Option Et):∀ (P:List Vt) (p:Bool) (cur:List Vt) (over:Bool) (es0:List Et),
  (Cn (Wk f) Te Zi 5 p cur P over).map (es0++·)=Q2k f (P.foldl (Em f) (some (es0,over,cur)))
 | [],p,cur,over,es0=>by
   rw[Cn,List.foldl_nil,Q2k]
   cases Wk f cur<;>rfl
 | v::r,p,cur,over,es0=>by
   rw[Cn,List.foldl_cons];unfold Te
   cases hd:V8 Ur Zi v with
   | true =>
     simp only[if_true,Em,hd]
     cases ho:Wk f cur with
     | none=>simp only[Option.map_none];rw[L8];rfl
     | some e =>
       simp only;rw[← Bg f r (Ud v) [] (Xy v==Zi) (es0++[tE over 5 e])];show ((Cn (Wk f) Te Zi 5 (Ud v) [] r (Xy v==Zi)).map _).map _=_
       cases Cn (Wk f) Te Zi 5 (Ud v) [] r (Xy v==Zi) with
       | none=>rfl
       | some x=>simp
   | false =>
     simp only[Em,hd,Bool.false_eq_true,if_false];rw[← Bg f r (Ud v) (cur++[v]) over es0];rfl
theorem Q7n (l:List Vt) (i:Nat) (v:Vt) (h:l[i]?=some v):N8 l i=Te (W4 l i) v (l.drop (i+1)):=by
 unfold N8 Te;rw[h]
theorem Q6b (l:List Vt) (i:Nat):Ut (l.drop i)=(l[i]?.map Ud).getD false:=by
 rcases Nat.lt_or_ge i l.length with h|h
 · rw[Qv h,Q9 h];rfl
 · rw[Z3 h,Zf h];rfl
theorem Q7p (l:List Vt) (i:Nat) (v:Vt) (h:l[i]?=some v):Cl l i=Q5n (W4 l i) v (l.drop (i+1)):=by
 unfold Cl Q5n W4;rw[h,Q6b];simp only
 rcases Nat.eq_zero_or_pos i with rfl|hp
 · simp
 · rw[if_neg (by omega)]
   have e:decide (0<i)=true:=by simpa using hp
   rw[e,Bool.true_and]
   rcases Nat.lt_or_ge (i+1) l.length with h1 | h1
   · have e1:decide (i+1<l.length)=true:=by simpa using h1
     rw[e1,Bool.true_and]
   · have e1:decide (i+1<l.length)=false:=by simp;omega
     rw[e1,Bool.false_and,Bool.false_and,Bool.false_and,Zf h1];simp
theorem Ll (f:Vt→Option Et) (P:List Vt):Kj f P=(Q2k f (P.foldl (Em f) (some ([],false,[])))).map (Jm 4):=by
 have h:=E8 (read:=Wk f) (turn:=Zi) (k:=5) (fun i v hv=>Q7n P i v hv) P.length 0 0 false rfl (Q6 _);unfold Kj;rw[h,← Bg f P (W4 P 0) _ false []];simp only[List.take_zero,List.drop_zero,List.nil_append,List.drop_nil]
 congr 1
 cases Cn (Wk f) Te Zi 5 (W4 P 0) [] P false<;>rfl
theorem Po (f:Vt→Option Et):∀ (s:List Vt) (p:Bool) (P:List Vt) (mn:Bool),Cn (Kj f) Q5n J1 3 p P s mn=match P.foldl (Em f) (some ([],false,[])) with
  | none=>none
  | some (es,over,cur)=>FR f p (Ue cur) over es mn s
 | [],p,P,mn=>by
   rw[Cn,Ll]
   match P.foldl (Em f) (some ([],false,[])) with
   | none=>rfl
   | some (es,over,cur) =>
     simp only[Q2k,FR];rw[S9]
     cases Eh f (Ue cur)<;>rfl
 | v::r,p,P,mn=>by
   rw[Cn,Ll];have ih1:=Po f r (Ud v) [] (Xy v==J1);have ih2:=Po f r (Ud v) (P++[v]) mn;rw[List.foldl_append]at ih2;rw[ih2];rw[ih1]
   match P.foldl (Em f) (some ([],false,[])) with
   | none =>
     simp only[Q2k,Option.map_none,List.foldl_cons,List.foldl_nil,Em];split<;>rfl
   | some (es,over,cur) =>
     simp only[Q2k,List.foldl_cons,List.foldl_nil,Em];rw[S9]
     conv=>rhs;rw[FR]
     unfold Q5n
     cases hs:(V8 Um J1 v&&p&&Ut r) with
     | true =>
       simp only[if_true]
       cases Eh f (Ue cur)<;>rfl
     | false =>
       simp only[Bool.false_eq_true,if_false]
       cases hd:V8 Ur Zi v with
       | true =>
         simp only[if_true]
         cases Eh f (Ue cur)<;>rfl
       | false =>
         simp only[Bool.false_eq_true,if_false]
         congr 1
         unfold Ue;rw[List.filter_append]
         cases hx:Ud v with
         | true=>simp[hx]
         | false=>simp[hx]
theorem Q5o (f:Vt→Option Et) (l0:List Vt):Ux f l0=(FR f false [] false [] false (Z9 l0)).map (Jm 2):=by
 have h:=E8 (read:=Kj f) (turn:=J1) (k:=3) (fun i v hv=>Q7p (Z9 l0) i v hv) (Z9 l0).length 0 0 false rfl (Q6 _);unfold Ux;rw[h,Po];rfl
section
variable (f:Vt→Option Et)
theorem R4:∀ (s:List Vt) (p:Bool) (c:List Vt) (over:Bool) (es:List Et) (mn:Bool),(2≤c.length∨∃ v,c=[v]∧f v=none)→FR f p c over es mn s=none
 | [],p,c,over,es,mn,h=>by
   have:Eh f c=none:=by
    rcases h with h|⟨v,rfl,hv⟩
    · match c,h with
      | _::_::_,_=>rfl
    · exact hv
   rw[FR,this];rfl
 | v::r,p,c,over,es,mn,h=>by
   have h1:Eh f c=none:=by
    rcases h with h|⟨v,rfl,hv⟩
    · match c,h with
      | _::_::_,_=>rfl
    · exact hv
   rw[FR,h1];split
   · rfl
   · split
     · rfl
     · refine R4 r _ _ _ _ _ ?_;split
       · exact h
       · refine Or.inl ?_;rw[Qd]
         rcases h with h|⟨v,rfl,_⟩
         · simp;omega
         · simp
theorem Lc {a b:List UInt8} {v:Vt} (h:Ud v=true):V8 a b v=false:=by
 obtain⟨t,k⟩:=v
 have:t.kind=13:=by simpa[Ud] using h
 simp[V8,this]
theorem Ef (c:List Vt) (over:Bool) (es:List Et) (mn:Bool):∀ (s:List Vt) (p:Bool),FR f p c over es mn s=FR f (if Ut s then true else p) c over es mn (s.dropWhile Ud)
 | [],p=>rfl
 | v::r,p=>by
   cases hv:Ud v with
   | true =>
     rw[FR,Lc hv,Lc hv,if_neg (by simp),if_neg (by simp),hv,if_pos rfl,Ef c over es mn r true,List.dropWhile_cons_of_pos hv];have e:Ut (v::r)=true:=hv;rw[e]
     cases Ut r<;>rfl
   | false =>
     rw[List.dropWhile_cons_of_neg (by simp[hv])];have e:Ut (v::r)=false:=hv;rw[e];rfl
variable (m:List Vt)
theorem Wd (i:Nat):m.drop (Ja m i)=(m.drop i).dropWhile Ud:=by
 unfold Ja;rw[← List.drop_drop];generalize m.drop i=s
 induction s with
 | nil=>rfl
 | cons v r ih =>
   cases hv:Ud v with
   | true=>rw[List.takeWhile_cons_of_pos hv,List.dropWhile_cons_of_pos hv,Z8,Z4];exact ih
   | false=>rw[List.takeWhile_cons_of_neg (by simp[hv]),List.dropWhile_cons_of_neg (by simp[hv])];rfl
theorem Gu (i:Nat):i≤Ja m i:=Nat.le_add_right _ _
theorem K1 {i:Nat} (h:i≤m.length):Ja m i≤m.length:=by
 unfold Ja;have:((m.drop i).takeWhile Ud).length≤(m.drop i).length:=(List.takeWhile_prefix Ud).length_le;rw[Zu]at this;omega
theorem On (i:Nat):(i<Ja m i)↔Ut (m.drop i)=true:=by
 unfold Ja
 cases hs:m.drop i with
 | nil=>simp[Ut]
 | cons v r =>
   cases hv:Ud v with
   | true=>rw[List.takeWhile_cons_of_pos hv];simp[Ut,hv]
   | false=>rw[List.takeWhile_cons_of_neg (by simp[hv])];simp[Ut,hv]
theorem Mt (i:Nat):Ut (m.drop (Ja m i))=false:=by
 rw[Wd]
 cases h:(m.drop i).dropWhile Ud with
 | nil=>rfl
 | cons x r=>exact Xh _ _ _ h
def T9 (r:Option (List Et×Nat)):Option (List Et):=match r with
 | none=>none
 | some (es,j)=>if j=m.length then some es else none
def Mi (mn:Bool) (N:Nat) (r:Option (List Et×Nat)):Option (List Et):=match r with
 | none=>none
 | some (es,j)=>T9 m ((V6 (Eo f m) (Jt m Um J1 true) J1 3 N j).map fun r=>(tE mn 3 (Jm 4 es)::r.1,r.2))
def En (n i:Nat):Option (List Et×Nat):=V6 (fun j=>(W6 f m j).map fun e=>(e,j+1)) (Jt m Ur Zi false) Zi 5 n i
def A8 (mn over:Bool) (es:List Et) (n N i:Nat):Option (List Et):=match W6 f m i with
 | none=>none
 | some e=>Mi f m mn N ((En f m n (i+1)).map fun r=>(es++tE over 5 e::r.1,r.2))
theorem Q4t (E:Et) (r:Option (List Et×Nat)):T9 m (r.map fun r=>(E::r.1,r.2))=(T9 m r).map (E::·):=by
 match r with
 | none=>rfl
 | some (es,j) =>
   simp only[Option.map_some,T9];split<;>rfl
theorem Q6u (s:List UInt8) (turn:List UInt8) (k:Int) (e:Et):(if s=turn then Et.mk k 0 0 0 [e] else e)=tE (s==turn) k e:=by
 unfold tE
 by_cases h:s=turn
 · rw[if_pos h,if_pos (by simpa using h)]
 · rw[if_neg h,if_neg (by simpa using h)]
variable (hf:∀ t k,(t.kind=9∨t.kind=13)→f (.mk t k)=none) (hend:∀ i,i<m.length→Ja m i<m.length)
include hf hend
theorem Q30:∀ (d i:Nat),m.length-i≤d→i≤m.length →
  (Ut (m.drop i)=false→∀ (p over mn:Bool) (es:List Et) (n N:Nat),m.length≤n+i→m.length≤N+i→A8 f m mn over es n N i=FR f p [] over es mn (m.drop i)) ∧
  (∀ (v:Vt) (e:Et) (over mn:Bool) (es:List Et) (n N:Nat),Ud v=false→f v=some e→m.length<n+i→m.length<N+i →
    Mi f m mn N ((En f m n i).map fun r=>(es++tE over 5 e::r.1,r.2))=FR f false [v] over es mn (m.drop i)):=by
 intro d
 induction d using Nat.strongRecOn with
 | _ d ih =>
   intro i hd hi
   have hB:∀ (v:Vt) (e:Et) (over mn:Bool) (es:List Et) (n N:Nat),Ud v=false→f v=some e→m.length<n+i→m.length<N+i →
     Mi f m mn N ((En f m n i).map fun r=>(es++tE over 5 e::r.1,r.2))=FR f false [v] over es mn (m.drop i):=by
    intro v e over mn es n N hv he hn hN;obtain⟨n,rfl⟩:∃ n',n=n'+1:=⟨n-1,by omega⟩;obtain⟨N,rfl⟩:∃ N',N=N'+1:=⟨N-1,by omega⟩;have hbl:=Gu m i;have hbm:=K1 m hi;rw[Ef,← Wd];obtain⟨b,hb⟩:∃ b,Ja m i=b:=⟨_,rfl⟩;have hstop:=Mt m i;have hfar:=On m i;rw[hb]at hbl hbm hstop hfar ⊢
    cases hu:m[b]? with
    | none =>
      have hbe:m.length≤b:=List.getElem?_eq_none_iff.1 hu
      have him:i=m.length:=by
       rcases Nat.lt_or_ge i m.length with h|h
       · have:=hend i h;omega
       · omega
      have s1:Jt m Ur Zi false i=([],i):=by unfold Jt;rw[hb,hu]
      have s2:Jt m Um J1 true i=([],i):=by unfold Jt;rw[hb,hu]
      rw[Z3 hbe,FR,Eh,he];unfold En;rw[V6,s1];simp only[Option.map_some,Mi];rw[V6,s2];simp only[Option.map_some,T9,him,if_true]
    | some u =>
      obtain⟨t,kk⟩:=u;obtain⟨hbl2,hbe⟩:=Qn.1 hu
      have hdr:m.drop b=.mk t kk::m.drop (b+1):=by rw[Qv hbl2,hbe]
      have hsu:Ud (.mk t kk)=false:=by rw[hdr]at hstop;exact hstop
      have hk13:t.kind≠13:=by simpa[Ud] using hsu
      have hni:¬ i=m.length:=by omega
      rw[hdr];obtain⟨j,hj⟩:∃ j,Ja m (b+1)=j:=⟨_,rfl⟩;have hjl:=Gu m (b+1);have hjm:=K1 m (show b+1≤m.length by omega);have hjs:=Mt m (b+1);have hjf:=On m (b+1);have hjd:=Wd m (b+1);rw[hj]at hjl hjm hjs hjf hjd;have ihA:=(ih (m.length-j) (by omega) j (Q6 _) hjm).1 hjs
      by_cases hdiv:t.kind=9∧(t.text=Ur∨t.text=Zi)
      · have s1:Jt m Ur Zi false i=(t.text,j):=by
         unfold Jt;rw[hb,hu];simp only[hj];rw[if_pos ⟨hdiv.1,hdiv.2,Or.inl trivial⟩]
        have g1:V8 Um J1 (.mk t kk)=false:=by
         simp only[V8]
         rcases hdiv.2 with h|h<;>rw[h]<;>simp[Um,J1,Ur,Zi]
        have g2:V8 Ur Zi (.mk t kk)=true:=by
         simp only[V8]
         rcases hdiv.2 with h|h<;>rw[h,hdiv.1]<;>simp[Ur,Zi]
        rw[FR,g1,g2,if_neg (by simp),if_pos rfl,Eh,he];simp only;rw[Ef,← hjd,show Xy (.mk t kk)=t.text from rfl,← ihA (if Ut (m.drop (b+1)) then true else Ud (.mk t kk)) (t.text==Zi) mn (es++[tE over 5 e]) n (N+1) (by omega) (by omega)];unfold En A8
        obtain ⟨c,s,hcs⟩:∃ c s,t.text=c::s:=by
         rcases hdiv.2 with h|h
         · exact⟨42,[],h⟩
         · exact⟨47,[],h⟩
        rw[V6,s1,hcs];simp only;rw[← hcs]
        cases W6 f m j with
        | none=>rfl
        | some e2 =>
          simp only[Option.map_some,Q6u,Option.map_map,En]
          congr 2
          funext r
          simp
      · have s1:Jt m Ur Zi false i=([],i):=by
         unfold Jt;rw[hb,hu];simp only;rw[if_neg (fun h=>hdiv ⟨h.1,h.2.1⟩)]
        have g2:V8 Ur Zi (.mk t kk)=false:=by
         simp only[V8]
         cases hk:(t.kind==9) with
         | false=>rfl
         | true =>
           have:=fun h=>hdiv ⟨by simpa using hk,h⟩
           simp only[Bool.true_and];simpa using this
        unfold En;rw[V6,s1];simp only[Option.map_some,Mi]
        by_cases hsum:t.kind=9∧(t.text=Um∨t.text=J1)∧(i<b∧b+1<j)
        · have s2:Jt m Um J1 true i=(t.text,j):=by
           unfold Jt;rw[hb,hu];simp only[hj];rw[if_pos ⟨hsum.1,hsum.2.1,Or.inr hsum.2.2⟩]
          have g1:V8 Um J1 (.mk t kk)=true:=by
           simp only[V8]
           rcases hsum.2.1 with h|h<;>rw[h,hsum.1]<;>simp[Um,J1]
          rw[FR,g1,hfar.1 hsum.2.2.1,hjf.1 hsum.2.2.2];simp only[if_true,Bool.and_self];rw[Eh,he];simp only;rw[Ef,← hjd,hjf.1 hsum.2.2.2,show Xy (.mk t kk)=t.text from rfl,← ihA (if true=true then true else Ud (.mk t kk)) false (t.text==J1) [] (m.length+1) N (by omega) (by omega)];unfold A8
          obtain ⟨c,s,hcs⟩:∃ c s,t.text=c::s:=by
           rcases hsum.2.1 with h|h
           · exact⟨43,[],h⟩
           · exact⟨45,[],h⟩
          rw[V6,s2,hcs];simp only;rw[← hcs,Q4t]
          congr 1
          unfold Eo
          cases W6 f m j with
          | none=>rfl
          | some e2 =>
            simp only[En]
            cases V6 (fun j=>(W6 f m j).map fun e=>(e,j+1)) (Jt m Ur Zi false) Zi 5 (m.length+1) (j+1) with
            | none=>rfl
            | some r =>
              obtain⟨es2,j2⟩:=r;simp only[Option.map_some,Mi,Q6u,List.nil_append];rfl
        · have s2:Jt m Um J1 true i=([],i):=by
           unfold Jt;rw[hb,hu];simp only[hj];rw[if_neg (fun h=>hsum ⟨h.1,h.2.1,h.2.2.resolve_left (by simp)⟩)]
          rw[V6,s2];simp only[Option.map_some,T9,hni,if_false];rw[FR,g2]
          have g1:(V8 Um J1 (.mk t kk)&&(if Ut (m.drop i) then true else false)&&Ut (m.drop (b+1)))=false:=by
           apply Bool.eq_false_iff.2
           intro h;simp only[Qe,V8,beq_iff_eq,Za]at h;obtain⟨⟨⟨h1,h2⟩,h3⟩,h4⟩:=h;refine hsum ⟨h1,h2,hfar.2 ?_,hjf.2 h4⟩
           cases hh:Ut (m.drop i) with
           | true=>rfl
           | false=>rw[hh]at h3;cases h3
          rw[g1,if_neg (by simp),if_neg (by simp),hsu,if_neg (by simp)];exact(R4 f _ _ _ _ _ _ (Or.inl (by simp))).symm
   refine⟨fun hsp p over mn es n N hn hN=>?_,hB⟩;unfold A8 W6
   cases hv:m[i]? with
   | none =>
     rw[Z3 (List.getElem?_eq_none_iff.1 hv)];rfl
   | some v =>
     obtain⟨hil,hie⟩:=Qn.1 hv
     have hdr:m.drop i=v::m.drop (i+1):=by rw[Qv hil,hie]
     rw[hdr]at hsp ⊢;have hsv:Ud v=false:=hsp;simp only
     cases he:f v with
     | none =>
       simp only;rw[FR];split
       · rfl
       · split
         · rfl
         · rw[hsv,if_neg (by simp)];exact(R4 f _ _ _ _ _ _ (Or.inr ⟨v,rfl,he⟩)).symm
     | some e =>
       have hk9:∀ a b,V8 a b v=false:=fun a b=>by
        obtain⟨t,kk⟩:=v;simp only[V8]
        cases hk:(t.kind==9) with
        | false=>rfl
        | true=>rw[hf t kk (Or.inl (by simpa using hk))]at he;cases he
       rw[FR,hk9,hk9,if_neg (by simp),if_neg (by simp),hsv,if_neg (by simp)];exact(ih (m.length-(i+1)) (by omega) (i+1) (Q6 _) (by omega)).2 v e over mn es n N hsv he (by omega) (by omega)
end
theorem Ox:∀ l:List Vt,l.dropWhile Ud=[]→∀ x∈l,Ud x=true
 | [],_,x,hx=>by cases hx
 | y::l,h,x,hx=>by
   cases hy:Ud y with
   | true =>
     rw[List.dropWhile_cons_of_pos hy]at h
     rcases List.mem_cons.1 hx with rfl|hx
     · exact hy
     · exact Ox l h x hx
   | false=>rw[List.dropWhile_cons_of_neg (by simp[hy])]at h;cases h
theorem Q0z (l:List Vt):∀ i,i<(Z9 l).length→Ja (Z9 l) i<(Z9 l).length:=by
 intro i hi;obtain⟨m,hm⟩:∃ m,Z9 l=m:=⟨_,rfl⟩
 have hm2:m.reverse=(X9 l).reverse.dropWhile Ud:=by rw[← hm];unfold Z9;rw[List.reverse_reverse]
 rw[hm]at hi ⊢;have h1:=K1 m (Zg hi)
 rcases Nat.lt_or_ge (Ja m i) m.length with h|h
 · exact h
 · exfalso
   have hd:=Wd m i;rw[Z3 h]at hd;have hall:∀ x∈m.drop i,Ud x=true:=Ox _ hd.symm
   cases hr:m.reverse with
   | nil=>have:=congrArg List.length hr;simp at this;rw[this]at hi;cases hi
   | cons x r =>
     have hx:=Xh _ _ _ (hm2.symm.trans hr)
     have hmem:x∈m.drop i:=by
      have e:m=r.reverse++[x]:=by rw[← List.reverse_reverse m,hr,List.reverse_cons]
      have hl:r.length+1=m.length:=by rw[e];simp
      rw[e,List.drop_append_of_le_length (by simp;omega)];simp
     rw[hall x hmem]at hx
     cases hx
theorem K3 (l:List Vt):Ut (Z9 l)=false:=by
 cases h:Z9 l with
 | nil=>rfl
 | cons x r =>
   have h1:(X9 l).reverse.dropWhile Ud=(x::r).reverse:=by rw[← h];unfold Z9;rw[List.reverse_reverse]
   have h2:∃ c,X9 l=(x::r)++c:=by
    have:=List.takeWhile_append_dropWhile (p:=Ud) (l:=(X9 l).reverse);rw[h1]at this;refine⟨((X9 l).reverse.takeWhile Ud).reverse,?_⟩;have e2:=congrArg List.reverse this;rw[List.reverse_append,List.reverse_reverse,List.reverse_reverse]at e2;exact e2.symm
   obtain⟨c,hc⟩:=h2;exact Xh l x (r++c) hc
theorem Hv (f:Vt→Option Et) (hf:∀ t k,(t.kind=9∨t.kind=13)→f (.mk t k)=none) (l:List Vt):J0 f l=Ux f l:=by
 have h:=(Q30 f (Z9 l) hf (Q0z l) (Z9 l).length 0 (by omega) (Qs _)).1 (by rw[List.drop_zero];exact K3 l) false false false [] ((Z9 l).length+1) ((Z9 l).length+1) (by omega) (by omega);rw[List.drop_zero]at h;rw[Q5o,← h]
 have hp:Eo f (Z9 l) 0=match W6 f (Z9 l) 0 with
  | none=>none
  | some e=>(En f (Z9 l) ((Z9 l).length+1) 1).map fun r=>(Jm 4 (e::r.1),r.2):=rfl
 unfold J0 Rn A8;rw[hp]
 cases W6 f (Z9 l) 0 with
 | none=>rfl
 | some e =>
   simp only[List.nil_append,Nat.zero_add]
   cases En f (Z9 l) ((Z9 l).length+1) 1 with
   | none=>rfl
   | some r =>
     obtain⟨es2,j2⟩:=r;simp only[Option.map_some,Mi]
     cases V6 (Eo f (Z9 l)) (Jt (Z9 l) Um J1 true) J1 3 ((Z9 l).length+1) j2 with
     | none=>rfl
     | some r =>
       obtain⟨es3,j3⟩:=r;simp only[Option.map_some,T9];split<;>rfl
theorem Q0b (W:(Vt→Option Et)→List Vt→Option Et):∀ (n:Nat) (t:Tk) (k:List Vt),(t.kind=9∨t.kind=13)→Kb W n (.mk t k)=none
 | 0,_,_,_=>rfl
 | n+1,t,k,h=>by
   rw[Kb,if_neg (by omega)];unfold K8;rw[if_neg (by omega),if_neg (by omega),if_neg (by omega)]
theorem Q0a:∀ n:Nat,Kb J0 n=Kb Ux n
 | 0=>rfl
 | n+1=>by
   funext v
   obtain⟨t,k⟩:=v
   have hw:J0 (Kb J0 n)=Ux (Kb Ux n):=by
    funext l
    rw[Hv _ (Q0b _ n) l,Q0a n]
   rw[Kb,Kb,hw]
theorem Q6d (n:Nat):Cr J0 n=Cr Ux n:=by
 cases n with
 | zero=>rfl
 | succ n =>
   funext v
   obtain⟨t,k⟩:=v
   have hw:J0 (Kb J0 n)=Ux (Kb Ux n):=by
    funext l
    rw[Hv _ (Q0b _ n) l,Q0a n]
   rw[Cr,Cr,hw]
theorem I9 (h:Nat) (l:List Vt):Jz J0 h l=Jz Ux h l:=by
 unfold Jz;rw[Q6d]
end Go.Proofs.YtnanffmhbjdpaaaGreatDoor
namespace Go.Proofs.YtnanffmhbjdpaaaGreatDoor
set_option maxHeartbeats 8000000
set_option maxRecDepth 20000
set_option linter.unusedVariables false
set_option linter.unusedSimpArgs false
open Go.RowKit Go.Lib
def Eg:List UInt8:=[54,48,48]
theorem Ay (w:World) :
  Calls Tryz.prog 179 #[.string ⟨Eg.toArray⟩,.int .i64 0] w fun e w'=>e=.returned (.int .i64 3)∧Below w.heap.size w w':=by
 have h6:=Q1 (show ∀ w,Calls Tryz.prog 208 #[.int .u8 54] w fun e w'=>e=.returned (.bool true)∧w=w' from fun w=>Oe 54 w);have h0:=Q1 (show ∀ w,Calls Tryz.prog 208 #[.int .u8 48] w fun e w'=>e=.returned (.bool true)∧w=w' from fun w=>Oe 48 w);unfold Eg
 go_enter Tryz.func179,Tryz.ntmps179
 go_wp2_with fail
 go_loopg [1] 3 (fun k s wr=>(s=.int .i64 0∧k=3∨s=.int .i64 1∧2≤k∨s=.int .i64 2∧1≤k∨s=.int .i64 3)∧Below w.heap.size w wr)
 case atStart=>exact⟨.inl ⟨rfl,rfl⟩,Below.refl _ _⟩
 case round =>
  obtain⟨⟨rfl,hk⟩ | ⟨rfl,hk⟩ | ⟨rfl,hk⟩ | rfl,hb⟩:=hrel
  · go_wp2_with fail
    ((with_reducible refine(h6.out _).mono ?_);rintro e w' ⟨rfl,rfl⟩)
    go_wp2_with fail
    go_roundg 2
    case measure=>omega
    case rel=>exact⟨.inr (.inl ⟨rfl,by omega⟩),hb⟩
  · go_wp2_with fail
    ((with_reducible refine(h0.out _).mono ?_);rintro e w' ⟨rfl,rfl⟩)
    go_wp2_with fail
    go_roundg 1
    case measure=>omega
    case rel=>exact⟨.inr (.inr (.inl ⟨rfl,by omega⟩)),hb⟩
  · go_wp2_with fail
    ((with_reducible refine(h0.out _).mono ?_);rintro e w' ⟨rfl,rfl⟩)
    go_wp2_with fail
    go_roundg 0
    case measure=>omega
    case rel=>exact⟨.inr (.inr (.inr rfl)),hb⟩
  · go_wp2_with fail;go_ret;exact⟨rfl,hb⟩
theorem Oz (w:World) :
  Calls Tryz.prog 181 #[.bool false,.string ⟨Eg.toArray⟩,.int .i64 0] w fun e w'=>e=.returned (.agg #[.int .i64 600,.int .i64 1])∧Below w.heap.size w w':=by
 unfold Eg
 go_enter Tryz.func181,Tryz.ntmps181
 go_upto_region 1 with fail
 have hr:Ql (w.alloc (.cells #[.int .i64 0,.int .i64 0] 23)) w.heap.size 23 #[.int .i64 0,.int .i64 0]:=Ql.new _ _ _;have hb:Below w.heap.size w (w.alloc (.cells #[.int .i64 0,.int .i64 0] 23)):=Q7 _ _;generalize w.alloc _=wa at *;go_wp2_with fail
 go_loopg [7] 0 (fun k s7 wr=>s7=.int .i64 0∧wr=wa)
 case atStart=>exact⟨rfl,rfl⟩
 case round =>
  obtain⟨rfl,rfl⟩:=hrel;go_wp2_with fail
  go_loopg [2,8] 2 (fun k s2 s8 wx=>(s2=.int .i64 0∧s8=.int .i64 3∧k=2∨s2=.int .i64 1∧s8=.int .i64 2∧1≤k∨s2=.int .i64 2∧s8=.int .i64 1)∧wx=wr)
  case atStart=>exact⟨.inl ⟨rfl,rfl,rfl⟩,rfl⟩
  case round =>
   obtain⟨⟨rfl,rfl,hk⟩ | ⟨rfl,rfl,hk⟩ | ⟨rfl,rfl⟩,rfl⟩:=hrel
   · go_wp2_with fail
     go_roundg 1
     case measure=>omega
     case rel=>exact⟨.inr (.inl ⟨rfl,rfl,Q6 _⟩),rfl⟩
   · go_wp2_with fail
     go_roundg 0
     case measure=>omega
     case rel=>exact⟨.inr (.inr ⟨rfl,rfl⟩),rfl⟩
   · obtain⟨cap,w1,hrun,hb1,hlt1,hcells⟩:=Tq [54] wr;have hc0:w1.cell? ⟨wr.heap.size,0,none⟩=some (.int .u8 54):=hcells 0 54 rfl
     have hex:(⟨#[54,48,48]⟩:ByteArray).extract 0 1=⟨#[54]⟩:=by decide
     simp only[Z8,List.length_nil,Nat.zero_add]at hrun;clear hcells;go_wp2_with fail;obtain⟨ex1,e2⟩:=Qf hb1;subst e2;replace hb:=Qa hb ex1;replace hr:=hr.grow ex1;clear hb1 hrun;generalize grow wr ex1=w1 at *;generalize wr.heap.size=B at *
     go_loopg [52,9] 1 (fun k s52 s9 wx=>(s52=.int .i64 0∧s9=.int .u64 0∧k=1∨s52=.int .i64 1∧s9=.int .u64 6)∧wx=w1)
     case atStart=>exact⟨.inl ⟨rfl,rfl,rfl⟩,rfl⟩
     case round =>
      obtain⟨⟨rfl,rfl,hk⟩ | ⟨rfl,rfl⟩,rfl⟩:=hrel
      · go_wp2_with fail
        go_roundg 0
        case measure=>omega
        case rel=>exact⟨.inr ⟨rfl,rfl⟩,rfl⟩
      · go_wp2_with fail
        go_loopg [2,9] 2 (fun k s2 s9 wx=>(s2=.int .i64 2∧s9=.int .u64 6∧k=2∨s2=.int .i64 1∧s9=.int .u64 60∧1≤k∨s2=.int .i64 0∧s9=.int .u64 600)∧wx=wr)
        case atStart=>exact⟨.inl ⟨rfl,rfl,rfl⟩,rfl⟩
        case round =>
         obtain⟨⟨rfl,rfl,hk⟩ | ⟨rfl,rfl,hk⟩ | ⟨rfl,rfl⟩,rfl⟩:=hrel
         · go_wp2_with fail
           go_roundg 1
           case measure=>omega
           case rel=>exact⟨.inr (.inl ⟨rfl,rfl,Q6 _⟩),rfl⟩
         · go_wp2_with fail
           go_roundg 0
           case measure=>omega
           case rel=>exact⟨.inr (.inr ⟨rfl,rfl⟩),rfl⟩
         · go_wp2_with fail
           go_loopg [9,13] 0 (fun k s9 s13 wx=>s9=.int .u64 600∧s13=.int .i64 0∧wx=wr)
           case atStart=>exact⟨rfl,rfl,rfl⟩
           case round =>
            obtain⟨rfl,rfl,rfl⟩:=hrel;go_wp2_with fail
            go_loopg [9,14] 0 (fun k s9 s13 wx=>s9=.int .u64 600∧s13=.int .i64 0∧wx=wr)
            case atStart=>exact⟨rfl,rfl,rfl⟩
            case round =>
             obtain⟨rfl,rfl,rfl⟩:=hrel;go_wp2_with fail
             go_loopg [12,13] 0 (fun k s9 s13 wx=>s9=.int .u64 1∧s13=.int .i64 0∧wx=wr)
             case atStart=>exact⟨rfl,rfl,rfl⟩
             case round =>
              obtain⟨rfl,rfl,rfl⟩:=hrel;go_wp2_with fail
              go_loopg [12,14] 0 (fun k s9 s13 wx=>s9=.int .u64 1∧s13=.int .i64 0∧wx=wr)
              case atStart=>exact⟨rfl,rfl,rfl⟩
              case round =>
               obtain⟨rfl,rfl,rfl⟩:=hrel;have cr0:wr.cell? ⟨w.heap.size,0,none⟩=some (.int .i64 0):=(hr).cell 0;have fcr0:=(hr).frozen 0;have cr1:wr.cell? ⟨w.heap.size,1,none⟩=some (.int .i64 0):=(hr).cell 1;have fcr1:=(hr).frozen 1;have lcr:=(hr).lt;go_wp2_with fail;exact bodyPost_ret (v:=.agg #[.int .i64 600,.int .i64 1]) (by simp[results,Tryz.results181,go_sem,cr0,cr1,lcr]) rfl ⟨rfl,(by repeat (first|with_reducible exact hb | (with_reducible refine Below.setCell ?_ ?hq _;case hq=>first | (simp;done) | (simp;omega))))⟩
theorem Mb (w:World) :
  Calls Tryz.prog 153 #[.string ⟨Eg.toArray⟩] w fun e w'=>e=.returned (.tuple #[.agg #[.int .i64 600,.int .i64 1],.bool true,.int .i64 0])∧Below w.heap.size w w':=by
 have HR:=Q1 Ay;have HV:=Q1 Oz;unfold Eg at *
 go_enter Tryz.func153,Tryz.ntmps153
 go_upto_region 1 with fail
 have hr:Ql (w.alloc (.cells #[.int .i64 0,.int .i64 0] 23)) w.heap.size 23 #[.int .i64 0,.int .i64 0]:=Ql.new _ _ _;have hb:Below w.heap.size w (w.alloc (.cells #[.int .i64 0,.int .i64 0] 23)):=Q7 _ _
 have hex:(⟨#[54,48,48]⟩:ByteArray).extract 0 3=⟨#[54,48,48]⟩:=by decide
 generalize w.alloc _=wa at *;go_wp2_with fail;go_wp2_with fail
 ((with_reducible refine(HR.out _).mono ?_);rintro e w' ⟨rfl,hbw⟩)
 obtain⟨m1,rfl⟩:=Qf hbw;clear hbw;replace hb:=Qa hb m1;replace hr:=hr.grow m1;generalize grow _ m1=wr at *;go_wp2_with fail;go_wp2_with fail
 ((with_reducible refine(HV.out _).mono ?_);rintro e w' ⟨rfl,hbw⟩)
 obtain⟨m2,rfl⟩:=Qf hbw;clear hbw;replace hb:=Qa hb m2;replace hr:=hr.grow m2;generalize grow _ m2=wx at *;have cr0:wx.cell? ⟨w.heap.size,0,none⟩=some (.int .i64 0):=(hr).cell 0;have fcr0:=(hr).frozen 0;have cr1:wx.cell? ⟨w.heap.size,1,none⟩=some (.int .i64 0):=(hr).cell 1;have fcr1:=(hr).frozen 1;have lcr:=(hr).lt;go_wp2_with fail;exact bodyPost_ret (v:=.tuple #[.agg #[.int .i64 600,.int .i64 1],.bool true,.int .i64 0]) (by simp[results,Tryz.results153,go_sem,cr0,cr1,lcr]) rfl ⟨rfl,(by repeat (first|with_reducible exact hb | (with_reducible refine Below.setCell ?_ ?hq _;case hq=>first | (simp;done) | (simp;omega))))⟩
end Go.Proofs.YtnanffmhbjdpaaaGreatDoor
