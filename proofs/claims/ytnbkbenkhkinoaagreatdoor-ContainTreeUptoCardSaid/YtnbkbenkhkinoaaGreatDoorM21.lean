/- Of my texts: ValT, ValA, ValB, ValC, ValD, ValE, Safe, OpenV. -/
import Derived.Test.YtnbkbenkhkinoaaGreatDoorM04
import Derived.Test.YtnbkbenkhkinoaaGreatDoorM05
import Derived.Test.YtnbkbenkhkinoaaGreatDoorM06
import Derived.Test.YtnbkbenkhkinoaaGreatDoorM15
import Derived.Test.YtnbkbenkhkinoaaGreatDoorM20
import Derived.SizedLaws
namespace Go.Proofs.YtnbkbenkhkinoaaGreatDoor
set_option linter.unusedVariables false
set_option linter.unusedSimpArgs false
open Go.ChangeShapes Go.WideShapes Go.ChangeAt Go.RowKit Go.Deep
inductive Vl where
 | mk (t:Tk) (oa:Option Addr) (b o cap:Nat) (kids:List Vl)
instance:Inhabited Vl:=⟨.mk ⟨0,[],(0,0),false,false⟩ none 0 0 0 []⟩
def vcells:Vl→List Value
 | .mk t oa _ _ cap kids=>tkcells t++[.slice oa kids.length cap]
def vv (v:Vl):Value:=.agg (vcells v).toArray
theorem vcells_length (v:Vl):(vcells v).length=7:=by cases v;rfl
mutual
def Vl.c:Vl→Vt
 | .mk t _ _ _ _ kids=>.mk t (Vl.cs kids)
def Vl.cs:List Vl→List Vt
 | []=>[]
 | x::r=>x.c::Vl.cs r
end
theorem Vl.cs_map:∀ l:List Vl,Vl.cs l=l.map Vl.c
 | []=>rfl
 | x::r=>by rw[Vl.cs,Vl.cs_map r];rfl
theorem Vl.c_mk (t:Tk) (oa:Option Addr) (b o cap:Nat) (kids:List Vl):(Vl.mk t oa b o cap kids).c=.mk t (kids.map Vl.c):=by
 rw[Vl.c,Vl.cs_map]
def Tk64 (t:Tk):Prop:=I64 t.kind∧Is64 t.num∧t.text.length≤9223372036854775807
def VlIn (w:World):Nat→Vl→Prop
 | 0,_=>False
 | h+1,.mk t oa b o cap kids=>Tk64 t∧kids.length*72≤140737488355328∧Sl w oa kids.length cap b o 7 (kids.flatMap vcells)∧∀ (i:Nat) (x:Vl),kids[i]?=some x→VlIn w h x
structure VsIn (w:World) (h:Nat) (oa:Option Addr) (cap b o:Nat) (l:List Vl):Prop where
 small:l.length*72≤140737488355328
 sl:Sl w oa l.length cap b o 7 (l.flatMap vcells)
 each:∀ (i:Nat) (x:Vl),l[i]?=some x→VlIn w h x
theorem VlIn.below:∀ (h:Nat) {v:Vl} {w w':World},VlIn w h v→Below w.heap.size w w'→VlIn w' h v
 | 0,_,_,_,hx,_=>hx.elim
 | h+1,.mk t oa b o cap kids,w,w',hx,hb=>⟨hx.1,hx.2.1,hx.2.2.1.below hb,fun i x hi=>VlIn.below h (hx.2.2.2 i x hi) hb⟩
theorem VlIn.mono:∀ (h h':Nat) {w:World} {v:Vl},h≤h'→VlIn w h v→VlIn w h' v
 | 0,_,_,_,_,hx=>hx.elim
 | h+1,0,_,_,hl,_=>by omega
 | h+1,h'+1,w,.mk t oa b o cap kids,hl,hx=>⟨hx.1,hx.2.1,hx.2.2.1,fun i x hi=>VlIn.mono h h' (by omega) (hx.2.2.2 i x hi)⟩
theorem VsIn.below {w w':World} {h:Nat} {oa:Option Addr} {cap b o:Nat} {l:List Vl} (hs:VsIn w h oa cap b o l) (hb:Below w.heap.size w w'):VsIn w' h oa cap b o l :=
 ⟨hs.small,hs.sl.below hb,fun i x hi=>(hs.each i x hi).below h hb⟩
theorem VsIn.mono {w:World} {h h':Nat} {oa:Option Addr} {cap b o:Nat} {l:List Vl} (hs:VsIn w h oa cap b o l) (hl:h≤h'):VsIn w h' oa cap b o l :=
 ⟨hs.small,hs.sl,fun i x hi=>(hs.each i x hi).mono h h' hl⟩
theorem VlIn.kids {w:World} {h:Nat} {t:Tk} {oa:Option Addr} {b o cap:Nat} {kids:List Vl} (hx:VlIn w (h+1) (.mk t oa b o cap kids)):VsIn w h oa cap b o kids:=⟨hx.2.1,hx.2.2.1,hx.2.2.2⟩
theorem flat_at {α:Type} {f:α→List Value} {sz:Nat} (hf:∀ x,(f x).length=sz):∀ (l:List α) (i:Nat) (x:α) (j:Nat) (v:Value),l[i]?=some x→(f x)[j]?=some v→(l.flatMap f)[i*sz+j]?=some v
 | [],i,x,j,v,h,_=>by simp at h
 | y::l,0,x,j,v,h,hv=>by
   obtain rfl:=Option.some.inj h;rw[List.flatMap_cons,Nat.zero_mul,Nat.zero_add,List.getElem?_append_left (List.getElem?_eq_some_iff.1 hv).1];exact hv
 | y::l,i+1,x,j,v,h,hv=>by
   have ih:=flat_at hf l i x j v (by simpa using h) hv;have:=hf y;rw[List.flatMap_cons,List.getElem?_append_right (by rw[this,Nat.succ_mul];omega),this,show (i+1)*sz+j-sz=i*sz+j by rw[Nat.succ_mul];omega];exact ih
theorem flat_split {α:Type} {f:α→List Value} {sz:Nat} (hf:∀ x,(f x).length=sz) (hz:0<sz):∀ (l:List α) (k:Nat) (v:Value),(l.flatMap f)[k]?=some v→∃ i x j,l[i]?=some x∧(f x)[j]?=some v∧k=i*sz+j
 | [],k,v,h=>by simp at h
 | y::l,k,v,h=>by
   have hy:=hf y;rw[List.flatMap_cons]at h
   rcases Nat.lt_or_ge k sz with hk|hk
   · rw[List.getElem?_append_left (by omega)]at h;exact⟨0,y,k,rfl,h,by omega⟩
   · rw[List.getElem?_append_right (by omega),hy]at h;obtain⟨i,x,j,h1,h2,h3⟩:=flat_split hf hz l (k-sz) v h;exact⟨i+1,x,j,by simpa using h1,h2,by rw[Nat.succ_mul];omega⟩
theorem flat_length {α:Type} {f:α→List Value} {sz:Nat} (hf:∀ x,(f x).length=sz):∀ l:List α,(l.flatMap f).length=l.length*sz
 | []=>by simp
 | y::l=>by rw[List.flatMap_cons,List.length_append,hf,flat_length hf l,List.length_cons,Nat.succ_mul];omega
theorem VsIn.cell {w:World} {h:Nat} {oa:Option Addr} {cap b o:Nat} {l:List Vl} (hs:VsIn w h oa cap b o l) {i:Nat} {x:Vl} (hi:l[i]?=some x) {j:Nat} {v:Value} (hv:(vcells x)[j]?=some v):w.cell? ⟨b,o+i*7+j,none⟩=some v:=by
 rw[show o+i*7+j=o+(i*7+j) by omega];exact hs.sl.cell _ _ (flat_at vcells_length l i x j v hi hv)
theorem cellsStr:Tryz.prog.cellsOf 9=1:=by kernel_rfl
theorem six {α:Type} {l:List α} (h:l.length=6):∃ a b c d e f,l=[a,b,c,d,e,f]:=by
 match l,h with
 | [a,b,c,d,e,f],_=>exact⟨a,b,c,d,e,f,rfl⟩
theorem seven {α:Type} {l:List α} (h:l.length=7):∃ a b c d e f g,l=[a,b,c,d,e,f,g]:=by
 match l,h with
 | [a,b,c,d,e,f,g],_=>exact⟨a,b,c,d,e,f,g,rfl⟩
section
variable {H:Type} {enc:TypeId×Value→H} {w:World} {base:Nat} {spare:Nat→Bool} {held:Bool}
end
end Go.Proofs.YtnbkbenkhkinoaaGreatDoor
namespace Go.Proofs.YtnbkbenkhkinoaaGreatDoor
set_option linter.unusedVariables false
set_option linter.unusedSimpArgs false
open Go.RowKit
theorem mayV_nil (n:Nat):mayV n []=true:=by rw[mayV]
theorem mayV_cons (n:Nat) (t:Tk) (k r:List Vt):mayV n (.mk t k::r)=(decide (1≤t.kind)&&decide (t.kind≤24)&&(if closeF t.kind=0 then k.isEmpty else match n with
  | 0=>false
  | n+1=>mayV n k)&&mayV n r):=by
 rw[mayV.eq_def]
 cases n<;>rfl
set_option maxHeartbeats 1000000 in
theorem closer_any (k:Int) (w:World):Calls Tryz.prog 73 #[.int .i64 k] w fun e w'=>e=.returned (.int .i64 (closeF k))∧w'=w:=by
 have ways:k≤1∨k=2∨(3≤k∧k≤18)∨k=19∨k=20∨k=21∨k=22∨k=23∨24≤k:=by omega
 rcases ways with h|rfl|h|rfl|rfl|rfl|rfl|rfl|h
 · -- None..1
   have g0:((k==2))=false:=by simp;omega
   have g1:((k==21))=false:=by simp;omega
   have g2:((k==19))=false:=by simp;omega
   have g3:((k==23))=false:=by simp;omega
   have hv:closeF k=0:=by unfold closeF;rw[if_neg (by omega),if_neg (by omega),if_neg (by omega)]
   have HV:=Lib.hid hv;clear hv
   go_enter Tryz.func73,Tryz.ntmps73
   go_wp2_with fail;go_ret;exact⟨by rw[HV.out];rfl,rfl⟩
 · -- 2..2
   have hv:closeF (2)=22:=rfl;have HV:=Lib.hid hv;clear hv
   go_enter Tryz.func73,Tryz.ntmps73
   go_wp2_with fail;go_ret;exact⟨by rw[HV.out];rfl,rfl⟩
 · -- 3..18
   have g0:((k==2))=false:=by simp;omega
   have g1:((k==21))=false:=by simp;omega
   have g2:((k==19))=false:=by simp;omega
   have g3:((k==23))=false:=by simp;omega
   have hv:closeF k=0:=by unfold closeF;rw[if_neg (by omega),if_neg (by omega),if_neg (by omega)]
   have HV:=Lib.hid hv;clear hv
   go_enter Tryz.func73,Tryz.ntmps73
   go_wp2_with fail;go_ret;exact⟨by rw[HV.out];rfl,rfl⟩
 · -- 19..19
   have hv:closeF (19)=20:=rfl;have HV:=Lib.hid hv;clear hv
   go_enter Tryz.func73,Tryz.ntmps73
   go_wp2_with fail;go_ret;exact⟨by rw[HV.out];rfl,rfl⟩
 · -- 20..20
   have hv:closeF (20)=0:=rfl;have HV:=Lib.hid hv;clear hv
   go_enter Tryz.func73,Tryz.ntmps73
   go_wp2_with fail;go_ret;exact⟨by rw[HV.out];rfl,rfl⟩
 · -- 21..21
   have hv:closeF (21)=22:=rfl;have HV:=Lib.hid hv;clear hv
   go_enter Tryz.func73,Tryz.ntmps73
   go_wp2_with fail;go_ret;exact⟨by rw[HV.out];rfl,rfl⟩
 · -- 22..22
   have hv:closeF (22)=0:=rfl;have HV:=Lib.hid hv;clear hv
   go_enter Tryz.func73,Tryz.ntmps73
   go_wp2_with fail;go_ret;exact⟨by rw[HV.out];rfl,rfl⟩
 · -- 23..23
   have hv:closeF (23)=24:=rfl;have HV:=Lib.hid hv;clear hv
   go_enter Tryz.func73,Tryz.ntmps73
   go_wp2_with fail;go_ret;exact⟨by rw[HV.out];rfl,rfl⟩
 · -- 24..None
   have g0:((k==2))=false:=by simp;omega
   have g1:((k==21))=false:=by simp;omega
   have g2:((k==19))=false:=by simp;omega
   have g3:((k==23))=false:=by simp;omega
   have hv:closeF k=0:=by unfold closeF;rw[if_neg (by omega),if_neg (by omega),if_neg (by omega)]
   have HV:=Lib.hid hv;clear hv
   go_enter Tryz.func73,Tryz.ntmps73
   go_wp2_with fail;go_ret;exact⟨by rw[HV.out];rfl,rfl⟩
set_option maxHeartbeats 1000000 in
theorem rcloser_any (k:Int) (w:World):Calls Tryz.prog 92 #[.int .i64 k] w fun e w'=>e=.returned (.int .i64 (closeF k))∧w'=w:=by
 have ways:k≤1∨k=2∨(3≤k∧k≤18)∨k=19∨k=20∨k=21∨k=22∨k=23∨24≤k:=by omega
 rcases ways with h|rfl|h|rfl|rfl|rfl|rfl|rfl|h
 · -- None..1
   have g0:((k==2))=false:=by simp;omega
   have g1:((k==21))=false:=by simp;omega
   have g2:((k==19))=false:=by simp;omega
   have g3:((k==23))=false:=by simp;omega
   have hv:closeF k=0:=by unfold closeF;rw[if_neg (by omega),if_neg (by omega),if_neg (by omega)]
   have HV:=Lib.hid hv;clear hv
   go_enter Tryz.func92,Tryz.ntmps92
   go_wp2_with fail;go_ret;exact⟨by rw[HV.out];rfl,rfl⟩
 · -- 2..2
   have hv:closeF (2)=22:=rfl;have HV:=Lib.hid hv;clear hv
   go_enter Tryz.func92,Tryz.ntmps92
   go_wp2_with fail;go_ret;exact⟨by rw[HV.out];rfl,rfl⟩
 · -- 3..18
   have g0:((k==2))=false:=by simp;omega
   have g1:((k==21))=false:=by simp;omega
   have g2:((k==19))=false:=by simp;omega
   have g3:((k==23))=false:=by simp;omega
   have hv:closeF k=0:=by unfold closeF;rw[if_neg (by omega),if_neg (by omega),if_neg (by omega)]
   have HV:=Lib.hid hv;clear hv
   go_enter Tryz.func92,Tryz.ntmps92
   go_wp2_with fail;go_ret;exact⟨by rw[HV.out];rfl,rfl⟩
 · -- 19..19
   have hv:closeF (19)=20:=rfl;have HV:=Lib.hid hv;clear hv
   go_enter Tryz.func92,Tryz.ntmps92
   go_wp2_with fail;go_ret;exact⟨by rw[HV.out];rfl,rfl⟩
 · -- 20..20
   have hv:closeF (20)=0:=rfl;have HV:=Lib.hid hv;clear hv
   go_enter Tryz.func92,Tryz.ntmps92
   go_wp2_with fail;go_ret;exact⟨by rw[HV.out];rfl,rfl⟩
 · -- 21..21
   have hv:closeF (21)=22:=rfl;have HV:=Lib.hid hv;clear hv
   go_enter Tryz.func92,Tryz.ntmps92
   go_wp2_with fail;go_ret;exact⟨by rw[HV.out];rfl,rfl⟩
 · -- 22..22
   have hv:closeF (22)=0:=rfl;have HV:=Lib.hid hv;clear hv
   go_enter Tryz.func92,Tryz.ntmps92
   go_wp2_with fail;go_ret;exact⟨by rw[HV.out];rfl,rfl⟩
 · -- 23..23
   have hv:closeF (23)=24:=rfl;have HV:=Lib.hid hv;clear hv
   go_enter Tryz.func92,Tryz.ntmps92
   go_wp2_with fail;go_ret;exact⟨by rw[HV.out];rfl,rfl⟩
 · -- 24..None
   have g0:((k==2))=false:=by simp;omega
   have g1:((k==21))=false:=by simp;omega
   have g2:((k==19))=false:=by simp;omega
   have g3:((k==23))=false:=by simp;omega
   have hv:closeF k=0:=by unfold closeF;rw[if_neg (by omega),if_neg (by omega),if_neg (by omega)]
   have HV:=Lib.hid hv;clear hv
   go_enter Tryz.func92,Tryz.ntmps92
   go_wp2_with fail;go_ret;exact⟨by rw[HV.out];rfl,rfl⟩
set_option maxRecDepth 20000 in
set_option maxHeartbeats 8000000 in
theorem rmayv_any:∀ (n h:Nat) (l:List Vl) (oa:Option Addr) (cap b o:Nat) (w:World) (D:Int),D=64-(n:Int)→n≤64→VsIn w h oa cap b o l →
  Calls Tryz.prog 65 #[.slice oa l.length cap,.int .i64 D] w fun e w'=>e=.returned (.bool (mayV n (l.map Vl.c)))∧Below w.heap.size w w':=by
 intro n
 induction n using Nat.strongRecOn with
 | _ n ih =>
   intro h l oa cap b o w D hD hn hs;obtain⟨N,hN⟩:∃ N,l.length=N:=⟨_,rfl⟩;rw[hN];have hsm:=hs.small;rw[hN]at hsm;have HS:=Lib.hid hs;have HN:=Lib.hid hN;obtain⟨M,hM⟩:∃ M,mayV n (l.map Vl.c)=M:=⟨_,rfl⟩;rw[hM];have HM:=Lib.hid (show mayV n ((l.drop 0).map Vl.c)=M from hM);have HIH:=Lib.hid ih;have HDD:=Lib.hid hD
   have d0:0≤D:=by omega
   have d1:D≤64:=by omega
   clear ih hs hN hM hD
   go_enter Tryz.func65,Tryz.ntmps65
   go_wp2_with fail
   go_loopg [9] N (fun q s9 wr=>∃ (i:Nat),s9=.int .i64 i∧Hid (Below w.heap.size w wr)∧Hid (mayV n ((l.drop i).map Vl.c)=M)∧i≤N∧N-i≤q)
   case atStart=>exact⟨0,rfl,Lib.hid (Below.refl _ _),HM,Nat.zero_le _,by omega⟩
   case round =>
    clear HM;obtain⟨i,rfl,hb,hm,hiN,hq⟩:=hrel
    by_cases hi:i<N
    · have gi:decide ((i:Int)<(N:Int))=true:=by simpa using hi
      have gin:decide (i<N)=true:=by simpa using hi
      have hil:i<l.length:=by rw[HN.out];exact hi
      have hli:l[i]?=some l[i]:=List.getElem?_eq_getElem hil;have hs2:=HS.out.below hb.out;have hv:=hs2.each i _ hli;have hm2:=hm.out;rw[List.drop_eq_getElem_cons hil,List.map_cons]at hm2;obtain⟨rfl,hbl⟩:=hs2.sl.lies (by omega);obtain⟨x,hx⟩:∃ x,l[i]=x:=⟨_,rfl⟩;rw[hx]at hli hv hm2;obtain⟨t,koa,kb,ko,kcap,kids⟩:=x;obtain _ | h:=h
      · exact hv.elim
      have f0:=hs2.cell hli (j:=0) rfl;have f1:=hs2.cell hli (j:=1) rfl;have f2:=hs2.cell hli (j:=2) rfl;have f3:=hs2.cell hli (j:=3) rfl;have f4:=hs2.cell hli (j:=4) rfl;have f5:=hs2.cell hli (j:=5) rfl;have f6:=hs2.cell hli (j:=6) rfl;rw[Nat.add_zero]at f0;rw[Vl.c_mk,mayV_cons]at hm2;obtain⟨K,hK⟩:∃ K,kids.length=K:=⟨_,rfl⟩
      have hke:(kids.map Vl.c).isEmpty=(K==0):=by rw[← hK,List.isEmpty_map];cases kids<;>rfl
      rw[hK]at f6;have hks:=hv.kids;have h64:=hv.1;obtain⟨tk,tt,⟨tn,td⟩,ti,tid⟩:=t;obtain⟨hk64,_,_⟩:=h64;unfold I64 at hk64
      have hcl:=fun w=>rcloser_any tk w
      obtain⟨C,hC⟩:∃ C,closeF tk=C:=⟨_,rfl⟩;rw[hC]at hcl;simp only[hC,hke]at hm2;have HCL:=Lib.hid hcl;have HB:=Lib.hid hb.out;have HMM:=Lib.hid hm2;clear hcl hm2 hm hv hs2 hli hx hC hke;have hnew:=Below.alloc hb.out hb.out.size (.cells #[.int .i64 tk,.string ⟨tt.toArray⟩,.int .i64 tn,.int .i64 td,.bool ti,.bool tid,.slice koa K kcap] 104);have HNW:=Lib.hid hnew;have HKS:=Lib.hid (hks.below ((Below.refl wr.heap.size wr).alloc (Nat.le_refl _) (.cells #[.int .i64 tk,.string ⟨tt.toArray⟩,.int .i64 tn,.int .i64 td,.bool ti,.bool tid,.slice koa K kcap] 104)));clear hnew hks hb
      by_cases hk:1≤tk∧tk≤24
      · have k1:decide (tk<(1:Int))=false:=by simp;omega
        have k2:decide ((24:Int)<tk)=false:=by simp;omega
        by_cases hC0:C=0
        · subst hC0
          by_cases hK0:K=0
          · have gK:decide ((0:Int)<(K:Int))=false:=by simp;omega
            have gKn:decide (0<K)=false:=by simp;omega
            have HM2:=Lib.hid (show mayV n ((l.drop (i+1)).map Vl.c)=M by rw[← HMM.out];simp[hk.1,hk.2,hK0]);clear HMM HKS hK0;go_wp2_with fail;go_wp2_with fail
            ((with_reducible refine(HCL.out _).mono ?_);rintro e w' ⟨rfl,rfl⟩)
            go_wp2_with fail
            go_roundg (N-(i+1))
            case measure=>omega
            case rel=>exact⟨i+1,by go_num,HNW,HM2,hi,Nat.le_refl _⟩
          · have gK:decide ((0:Int)<(K:Int))=true:=by simp;omega
            have gKn:decide (0<K)=true:=by simp;omega
            have HM2:=Lib.hid (show M=false by rw[← HMM.out];simp[hK0]);clear HMM HKS hK0;go_wp2_with fail;go_wp2_with fail
            ((with_reducible refine(HCL.out _).mono ?_);rintro e w' ⟨rfl,rfl⟩)
            go_wp2_with fail;go_ret;exact⟨ret_bool (by rw[HM2.out]),HNW.out⟩
        · have gC:(C==0)=false:=by simpa using hC0
          by_cases hn0:n=0
          · subst hn0
            have gD:decide ((64:Int)≤D)=true:=by have:=HDD.out;simp;omega
            have HM2:=Lib.hid (show M=false by rw[← HMM.out];simp[hC0]);clear HMM HKS;go_wp2_with fail;go_wp2_with fail
            ((with_reducible refine(HCL.out _).mono ?_);rintro e w' ⟨rfl,rfl⟩)
            go_wp2_with fail;go_ret;exact⟨ret_bool (by rw[HM2.out]),HNW.out⟩
          · obtain⟨n',rfl⟩:∃ n',n=n'+1:=⟨n-1,by omega⟩
            have gD:decide ((64:Int)≤D)=false:=by have:=HDD.out;simp;omega
            have hrec:=HIH.out n' (by omega) h kids koa kcap kb ko _ (D+1) (by have:=HDD.out;omega) (by omega) HKS.out;rw[hK]at hrec;obtain⟨R,hR⟩:∃ R,mayV n' (kids.map Vl.c)=R:=⟨_,rfl⟩;rw[hR]at hrec;have hmm:=HMM.out;simp only[if_neg hC0,hR]at hmm;have HM2:=Lib.hid hmm;have HRC:=Lib.hid hrec;clear hrec hR hmm HMM HKS HIH;go_wp2_with fail;go_wp2_with fail
            ((with_reducible refine(HCL.out _).mono ?_);rintro e w' ⟨rfl,rfl⟩)
            go_wp2_with fail;go_wp2_with fail
            ((with_reducible refine(HRC.out).mono ?_);rintro e w' ⟨rfl,hbw⟩)
            obtain⟨m,rfl⟩:=grow_mk hbw;clear hbw;have HNX:=Lib.hid (below_grow HNW.out m)
            cases R with
            | true =>
              have HM3:=Lib.hid (show mayV (n'+1) ((l.drop (i+1)).map Vl.c)=M by rw[← HM2.out];simp[hk.1,hk.2]);clear HM2 HRC HNW;go_wp2_with fail
              go_roundg (N-(i+1))
              case measure=>omega
              case rel=>exact⟨i+1,by go_num,HNX,HM3,hi,Nat.le_refl _⟩
            | false =>
              have HM3:=Lib.hid (show M=false by rw[← HM2.out];simp);clear HM2 HRC HNW;go_wp2_with fail;go_ret;exact⟨ret_bool (by rw[HM3.out]),HNX.out⟩
      · have HM2:=Lib.hid (show M=false by
         rw[← HMM.out]
         have:(decide (1≤tk)&&decide (tk≤24))=false:=by rw[Bool.and_eq_false_iff];simp only[decide_eq_false_iff_not];omega
         rw[this];simp)
        have ways:decide (tk<(1:Int))=true∨decide (tk<(1:Int))=false∧decide ((24:Int)<tk)=true:=by
         by_cases h1:tk<1
         · exact Or.inl (by simpa using h1)
         · exact Or.inr ⟨by simpa using h1,by simp;omega⟩
        clear HMM HKS hk
        rcases ways with k1 | ⟨k1,k2⟩
        all_goals
         go_wp2_with fail;go_ret;exact⟨ret_bool (by rw[HM2.out]),HNW.out⟩
    · obtain rfl:i=N:=by omega
      have gi:decide ((i:Int)<(i:Int))=false:=by simp
      have gin:decide (i<i)=false:=by simp
      have hm2:=hm.out;rw[List.drop_eq_nil_of_le (by rw[HN.out];exact Nat.le_refl _),List.map_nil,mayV_nil]at hm2;subst hm2;clear hm HIH;go_wp2_with fail;go_ret;exact⟨rfl,hb.out⟩
set_option maxHeartbeats 1000000 in
theorem mayvr_any (h:Nat) (l:List Vl) (oa:Option Addr) (cap b o:Nat) (w:World) (hs:VsIn w h oa cap b o l) :
  Calls Tryz.prog 46 #[.slice oa l.length cap] w fun e w'=>e=.returned (.bool (mayV 64 (l.map Vl.c)))∧Below w.heap.size w w':=by
 have HM:=Lib.hid (rmayv_any 64 h l oa cap b o w 0 rfl (Nat.le_refl _) hs);clear hs
 go_enter Tryz.func46,Tryz.ntmps46
 go_wp2_with fail
 ((with_reducible refine(HM.out).mono ?_);rintro e w' ⟨rfl,hbw⟩)
 obtain⟨m,rfl⟩:=grow_mk hbw;clear hbw;go_wp2_with fail;go_ret;exact⟨rfl,grow_below m⟩
theorem VsIn.part {w:World} {h:Nat} {oa:Option Addr} {cap b o:Nat} {l:List Vl} (hs:VsIn w h oa cap b o l) {a c:Nat} (hac:a≤c) (hc:c≤l.length) :
  VsIn w h (if cap=a then oa else oa.map (·.add (a*7))) (cap-a) b (o+a*7) ((l.take c).drop a):=by
 have hlen:((l.take c).drop a).length=c-a:=by rw[List.length_drop,List.length_take];omega
 have hat:∀ i,((l.take c).drop a)[i]?=if a+i<c then l[a+i]? else none:=fun i=>by rw[List.getElem?_drop,List.getElem?_take]
 have h1:=hs.small;have h2:=hs.sl.le;have h3:=hs.sl.max;refine⟨by omega,⟨by rw[flat_length vcells_length],by omega,by omega,fun hp=>?_,fun j v hv=>?_⟩,fun i x hi=>?_⟩
 · obtain⟨hx,hb⟩:=hs.sl.lies (by omega);rw[if_neg (by omega),hx];exact⟨by rw[Option.map_some,Addr.add_lit],hb⟩
 · obtain⟨i,x,k,g1,g2,rfl⟩:=flat_split vcells_length (by omega) _ _ _ hv;rw[hat]at g1;split at g1
   · have:=hs.cell g1 g2;rw[Nat.add_mul]at this;rw[show o+a*7+(i*7+k)=o+(a*7+i*7)+k by omega];exact this
   · cases g1
 · rw[hat]at hi;split at hi
   · exact hs.each _ _ hi
   · cases hi
def spL:Vl→Bool
 | .mk t _ _ _ _ _=>t.kind==13
set_option maxHeartbeats 1000000 in
theorem spacer_any (tk tn td:Int) (tt:List UInt8) (ti tid:Bool) (koa:Option Addr) (K kcap:Nat) (w:World) :
  Calls Tryz.prog 93 #[.agg #[.int .i64 tk,.string ⟨tt.toArray⟩,.int .i64 tn,.int .i64 td,.bool ti,.bool tid,.slice koa K kcap]] w fun e w'=>e=.returned (.bool (tk==13))∧Below w.heap.size w w':=by
 go_enter Tryz.func93,Tryz.ntmps93
 go_wp2_with fail;go_ret;exact⟨rfl,below_box _ _⟩
def frontL (l:List Vl):List Vl:=l.dropWhile spL
def backL (l:List Vl):List Vl:=(l.reverse.dropWhile spL).reverse
def trimL (l:List Vl):List Vl:=backL (frontL l)
theorem frontL_drop {l:List Vl} {a:Nat} (h:a<l.length) (hs:spL l[a]=true):frontL (l.drop a)=frontL (l.drop (a+1)):=by
 unfold frontL;rw[List.drop_eq_getElem_cons h,List.dropWhile_cons_of_pos hs]
theorem frontL_stop {l:List Vl} {a:Nat} (h:a<l.length) (hs:spL l[a]=false):frontL (l.drop a)=l.drop a:=by
 unfold frontL;rw[List.drop_eq_getElem_cons h,List.dropWhile_cons_of_neg (by simp[hs])]
theorem part_last {l:List Vl} {a b:Nat} (h:a<b) (hb:b≤l.length):(l.take b).drop a=(l.take (b-1)).drop a++[l[b-1]]:=by
 obtain⟨c,rfl⟩:∃ c,b=c+1:=⟨b-1,by omega⟩;show (l.take (c+1)).drop a=(l.take c).drop a++[l[c]'(by omega)];rw[List.take_succ_eq_append_getElem (by omega),List.drop_append_of_le_length (by rw[List.length_take];omega)]
theorem backL_drop {l:List Vl} {a b:Nat} (h:a<b) (hb:b≤l.length) (hs:spL l[b-1]=true):backL ((l.take b).drop a)=backL ((l.take (b-1)).drop a):=by
 rw[part_last h hb];unfold backL;rw[List.reverse_append,List.reverse_singleton,List.singleton_append,List.dropWhile_cons_of_pos hs]
theorem backL_stop {l:List Vl} {a b:Nat} (h:a<b) (hb:b≤l.length) (hs:spL l[b-1]=false):backL ((l.take b).drop a)=(l.take b).drop a:=by
 rw[part_last h hb];unfold backL;rw[List.reverse_append,List.reverse_singleton,List.singleton_append,List.dropWhile_cons_of_neg (by simp[hs]),List.reverse_cons,List.reverse_reverse]
theorem VsIn.front {w:World} {h:Nat} {oa:Option Addr} {cap b o:Nat} {l:List Vl} (hs:VsIn w h oa cap b o l) {c:Nat} (hc:c≤l.length):VsIn w h oa cap b o (l.take c):=by
 have:=hs.part (a:=0) (Nat.zero_le c) hc;rw[List.drop_zero,Nat.sub_zero,Nat.zero_mul,Nat.add_zero]at this
 have e:(if cap=0 then oa else oa.map (·.add 0))=oa:=by
  split
  · rfl
  · cases oa<;>rfl
 rw[e]at this;exact this
set_option maxRecDepth 20000 in
set_option maxHeartbeats 4000000 in
theorem trimmed_any (h:Nat) (l:List Vl) (oa:Option Addr) (cap b o:Nat) (w:World) (hs:VsIn w h oa cap b o l) :
  Calls Tryz.prog 67 #[.slice oa l.length cap] w fun e w'=>(∃ oa' cap' o',e=.returned (.slice oa' (trimL l).length cap')∧VsIn w' h oa' cap' b o' (trimL l))∧Below w.heap.size w w':=by
 have HS:=Lib.hid hs;clear hs
 go_enter Tryz.func67,Tryz.ntmps67
 go_upto_block 0 with fail
 go_cut [0] (fun s wx=>∃ (oa':Option Addr) (cap' o' M:Nat),s=.slice oa' M cap'∧Hid (M=(frontL l).length)∧Hid (Below w.heap.size w wx)∧Hid (VsIn wx h oa' cap' b o' (frontL l)))
 case first =>
  go_wp2_with fail
  go_loopg [0] l.length (fun q s wr=>∃ (m:List Vl) (oa':Option Addr) (cap' o' M:Nat),s=.slice oa' M cap'∧Hid (M=m.length)∧Hid (Below w.heap.size w wr)∧Hid (VsIn wr h oa' cap' b o' m)∧Hid (frontL m=frontL l)∧M≤q)
  case atStart=>exact⟨l,oa,cap,o,_,rfl,Lib.hid rfl,Lib.hid (Below.refl _ _),HS,Lib.hid rfl,Nat.le_refl _⟩
  case round =>
   obtain⟨m,oa',cap',o',M,rfl,hM,hb,hv,hm,hq⟩:=hrel;have hs2:=hv.out;have hsm:=hs2.small;have hcm:=hs2.sl.max;have hcl:=hs2.sl.le;unfold maxLen at hcm;rw[← hM.out]at hsm hcl
   by_cases hi:0<M
   · have gi:decide ((0:Int)<(M:Int))=true:=by simpa using hi
     have gin:decide (0<M)=true:=by simpa using hi
     have hil:0<m.length:=by rw[← hM.out];exact hi
     have hli:m[0]?=some m[0]:=List.getElem?_eq_getElem hil;obtain⟨rfl,hbl⟩:=hs2.sl.lies (by omega);obtain⟨x,hx⟩:∃ x,m[0]=x:=⟨_,rfl⟩;rw[hx]at hli;obtain⟨t,koa,kb,ko,kcap,kids⟩:=x;obtain⟨K,hK⟩:∃ K,kids.length=K:=⟨_,rfl⟩;have f0:=hs2.cell hli (j:=0) rfl;have f1:=hs2.cell hli (j:=1) rfl;have f2:=hs2.cell hli (j:=2) rfl;have f3:=hs2.cell hli (j:=3) rfl;have f4:=hs2.cell hli (j:=4) rfl;have f5:=hs2.cell hli (j:=5) rfl;have f6:=hs2.cell hli (j:=6) rfl;rw[Nat.add_zero]at f0;rw[hK]at f6;obtain⟨tk,tt,⟨tn,td⟩,ti,tid⟩:=t
     have hsp:spL m[0]=(tk==13):=by rw[hx];rfl
     have HC:=Lib.hid (fun w=>spacer_any tk tn td tt ti tid koa K kcap w);have HSP:=Lib.hid hsp;rw[Nat.zero_mul,Nat.add_zero]at f1 f2 f3 f4 f5 f6;clear hs2 hli hx hsp hK
     by_cases hk:tk=13
     · subst hk;have HPT:=Lib.hid (hv.out.part (a:=1) (c:=m.length) hil (Nat.le_refl _));have HPL:=Lib.hid (show M-1=((m.take m.length).drop 1).length by rw[List.take_length,List.length_drop,hM.out]);have HFR:=Lib.hid (show frontL ((m.take m.length).drop 1)=frontL l by rw[List.take_length,← frontL_drop hil HSP.out];exact hm.out);go_wp2_with fail;go_wp2_with fail
       ((with_reducible refine(HC.out _).mono ?_);rintro e w' ⟨rfl,hbw⟩)
       obtain⟨mm,rfl⟩:=grow_mk hbw;clear hbw;go_wp2_with fail
       · have HP2:=HPT.out;rw[if_pos (by assumption),show cap'-1=0 by omega]at HP2;have HP3:=Lib.hid (HP2.below (grow_below mm))
         go_roundg (M-1)
         case measure=>omega
         case rel=>exact⟨_,some ⟨b,o',none⟩,0,o'+1*7,M-1,rfl,HPL,Lib.hid (below_grow hb.out mm),HP3,HFR,Nat.le_refl _⟩
       · have HP2:=HPT.out;rw[if_neg (by assumption),Option.map_some,Addr.add_lit]at HP2;have HP3:=Lib.hid (HP2.below (grow_below mm))
         go_roundg (M-1)
         case measure=>omega
         case rel=>exact⟨_,some ⟨b,o'+1*7,none⟩,cap'-1,o'+1*7,M-1,rfl,HPL,Lib.hid (below_grow hb.out mm),HP3,HFR,Nat.le_refl _⟩
     · have gk:(tk==(13:Int))=false:=by simpa using hk
       go_wp2_with fail;go_wp2_with fail
       ((with_reducible refine(HC.out _).mono ?_);rintro e w' ⟨rfl,hbw⟩)
       obtain⟨mm,rfl⟩:=grow_mk hbw;clear hbw;go_wp2_with fail;go_meet
       case rel =>
        have hfm:frontL l=m:=by rw[← hm.out];exact frontL_stop (a:=0) hil (HSP.out.trans gk)
        rw[hfm];exact⟨_,cap',o',M,rfl,hM,Lib.hid (below_grow hb.out mm),Lib.hid (hv.out.below (grow_below mm))⟩
   · have gi:decide ((0:Int)<(M:Int))=false:=by simpa using hi
     have gin:decide (0<M)=false:=by simpa using hi
     go_wp2_with fail;go_meet
     case rel =>
      have hmn:m=[]:=List.eq_nil_of_length_eq_zero (by rw[← hM.out];omega)
      have hfm:frontL l=m:=by rw[← hm.out,hmn];rfl
      rw[hfm];exact⟨oa',cap',o',M,rfl,hM,hb,hv⟩
 case rest =>
  obtain⟨oa',cap',o',M,rfl,hM0,hb0,hv0⟩:=hcut;obtain⟨F,hF⟩:∃ F,frontL l=F:=⟨_,rfl⟩;have hF0:=Lib.hid (show trimL l=backL F by rw[← hF];rfl);rw[hF]at hM0 hv0;clear hF
  go_upto_block 2 with fail
  go_cut [0] (fun s wx=>∃ (L:Nat),s=.slice oa' L cap'∧Hid (L=(trimL l).length)∧Hid (Below w.heap.size w wx)∧Hid (VsIn wx h oa' cap' b o' (trimL l)))
  case first =>
   go_wp2_with fail
   go_loopg [0] M (fun q s wr=>∃ (m:List Vl) (L:Nat),s=.slice oa' L cap'∧Hid (L=m.length)∧Hid (Below w.heap.size w wr)∧Hid (VsIn wr h oa' cap' b o' m)∧Hid (backL m=trimL l)∧L≤q)
   case atStart=>exact⟨F,M,rfl,hM0,hb0,hv0,Lib.hid hF0.out.symm,Nat.le_refl _⟩
   case round =>
    obtain⟨m,L,rfl,hM,hb,hv,hm,hq⟩:=hrel;have hs2:=hv.out;have hsm:=hs2.small;have hcm:=hs2.sl.max;have hcl:=hs2.sl.le;unfold maxLen at hcm;rw[← hM.out]at hsm hcl
    by_cases hi:0<L
    · have gi:decide ((0:Int)<(L:Int))=true:=by simpa using hi
      have gin:decide (0<L)=true:=by simpa using hi
      obtain⟨i,rfl⟩:∃ i,L=i+1:=⟨L-1,by omega⟩;have hml:=hM.out
      have hil:i<m.length:=by omega
      have hli:m[i]?=some m[i]:=List.getElem?_eq_getElem hil;obtain⟨rfl,hbl⟩:=hs2.sl.lies (by omega);obtain⟨x,hx⟩:∃ x,m[i]=x:=⟨_,rfl⟩;rw[hx]at hli;obtain⟨t,koa,kb,ko,kcap,kids⟩:=x;obtain⟨K,hK⟩:∃ K,kids.length=K:=⟨_,rfl⟩;have f0:=hs2.cell hli (j:=0) rfl;have f1:=hs2.cell hli (j:=1) rfl;have f2:=hs2.cell hli (j:=2) rfl;have f3:=hs2.cell hli (j:=3) rfl;have f4:=hs2.cell hli (j:=4) rfl;have f5:=hs2.cell hli (j:=5) rfl;have f6:=hs2.cell hli (j:=6) rfl;rw[Nat.add_zero]at f0;rw[hK]at f6;obtain⟨tk,tt,⟨tn,td⟩,ti,tid⟩:=t
      have hsp:spL m[i]=(tk==13):=by rw[hx];rfl
      have HC:=Lib.hid (fun w=>spacer_any tk tn td tt ti tid koa K kcap w);have HSP:=Lib.hid hsp
      have hix:(((i+1:Nat):Int))-1=(i:Int):=by omega
      have hwhole:m=(m.take (i+1)).drop 0:=by rw[List.drop_zero,List.take_of_length_le (by omega)]
      have HW:=Lib.hid hwhole;clear hs2 hli hx hsp hK hml hwhole
      by_cases hk:tk=13
      · subst hk;have HPT:=Lib.hid (hv.out.front (c:=i) (Nat.le_of_lt hil));have HPL:=Lib.hid (show i=(m.take i).length by rw[List.length_take];omega)
        have HFR:=Lib.hid (show backL (m.take i)=trimL l by
         have e:=backL_drop (l:=m) (a:=0) (b:=i+1) (Nat.succ_pos _) hil HSP.out;rw[← HW.out,List.drop_zero,Nat.add_sub_cancel]at e;rw[← e]
         exact hm.out)
        go_wp2_with fail;go_wp2_with fail
        ((with_reducible refine(HC.out _).mono ?_);rintro e w' ⟨rfl,hbw⟩)
        obtain⟨mm,rfl⟩:=grow_mk hbw;clear hbw;go_wp2_with fail
        all_goals (
         have HP3:=Lib.hid (HPT.out.below (grow_below mm))
         go_roundg i
         case measure=>omega
         case rel=>exact⟨_,i,by go_num,HPL,Lib.hid (below_grow hb.out mm),HP3,HFR,Nat.le_refl _⟩)
      · have gk:(tk==(13:Int))=false:=by simpa using hk
        go_wp2_with fail;go_wp2_with fail
        ((with_reducible refine(HC.out _).mono ?_);rintro e w' ⟨rfl,hbw⟩)
        obtain⟨mm,rfl⟩:=grow_mk hbw;clear hbw;go_wp2_with fail;go_meet
        case rel =>
         have hfm:trimL l=m:=by
          have e:=backL_stop (l:=m) (a:=0) (b:=i+1) (Nat.succ_pos _) hil (HSP.out.trans gk);rw[← HW.out]at e;rw[← hm.out];exact e
         rw[hfm];exact⟨i+1,rfl,hM,Lib.hid (below_grow hb.out mm),Lib.hid (hv.out.below (grow_below mm))⟩
    · have gi:decide ((0:Int)<(L:Int))=false:=by simpa using hi
      have gin:decide (0<L)=false:=by simpa using hi
      go_wp2_with fail;go_meet
      case rel =>
       have hmn:m=[]:=List.eq_nil_of_length_eq_zero (by rw[← hM.out];omega)
       have hfm:trimL l=m:=by rw[← hm.out,hmn];rfl
       rw[hfm];exact⟨L,rfl,hM,hb,hv⟩
  case rest =>
   obtain⟨L,rfl,hL,hb,hv⟩:=hcut;go_wp2_with fail;go_ret;exact⟨⟨oa',cap',o',by rw[← hL.out];rfl,hv.out⟩,hb.out⟩
def Safe (A:Nat→Prop) (w:World) (φ:World→Prop):Prop:=∀ w':World,w.heap.size≤w'.heap.size→(∀ b,b<w.heap.size→¬ A b→w'.heap[b]?=w.heap[b]?)→φ w'
section
variable {A A':Nat→Prop} {w w':World} {φ ψ:World→Prop} {row:Option Nat}
theorem Safe.here (h:Safe A w φ):φ w:=h w (Nat.le_refl _) (fun _ _ _=>rfl)
theorem Safe.mono (h:Safe A w φ) (hφ:∀ w',φ w'→ψ w'):Safe A w ψ:=fun w' h1 h2=>hφ w' (h w' h1 h2)
theorem Safe.and (h:Safe A w φ) (h2:Safe A w ψ):Safe A w (fun w=>φ w∧ψ w):=fun w' a b=>⟨h w' a b,h2 w' a b⟩
theorem Safe.anti (h:Safe A w φ) (hA:∀ b,A' b→b<w.heap.size→A b):Safe A' w φ:=fun w' h1 h2=>h w' h1 fun b hb hn=>h2 b hb fun ha=>hn (hA b ha hb)
theorem Safe.grown (h:Safe A w φ) (hg:w.grownBy w' row) (hr:∀ k,row=some k→k<w.heap.size→A k):Safe A w' φ:=fun w2 h1 h2 =>
 h w2 (Nat.le_trans hg.size h1) fun b hb hn=>(h2 b (Nat.lt_of_lt_of_le hb hg.size) hn).trans (hg.block b hb fun e=>hn (hr b e.symm hb))
theorem Safe.below (h:Safe A w φ) (hb:Below w.heap.size w w'):Safe A w' φ:=h.grown (grownBy_of_below hb none) (fun _ e=>by cases e)
theorem Safe.grow (h:Safe A w φ) (m:Ext w):Safe A (Go.Proofs.YtnbkbenkhkinoaaGreatDoor.grow w m) φ:=h.below (grow_below m)
theorem Safe.set (h:Safe A w φ) {p:Addr} (hp:A p.block) (u:Value):Safe A (w.setCell p u) φ:=fun w2 h1 h2 =>
 h w2 (by simpa using h1) fun b hb hn=>(h2 b (by simpa using hb) hn).trans (Below.heap_setCell w p u b fun e=>hn (e ▸ hp))
theorem Safe.alloc (h:Safe A w φ) (o:Obj):Safe A (w.alloc o) φ:=h.below (below_box w o)
theorem Safe.wide (h:Safe A w φ) (hA:∀ b,A' b→A b∨w.heap.size≤b):Safe A' w φ:=h.anti fun b hb hl=>(hA b hb).resolve_right (by omega)
end
def Hx (w w':World):Prop:=w.heap.size≤w'.heap.size∧∀ b,b<w.heap.size→w'.heap[b]?=w.heap[b]?
theorem Hx.cell {w w':World} (h:Hx w w') {a:Addr} (ha:a.block<w.heap.size):w'.cell? a=w.cell? a:=by
 simp only[World.cell?];rw[h.2 _ ha]
theorem Sl.hx {w w':World} {oa:Option Addr} {n cap b o sz:Nat} {vs:List Value} (h:Sl w oa n cap b o sz vs) (hb:Hx w w'):Sl w' oa n cap b o sz vs :=
 ⟨h.len,h.le,h.max,fun hp=>⟨(h.lies hp).1,Nat.lt_of_lt_of_le (h.lies hp).2 hb.1⟩,fun j v hv=>(hb.cell (a:=⟨b,o+j,none⟩) (h.lies (h.pos hv)).2).trans (h.cell j v hv)⟩
theorem Sl.safe {A:Nat→Prop} {w:World} {oa:Option Addr} {n cap b o sz:Nat} {vs:List Value} (h:Sl w oa n cap b o sz vs) (hA:0<n→¬ A b):Safe A w fun w=>Sl w oa n cap b o sz vs:=fun w' h1 h2 =>
 ⟨h.len,h.le,h.max,fun hp=>⟨(h.lies hp).1,Nat.lt_of_lt_of_le (h.lies hp).2 h1⟩,fun j v hv=>by
   have hp:=h.pos hv;rw[← h.cell j v hv];simp only[World.cell?]
   rw[h2 b (h.lies hp).2 (hA hp)]⟩
theorem VlIn.hx:∀ (h:Nat) {v:Vl} {w w':World},VlIn w h v→Hx w w'→VlIn w' h v
 | 0,_,_,_,hx,_=>hx.elim
 | h+1,.mk t oa b o cap kids,w,w',hx,hb=>⟨hx.1,hx.2.1,hx.2.2.1.hx hb,fun i x hi=>VlIn.hx h (hx.2.2.2 i x hi) hb⟩
theorem VsIn.hx {w w':World} {h:Nat} {oa:Option Addr} {cap b o:Nat} {l:List Vl} (hs:VsIn w h oa cap b o l) (hb:Hx w w'):VsIn w' h oa cap b o l :=
 ⟨hs.small,hs.sl.hx hb,fun i x hi=>(hs.each i x hi).hx h hb⟩
theorem VsIn.safe {w:World} {h:Nat} {oa:Option Addr} {cap b o:Nat} {l:List Vl} (hs:VsIn w h oa cap b o l):Safe (w.heap.size≤·) w fun w=>VsIn w h oa cap b o l:=fun _ h1 h2=>hs.hx ⟨h1,fun b hb=>h2 b hb (by omega)⟩
theorem VsIn.made {A:Nat→Prop} {w:World} {h:Nat} {oa:Option Addr} {cap b:Nat} {l:List Vl} (h1:l.length*72≤140737488355328) (h2:Sl w oa l.length cap b 0 7 (l.flatMap vcells)) (hA:0<l.length→¬ A b)
  (h3:Safe A w fun w=>∀ x∈l,VlIn w h x):Safe A w fun w=>VsIn w h oa cap b 0 l:=fun w' g1 g2 =>
 ⟨h1,(h2.safe hA) w' g1 g2,fun _ x hi=>h3 w' g1 g2 x (List.mem_of_getElem? hi)⟩
theorem VlIn.made {A:Nat→Prop} {w:World} {h:Nat} {t:Tk} {oa:Option Addr} {cap b o:Nat} {l:List Vl} (ht:Tk64 t) (hs:Safe A w fun w=>VsIn w h oa cap b o l):Safe A w fun w=>VlIn w (h+1) (.mk t oa b o cap l):=hs.mono fun _ h=>⟨ht,h.small,h.sl,h.each⟩
theorem wpList_add {ops:Array Oper} {rest:List Oper} {o:Oper} {a:Act} {Q:Exit→Act→World→Prop} {base:Nat} {w:World} {t e:TypeId} {z:Value} {size bytes:Nat} (E:El t e z size bytes)
  (hgd:o.guard=none) (s x:Operand) (ho:o.op=.call { callee:=.builtin .append,args:=#[s,x],argTypes:=#[t,t] }) {v:Value} {n:Nat} {xs:List Value} (hs:a.eval s=v)
  (hown:w.ownsRow base e size v n xs) (hbase:base≤w.heap.size) {B:Nat} {cs:Array Value} {tc:TypeId} (hB:Blk w B tc cs) (c:Nat) (hx:a.eval x=.slice (some ⟨B,0,none⟩) 1 c) (hl:cs.toList.length=size) (h1:∀ u∈cs.toList,u.oneCell'=true)
  (hbytes:(n+1)*bytes≤140737488355328) (h63:n+1≤140737488355328)
  (h:∀ g cap w',w'.ownsRow base e size (.slice (some ⟨g,0,none⟩) (n+1) cap) (n+1) (xs++cs.toList)→w.grownBy w' v.ownBlock→(v.ownBlock=some g∨g=w.heap.size)→(∀ k,v.ownBlock=some k→base≤k∧k<w.heap.size)→wpList Tryz.prog ops Q rest (a.put o.dst (.slice (some ⟨g,0,none⟩) (n+1) cap)) w') :
  wpList Tryz.prog ops Q (o::rest) a w:=by
 obtain⟨i0,hi0,hz0,hz1,hz2⟩:=info_parts E.info
 refine wpList_append_lies _ hgd s x t ho base e i0 z size bytes E.under hi0 hz0 hz1 hz2 E.zs E.pos v n xs hs hown ⟨B,0,none⟩ 1 c cs.toList hx (by rw[hl,Nat.one_mul])
  (World.news_of_block (cs:=cs) (t:=tc) (fr:=(0,0)) hB) h1 (by omega) (Nat.le_trans h63 (by decide)) hbytes hbase _ rfl fun g cap w' ho2 hg hat _=>?_
 exact h g cap w' ho2 hg hat (fun k hk=>hown.lt k hk)
def Loose.fw (i:Nat) (d:Tmp) (φ:Value→World→Prop) (hs:∀ v w1 w2,φ v w1→Below w1.heap.size w1 w2→φ v w2):Loose:=⟨i,d,none,φ,fun _=>none,hs⟩
def Loose.rw (i:Nat) (d:Tmp) (t:TypeId) (k k0:Nat) (φ:Array Value→World→Prop) (hs:∀ v w1 w2,φ v w1→Below w1.heap.size w1 w2→φ v w2):Loose :=
 ⟨i,d,none,fun v w=>∃ b cs,v=.slice (some ⟨b,0,none⟩) k k∧k0≤b∧φ cs w∧Blk w b t cs,ownS,fun _ _ _ ⟨b,cs,h1,h0,hc,h2⟩ hb=>⟨b,cs,h1,h0,hs _ _ _ hc hb,h2.below hb h2.lt⟩⟩
section
variable (V:Nat→Value) (w:World) (i:Nat) (d:Tmp) (φ:Value→World→Prop) (hs:∀ v w1 w2,φ v w1→Below w1.heap.size w1 w2→φ v w2) (cl:List Loose)
theorem Loose.fw_i:(Loose.fw i d φ hs).i=i:=rfl
theorem Loose.fw_hush (o:Oper):(Loose.fw i d φ hs).hush o={ o with dst:=none,op:=.move (.const undef),guard:=none }:=rfl
theorem fill_fw (a:Act):fill V (Loose.fw i d φ hs::cl) a=fill V cl (a.put (some d) (V i)):=rfl
theorem laws_fw:lawsL V w (Loose.fw i d φ hs::cl)=(φ (V i) w∧lawsL V w cl):=rfl
theorem dist_fw:distL V (Loose.fw i d φ hs::cl)=distL V cl:=by
 have h:∀ cl:List Loose,distL1 V (Loose.fw i d φ hs) cl:=fun cl=>distL1_of fun L' _ k k' h=>by cases h
 simp[distL,h]
theorem dist1_fw (L:Loose):distL1 V L (Loose.fw i d φ hs::cl)=distL1 V L cl:=by
 have h:∀ k k',L.own (V L.i)=some k→(Loose.fw i d φ hs).own (V i)=some k'→k≠k':=fun k k' _ h=>by cases h
 exact propext ⟨fun h2=>h2.2,fun h2=>⟨h,h2⟩⟩
end
section
variable (V:Nat→Value) (w:World) (i:Nat) (d:Tmp) (t:TypeId) (k k0:Nat) (φ:Array Value→World→Prop) (hs:∀ v w1 w2,φ v w1→Below w1.heap.size w1 w2→φ v w2) (cl:List Loose)
theorem Loose.rw_i:(Loose.rw i d t k k0 φ hs).i=i:=rfl
theorem Loose.rw_hush (o:Oper):(Loose.rw i d t k k0 φ hs).hush o={ o with dst:=none,op:=.move (.const undef),guard:=none }:=rfl
theorem fill_rw (a:Act):fill V (Loose.rw i d t k k0 φ hs::cl) a=fill V cl (a.put (some d) (V i)):=rfl
theorem laws_rw:lawsL V w (Loose.rw i d t k k0 φ hs::cl)=((∃ b cs,V i=.slice (some ⟨b,0,none⟩) k k∧k0≤b∧φ cs w∧Blk w b t cs)∧lawsL V w cl):=rfl
theorem dist_rw:distL V (Loose.rw i d t k k0 φ hs::cl)=(distL1 V (Loose.rw i d t k k0 φ hs) cl∧distL V cl):=rfl
end
theorem post_fw {i:Nat} {d:Tmp} {φ:Value→World→Prop} {hs:∀ v w1 w2,φ v w1→Below w1.heap.size w1 w2→φ v w2} {v:Value} {F:Act} {w w':World} {a:Act} (h:a=F.put (some d) v) (hv:φ v w') (hb:Below w.heap.size w w'):PostL (Loose.fw i d φ hs) F w .normal a w' :=
 ⟨rfl,_,h,hb,hv,fun k hk=>(by cases hk),fun c2 hc=>(by cases hc)⟩
theorem post_rw {k0:Nat} {i:Nat} {d:Tmp} {t:TypeId} {k:Nat} {φ:Array Value→World→Prop} {hs:∀ v w1 w2,φ v w1→Below w1.heap.size w1 w2→φ v w2} {cs:Array Value} {F:Act} {w:World} {a:Act} (h:a=F.put (some d) (.slice (some ⟨w.heap.size,0,none⟩) k k)) (hk:k0≤w.heap.size) (hc:φ cs w):PostL (Loose.rw i d t k k0 φ hs) F w .normal a (w.alloc (.cells cs t)) :=
 ⟨rfl,_,h,below_box _ _,⟨_,_,rfl,hk,hs _ _ _ hc (below_box _ _),Blk.new _ _ _⟩,fun k2 hk=>by
   simp only[Loose.rw,ownS,Option.some.injEq]at hk;subst hk
   simp,fun c hc=>by cases hc⟩
end Go.Proofs.YtnbkbenkhkinoaaGreatDoor
namespace Go.Proofs.YtnbkbenkhkinoaaGreatDoor
set_option linter.unusedVariables false
set_option linter.unusedSimpArgs false
open Go.ChangeShapes Go.WideShapes Go.ChangeAt Go.RowKit Go.Deep
section
variable {H:Type} {enc:TypeId×Value→H} {w:World} {base:Nat} {spare:Nat→Bool} {held:Bool}
end
theorem reach_le {n:Nat} (h:n≤reachBytes):n≤140737488355328:=Nat.le_trans h (by decide)
theorem reach_of {H:Type} {P:Program} {ts:List TypeId} {ds:List (DataW H)} (h:(DataW.weightsEach P ts ds).all (·≤reachBytes)=true) {j:Nat} {t:TypeId} {d:DataW H} (ht:ts[j]?=some t) (hd:ds[j]?=some d):∀ n∈d.weights P t,n≤140737488355328:=fun n hn =>
 reach_le (by simpa using List.all_eq_true.1 h n (DataW.weights_mem_each ht hd n hn))
end Go.Proofs.YtnbkbenkhkinoaaGreatDoor
