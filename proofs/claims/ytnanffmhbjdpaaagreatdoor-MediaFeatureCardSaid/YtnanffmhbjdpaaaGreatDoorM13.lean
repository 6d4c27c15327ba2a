/- Of my texts: CondB. -/
import Derived.Test.YtnanffmhbjdpaaaGreatDoorM00
import Derived.Test.YtnanffmhbjdpaaaGreatDoorM03
import Derived.Deep.LoopGhost
namespace Go.Proofs.YtnanffmhbjdpaaaGreatDoor
set_option maxHeartbeats 2000000
set_option linter.unusedVariables false
set_option linter.unusedSimpArgs false
open Go.RowKit
def tr (x:Int):Int:=if x=0∨x=2 then x else 1
theorem Q3l (x:Int):tr x=0∨tr x=1∨tr x=2:=by unfold tr;split<;>omega
theorem Ni (x:Int) (w:World) (h1:-9223372036854775808≤x) (h2:x≤9223372036854775807) :
  Calls Tryz.prog 136 #[.int .i64 x] w fun e w'=>e=.returned (.int .i64 (tr x))∧w=w':=by
 rcases(show x=0∨x=1∨x=2∨x<0∨2<x by omega) with rfl|rfl|rfl|h|h
 iterate 3
  go_enter Tryz.func136,Tryz.ntmps136
  go_wp2_with fail;go_ret;exact⟨rfl,rfl⟩
 · have g1:decide (x<0)=true:=by simpa using h
   have HF:=Q1 (show tr x=1 by unfold tr;rw[if_neg (by omega)])
   go_enter Tryz.func136,Tryz.ntmps136
   go_wp2_with fail;go_ret;exact⟨Yr HF.out.symm,rfl⟩
 · have g1:decide (x<0)=false:=by simp;omega
   have g2:decide (2<x)=true:=by simpa using h
   have HF:=Q1 (show tr x=1 by unfold tr;rw[if_neg (by omega)])
   go_enter Tryz.func136,Tryz.ntmps136
   go_wp2_with fail;go_ret;exact⟨Yr HF.out.symm,rfl⟩
structure Q5g (w:World) (oa:Option Addr) (len cap:Nat) (b o:Nat) (l:List Int):Prop where
 hlen:len=l.length
 hcap:len≤cap
 small:cap≤maxLen
 at_:0<len→oa=some ⟨b,o,none⟩
 lt:0<len→b<w.heap.size
 c0:∀ (i:Nat) (x:Int),l[i]?=some x→w.cell? ⟨b,o+i,none⟩=some (.int .i64 x)
 is64:∀ (i:Nat) (x:Int),l[i]?=some x→-9223372036854775808≤x∧x≤9223372036854775807
theorem Q5g.below {w w':World} {oa:Option Addr} {len cap b o:Nat} {l:List Int} (h:Q5g w oa len cap b o l) (hb:Below w.heap.size w w'):Q5g w' oa len cap b o l:=by
 have key:∀ (i:Nat) (r:Int),l[i]?=some r→0<len:=fun i r hr=>by
  have:=(Qn.1 hr).1;rw[h.hlen];omega
 refine⟨h.hlen,h.hcap,h.small,h.at_,fun hl=>Qg (h.lt hl) hb.size,fun i r hr=>?_,h.is64⟩;rw[hb.cell (h.lt (key i r hr))];exact h.c0 i r hr
def Q00:Int→List Int→Int
 | m,[]=>m
 | m,x::l=>Q00 (if tr x<m then tr x else m) l
theorem Q6q (oa:Option Addr) (len cap b o:Nat) (l:List Int) (w:World) (h:Q5g w oa len cap b o l) :
  Calls Tryz.prog 137 #[.slice oa len cap] w fun e w'=>e=.returned (.int .i64 (Q00 2 l))∧w=w':=by
 have hlen:=h.hlen;subst hlen;have hcap:=h.hcap;have hsm:l.length≤9223372036854775807:=Qz (Qz h.hcap h.small) (by decide);have H:=Q1 h;clear h
 go_enter Tryz.func137,Tryz.ntmps137
 go_wp2_with fail
 go_loopg [3,8] l.length (fun k s t wr=>∃ (i:Nat) (m:Int),s=.int .i64 m∧t=.int .i64 i∧wr=w∧(m=0∨m=1∨m=2)∧i≤l.length∧Hid (Q00 m (l.drop i)=Q00 2 l)∧l.length-i≤k)
 case atStart=>exact⟨0,2,rfl,rfl,rfl,by omega,Qs _,Q1 rfl,by omega⟩
 case round =>
  obtain⟨i,m,rfl,rfl,rfl,hm,hle,hlaw,hk⟩:=hrel
  by_cases hi:i<l.length
  · have hr:l[i]?=some l[i]:=Q9 hi;have hoa:=H.out.at_ (by omega);have hbl:=H.out.lt (by omega);have e0:=H.out.c0 i _ hr;have h64:=H.out.is64 i _ hr;have hdrop:l.drop i=l[i]::l.drop (i+1):=Qv hi;have hl:=hlaw.out;rw[hdrop]at hl;clear hdrop hr hlaw;generalize l[i]=x at *;subst hoa;have HC:=Q1 (fun w=>Ni x w h64.1 h64.2);have ht:=Q3l x;have HL:Q00 (if tr x<m then tr x else m) (l.drop (i+1))=Q00 2 l:=hl;clear hl h64;generalize tr x=t at *
    by_cases c:¬ m≤t
    · rw[show (if t<m then t else m)=t by split<;>omega]at HL;have HL:=Q1 HL;go_wp2_with fail
      ((with_reducible refine(HC.out _).mono ?_);rintro e w' ⟨rfl,rfl⟩)
      go_wp2_with fail
      go_roundg (l.length-(i+1))
      case measure=>omega
      case rel=>exact⟨i+1,t,rfl,by go_num,rfl,ht,hi,HL,by omega⟩
    · rw[show (if t<m then t else m)=m by split<;>omega]at HL;have HL:=Q1 HL
      have c2:m≤t:=by omega
      go_wp2_with fail
      ((with_reducible refine(HC.out _).mono ?_);rintro e w' ⟨rfl,rfl⟩)
      go_wp2_with fail
      go_roundg (l.length-(i+1))
      case measure=>omega
      case rel=>exact⟨i+1,m,rfl,by go_num,rfl,hm,hi,HL,by omega⟩
  · obtain rfl:i=l.length:=by omega
    rw[List.drop_length]at hlaw;go_wp2_with fail;go_ret;exact⟨Yr hlaw.out,rfl⟩
end Go.Proofs.YtnanffmhbjdpaaaGreatDoor
