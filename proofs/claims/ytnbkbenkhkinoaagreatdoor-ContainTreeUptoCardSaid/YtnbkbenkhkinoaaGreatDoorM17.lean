/- Of my texts: Tree, MayE, SameE, Like, MayF, Leaf. -/
import Derived.Test.YtnbkbenkhkinoaaGreatDoorM04
import Derived.Test.YtnbkbenkhkinoaaGreatDoorM16
import Derived.Deep.LoopGhost
import Derived.Deep.CutBlock
import Derived.Deep.DeepCutAuto
namespace Go.Proofs.YtnbkbenkhkinoaaGreatDoor
set_option linter.unusedVariables false
set_option linter.unusedSimpArgs false
open Go.RowKit
inductive Ex where
 | mk (k n d u:Int) (oa:Option Addr) (b o cap:Nat) (kids:List Ex)
def xcells:Ex→List Value
 | .mk k n d u oa _ _ cap kids=>[.int .i64 k,.int .i64 n,.int .i64 d,.int .i64 u,.slice oa kids.length cap]
def xv (e:Ex):Value:=.agg (xcells e).toArray
def I64 (x:Int):Prop:=-9223372036854775808≤x∧x≤9223372036854775807
def ExIn (w:World):Nat→Ex→Prop
 | 0,_=>False
 | h+1,.mk k n d u oa b o cap kids=>I64 k∧Is64 (n,d)∧I64 u∧kids.length≤cap∧cap≤maxLen∧kids.length*56≤140737488355328∧(0<kids.length→oa=some ⟨b,o,none⟩∧b<w.heap.size) ∧
   ∀ i x,kids[i]?=some x→(∀ j v,(xcells x)[j]?=some v→w.cell? ⟨b,o+i*5+j,none⟩=some v)∧ExIn w h x
theorem ExIn.below:∀ (h:Nat) {e:Ex} {w w':World},ExIn w h e→Below w.heap.size w w'→ExIn w' h e
 | 0,_,_,_,h,_=>h.elim
 | h+1,.mk k n d u oa b o cap kids,w,w',hx,hb=>by
   obtain⟨h1,h2,h3,h4,h5,h6,h7,h8⟩:=hx;refine⟨h1,h2,h3,h4,h5,h6,fun hl=>⟨(h7 hl).1,Nat.lt_of_lt_of_le (h7 hl).2 hb.size⟩,fun i x hi=>⟨fun j v hv=>?_,ExIn.below h (h8 i x hi).2 hb⟩⟩
   have hpos:0<kids.length:=by have:=(List.getElem?_eq_some_iff.1 hi).1;omega
   exact(hb.cell (p:=⟨b,o+i*5+j,none⟩) (h7 hpos).2).trans ((h8 i x hi).1 j v hv)
theorem ExIn.grow {h:Nat} {e:Ex} {w:World} (hx:ExIn w h e) (m:Ext w):ExIn (grow w m) h e:=hx.below h (grow_below m)
def zeroE:Ex→Bool
 | .mk k n d u _ _ _ _ kids=>decide (k=0)&&(decide (n=0)&&decide (d=0))&&decide (u=0)&&decide (kids.length=0)
def arity (k:Int) (n:Nat):Bool :=
 if k=2∨k=4∨k=6∨k=7 then decide (1≤n) else if k=3∨k=5 then decide (n=1) else if k=8 then decide (n=3) else false
def mayE:Nat→Ex→Bool
 | 0,_=>false
 | f + 1,.mk k n d u _ _ _ _ kids=>if k=1 then decide (kids.length=0)&&mayB (n,d)&&decide (0≤u)&&decide (u≤7)
    else (decide (n=0)&&decide (d=0))&&decide (u=0)&&arity k kids.length&&kids.all (mayE f)
structure Lf where
 kind:Int
 truth:Int
 name:ByteArray
 op:Int
 ex:Ex
 word:ByteArray
 value:ByteArray
 any:Bool
def lcells (l:Lf):List Value:=[.int .i64 l.kind,.int .i64 l.truth,.string l.name,.int .i64 l.op]++xcells l.ex++[.string l.word,.string l.value,.bool l.any]
def lv (l:Lf):Value:=.agg (lcells l).toArray
def LfIn (w:World) (h:Nat) (l:Lf):Prop:=I64 l.kind∧I64 l.truth∧I64 l.op∧ExIn w h l.ex
theorem LfIn.below {w w':World} {h:Nat} {l:Lf} (hl:LfIn w h l) (hb:Below w.heap.size w w'):LfIn w' h l:=⟨hl.1,hl.2.1,hl.2.2.1,hl.2.2.2.below h hb⟩
inductive Cd where
 | mk (k:Int) (oa:Option Addr) (b o cap:Nat) (kids:List Cd) (leaf:Lf)
def ccells:Cd→List Value
 | .mk k oa _ _ cap kids leaf=>[.int .i64 k,.slice oa kids.length cap]++lcells leaf
def cv (c:Cd):Value:=.agg (ccells c).toArray
def CdIn (w:World):Nat→Cd→Prop
 | 0,_=>False
 | h+1,.mk k oa b o cap kids leaf=>I64 k∧LfIn w h leaf∧kids.length≤cap∧cap≤maxLen∧kids.length*8≤140737488355328∧(0<kids.length→oa=some ⟨b,o,none⟩∧b<w.heap.size) ∧
   ∀ i x,kids[i]?=some x→(∀ j v,(ccells x)[j]?=some v→w.cell? ⟨b,o+i*14+j,none⟩=some v)∧CdIn w h x
theorem CdIn.below:∀ (h:Nat) {e:Cd} {w w':World},CdIn w h e→Below w.heap.size w w'→CdIn w' h e
 | 0,_,_,_,h,_=>h.elim
 | h+1,.mk k oa b o cap kids leaf,w,w',hx,hb=>by
   obtain⟨h1,h2,h4,h5,h6,h7,h8⟩:=hx;refine⟨h1,h2.below hb,h4,h5,h6,fun hl=>⟨(h7 hl).1,Nat.lt_of_lt_of_le (h7 hl).2 hb.size⟩,fun i x hi=>⟨fun j v hv=>?_,CdIn.below h (h8 i x hi).2 hb⟩⟩
   have hpos:0<kids.length:=by have:=(List.getElem?_eq_some_iff.1 hi).1;omega
   exact(hb.cell (p:=⟨b,o+i*14+j,none⟩) (h7 hpos).2).trans ((h8 i x hi).1 j v hv)
def noS (s:ByteArray):Bool:=s.toList==[]
def likeB (l m:Lf) (B:Bool):Bool:=(l.kind==m.kind)&&(l.truth==m.truth)&&(l.name.toList==m.name.toList)&&(l.op==m.op)&&B&&(l.word.toList==m.word.toList)&&(l.value.toList==m.value.toList)&&(l.any==m.any)
def zeroX:Ex:=.mk 0 0 0 0 none 0 0 0 []
def zeroLf:Lf:=⟨0,0,⟨#[]⟩,0,zeroX,⟨#[]⟩,⟨#[]⟩,false⟩
def leafB (l:Lf):Bool :=
 if l.kind=0 then likeB { l with kind:=0 } zeroLf (zeroE l.ex)
 else if l.kind=1 then decide (0≤l.truth)&&decide (l.truth≤2)&&likeB { l with kind:=0,truth:=0 } zeroLf (zeroE l.ex)
 else if l.kind=2∨l.kind=3 then !noS l.name&&likeB { l with kind:=0,name:=⟨#[]⟩ } zeroLf (zeroE l.ex)
 else if l.kind=4 then !noS l.name&&decide (1≤l.op)&&decide (l.op≤5)&&mayE 340 l.ex&&likeB { l with kind:=0,name:=⟨#[]⟩,op:=0,ex:=zeroX } zeroLf true
 else if l.kind=5 then !noS l.name&&likeB { l with kind:=0,name:=⟨#[]⟩,word:=⟨#[]⟩ } zeroLf (zeroE l.ex)
 else if l.kind=6 then !noS l.name&&(!l.any||noS l.value)&&likeB { l with kind:=0,name:=⟨#[]⟩,value:=⟨#[]⟩,any:=false } zeroLf (zeroE l.ex)
 else false
def zeroL (l:Lf):Bool:=likeB l zeroLf (zeroE l.ex)
def mayC:Nat→Cd→Bool
 | 0,_=>false
 | f + 1,.mk k _ _ _ _ kids leaf=>if k=4 then decide (kids.length=0)&&leafB leaf
    else zeroL leaf&&(if k=1∨k=2 then decide (1≤kids.length) else if k=3 then decide (kids.length=1) else false)&&kids.all (mayC f)
def leavesC:Nat→Cd→List Lf
 | 0,_=>[]
 | h+1,.mk k _ _ _ _ kids leaf=>if k=4 then [leaf] else kids.flatMap (leavesC h)
theorem all_drop {α:Type} {p:α→Bool} {l:List α} {i:Nat} {x:α} (h:l[i]?=some x):(l.drop i).all p=(p x&&(l.drop (i+1)).all p):=by
 obtain⟨hi,rfl⟩:=List.getElem?_eq_some_iff.1 h;rw[List.drop_eq_getElem_cons hi,List.all_cons]
theorem arity_many {k:Int} {L:Nat} (h:k=2∨k=4∨k=6∨k=7):arity k L=decide ((1:Int)≤L):=by
 unfold arity;rw[if_pos h,Bool.eq_iff_iff];simp only[decide_eq_true_eq];omega
theorem arity_one {k:Int} {L:Nat} (h:k=3∨k=5):arity k L=((L:Int)==1):=by
 unfold arity;rw[if_neg (by omega),if_pos h,Bool.eq_iff_iff];simp;omega
theorem arity_three {k:Int} {L:Nat} (h:k=8):arity k L=((L:Int)==3):=by
 unfold arity;rw[if_neg (by omega),if_neg (by omega),if_pos h,Bool.eq_iff_iff];simp;omega
theorem arity_none {k:Int} {L:Nat} (h1:¬ (k=2∨k=4∨k=6∨k=7)) (h2:¬ (k=3∨k=5)) (h3:¬ k=8):arity k L=false:=by
 unfold arity;rw[if_neg h1,if_neg h2,if_neg h3]
theorem xv_mk (k n d u:Int) (oa:Option Addr) (b o cap:Nat) (kids:List Ex):xv (.mk k n d u oa b o cap kids)=.agg #[.int .i64 k,.int .i64 n,.int .i64 d,.int .i64 u,.slice oa kids.length cap]:=rfl
structure Gk (w wr:World) (tx:TypeId) (cs:Array Value):Prop where
 below:Below w.heap.size w wr
 box:Blk wr w.heap.size tx cs
set_option maxRecDepth 20000 in
set_option maxHeartbeats 4000000 in
theorem cmay_any:∀ (f h:Nat) (e:Ex) (w:World) (D:Int),D=341-(f:Int)→f≤340→ExIn w h e →
  Calls Tryz.prog 199 #[xv e,.int .i64 D] w fun x w'=>x=.returned (.bool (mayE f e))∧Below w.heap.size w w':=by
 intro f
 induction f with
 | zero =>
   intro h e w D hD _ hx;obtain⟨k,n,d,u,oa,b,o,cap,kids⟩:=e
   have g:D=341:=by omega
   subst g;clear hx hD;show Calls Tryz.prog 199 #[.agg #[.int .i64 k,.int .i64 n,.int .i64 d,.int .i64 u,.slice oa kids.length cap],.int .i64 341] w _
   go_enter Tryz.func199,Tryz.ntmps199
   go_wp2_with fail;go_ret;exact⟨rfl,below_box _ _⟩
 | succ f ih =>
   intro h e w D hD hf hx;obtain _ | h:=h
   · exact hx.elim
   obtain⟨k,n,d,u,oa,b,o,cap,kids⟩:=e;obtain⟨h1,h2,h3,h4,h5,h6,h7,h8⟩:=hx
   have hD1:D≤340:=by omega
   have hD0:0≤D:=by omega
   have gD:decide ((340:Int)<D)=false:=by simp;omega
   have HIH:=Lib.hid (fun x wx (hx:ExIn wx h x)=>ih h x wx (D+1) (by omega) (by omega) hx);have HM:=Lib.hid (fun w=>may_any (n,d) w h2);clear ih hD hf;have hsm:kids.length≤9223372036854775807:=Nat.le_trans (Nat.le_trans h4 h5) (by decide);show Calls Tryz.prog 199 #[.agg #[.int .i64 k,.int .i64 n,.int .i64 d,.int .i64 u,.slice oa kids.length cap],.int .i64 D] w _
   by_cases hk:k=1
   · subst hk;obtain⟨b1,g1⟩:∃ b,((kids.length:Int)==0)=b:=⟨_,rfl⟩;obtain⟨b2,g2⟩:∃ b,decide ((0:Int)≤u)=b:=⟨_,rfl⟩;obtain⟨b3,g3⟩:∃ b,decide (u≤(7:Int))=b:=⟨_,rfl⟩
     have HF:=Lib.hid (show mayE (f+1) (.mk 1 n d u oa b o cap kids)=(b1&&mayB (n,d)&&b2&&b3) by
      rw[← g1,← g2,← g3];unfold mayE
      rw[if_pos rfl,show decide (kids.length=0)=((kids.length:Int)==0) by rw[Bool.eq_iff_iff];simp])
     clear h7 h8 HIH h1 h3;generalize mayB (n,d)=mb at *
     have ways:b1=false∨b1=true∧mb=false∨b1=true∧mb=true∧b2=false∨b1=true∧mb=true∧b2=true:=by cases b1<;>cases mb<;>cases b2<;>simp
     rcases ways with rfl|⟨rfl,rfl⟩ | ⟨rfl,rfl,rfl⟩ | ⟨rfl,rfl,rfl⟩
     · go_enter Tryz.func199,Tryz.ntmps199
       go_wp2_with fail;go_ret;exact⟨ret_bool (by rw[HF.out];rfl),below_box _ _⟩
     all_goals
      go_enter Tryz.func199,Tryz.ntmps199
      go_wp2_with fail
      ((with_reducible refine(HM.out _).mono ?_);rintro e w' ⟨rfl,hbw⟩)
      obtain⟨m,rfl⟩:=grow_mk hbw;clear hbw;go_wp2_with fail;go_ret;exact⟨ret_bool (by rw[HF.out];rfl),below_grow (below_box _ _) m⟩
   · have gk:(k==1)=false:=by simpa using hk
     by_cases hz:n=0∧d=0∧u=0
     · obtain⟨rfl,rfl,rfl⟩:=hz
       have HF:=Lib.hid (show mayE (f+1) (.mk k 0 0 0 oa b o cap kids)=(arity k kids.length&&kids.all (mayE f)) by
        unfold mayE;rw[if_neg hk]
        rfl)
       clear HM
       go_enter Tryz.func199,Tryz.ntmps199
       go_upto_block 0 with fail
       go_cut [6] (fun s wx=>s=.bool (arity k kids.length)∧wx=w.alloc (.cells #[.int .i64 k,.int .i64 0,.int .i64 0,.int .i64 0,.slice oa kids.length cap] 31))
       case first =>
        clear HIH h7 h8 h1 HF
        by_cases c:k=2∨k=4∨k=6∨k=7
        · have G:=Lib.hid (arity_many (L:=kids.length) c)
          rcases c with rfl|rfl|rfl|rfl
          all_goals
           go_wp2_with fail;go_meet
           case rel=>exact⟨congrArg Value.bool G.out.symm,rfl⟩
        by_cases c2:k=3∨k=5
        · have G:=Lib.hid (arity_one (L:=kids.length) c2)
          rcases c2 with rfl|rfl
          all_goals
           go_wp2_with fail;go_meet
           case rel=>exact⟨congrArg Value.bool G.out.symm,rfl⟩
        by_cases c3:k=8
        · have G:=Lib.hid (arity_three (L:=kids.length) c3);subst c3;go_wp2_with fail;go_meet
          case rel=>exact⟨congrArg Value.bool G.out.symm,rfl⟩
        · have G:=Lib.hid (arity_none (L:=kids.length) c c2 c3)
          have e2:(k==2)=false:=by simp;omega
          have e4:(k==4)=false:=by simp;omega
          have e6:(k==6)=false:=by simp;omega
          have e7:(k==7)=false:=by simp;omega
          have e3:(k==3)=false:=by simp;omega
          have e5:(k==5)=false:=by simp;omega
          have e8:(k==8)=false:=by simp;omega
          clear c c2 c3;go_wp2_with fail;go_meet
          case rel=>exact⟨congrArg Value.bool G.out.symm,rfl⟩
       case rest =>
        obtain⟨rfl,rfl⟩:=hcut;generalize arity k kids.length=A at *;go_wp2_with fail
        go_loopg [6,7] kids.length (fun kk s t wr=>∃ (i:Nat) (ok:Bool),s=.bool ok∧t=.int .i64 i∧Hid (Gk w wr 31 #[.int .i64 k,.int .i64 0,.int .i64 0,.int .i64 0,.slice oa kids.length cap])∧i≤kids.length∧Hid ((ok&&(kids.drop i).all (mayE f))=(A&&kids.all (mayE f)))∧kids.length-i≤kk)
        case atStart=>exact⟨0,A,rfl,rfl,Lib.hid ⟨below_box _ _,Blk.new _ _ _⟩,Nat.zero_le _,Lib.hid rfl,by omega⟩
        case round =>
         obtain⟨i,ok,rfl,rfl,hg,hle,hl,hk2⟩:=hrel;have cb0:wr.cell? ⟨w.heap.size,0,none⟩=some (.int .i64 k):=(hg.out.box).cell 0;have fcb0:=(hg.out.box).frozen 0;have cb1:wr.cell? ⟨w.heap.size,1,none⟩=some (.int .i64 0):=(hg.out.box).cell 1;have fcb1:=(hg.out.box).frozen 1;have cb2:wr.cell? ⟨w.heap.size,2,none⟩=some (.int .i64 0):=(hg.out.box).cell 2;have fcb2:=(hg.out.box).frozen 2;have cb3:wr.cell? ⟨w.heap.size,3,none⟩=some (.int .i64 0):=(hg.out.box).cell 3;have fcb3:=(hg.out.box).frozen 3;have cb4:wr.cell? ⟨w.heap.size,4,none⟩=some (.slice oa kids.length cap):=(hg.out.box).cell 4;have fcb4:=(hg.out.box).frozen 4;have lcb:=(hg.out.box).lt;have hbel:=Lib.hid hg.out.below
         by_cases hi:i<kids.length
         · have gi:decide ((i:Int)<kids.length)=true:=by simpa using hi
           cases ok with
           | false =>
             go_wp2_with fail;go_ret;exact⟨ret_bool (by rw[HF.out,← hl.out];rfl),hbel.out⟩
           | true =>
             have hr:kids[i]?=some kids[i]:=List.getElem?_eq_getElem hi;have hx:=h8 i _ hr;have hlaw:=hl.out;rw[all_drop hr]at hlaw;obtain⟨rfl,hbl⟩:=h7 (by omega);generalize kids[i]=x at *;have hX:=HIH.out x wr (hx.2.below _ (hg.out.below));obtain⟨k',n',d',u',oa',b',o',cap',kids'⟩:=x;rw[xv_mk]at hX;have HX:=Lib.hid hX;clear hX;generalize mayE f (.mk k' n' d' u' oa' b' o' cap' kids')=M at *;have f0:wr.cell? ⟨b,o+i*5,none⟩=some (.int .i64 k'):=(hg.out.below.cell hbl).trans (hx.1 0 _ rfl);have f1:wr.cell? ⟨b,o+i*5+1,none⟩=some (.int .i64 n'):=(hg.out.below.cell hbl).trans (hx.1 1 _ rfl);have f2:wr.cell? ⟨b,o+i*5+2,none⟩=some (.int .i64 d'):=(hg.out.below.cell hbl).trans (hx.1 2 _ rfl);have f3:wr.cell? ⟨b,o+i*5+3,none⟩=some (.int .i64 u'):=(hg.out.below.cell hbl).trans (hx.1 3 _ rfl)
             have f4:wr.cell? ⟨b,o+i*5+4,none⟩=some (.slice oa' kids'.length cap'):=(hg.out.below.cell hbl).trans (hx.1 4 _ rfl);have HL:=Lib.hid hlaw;clear hx hlaw hl hr h8 h7;go_wp2_with fail
             ((with_reducible refine(HX.out).mono ?_);rintro e w' ⟨rfl,hbw⟩)
             obtain⟨m,rfl⟩:=grow_mk hbw;clear hbw;go_wp2_with fail
             go_roundg (kids.length-(i+1))
             case measure=>omega
             case rel=>exact⟨i+1,M,rfl,by go_num,Lib.hid ⟨below_grow hbel.out m,hg.out.box.grow m⟩,hi,Lib.hid (by rw[← HL.out];rfl),by omega⟩
         · obtain rfl:i=kids.length:=by omega
           have hlaw:=hl.out;rw[List.drop_length]at hlaw;have HL:=Lib.hid hlaw;clear hlaw hl
           cases ok with
           | false =>
             go_wp2_with fail;go_ret;exact⟨ret_bool (by rw[HF.out,← HL.out];rfl),hbel.out⟩
           | true =>
             go_wp2_with fail;go_ret;exact⟨ret_bool (by rw[HF.out,← HL.out];rfl),hbel.out⟩
     · have HF:=Lib.hid (show mayE (f+1) (.mk k n d u oa b o cap kids)=false by
        unfold mayE;rw[if_neg hk]
        have:(decide (n=0)&&decide (d=0)&&decide (u=0))=false:=by simp;omega
        rw[this];rfl)
       clear HM HIH h7 h8
       have ways:n≠0∨n=0∧d≠0∨n=0∧d=0∧u≠0:=by omega
       clear hz
       rcases ways with hn|⟨rfl,hn⟩ | ⟨rfl,rfl,hn⟩
       all_goals
        go_enter Tryz.func199,Tryz.ntmps199
        go_wp2_with fail;go_ret;exact⟨ret_bool HF.out.symm,below_box _ _⟩
theorem zeroE_mk (k n d u:Int) (oa:Option Addr) (b o cap:Nat) (kids:List Ex):zeroE (.mk k n d u oa b o cap kids)=(decide (k=0)&&(decide (n=0)&&decide (d=0))&&decide (u=0)&&decide (kids.length=0)):=rfl
set_option maxRecDepth 20000 in
set_option maxHeartbeats 4000000 in
theorem csame_zero (h:Nat) (e:Ex) (w:World) (hx:ExIn w h e) :
  Calls Tryz.prog 162 #[xv e,.agg #[.int .i64 0,.int .i64 0,.int .i64 0,.int .i64 0,.slice none 0 0]] w fun x w'=>x=.returned (.bool (zeroE e))∧Below w.heap.size w w':=by
 obtain _ | h:=h
 · exact hx.elim
 obtain⟨k,n,d,u,oa,b,o,cap,kids⟩:=e;obtain⟨_,_,_,h4,h5,_,_,_⟩:=hx;have hsm:kids.length≤9223372036854775807:=Nat.le_trans (Nat.le_trans h4 h5) (by decide);rw[xv_mk,zeroE_mk];clear h4 h5;generalize kids.length=L at *
 have ways:k≠0∨k=0∧n≠0∨k=0∧n=0∧d≠0∨k=0∧n=0∧d=0∧u≠0∨k=0∧n=0∧d=0∧u=0∧((L:Int)==0)=false∨k=0∧n=0∧d=0∧u=0∧L=0:=by
  simp only[beq_eq_false_iff_ne];omega
 rcases ways with hn|⟨rfl,hn⟩ | ⟨rfl,rfl,hn⟩ | ⟨rfl,rfl,rfl,hn⟩ | ⟨rfl,rfl,rfl,rfl,hn⟩ | ⟨rfl,rfl,rfl,rfl,rfl⟩
 · have HF:=Lib.hid (show (decide (k=0)&&(decide (n=0)&&decide (d=0))&&decide (u=0)&&decide (L=0))=false by simp[hn])
   go_enter Tryz.func162,Tryz.ntmps162
   go_wp2_with fail;go_ret;exact⟨ret_bool (by first|rfl|exact HF.out.symm),((below_box _ _).alloc (by simp) _)⟩
 · have HF:=Lib.hid (show (decide ((0:Int)=0)&&(decide (n=0)&&decide (d=0))&&decide (u=0)&&decide (L=0))=false by simp[hn])
   go_enter Tryz.func162,Tryz.ntmps162
   go_wp2_with fail;go_ret;exact⟨ret_bool (by first|rfl|exact HF.out.symm),((below_box _ _).alloc (by simp) _)⟩
 · have HF:=Lib.hid (show (decide ((0:Int)=0)&&(decide ((0:Int)=0)&&decide (d=0))&&decide (u=0)&&decide (L=0))=false by simp[hn])
   go_enter Tryz.func162,Tryz.ntmps162
   go_wp2_with fail;go_ret;exact⟨ret_bool (by first|rfl|exact HF.out.symm),((below_box _ _).alloc (by simp) _)⟩
 · have HF:=Lib.hid (show (decide ((0:Int)=0)&&(decide ((0:Int)=0)&&decide ((0:Int)=0))&&decide (u=0)&&decide (L=0))=false by simp[hn])
   go_enter Tryz.func162,Tryz.ntmps162
   go_wp2_with fail;go_ret;exact⟨ret_bool (by first|rfl|exact HF.out.symm),((below_box _ _).alloc (by simp) _)⟩
 · have hn2:((L:Int) != 0)=true:=by simp only[bne,hn];rfl
   have HF:=Lib.hid (show (decide ((0:Int)=0)&&(decide ((0:Int)=0)&&decide ((0:Int)=0))&&decide ((0:Int)=0)&&decide (L=0))=false by simp at hn ⊢;omega)
   go_enter Tryz.func162,Tryz.ntmps162
   go_wp2_with fail;go_ret;exact⟨ret_bool (by first|rfl|exact HF.out.symm),((below_box _ _).alloc (by simp) _)⟩
 · go_enter Tryz.func162,Tryz.ntmps162
   go_wp2_with fail
   go_loopg [37] 0 (fun kk s wr=>s=.int .i64 0∧wr=(w.alloc (.cells #[.int .i64 0,.int .i64 0,.int .i64 0,.int .i64 0,.slice oa 0 cap] 31)).alloc (.cells #[.int .i64 0,.int .i64 0,.int .i64 0,.int .i64 0,.slice none 0 0] 31))
   case atStart=>exact⟨rfl,rfl⟩
   case round =>
    obtain⟨rfl,rfl⟩:=hrel;go_wp2_with fail;go_ret;exact⟨ret_bool rfl,((below_box _ _).alloc (by simp) _)⟩
theorem lv_mk (k t:Int) (nm:ByteArray) (op:Int) (k' n d u:Int) (oa:Option Addr) (b o cap:Nat) (kids:List Ex) (wd vl:ByteArray) (an:Bool) :
 lv ⟨k,t,nm,op,.mk k' n d u oa b o cap kids,wd,vl,an⟩=.agg #[.int .i64 k,.int .i64 t,.string nm,.int .i64 op,.int .i64 k',.int .i64 n,.int .i64 d,.int .i64 u,.slice oa kids.length cap,.string wd,.string vl,.bool an]:=rfl
set_option maxRecDepth 20000 in
set_option maxHeartbeats 8000000 in
theorem clike_any (l m:Lf) (B:Bool) (w:World) (hS:∀ wx,Below w.heap.size w wx→Calls Tryz.prog 162 #[xv l.ex,xv m.ex] wx fun x w'=>x=.returned (.bool B)∧Below wx.heap.size wx w') :
  Calls Tryz.prog 119 #[lv l,lv m] w fun x w'=>x=.returned (.bool (likeB l m B))∧Below w.heap.size w w':=by
 obtain⟨k,t,nm,op,⟨k',n,d,u,oa,b,o,cap,kids⟩,wd,vl,an⟩:=l;obtain⟨K,T,NM,OP,⟨K',N,D,U,OA,B',O,CAP,KIDS⟩,WD,VL,AN⟩:=m;simp only[xv_mk]at hS;rw[lv_mk,lv_mk];have HS:=Lib.hid hS;clear hS;unfold likeB;simp only;generalize kids.length=L at *;generalize KIDS.length=L' at *;obtain⟨b1,g1⟩:∃ b,(k==K)=b:=⟨_,rfl⟩;obtain⟨b2,g2⟩:∃ b,(t==T)=b:=⟨_,rfl⟩;obtain⟨b3,g3⟩:∃ b,(nm.toList==NM.toList)=b:=⟨_,rfl⟩;obtain⟨b4,g4⟩:∃ b,(op==OP)=b:=⟨_,rfl⟩;obtain⟨b6,g6⟩:∃ b,(wd.toList==WD.toList)=b:=⟨_,rfl⟩;obtain⟨b7,g7⟩:∃ b,(vl.toList==VL.toList)=b:=⟨_,rfl⟩;rw[g1,g2,g3,g4,g6,g7]
 cases b1 with
 | false =>
   go_enter Tryz.func119,Tryz.ntmps119
   go_wp2_with fail;go_ret;exact⟨ret_bool (by simp),((below_box _ _).alloc (by simp) _)⟩
 | true =>
   cases b2 with
   | false =>
     go_enter Tryz.func119,Tryz.ntmps119
     go_wp2_with fail;go_ret;exact⟨ret_bool (by simp),((below_box _ _).alloc (by simp) _)⟩
   | true =>
     cases b3 with
     | false =>
       go_enter Tryz.func119,Tryz.ntmps119
       go_wp2_with fail;go_ret;exact⟨ret_bool (by simp),((below_box _ _).alloc (by simp) _)⟩
     | true =>
       cases b4 with
       | false =>
         go_enter Tryz.func119,Tryz.ntmps119
         go_wp2_with fail;go_ret;exact⟨ret_bool (by simp),((below_box _ _).alloc (by simp) _)⟩
       | true =>
         cases B with
         | false =>
           go_enter Tryz.func119,Tryz.ntmps119
           go_wp2_with fail
           ((with_reducible refine(HS.out _ ((below_box _ _).alloc (by simp) _)).mono ?_);rintro e w' ⟨rfl,hbw⟩)
           obtain⟨m,rfl⟩:=grow_mk hbw;clear hbw;go_wp2_with fail;go_ret;exact⟨ret_bool (by simp),below_grow ((below_box _ _).alloc (by simp) _) m⟩
         | true =>
           cases b6 with
           | false =>
             go_enter Tryz.func119,Tryz.ntmps119
             go_wp2_with fail
             ((with_reducible refine(HS.out _ ((below_box _ _).alloc (by simp) _)).mono ?_);rintro e w' ⟨rfl,hbw⟩)
             obtain⟨m,rfl⟩:=grow_mk hbw;clear hbw;go_wp2_with fail;go_ret;exact⟨ret_bool (by simp),below_grow ((below_box _ _).alloc (by simp) _) m⟩
           | true =>
             cases b7 with
             | false =>
               go_enter Tryz.func119,Tryz.ntmps119
               go_wp2_with fail
               ((with_reducible refine(HS.out _ ((below_box _ _).alloc (by simp) _)).mono ?_);rintro e w' ⟨rfl,hbw⟩)
               obtain⟨m,rfl⟩:=grow_mk hbw;clear hbw;go_wp2_with fail;go_ret;exact⟨ret_bool (by simp),below_grow ((below_box _ _).alloc (by simp) _) m⟩
             | true =>
               cases an<;>cases AN
               all_goals
                go_enter Tryz.func119,Tryz.ntmps119
                go_wp2_with fail
                ((with_reducible refine(HS.out _ ((below_box _ _).alloc (by simp) _)).mono ?_);rintro e w' ⟨rfl,hbw⟩)
                obtain⟨m,rfl⟩:=grow_mk hbw;clear hbw;go_wp2_with fail;go_ret;exact⟨ret_bool (by simp),below_grow ((below_box _ _).alloc (by simp) _) m⟩
set_option maxHeartbeats 1000000 in
theorem cMay_any (h:Nat) (e:Ex) (w:World) (hx:ExIn w h e) :
  Calls Tryz.prog 161 #[xv e] w fun x w'=>x=.returned (.bool (mayE 340 e))∧Below w.heap.size w w':=by
 have hC:=fun wx hb=>cmay_any 340 h e wx 1 rfl (by decide) (hx.below h (w':=wx) hb)
 obtain⟨k,n,d,u,oa,b,o,cap,kids⟩:=e;generalize mayE 340 _=M at *;simp only[xv_mk]at hC ⊢;have HC:=Lib.hid hC;clear hC
 go_enter Tryz.func161,Tryz.ntmps161
 go_wp2_with fail
 ((with_reducible refine(HC.out _ (below_box _ _)).mono ?_);rintro e w' ⟨rfl,hbw⟩)
 obtain⟨m,rfl⟩:=grow_mk hbw;clear hbw;go_wp2_with fail;go_ret;exact⟨rfl,below_grow (below_box _ _) m⟩
theorem zeroX_in (w:World):ExIn w 1 zeroX:=⟨⟨by decide,by decide⟩,⟨by decide,by decide,by decide,by decide⟩,⟨by decide,by decide⟩,Nat.le_refl _,Nat.zero_le _,by simp,fun h=>absurd h (by simp),fun i x h=>by simp at h⟩
theorem clike_zero {h:Nat} {ex:Ex} {w:World} (hx:ExIn w h ex) (k t:Int) (nm:ByteArray) (op:Int) (wd vl:ByteArray) (an:Bool) (wx:World) (hb:Below w.heap.size w wx) :
  Calls Tryz.prog 119 #[lv ⟨k,t,nm,op,ex,wd,vl,an⟩,lv zeroLf] wx fun x w'=>x=.returned (.bool (likeB ⟨k,t,nm,op,ex,wd,vl,an⟩ zeroLf (zeroE ex)))∧Below wx.heap.size wx w' :=
 clike_any _ _ _ _ fun wy hy=>csame_zero h ex wy ((hx.below h hb).below h hy)
theorem zeroLf_lv:lv zeroLf=.agg #[.int .i64 0,.int .i64 0,.string ⟨#[]⟩,.int .i64 0,.int .i64 0,.int .i64 0,.int .i64 0,.int .i64 0,.slice none 0 0,.string ⟨#[]⟩,.string ⟨#[]⟩,.bool false]:=rfl
set_option maxRecDepth 20000 in
set_option maxHeartbeats 8000000 in
theorem cleaf0 (h:Nat) (t:Int) (nm:ByteArray) (op:Int) (ex:Ex) (wd vl:ByteArray) (an:Bool) (w:World) (hx:ExIn w h ex) :
  Calls Tryz.prog 118 #[lv ⟨0,t,nm,op,ex,wd,vl,an⟩] w fun x w'=>x=.returned (.bool (leafB ⟨0,t,nm,op,ex,wd,vl,an⟩))∧Below w.heap.size w w':=by
 have hL:=clike_zero hx;have hL0:=clike_zero (zeroX_in w)
 have hM:=fun wx hb=>cMay_any h ex wx (hx.below h (w':=wx) hb)
 have e0:zeroE zeroX=true:=rfl;rw[e0]at hL0;obtain⟨k',n,d,u,oa,b,o,cap,kids⟩:=ex;unfold leafB noS;simp only;rw[if_pos (by decide)];generalize zeroE (.mk k' n d u oa b o cap kids)=Z at *;generalize mayE 340 (.mk k' n d u oa b o cap kids)=M at *;unfold zeroX at *;simp only[lv_mk,zeroLf_lv,xv_mk,List.length_nil]at hL hL0 hM ⊢;have HL:=Lib.hid hL;have HL0:=Lib.hid hL0;have HM:=Lib.hid hM;clear hL hL0 hM hx;generalize kids.length=L at *;obtain⟨N,gN⟩:∃ b,(nm.toList==[])=b:=⟨_,rfl⟩
 try rw[gN]
 go_enter Tryz.func118,Tryz.ntmps118
 go_wp2_with fail
 ((with_reducible refine(HL.out _ _ _ _ _ _ _ _ (by repeat (first|with_reducible exact below_box _ _ | (with_reducible refine Below.setCell ?_ ?hq _;case hq=>simp) | (with_reducible refine Below.alloc ?_ ?hq _;case hq=>simp) | with_reducible refine below_grow ?_ _))).mono ?_);rintro e w' ⟨rfl,hbw⟩)
 obtain⟨m1,rfl⟩:=grow_mk hbw;clear hbw;go_wp2_with fail;go_ret;exact⟨ret_bool rfl,(by repeat (first|with_reducible exact below_box _ _ | (with_reducible refine Below.setCell ?_ ?hq _;case hq=>simp) | (with_reducible refine Below.alloc ?_ ?hq _;case hq=>simp) | with_reducible refine below_grow ?_ _))⟩
set_option maxRecDepth 20000 in
set_option maxHeartbeats 8000000 in
theorem cleaf1 (h:Nat) (t:Int) (nm:ByteArray) (op:Int) (ex:Ex) (wd vl:ByteArray) (an:Bool) (w:World) (hx:ExIn w h ex) :
  Calls Tryz.prog 118 #[lv ⟨1,t,nm,op,ex,wd,vl,an⟩] w fun x w'=>x=.returned (.bool (leafB ⟨1,t,nm,op,ex,wd,vl,an⟩))∧Below w.heap.size w w':=by
 have hL:=clike_zero hx;have hL0:=clike_zero (zeroX_in w)
 have hM:=fun wx hb=>cMay_any h ex wx (hx.below h (w':=wx) hb)
 have e0:zeroE zeroX=true:=rfl;rw[e0]at hL0;obtain⟨k',n,d,u,oa,b,o,cap,kids⟩:=ex;unfold leafB noS;simp only;rw[if_neg (by decide)];rw[if_pos (by decide)];generalize zeroE (.mk k' n d u oa b o cap kids)=Z at *;generalize mayE 340 (.mk k' n d u oa b o cap kids)=M at *;unfold zeroX at *;simp only[lv_mk,zeroLf_lv,xv_mk,List.length_nil]at hL hL0 hM ⊢;have HL:=Lib.hid hL;have HL0:=Lib.hid hL0;have HM:=Lib.hid hM;clear hL hL0 hM hx;generalize kids.length=L at *;obtain⟨N,gN⟩:∃ b,(nm.toList==[])=b:=⟨_,rfl⟩
 try rw[gN]
 obtain⟨b1,g1⟩:∃ b,decide ((0:Int)≤t)=b:=⟨_,rfl⟩;obtain⟨b2,g2⟩:∃ b,decide (t≤(2:Int))=b:=⟨_,rfl⟩;rw[g1,g2]
 cases b1 with
 | false =>
   go_enter Tryz.func118,Tryz.ntmps118
   go_wp2_with fail;go_ret;exact⟨ret_bool rfl,(by repeat (first|with_reducible exact below_box _ _ | (with_reducible refine Below.setCell ?_ ?hq _;case hq=>simp) | (with_reducible refine Below.alloc ?_ ?hq _;case hq=>simp) | with_reducible refine below_grow ?_ _))⟩
 | true =>
   cases b2 with
   | false =>
     go_enter Tryz.func118,Tryz.ntmps118
     go_wp2_with fail;go_ret;exact⟨ret_bool rfl,(by repeat (first|with_reducible exact below_box _ _ | (with_reducible refine Below.setCell ?_ ?hq _;case hq=>simp) | (with_reducible refine Below.alloc ?_ ?hq _;case hq=>simp) | with_reducible refine below_grow ?_ _))⟩
   | true =>
     go_enter Tryz.func118,Tryz.ntmps118
     go_wp2_with fail
     ((with_reducible refine(HL.out _ _ _ _ _ _ _ _ (by repeat (first|with_reducible exact below_box _ _ | (with_reducible refine Below.setCell ?_ ?hq _;case hq=>simp) | (with_reducible refine Below.alloc ?_ ?hq _;case hq=>simp) | with_reducible refine below_grow ?_ _))).mono ?_);rintro e w' ⟨rfl,hbw⟩)
     obtain⟨m1,rfl⟩:=grow_mk hbw;clear hbw;go_wp2_with fail;go_ret;exact⟨ret_bool rfl,(by repeat (first|with_reducible exact below_box _ _ | (with_reducible refine Below.setCell ?_ ?hq _;case hq=>simp) | (with_reducible refine Below.alloc ?_ ?hq _;case hq=>simp) | with_reducible refine below_grow ?_ _))⟩
set_option maxRecDepth 20000 in
set_option maxHeartbeats 8000000 in
theorem cleaf2 (h:Nat) (t:Int) (nm:ByteArray) (op:Int) (ex:Ex) (wd vl:ByteArray) (an:Bool) (w:World) (hx:ExIn w h ex) :
  Calls Tryz.prog 118 #[lv ⟨2,t,nm,op,ex,wd,vl,an⟩] w fun x w'=>x=.returned (.bool (leafB ⟨2,t,nm,op,ex,wd,vl,an⟩))∧Below w.heap.size w w':=by
 have hL:=clike_zero hx;have hL0:=clike_zero (zeroX_in w)
 have hM:=fun wx hb=>cMay_any h ex wx (hx.below h (w':=wx) hb)
 have e0:zeroE zeroX=true:=rfl;rw[e0]at hL0;obtain⟨k',n,d,u,oa,b,o,cap,kids⟩:=ex;unfold leafB noS;simp only;rw[if_neg (by decide)];rw[if_neg (by decide)];rw[if_pos (by decide)];generalize zeroE (.mk k' n d u oa b o cap kids)=Z at *;generalize mayE 340 (.mk k' n d u oa b o cap kids)=M at *;unfold zeroX at *;simp only[lv_mk,zeroLf_lv,xv_mk,List.length_nil]at hL hL0 hM ⊢;have HL:=Lib.hid hL;have HL0:=Lib.hid hL0;have HM:=Lib.hid hM;clear hL hL0 hM hx;generalize kids.length=L at *;obtain⟨N,gN⟩:∃ b,(nm.toList==[])=b:=⟨_,rfl⟩
 try rw[gN]
 cases N with
 | false =>
   go_enter Tryz.func118,Tryz.ntmps118
   go_wp2_with fail
   ((with_reducible refine(HL.out _ _ _ _ _ _ _ _ (by repeat (first|with_reducible exact below_box _ _ | (with_reducible refine Below.setCell ?_ ?hq _;case hq=>simp) | (with_reducible refine Below.alloc ?_ ?hq _;case hq=>simp) | with_reducible refine below_grow ?_ _))).mono ?_);rintro e w' ⟨rfl,hbw⟩)
   obtain⟨m1,rfl⟩:=grow_mk hbw;clear hbw;go_wp2_with fail;go_ret;exact⟨ret_bool rfl,(by repeat (first|with_reducible exact below_box _ _ | (with_reducible refine Below.setCell ?_ ?hq _;case hq=>simp) | (with_reducible refine Below.alloc ?_ ?hq _;case hq=>simp) | with_reducible refine below_grow ?_ _))⟩
 | true =>
   go_enter Tryz.func118,Tryz.ntmps118
   go_wp2_with fail;go_ret;exact⟨ret_bool rfl,(by repeat (first|with_reducible exact below_box _ _ | (with_reducible refine Below.setCell ?_ ?hq _;case hq=>simp) | (with_reducible refine Below.alloc ?_ ?hq _;case hq=>simp) | with_reducible refine below_grow ?_ _))⟩
set_option maxRecDepth 20000 in
set_option maxHeartbeats 8000000 in
theorem cleaf3 (h:Nat) (t:Int) (nm:ByteArray) (op:Int) (ex:Ex) (wd vl:ByteArray) (an:Bool) (w:World) (hx:ExIn w h ex) :
  Calls Tryz.prog 118 #[lv ⟨3,t,nm,op,ex,wd,vl,an⟩] w fun x w'=>x=.returned (.bool (leafB ⟨3,t,nm,op,ex,wd,vl,an⟩))∧Below w.heap.size w w':=by
 have hL:=clike_zero hx;have hL0:=clike_zero (zeroX_in w)
 have hM:=fun wx hb=>cMay_any h ex wx (hx.below h (w':=wx) hb)
 have e0:zeroE zeroX=true:=rfl;rw[e0]at hL0;obtain⟨k',n,d,u,oa,b,o,cap,kids⟩:=ex;unfold leafB noS;simp only;rw[if_neg (by decide)];rw[if_neg (by decide)];rw[if_pos (by decide)];generalize zeroE (.mk k' n d u oa b o cap kids)=Z at *;generalize mayE 340 (.mk k' n d u oa b o cap kids)=M at *;unfold zeroX at *;simp only[lv_mk,zeroLf_lv,xv_mk,List.length_nil]at hL hL0 hM ⊢;have HL:=Lib.hid hL;have HL0:=Lib.hid hL0;have HM:=Lib.hid hM;clear hL hL0 hM hx;generalize kids.length=L at *;obtain⟨N,gN⟩:∃ b,(nm.toList==[])=b:=⟨_,rfl⟩
 try rw[gN]
 cases N with
 | false =>
   go_enter Tryz.func118,Tryz.ntmps118
   go_wp2_with fail
   ((with_reducible refine(HL.out _ _ _ _ _ _ _ _ (by repeat (first|with_reducible exact below_box _ _ | (with_reducible refine Below.setCell ?_ ?hq _;case hq=>simp) | (with_reducible refine Below.alloc ?_ ?hq _;case hq=>simp) | with_reducible refine below_grow ?_ _))).mono ?_);rintro e w' ⟨rfl,hbw⟩)
   obtain⟨m1,rfl⟩:=grow_mk hbw;clear hbw;go_wp2_with fail;go_ret;exact⟨ret_bool rfl,(by repeat (first|with_reducible exact below_box _ _ | (with_reducible refine Below.setCell ?_ ?hq _;case hq=>simp) | (with_reducible refine Below.alloc ?_ ?hq _;case hq=>simp) | with_reducible refine below_grow ?_ _))⟩
 | true =>
   go_enter Tryz.func118,Tryz.ntmps118
   go_wp2_with fail;go_ret;exact⟨ret_bool rfl,(by repeat (first|with_reducible exact below_box _ _ | (with_reducible refine Below.setCell ?_ ?hq _;case hq=>simp) | (with_reducible refine Below.alloc ?_ ?hq _;case hq=>simp) | with_reducible refine below_grow ?_ _))⟩
set_option maxRecDepth 20000 in
set_option maxHeartbeats 8000000 in
theorem cleaf4 (h:Nat) (t:Int) (nm:ByteArray) (op:Int) (ex:Ex) (wd vl:ByteArray) (an:Bool) (w:World) (hx:ExIn w h ex) :
  Calls Tryz.prog 118 #[lv ⟨4,t,nm,op,ex,wd,vl,an⟩] w fun x w'=>x=.returned (.bool (leafB ⟨4,t,nm,op,ex,wd,vl,an⟩))∧Below w.heap.size w w':=by
 have hL:=clike_zero hx;have hL0:=clike_zero (zeroX_in w)
 have hM:=fun wx hb=>cMay_any h ex wx (hx.below h (w':=wx) hb)
 have e0:zeroE zeroX=true:=rfl;rw[e0]at hL0;obtain⟨k',n,d,u,oa,b,o,cap,kids⟩:=ex;unfold leafB noS;simp only;rw[if_neg (by decide)];rw[if_neg (by decide)];rw[if_neg (by decide)];rw[if_pos (by decide)];generalize zeroE (.mk k' n d u oa b o cap kids)=Z at *;generalize mayE 340 (.mk k' n d u oa b o cap kids)=M at *;unfold zeroX at *;simp only[lv_mk,zeroLf_lv,xv_mk,List.length_nil]at hL hL0 hM ⊢;have HL:=Lib.hid hL;have HL0:=Lib.hid hL0;have HM:=Lib.hid hM;clear hL hL0 hM hx;generalize kids.length=L at *;obtain⟨N,gN⟩:∃ b,(nm.toList==[])=b:=⟨_,rfl⟩
 try rw[gN]
 obtain⟨b1,g4⟩:∃ b,decide ((1:Int)≤op)=b:=⟨_,rfl⟩;obtain⟨b2,g5⟩:∃ b,decide (op≤(5:Int))=b:=⟨_,rfl⟩;rw[g4,g5]
 cases N with
 | true =>
   go_enter Tryz.func118,Tryz.ntmps118
   go_wp2_with fail;go_ret;exact⟨ret_bool rfl,(by repeat (first|with_reducible exact below_box _ _ | (with_reducible refine Below.setCell ?_ ?hq _;case hq=>simp) | (with_reducible refine Below.alloc ?_ ?hq _;case hq=>simp) | with_reducible refine below_grow ?_ _))⟩
 | false =>
   cases b1 with
   | false =>
     go_enter Tryz.func118,Tryz.ntmps118
     go_wp2_with fail;go_ret;exact⟨ret_bool rfl,(by repeat (first|with_reducible exact below_box _ _ | (with_reducible refine Below.setCell ?_ ?hq _;case hq=>simp) | (with_reducible refine Below.alloc ?_ ?hq _;case hq=>simp) | with_reducible refine below_grow ?_ _))⟩
   | true =>
     cases b2 with
     | false =>
       go_enter Tryz.func118,Tryz.ntmps118
       go_wp2_with fail;go_ret;exact⟨ret_bool rfl,(by repeat (first|with_reducible exact below_box _ _ | (with_reducible refine Below.setCell ?_ ?hq _;case hq=>simp) | (with_reducible refine Below.alloc ?_ ?hq _;case hq=>simp) | with_reducible refine below_grow ?_ _))⟩
     | true =>
       cases M with
       | false =>
         go_enter Tryz.func118,Tryz.ntmps118
         have hb1:Below w.heap.size w ((w.alloc (.cells #[.int .i64 4,.int .i64 t,.string nm,.int .i64 op,.int .i64 k',.int .i64 n,.int .i64 d,.int .i64 u,.slice oa L cap,.string wd,.string vl,.bool an] 33)).alloc (.cells #[.int .i64 0,.int .i64 t,.string nm,.int .i64 op,.int .i64 k',.int .i64 n,.int .i64 d,.int .i64 u,.slice oa L cap,.string wd,.string vl,.bool an] 33)):=(below_box _ _).alloc (by simp) _
         have hb2:Blk ((w.alloc (.cells #[.int .i64 4,.int .i64 t,.string nm,.int .i64 op,.int .i64 k',.int .i64 n,.int .i64 d,.int .i64 u,.slice oa L cap,.string wd,.string vl,.bool an] 33)).alloc (.cells #[.int .i64 0,.int .i64 t,.string nm,.int .i64 op,.int .i64 k',.int .i64 n,.int .i64 d,.int .i64 u,.slice oa L cap,.string wd,.string vl,.bool an] 33)) (w.heap.size+1) 33 #[.int .i64 0,.int .i64 t,.string nm,.int .i64 op,.int .i64 k',.int .i64 n,.int .i64 d,.int .i64 u,.slice oa L cap,.string wd,.string vl,.bool an]:=Blk.new2 _ _ _ _;go_wp2_with fail
         ((with_reducible refine(HM.out _ hb1).mono ?_);rintro e w' ⟨rfl,hbw⟩)
         obtain⟨m0,rfl⟩:=grow_mk hbw;clear hbw;replace hb1:=below_grow hb1 m0;replace hb2:=hb2.grow m0;generalize grow _ m0=wg at *;have cb0:wg.cell? ⟨w.heap.size+1,0,none⟩=some (.int .i64 0):=(hb2).cell 0;have fcb0:=(hb2).frozen 0;have cb1:wg.cell? ⟨w.heap.size+1,1,none⟩=some (.int .i64 t):=(hb2).cell 1;have fcb1:=(hb2).frozen 1;have cb2:wg.cell? ⟨w.heap.size+1,2,none⟩=some (.string nm):=(hb2).cell 2;have fcb2:=(hb2).frozen 2;have cb3:wg.cell? ⟨w.heap.size+1,3,none⟩=some (.int .i64 op):=(hb2).cell 3;have fcb3:=(hb2).frozen 3;have cb4:wg.cell? ⟨w.heap.size+1,4,none⟩=some (.int .i64 k'):=(hb2).cell 4;have fcb4:=(hb2).frozen 4;have cb5:wg.cell? ⟨w.heap.size+1,5,none⟩=some (.int .i64 n):=(hb2).cell 5;have fcb5:=(hb2).frozen 5;have cb6:wg.cell? ⟨w.heap.size+1,6,none⟩=some (.int .i64 d):=(hb2).cell 6;have fcb6:=(hb2).frozen 6
         have cb7:wg.cell? ⟨w.heap.size+1,7,none⟩=some (.int .i64 u):=(hb2).cell 7;have fcb7:=(hb2).frozen 7;have cb8:wg.cell? ⟨w.heap.size+1,8,none⟩=some (.slice oa L cap):=(hb2).cell 8;have fcb8:=(hb2).frozen 8;have cb9:wg.cell? ⟨w.heap.size+1,9,none⟩=some (.string wd):=(hb2).cell 9;have fcb9:=(hb2).frozen 9;have cb10:wg.cell? ⟨w.heap.size+1,10,none⟩=some (.string vl):=(hb2).cell 10;have fcb10:=(hb2).frozen 10;have cb11:wg.cell? ⟨w.heap.size+1,11,none⟩=some (.bool an):=(hb2).cell 11;have fcb11:=(hb2).frozen 11;have lcb:=(hb2).lt;clear hb2;go_wp2_with fail;go_ret;exact⟨ret_bool rfl,(by repeat (first|with_reducible exact hb1 | (with_reducible refine Below.setCell ?_ ?hq _;case hq=>simp) | (with_reducible refine Below.alloc ?_ ?hq _;case hq=>simp) | with_reducible refine below_grow ?_ _))⟩
       | true =>
         go_enter Tryz.func118,Tryz.ntmps118
         have hb1:Below w.heap.size w ((w.alloc (.cells #[.int .i64 4,.int .i64 t,.string nm,.int .i64 op,.int .i64 k',.int .i64 n,.int .i64 d,.int .i64 u,.slice oa L cap,.string wd,.string vl,.bool an] 33)).alloc (.cells #[.int .i64 0,.int .i64 t,.string nm,.int .i64 op,.int .i64 k',.int .i64 n,.int .i64 d,.int .i64 u,.slice oa L cap,.string wd,.string vl,.bool an] 33)):=(below_box _ _).alloc (by simp) _
         have hb2:Blk ((w.alloc (.cells #[.int .i64 4,.int .i64 t,.string nm,.int .i64 op,.int .i64 k',.int .i64 n,.int .i64 d,.int .i64 u,.slice oa L cap,.string wd,.string vl,.bool an] 33)).alloc (.cells #[.int .i64 0,.int .i64 t,.string nm,.int .i64 op,.int .i64 k',.int .i64 n,.int .i64 d,.int .i64 u,.slice oa L cap,.string wd,.string vl,.bool an] 33)) (w.heap.size+1) 33 #[.int .i64 0,.int .i64 t,.string nm,.int .i64 op,.int .i64 k',.int .i64 n,.int .i64 d,.int .i64 u,.slice oa L cap,.string wd,.string vl,.bool an]:=Blk.new2 _ _ _ _;go_wp2_with fail
         ((with_reducible refine(HM.out _ hb1).mono ?_);rintro e w' ⟨rfl,hbw⟩)
         obtain⟨m0,rfl⟩:=grow_mk hbw;clear hbw;replace hb1:=below_grow hb1 m0;replace hb2:=hb2.grow m0;generalize grow _ m0=wg at *;have cb0:wg.cell? ⟨w.heap.size+1,0,none⟩=some (.int .i64 0):=(hb2).cell 0;have fcb0:=(hb2).frozen 0;have cb1:wg.cell? ⟨w.heap.size+1,1,none⟩=some (.int .i64 t):=(hb2).cell 1;have fcb1:=(hb2).frozen 1;have cb2:wg.cell? ⟨w.heap.size+1,2,none⟩=some (.string nm):=(hb2).cell 2;have fcb2:=(hb2).frozen 2;have cb3:wg.cell? ⟨w.heap.size+1,3,none⟩=some (.int .i64 op):=(hb2).cell 3;have fcb3:=(hb2).frozen 3;have cb4:wg.cell? ⟨w.heap.size+1,4,none⟩=some (.int .i64 k'):=(hb2).cell 4;have fcb4:=(hb2).frozen 4;have cb5:wg.cell? ⟨w.heap.size+1,5,none⟩=some (.int .i64 n):=(hb2).cell 5;have fcb5:=(hb2).frozen 5;have cb6:wg.cell? ⟨w.heap.size+1,6,none⟩=some (.int .i64 d):=(hb2).cell 6;have fcb6:=(hb2).frozen 6
         have cb7:wg.cell? ⟨w.heap.size+1,7,none⟩=some (.int .i64 u):=(hb2).cell 7;have fcb7:=(hb2).frozen 7;have cb8:wg.cell? ⟨w.heap.size+1,8,none⟩=some (.slice oa L cap):=(hb2).cell 8;have fcb8:=(hb2).frozen 8;have cb9:wg.cell? ⟨w.heap.size+1,9,none⟩=some (.string wd):=(hb2).cell 9;have fcb9:=(hb2).frozen 9;have cb10:wg.cell? ⟨w.heap.size+1,10,none⟩=some (.string vl):=(hb2).cell 10;have fcb10:=(hb2).frozen 10;have cb11:wg.cell? ⟨w.heap.size+1,11,none⟩=some (.bool an):=(hb2).cell 11;have fcb11:=(hb2).frozen 11;have lcb:=(hb2).lt;clear hb2;go_wp2_with fail
         ((with_reducible refine(HL0.out _ _ _ _ _ _ _ _ (by repeat (first|with_reducible exact hb1 | (with_reducible refine Below.setCell ?_ ?hq _;case hq=>simp) | (with_reducible refine Below.alloc ?_ ?hq _;case hq=>simp) | with_reducible refine below_grow ?_ _))).mono ?_);rintro e w' ⟨rfl,hbw⟩)
         obtain⟨m1,rfl⟩:=grow_mk hbw;clear hbw;go_wp2_with fail;go_ret;exact⟨ret_bool rfl,(by repeat (first|with_reducible exact hb1 | (with_reducible refine Below.setCell ?_ ?hq _;case hq=>simp) | (with_reducible refine Below.alloc ?_ ?hq _;case hq=>simp) | with_reducible refine below_grow ?_ _))⟩
set_option maxRecDepth 20000 in
set_option maxHeartbeats 8000000 in
theorem cleaf5 (h:Nat) (t:Int) (nm:ByteArray) (op:Int) (ex:Ex) (wd vl:ByteArray) (an:Bool) (w:World) (hx:ExIn w h ex) :
  Calls Tryz.prog 118 #[lv ⟨5,t,nm,op,ex,wd,vl,an⟩] w fun x w'=>x=.returned (.bool (leafB ⟨5,t,nm,op,ex,wd,vl,an⟩))∧Below w.heap.size w w':=by
 have hL:=clike_zero hx;have hL0:=clike_zero (zeroX_in w)
 have hM:=fun wx hb=>cMay_any h ex wx (hx.below h (w':=wx) hb)
 have e0:zeroE zeroX=true:=rfl;rw[e0]at hL0;obtain⟨k',n,d,u,oa,b,o,cap,kids⟩:=ex;unfold leafB noS;simp only;rw[if_neg (by decide)];rw[if_neg (by decide)];rw[if_neg (by decide)];rw[if_neg (by decide)];rw[if_pos (by decide)];generalize zeroE (.mk k' n d u oa b o cap kids)=Z at *;generalize mayE 340 (.mk k' n d u oa b o cap kids)=M at *;unfold zeroX at *;simp only[lv_mk,zeroLf_lv,xv_mk,List.length_nil]at hL hL0 hM ⊢;have HL:=Lib.hid hL;have HL0:=Lib.hid hL0;have HM:=Lib.hid hM;clear hL hL0 hM hx;generalize kids.length=L at *;obtain⟨N,gN⟩:∃ b,(nm.toList==[])=b:=⟨_,rfl⟩
 try rw[gN]
 cases N with
 | true =>
   go_enter Tryz.func118,Tryz.ntmps118
   go_wp2_with fail;go_ret;exact⟨ret_bool rfl,(by repeat (first|with_reducible exact below_box _ _ | (with_reducible refine Below.setCell ?_ ?hq _;case hq=>simp) | (with_reducible refine Below.alloc ?_ ?hq _;case hq=>simp) | with_reducible refine below_grow ?_ _))⟩
 | false =>
   go_enter Tryz.func118,Tryz.ntmps118
   go_wp2_with fail
   ((with_reducible refine(HL.out _ _ _ _ _ _ _ _ (by repeat (first|with_reducible exact below_box _ _ | (with_reducible refine Below.setCell ?_ ?hq _;case hq=>simp) | (with_reducible refine Below.alloc ?_ ?hq _;case hq=>simp) | with_reducible refine below_grow ?_ _))).mono ?_);rintro e w' ⟨rfl,hbw⟩)
   obtain⟨m1,rfl⟩:=grow_mk hbw;clear hbw;go_wp2_with fail;go_ret;exact⟨ret_bool rfl,(by repeat (first|with_reducible exact below_box _ _ | (with_reducible refine Below.setCell ?_ ?hq _;case hq=>simp) | (with_reducible refine Below.alloc ?_ ?hq _;case hq=>simp) | with_reducible refine below_grow ?_ _))⟩
set_option maxRecDepth 20000 in
set_option maxHeartbeats 8000000 in
theorem cleaf6 (h:Nat) (t:Int) (nm:ByteArray) (op:Int) (ex:Ex) (wd vl:ByteArray) (an:Bool) (w:World) (hx:ExIn w h ex) :
  Calls Tryz.prog 118 #[lv ⟨6,t,nm,op,ex,wd,vl,an⟩] w fun x w'=>x=.returned (.bool (leafB ⟨6,t,nm,op,ex,wd,vl,an⟩))∧Below w.heap.size w w':=by
 have hL:=clike_zero hx;have hL0:=clike_zero (zeroX_in w)
 have hM:=fun wx hb=>cMay_any h ex wx (hx.below h (w':=wx) hb)
 have e0:zeroE zeroX=true:=rfl;rw[e0]at hL0;obtain⟨k',n,d,u,oa,b,o,cap,kids⟩:=ex;unfold leafB noS;simp only;rw[if_neg (by decide)];rw[if_neg (by decide)];rw[if_neg (by decide)];rw[if_neg (by decide)];rw[if_neg (by decide)];rw[if_pos (by decide)];generalize zeroE (.mk k' n d u oa b o cap kids)=Z at *;generalize mayE 340 (.mk k' n d u oa b o cap kids)=M at *;unfold zeroX at *;simp only[lv_mk,zeroLf_lv,xv_mk,List.length_nil]at hL hL0 hM ⊢;have HL:=Lib.hid hL;have HL0:=Lib.hid hL0;have HM:=Lib.hid hM;clear hL hL0 hM hx;generalize kids.length=L at *;obtain⟨N,gN⟩:∃ b,(nm.toList==[])=b:=⟨_,rfl⟩
 try rw[gN]
 obtain⟨V,gV⟩:∃ b,(vl.toList==[])=b:=⟨_,rfl⟩;rw[gV]
 cases N with
 | true =>
   go_enter Tryz.func118,Tryz.ntmps118
   go_wp2_with fail;go_ret;exact⟨ret_bool rfl,(by repeat (first|with_reducible exact below_box _ _ | (with_reducible refine Below.setCell ?_ ?hq _;case hq=>simp) | (with_reducible refine Below.alloc ?_ ?hq _;case hq=>simp) | with_reducible refine below_grow ?_ _))⟩
 | false =>
   cases an with
   | false =>
     go_enter Tryz.func118,Tryz.ntmps118
     go_wp2_with fail
     ((with_reducible refine(HL.out _ _ _ _ _ _ _ _ (by repeat (first|with_reducible exact below_box _ _ | (with_reducible refine Below.setCell ?_ ?hq _;case hq=>simp) | (with_reducible refine Below.alloc ?_ ?hq _;case hq=>simp) | with_reducible refine below_grow ?_ _))).mono ?_);rintro e w' ⟨rfl,hbw⟩)
     obtain⟨m1,rfl⟩:=grow_mk hbw;clear hbw;go_wp2_with fail;go_ret;exact⟨ret_bool rfl,(by repeat (first|with_reducible exact below_box _ _ | (with_reducible refine Below.setCell ?_ ?hq _;case hq=>simp) | (with_reducible refine Below.alloc ?_ ?hq _;case hq=>simp) | with_reducible refine below_grow ?_ _))⟩
   | true =>
     cases V with
     | false =>
       go_enter Tryz.func118,Tryz.ntmps118
       go_wp2_with fail;go_ret;exact⟨ret_bool rfl,(by repeat (first|with_reducible exact below_box _ _ | (with_reducible refine Below.setCell ?_ ?hq _;case hq=>simp) | (with_reducible refine Below.alloc ?_ ?hq _;case hq=>simp) | with_reducible refine below_grow ?_ _))⟩
     | true =>
       go_enter Tryz.func118,Tryz.ntmps118
       go_wp2_with fail
       ((with_reducible refine(HL.out _ _ _ _ _ _ _ _ (by repeat (first|with_reducible exact below_box _ _ | (with_reducible refine Below.setCell ?_ ?hq _;case hq=>simp) | (with_reducible refine Below.alloc ?_ ?hq _;case hq=>simp) | with_reducible refine below_grow ?_ _))).mono ?_);rintro e w' ⟨rfl,hbw⟩)
       obtain⟨m1,rfl⟩:=grow_mk hbw;clear hbw;go_wp2_with fail;go_ret;exact⟨ret_bool rfl,(by repeat (first|with_reducible exact below_box _ _ | (with_reducible refine Below.setCell ?_ ?hq _;case hq=>simp) | (with_reducible refine Below.alloc ?_ ?hq _;case hq=>simp) | with_reducible refine below_grow ?_ _))⟩
set_option maxRecDepth 20000 in
set_option maxHeartbeats 8000000 in
theorem cleaf7 (h:Nat) (k:Int) (t:Int) (nm:ByteArray) (op:Int) (ex:Ex) (wd vl:ByteArray) (an:Bool) (w:World) (hx:ExIn w h ex) (hk:k<0∨6<k) :
  Calls Tryz.prog 118 #[lv ⟨k,t,nm,op,ex,wd,vl,an⟩] w fun x w'=>x=.returned (.bool (leafB ⟨k,t,nm,op,ex,wd,vl,an⟩))∧Below w.heap.size w w':=by
 have hL:=clike_zero hx;have hL0:=clike_zero (zeroX_in w)
 have hM:=fun wx hb=>cMay_any h ex wx (hx.below h (w':=wx) hb)
 have e0:zeroE zeroX=true:=rfl;rw[e0]at hL0;obtain⟨k',n,d,u,oa,b,o,cap,kids⟩:=ex;unfold leafB noS;simp only;rw[if_neg (by omega)];rw[if_neg (by omega)];rw[if_neg (by omega)];rw[if_neg (by omega)];rw[if_neg (by omega)];rw[if_neg (by omega)];generalize zeroE (.mk k' n d u oa b o cap kids)=Z at *;generalize mayE 340 (.mk k' n d u oa b o cap kids)=M at *;unfold zeroX at *;simp only[lv_mk,zeroLf_lv,xv_mk,List.length_nil]at hL hL0 hM ⊢;have HL:=Lib.hid hL;have HL0:=Lib.hid hL0;have HM:=Lib.hid hM;clear hL hL0 hM hx;generalize kids.length=L at *;obtain⟨N,gN⟩:∃ b,(nm.toList==[])=b:=⟨_,rfl⟩
 try rw[gN]
 have g0:(k==0)=false:=by simp;omega
 have g1:(k==1)=false:=by simp;omega
 have g2:(k==2)=false:=by simp;omega
 have g3:(k==3)=false:=by simp;omega
 have g4:(k==4)=false:=by simp;omega
 have g5:(k==5)=false:=by simp;omega
 have g6:(k==6)=false:=by simp;omega
 clear hk
 go_enter Tryz.func118,Tryz.ntmps118
 go_wp2_with fail;go_ret;exact⟨ret_bool rfl,(by repeat (first|with_reducible exact below_box _ _ | (with_reducible refine Below.setCell ?_ ?hq _;case hq=>simp) | (with_reducible refine Below.alloc ?_ ?hq _;case hq=>simp) | with_reducible refine below_grow ?_ _))⟩
end Go.Proofs.YtnbkbenkhkinoaaGreatDoor
