/- Of my texts: TextM, TextW, TextV, TokM, ValM, TextR, FlatM, CnD. -/
import Derived.Test.YtnbkbenkhkinoaaGreatDoorM04
import Derived.Lib.ItoaNum
import Derived.Deep.LoopGhost
import Derived.OwnWalk
namespace Go.Proofs.YtnbkbenkhkinoaaGreatDoor
set_option linter.unusedVariables false
set_option linter.unusedSimpArgs false
open Go.Lib
def isD (c:UInt8):Bool:=decide (48≤c.toNat)&&decide (c.toNat≤57)
end Go.Proofs.YtnbkbenkhkinoaaGreatDoor
namespace Go.Proofs.YtnbkbenkhkinoaaGreatDoor
set_option linter.unusedVariables false
set_option linter.unusedSimpArgs false
open Go.RowKit Go.Lib
@[go_sem] theorem ba_get (l:List UInt8) (i:Nat) (h:i<(⟨l.toArray⟩:ByteArray).size):(⟨l.toArray⟩:ByteArray)[i]'h=l[i]'h:=rfl
theorem bytes_conv (m:List UInt8) (w:World):∃ (cap:Nat) (w1:World),(convert 9 112 (.string ⟨m.toArray⟩)).run Tryz.prog w=.ok (.slice (some ⟨w.heap.size,0,none⟩) m.length cap) w1∧Below w.heap.size w w1 ∧
  w.heap.size<w1.heap.size∧∀ (i:Nat) (c:UInt8),m[i]?=some c→w1.cell? ⟨w.heap.size,i,none⟩=some (.int .u8 (c.toNat:Int)):=by
 have h:=run_bytes_of_string (P:=Tryz.prog) w 9 112 5 ⟨m.toArray⟩ Tryz.underlying9 Tryz.underlying112 Tryz.underlying5;refine⟨_,_,h,((Below.refl _ _).drew.alloc (Nat.le_refl _) _),by simp,fun i c hc=>?_⟩;obtain⟨hi,rfl⟩:=List.getElem?_eq_some_iff.1 hc;rw[cell_of_row _ w.heap.size i _ _ _ (heap_alloc_new w.drew _)];exact bytesRow_at ⟨m.toArray⟩ _ i hi
end Go.Proofs.YtnbkbenkhkinoaaGreatDoor
namespace Go.Proofs.YtnbkbenkhkinoaaGreatDoor
set_option linter.unusedVariables false
set_option linter.unusedSimpArgs false
structure Tk where
 kind:Int
 text:List UInt8
 num:Rt
 int:Bool
 id:Bool
deriving DecidableEq
def isC (x:Int):Bool:=decide (0≤x)&&decide (x≤1114111)&&(decide (x<55296)||decide (57343<x))
def aF (l:List Int) (i:Nat):Int :=
 match l[i]? with
 | none=>-1
 | some x=>if isC x then x else 65533
def digitI (x:Int):Bool:=decide (48≤x)&&decide (x≤57)
def firstI (x:Int):Bool:=(decide (97≤x)&&decide (x≤122))||(decide (65≤x)&&decide (x≤90))||x==95||decide (128≤x)
def letterI (x:Int):Bool:=firstI x||digitI x||x==45
def blankI (x:Int):Bool:=x==10||x==9||x==32
def escI (a b:Int):Bool:=a==92&&b != 10
def beginsI (a b c:Int):Bool:=if a=45 then firstI b||b==45||escI b c else firstI a||escI a b
def numI (a b c:Int):Bool:=if a=43∨a=45 then digitI b||(b==46&&digitI c) else digitI a||(a==46&&digitI b)
def digE (l:List Int):Nat→Nat→Nat
 | 0,i=>i
 | f+1,i=>if digitI (aF l i) then digE l f (i+1) else i
def digF (l:List Int) (i:Nat):Nat:=digE l (l.length+2-i) i
def blaE (l:List Int):Nat→Nat→Nat
 | 0,i=>i
 | f+1,i=>if blankI (aF l i) then blaE l f (i+1) else i
def blaF (l:List Int) (i:Nat):Nat:=blaE l (l.length+2-i) i
def lowB (c:UInt8):UInt8:=if 65≤c∧c≤90 then c+32 else c
def lowS (s:List UInt8):List UInt8:=s.map lowB
def tok0 (k:Int) (s:List UInt8):Tk:=⟨k,s,(0,0),false,false⟩
inductive Vt where
 | mk (t:Tk) (kids:List Vt)
def closeF (k:Int):Int:=if k=2∨k=21 then 22 else if k=19 then 20 else if k=23 then 24 else 0
def shutF:List (Tk×List Vt)→List (Tk×List Vt)
 | (t,k)::(t',k')::r=>(t',k'++[.mk t k])::r
 | s=>s
def stepV (s:List (Tk×List Vt)) (t:Tk):List (Tk×List Vt) :=
 match s with
 | []=>[]
 | (t0,k0)::r=>if r≠[]∧t.kind=closeF t0.kind then shutF s else if closeF t.kind≠0 then (t,[])::s else (t0,k0++[.mk t []])::r
def closeV:Nat→List (Tk×List Vt)→List (Tk×List Vt)
 | 0,s=>s
 | n+1,s=>if 2≤s.length then closeV n (shutF s) else s
def zeroTk:Tk:=⟨0,[],(0,0),false,false⟩
def valuesF (l:List Tk):List Vt :=
 match closeV (l.foldl stepV [(zeroTk,[])]).length (l.foldl stepV [(zeroTk,[])]) with
 | (_,k)::_=>k
 | []=>[]
def mayV:Nat→List Vt→Bool
 | _,[]=>true
 | n, .mk t k::r=>decide (1≤t.kind)&&decide (t.kind≤24)&&(if closeF t.kind=0 then k.isEmpty else match n with
    | 0=>false
    | n+1=>mayV n k)&&mayV n r
termination_by n l=>(n,l.length)
end Go.Proofs.YtnbkbenkhkinoaaGreatDoor
namespace Go.Proofs.YtnbkbenkhkinoaaGreatDoor
set_option linter.unusedVariables false
set_option linter.unusedSimpArgs false
open Go.RowKit Go.Lib
set_option maxHeartbeats 1000000 in
theorem digit_any (c:UInt8) (w:World):Calls Tryz.prog 237 #[.int .u8 (c.toNat:Int)] w fun e w'=>e=.returned (.bool (isD c))∧w=w':=by
 have hbd:=UInt8.toNat_lt c
 have hD:isD c=(decide ((48:Int)≤c.toNat)&&decide ((c.toNat:Int)≤57)):=by
  unfold isD;rw[Bool.eq_iff_iff];simp;omega
 rw[hD];generalize c.toNat=d at *;obtain⟨b1,g1⟩:∃ b,decide ((48:Int)≤d)=b:=⟨_,rfl⟩;obtain⟨b2,g2⟩:∃ b,decide ((d:Int)≤57)=b:=⟨_,rfl⟩;rw[g1,g2];clear hD
 cases b1 with
 | false =>
   go_enter Tryz.func237,Tryz.ntmps237
   go_wp2_with fail;go_ret;exact⟨rfl,rfl⟩
 | true =>
   go_enter Tryz.func237,Tryz.ntmps237
   go_wp2_with fail;go_ret;exact⟨ret_bool rfl,rfl⟩
end Go.Proofs.YtnbkbenkhkinoaaGreatDoor
namespace Go.Proofs.YtnbkbenkhkinoaaGreatDoor
set_option linter.unusedVariables false
set_option linter.unusedSimpArgs false
def Vt.tok:Vt→Tk
 | .mk t _=>t
end Go.Proofs.YtnbkbenkhkinoaaGreatDoor
namespace Go.Proofs.YtnbkbenkhkinoaaGreatDoor
set_option linter.unusedVariables false
set_option linter.unusedSimpArgs false
open Go.RowKit Go.Lib
def tenL:List UInt8:=[49,48]
set_option maxRecDepth 20000 in
set_option maxHeartbeats 2000000 in
theorem run10_any (w:World) :
  Calls Tryz.prog 218 #[.string ⟨tenL.toArray⟩,.int .i64 0] w fun e w'=>e=.returned (.int .i64 2)∧Below w.heap.size w w':=by
 have h6:=Lib.hid (show ∀ w,Calls Tryz.prog 237 #[.int .u8 49] w fun e w'=>e=.returned (.bool true)∧w=w' from fun w=>digit_any 49 w);have h0:=Lib.hid (show ∀ w,Calls Tryz.prog 237 #[.int .u8 48] w fun e w'=>e=.returned (.bool true)∧w=w' from fun w=>digit_any 48 w);unfold tenL
 go_enter Tryz.func218,Tryz.ntmps218
 go_wp2_with fail
 go_loopg [1] 2 (fun k s wr=>(s=.int .i64 0∧k=2∨s=.int .i64 1∧1≤k∨s=.int .i64 2)∧Below w.heap.size w wr)
 case atStart=>exact⟨.inl ⟨rfl,rfl⟩,Below.refl _ _⟩
 case round =>
  obtain⟨⟨rfl,hk⟩ | ⟨rfl,hk⟩ | rfl,hb⟩:=hrel
  · go_wp2_with fail
    ((with_reducible refine(h6.out _).mono ?_);rintro e w' ⟨rfl,rfl⟩)
    go_wp2_with fail
    go_roundg 1
    case measure=>omega
    case rel=>exact⟨.inr (.inl ⟨rfl,by omega⟩),hb⟩
  · go_wp2_with fail
    ((with_reducible refine(h0.out _).mono ?_);rintro e w' ⟨rfl,rfl⟩)
    go_wp2_with fail
    go_roundg 0
    case measure=>omega
    case rel=>exact⟨.inr (.inr rfl),hb⟩
  · go_wp2_with fail;go_ret;exact⟨rfl,hb⟩
set_option maxRecDepth 20000 in
set_option maxHeartbeats 8000000 in
theorem value10_any (w:World) :
  Calls Tryz.prog 220 #[.bool false,.string ⟨tenL.toArray⟩,.int .i64 0] w fun e w'=>e=.returned (.agg #[.int .i64 10,.int .i64 1])∧Below w.heap.size w w':=by
 unfold tenL
 go_enter Tryz.func220,Tryz.ntmps220
 go_upto_region 1 with fail
 have hr:Blk (w.alloc (.cells #[.int .i64 0,.int .i64 0] 28)) w.heap.size 28 #[.int .i64 0,.int .i64 0]:=Blk.new _ _ _;have hb:Below w.heap.size w (w.alloc (.cells #[.int .i64 0,.int .i64 0] 28)):=below_box _ _;generalize w.alloc _=wa at *;go_wp2_with fail
 go_loopg [7] 0 (fun k s7 wr=>s7=.int .i64 0∧wr=wa)
 case atStart=>exact⟨rfl,rfl⟩
 case round =>
  obtain⟨rfl,rfl⟩:=hrel;go_wp2_with fail
  go_loopg [2,8] 1 (fun k s2 s8 wx=>(s2=.int .i64 0∧s8=.int .i64 2∧k=1∨s2=.int .i64 1∧s8=.int .i64 1)∧wx=wr)
  case atStart=>exact⟨.inl ⟨rfl,rfl,rfl⟩,rfl⟩
  case round =>
   obtain⟨⟨rfl,rfl,hk⟩ | ⟨rfl,rfl⟩,rfl⟩:=hrel
   · go_wp2_with fail
     go_roundg 0
     case measure=>omega
     case rel=>exact⟨.inr ⟨rfl,rfl⟩,rfl⟩
   · obtain⟨cap,w1,hrun,hb1,hlt1,hcells⟩:=bytes_conv [49] wr;have hc0:w1.cell? ⟨wr.heap.size,0,none⟩=some (.int .u8 49):=hcells 0 49 rfl
     have hex:(⟨#[49,48]⟩:ByteArray).extract 0 1=⟨#[49]⟩:=by decide
     simp only[List.length_cons,List.length_nil,Nat.zero_add]at hrun;clear hcells;go_wp2_with fail;obtain⟨ex1,e2⟩:=grow_mk hb1;subst e2;replace hb:=below_grow hb ex1;replace hr:=hr.grow ex1;clear hb1 hrun;generalize grow wr ex1=w1 at *;generalize wr.heap.size=B at *
     go_loopg [52,9] 1 (fun k s52 s9 wx=>(s52=.int .i64 0∧s9=.int .u64 0∧k=1∨s52=.int .i64 1∧s9=.int .u64 1)∧wx=w1)
     case atStart=>exact⟨.inl ⟨rfl,rfl,rfl⟩,rfl⟩
     case round =>
      obtain⟨⟨rfl,rfl,hk⟩ | ⟨rfl,rfl⟩,rfl⟩:=hrel
      · go_wp2_with fail
        go_roundg 0
        case measure=>omega
        case rel=>exact⟨.inr ⟨rfl,rfl⟩,rfl⟩
      · go_wp2_with fail
        go_loopg [2,9] 1 (fun k s2 s9 wx=>(s2=.int .i64 1∧s9=.int .u64 1∧k=1∨s2=.int .i64 0∧s9=.int .u64 10)∧wx=wr)
        case atStart=>exact⟨.inl ⟨rfl,rfl,rfl⟩,rfl⟩
        case round =>
         obtain⟨⟨rfl,rfl,hk⟩ | ⟨rfl,rfl⟩,rfl⟩:=hrel
         · go_wp2_with fail
           go_roundg 0
           case measure=>omega
           case rel=>exact⟨.inr ⟨rfl,rfl⟩,rfl⟩
         · go_wp2_with fail
           go_loopg [9,13] 0 (fun k s9 s13 wx=>s9=.int .u64 10∧s13=.int .i64 0∧wx=wr)
           case atStart=>exact⟨rfl,rfl,rfl⟩
           case round =>
            obtain⟨rfl,rfl,rfl⟩:=hrel;go_wp2_with fail
            go_loopg [9,14] 0 (fun k s9 s13 wx=>s9=.int .u64 10∧s13=.int .i64 0∧wx=wr)
            case atStart=>exact⟨rfl,rfl,rfl⟩
            case round =>
             obtain⟨rfl,rfl,rfl⟩:=hrel;go_wp2_with fail
             go_loopg [12,13] 0 (fun k s9 s13 wx=>s9=.int .u64 1∧s13=.int .i64 0∧wx=wr)
             case atStart=>exact⟨rfl,rfl,rfl⟩
             case round =>
              obtain⟨rfl,rfl,rfl⟩:=hrel;go_wp2_with fail
              go_loopg [12,14] 0 (fun k s9 s13 wx=>s9=.int .u64 1∧s13=.int .i64 0∧wx=wr)
              case atStart=>exact⟨rfl,rfl,rfl⟩
              case round =>
               obtain⟨rfl,rfl,rfl⟩:=hrel;have cr0:wr.cell? ⟨w.heap.size,0,none⟩=some (.int .i64 0):=(hr).cell 0;have fcr0:=(hr).frozen 0;have cr1:wr.cell? ⟨w.heap.size,1,none⟩=some (.int .i64 0):=(hr).cell 1;have fcr1:=(hr).frozen 1;have lcr:=(hr).lt;go_wp2_with fail;exact bodyPost_ret (v:=.agg #[.int .i64 10,.int .i64 1]) (by simp[results,Tryz.results220,go_sem,cr0,cr1,lcr]) rfl ⟨rfl,(by repeat (first|with_reducible exact hb | (with_reducible refine Below.setCell ?_ ?hq _;case hq=>first | (simp;done) | (simp;omega))))⟩
set_option maxRecDepth 20000 in
set_option maxHeartbeats 8000000 in
theorem decimal10_any (w:World) :
  Calls Tryz.prog 194 #[.string ⟨tenL.toArray⟩] w fun e w'=>e=.returned (.tuple #[.agg #[.int .i64 10,.int .i64 1],.bool true,.int .i64 0])∧Below w.heap.size w w':=by
 have HR:=Lib.hid run10_any;have HV:=Lib.hid value10_any;unfold tenL at *
 go_enter Tryz.func194,Tryz.ntmps194
 go_upto_region 1 with fail
 have hr:Blk (w.alloc (.cells #[.int .i64 0,.int .i64 0] 28)) w.heap.size 28 #[.int .i64 0,.int .i64 0]:=Blk.new _ _ _;have hb:Below w.heap.size w (w.alloc (.cells #[.int .i64 0,.int .i64 0] 28)):=below_box _ _
 have hex:(⟨#[49,48]⟩:ByteArray).extract 0 2=⟨#[49,48]⟩:=by decide
 generalize w.alloc _=wa at *;go_wp2_with fail;go_wp2_with fail
 ((with_reducible refine(HR.out _).mono ?_);rintro e w' ⟨rfl,hbw⟩)
 obtain⟨m1,rfl⟩:=grow_mk hbw;clear hbw;replace hb:=below_grow hb m1;replace hr:=hr.grow m1;generalize grow _ m1=wr at *;go_wp2_with fail;go_wp2_with fail
 ((with_reducible refine(HV.out _).mono ?_);rintro e w' ⟨rfl,hbw⟩)
 obtain⟨m2,rfl⟩:=grow_mk hbw;clear hbw;replace hb:=below_grow hb m2;replace hr:=hr.grow m2;generalize grow _ m2=wx at *;have cr0:wx.cell? ⟨w.heap.size,0,none⟩=some (.int .i64 0):=(hr).cell 0;have fcr0:=(hr).frozen 0;have cr1:wx.cell? ⟨w.heap.size,1,none⟩=some (.int .i64 0):=(hr).cell 1;have fcr1:=(hr).frozen 1;have lcr:=(hr).lt;go_wp2_with fail;exact bodyPost_ret (v:=.tuple #[.agg #[.int .i64 10,.int .i64 1],.bool true,.int .i64 0]) (by simp[results,Tryz.results194,go_sem,cr0,cr1,lcr]) rfl ⟨rfl,(by repeat (first|with_reducible exact hb | (with_reducible refine Below.setCell ?_ ?hq _;case hq=>first | (simp;done) | (simp;omega))))⟩
end Go.Proofs.YtnbkbenkhkinoaaGreatDoor
