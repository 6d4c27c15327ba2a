/- Of my texts: WideC, WideD, WideE, RatD, DmM, DmP, LooseB, LooseC, BlkN. -/
import Derived.Test.YtnbkbenkhkinoaaGreatDoorM02
import Derived.Test.YtnbkbenkhkinoaaGreatDoorM03
import Derived.Shelf.Spec.BitsCarry
import Derived.Lib.Mul64
import Derived.Deep.LoopGhost
import Derived.Deep.RegionWith
import Derived.Deep.CutBlock
import Derived.Deep.DeepCutAuto
import Derived.Maps.OwnSet
namespace Go.Proofs.YtnbkbenkhkinoaaGreatDoor
set_option linter.unusedVariables false
set_option linter.unusedSimpArgs false
open Go.RowKit
def Blk (w:World) (g:Nat) (t:TypeId) (cs:Array Value):Prop:=w.heap[g]?=some (.cells cs t (0,0))
section
variable {w w':World} {g:Nat} {t:TypeId} {cs:Array Value}
theorem Blk.lt (h:Blk w g t cs):g<w.heap.size:=by
 apply Classical.byContradiction
 intro hn;unfold Blk at h;rw[Array.getElem?_eq_none (by omega)]at h
 cases h
theorem Blk.cell (h:Blk w g t cs) (i:Nat):w.cell? ⟨g,i,none⟩=cs[i]?:=cell_of_row w g i cs t (0,0) h
theorem Blk.frozen (h:Blk w g t cs) (i:Nat):w.frozen? ⟨g,i,none⟩=false:=by unfold Blk at h;simp[World.frozen?,h]
theorem Blk.new (w:World) (t:TypeId) (cs:Array Value):Blk (w.alloc (.cells cs t)) w.heap.size t cs:=heap_alloc_new w _
theorem Blk.old (h:Blk w g t cs) (o:Obj):Blk (w.alloc o) g t cs:=(Below.heap_alloc w o g h.lt).trans h
theorem Blk.below {B:Nat} (h:Blk w g t cs) (hb:Below B w w') (hg:g<B):Blk w' g t cs:=(hb.block g hg).trans h
theorem Blk.grow (h:Blk w g t cs) (m:Ext w):Blk (grow w m) g t cs:=h.below (grow_below m) h.lt
theorem Blk.put (h:Blk w g t cs) (i:Nat) (u:Value):Blk (w.setCell ⟨g,i,none⟩ u) g t (cs.setIfInBounds i u):=by
 unfold Blk at h ⊢;simp[World.setCell,Array.getElem?_modify,h]
theorem Blk.far (h:Blk w g t cs) {p:Addr} (hp:g≠p.block) (u:Value):Blk (w.setCell p u) g t cs:=(Below.heap_setCell w p u g hp).trans h
theorem Blk.five {w:World} {g:Nat} {t:TypeId} {a0 a1 a2 a3 a4:Value} (h:Blk w g t #[a0,a1,a2,a3,a4]):w.cell? ⟨g,0,none⟩=some a0∧w.frozen? ⟨g,0,none⟩=false∧w.cell? ⟨g,1,none⟩=some a1∧w.frozen? ⟨g,1,none⟩=false∧w.cell? ⟨g,2,none⟩=some a2∧w.frozen? ⟨g,2,none⟩=false∧w.cell? ⟨g,3,none⟩=some a3∧w.frozen? ⟨g,3,none⟩=false∧w.cell? ⟨g,4,none⟩=some a4∧w.frozen? ⟨g,4,none⟩=false∧g<w.heap.size :=
 ⟨h.cell 0,h.frozen 0,h.cell 1,h.frozen 1,h.cell 2,h.frozen 2,h.cell 3,h.frozen 3,h.cell 4,h.frozen 4,h.lt⟩
theorem Blk.to (h:Blk w g t cs) {cs':Array Value} (e:cs=cs'):Blk w g t cs':=e ▸ h
end
structure Gw (w0 wr:World) (t ah al bh bl:Nat):Prop where
 below:Below w0.heap.size w0 wr
 a:Blk wr w0.heap.size t #[.int .u64 ah,.int .u64 al]
 b:Blk wr (w0.heap.size+1) t #[.int .u64 bh,.int .u64 bl]
 r:Blk wr (w0.heap.size+1+1) t #[.int .u64 0,.int .u64 0]
 b1:ah<18446744073709551616
 b2:al<18446744073709551616
 b3:bh<18446744073709551616
 b4:bl<18446744073709551616
theorem Blk.put2 {w:World} {g:Nat} {t:TypeId} {x y:Value} (h:Blk w g t #[x,y]) (a b:Value):Blk ((w.setCell ⟨g,0,none⟩ a).setCell ⟨g,1,none⟩ b) g t #[a,b]:=(h.put 0 a).put 1 b
theorem Blk.far2 {w:World} {g g':Nat} {t:TypeId} {cs:Array Value} (h:Blk w g t cs) (hne:g≠g') (i j:Nat) (a b:Value):Blk ((w.setCell ⟨g',i,none⟩ a).setCell ⟨g',j,none⟩ b) g t cs:=(h.far (p:=⟨g',i,none⟩) hne a).far (p:=⟨g',j,none⟩) hne b
section
variable {w0 wr:World} {t ah al bh bl:Nat}
theorem Gw.grow (h:Gw w0 wr t ah al bh bl) (m:Ext wr):Gw w0 (grow wr m) t ah al bh bl:=⟨below_grow h.below m,h.a.grow m,h.b.grow m,h.r.grow m,h.b1,h.b2,h.b3,h.b4⟩
end
structure Gs (G ah al bh bl n:Nat):Prop where
 a:wn ah al≠0
 b:wn bh bl≠0
 eq:2 ^ n*Nat.gcd (wn ah al) (wn bh bl)=G
 lt:G<340282366920938463463374607431768211456
structure Gt (G ah al bh bl n:Nat):Prop where
 odd:al % 2=1
 eq:2 ^ n*Nat.gcd (wn ah al) (wn bh bl)=G
 lt:G<340282366920938463463374607431768211456
theorem Gs.done {G ah al bh bl n:Nat} (h:Gs G ah al bh bl n) (pa:al % 2=1):Gt G ah al bh bl n:=⟨pa,h.eq,h.lt⟩
theorem Gt.pos {G ah al bh bl n:Nat} (h:Gt G ah al bh bl n):0<wn ah al:=by have:=h.odd;unfold wn;omega
theorem Gt.last {G ah al bh bl n:Nat} (h:Gt G ah al bh bl n) (hb:bh=0∧bl=0):2 ^ n*wn ah al=G:=by
 have:=h.eq;rw[hb.1,hb.2,show wn 0 0=0 from rfl,Nat.gcd_zero_right]at this;exact this
structure Gd (w0 wr:World) (t ah al bh bl qh ql rh rl:Nat):Prop where
 below:Below w0.heap.size w0 wr
 a:Blk wr w0.heap.size t #[.int .u64 ah,.int .u64 al]
 b:Blk wr (w0.heap.size+1) t #[.int .u64 bh,.int .u64 bl]
 o:Blk wr (w0.heap.size+1+1) t #[.int .u64 0,.int .u64 0]
 q:Blk wr (w0.heap.size+1+1+1) t #[.int .u64 qh,.int .u64 ql]
 r:Blk wr (w0.heap.size+1+1+1+1) t #[.int .u64 rh,.int .u64 rl]
section
variable {w0 wr:World} {t ah al bh bl qh ql rh rl:Nat}
theorem Gd.grow (h:Gd w0 wr t ah al bh bl qh ql rh rl) (m:Ext wr):Gd w0 (grow wr m) t ah al bh bl qh ql rh rl:=⟨below_grow h.below m,h.a.grow m,h.b.grow m,h.o.grow m,h.q.grow m,h.r.grow m⟩
end
structure Gm (w0 wr:World) (t tr nh nl dh dl:Nat):Prop where
 below:Below w0.heap.size w0 wr
 n:Blk wr w0.heap.size t #[.int .u64 nh,.int .u64 nl]
 d:Blk wr (w0.heap.size+1) t #[.int .u64 dh,.int .u64 dl]
 o:Blk wr (w0.heap.size+1+1) tr #[.int .i64 0,.int .i64 0]
section
variable {w0 wr:World} {t tr nh nl dh dl:Nat}
theorem Gm.start (w0:World) (t tr nh nl dh dl:Nat):Gm w0 (((w0.alloc (.cells #[.int .u64 nh,.int .u64 nl] t)).alloc (.cells #[.int .u64 dh,.int .u64 dl] t)).alloc (.cells #[.int .i64 0,.int .i64 0] tr)) t tr nh nl dh dl:=by
 have k1:=Blk.new w0 t #[.int .u64 nh,.int .u64 nl];have k2:=Blk.new (w0.alloc (.cells #[.int .u64 nh,.int .u64 nl] t)) t #[.int .u64 dh,.int .u64 dl];have k3:=Blk.new ((w0.alloc (.cells #[.int .u64 nh,.int .u64 nl] t)).alloc (.cells #[.int .u64 dh,.int .u64 dl] t)) tr #[.int .i64 0,.int .i64 0];simp only[World.size_alloc]at k2 k3;exact⟨((below_box _ _).alloc (by first|omega | (simp;done) | (simp;omega)) _).alloc (by first|omega | (simp;done) | (simp;omega)) _,(k1.old _).old _,k2.old _,k3⟩
theorem Gm.grow (h:Gm w0 wr t tr nh nl dh dl) (m:Ext wr):Gm w0 (grow wr m) t tr nh nl dh dl:=⟨below_grow h.below m,h.n.grow m,h.d.grow m,h.o.grow m⟩
theorem Gm.old (h:Gm w0 wr t tr nh nl dh dl) (o:Obj):Gm w0 (wr.alloc o) t tr nh nl dh dl:=⟨h.below.alloc h.below.size o,h.n.old o,h.d.old o,h.o.old o⟩
end
def mayB (r:Rt):Bool:=(decide (r.1=0)&&decide (r.2=0))||sureB r
set_option maxHeartbeats 1000000 in
theorem may_any (r:Rt) (w:World) (h64:Is64 r) :
  Calls Tryz.prog 78 #[rv r] w fun e w'=>e=.returned (.bool (mayB r))∧Below w.heap.size w w':=by
 have hs:=fun w=>sure_any r w h64
 obtain⟨n,d⟩:=r;have HS:=Lib.hid hs;clear hs;unfold mayB;simp only;generalize sureB (n,d)=b at *
 by_cases c1:n=0
 · subst c1
   by_cases c2:d=0
   · subst c2
     go_enter Tryz.func78,Tryz.ntmps78
     go_wp2_with fail;go_ret;exact⟨ret_bool rfl,below_box _ _⟩
   · have HF:=Lib.hid (show (decide ((0:Int)=0)&&decide (d=0)||b)=b by simp[c2])
     go_enter Tryz.func78,Tryz.ntmps78
     go_wp2_with fail
     ((with_reducible refine(HS.out _).mono ?_);rintro e w' ⟨rfl,hbw⟩)
     obtain⟨m,rfl⟩:=grow_mk hbw;clear hbw;go_wp2_with fail;go_ret;exact⟨ret_bool (by simp[c2]),below_grow (below_box _ _) _⟩
 · go_enter Tryz.func78,Tryz.ntmps78
   go_wp2_with fail
   ((with_reducible refine(HS.out _).mono ?_);rintro e w' ⟨rfl,hbw⟩)
   obtain⟨m,rfl⟩:=grow_mk hbw;clear hbw;go_wp2_with fail;go_ret;exact⟨ret_bool (by simp[c1]),below_grow (below_box _ _) _⟩
def nameCh (c:Nat):Bool:=decide (97≤c∧c≤122)||decide (65≤c∧c≤90)||decide (c=95)
def laterCh (c:Nat):Bool:=nameCh c||decide (c=45)||decide (48≤c∧c≤57)
def nameB (l:List UInt8):Bool:=decide (1≤l.length∧l.length≤64)&&(match l with
 | []=>false
 | c::r=>nameCh c.toNat&&r.all fun c=>laterCh c.toNat)
def sideB (r:Rt):Bool:=mayB r&&decide (0<r.2)&&decide (0≤r.1)
structure Bx where
 type:Int
 name:List UInt8
 w:Rt
 h:Rt
def boxB (b:Bx):Bool:=decide (0≤b.type)&&decide (b.type≤2)&&(decide (b.name=[])||nameB b.name)&&sideB b.w&&sideB b.h
def freshX:Bx:=⟨0,[],(0,1),(0,1)⟩
def bxcells (b:Bx):List Value:=[.int .i64 b.type,.string ⟨b.name.toArray⟩,.int .i64 b.w.1,.int .i64 b.w.2,.int .i64 b.h.1,.int .i64 b.h.2]
def Bx64 (b:Bx):Prop:=(-9223372036854775808≤b.type∧b.type≤9223372036854775807)∧Is64 b.w∧Is64 b.h∧b.name.length≤9223372036854775807
end Go.Proofs.YtnbkbenkhkinoaaGreatDoor
namespace Go.Proofs.YtnbkbenkhkinoaaGreatDoor
set_option linter.unusedVariables false
set_option linter.unusedSimpArgs false
open Go.RowKit Go.Maps
abbrev Dt:=DataW Unit
def ptrE:Value→Option (Dt×List MemPlace)
 | .pointer none=>some (.lit (.int .i64 0),[])
 | .pointer (some ⟨g,0,none⟩)=>some (.lit (.int .i64 ((g:Int)+1)),[])
 | _=>none
theorem ptrE_zero {v:Value} {ps:List MemPlace} (h:ptrE v=some (.lit (.int .i64 0),ps)):v=.pointer none:=by
 unfold ptrE at h;split at h
 · rfl
 · rename_i g
   simp only[Option.some.injEq,Prod.mk.injEq,DataW.lit.injEq,Lit.int.injEq,true_and]at h;omega
 · cases h
theorem ptrE_some {v:Value} {ps:List MemPlace} {g:Nat} (h:ptrE v=some (.lit (.int .i64 ((g:Int)+1)),ps)):v=.pointer (some ⟨g,0,none⟩):=by
 unfold ptrE at h;split at h
 · simp only[Option.some.injEq,Prod.mk.injEq,DataW.lit.injEq,Lit.int.injEq,true_and]at h;omega
 · rename_i g'
   simp only[Option.some.injEq,Prod.mk.injEq,DataW.lit.injEq,Lit.int.injEq,true_and]at h
   obtain rfl:g'=g:=by omega
   rfl
 · cases h
structure MapIs (D:Dt) (gs:List Nat):Prop where
 tidy:Tidy D
 size:Maps.size D=gs.length
 has:∀ id:Int,Maps.has D (.int .i64 id)=true→0≤id∧id<(gs.length:Int)
 at_:∀ (i:Nat) (g:Nat),gs[i]?=some g→∀ z,D.atKey (.int .i64 (i:Int)) z=.lit (.int .i64 ((g:Int)+1))
theorem MapIs.nil:MapIs (.map []) []:=⟨tidy_empty,rfl,fun id h=>by simp[Maps.has]at h,fun i g h=>by simp at h⟩
theorem key64 (a:Int):WideAt.IsKeyLit (.int .i64 a):=by simp[WideAt.IsKeyLit]
theorem MapIs.snoc {D:Dt} {gs:List Nat} (h:MapIs D gs) (g:Nat):MapIs (D.put (.int .i64 (gs.length:Int)) (.lit (.int .i64 ((g:Int)+1)))) (gs++[g]):=by
 have hno:Maps.has D (.int .i64 (gs.length:Int))=false:=by
  cases hh:Maps.has D (.int .i64 (gs.length:Int)) with
  | false=>rfl
  | true=>have:=h.has _ hh;omega
 refine⟨h.tidy.put (key64 _) _,?_,fun id hid=>?_,fun i g' hi z=>?_⟩
 · rw[size_put h.tidy,hno,if_neg (by simp),h.size,List.length_append,List.length_singleton]
 · rw[List.length_append,List.length_singleton]
   by_cases e:id=(gs.length:Int)
   · omega
   · rw[has_put_other (by simpa using e)]at hid;have:=h.has id hid;omega
 · by_cases e:i=gs.length
   · subst e;rw[List.getElem?_append_right (Nat.le_refl _),Nat.sub_self]at hi
     obtain rfl:g=g':=by simpa using hi
     exact atKey_put_same h.tidy.isMap (key64 _) _ _
   · have hlt:i<gs.length:=by
      have:=(List.getElem?_eq_some_iff.1 hi).1;rw[List.length_append,List.length_singleton]at this;omega
     rw[List.getElem?_append_left hlt]at hi;rw[atKey_put_other (by simp;omega)];exact h.at_ i g' hi z
theorem keyInt:Keyed Tryz.prog 3:=int_keyed Tryz.underlying3
theorem keyOf64 {a:Int} (h1:-9223372036854775808≤a) (h2:a≤9223372036854775807):keyOf Tryz.prog 3 (.int .i64 a)=some (.int .i64 a):=keyOf_int_mk Tryz.underlying3 (WalkArith.wf_i64 ⟨h1,h2⟩)
end Go.Proofs.YtnbkbenkhkinoaaGreatDoor
namespace Go.Proofs.YtnbkbenkhkinoaaGreatDoor
set_option linter.unusedVariables false
set_option linter.unusedSimpArgs false
open Go.RowKit
theorem Blk.new2 (w:World) (o:Obj) (t:TypeId) (cs:Array Value):Blk ((w.alloc o).alloc (.cells cs t)) (w.heap.size+1) t cs:=by have:=Blk.new (w.alloc o) t cs;simpa using this
def ownP (v:Value):Option Nat:=match v with
 | .pointer (some a)=>some a.block
 | _=>none
def Loose.cells (i:Nat) (d:Tmp) (t:TypeId) (cs:Array Value) (k0:Nat):Loose :=
 ⟨i,d,none,fun v w=>∃ b,v=.pointer (some ⟨b,0,none⟩)∧k0≤b∧Blk w b t cs,ownP,fun _ _ _ ⟨b,h1,h0,h2⟩ hb=>⟨b,h1,h0,h2.below hb h2.lt⟩⟩
theorem Loose.claim_i (i:Nat) (d:Tmp) (c:Value):(Loose.claim i d c).i=i:=rfl
theorem Loose.cells_i (k0:Nat) (i:Nat) (d:Tmp) (t:TypeId) (cs:Array Value):(Loose.cells i d t cs k0).i=i:=rfl
theorem Loose.claim_hush (i:Nat) (d:Tmp) (c:Value) (o:Oper):(Loose.claim i d c).hush o={ o with op:=.move (.const c),guard:=none }:=rfl
theorem Loose.cells_hush (k0:Nat) (i:Nat) (d:Tmp) (t:TypeId) (cs:Array Value) (o:Oper):(Loose.cells i d t cs k0).hush o={ o with dst:=none,op:=.move (.const undef),guard:=none }:=rfl
theorem fill_nil (V:Nat→Value) (a:Act):fill V [] a=a:=rfl
theorem fill_claim (V:Nat→Value) (i:Nat) (d:Tmp) (c:Value) (cl:List Loose) (a:Act):fill V (Loose.claim i d c::cl) a=fill V cl a:=rfl
theorem fill_cells (k0:Nat) (V:Nat→Value) (i:Nat) (d:Tmp) (t:TypeId) (cs:Array Value) (cl:List Loose) (a:Act):fill V (Loose.cells i d t cs k0::cl) a=fill V cl (a.put (some d) (V i)):=rfl
theorem laws_nil (V:Nat→Value) (w:World):lawsL V w []=True:=rfl
theorem laws_claim (V:Nat→Value) (w:World) (i:Nat) (d:Tmp) (c:Value) (cl:List Loose):lawsL V w (Loose.claim i d c::cl)=lawsL V w cl:=by
 simp[lawsL,Loose.claim]
theorem laws_cells (k0:Nat) (V:Nat→Value) (w:World) (i:Nat) (d:Tmp) (t:TypeId) (cs:Array Value) (cl:List Loose):lawsL V w (Loose.cells i d t cs k0::cl)=((∃ b,V i=.pointer (some ⟨b,0,none⟩)∧k0≤b∧Blk w b t cs)∧lawsL V w cl):=rfl
theorem dist_nil (V:Nat→Value):distL V []=True:=rfl
theorem dist1_nil (V:Nat→Value) (L:Loose):distL1 V L []=True:=rfl
theorem dist_claim (V:Nat→Value) (i:Nat) (d:Tmp) (c:Value) (cl:List Loose):distL V (Loose.claim i d c::cl)=distL V cl:=by
 have h:∀ cl:List Loose,distL1 V (Loose.claim i d c) cl:=fun cl=>distL1_of fun L' _ k k' h=>by cases h
 simp[distL,h]
theorem dist_cells (k0:Nat) (V:Nat→Value) (i:Nat) (d:Tmp) (t:TypeId) (cs:Array Value) (cl:List Loose):distL V (Loose.cells i d t cs k0::cl)=(distL1 V (Loose.cells i d t cs k0) cl∧distL V cl):=rfl
theorem dist1_claim (V:Nat→Value) (L:Loose) (i:Nat) (d:Tmp) (c:Value) (cl:List Loose):distL1 V L (Loose.claim i d c::cl)=distL1 V L cl:=by
 have h:∀ k k',L.own (V L.i)=some k→(Loose.claim i d c).own (V i)=some k'→k≠k':=fun k k' _ h=>by cases h
 exact propext ⟨fun h2=>h2.2,fun h2=>⟨h,h2⟩⟩
theorem dist1_cells (k0:Nat) (j0:Nat) (V:Nat→Value) (i j:Nat) (d e:Tmp) (t u:TypeId) (cs ds:Array Value) (cl:List Loose):distL1 V (Loose.cells i d t cs k0) (Loose.cells j e u ds j0::cl)=((∀ k k',ownP (V i)=some k→ownP (V j)=some k'→k≠k')∧distL1 V (Loose.cells i d t cs k0) cl):=rfl
theorem obs_nil (P:Program) (l:List Oper) (V:Nat→Value) (w':World) (F:Act) (all:List Loose):obsL P l V w' F all []=True:=rfl
theorem obs_cons (P:Program) (l:List Oper) (V:Nat→Value) (w':World) (F:Act) (all:List Loose) (L:Loose) (cl:List Loose) :
 obsL P l V w' F all (L::cl)=((match l[L.i]? with|some o=>waitsL V w' o all→(match o.guard with|none=>wpList P l.toArray (PostL L F w') [o] F w' | some _=>Region.wanted o (yielded l.toArray F.tmps)=true∧wpList P l.toArray (PostL L F w') [o] F w') | none=>True)∧obsL P l V w' F all cl):=rfl
def ownS (v:Value):Option Nat:=match v with
 | .slice (some a) _ _=>some a.block
 | _=>none
def Loose.rowL (i:Nat) (d:Tmp) (t:TypeId) (k:Nat) (cs:Array Value) (k0:Nat):Loose :=
 ⟨i,d,none,fun v w=>∃ b,v=.slice (some ⟨b,0,none⟩) k k∧k0≤b∧Blk w b t cs,ownS,fun _ _ _ ⟨b,h1,h0,h2⟩ hb=>⟨b,h1,h0,h2.below hb h2.lt⟩⟩
theorem Loose.rowL_i (k0:Nat) (i:Nat) (d:Tmp) (t:TypeId) (k:Nat) (cs:Array Value):(Loose.rowL i d t k cs k0).i=i:=rfl
theorem Loose.rowL_hush (k0:Nat) (i:Nat) (d:Tmp) (t:TypeId) (k:Nat) (cs:Array Value) (o:Oper):(Loose.rowL i d t k cs k0).hush o={ o with dst:=none,op:=.move (.const undef),guard:=none }:=rfl
theorem fill_rowL (k0:Nat) (V:Nat→Value) (i:Nat) (d:Tmp) (t:TypeId) (k:Nat) (cs:Array Value) (cl:List Loose) (a:Act):fill V (Loose.rowL i d t k cs k0::cl) a=fill V cl (a.put (some d) (V i)):=rfl
theorem laws_rowL (k0:Nat) (V:Nat→Value) (w:World) (i:Nat) (d:Tmp) (t:TypeId) (k:Nat) (cs:Array Value) (cl:List Loose):lawsL V w (Loose.rowL i d t k cs k0::cl)=((∃ b,V i=.slice (some ⟨b,0,none⟩) k k∧k0≤b∧Blk w b t cs)∧lawsL V w cl):=rfl
theorem dist_rowL (k0:Nat) (V:Nat→Value) (i:Nat) (d:Tmp) (t:TypeId) (k:Nat) (cs:Array Value) (cl:List Loose):distL V (Loose.rowL i d t k cs k0::cl)=(distL1 V (Loose.rowL i d t k cs k0) cl∧distL V cl):=rfl
theorem dist1_rowL (k0:Nat) (j0:Nat) (V:Nat→Value) (i j:Nat) (d e:Tmp) (t u:TypeId) (k l:Nat) (cs ds:Array Value) (cl:List Loose):distL1 V (Loose.rowL i d t k cs k0) (Loose.rowL j e u l ds j0::cl)=((∀ k k',ownS (V i)=some k→ownS (V j)=some k'→k≠k')∧distL1 V (Loose.rowL i d t k cs k0) cl):=rfl
theorem dist1_cells_rowL (k0:Nat) (j0:Nat) (V:Nat→Value) (i j:Nat) (d e:Tmp) (t u:TypeId) (l:Nat) (cs ds:Array Value) (cl:List Loose):distL1 V (Loose.cells i d t cs k0) (Loose.rowL j e u l ds j0::cl)=((∀ k k',ownP (V i)=some k→ownS (V j)=some k'→k≠k')∧distL1 V (Loose.cells i d t cs k0) cl):=rfl
theorem dist1_rowL_cells (k0:Nat) (j0:Nat) (V:Nat→Value) (i j:Nat) (d e:Tmp) (t u:TypeId) (k:Nat) (cs ds:Array Value) (cl:List Loose):distL1 V (Loose.rowL i d t k cs k0) (Loose.cells j e u ds j0::cl)=((∀ k k',ownS (V i)=some k→ownP (V j)=some k'→k≠k')∧distL1 V (Loose.rowL i d t k cs k0) cl):=rfl
theorem post_rowL {k0:Nat} {i:Nat} {d:Tmp} {t:TypeId} {k:Nat} {cs:Array Value} {F:Act} {w:World} {a:Act} (h:a=F.put (some d) (.slice (some ⟨w.heap.size,0,none⟩) k k)) (hk:k0≤w.heap.size):PostL (Loose.rowL i d t k cs k0) F w .normal a (w.alloc (.cells cs t)) :=
 ⟨rfl,_,h,below_box _ _,⟨_,rfl,hk,Blk.new _ _ _⟩,fun k2 hk=>by
   simp only[Loose.rowL,ownS,Option.some.injEq]at hk;subst hk
   simp,fun c hc=>by cases hc⟩
theorem post_cells {k0:Nat} {i:Nat} {d:Tmp} {t:TypeId} {cs:Array Value} {F:Act} {w:World} {a:Act} (h:a=F.put (some d) (.pointer (some ⟨w.heap.size,0,none⟩))) (hk:k0≤w.heap.size):PostL (Loose.cells i d t cs k0) F w .normal a (w.alloc (.cells cs t)) :=
 ⟨rfl,_,h,below_box _ _,⟨_,rfl,hk,Blk.new _ _ _⟩,fun k hk=>by
   simp only[Loose.cells,ownP,Option.some.injEq]at hk;subst hk
   simp,fun c hc=>by cases hc⟩
theorem post_claim {i:Nat} {d:Tmp} {c:Value} {F:Act} {w w':World} {a:Act} (h:a=F.put (some d) c) (hb:Below w.heap.size w w'):PostL (Loose.claim i d c) F w .normal a w' :=
 ⟨rfl,_,h,hb,trivial,fun k hk=>(by cases hk),fun c2 hc=>(by cases hc;rfl)⟩
def Loose.val (i:Nat) (d:Tmp) (φ:Value→Prop):Loose:=⟨i,d,none,fun v _=>φ v,fun _=>none,fun _ _ _ h _=>h⟩
theorem Loose.val_i (i:Nat) (d:Tmp) (φ:Value→Prop):(Loose.val i d φ).i=i:=rfl
theorem Loose.val_hush (i:Nat) (d:Tmp) (φ:Value→Prop) (o:Oper):(Loose.val i d φ).hush o={ o with dst:=none,op:=.move (.const undef),guard:=none }:=rfl
theorem fill_val (V:Nat→Value) (i:Nat) (d:Tmp) (φ:Value→Prop) (cl:List Loose) (a:Act):fill V (Loose.val i d φ::cl) a=fill V cl (a.put (some d) (V i)):=rfl
theorem laws_val (V:Nat→Value) (w:World) (i:Nat) (d:Tmp) (φ:Value→Prop) (cl:List Loose):lawsL V w (Loose.val i d φ::cl)=(φ (V i)∧lawsL V w cl):=rfl
theorem dist_val (V:Nat→Value) (i:Nat) (d:Tmp) (φ:Value→Prop) (cl:List Loose):distL V (Loose.val i d φ::cl)=distL V cl:=by
 have h:∀ cl:List Loose,distL1 V (Loose.val i d φ) cl:=fun cl=>distL1_of fun L' _ k k' h=>by cases h
 simp[distL,h]
theorem dist1_val (V:Nat→Value) (L:Loose) (i:Nat) (d:Tmp) (φ:Value→Prop) (cl:List Loose):distL1 V L (Loose.val i d φ::cl)=distL1 V L cl:=by
 have h:∀ k k',L.own (V L.i)=some k→(Loose.val i d φ).own (V i)=some k'→k≠k':=fun k k' _ h=>by cases h
 exact propext ⟨fun h2=>h2.2,fun h2=>⟨h,h2⟩⟩
theorem post_val {i:Nat} {d:Tmp} {φ:Value→Prop} {v:Value} {F:Act} {w w':World} {a:Act} (h:a=F.put (some d) v) (hv:φ v) (hb:Below w.heap.size w w'):PostL (Loose.val i d φ) F w .normal a w' :=
 ⟨rfl,_,h,hb,hv,fun k hk=>(by cases hk),fun c2 hc=>(by cases hc)⟩
def Loose.rowS (i:Nat) (d:Tmp) (t:TypeId) (k:Nat) (φ:Array Value→Prop) (k0:Nat):Loose :=
 ⟨i,d,none,fun v w=>∃ b cs,v=.slice (some ⟨b,0,none⟩) k k∧k0≤b∧φ cs∧Blk w b t cs,ownS,fun _ _ _ ⟨b,cs,h1,h0,hc,h2⟩ hb=>⟨b,cs,h1,h0,hc,h2.below hb h2.lt⟩⟩
theorem Loose.rowS_i (i:Nat) (d:Tmp) (t:TypeId) (k:Nat) (φ:Array Value→Prop) (k0:Nat):(Loose.rowS i d t k φ k0).i=i:=rfl
theorem Loose.rowS_hush (i:Nat) (d:Tmp) (t:TypeId) (k:Nat) (φ:Array Value→Prop) (k0:Nat) (o:Oper):(Loose.rowS i d t k φ k0).hush o={ o with dst:=none,op:=.move (.const undef),guard:=none }:=rfl
theorem fill_rowS (V:Nat→Value) (i:Nat) (d:Tmp) (t:TypeId) (k:Nat) (φ:Array Value→Prop) (k0:Nat) (cl:List Loose) (a:Act):fill V (Loose.rowS i d t k φ k0::cl) a=fill V cl (a.put (some d) (V i)):=rfl
theorem laws_rowS (V:Nat→Value) (w:World) (i:Nat) (d:Tmp) (t:TypeId) (k:Nat) (φ:Array Value→Prop) (k0:Nat) (cl:List Loose):lawsL V w (Loose.rowS i d t k φ k0::cl)=((∃ b cs,V i=.slice (some ⟨b,0,none⟩) k k∧k0≤b∧φ cs∧Blk w b t cs)∧lawsL V w cl):=rfl
theorem dist_rowS (V:Nat→Value) (i:Nat) (d:Tmp) (t:TypeId) (k:Nat) (φ:Array Value→Prop) (k0:Nat) (cl:List Loose):distL V (Loose.rowS i d t k φ k0::cl)=(distL1 V (Loose.rowS i d t k φ k0) cl∧distL V cl):=rfl
theorem post_rowS {k0:Nat} {i:Nat} {d:Tmp} {t:TypeId} {k:Nat} {φ:Array Value→Prop} {cs:Array Value} {F:Act} {w:World} {a:Act} (h:a=F.put (some d) (.slice (some ⟨w.heap.size,0,none⟩) k k)) (hk:k0≤w.heap.size) (hc:φ cs):PostL (Loose.rowS i d t k φ k0) F w .normal a (w.alloc (.cells cs t)) :=
 ⟨rfl,_,h,below_box _ _,⟨_,_,rfl,hk,hc,Blk.new _ _ _⟩,fun k2 hk=>by
   simp only[Loose.rowS,ownS,Option.some.injEq]at hk;subst hk
   simp,fun c hc=>by cases hc⟩
theorem Blk.seven {w:World} {g:Nat} {t:TypeId} {a0 a1 a2 a3 a4 a5 a6:Value} (h:Blk w g t #[a0,a1,a2,a3,a4,a5,a6]):w.cell? ⟨g,0,none⟩=some a0∧w.frozen? ⟨g,0,none⟩=false∧w.cell? ⟨g,1,none⟩=some a1∧w.frozen? ⟨g,1,none⟩=false∧w.cell? ⟨g,2,none⟩=some a2∧w.frozen? ⟨g,2,none⟩=false∧w.cell? ⟨g,3,none⟩=some a3∧w.frozen? ⟨g,3,none⟩=false∧w.cell? ⟨g,4,none⟩=some a4∧w.frozen? ⟨g,4,none⟩=false∧w.cell? ⟨g,5,none⟩=some a5∧w.frozen? ⟨g,5,none⟩=false∧w.cell? ⟨g,6,none⟩=some a6∧w.frozen? ⟨g,6,none⟩=false∧g<w.heap.size :=
 ⟨h.cell 0,h.frozen 0,h.cell 1,h.frozen 1,h.cell 2,h.frozen 2,h.cell 3,h.frozen 3,h.cell 4,h.frozen 4,h.cell 5,h.frozen 5,h.cell 6,h.frozen 6,h.lt⟩
theorem Blk.many14 {w:World} {g:Nat} {t:TypeId} {a0 a1 a2 a3 a4 a5 a6 a7 a8 a9 a10 a11 a12 a13:Value} (h:Blk w g t #[a0,a1,a2,a3,a4,a5,a6,a7,a8,a9,a10,a11,a12,a13]):w.cell? ⟨g,0,none⟩=some a0∧w.frozen? ⟨g,0,none⟩=false∧w.cell? ⟨g,1,none⟩=some a1∧w.frozen? ⟨g,1,none⟩=false∧w.cell? ⟨g,2,none⟩=some a2∧w.frozen? ⟨g,2,none⟩=false∧w.cell? ⟨g,3,none⟩=some a3∧w.frozen? ⟨g,3,none⟩=false∧w.cell? ⟨g,4,none⟩=some a4∧w.frozen? ⟨g,4,none⟩=false∧w.cell? ⟨g,5,none⟩=some a5∧w.frozen? ⟨g,5,none⟩=false∧w.cell? ⟨g,6,none⟩=some a6∧w.frozen? ⟨g,6,none⟩=false∧w.cell? ⟨g,7,none⟩=some a7∧w.frozen? ⟨g,7,none⟩=false∧w.cell? ⟨g,8,none⟩=some a8∧w.frozen? ⟨g,8,none⟩=false∧w.cell? ⟨g,9,none⟩=some a9∧w.frozen? ⟨g,9,none⟩=false∧w.cell? ⟨g,10,none⟩=some a10∧w.frozen? ⟨g,10,none⟩=false∧w.cell? ⟨g,11,none⟩=some a11∧w.frozen? ⟨g,11,none⟩=false∧w.cell? ⟨g,12,none⟩=some a12∧w.frozen? ⟨g,12,none⟩=false∧w.cell? ⟨g,13,none⟩=some a13∧w.frozen? ⟨g,13,none⟩=false∧g<w.heap.size :=
 ⟨h.cell 0,h.frozen 0,h.cell 1,h.frozen 1,h.cell 2,h.frozen 2,h.cell 3,h.frozen 3,h.cell 4,h.frozen 4,h.cell 5,h.frozen 5,h.cell 6,h.frozen 6,h.cell 7,h.frozen 7,h.cell 8,h.frozen 8,h.cell 9,h.frozen 9,h.cell 10,h.frozen 10,h.cell 11,h.frozen 11,h.cell 12,h.frozen 12,h.cell 13,h.frozen 13,h.lt⟩
theorem row7 {w:World} {b o:Nat} {a0 a1 a2 a3 a4 a5 a6:Value} (h:∀ (j:Nat) (v:Value),([a0,a1,a2,a3,a4,a5,a6]:List Value)[j]?=some v→w.cell? ⟨b,o+j,none⟩=some v):w.cell? ⟨b,o,none⟩=some a0∧w.cell? ⟨b,o+1,none⟩=some a1∧w.cell? ⟨b,o+2,none⟩=some a2∧w.cell? ⟨b,o+3,none⟩=some a3∧w.cell? ⟨b,o+4,none⟩=some a4∧w.cell? ⟨b,o+5,none⟩=some a5∧w.cell? ⟨b,o+6,none⟩=some a6 :=
 ⟨h 0 _ rfl,h 1 _ rfl,h 2 _ rfl,h 3 _ rfl,h 4 _ rfl,h 5 _ rfl,h 6 _ rfl⟩
theorem row14 {w:World} {b o:Nat} {a0 a1 a2 a3 a4 a5 a6 a7 a8 a9 a10 a11 a12 a13:Value} (h:∀ (j:Nat) (v:Value),([a0,a1,a2,a3,a4,a5,a6,a7,a8,a9,a10,a11,a12,a13]:List Value)[j]?=some v→w.cell? ⟨b,o+j,none⟩=some v):w.cell? ⟨b,o,none⟩=some a0∧w.cell? ⟨b,o+1,none⟩=some a1∧w.cell? ⟨b,o+2,none⟩=some a2∧w.cell? ⟨b,o+3,none⟩=some a3∧w.cell? ⟨b,o+4,none⟩=some a4∧w.cell? ⟨b,o+5,none⟩=some a5∧w.cell? ⟨b,o+6,none⟩=some a6∧w.cell? ⟨b,o+7,none⟩=some a7∧w.cell? ⟨b,o+8,none⟩=some a8∧w.cell? ⟨b,o+9,none⟩=some a9∧w.cell? ⟨b,o+10,none⟩=some a10∧w.cell? ⟨b,o+11,none⟩=some a11∧w.cell? ⟨b,o+12,none⟩=some a12∧w.cell? ⟨b,o+13,none⟩=some a13 :=
 ⟨h 0 _ rfl,h 1 _ rfl,h 2 _ rfl,h 3 _ rfl,h 4 _ rfl,h 5 _ rfl,h 6 _ rfl,h 7 _ rfl,h 8 _ rfl,h 9 _ rfl,h 10 _ rfl,h 11 _ rfl,h 12 _ rfl,h 13 _ rfl⟩
end Go.Proofs.YtnbkbenkhkinoaaGreatDoor
