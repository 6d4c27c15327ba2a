/- Of my texts: Fold, RatF, Rats, FoldA. -/
import Derived.Test.YtnbkbenkhkinoaaGreatDoorM03
import Derived.Test.YtnbkbenkhkinoaaGreatDoorM04
import Derived.Test.YtnbkbenkhkinoaaGreatDoorM13
import Derived.Shelf.Spec.BitsCarry
import Derived.Lib.Mul64
namespace Go.Proofs.YtnbkbenkhkinoaaGreatDoor
set_option linter.unusedVariables false
set_option linter.unusedSimpArgs false
open Go.RowKit
def opG (op:Rt→Rt→Rt):Rt→List Rt→Rt
 | out,[]=>out
 | out,r::l=>if sureB out&&sureB r then opG op (op out r) l else (0,0)
def cleanR (x:Rt):Rt:=if mayB x then x else (0,0)
def op2 (op:Rt→Rt→Rt) (a b:Rt):Rt:=if sureB a&&sureB b then op a b else (0,0)
theorem is64_over:Is64 (0,0):=⟨by decide,by decide,by decide,by decide⟩
theorem is64_cleanR {x:Rt} (h:Is64 x):Is64 (cleanR x):=by unfold cleanR;split;exact h;exact is64_over
structure Cm (w wr:World) (g g' tr t:Nat) (n d p q:Int) (xh xl yh yl:Nat):Prop where
 below:Below w.heap.size w wr
 a:Blk wr w.heap.size tr #[.int .i64 n,.int .i64 d]
 b:Blk wr (w.heap.size+1) tr #[.int .i64 p,.int .i64 q]
 x:Blk wr g t #[.int .u64 xh,.int .u64 xl]
 y:Blk wr g' t #[.int .u64 yh,.int .u64 yl]
theorem Cm.set {w wr:World} {g g' tr t:Nat} {n d p q:Int} {xh xl yh yl a1 a2 a3 a4:Nat} (h:Cm w wr g g' tr t n d p q a1 a2 a3 a4) (k:w.heap.size+2≤g) (k':w.heap.size+2≤g') (hne:g≠g') :
  Cm w ((((wr.setCell ⟨g,0,none⟩ (.int .u64 xh)).setCell ⟨g,1,none⟩ (.int .u64 xl)).setCell ⟨g',0,none⟩ (.int .u64 yh)).setCell ⟨g',1,none⟩ (.int .u64 yl)) g g' tr t n d p q xh xl yh yl :=
 ⟨(((h.below.setCell (by simp;omega) _).setCell (by simp;omega) _).setCell (by simp;omega) _).setCell (by simp;omega) _,(h.a.far2 (by omega) _ _ _ _).far2 (by omega) _ _ _ _,(h.b.far2 (by omega) _ _ _ _).far2 (by omega) _ _ _ _,
  (h.x.put2 _ _).far2 hne _ _ _ _,(h.y.far2 (Ne.symm hne) _ _ _ _).put2 _ _⟩
theorem Cm.grow {w wr:World} {g g' tr t:Nat} {n d p q:Int} {xh xl yh yl:Nat} (h:Cm w wr g g' tr t n d p q xh xl yh yl) (m:Ext wr):Cm w (grow wr m) g g' tr t n d p q xh xl yh yl:=⟨below_grow h.below m,h.a.grow m,h.b.grow m,h.x.grow m,h.y.grow m⟩
structure Rats (w:World) (oa:Option Addr) (len cap:Nat) (b o:Nat) (l:List Rt):Prop where
 hlen:len=l.length
 hcap:len≤cap
 small:cap≤maxLen
 at_:0<len→oa=some ⟨b,o,none⟩
 lt:0<len→b<w.heap.size
 c0:∀ (i:Nat) (r:Rt),l[i]?=some r→w.cell? ⟨b,o+i*2,none⟩=some (.int .i64 r.1)
 c1:∀ (i:Nat) (r:Rt),l[i]?=some r→w.cell? ⟨b,o+i*2+1,none⟩=some (.int .i64 r.2)
 is64:∀ (i:Nat) (r:Rt),l[i]?=some r→Is64 r
theorem Rats.below {w w':World} {oa:Option Addr} {len cap b o:Nat} {l:List Rt} (h:Rats w oa len cap b o l) (hb:Below w.heap.size w w'):Rats w' oa len cap b o l:=by
 have key:∀ (i:Nat) (r:Rt),l[i]?=some r→0<len:=fun i r hr=>by
  have:=(List.getElem?_eq_some_iff.1 hr).1;rw[h.hlen];omega
 refine⟨h.hlen,h.hcap,h.small,h.at_,fun hl=>Nat.lt_of_lt_of_le (h.lt hl) hb.size,fun i r hr=>?_,fun i r hr=>?_,h.is64⟩
 · rw[hb.cell (h.lt (key i r hr))];exact h.c0 i r hr
 · rw[hb.cell (h.lt (key i r hr))];exact h.c1 i r hr
def firstG (sign:Int):Bool→Rt→List Rt→Rt
 | _,out,[]=>out
 | b,out,r::l=>if sureB r then firstG sign false (if b||cmpR r out==sign then r else out) l else (0,0)
structure Gf (w wr:World) (tr:TypeId) (sign:Int) (l:List Rt) (i:Nat) (out:Rt):Prop where
 below:Below w.heap.size w wr
 res:Blk wr w.heap.size tr #[.int .i64 0,.int .i64 0]
 best:Blk wr (w.heap.size+1) tr #[.int .i64 out.1,.int .i64 out.2]
 i64:Is64 out
 le:i≤l.length
 law:firstG sign (i==0) out (l.drop i)=firstG sign true (0,0) l
section
variable {w wr:World} {tr:TypeId} {sign:Int} {l:List Rt} {i:Nat} {out:Rt}
theorem Gf.alloc (h:Gf w wr tr sign l i out) (o:Obj):Gf w (wr.alloc o) tr sign l i out:=⟨h.below.alloc h.below.size _,h.res.old _,h.best.old _,h.i64,h.le,h.law⟩
theorem Gf.grow (h:Gf w wr tr sign l i out) (m:Ext wr):Gf w (grow wr m) tr sign l i out:=⟨below_grow h.below m,h.res.grow m,h.best.grow m,h.i64,h.le,h.law⟩
theorem Gf.set (h:Gf w wr tr sign l i out) {r:Rt} (h64:Is64 r) (hi:i<l.length) (hl:firstG sign false r (l.drop (i+1))=firstG sign true (0,0) l) :
  Gf w ((wr.setCell ⟨w.heap.size+1,0,none⟩ (.int .i64 r.1)).setCell ⟨w.heap.size+1,1,none⟩ (.int .i64 r.2)) tr sign l (i+1) r :=
 ⟨(h.below.setCell (by first|omega | (simp;done) | (simp;omega)) _).setCell (by first|omega | (simp;done) | (simp;omega)) _,h.res.far2 (by first|omega | (simp;done) | (simp;omega)) _ _ _ _,h.best.put2 _ _,h64,hi,hl⟩
theorem Gf.next (h:Gf w wr tr sign l i out) (hi:i<l.length) (hl:firstG sign false out (l.drop (i+1))=firstG sign true (0,0) l):Gf w wr tr sign l (i+1) out:=⟨h.below,h.res,h.best,h.i64,hi,hl⟩
end
structure Gj (w wr:World) (tr:TypeId) (op:Rt→Rt→Rt) (l:List Rt) (x:Rt) (i:Nat) (out:Rt):Prop where
 below:Below w.heap.size w wr
 res:Blk wr (w.heap.size+1) tr #[.int .i64 0,.int .i64 0]
 best:Blk wr (w.heap.size+1+1) tr #[.int .i64 out.1,.int .i64 out.2]
 i64:Is64 out
 le:i≤l.length
 law:opG op out (l.drop i)=opG op x l
section
variable {w wr:World} {tr:TypeId} {op:Rt→Rt→Rt} {l:List Rt} {x:Rt} {i:Nat} {out:Rt}
theorem Gj.alloc (h:Gj w wr tr op l x i out) (o:Obj):Gj w (wr.alloc o) tr op l x i out:=⟨h.below.alloc h.below.size _,h.res.old _,h.best.old _,h.i64,h.le,h.law⟩
theorem Gj.grow (h:Gj w wr tr op l x i out) (m:Ext wr):Gj w (grow wr m) tr op l x i out:=⟨below_grow h.below m,h.res.grow m,h.best.grow m,h.i64,h.le,h.law⟩
theorem Gj.set (h:Gj w wr tr op l x i out) {r:Rt} (h64:Is64 r) (hi:i<l.length) (hl:opG op r (l.drop (i+1))=opG op x l) :
  Gj w ((wr.setCell ⟨w.heap.size+1+1,0,none⟩ (.int .i64 r.1)).setCell ⟨w.heap.size+1+1,1,none⟩ (.int .i64 r.2)) tr op l x (i+1) r :=
 ⟨(h.below.setCell (by first|omega | (simp;done) | (simp;omega)) _).setCell (by first|omega | (simp;done) | (simp;omega)) _,h.res.far2 (by first|omega | (simp;done) | (simp;omega)) _ _ _ _,h.best.put2 _ _,h64,hi,hl⟩
end
theorem Rats.tail {w:World} {oa:Option Addr} {cap b o:Nat} {x:Rt} {l:List Rt} (h:Rats w oa (x::l).length cap b o (x::l)):Rats w (some ⟨b,o+2,none⟩) l.length (cap-1) b (o+2) l:=by
 have h1:=h.hcap;have h2:=h.small;simp only[List.length_cons]at h1
 have e:∀ i,o+2+i*2=o+(i+1)*2:=fun i=>by omega
 refine⟨rfl,by omega,by omega,fun _=>rfl,fun _=>h.lt (by simp),fun i r hr=>?_,fun i r hr=>?_,fun i r hr=>?_⟩
 · rw[e];exact h.c0 (i+1) r (by simpa using hr)
 · rw[e];exact h.c1 (i+1) r (by simpa using hr)
 · exact h.is64 (i+1) r (by simpa using hr)
end Go.Proofs.YtnbkbenkhkinoaaGreatDoor
