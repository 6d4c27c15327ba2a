/- Of my texts: TokB, TokC, DmQ, DmA, DmD, DmR, TokD, TokE, DtP, DtQ, DtS, TxA. -/
import Derived.Test.YtnbkbenkhkinoaaGreatDoorM04
import Derived.Test.YtnbkbenkhkinoaaGreatDoorM07
import Derived.OwnWalk
import Derived.Deep.AppendLies
import Derived.Laws.BitsAllLaws
import Derived.Deep.LoopGhost
import Derived.Deep.CutBlock
import Derived.Deep.DeepCutAuto
import Derived.Laws.BytesArg
import Derived.Laws.IdiomStrings
namespace Go.Proofs.YtnbkbenkhkinoaaGreatDoor
set_option linter.unusedVariables false
set_option linter.unusedSimpArgs false
open Go.RowKit
structure Sl (w:World) (oa:Option Addr) (n cap b o sz:Nat) (vs:List Value):Prop where
 len:vs.length=n*sz
 le:n≤cap
 max:cap≤maxLen
 lies:0<n→oa=some ⟨b,o,none⟩∧b<w.heap.size
 cell:∀ (j:Nat) (v:Value),vs[j]?=some v→w.cell? ⟨b,o+j,none⟩=some v
theorem Sl.pos {w:World} {oa:Option Addr} {n cap b o sz:Nat} {vs:List Value} (h:Sl w oa n cap b o sz vs) {j:Nat} {v:Value} (hv:vs[j]?=some v):0<n:=by
 have:=(List.getElem?_eq_some_iff.1 hv).1;rw[h.len]at this
 rcases Nat.eq_zero_or_pos n with rfl|h
 · omega
 · exact h
theorem Sl.grown {w w':World} {oa:Option Addr} {n cap b o sz:Nat} {vs:List Value} {row:Option Nat} (h:Sl w oa n cap b o sz vs) (hg:w.grownBy w' row) (hne:0<n→some b≠row):Sl w' oa n cap b o sz vs :=
 ⟨h.len,h.le,h.max,fun hp=>⟨(h.lies hp).1,Nat.lt_of_lt_of_le (h.lies hp).2 hg.size⟩,fun j v hv=>by
   have hp:=h.pos hv;rw[← h.cell j v hv];simp only[World.cell?]
   rw[hg.block b (h.lies hp).2 (hne hp)]⟩
theorem Sl.below {w w':World} {oa:Option Addr} {n cap b o sz:Nat} {vs:List Value} (h:Sl w oa n cap b o sz vs) (hb:Below w.heap.size w w'):Sl w' oa n cap b o sz vs :=
 ⟨h.len,h.le,h.max,fun hp=>⟨(h.lies hp).1,Nat.lt_of_lt_of_le (h.lies hp).2 hb.size⟩,fun j v hv=>(hb.cell (p:=⟨b,o+j,none⟩) (h.lies (h.pos hv)).2).trans (h.cell j v hv)⟩
theorem Sl.drop {w:World} {oa:Option Addr} {n cap b o:Nat} {vs:List Value} (h:Sl w oa n cap b o 1 vs) {k:Nat} (hk:k≤n):Sl w (some ⟨b,o+k,none⟩) (n-k) (cap-k) b (o+k) 1 (vs.drop k) :=
 ⟨by have:=h.len;rw[List.length_drop];omega,by have:=h.le;omega,by have:=h.max;omega,fun hp=>⟨rfl,(h.lies (by omega)).2⟩,fun j v hv=>by
   rw[List.getElem?_drop]at hv;rw[show o+k+j=o+(k+j) by omega]
   exact h.cell (k+j) v hv⟩
theorem sl_of_own {w:World} {base:Nat} {e:TypeId} {sz:Nat} {v:Value} {n:Nat} {vs:List Value} (h:w.ownsRow base e sz v n vs) :
  ∃ (oa:Option Addr) (cap g:Nat),v=.slice oa n cap∧Sl w oa n cap g 0 sz vs∧(0<n→base≤g):=by
 rcases h.2 with ⟨rfl,h0⟩ | ⟨g,cap,cur,rfl,hg,hc,h1,h2,h3,h4⟩
 · subst h0;refine⟨none,0,0,rfl,⟨h.1,Nat.le_refl _,Nat.zero_le _,fun hp=>absurd hp (Nat.lt_irrefl _),fun j v hv=>?_⟩,fun hp=>absurd hp (Nat.lt_irrefl _)⟩;have h1:=h.1;have:=(List.getElem?_eq_some_iff.1 hv).1;omega
 · refine⟨some ⟨g,0,none⟩,cap,g,rfl,⟨h.1,h1,h2,fun _=>⟨rfl,(Array.getElem?_eq_some_iff.1 hc).1⟩,fun j u hu=>?_⟩,fun _=>hg⟩;rw[Nat.zero_add,cell_of_row w g j cur e (0,0) hc];have hj:=(List.getElem?_eq_some_iff.1 hu).1;rw[← h4,List.getElem?_take]at hu;split at hu
   · simpa using hu
   · cases hu
def bytesV (l:List UInt8):List Value:=l.map fun c=>.int .u8 (c.toNat:Int)
def runesV (l:List Int):List Value:=l.map (.int .i32)
theorem bytesV_at {l:List UInt8} {i:Nat} (h:i<l.length):(bytesV l)[i]?=some (.int .u8 ((l[i]).toNat:Int)):=by simp[bytesV,List.getElem?_eq_getElem h]
theorem runesV_at {l:List Int} {i:Nat} (h:i<l.length):(runesV l)[i]?=some (.int .i32 l[i]):=by simp[runesV,List.getElem?_eq_getElem h]
structure El (t e:TypeId) (z:Value) (size bytes:Nat):Prop where
 under:Tryz.prog.underlying t=some (.slice e)
 info:(Tryz.prog.info? e).map (fun i=>(i.zero,i.size,i.bytes))=some (some z,size,bytes)
 zs:z.cells.size=size
 pos:0<size
structure Rw (w0 w:World) (e:TypeId) (size:Nat) (v:Value) (n:Nat) (xs:List Value):Prop where
 below:Below w0.heap.size w0 w
 own:w.ownsRow w0.heap.size e size v n xs
theorem grownBy_of_below {w w':World} (h:Below w.heap.size w w') (row:Option Nat):w.grownBy w' row:=⟨h.os,h.tape,h.output,h.size,fun k hk _=>h.block k hk⟩
theorem below_of_grownBy {w w':World} (h:w.grownBy w' none):Below w.heap.size w w':=⟨h.os,h.tape,h.output,h.size,fun k hk=>h.block k hk (by simp)⟩
theorem grownBy_trans {w w1 w2:World} {row:Option Nat} (h1:w.grownBy w1 row) (h2:w1.grownBy w2 row):w.grownBy w2 row :=
 ⟨h2.os.trans h1.os,h2.tape.trans h1.tape,h2.output.trans h1.output,Nat.le_trans h1.size h2.size,fun k hk hne=>(h2.block k (Nat.lt_of_lt_of_le hk h1.size) hne).trans (h1.block k hk hne)⟩
theorem grownBy_far {w w1 w2:World} {row row2:Option Nat} (h1:w.grownBy w1 row) (h2:w1.grownBy w2 row2) (hr:∀ k,row2=some k→w.heap.size≤k):w.grownBy w2 row :=
 ⟨h2.os.trans h1.os,h2.tape.trans h1.tape,h2.output.trans h1.output,Nat.le_trans h1.size h2.size,fun k hk hne=>(h2.block k (Nat.lt_of_lt_of_le hk h1.size) (fun e=>by have:=hr k e.symm;omega)).trans (h1.block k hk hne)⟩
theorem below_far {w0 w1 w2:World} {row:Option Nat} (h1:Below w0.heap.size w0 w1) (h2:w1.grownBy w2 row) (hr:∀ k,row=some k→w0.heap.size≤k):Below w0.heap.size w0 w2 :=
 ⟨h2.os.trans h1.os,h2.tape.trans h1.tape,h2.output.trans h1.output,Nat.le_trans h1.size h2.size,fun k hk=>(h2.block k (Nat.lt_of_lt_of_le hk h1.size) (fun e=>by have:=hr k e.symm;omega)).trans (h1.block k hk)⟩
section
variable {w0 w w':World} {e:TypeId} {size:Nat} {v:Value} {n:Nat} {xs:List Value}
theorem Rw.start (w0:World) (e:TypeId) (size:Nat):Rw w0 w0 e size (.slice none 0 0) 0 []:=⟨Below.refl _ _,World.ownsRow_nil _ _ _ _⟩
theorem Rw.first (h:Below w0.heap.size w0 w):Rw w0 w e size (.slice none 0 0) 0 []:=⟨h,World.ownsRow_nil _ _ _ _⟩
theorem Rw.next (h:Rw w0 w e size v n xs) (hb:Below w.heap.size w w'):Rw w0 w' e size v n xs :=
 ⟨h.below.trans (hb.mono h.below.size),h.own.kept (grownBy_of_below hb none) (by cases v.ownBlock<;>simp)⟩
theorem Rw.sl (h:Rw w0 w e size v n xs):∃ (oa:Option Addr) (cap g:Nat),v=.slice oa n cap∧Sl w oa n cap g 0 size xs∧(0<n→w0.heap.size≤g):=sl_of_own h.own
theorem Rw.base (h:Rw w w' e size v n xs) (hb:Below w0.heap.size w0 w):Rw w0 w' e size v n xs :=
 ⟨hb.trans (h.below.mono hb.size),h.own.1,by
   rcases h.own.2 with h0 | ⟨g,cap,cur,hv,hg,rest⟩
   · exact .inl h0
   · exact .inr ⟨g,cap,cur,hv,Nat.le_trans hb.size hg,rest⟩⟩
theorem Rw.row (h:Rw w0 w e size v n xs):∀ k,v.ownBlock=some k→w0.heap.size≤k:=fun k hk=>(h.own.lt k hk).1
end
theorem wpList_push {ops:Array Oper} {rest:List Oper} {o:Oper} {a:Act} {Q:Exit→Act→World→Prop} {w0 w:World} {t e:TypeId} {z:Value} {size bytes:Nat} (E:El t e z size bytes)
  (hgd:o.guard=none) (s x:Operand) (ho:o.op=.call { callee:=.builtin .append,args:=#[s,x],argTypes:=#[t,t] }) {v:Value} {n:Nat} {xs:List Value} (hs:a.eval s=v)
  (hR:Rw w0 w e size v n xs) (m c:Nat) (cs:Array Value) (tc:TypeId) (hx:a.eval x=.slice (some ⟨w.heap.size,0,none⟩) m c) (hl:cs.toList.length=m*size) (h1:∀ u∈cs.toList,u.oneCell'=true)
  (hm:0<m) (hbytes:(n+m)*bytes≤140737488355328) (h63:n+m≤140737488355328)
  (h:∀ g cap w',Rw w0 w' e size (.slice (some ⟨g,0,none⟩) (n+m) cap) (n+m) (xs++cs.toList)→w.grownBy w' v.ownBlock→wpList Tryz.prog ops Q rest (a.put o.dst (.slice (some ⟨g,0,none⟩) (n+m) cap)) w') :
  wpList Tryz.prog ops Q (o::rest) a (w.alloc (.cells cs tc)):=by
 obtain⟨i0,hi0,hz0,hz1,hz2⟩:=info_parts E.info
 refine wpList_append_lies _ hgd s x t ho w0.heap.size e i0 z size bytes E.under hi0 hz0 hz1 hz2 E.zs E.pos v n xs hs (hR.own.alloc _) ⟨w.heap.size,0,none⟩ m c cs.toList hx hl
  (World.news_of_block (cs:=cs) (t:=tc) (fr:=(0,0)) (heap_alloc_new w _)) h1 hm (Nat.le_trans h63 (by decide)) hbytes (Nat.le_trans hR.below.size (by simp)) _ rfl fun g cap w' hown hg _ _=>?_
 have hg2:w.grownBy w' v.ownBlock:=grownBy_trans (World.grownBy_alloc w _ _) hg;exact h g cap w' ⟨below_far hR.below hg2 hR.row,hown⟩ hg2
theorem elRune:El 141 21 (.int .i32 0) 1 4:=⟨Tryz.underlying141,by kernel_rfl,rfl,by decide⟩
theorem elByte:El 112 5 (.int .u8 0) 1 1:=⟨Tryz.underlying112,by kernel_rfl,rfl,by decide⟩
end Go.Proofs.YtnbkbenkhkinoaaGreatDoor
namespace Go.Proofs.YtnbkbenkhkinoaaGreatDoor
set_option linter.unusedVariables false
set_option linter.unusedSimpArgs false
open Go.RowKit Go.Maps
def natI (l:List Nat):List Int:=l.map fun(x:Nat)=>(x:Int)
def IntL (w:World) (b:Nat) (L:List Int):Prop:=Blk w b 3 (L.map (Value.int .i64)).toArray
theorem IntL.sets {b:Nat}:∀ (xs:List Int) (w:World) (o:Nat) (L:List Int),IntL w b L→o+xs.length≤L.length→IntL (w.setCells b o (xs.map (Value.int .i64))) b (L.take o++xs++L.drop (o+xs.length))
 | [],w,o,L,h,_=>by simpa[World.setCells] using h
 | x::xs,w,o,L,h,hl=>by
   rw[List.length_cons]at hl
   have h1:IntL (w.setCell ⟨b,o,none⟩ (.int .i64 x)) b (L.set o x):=by
    refine(Blk.put h o (.int .i64 x)).to ?_;rw[List.setIfInBounds_toArray,List.map_set]
   have h2:=IntL.sets xs _ (o+1) (L.set o x) h1 (by rw[List.length_set];omega)
   have e:L=L.take o++L[o]'(by omega)::L.drop (o+1):=by
    rw[← List.drop_eq_getElem_cons (by omega),List.take_append_drop]
   have hto:(L.take o).length=o:=by rw[List.length_take];omega
   have e1:(L.set o x).take (o+1)=L.take o++[x]:=by
    rw[List.take_succ_eq_append_getElem (by rw[List.length_set];omega),List.getElem_set_self,List.take_set,List.set_eq_of_length_le (by omega)]
   have e2:(L.set o x).drop (o+1+xs.length)=L.drop (o+(xs.length+1)):=by
    rw[List.drop_set_of_lt (by omega),show o+1+xs.length=o+(xs.length+1) by omega]
   rw[e1,e2]at h2;rw[List.map_cons,World.setCells,List.length_cons];simpa using h2
structure Ks where
 n:Nat
 cap:Nat
 oa:Option Addr
 b:Nat
 l:List Nat
def ksV (k:Ks):Value:=.slice k.oa k.n k.cap
def KsIn (w:World) (k:Ks):Prop:=(k.oa=none∧k.n=0∧k.cap=0∧k.l=[])∨(k.oa=some ⟨k.b,0,none⟩∧0<k.n∧k.n≤k.cap∧k.cap≤maxLen∧∃ L:List Int,L.length=k.cap∧L.take k.n=natI k.l∧IntL w k.b L)
theorem KsIn.len {w:World} {k:Ks} (h:KsIn w k):k.l.length=k.n:=by
 rcases h with ⟨-,h1,-,h2⟩ | ⟨-,h0,hle,-,L,hl,ht,-⟩
 · rw[h1,h2];rfl
 · have:=congrArg List.length ht;unfold natI at this;rw[List.length_take,List.length_map]at this;omega
def BxT (b:Bx):Prop:=Bx64 b∧b.type≤2
structure Me where
 parent:Int
 tag:List UInt8
 bx:Bx
 g:Nat
 ks:Ks
def ecells (i:Int) (e:Me):List Value:=[.int .i64 i,.int .i64 e.parent,.string ⟨e.tag.toArray⟩,ksV e.ks,.slice none 0 0]++bxcells e.bx
def Me.own (e:Me) (k:Nat):Prop:=k=e.g∨(e.ks.oa≠none∧k=e.ks.b)
def newEl (p:Nat) (tag:List UInt8) (gN:Nat):Me:=⟨(p:Int),tag,freshX,gN,⟨0,0,none,0,[]⟩⟩
def dptF (els:List Me):Nat→Nat→Nat
 | 0,_=>1
 | f+1,i=>match els[i]? with
   | some e=>if e.parent<0 then 1 else dptF els f e.parent.toNat+1
   | none=>1
def dpt (els:List Me) (i:Nat):Nat:=dptF els (i+1) i
inductive Gr:List Me→Prop
 | root {tag:List UInt8} {g:Nat}:nameB tag=true→Gr [⟨-1,tag,freshX,g,⟨0,0,none,0,[]⟩⟩]
 | ins {els:List Me} {p:Nat} {e:Me} {ks:Ks} {tag:List UInt8} {gN:Nat}:Gr els→els[p]?=some e→nameB tag=true→dpt els p<32→ks.l=els.length::e.ks.l→Gr (els.set p { e with ks:=ks }++[newEl p tag gN])
 | box {els:List Me} {i:Nat} {e:Me} {b:Bx}:Gr els→els[i]?=some e→boxB b=true→Gr (els.set i { e with bx:=b })
structure Dm (w:World) (tB mb B:Nat) (els:List Me):Prop where
 tree:Blk w tB 78 #[.map (some mb),.int .i64 0,.int .i64 (els.length:Int)]
 map:∃ D,MapIs D (els.map Me.g)∧w.ownsMap Tryz.prog 3 ptrE mb els.length D
 el:∀ (i:Nat) (e:Me),els[i]?=some e→Blk w e.g 57 (ecells i e).toArray∧KsIn w e.ks∧BxT e.bx∧e.ks.n<els.length
 base:B≤tB∧B≤mb∧tB≠mb
 far:∀ (i:Nat) (e:Me),els[i]?=some e→∀ k,e.own k→B≤k∧k≠tB∧k≠mb
 apart:∀ (i j:Nat) (e f:Me),els[i]?=some e→els[j]?=some f→i≠j→∀ k,e.own k→¬ f.own k
 self:∀ (i:Nat) (e:Me),els[i]?=some e→e.ks.oa≠none→e.g≠e.ks.b
 par:∀ (i:Nat) (e:Me),els[i]?=some e→(i=0∧e.parent=-1)∨(0<i∧0≤e.parent∧e.parent<(i:Int))
 pos:0<els.length
 small:els.length≤41
 gr:Gr els
section
variable {w w':World} {tB mb B:Nat} {els:List Me}
theorem KsIn.old {k:Ks} (h:KsIn w k) (hk:k.oa≠none→w'.heap[k.b]?=w.heap[k.b]?):KsIn w' k:=by
 rcases h with h|⟨h1,h2,h3,h4,L,hl,ht,h5⟩
 · exact .inl h
 · exact .inr ⟨h1,h2,h3,h4,L,hl,ht,(hk (by rw[h1];simp)).trans h5⟩
theorem KsIn.lt {k:Ks} (h:KsIn w k) (hk:k.oa≠none):k.b<w.heap.size:=by
 rcases h with ⟨h,-⟩ | ⟨-,-,-,-,L,-,-,h⟩
 · exact absurd h hk
 · exact Blk.lt h
theorem Dm.own_lt (h:Dm w tB mb B els) {i:Nat} {e:Me} (he:els[i]?=some e) {k:Nat} (hk:e.own k):k<w.heap.size:=by
 rcases hk with rfl|⟨h1,rfl⟩
 · exact(h.el i e he).1.lt
 · exact(h.el i e he).2.1.lt h1
theorem Dm.grown (h:Dm w tB mb B els) {row:Option Nat} (hg:w.grownBy w' row) (hr:∀ k,row=some k→k≠tB∧k≠mb∧∀ (i:Nat) (e:Me),els[i]?=some e→¬ e.own k):Dm w' tB mb B els:=by
 obtain⟨D,hD,hm⟩:=h.map
 have hn:∀ {i:Nat} {e:Me},els[i]?=some e→∀ {k:Nat},e.own k→w'.heap[k]?=w.heap[k]?:=fun he _ hk=>hg.block _ (h.own_lt he hk) (fun e2=>(hr _ e2.symm).2.2 _ _ he hk)
 exact ⟨(hg.block tB h.tree.lt (fun e=>(hr _ e.symm).1 rfl)).trans h.tree,⟨D,hD,hm.kept hg (fun e=>(hr _ e.symm).2.1 rfl)⟩,
  fun i e he=>⟨(hn he (.inl rfl)).trans (h.el i e he).1,(h.el i e he).2.1.old (fun hk=>hn he (.inr ⟨hk,rfl⟩)),(h.el i e he).2.2⟩,h.base,h.far,h.apart,h.self,h.par,h.pos,h.small,h.gr⟩
theorem Dm.below (h:Dm w tB mb B els) (hb:Below w.heap.size w w'):Dm w' tB mb B els:=h.grown (grownBy_of_below hb none) (fun _ e=>by cases e)
theorem Dm.box (h:Dm w tB mb B els) {i:Nat} {e:Me} (he:els[i]?=some e) {b:Bx} (h64:BxT b) (hbx:boxB b=true) (hg:w.grownBy w' (some e.g)) (hb:Blk w' e.g 57 (ecells i { e with bx:=b }).toArray):Dm w' tB mb B (els.set i { e with bx:=b }):=by
 obtain⟨D,hD,hm⟩:=h.map;have hlt:i<els.length:=(List.getElem?_eq_some_iff.1 he).1;have hfar:=h.far i e he _ (.inl rfl)
 have hset:∀ (j:Nat) (f:Me),(els.set i { e with bx:=b })[j]?=some f→(j=i∧f={ e with bx:=b })∨(j≠i∧els[j]?=some f):=fun j f hf=>by
  rw[List.getElem?_set]at hf
  by_cases hj:i=j
  · subst hj;rw[if_pos rfl,if_pos hlt]at hf;exact .inl ⟨rfl,(Option.some.inj hf).symm⟩
  · rw[if_neg hj]at hf;exact .inr ⟨fun e=>hj e.symm,hf⟩
 have hgs:(els.set i { e with bx:=b }).map Me.g=els.map Me.g:=by
  apply List.ext_getElem?
  intro j;rw[List.getElem?_map,List.getElem?_map,List.getElem?_set]
  by_cases hj:i=j
  · subst hj;rw[if_pos rfl,if_pos hlt,he];rfl
  · rw[if_neg hj]
 have hold:∀ {j:Nat} {f:Me},els[j]?=some f→∀ {k:Nat},f.own k→k≠e.g→w'.heap[k]?=w.heap[k]?:=fun hf _ hk hne=>hg.block _ (h.own_lt hf hk) (fun e2=>hne (Option.some.inj e2))
 refine⟨?_,⟨D,by rw[hgs];exact hD,by rw[List.length_set];exact hm.kept hg (fun e2=>hfar.2.2 (Option.some.inj e2).symm)⟩,fun j f hf=>?_,h.base,fun j f hf k hk=>?_,fun j l f f2 hf hf2 hne k hk=>?_,fun j f hf hk=>?_,fun j f hf=>?_,by rw[List.length_set];exact h.pos,by rw[List.length_set];exact h.small,.box h.gr he hbx⟩
 · rw[List.length_set];exact(hg.block tB h.tree.lt (fun e2=>hfar.2.1 (Option.some.inj e2).symm)).trans h.tree
 · rcases hset j f hf with ⟨rfl,rfl⟩ | ⟨hne,hf⟩
   · exact⟨hb,(h.el j e he).2.1.old (fun hk=>hold he (.inr ⟨hk,rfl⟩) (fun e2=>h.self j e he hk e2.symm)),h64,by rw[List.length_set];exact(h.el j e he).2.2.2⟩
   · obtain⟨h1,h2,h3,h4⟩:=h.el j f hf
     have hno:∀ k,f.own k→k≠e.g:=fun k hk e2=>h.apart j i f e hf he hne k hk (.inl e2)
     exact⟨(hold hf (.inl rfl) (hno _ (.inl rfl))).trans h1,h2.old (fun hk=>hold hf (.inr ⟨hk,rfl⟩) (hno _ (.inr ⟨hk,rfl⟩))),h3,by rw[List.length_set];exact h4⟩
 · rcases hset j f hf with ⟨rfl,rfl⟩ | ⟨hne,hf⟩
   · exact h.far j e he k hk
   · exact h.far j f hf k hk
 · rcases hset j f hf with ⟨rfl,rfl⟩ | ⟨hj,hg1⟩
   · rcases hset l f2 hf2 with ⟨rfl,rfl⟩ | ⟨hl,hg2⟩
     · exact absurd rfl hne
     · exact h.apart j l e f2 he hg2 hne k hk
   · rcases hset l f2 hf2 with ⟨rfl,rfl⟩ | ⟨hl,hg2⟩
     · exact h.apart j l f e hg1 he hne k hk
     · exact h.apart j l f f2 hg1 hg2 hne k hk
 · rcases hset j f hf with ⟨rfl,rfl⟩ | ⟨hne,hf⟩
   · exact h.self j e he hk
   · exact h.self j f hf hk
 · rcases hset j f hf with ⟨rfl,rfl⟩ | ⟨hne,hf⟩
   · exact h.par j e he
   · exact h.par j f hf
end
theorem newEl_own {p:Nat} {tag:List UInt8} {gN k:Nat}:(newEl p tag gN).own k↔k=gN:=by
 unfold Me.own newEl;simp
theorem fresh64:BxT freshX:=by
 unfold BxT Bx64 freshX Is64;decide
theorem Dm.insert {w w':World} {tB mb B:Nat} {els:List Me} (h:Dm w tB mb B els) {p:Nat} {e:Me} (he:els[p]?=some e) {gN:Nat} {ks:Ks} {tag:List UInt8}
  (hold:∀ k,k<w.heap.size→k≠tB→k≠mb→¬ e.own k→w'.heap[k]?=w.heap[k]?)
  (htree:Blk w' tB 78 #[.map (some mb),.int .i64 0,.int .i64 ((els.length+1:Nat):Int)])
  (hmap:∃ D,MapIs D (els.map Me.g++[gN])∧w'.ownsMap Tryz.prog 3 ptrE mb (els.length+1) D)
  (hgN:w.heap.size≤gN) (hnew:Blk w' gN 57 (ecells (els.length:Int) (newEl p tag gN)).toArray)
  (hpar:Blk w' e.g 57 (ecells p { e with ks:=ks }).toArray) (hks:KsIn w' ks) (hkb:ks.oa≠none→(e.ks.oa≠none∧ks.b=e.ks.b)∨(w.heap.size≤ks.b∧ks.b≠gN))
  (hlen:els.length<41) (hkn:ks.n≤els.length) (hname:nameB tag=true) (hdp:dpt els p<32) (hkl:ks.l=els.length::e.ks.l):Dm w' tB mb B (els.set p { e with ks:=ks }++[newEl p tag gN]):=by
 have hlt:p<els.length:=(List.getElem?_eq_some_iff.1 he).1;have htB:=h.tree.lt
 have hmB:mb<w.heap.size:=by
  obtain⟨D,-,hm⟩:=h.map;exact hm.lt
 have hset:∀ (j:Nat) (f:Me),(els.set p { e with ks:=ks }++[newEl p tag gN])[j]?=some f→(j=p∧f={ e with ks:=ks })∨(j≠p∧els[j]?=some f)∨(j=els.length∧f=newEl p tag gN):=fun j f hf=>by
  by_cases hj:j<els.length
  · rw[List.getElem?_append_left (by rw[List.length_set];exact hj),List.getElem?_set]at hf
    by_cases hp:p=j
    · subst hp;rw[if_pos rfl,if_pos hlt]at hf;exact .inl ⟨rfl,(Option.some.inj hf).symm⟩
    · rw[if_neg hp]at hf;exact .inr (.inl ⟨fun e=>hp e.symm,hf⟩)
  · have h2:=(List.getElem?_eq_some_iff.1 hf).1;rw[List.length_append,List.length_set,List.length_singleton]at h2
    obtain rfl:j=els.length:=by omega
    rw[List.getElem?_append_right (by rw[List.length_set];exact Nat.le_refl _),List.length_set,Nat.sub_self]at hf;exact .inr (.inr ⟨rfl,(Option.some.inj hf).symm⟩)
 -- what the element at p has now
 have hown:∀ k,Me.own { e with ks:=ks } k→(e.own k∧k<w.heap.size)∨(w.heap.size≤k∧k≠gN):=fun k hk=>by
  rcases hk with rfl|⟨h1,rfl⟩
  · exact .inl ⟨.inl rfl,h.own_lt he (.inl rfl)⟩
  · rcases hkb h1 with ⟨h2,h3⟩ | h2
    · exact .inl ⟨.inr ⟨h2,h3⟩,h.own_lt he (.inr ⟨h2,h3⟩)⟩
    · exact .inr h2
 have hno:∀ (j:Nat) (f:Me),els[j]?=some f→j≠p→∀ k,f.own k→w'.heap[k]?=w.heap[k]?:=fun j f hf hj k hk =>
  hold k (h.own_lt hf hk) (h.far j f hf k hk).2.1 (h.far j f hf k hk).2.2 (h.apart j p f e hf he hj k hk)
 refine⟨?_,?_,fun j f hf=>?_,h.base,fun j f hf k hk=>?_,fun j l f f2 hf hf2 hne k hk hk2=>?_,fun j f hf hk=>?_,fun j f hf=>?_,?_,?_,.ins h.gr he hname hdp hkl⟩
 · rw[List.length_append,List.length_set,List.length_singleton];exact htree
 · obtain⟨D,hD,hm⟩:=hmap;refine⟨D,?_,by rw[List.length_append,List.length_set,List.length_singleton];exact hm⟩
   have:(els.set p { e with ks:=ks }++[newEl p tag gN]).map Me.g=els.map Me.g++[gN]:=by
    rw[List.map_append]
    congr 1
    apply List.ext_getElem?
    intro j;rw[List.getElem?_map,List.getElem?_map,List.getElem?_set]
    by_cases hj:p=j
    · subst hj;rw[if_pos rfl,if_pos hlt,he];rfl
    · rw[if_neg hj]
   rw[this];exact hD
 · rcases hset j f hf with ⟨rfl,rfl⟩ | ⟨hj,hf⟩ | ⟨rfl,rfl⟩
   · exact⟨hpar,hks,(h.el j e he).2.2.1,by rw[List.length_append,List.length_set,List.length_singleton];exact Nat.lt_succ_of_le hkn⟩
   · obtain⟨h1,h2,h3,h4⟩:=h.el j f hf;exact⟨(hno j f hf hj _ (.inl rfl)).trans h1,h2.old (fun hk=>hno j f hf hj _ (.inr ⟨hk,rfl⟩)),h3,by rw[List.length_append,List.length_set,List.length_singleton];omega⟩
   · exact⟨hnew,.inl ⟨rfl,rfl,rfl,rfl⟩,fresh64,by rw[List.length_append,List.length_set,List.length_singleton];exact Nat.succ_pos _⟩
 · have hBs:B≤tB:=h.base.1
   rcases hset j f hf with ⟨rfl,rfl⟩ | ⟨hj,hf⟩ | ⟨rfl,rfl⟩
   · rcases hown k hk with ⟨h1,-⟩ | ⟨h1,-⟩
     · exact h.far j e he k h1
     · omega
   · exact h.far j f hf k hk
   · have:=newEl_own.1 hk;omega
 · rcases hset j f hf with ⟨rfl,rfl⟩ | ⟨hj,hg1⟩ | ⟨rfl,rfl⟩
   · rcases hset l f2 hf2 with ⟨rfl,rfl⟩ | ⟨hl,hf2⟩ | ⟨rfl,rfl⟩
     · exact hne rfl
     · rcases hown k hk with ⟨h1,-⟩ | ⟨h1,-⟩
       · exact h.apart j l e f2 he hf2 hne k h1 hk2
       · have:=h.own_lt hf2 hk2;omega
     · have:=newEl_own.1 hk2
       rcases hown k hk with ⟨-,h1⟩ | ⟨-,h1⟩
       · omega
       · exact h1 this
   · rcases hset l f2 hf2 with ⟨rfl,rfl⟩ | ⟨hl,hf2⟩ | ⟨rfl,rfl⟩
     · rcases hown k hk2 with ⟨h1,-⟩ | ⟨h1,-⟩
       · exact h.apart j l f e hg1 he hne k hk h1
       · have:=h.own_lt hg1 hk;omega
     · exact h.apart j l f f2 hg1 hf2 hne k hk hk2
     · have:=newEl_own.1 hk2;have:=h.own_lt hg1 hk;omega
   · have hg:=newEl_own.1 hk
     rcases hset l f2 hf2 with ⟨rfl,rfl⟩ | ⟨hl,hf2⟩ | ⟨rfl,rfl⟩
     · rcases hown k hk2 with ⟨-,h1⟩ | ⟨-,h1⟩
       · omega
       · exact h1 hg
     · have:=h.own_lt hf2 hk2;omega
     · exact hne rfl
 · rcases hset j f hf with ⟨rfl,rfl⟩ | ⟨hj,hf⟩ | ⟨rfl,rfl⟩
   · show e.g≠ks.b;have hlt2:=h.own_lt he (.inl rfl)
     rcases hkb hk with ⟨h2,h3⟩ | ⟨h2,-⟩
     · rw[h3];exact h.self j e he h2
     · omega
   · exact h.self j f hf hk
   · exact absurd rfl hk
 · rcases hset j f hf with ⟨rfl,rfl⟩ | ⟨hj,hf⟩ | ⟨rfl,rfl⟩
   · exact h.par j e he
   · exact h.par j f hf
   · exact .inr ⟨by omega,by simp[newEl],by show ((p:Nat):Int)<_;omega⟩
 · rw[List.length_append,List.length_singleton];omega
 · rw[List.length_append,List.length_set,List.length_singleton];omega
end Go.Proofs.YtnbkbenkhkinoaaGreatDoor
namespace Go.Proofs.YtnbkbenkhkinoaaGreatDoor
set_option linter.unusedVariables false
set_option linter.unusedSimpArgs false
open Go.RowKit
theorem bfH' {w0 w w':World} (h:Hid (Below w0.heap.size w0 w)) (hb:Below w.heap.size w w'):Hid (Below w0.heap.size w0 w'):=Lib.hid (below_far h.out (grownBy_of_below hb none) fun _ e=>by cases e)
theorem box_new' (w:World) (t:TypeId) (cs:Array Value):Blk (w.alloc (.cells cs t)) w.heap.size t cs∧Below w.heap.size w (w.alloc (.cells cs t)):=⟨Blk.new w t cs,below_box w (.cells cs t)⟩
theorem conv_bytesD (m:List UInt8) (w:World) (hm:m.length≤maxLen):∃ (cap:Nat) (w1:World),(convert 9 112 (.string ⟨m.toArray⟩)).run Tryz.prog w=.ok (.slice (some ⟨w.heap.size,0,none⟩) m.length cap) w1∧Below w.heap.size w w1 ∧
  Sl w1 (some ⟨w.heap.size,0,none⟩) m.length cap w.heap.size 0 1 (bytesV m):=by
 have h:=run_bytes_of_string (P:=Tryz.prog) w 9 112 5 ⟨m.toArray⟩ Tryz.underlying9 Tryz.underlying112 Tryz.underlying5;have hge:=grownCap_ge w m.length 0 5;have hcm:=grownCap_le_maxLen w m.length 0 5 hm;refine⟨_,_,h,((Below.refl _ _).drew.alloc (Nat.le_refl _) _),by simp[bytesV],hge,hcm,fun _=>⟨rfl,by simp⟩,fun i v hv=>?_⟩
 have hi:i<m.length:=by have:=(List.getElem?_eq_some_iff.1 hv).1;simpa[bytesV] using this
 rw[bytesV_at hi]at hv;obtain rfl:=Option.some.inj hv;rw[Nat.zero_add,cell_of_row _ w.heap.size i _ _ _ (heap_alloc_new w.drew _)];exact bytesRow_at ⟨m.toArray⟩ _ i hi
def okC (l:List UInt8) (j:Nat):Bool:=match l[j]? with
 | some c=>if j=0 then nameCh c.toNat else laterCh c.toNat
 | none=>true
theorem nameB_all {l:List UInt8} (h1:1≤l.length) (h2:l.length≤64) (h:∀ j,j<l.length→okC l j=true):nameB l=true:=by
 unfold nameB;rw[Bool.and_eq_true];refine⟨by simp;omega,?_⟩
 cases l with
 | nil=>simp at h1
 | cons c r =>
   simp only[Bool.and_eq_true];refine⟨by have:=h 0 (by simp);simpa[okC] using this,List.all_eq_true.2 fun x hx=>?_⟩;obtain⟨k,hk⟩:=List.mem_iff_getElem?.1 hx;have hlt:=(List.getElem?_eq_some_iff.1 hk).1;have:=h (k+1) (by simp;omega);simpa[okC,hk] using this
theorem nameB_not {l:List UInt8} {j:Nat} (hj:j<l.length) (h:okC l j=false):nameB l=false:=by
 cases hn:nameB l with
 | false=>rfl
 | true =>
   exfalso
   unfold nameB at hn;rw[Bool.and_eq_true]at hn
   cases l with
   | nil=>simp at hj
   | cons c r =>
     have h2:=hn.2;simp only[Bool.and_eq_true]at h2
     cases j with
     | zero =>
       have:okC (c::r) 0=true:=by simpa[okC] using h2.1
       rw[this]at h
       cases h
     | succ j =>
       have hlt:j<r.length:=by simpa using hj
       have h3:=List.all_eq_true.1 h2.2 (r[j]) (List.getElem_mem hlt)
       have:okC (c::r) (j+1)=true:=by simpa[okC,List.getElem?_eq_getElem hlt] using h3
       rw[this]at h
       cases h
theorem nameB_size {l:List UInt8} (h:l.length<1∨64<l.length):nameB l=false:=by
 unfold nameB;rw[show decide (1≤l.length∧l.length≤64)=false by simp;omega];rfl
set_option maxRecDepth 20000 in
set_option maxHeartbeats 8000000 in
theorem mayName_any (l:List UInt8) (w:World) (h63:l.length≤9223372036854775807):Calls Tryz.prog 36 #[.string ⟨l.toArray⟩] w fun e w'=>e=.returned (.bool (nameB l))∧Below w.heap.size w w':=by
 obtain⟨R,hR⟩:∃ R,nameB l=R:=⟨_,rfl⟩;rw[hR];obtain⟨N,hN⟩:∃ N,l.length=N:=⟨_,rfl⟩;have hb0:=Below.refl w.heap.size w
 by_cases h1:N<1
 · have hr:=nameB_size (l:=l) (.inl (by omega));rw[hR]at hr;subst hr
   have g1:decide ((l.length:Int)<(1:Int))=true:=by simp;omega
   clear hR hN h1
   go_enter Tryz.func36,Tryz.ntmps36
   go_wp2_with fail;go_ret;exact⟨rfl,hb0⟩
 by_cases h2:64<N
 · have hr:=nameB_size (l:=l) (.inr (by omega));rw[hR]at hr;subst hr
   have g1:decide ((l.length:Int)<(1:Int))=false:=by simp;omega
   have g2:decide ((64:Int)<(l.length:Int))=true:=by simp;omega
   clear hR hN
   go_enter Tryz.func36,Tryz.ntmps36
   go_wp2_with fail;go_ret;exact⟨rfl,hb0⟩
 have g1:decide ((l.length:Int)<(1:Int))=false:=by simp;omega
 have g2:decide ((64:Int)<(l.length:Int))=false:=by simp;omega
 obtain⟨cap,w1,hrun,hb1,hsl⟩:=conv_bytesD l w (by unfold maxLen;omega);obtain⟨g,hg⟩:∃ g,w.heap.size=g:=⟨_,rfl⟩;rw[hN]at hrun hsl;rw[hg]at hrun hsl;have HSL:=Lib.hid hsl;have HB:=Lib.hid hb1;have HR:=Lib.hid hR;have HN:=Lib.hid hN;have hcl:=hsl.le;clear hsl hb1 hR hN hg hb0
 go_enter Tryz.func36,Tryz.ntmps36
 go_wp2_with fail
 go_loopg [17] N (fun q s wr=>∃ (i:Nat),s=.int .i64 (i:Int)∧wr=w1∧Hid (∀ j,j<i→okC l j=true)∧i≤N∧N-i≤q)
 case atStart=>exact⟨0,rfl,rfl,Lib.hid (fun j hj=>absurd hj (Nat.not_lt_zero _)),Nat.zero_le _,by omega⟩
 case round =>
  obtain⟨i,rfl,rfl,hpre,hiN,hq⟩:=hrel
  by_cases hi:i<N
  · have gi:decide ((i:Int)<(N:Int))=true:=by simpa using hi
    have gin:decide (i<N)=true:=by simpa using hi
    have him:i<l.length:=by rw[HN.out];exact hi
    have hcell:=HSL.out.cell i _ (bytesV_at him);rw[Nat.zero_add]at hcell;have hlt:=(HSL.out.lies (by omega)).2
    have hok:okC l i=if i=0 then nameCh (l[i]).toNat else laterCh (l[i]).toNat:=by
     unfold okC;rw[List.getElem?_eq_getElem him]
    have hc256:=UInt8.toNat_lt l[i];generalize (l[i]).toNat=n at *;have HO:=Lib.hid hok
    have HS:=Lib.hid (fun j (hj:j<i+1) (h:okC l i=true)=>show okC l j=true from by
     by_cases e:j=i
     · rw[e];exact h
     · exact hpre.out j (by omega))
    clear hok hpre
    go_upto_region 6 with fail
    go_cut [5] from 22 to 39 (fun s wx=>s=.bool (nameCh n)∧wx=wr)
    case first =>
     have hL:nameCh n=(decide (97≤n∧n≤122)||decide (65≤n∧n≤90)||decide (n=95)):=rfl
     have ways:n<65∨(65≤n∧n≤90)∨(91≤n∧n<95)∨n=95∨n=96∨(97≤n∧n≤122)∨122<n:=by omega
     rcases ways with h|h|h|h|h|h|h
     all_goals
      first|have k1:decide ((97:Int)≤(n:Int))=true:=(by simp;omega) | have k1:decide ((97:Int)≤(n:Int))=false:=(by simp;omega)
      first|have k2:decide ((n:Int)≤(122:Int))=true:=(by simp;omega) | have k2:decide ((n:Int)≤(122:Int))=false:=(by simp;omega)
      first|have k3:decide ((65:Int)≤(n:Int))=true:=(by simp;omega) | have k3:decide ((65:Int)≤(n:Int))=false:=(by simp;omega)
      first|have k4:decide ((n:Int)≤(90:Int))=true:=(by simp;omega) | have k4:decide ((n:Int)≤(90:Int))=false:=(by simp;omega)
      first|have k5:((n:Int)==95)=true:=(by simp;omega) | have k5:((n:Int)==95)=false:=(by simp;omega)
      first|have HLb:=Lib.hid (show nameCh n=true by rw[hL];simp;omega) | have HLb:=Lib.hid (show nameCh n=false by rw[hL];simp;omega)
      clear hL h;go_wp2_with fail;go_meet;exact⟨by rw[HLb.out],rfl⟩
    obtain⟨rfl,e⟩:=hcut;subst e
    cases hL:nameCh n with
    | true =>
      have hS:=HS.out
      have hy:okC l i=true:=by
       rw[HO.out];split
       · exact hL
       · unfold laterCh;rw[hL];rfl
      have HP:=Lib.hid (fun j hj=>hS j hj hy);clear hS hy hL HS HO;go_wp2_with fail
      go_roundg (N-(i+1))
      case measure=>omega
      case rel=>exact⟨i+1,by go_num,rfl,Lib.hid HP.out,hi,Nat.le_refl _⟩
    | false =>
      by_cases h0:i=0
      · subst h0;have hr:=nameB_not him (j:=0) (by rw[HO.out,if_pos rfl,hL]);rw[HR.out]at hr;subst hr;clear hL HS HO;go_wp2_with fail;go_ret;exact⟨rfl,HB.out⟩
      · have k0:((i:Int)==0)=false:=by simp;omega
        have hO:=HO.out;rw[if_neg h0]at hO
        have ways:n<45∨n=45∨(46≤n∧n<48)∨(48≤n∧n≤57)∨57<n:=by omega
        have hlat:laterCh n=(decide (n=45)||decide (48≤n∧n≤57)):=by
         unfold laterCh;rw[hL,Bool.false_or]
        rcases ways with h|h|h|h|h
        all_goals
         first|have k1:((n:Int) != 45)=true:=(by simp;omega) | have k1:((n:Int) != 45)=false:=(by simp;omega)
         first|have k2:decide ((n:Int)<(48:Int))=true:=(by simp;omega) | have k2:decide ((n:Int)<(48:Int))=false:=(by simp;omega)
         first|have k3:decide ((57:Int)<(n:Int))=true:=(by simp;omega) | have k3:decide ((57:Int)<(n:Int))=false:=(by simp;omega)
        · have hr:=nameB_not him (j:=i) (by rw[hO,hlat];simp;omega);rw[HR.out]at hr;subst hr;clear hL HS HO hO hlat h;go_wp2_with fail;go_ret;exact⟨rfl,HB.out⟩
        · have HP:=Lib.hid (fun j hj=>HS.out j hj (by rw[hO,hlat];simp;omega));clear hL HS HO hO hlat h;go_wp2_with fail
          go_roundg (N-(i+1))
          case measure=>omega
          case rel=>exact⟨i+1,by go_num,rfl,Lib.hid HP.out,hi,Nat.le_refl _⟩
        · have hr:=nameB_not him (j:=i) (by rw[hO,hlat];simp;omega);rw[HR.out]at hr;subst hr;clear hL HS HO hO hlat h;go_wp2_with fail;go_ret;exact⟨rfl,HB.out⟩
        · have HP:=Lib.hid (fun j hj=>HS.out j hj (by rw[hO,hlat];simp;omega));clear hL HS HO hO hlat h;go_wp2_with fail
          go_roundg (N-(i+1))
          case measure=>omega
          case rel=>exact⟨i+1,by go_num,rfl,Lib.hid HP.out,hi,Nat.le_refl _⟩
        · have hr:=nameB_not him (j:=i) (by rw[hO,hlat];simp;omega);rw[HR.out]at hr;subst hr;clear hL HS HO hO hlat h;go_wp2_with fail;go_ret;exact⟨rfl,HB.out⟩
  · obtain rfl:i=N:=by omega
    have gi:decide ((i:Int)<(i:Int))=false:=by simp
    have gin:decide (i<i)=false:=by simp
    have hr:=nameB_all (l:=l) (by rw[HN.out];omega) (by rw[HN.out];omega) (fun j hj=>hpre.out j (by rw[HN.out]at hj;exact hj));rw[HR.out]at hr;subst hr;go_wp2_with fail;go_ret;exact⟨rfl,HB.out⟩
set_option maxHeartbeats 4000000 in
theorem sideD_any (r:Rt) (w:World) (h64:Is64 r):Calls Tryz.prog 56 #[rv r] w fun e w'=>e=.returned (.bool (sideB r))∧Below w.heap.size w w':=by
 obtain⟨n,d⟩:=r;obtain⟨h1,hb1⟩:=box_new' w 28 #[.int .i64 n,.int .i64 d];obtain⟨g,hg⟩:∃ g,w.heap.size=g:=⟨_,rfl⟩;have HM:=Lib.hid (may_any (n,d) (w.alloc (.cells #[.int .i64 n,.int .i64 d] 28)) h64);rw[hg]at h1;have H1:=Lib.hid h1;have HB1:=Lib.hid hb1;have hS:sideB (n,d)=(mayB (n,d)&&decide (0<d)&&decide (0≤n)):=rfl;rw[hS];generalize mayB (n,d)=M at *;simp only[rv]at HM ⊢;clear h1 hb1 h64 hS
 go_enter Tryz.func56,Tryz.ntmps56
 go_upto_region 1 with fail
 try simp only[hg]
 clear hg;generalize World.alloc w _=wa at *;have c0:wa.cell? ⟨g,0,none⟩=some (.int .i64 n):=(H1.out).cell 0;have fc0:=(H1.out).frozen 0;have c1:wa.cell? ⟨g,1,none⟩=some (.int .i64 d):=(H1.out).cell 1;have fc1:=(H1.out).frozen 1;have lc:=(H1.out).lt;go_wp2_with fail
 ((with_reducible refine HM.out.mono ?_);rintro e wb ⟨rfl,hbb⟩)
 have d0:wb.cell? ⟨g,0,none⟩=some (.int .i64 n):=((H1.out.below hbb lc)).cell 0;have fd0:=((H1.out.below hbb lc)).frozen 0;have d1:wb.cell? ⟨g,1,none⟩=some (.int .i64 d):=((H1.out.below hbb lc)).cell 1;have fd1:=((H1.out.below hbb lc)).frozen 1;have ld:=((H1.out.below hbb lc)).lt;have HB2:=bfH' HB1 hbb;clear hbb HM
 cases M with
 | false =>
   go_wp2_with fail;go_ret;exact⟨by simp,HB2.out⟩
 | true =>
   by_cases h1:0<d
   · have k1:decide ((0:Int)<d)=true:=by simpa using h1
     by_cases h2:0≤n
     · have k2:decide ((0:Int)≤n)=true:=by simpa using h2
       go_wp2_with fail;go_ret;exact⟨by rw[k1,k2];rfl,HB2.out⟩
     · have k2:decide ((0:Int)≤n)=false:=by simpa using h2
       go_wp2_with fail;go_ret;exact⟨by rw[k1,k2];rfl,HB2.out⟩
   · have k1:decide ((0:Int)<d)=false:=by simpa using h1
     go_wp2_with fail;go_ret;exact⟨by rw[k1];rfl,HB2.out⟩
theorem Blk.bx6 {w:World} {g:Nat} {t:TypeId} {a0 a1 a2 a3 a4 a5:Value} (h:Blk w g t #[a0,a1,a2,a3,a4,a5]):w.cell? ⟨g,0,none⟩=some a0∧w.frozen? ⟨g,0,none⟩=false∧w.cell? ⟨g,1,none⟩=some a1∧w.frozen? ⟨g,1,none⟩=false∧w.cell? ⟨g,2,none⟩=some a2∧w.frozen? ⟨g,2,none⟩=false∧w.cell? ⟨g,3,none⟩=some a3∧w.frozen? ⟨g,3,none⟩=false∧w.cell? ⟨g,4,none⟩=some a4∧w.frozen? ⟨g,4,none⟩=false∧w.cell? ⟨g,5,none⟩=some a5∧w.frozen? ⟨g,5,none⟩=false∧g<w.heap.size :=
 ⟨h.cell 0,h.frozen 0,h.cell 1,h.frozen 1,h.cell 2,h.frozen 2,h.cell 3,h.frozen 3,h.cell 4,h.frozen 4,h.cell 5,h.frozen 5,h.lt⟩
set_option maxRecDepth 20000 in
set_option maxHeartbeats 8000000 in
theorem mayBox_any (b:Bx) (w:World) (h64:Bx64 b):Calls Tryz.prog 39 #[.agg (bxcells b).toArray] w fun e w'=>e=.returned (.bool (boxB b))∧Below w.heap.size w w':=by
 obtain⟨ty,nm,⟨wn,wd⟩,⟨hn,hd⟩⟩:=b;have HS:=Lib.hid sideD_any;simp only[rv]at HS;have HWN:=Lib.hid (And.intro h64.2.1 h64.2.2.1);have HMN:=Lib.hid (fun w=>mayName_any nm w h64.2.2.2);obtain⟨V,hV⟩:∃ V,boxB ⟨ty,nm,(wn,wd),(hn,hd)⟩=V:=⟨_,rfl⟩;rw[hV];have hV2:(decide (0≤ty)&&decide (ty≤2)&&(decide (nm=[])||nameB nm)&&sideB (wn,wd)&&sideB (hn,hd))=V:=hV;show Calls Tryz.prog 39 #[.agg #[.int .i64 ty,.string ⟨nm.toArray⟩,.int .i64 wn,.int .i64 wd,.int .i64 hn,.int .i64 hd]] w _;obtain⟨h1,hb1⟩:=box_new' w 55 #[.int .i64 ty,.string ⟨nm.toArray⟩,.int .i64 wn,.int .i64 wd,.int .i64 hn,.int .i64 hd];obtain⟨g,hg⟩:∃ g,w.heap.size=g:=⟨_,rfl⟩;rw[hg]at h1;have H2:=Lib.hid h1;have HB2:=Lib.hid hb1;have HVE:=Lib.hid hV2;clear h1 hb1 h64 hV hV2
 go_enter Tryz.func39,Tryz.ntmps39
 go_upto_region 1 with fail
 try simp only[hg]
 clear hg;generalize World.alloc w _=wa at *
 by_cases t0:0≤ty
 · have k0:decide ((0:Int)≤ty)=true:=by simpa using t0
   by_cases t2:ty≤2
   · have k2:decide (ty≤(2:Int))=true:=by simpa using t2
     cases nm with
     | nil =>
       clear HMN t0 t2;obtain⟨c0,fc0,c1,fc1,c2,fc2,c3,fc3,c4,fc4,c5,fc5,lc⟩:=H2.out.bx6;go_wp2_with fail
       ((with_reducible refine(HS.out (wn,wd) _ HWN.out.1).mono ?_);rintro e wc ⟨rfl,hbc⟩)
       have H3:=Lib.hid (H2.out.below hbc lc);have HB3:=bfH' HB2 hbc;clear c0 fc0 c1 fc1 c2 fc2 c3 fc3 c4 fc4 c5 fc5 lc;clear H2 HB2 hbc
       cases hS1:sideB (wn,wd) with
       | false =>
         have HV:=Lib.hid (show V=false by rw[← HVE.out,hS1];simp);clear hS1;go_wp2_with fail;go_ret;exact⟨by rw[HV.out];rfl,HB3.out⟩
       | true =>
         have HV:=Lib.hid (show V=sideB (hn,hd) by rw[← HVE.out,hS1];simp[k0,k2]);obtain⟨c0,fc0,c1,fc1,c2,fc2,c3,fc3,c4,fc4,c5,fc5,lc⟩:=H3.out.bx6;clear hS1;go_wp2_with fail
         ((with_reducible refine(HS.out (hn,hd) _ HWN.out.2).mono ?_);rintro e wd2 ⟨rfl,hbd⟩)
         have HB4:=bfH' HB3 hbd;clear hbd HB3 H3;go_wp2_with fail;go_ret;exact⟨by rw[HV.out];rfl,HB4.out⟩
     | cons c0' r =>
       have q0:(c0'::r==[])=false:=rfl;obtain⟨c0,fc0,c1,fc1,c2,fc2,c3,fc3,c4,fc4,c5,fc5,lc⟩:=H2.out.bx6;go_wp2_with fail
       ((with_reducible refine(HMN.out _).mono ?_);rintro e wb ⟨rfl,hbb⟩)
       replace H2:=Lib.hid (H2.out.below hbb lc);replace HB2:=bfH' HB2 hbb;clear c0 fc0 c1 fc1 c2 fc2 c3 fc3 c4 fc4 c5 fc5 lc;clear hbb HMN t0 t2
       cases hM:nameB (c0'::r) with
       | false =>
         have HV:=Lib.hid (show V=false by rw[← HVE.out,hM];simp);clear hM;go_wp2_with fail;go_ret;exact⟨by rw[HV.out];rfl,HB2.out⟩
       | true =>
         have HM:=Lib.hid hM;clear hM;obtain⟨c0,fc0,c1,fc1,c2,fc2,c3,fc3,c4,fc4,c5,fc5,lc⟩:=H2.out.bx6;go_wp2_with fail
         ((with_reducible refine(HS.out (wn,wd) _ HWN.out.1).mono ?_);rintro e wc ⟨rfl,hbc⟩)
         have H3:=Lib.hid (H2.out.below hbc lc);have HB3:=bfH' HB2 hbc;clear c0 fc0 c1 fc1 c2 fc2 c3 fc3 c4 fc4 c5 fc5 lc;clear H2 HB2 hbc
         cases hS1:sideB (wn,wd) with
         | false =>
           have HV:=Lib.hid (show V=false by rw[← HVE.out,hS1];simp);clear hS1;go_wp2_with fail;go_ret;exact⟨by rw[HV.out];rfl,HB3.out⟩
         | true =>
           have HV:=Lib.hid (show V=sideB (hn,hd) by rw[← HVE.out,hS1];simp[k0,k2,HM.out]);obtain⟨c0,fc0,c1,fc1,c2,fc2,c3,fc3,c4,fc4,c5,fc5,lc⟩:=H3.out.bx6;clear hS1;go_wp2_with fail
           ((with_reducible refine(HS.out (hn,hd) _ HWN.out.2).mono ?_);rintro e wd2 ⟨rfl,hbd⟩)
           have HB4:=bfH' HB3 hbd;clear hbd HB3 H3;go_wp2_with fail;go_ret;exact⟨by rw[HV.out];rfl,HB4.out⟩
   · have k2:decide (ty≤(2:Int))=false:=by simpa using t2
     obtain⟨c0,fc0,c1,fc1,c2,fc2,c3,fc3,c4,fc4,c5,fc5,lc⟩:=H2.out.bx6;have HV:=Lib.hid (show V=false by rw[← HVE.out,k2];simp);clear t0 t2;go_wp2_with fail;go_ret;exact⟨by rw[HV.out];rfl,HB2.out⟩
 · have k0:decide ((0:Int)≤ty)=false:=by simpa using t0
   obtain⟨c0,fc0,c1,fc1,c2,fc2,c3,fc3,c4,fc4,c5,fc5,lc⟩:=H2.out.bx6;have HV:=Lib.hid (show V=false by rw[← HVE.out,k0];simp);clear t0;go_wp2_with fail;go_ret;exact⟨by rw[HV.out];rfl,HB2.out⟩
end Go.Proofs.YtnbkbenkhkinoaaGreatDoor
namespace Go.Proofs.YtnbkbenkhkinoaaGreatDoor
set_option linter.unusedVariables false
set_option linter.unusedSimpArgs false
def hitB (need:Int) (name:List UInt8) (x:Me):Bool:=decide (need≤x.bx.type)&&(decide (name=[])||decide (x.bx.name=name))
def abF (els:List Me) (need:Int) (name:List UInt8):Nat→Int→Option Int
 | 0,_=>none
 | f+1,p=>if p<0 then none else match els[p.toNat]? with
   | some x=>if hitB need name x=true then some p else abF els need name f x.parent
   | none=>none
def Par (els:List Me):Prop:=∀ (i:Nat) (e:Me),els[i]?=some e→(i=0∧e.parent=-1)∨(0<i∧0≤e.parent∧e.parent<(i:Int))
theorem abF_fuel {els:List Me} (hp:Par els) (need:Int) (name:List UInt8):∀ (f g:Nat) (p:Int),p<(f:Int)→p<(g:Int)→0<f→0<g→abF els need name f p=abF els need name g p
 | 0,_,_,_,_,h,_=>absurd h (by omega)
 | _+1,0,_,_,_,_,h=>absurd h (by omega)
 | f+1,g+1,p,h1,h2,_,_=>by
   unfold abF
   by_cases hn:p<0
   · rw[if_pos hn,if_pos hn]
   rw[if_neg hn,if_neg hn]
   cases hx:els[p.toNat]? with
   | none=>rfl
   | some x =>
     by_cases hh:hitB need name x=true
     · simp only[hh,if_true]
     · simp only[hh]
       rcases hp _ x hx with ⟨h3,h4⟩ | ⟨h3,h4,h5⟩
       · rw[h4]
         cases f<;>cases g<;>simp[abF]
       · exact abF_fuel hp need name f g x.parent (by omega) (by omega) (by omega) (by omega)
def abG (els:List Me) (need:Int) (name:List UInt8) (p:Int):Option Int:=abF els need name (p.toNat+1) p
theorem abG_neg (els:List Me) (need:Int) (name:List UInt8) {p:Int} (h:p<0):abG els need name p=none:=by
 unfold abG abF;rw[if_pos h]
theorem abG_step {els:List Me} (hp:Par els) (need:Int) (name:List UInt8) {i:Nat} {x:Me} (hx:els[i]?=some x):abG els need name (i:Int)=if hitB need name x=true then some (i:Int) else abG els need name x.parent:=by
 unfold abG;rw[abF,if_neg (by omega),Int.toNat_natCast,hx]
 by_cases hh:hitB need name x=true
 · simp only[hh,if_true]
 · simp only[hh]
   rcases hp _ x hx with ⟨h3,h4⟩ | ⟨h3,h4,h5⟩
   · rw[h4]
     cases i<;>simp[abF]
   · exact abF_fuel hp need name _ _ _ (by omega) (by omega) (by omega) (by omega)
def findF (els:List Me) (need:Int) (name:List UInt8) (id:Int):Option Int:=if 0≤id then (match els[id.toNat]? with
 | some e=>abG els need name e.parent
 | none=>none) else none
end Go.Proofs.YtnbkbenkhkinoaaGreatDoor
namespace Go.Proofs.YtnbkbenkhkinoaaGreatDoor
set_option linter.unusedVariables false
set_option linter.unusedSimpArgs false
open Go.RowKit
theorem Sl.front {w:World} {oa oa':Option Addr} {n cap b o:Nat} {vs:List Value} (h:Sl w oa n cap b o 1 vs) {k:Nat} (hk:k≤n) (ha:0<n-k→oa'=some ⟨b,o+k,none⟩):Sl w oa' (n-k) (cap-k) b (o+k) 1 (vs.drop k) :=
 ⟨(h.drop hk).len,(h.drop hk).le,(h.drop hk).max,fun hp=>⟨ha hp,(h.lies (by omega)).2⟩,(h.drop hk).cell⟩
theorem conv_sl {w:World} {oa:Option Addr} {cap b o:Nat} {l:List UInt8} (h:Sl w oa l.length cap b o 1 (bytesV l)) :
  (convert 112 9 (.slice oa l.length cap)).run Tryz.prog w=.ok (.string ⟨l.toArray⟩) w:=by
 cases l with
 | nil =>
   cases oa with
   | none=>exact run_convert_bytes_nil _ _ _ Tryz.underlying112 Tryz.underlying5 _ _ _ Tryz.underlying9
   | some a=>exact run_convert_bytes_back w _ _ _ a cap [] Tryz.underlying112 Tryz.underlying5 Tryz.underlying9 (fun j hj=>absurd hj (Nat.not_lt_zero _))
 | cons c r =>
   obtain⟨rfl,_⟩:=h.lies (by simp);refine run_convert_bytes_back w _ _ _ ⟨b,o,none⟩ cap (c::r) Tryz.underlying112 Tryz.underlying5 Tryz.underlying9 (fun j hj=>?_);rw[Addr.add_lit];exact h.cell j _ (bytesV_at hj)
end Go.Proofs.YtnbkbenkhkinoaaGreatDoor
namespace Go.Proofs.YtnbkbenkhkinoaaGreatDoor
set_option linter.unusedVariables false
set_option linter.unusedSimpArgs false
def kidsF (els:List Me) (i:Nat):List Nat:=match els[i]? with
 | some e=>e.ks.l
 | none=>[]
theorem kidsF_at {els:List Me} {i:Nat} {e:Me} (h:els[i]?=some e):kidsF els i=e.ks.l:=by
 unfold kidsF;rw[h]
theorem dptF_fuel {els:List Me} (hp:Par els):∀ (f g i:Nat),i<f→i<g→dptF els f i=dptF els g i
 | 0,_,_,h,_=>absurd h (Nat.not_lt_zero _)
 | _+1,0,_,_,h=>absurd h (Nat.not_lt_zero _)
 | f+1,g+1,i,h1,h2=>by
   unfold dptF
   cases hx:els[i]? with
   | none=>rfl
   | some x =>
     simp only
     rcases hp _ x hx with ⟨h3,h4⟩ | ⟨h3,h4,h5⟩
     · rw[h4,if_pos (by decide),if_pos (by decide)]
     · rw[if_neg (by omega),if_neg (by omega),dptF_fuel hp f g _ (by omega) (by omega)]
theorem dpt_root {els:List Me} {i:Nat} {e:Me} (he:els[i]?=some e) (h:e.parent<0):dpt els i=1:=by
 unfold dpt dptF;rw[he];simp only;rw[if_pos h]
theorem dpt_step {els:List Me} (hp:Par els) {i p:Nat} {e:Me} (he:els[i]?=some e) (h:e.parent=(p:Int)):dpt els i=dpt els p+1:=by
 unfold dpt;rw[dptF,he];simp only;rw[if_neg (by omega),h,Int.toNat_natCast]
 rcases hp _ e he with ⟨h3,h4⟩ | ⟨h3,h4,h5⟩
 · omega
 · rw[dptF_fuel hp i (p+1) p (by omega) (by omega)]
def wS (K:Nat→List Nat) (φ:Nat→Nat):Nat→Nat→Nat
 | 0,_=>0
 | f+1,i=>φ i+((K i).map (wS K φ f)).sum
def insK (K:Nat→List Nat) (p N:Nat):Nat→List Nat:=fun i=>if i=p then N::K p else K i
theorem sum_eq {l:List Nat} {f g:Nat→Nat} (h:∀ k∈l,f k=g k):(l.map f).sum=(l.map g).sum:=by
 rw[List.map_congr_left h]
theorem sum_add {f g:Nat→Nat} (c:Nat):∀ l:List Nat,(l.map fun k=>f k+c*g k).sum=(l.map f).sum+c*(l.map g).sum
 | []=>by simp
 | x::l=>by
   simp only[List.map_cons,List.sum_cons];rw[sum_add c l,Nat.mul_add];omega
def isN (p:Nat):Nat→Nat:=fun i=>if i=p then 1 else 0
theorem wS_ins {K:Nat→List Nat} {N p:Nat} (φ:Nat→Nat) (hK:∀ i k,k∈K i→i<k∧k<N) (hN:K N=[]) (hp:p<N):∀ (f i:Nat),i<N→N≤i+f→wS (insK K p N) φ (f+1) i=wS K φ f i + φ N*wS K (isN p) f i
 | 0,i,h1,h2=>absurd h1 (by omega)
 | f+1,i,h1,h2=>by
   have ih:∀ k∈K i,wS (insK K p N) φ (f+1) k=wS K φ f k + φ N*wS K (isN p) f k:=fun k hk=>by
    have:=hK i k hk;exact wS_ins φ hK hN hp f k this.2 (by omega)
   rw[wS,wS,wS]
   by_cases hip:i=p
   · subst hip
     have hNN:wS (insK K i N) φ (f+1) N=φ N:=by
      rw[wS];unfold insK;rw[if_neg (by omega),hN];simp
     rw[show insK K i N i=N::K i from if_pos rfl,List.map_cons,List.sum_cons,hNN,sum_eq ih,sum_add,show isN i i=1 from if_pos rfl,Nat.mul_add];omega
   · rw[show insK K p N i=K i from if_neg hip,sum_eq ih,sum_add,show isN p i=0 from if_neg hip,Nat.zero_add];omega
theorem wS_ext {K K':Nat→List Nat} (h:∀ i,K i=K' i) (φ:Nat→Nat) (f i:Nat):wS K φ f i=wS K' φ f i:=by rw[show K=K' from funext h]
structure Good (els:List Me):Prop where
 pos:0<els.length
 par:Par els
 el:∀ (i:Nat) (e:Me),els[i]?=some e→nameB e.tag=true∧boxB e.bx=true∧dpt els i≤32∧e.ks.l.Nodup
 kid:∀ i k:Nat,k∈kidsF els i↔∃ e,els[k]?=some e∧e.parent=(i:Int)
 sum:((List.range els.length).map fun i=>(kidsF els i).length).sum+1=els.length
 all:∀ φ:Nat→Nat,wS (kidsF els) φ els.length 0=((List.range els.length).map φ).sum
theorem Good.up {els:List Me} (h:Good els) {i k:Nat} (hk:k∈kidsF els i):i<k∧k<els.length:=by
 obtain⟨e,he,hp⟩:=(h.kid i k).1 hk
 rcases h.par k e he with ⟨-,h4⟩ | ⟨-,-,h5⟩
 · omega
 · exact⟨by omega,(List.getElem?_eq_some_iff.1 he).1⟩
theorem kidsF_out {els:List Me} {i:Nat} (h:els.length≤i):kidsF els i=[]:=by
 unfold kidsF;rw[List.getElem?_eq_none h]
theorem range_sum_succ (φ:Nat→Nat) (n:Nat):((List.range (n+1)).map φ).sum=((List.range n).map φ).sum + φ n:=by
 rw[List.range_succ,List.map_append,List.sum_append];simp
theorem sum_isN {p:Nat}:∀ N:Nat,((List.range N).map (isN p)).sum=if p<N then 1 else 0
 | 0=>by simp
 | N+1=>by
   rw[range_sum_succ,sum_isN N];unfold isN
   by_cases h:N=p
   · subst h;simp
   · rw[if_neg h,Nat.add_zero]
     by_cases h2:p<N
     · rw[if_pos h2,if_pos (by omega)]
     · rw[if_neg h2,if_neg (by omega)]
section
variable {els:List Me} {p i:Nat} {e:Me} {ks:Ks} {tag:List UInt8} {gN:Nat} {b:Bx}
theorem ins_at (he:els[p]?=some e) (j:Nat):(els.set p { e with ks:=ks }++[newEl p tag gN])[j]?=if j=p then some { e with ks:=ks } else if j=els.length then some (newEl p tag gN) else els[j]?:=by
 have hp:=(List.getElem?_eq_some_iff.1 he).1
 by_cases h1:j=p
 · subst h1;rw[if_pos rfl,List.getElem?_append_left (by rw[List.length_set];exact hp),List.getElem?_set_self hp]
 · rw[if_neg h1]
   by_cases h2:j=els.length
   · subst h2;rw[if_pos rfl,List.getElem?_append_right (by rw[List.length_set];exact Nat.le_refl _),List.length_set,Nat.sub_self];rfl
   · rw[if_neg h2]
     by_cases h3:j<els.length
     · rw[List.getElem?_append_left (by rw[List.length_set];exact h3),List.getElem?_set_ne (Ne.symm h1)]
     · rw[List.getElem?_eq_none (by rw[List.length_append,List.length_set,List.length_singleton];omega),List.getElem?_eq_none (by omega)]
theorem box_at (he:els[i]?=some e) (j:Nat):(els.set i { e with bx:=b })[j]?=if j=i then some { e with bx:=b } else els[j]?:=by
 have hi:=(List.getElem?_eq_some_iff.1 he).1
 by_cases h1:j=i
 · subst h1;rw[if_pos rfl,List.getElem?_set_self hi]
 · rw[if_neg h1,List.getElem?_set_ne (Ne.symm h1)]
theorem kidsF_box (he:els[i]?=some e) (j:Nat):kidsF (els.set i { e with bx:=b }) j=kidsF els j:=by
 unfold kidsF;rw[box_at he]
 by_cases h1:j=i
 · subst h1;rw[if_pos rfl,he]
 · rw[if_neg h1]
theorem dptF_box (he:els[i]?=some e):∀ f j:Nat,dptF (els.set i { e with bx:=b }) f j=dptF els f j
 | 0,_=>rfl
 | f+1,j=>by
   rw[dptF,dptF,box_at he]
   by_cases h1:j=i
   · rw[if_pos h1,show els[j]?=some e by rw[h1];exact he];simp only;rw[dptF_box he f]
   · rw[if_neg h1]
     cases els[j]? with
     | none=>rfl
     | some x =>
       simp only;rw[dptF_box he f]
theorem kidsF_ins (he:els[p]?=some e) (hk:ks.l=els.length::e.ks.l) (j:Nat):kidsF (els.set p { e with ks:=ks }++[newEl p tag gN]) j=insK (kidsF els) p els.length j:=by
 have hp:=(List.getElem?_eq_some_iff.1 he).1;unfold insK
 by_cases h1:j=p
 · subst h1;rw[if_pos rfl,kidsF_at he];unfold kidsF;rw[ins_at he,if_pos rfl];exact hk
 · rw[if_neg h1];unfold kidsF;rw[ins_at he,if_neg h1]
   by_cases h2:j=els.length
   · subst h2;rw[if_pos rfl,List.getElem?_eq_none (Nat.le_refl _)];rfl
   · rw[if_neg h2]
theorem dptF_ins (hpar:Par els) (he:els[p]?=some e):∀ f j:Nat,j<els.length→dptF (els.set p { e with ks:=ks }++[newEl p tag gN]) f j=dptF els f j
 | 0,_,_=>rfl
 | f+1,j,hj=>by
   have hlow:∀ x:Me,els[j]?=some x→x.parent.toNat<els.length:=fun x hx=>by
    rcases hpar j x hx with ⟨h3,h4⟩ | ⟨h3,h4,h5⟩
    · rw[h4];show (-1:Int).toNat<_;exact Nat.lt_of_le_of_lt (Nat.zero_le _) hj
    · omega
   rw[dptF,dptF,ins_at he]
   by_cases h1:j=p
   · rw[if_pos h1,show els[j]?=some e by rw[h1];exact he];simp only;rw[dptF_ins hpar he f _ (hlow e (by rw[h1];exact he))]
   · rw[if_neg h1,if_neg (by omega)]
     cases hx:els[j]? with
     | none=>rfl
     | some x =>
       simp only;rw[dptF_ins hpar he f _ (hlow x hx)]
end
theorem Gr.good {els:List Me} (h:Gr els):Good els:=by
 induction h with
 | @root tag g ht =>
   have hone:∀ (i:Nat) (e:Me),([⟨-1,tag,freshX,g,⟨0,0,none,0,[]⟩⟩]:List Me)[i]?=some e→i=0∧e=⟨-1,tag,freshX,g,⟨0,0,none,0,[]⟩⟩:=fun i e he=>by
    cases i with
    | zero=>exact⟨rfl,(Option.some.inj he).symm⟩
    | succ i=>simp at he
   have hk0:∀ i,kidsF [⟨-1,tag,freshX,g,⟨0,0,none,0,[]⟩⟩] i=[]:=fun i=>by
    cases i with
    | zero=>rfl
    | succ i=>rfl
   refine⟨Nat.zero_lt_one,fun i e he=>?_,fun i e he=>?_,fun i k=>?_,?_,fun φ=>?_⟩
   · obtain⟨rfl,rfl⟩:=hone i e he;exact .inl ⟨rfl,rfl⟩
   · obtain⟨rfl,rfl⟩:=hone i e he;exact⟨ht,by show boxB freshX=true;decide +kernel,by rw[dpt_root (els:=[⟨-1,tag,freshX,g,⟨0,0,none,0,[]⟩⟩]) (i:=0) rfl (show (-1:Int)<0 by decide)];decide,List.nodup_nil⟩
   · rw[hk0];constructor
     · intro h
       cases h
     · rintro⟨e,he,hp⟩;obtain⟨rfl,rfl⟩:=hone k e he;have hp:(-1:Int)=(i:Int):=hp;omega
   · show ((List.range 1).map _).sum+1=1;simp[hk0]
   · show wS _ φ 1 0=_;rw[wS,hk0];simp
 | @box els i e b _ he hb ih =>
   have hlen:(els.set i { e with bx:=b }).length=els.length:=List.length_set ..
   have hkf:=fun j=>kidsF_box (b:=b) he j
   refine⟨by rw[hlen];exact ih.pos,fun j f hf=>?_,fun j f hf=>?_,fun j k=>?_,?_,fun φ=>?_⟩
   · rw[box_at he]at hf;split at hf
     · rename_i hj
       subst hj;obtain rfl:=Option.some.inj hf;exact ih.par _ e he
     · exact ih.par j f hf
   · have hd:dpt (els.set i { e with bx:=b }) j=dpt els j:=dptF_box he _ _;rw[hd];rw[box_at he]at hf;split at hf
     · rename_i hj
       subst hj;obtain rfl:=Option.some.inj hf;have:=ih.el _ e he;exact⟨this.1,hb,this.2.2⟩
     · exact ih.el j f hf
   · rw[hkf,ih.kid];constructor
     · rintro⟨f,hf,hp⟩
       by_cases hk:k=i
       · subst hk;rw[he]at hf;obtain rfl:=Option.some.inj hf;exact⟨{ e with bx:=b },by rw[box_at he,if_pos rfl],hp⟩
       · exact⟨f,by rw[box_at he,if_neg hk];exact hf,hp⟩
     · rintro⟨f,hf,hp⟩;rw[box_at he]at hf;split at hf
       · rename_i hk
         subst hk;obtain rfl:=Option.some.inj hf;exact⟨e,he,hp⟩
       · exact⟨f,hf,hp⟩
   · rw[hlen,sum_eq (g:=fun j=>(kidsF els j).length) (fun j _=>by rw[hkf])];exact ih.sum
   · rw[hlen,wS_ext hkf];exact ih.all φ
 | @ins els p e ks tag gN hG he ht hd hk ih =>
   have hp:=(List.getElem?_eq_some_iff.1 he).1
   have hlen:(els.set p { e with ks:=ks }++[newEl p tag gN]).length=els.length+1:=by rw[List.length_append,List.length_set,List.length_singleton]
   have hkf:=fun j=>kidsF_ins (tag:=tag) (gN:=gN) he hk j
   have hout:=kidsF_out (els:=els) (Nat.le_refl _)
   have hpar:Par (els.set p { e with ks:=ks }++[newEl p tag gN]):=fun j f hf=>by
    rw[ins_at he]at hf;split at hf
    · rename_i hj
      subst hj;obtain rfl:=Option.some.inj hf;exact ih.par _ e he
    · split at hf
      · rename_i hj
        subst hj;obtain rfl:=Option.some.inj hf;exact .inr ⟨ih.pos,by simp[newEl],by show ((p:Nat):Int)<_;omega⟩
      · exact ih.par j f hf
   refine⟨by rw[hlen];exact Nat.succ_pos _,hpar,fun j f hf=>?_,fun j k=>?_,?_,fun φ=>?_⟩
   · rw[ins_at he]at hf;split at hf
     · rename_i hj
       subst hj;obtain rfl:=Option.some.inj hf;have h3:=ih.el _ e he;have hdp:dpt (els.set j { e with ks:=ks }++[newEl j tag gN]) j=dpt els j:=dptF_ins ih.par he _ _ hp;refine⟨h3.1,h3.2.1,by rw[hdp];exact h3.2.2.1,?_⟩;show ks.l.Nodup;rw[hk];refine List.nodup_cons.2 ⟨fun hm=>?_,h3.2.2.2⟩;have:=(ih.up (i:=j) (k:=els.length) (by rw[kidsF_at he];exact hm)).2;omega
     · split at hf
       · rename_i hj
         subst hj;obtain rfl:=Option.some.inj hf
         have hat:(els.set p { e with ks:=ks }++[newEl p tag gN])[els.length]?=some (newEl p tag gN):=by rw[ins_at he,if_neg (by omega),if_pos rfl]
         have hdn:=dpt_step hpar hat (p:=p) rfl;have hdp:dpt (els.set p { e with ks:=ks }++[newEl p tag gN]) p=dpt els p:=dptF_ins ih.par he _ _ hp;rw[hdp]at hdn;exact⟨ht,by show boxB freshX=true;decide +kernel,by omega,List.nodup_nil⟩
       · have hj:=(List.getElem?_eq_some_iff.1 hf).1;have hdp:dpt (els.set p { e with ks:=ks }++[newEl p tag gN]) j=dpt els j:=dptF_ins ih.par he _ _ hj;rw[hdp];exact ih.el j f hf
   · rw[hkf]
     have hmem:k∈insK (kidsF els) p els.length j↔(j=p∧k=els.length)∨k∈kidsF els j:=by
      unfold insK
      by_cases hj:j=p
      · subst hj;rw[if_pos rfl,List.mem_cons];simp
      · rw[if_neg hj];simp[hj]
     rw[hmem,ih.kid];constructor
     · rintro(⟨rfl,rfl⟩ | ⟨f,hf,hfp⟩)
       · exact⟨_,by rw[ins_at he,if_neg (by omega),if_pos rfl],rfl⟩
       · by_cases hkp:k=p
         · subst hkp;rw[he]at hf;obtain rfl:=Option.some.inj hf;exact⟨{ e with ks:=ks },by rw[ins_at he,if_pos rfl],hfp⟩
         · have:=(List.getElem?_eq_some_iff.1 hf).1;exact⟨f,by rw[ins_at he,if_neg hkp,if_neg (by omega)];exact hf,hfp⟩
     · rintro⟨f,hf,hfp⟩;rw[ins_at he]at hf;split at hf
       · rename_i hkp
         subst hkp;obtain rfl:=Option.some.inj hf;exact .inr ⟨e,he,hfp⟩
       · split at hf
         · rename_i hkn
           obtain rfl:=Option.some.inj hf;have hfp:((p:Nat):Int)=(j:Int):=hfp;exact .inl ⟨by omega,hkn⟩
         · exact .inr ⟨f,hf,hfp⟩
   · rw[hlen,sum_eq (g:=fun j=>(insK (kidsF els) p els.length j).length) (fun j _=>by rw[hkf]),range_sum_succ]
     have e1:(insK (kidsF els) p els.length els.length).length=0:=by
      unfold insK;rw[if_neg (by omega),hout];rfl
     have e2:=sum_add (f:=fun j=>(kidsF els j).length) (g:=isN p) 1 (List.range els.length)
     have e3:((List.range els.length).map fun j=>(insK (kidsF els) p els.length j).length).sum=((List.range els.length).map fun k=>(kidsF els k).length+1*isN p k).sum:=sum_eq fun j _=>by
      unfold insK isN
      by_cases hj:j=p
      · rw[if_pos hj,if_pos hj,hj];rfl
      · rw[if_neg hj,if_neg hj];rfl
     rw[e1,e3,e2,sum_isN,if_pos hp];have:=ih.sum;omega
   · rw[hlen,wS_ext hkf,wS_ins φ (fun i k hki=>ih.up hki) hout hp _ _ ih.pos (by omega),ih.all φ,ih.all,sum_isN,if_pos hp,range_sum_succ,Nat.mul_one]
def sh (e:Me):Int×List UInt8×Bx×List Nat:=(e.parent,e.tag,e.bx,e.ks.l)
def Like (ms els:List Me):Prop:=ms.map sh=els.map sh
section
variable {ms els:List Me}
theorem Like.len (h:Like ms els):ms.length=els.length:=by
 have:=congrArg List.length h;rwa [List.length_map,List.length_map]at this
theorem Like.at_ (h:Like ms els) {i:Nat} {f:Me} (hf:ms[i]?=some f):∃ e,els[i]?=some e∧f.parent=e.parent∧f.tag=e.tag∧f.bx=e.bx∧f.ks.l=e.ks.l:=by
 have h1:(ms.map sh)[i]?=(els.map sh)[i]?:=by rw[show ms.map sh=els.map sh from h]
 rw[List.getElem?_map,List.getElem?_map,hf]at h1
 cases he:els[i]? with
 | none=>rw[he]at h1;cases h1
 | some e =>
   rw[he]at h1;have h2:sh f=sh e:=Option.some.inj h1;unfold sh at h2;simp only[Prod.mk.injEq]at h2;exact⟨e,rfl,h2⟩
theorem Like.symm (h:Like ms els):Like els ms:=Eq.symm h
theorem Like.kids (h:Like ms els) (i:Nat):kidsF ms i=kidsF els i:=by
 unfold kidsF
 cases hf:ms[i]? with
 | none =>
   have hl:=h.len;rw[List.getElem?_eq_none (by rw[← hl];exact List.getElem?_eq_none_iff.1 hf)]
 | some f =>
   obtain⟨e,he,-,-,-,hk⟩:=h.at_ hf;rw[he];exact hk
theorem Like.dptF (h:Like ms els):∀ f i:Nat,dptF ms f i=Go.Proofs.YtnbkbenkhkinoaaGreatDoor.dptF els f i
 | 0,_=>rfl
 | f+1,i=>by
   rw[Go.Proofs.YtnbkbenkhkinoaaGreatDoor.dptF,Go.Proofs.YtnbkbenkhkinoaaGreatDoor.dptF]
   cases hf:ms[i]? with
   | none =>
     have hl:=h.len;rw[List.getElem?_eq_none (by rw[← hl];exact List.getElem?_eq_none_iff.1 hf)]
   | some x =>
     obtain⟨e,he,hp,-⟩:=h.at_ hf;rw[he];simp only;rw[hp,Like.dptF h f]
theorem Like.par (h:Like ms els) (hp:Par els):Par ms:=fun i f hf=>by
 obtain⟨e,he,h1,-⟩:=h.at_ hf;rw[h1];exact hp i e he
theorem Like.good (h:Like ms els) (hG:Good els):Good ms:=by
 have hl:=h.len;have hk:=h.kids;refine⟨by rw[hl];exact hG.pos,h.par hG.par,fun i f hf=>?_,fun i k=>?_,?_,fun φ=>?_⟩
 · obtain⟨e,he,-,h2,h3,h4⟩:=h.at_ hf;have hd:dpt ms i=dpt els i:=h.dptF _ _;rw[h2,h3,h4,hd];exact hG.el i e he
 · rw[hk,hG.kid];constructor
   · rintro⟨e,he,hp⟩;obtain⟨f,hf,h1,-⟩:=h.symm.at_ he;exact⟨f,hf,by rw[← h1];exact hp⟩
   · rintro⟨f,hf,hp⟩;obtain⟨e,he,h1,-⟩:=h.at_ hf;exact⟨e,he,by rw[← h1];exact hp⟩
 · rw[hl,sum_eq (g:=fun j=>(kidsF els j).length) (fun j _=>by rw[hk])];exact hG.sum
 · rw[hl,wS_ext hk];exact hG.all φ
theorem Like.abF (h:Like ms els) (R:Int) (nm:List UInt8):∀ (f:Nat) (p:Int),abF ms R nm f p=Go.Proofs.YtnbkbenkhkinoaaGreatDoor.abF els R nm f p
 | 0,_=>rfl
 | f+1,p=>by
   rw[Go.Proofs.YtnbkbenkhkinoaaGreatDoor.abF,Go.Proofs.YtnbkbenkhkinoaaGreatDoor.abF]
   by_cases hn:p<0
   · rw[if_pos hn,if_pos hn]
   rw[if_neg hn,if_neg hn]
   cases hf:ms[p.toNat]? with
   | none =>
     have hl:=h.len;rw[List.getElem?_eq_none (by rw[← hl];exact List.getElem?_eq_none_iff.1 hf)]
   | some x =>
     obtain⟨e,he,hp,-,hb,-⟩:=h.at_ hf;rw[he];simp only;rw[hp,show hitB R nm x=hitB R nm e by unfold hitB;rw[hb],Like.abF h R nm f]
theorem Like.findF (h:Like ms els) (R:Int) (nm:List UInt8) (id:Int):findF ms R nm id=Go.Proofs.YtnbkbenkhkinoaaGreatDoor.findF els R nm id:=by
 unfold Go.Proofs.YtnbkbenkhkinoaaGreatDoor.findF
 by_cases h0:0≤id
 · rw[if_pos h0,if_pos h0]
   cases hf:ms[id.toNat]? with
   | none =>
     have hl:=h.len;rw[List.getElem?_eq_none (by rw[← hl];exact List.getElem?_eq_none_iff.1 hf)]
   | some x =>
     obtain⟨e,he,hp,-⟩:=h.at_ hf;rw[he];simp only;unfold abG;rw[hp,h.abF]
 · rw[if_neg h0,if_neg h0]
end
end Go.Proofs.YtnbkbenkhkinoaaGreatDoor
namespace Go.Proofs.YtnbkbenkhkinoaaGreatDoor
set_option linter.unusedVariables false
set_option linter.unusedSimpArgs false
open Go.RowKit
def plainB (l:List UInt8):Prop:=∀ c∈l,14≤c.toNat∧c.toNat<128
def runeF (l:List UInt8):List Int:=l.map fun c=>(c.toNat:Int)
theorem runeF_take (l:List UInt8) {i:Nat} (h:i<l.length):runeF (l.take (i+1))=runeF (l.take i)++[((l[i]).toNat:Int)]:=by
 unfold runeF;rw[List.take_succ_eq_append_getElem h,List.map_append];rfl
theorem oneS_any (l:List UInt8) (oa:Option Addr) (cap b o i:Nat) (w:World) (hs:Sl w oa l.length cap b o 1 (bytesV l)) (hi:i<l.length) (hp:plainB l) (hm:l.length≤1000) :
  Calls Tryz.prog 157 #[.slice oa l.length cap,.int .i64 i] w fun e w'=>e=.returned (.tuple #[.int .i32 ((l[i]).toNat:Int),.int .i64 1,.bool true])∧w'=w:=by
 obtain⟨rfl,hbl⟩:=hs.lies (by omega);have hcell:=hs.cell i _ (bytesV_at hi);have hc:=(hp _ (List.getElem_mem hi)).2;generalize (l[i]).toNat=c at *
 have g1:decide ((c:Int)<(128:Int))=true:=by simp;omega
 clear hs hp
 go_enter Tryz.func157,Tryz.ntmps157
 go_wp2_with fail;exact bodyPost_ret (v:=.tuple #[.int .i32 c,.int .i64 1,.bool true]) (by simp[results,Tryz.results157,go_sem]) rfl ⟨rfl,rfl⟩
set_option maxRecDepth 20000 in
set_option maxHeartbeats 4000000 in
theorem rawS_any (l:List UInt8) (oa:Option Addr) (cap b o:Nat) (w:World) (hs:Sl w oa l.length cap b o 1 (bytesV l)) (hp:plainB l) (hm:l.length≤1000) :
  Calls Tryz.prog 109 #[.slice oa l.length cap] w fun e w'=>(∃ v,e=.returned v∧Rw w w' 21 1 v l.length (runesV (runeF l))):=by
 have HS:=Lib.hid (And.intro hs hp);clear hs hp
 go_enter Tryz.func109,Tryz.ntmps109
 go_wp2_with fail
 go_loopg [3,4] l.length (fun q s3 s4 wr=>∃ (i:Nat) (v:Value),v=s3∧s4=.int .i64 i∧Hid (Rw w wr 21 1 v i (runesV (runeF (l.take i))))∧i≤l.length∧l.length-i≤q)
 case atStart=>exact⟨0,_,rfl,rfl,Lib.hid (Rw.start _ _ _),Nat.zero_le _,by omega⟩
 case round =>
  obtain⟨i,v,rfl,rfl,hR,hi4,hq⟩:=hrel
  by_cases hi:i<l.length
  · have gi:decide ((i:Int)<(l.length:Int))=true:=by simpa using hi
    have gin:decide (i<l.length)=true:=by simpa using hi
    have HO:=Lib.hid (fun wx hb=>oneS_any l oa cap b o i wx (HS.out.1.below (w':=wx) hb) hi HS.out.2 hm);have HT:=Lib.hid (runeF_take l hi);generalize (l[i]).toNat=x at *;go_wp2_with fail;go_wp2_with fail
    ((with_reducible refine(HO.out _ hR.out.below).mono ?_);rintro e w' ⟨rfl,rfl⟩)
    go_wp2_with (at_builtin;refine wpList_push elRune rfl _ _ rfl rfl hR.out 1 1 #[.int .i32 x] _ rfl rfl (by simp[Value.oneCell']) (by omega) (by omega) (by omega) ?_;intro g2 cap2 w2 hR2 hg2;have HR2:=Lib.hid hR2;clear hR2 hg2)
    go_roundg (l.length-(i+1))
    case measure=>omega
    case rel=>exact⟨i+1,_,rfl,by go_num,Lib.hid (by have:=HR2.out;rw[HT.out];simpa[runesV] using this),hi,Nat.le_refl _⟩
  · have gi:decide ((i:Int)<(l.length:Int))=false:=by simpa using hi
    have gin:decide (i<l.length)=false:=by simpa using hi
    obtain rfl:i=l.length:=by omega
    have hR2:=hR.out;rw[List.take_length]at hR2;have HR2:=Lib.hid hR2;clear hR2 hR;go_wp2_with fail;go_ret;exact⟨_,rfl,HR2.out⟩
set_option maxRecDepth 20000 in
set_option maxHeartbeats 4000000 in
theorem decodeS_any (l:List UInt8) (oa:Option Addr) (cap b o:Nat) (w:World) (hs:Sl w oa l.length cap b o 1 (bytesV l)) (hp:plainB l) (hm:l.length≤1000) (h3:3≤l.length) :
  Calls Tryz.prog 76 #[.slice oa l.length cap] w fun e w'=>(∃ v,e=.returned v∧Rw w w' 21 1 v l.length (runesV (runeF l))):=by
 have h0:0<l.length:=by omega
 obtain⟨rfl,hbl⟩:=hs.lies h0;have f0:=hs.cell 0 _ (bytesV_at h0);rw[Nat.add_zero]at f0;have hc0:=(hp _ (List.getElem_mem h0)).2;have HR:=Lib.hid (rawS_any l _ cap b o w hs hp hm);have HP:=Lib.hid hp;generalize (l[0]).toNat=c at *
 have g0:((c:Int)==239)=false:=by simp;omega
 have hcap:=hs.le;obtain⟨N,hN⟩:∃ N,l.length=N:=⟨_,rfl⟩;have HN:=Lib.hid hN;rw[hN]at HR hm h3 h0 hcap ⊢
 have g1:decide ((3:Int)≤(N:Int))=true:=by simp;omega
 clear hs hp hN
 go_enter Tryz.func76,Tryz.ntmps76
 go_upto_region 1 with fail
 go_cut [28] from 8 to 28 (fun s wx=>s=.bool false∧wx=w)
 case first =>
  go_wp2_with fail;go_meet;exact⟨rfl,rfl⟩
 obtain⟨rfl,e⟩:=hcut;subst e;go_wp2_with fail
 ((with_reducible refine HR.out.mono ?_);rintro e w' ⟨v,rfl,hRw⟩)
 obtain⟨yo,yc,yb,rfl,hsl,_⟩:=hRw.sl;have HSL:=Lib.hid (And.intro hsl hRw.below);clear hRw hsl HR f0;go_wp2_with fail
 go_loopg [3,4,34] N (fun q s3 s4 s34 wr=>∃ (i:Nat) (last:Int) (v:Value),v=s3∧s4=.int .i32 last∧s34=.int .i64 i∧last≠13∧Hid (Rw w' wr 21 1 v i (runesV (runeF (l.take i))))∧i≤N∧N-i≤q)
 case atStart=>exact⟨0,0,_,rfl,rfl,rfl,by decide,Lib.hid (Rw.start _ _ _),Nat.zero_le _,by omega⟩
 case round =>
  obtain⟨i,last,v,rfl,rfl,rfl,hl13,hR,hiN,hq⟩:=hrel
  by_cases hi:i<N
  · have gi:decide ((i:Int)<(N:Int))=true:=by simpa using hi
    have gin:decide (i<N)=true:=by simpa using hi
    have hil:i<l.length:=by rw[HN.out];exact hi
    have hsl2:=HSL.out.1.below hR.out.below;obtain⟨rfl,hyb⟩:=hsl2.lies (by omega);have hcell:=hsl2.cell i _ (runesV_at (l:=runeF l) (by unfold runeF;rw[List.length_map];exact hil));rw[Nat.zero_add,show (runeF l)[i]'(by unfold runeF;rw[List.length_map];exact hil)=((l[i]).toNat:Int) by unfold runeF;rw[List.getElem_map]]at hcell;have HT:=Lib.hid (runeF_take l hil);have hx:=HP.out _ (List.getElem_mem hil);generalize (l[i]).toNat=x at *
    have q1:((x:Int)==13)=false:=by simp;omega
    have q2:((x:Int)==12)=false:=by simp;omega
    have q3:((x:Int)==0)=false:=by simp;omega
    have q4:((x:Int) != 10)=true:=by simp;omega
    clear hsl2;go_wp2_with (at_builtin;refine wpList_push elRune rfl _ _ rfl rfl hR.out 1 1 #[_] _ rfl rfl (by simp[Value.oneCell']) (by omega) (by omega) (by omega) ?_;intro g2 cap2 w2 hR2 hg2;have HR2:=Lib.hid hR2;clear hR2 hg2)
    go_roundg (N-(i+1))
    case measure=>omega
    case rel=>exact⟨i+1,_,_,rfl,rfl,by go_num,by omega,Lib.hid (by have:=HR2.out;rw[HT.out];simpa[runesV] using this),hi,Nat.le_refl _⟩
  · obtain rfl:i=N:=by omega
    have gi:decide ((i:Int)<(i:Int))=false:=by simp
    have gin:decide (i<i)=false:=by simp
    have hR2:=hR.out;rw[List.take_of_length_le (by rw[HN.out];exact Nat.le_refl _)]at hR2;have HR2:=Lib.hid hR2;clear hR2 hR hcap;go_wp2_with fail;go_ret;exact⟨_,rfl,HR2.out.base HSL.out.2⟩
end Go.Proofs.YtnbkbenkhkinoaaGreatDoor
