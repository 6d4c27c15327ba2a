/- Of my texts: DmC. -/
import Derived.Test.YtnbkbenkhkinoaaGreatDoorM08
import Derived.Test.YtnbkbenkhkinoaaGreatDoorM11
import Derived.Shelf.Spec.SlicesInsertGrow
namespace Go.Proofs.YtnbkbenkhkinoaaGreatDoor
set_option linter.unusedVariables false
set_option linter.unusedSimpArgs false
open Go.RowKit Go.Maps Go.Shelf Go.Lib
def Tryz.laysIN_ren:Ren:=⟨fun x=>if x=21 then 38 else if x=27 then 54 else if x=28 then 55 else if x=35 then 77 else if x=39 then 110 else x,fun x=>if x=22 then 22 else if x=3 then 3 else if x=4 then 4 else if x=0 then 0 else x,fun x=>x⟩
theorem Tryz.laysIN:Lays2.n21 Tryz.prog Tryz.laysIN_ren:={
 mixed:=(by kernel_rfl),
 f21:=Tryz.func38.trans (congrArg some (by kernel_rfl)),
 f27:=Tryz.func54.trans (congrArg some (by kernel_rfl)),
 f28:=Tryz.func55.trans (congrArg some (by kernel_rfl)),
 f35:=Tryz.func77.trans (congrArg some (by kernel_rfl)),
 f39:=Tryz.func110.trans (congrArg some (by kernel_rfl)),
 t0:=Tryz.underlying0,
 a0:=Tryz.isAgg0,
 z0:=Tryz.sizeOf0,
 v0:=Tryz.zeroValue0,
 t3:=Tryz.underlying3,
 a3:=Tryz.isAgg3,
 z3:=Tryz.sizeOf3,
 v3:=Tryz.zeroValue3,
 t4:=Tryz.underlying4,
 a4:=Tryz.isAgg4,
 z4:=Tryz.sizeOf4,
 v4:=Tryz.zeroValue4,
 t22:=Tryz.underlying22,
 a22:=Tryz.isAgg22,
 z22:=Tryz.sizeOf22,
 v22:=Tryz.zeroValue22,
 i3:=(by kernel_rfl) }
theorem zero_ints (n:Nat):Builtin.zeroCells (Value.int .i64 0).cells n=(List.replicate n (Value.int .i64 0)).toArray:=by
 have hc:(Value.int IntKind.i64 0).cells=#[.int .i64 0]:=rfl;unfold Builtin.zeroCells;rw[hc]
 apply Array.ext
 · simp
 · intro i h1 h2;simp[Nat.mod_one]
theorem mem_map_int {l:List Int} {v:Value} (h:v∈l.map (Value.int .i64)):∃ x,v=.int .i64 x:=by
 obtain⟨x,-,rfl⟩:=List.mem_map.1 h;exact⟨x,rfl⟩
theorem setCells_grown (b:Nat):∀ (vs:List Value) (o:Nat) (w:World),w.grownBy (w.setCells b o vs) (some b)
 | [],_,w=>⟨rfl,rfl,rfl,Nat.le_refl _,fun _ _ _=>rfl⟩
 | v::r,o,w=>by
   rw[World.setCells];exact grownBy_trans (grownBy_set w ⟨b,o,none⟩ v) (setCells_grown b r (o+1) _)
theorem drew_grown (w:World) (row:Option Nat):w.grownBy w.drew row:=⟨rfl,rfl,rfl,Nat.le_refl _,fun _ _ _=>rfl⟩
theorem IntL.drew {w:World} {b:Nat} {L:List Int} (h:IntL w b L):IntL w.drew b L:=h
theorem ins_list (l:List Int) (x:Int) {n:Nat} (hn:n+1≤l.length):∃ T:List Int,([]:List Int)++[x]++(l.take 1++l.take n++l.drop (1+(l.take n).length)).drop 1=x::(l.take n++T)∧T.length+n+1=l.length:=by
 have h1:(l.take 1).length=1:=by rw[List.length_take];omega
 have h2:(l.take n).length=n:=by rw[List.length_take];omega
 refine⟨l.drop (1+n),?_,by rw[List.length_drop];omega⟩;rw[h2,List.append_assoc (l.take 1),List.drop_left' h1];simp
theorem KsIn.mk {w:World} {k:Ks} {T:List Int} {x:Nat} {n:Nat} {kl:List Nat} {L:List Int} (hB:IntL w k.b ((x:Int)::(L++T))) (h1:k.oa=some ⟨k.b,0,none⟩) (hn:k.n=n+1) (hc:k.n≤k.cap) (hm:k.cap≤maxLen) (hl:k.l=x::kl) (hL:L=natI kl) (hLn:L.length=n) (hT:n+1+T.length=k.cap):KsIn w k:=by
 refine .inr ⟨h1,by omega,hc,hm,_,?_,?_,hB⟩
 · rw[List.length_cons,List.length_append];omega
 · rw[hn,List.take_succ_cons,← hLn,List.take_left,hl,hL];rfl
set_option maxHeartbeats 4000000 in
theorem insertI_any (k:Ks) (x:Nat) (vb:Nat) (w:World) (hk:KsIn w k) (hn:k.n≤1000) (hv:Blk w vb 3 #[.int .i64 (x:Int)]) (hvb:k.oa≠none→vb≠k.b) :
  Calls Tryz.prog 38 #[ksV k,.int .i64 0,.slice (some ⟨vb,0,none⟩) 1 1] w fun e w'=>∃ k2:Ks,e=.returned (ksV k2)∧k2.n=k.n+1∧k2.l=x::k.l∧KsIn w' k2∧((k.oa≠none∧k2.b=k.b∧w.grownBy w' (some k.b))∨(w.heap.size≤k2.b∧w.grownBy w' none)):=by
 obtain⟨n,cap,oa,b,kl⟩:=k
 have hvs:∀ (j:Nat) (v:Value),([.int .i64 (x:Int)]:List Value)[j]?=some v→w.cell? ⟨vb,0+j,none⟩=some v:=fun j v hj=>by
  cases j with
  | zero=>rw[← Option.some.inj hj];exact hv.cell 0
  | succ j=>simp at hj
 have h1v:∀ v∈([.int .i64 (x:Int)]:List Value),v.oneCell'=true:=fun v hv=>by
  obtain rfl:=List.mem_singleton.1 hv;rfl
 rcases hk with ⟨e0,e1,e2,e3⟩ | ⟨e0,h0,hle,hmx,l,hl,ht,hB⟩
 · have e0:oa=none:=e0;have e1:n=0:=e1;have e2:cap=0:=e2;have e3:kl=[]:=e3;subst e0 e1 e2 e3;refine(Any2.slices_Insert_int_end_grow (ρ:=Tryz.laysIN_ren) Tryz.laysIN none 0 0 vb 0 1 1 [] [.int .i64 (x:Int)] w (by omega) (Nat.le_refl _) (by omega) (by omega) rfl rfl (fun _=>rfl) (fun a h=>by cases h) hvs h1v).mono ?_;rintro e w' ⟨rfl,rfl⟩;have hc1:=grownCap_ge w (0+1) 0 (Tryz.laysIN_ren.t 3);have hc2:=grownCap_le_maxLen w (0+1) 0 (Tryz.laysIN_ren.t 3) (by unfold maxLen;omega);obtain⟨C,hC⟩:∃ C,grownCap w (0+1) 0 (Tryz.laysIN_ren.t 3)=C:=⟨_,rfl⟩;rw[hC]at hc1 hc2 ⊢;have h3:=Blk.new w.drew 3 (([.int .i64 (x:Int)]:List Value).toArray++Builtin.zeroCells (Value.int .i64 0).cells (C-(0+1)))
   refine⟨⟨1,C,some ⟨w.heap.size,0,none⟩,w.heap.size,[x]⟩,rfl,rfl,rfl,KsIn.mk (n:=0) (L:=[]) (T:=List.replicate (C-1) 0) (kl:=[]) (h3.to ?_) rfl rfl hc1 hc2 rfl rfl rfl (by rw[List.length_replicate];show 0+1+(C-1)=C;omega),.inr ⟨Nat.le_refl _,grownBy_trans (drew_grown w none) (World.grownBy_alloc w.drew _ none)⟩⟩;rw[zero_ints];simp
 · have e0:oa=some ⟨b,0,none⟩:=e0;subst e0;have h0:0<n:=h0;have hle:n≤cap:=hle;have hmx:cap≤maxLen:=hmx;have hl:l.length=cap:=hl;have ht:l.take n=natI kl:=ht;have hB:IntL w b l:=hB;have hBv:Blk w b 3 (l.map (Value.int .i64)).toArray:=hB;have hn:n≤1000:=hn;have hvb:vb≠b:=hvb (by simp)
   have hcs:∀ (j:Nat) (v:Value),((l.take n).map (Value.int .i64))[j]?=some v→w.cell? ⟨b,0+j,none⟩=some v:=fun j v hj=>by
    rw[Nat.zero_add,hBv.cell j];rw[List.getElem?_map,List.getElem?_take]at hj;split at hj
    · simpa using hj
    · cases hj
   have hcl:((l.take n).map (Value.int .i64)).length=n:=by rw[List.length_map,List.length_take];omega
   have htl:(l.take n).length=n:=by rw[List.length_take];omega
   have h1c:∀ v∈(l.take n).map (Value.int .i64),v.oneCell'=true:=fun v hv=>by
    obtain⟨y,rfl⟩:=mem_map_int hv;rfl
   by_cases hroom:n+1≤cap
   · refine(Any2.slices_Insert_int_shift (ρ:=Tryz.laysIN_ren) Tryz.laysIN b 0 n cap 0 vb 0 1 1 ((l.take n).map (Value.int .i64)) [.int .i64 (x:Int)] w h0 (by omega) hroom (by unfold maxLen at hmx;omega) hvb hcl rfl hcs (fun j hj=>?_) (fun j _=>hBv.frozen _) hvs h1c h1v 3 3 1 cap ?_ ?_ (by omega) (hv.frozen _) (hv.frozen _)).mono ?_
     · rw[Nat.zero_add,hBv.cell j]
       have:j<l.length:=by omega
       simp[this]
     · unfold World.shape?;rw[show w.heap[vb]?=_ from hv];rfl
     · unfold World.shape?;rw[show w.heap[b]?=_ from hBv];simp[hl]
     · rintro e w' ⟨rfl,rfl⟩;have s1:=IntL.sets (l.take n) w.drew 1 l hB (by rw[htl];omega);have s2:=IntL.sets [(x:Int)] _ 0 _ s1 (by simp;omega);obtain⟨T,hT,hTl⟩:=ins_list l (x:Int) (n:=n) (by omega);rw[List.take_zero,List.length_singleton,Nat.zero_add,hT]at s2;refine⟨⟨n+1,cap,some ⟨b,0,none⟩,b,x::kl⟩,rfl,rfl,rfl,KsIn.mk (n:=n) s2 rfl rfl hroom hmx rfl ht htl (by show n+1+T.length=cap;omega),.inl ⟨by simp,rfl,?_⟩⟩;exact grownBy_trans (drew_grown w _) (grownBy_trans (setCells_grown b _ _ _) (setCells_grown b _ _ _))
   · refine(Any2.slices_Insert_int_grow (ρ:=Tryz.laysIN_ren) Tryz.laysIN b 0 n cap 0 vb 0 1 1 ((l.take n).map (Value.int .i64)) [.int .i64 (x:Int)] w h0 (by omega) hle (by omega) (by omega) hcl rfl hcs hvs h1c h1v).mono ?_;rintro e w' ⟨rfl,rfl⟩;have hc1:=grownCap_ge w (n+1) cap (Tryz.laysIN_ren.t 3);have hc2:=grownCap_le_maxLen w (n+1) cap (Tryz.laysIN_ren.t 3) (by unfold maxLen;omega);obtain⟨C,hC⟩:∃ C,grownCap w (n+1) cap (Tryz.laysIN_ren.t 3)=C:=⟨_,rfl⟩;rw[hC]at hc1 hc2 ⊢
     have h3:IntL (w.alloc (.cells ((((l.take n).map (Value.int .i64)).take 0).toArray++Builtin.zeroCells (Value.int .i64 0).cells (n+1-0)++Builtin.zeroCells (Value.int .i64 0).cells (C-(n+1))) 3)) w.heap.size (List.replicate C 0):=by
      refine(Blk.new w 3 _).to ?_;rw[zero_ints,zero_ints];simp;omega
     have s1:=IntL.sets [(x:Int)] _ 0 _ h3.drew (by simp;omega);have s2:=IntL.sets (l.take n) _ 1 _ s1.drew (by simp;omega)
     have e1:((List.replicate C (0:Int)).take 0++[(x:Int)]++(List.replicate C (0:Int)).drop (0+[(x:Int)].length)).take 1++l.take n++((List.replicate C (0:Int)).take 0++[(x:Int)]++(List.replicate C (0:Int)).drop (0+[(x:Int)].length)).drop (1+(l.take n).length)=(x:Int)::(l.take n++List.replicate (C-(n+1)) 0):=by
      rw[htl,show 1+n=n+1 by omega];simp;omega
     rw[e1]at s2;refine⟨⟨n+1,C,some ⟨w.heap.size,0,none⟩,w.heap.size,x::kl⟩,rfl,rfl,rfl,KsIn.mk (n:=n) s2 rfl rfl hc1 hc2 rfl ht htl (by rw[List.length_replicate];show n+1+(C-(n+1))=C;omega),.inr ⟨Nat.le_refl _,?_⟩⟩;exact grownBy_far (World.grownBy_alloc w _ none) (grownBy_trans (drew_grown _ (some w.heap.size)) (grownBy_trans (setCells_grown w.heap.size _ _ _) (grownBy_trans (drew_grown _ _) (setCells_grown w.heap.size _ _ _)))) (fun k e=>by obtain rfl:=Option.some.inj e;exact Nat.le_refl _)
end Go.Proofs.YtnbkbenkhkinoaaGreatDoor
