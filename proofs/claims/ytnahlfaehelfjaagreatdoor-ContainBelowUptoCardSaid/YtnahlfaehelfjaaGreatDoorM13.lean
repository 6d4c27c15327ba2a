/- Of my texts: TextQ, DecE. -/
import Derived.Test.YtnahlfaehelfjaaGreatDoorM04
import Derived.Test.YtnahlfaehelfjaaGreatDoorM05
import Derived.Test.YtnahlfaehelfjaaGreatDoorM12
import Derived.Shelf.Small.Wraps
import Derived.Deep.CutBlock
import Derived.Deep.DeepCutAuto
namespace Go.Proofs.YtnahlfaehelfjaaGreatDoor
set_option linter.unusedVariables false
set_option linter.unusedSimpArgs false
open Go.RowKit Go.Shelf
def Tryz.laysCP_ren:Ren:=⟨fun x=>if x=103 then 84 else if x=210 then 118 else if x=206 then 90 else x,fun x=>if x=9 then 9 else if x=4 then 4 else if x=24 then 156 else if x=3 then 3 else x,fun x=>x⟩ -- of function 84
theorem Tryz.laysCP:Lays.n103 Tryz.prog Tryz.laysCP_ren:={
 -- of function 84
 mixed:=(by kernel_rfl),
 f103:=Tryz.func84.trans (congrArg some (by kernel_rfl)),
 f206:=Tryz.func90.trans (congrArg some (by kernel_rfl)),
 f210:=Tryz.func118.trans (congrArg some (by kernel_rfl)),
 t3:=Tryz.underlying3,
 a3:=Tryz.isAgg3,
 z3:=Tryz.sizeOf3,
 v3:=Tryz.zeroValue3,
 t4:=Tryz.underlying4,
 a4:=Tryz.isAgg4,
 z4:=Tryz.sizeOf4,
 v4:=Tryz.zeroValue4,
 t9:=Tryz.underlying9,
 a9:=Tryz.isAgg9,
 z9:=Tryz.sizeOf9,
 v9:=Tryz.zeroValue9,
 t24:=Tryz.underlying156,
 a24:=Tryz.isAgg156,
 z24:=Tryz.sizeOf156,
 v24:=Tryz.zeroValue156 }
theorem below_alloc_self {w W:World} (h:Below w.heap.size w W) (o:Obj):Below w.heap.size w (W.alloc o):=h.alloc h.size o
def errF (b:Bool):Int:=if b then 0 else 3
end Go.Proofs.YtnahlfaehelfjaaGreatDoor
namespace Go.Proofs.YtnahlfaehelfjaaGreatDoor
set_option linter.unusedVariables false
set_option linter.unusedSimpArgs false
open Go.RowKit Go.Lib
def BRow (W:World) (g:Nat) (m:List UInt8):Prop:=∃ (row:Array Value) (fr:Nat×Nat),W.heap[g]?=some (.cells row 5 fr)∧∀ (i:Nat) (c:UInt8),m[i]?=some c→row[i]?=some (.int .u8 (c.toNat:Int))
theorem BRow.cell {W:World} {g:Nat} {m:List UInt8} (h:BRow W g m) {i:Nat} {c:UInt8} (hc:m[i]?=some c):W.cell? ⟨g,i,none⟩=some (.int .u8 (c.toNat:Int)):=by
 obtain⟨row,fr,h1,h2⟩:=h;rw[cell_of_row _ g i _ _ _ h1];exact h2 i c hc
theorem BRow.far {W:World} {g:Nat} {m:List UInt8} (h:BRow W g m) {p:Addr} (hp:g≠p.block) (u:Value):BRow (W.setCell p u) g m:=by
 obtain⟨row,fr,h1,h2⟩:=h;exact⟨row,fr,(Below.heap_setCell W p u g hp).trans h1,h2⟩
theorem sign_ways (s:List UInt8):(s=[]∧signC s=false∧signN s=false∧signS s=s)∨(∃ a b,s=a::b∧((a.toNat:Int)==43)=false∧((a.toNat:Int)==45)=false∧signC s=false∧signN s=false∧signS s=s) ∨
  (∃ b,s=43::b∧signC s=true∧signN s=false∧signS s=b)∨(∃ b,s=45::b∧signC s=true∧signN s=true∧signS s=b):=by
 cases s with
 | nil=>exact Or.inl ⟨rfl,rfl,rfl,rfl⟩
 | cons a b =>
   by_cases h1:a=43
   · subst h1;exact Or.inr (Or.inr (Or.inl ⟨b,rfl,rfl,rfl,rfl⟩))
   · by_cases h2:a=45
     · subst h2;exact Or.inr (Or.inr (Or.inr ⟨b,rfl,rfl,rfl,rfl⟩))
     · have e1:(some a==some (43:UInt8))=false:=by simpa using h1
       have e2:(some a==some (45:UInt8))=false:=by simpa using h2
       refine Or.inr (Or.inl ⟨a,b,rfl,?_,?_,?_,?_,?_⟩)
       · rw[beq_eq_false_iff_ne];intro e;exact h1 (by rw[← UInt8.toNat_inj];show a.toNat=43;omega)
       · rw[beq_eq_false_iff_ne];intro e;exact h2 (by rw[← UInt8.toNat_inj];show a.toNat=45;omega)
       · simp[signC,e1,e2]
       · simp[signN,e2]
       · simp[signS,signC,e1,e2]
theorem sign_len (s:List UInt8):(signS s).length≤s.length:=by
 unfold signS;split
 · rw[List.length_tail];omega
 · exact Nat.le_refl _
theorem digits_len {m:List UInt8} (h:m.all isD=false):(m.takeWhile isD).length<m.length:=by
 have h1:=(List.takeWhile_prefix isD (l:=m)).length_le
 rcases Nat.lt_or_ge (m.takeWhile isD).length m.length with h2 | h2
 · exact h2
 · have h3:m.takeWhile isD=m:=(List.takeWhile_prefix isD (l:=m)).eq_of_length (by omega);have h4:(m.takeWhile isD).all isD=true:=List.all_takeWhile;rw[h3,h]at h4
   cases h4
theorem digits_all {m:List UInt8} (h:m.all isD=true):m.takeWhile isD=m:=by
 have:=(take_all (p:=isD) h (m:=[]) (fun a ha=>by simp at ha)).1;rwa [List.append_nil]at this
theorem run_cat_max (l m:List UInt8) (h:l.length+m.length≤9223372036854775807) (w:World):(Op.stringOp .add ⟨l.toArray⟩ ⟨m.toArray⟩).run Tryz.prog w=.ok (.string ⟨(l++m).toArray⟩) w:=by
 rw[run_string_add_sum w _ _ (by show l.length+m.length≤_;exact h),ba_app]
theorem point_no {R:List UInt8} (h:(R.head?==some 46)=false):pointF R=some ([],true,R):=by
 unfold pointF;rw[if_neg (by simpa using h)]
theorem point_none {r:List UInt8} (h:r.takeWhile isD=[]):pointF (46::r)=none:=by simp[pointF,h]
theorem point_some {r:List UInt8} (h:r.takeWhile isD≠[]):pointF (46::r)=some (r.takeWhile isD,false,r.dropWhile isD):=by simp[pointF,h]
theorem parts_point {s:List UInt8} (h:pointF ((signS s).dropWhile isD)=none):partsF s=none:=by simp[partsF,h]
theorem parts_bare {s f r:List UInt8} {w0:Bool} (h:pointF ((signS s).dropWhile isD)=some (f,w0,r)) (h2:(signS s).takeWhile isD++f=[]):partsF s=none:=by
 unfold partsF;rw[h];simp only;rw[if_pos h2]
theorem parts_exp {s f r:List UInt8} {w0:Bool} (h:pointF ((signS s).dropWhile isD)=some (f,w0,r)) (h2:(signS s).takeWhile isD++f≠[]):partsF s=(expF r w0).map fun x=>(signN s,(signS s).takeWhile isD++f,f.length,x.1,x.2):=by
 unfold partsF;rw[h];simp only;rw[if_neg h2]
 cases expF r w0 with
 | none=>rfl
 | some x=>rfl
theorem exp_ways (c:UInt8):(c=101∧(c != 101&&c != 69)=false)∨(c=69∧(c != 101&&c != 69)=false)∨(((c.toNat:Int)==101)=false∧((c.toNat:Int)==69)=false∧((c.toNat:Int) != 101)=true∧((c.toNat:Int) != 69)=true∧(c != 101&&c != 69)=true):=by
 by_cases h1:c=101
 · subst h1;exact Or.inl ⟨rfl,by decide⟩
 · by_cases h2:c=69
   · subst h2;exact Or.inr (Or.inl ⟨rfl,by decide⟩)
   · have e1:(c.toNat:Int)≠101:=fun e=>h1 (by rw[← UInt8.toNat_inj];show c.toNat=101;omega)
     have e2:(c.toNat:Int)≠69:=fun e=>h2 (by rw[← UInt8.toNat_inj];show c.toNat=69;omega)
     exact Or.inr (Or.inr ⟨by simpa using e1,by simpa using e2,by simpa using e1,by simpa using e2,by simp[h1,h2]⟩)
theorem exp_nil {w:Bool}:expF [] w=some (0,w):=by simp[expF]
theorem exp_no {c:UInt8} {r:List UInt8} {w:Bool} (h:(c != 101&&c != 69)=true):expF (c::r) w=none:=by
 simp only[Bool.and_eq_true,bne_iff_ne,ne_eq]at h;simp[expF,h.1,h.2]
theorem exp_bad {c:UInt8} {r:List UInt8} {w:Bool} (h:(c != 101&&c != 69)=false) (h2:signS r=[]∨(signS r).all isD=false):expF (c::r) w=none:=by
 have h3:c=101∨c=69:=by
  by_cases h1:c=101
  · exact Or.inl h1
  · refine Or.inr ?_
    have:(c != 101)=true:=by simpa using h1
    rw[this,Bool.true_and]at h;simpa using h
 unfold expF;rw[if_neg (by simp),if_pos (by simpa using h3),List.tail_cons,if_pos h2]
theorem exp_good {c:UInt8} {r:List UInt8} {w:Bool} (h:(c != 101&&c != 69)=false) (h2:signS r≠[]) (h4:(signS r).all isD=true):expF (c::r) w=some (if signN r then -(capD (signS r):Int) else capD (signS r),false):=by
 have h3:c=101∨c=69:=by
  by_cases h1:c=101
  · exact Or.inl h1
  · refine Or.inr ?_
    have:(c != 101)=true:=by simpa using h1
    rw[this,Bool.true_and]at h;simpa using h
 unfold expF;rw[if_neg (by simp),if_pos (by simpa using h3),List.tail_cons,if_neg (by rintro(h5 | h5);exact h2 h5;rw[h4]at h5;cases h5)]
theorem bad_ways (t:List UInt8):(t=[]∧(decide (t=[])||decide ((t.takeWhile isD).length<t.length))=true)∨(∃ a b,t=a::b∧(decide (t=[])||decide ((t.takeWhile isD).length<t.length))=decide (((t.takeWhile isD).length:Int)<(t.length:Int))):=by
 cases t with
 | nil=>exact Or.inl ⟨rfl,rfl⟩
 | cons a b =>
   refine Or.inr ⟨a,b,rfl,?_⟩;rw[show decide (a::b=[])=false by simp,Bool.false_or];exact decide_eq_decide.2 (by omega)
theorem bad_yes {t:List UInt8} (h:(decide (t=[])||decide ((t.takeWhile isD).length<t.length))=true):t=[]∨t.all isD=false:=by
 simp only[Bool.or_eq_true,decide_eq_true_eq]at h
 rcases h with h|h
 · exact Or.inl h
 · refine Or.inr (Bool.eq_false_iff.2 fun h2=>?_);rw[digits_all h2]at h;omega
theorem bad_no {t:List UInt8} (h:(decide (t=[])||decide ((t.takeWhile isD).length<t.length))=false):t≠[]∧t.all isD=true:=by
 simp only[Bool.or_eq_false_iff,decide_eq_false_iff_not]at h;refine⟨h.1,Classical.byContradiction fun h2=>h.2 (digits_len (Bool.eq_false_iff.2 h2))⟩
theorem point_bounds {R f r:List UInt8} {w0:Bool} (h:pointF R=some (f,w0,r)):f.all isD=true∧f.length≤R.length:=by
 unfold pointF at h;split at h
 · split at h
   · cases h
   · obtain⟨rfl,_⟩:=Prod.mk.inj (Option.some.inj h);refine⟨List.all_takeWhile,Nat.le_trans (List.takeWhile_prefix _).length_le ?_⟩;rw[List.length_tail];omega
 · obtain⟨rfl,_⟩:=Prod.mk.inj (Option.some.inj h);exact⟨rfl,Nat.zero_le _⟩
theorem exp_bounds {r:List UInt8} {w0 w:Bool} {e:Int} (h:expF r w0=some (e,w)):-1099511627776≤e∧e≤1099511627776:=by
 unfold expF at h;split at h
 · obtain⟨rfl,_⟩:=Prod.mk.inj (Option.some.inj h);omega
 · split at h
   · split at h
     · cases h
     · obtain⟨rfl,_⟩:=Prod.mk.inj (Option.some.inj h);have:=capD_le (signS r.tail);split<;>omega
   · cases h
theorem parts_bounds {s ds:List UInt8} {neg w:Bool} {k:Nat} {e:Int} (h:partsF s=some (neg,ds,k,e,w)) :
  ds.all isD=true∧ds.length≤s.length∧k≤ds.length∧-1099511627776≤e∧e≤1099511627776:=by
 unfold partsF at h;split at h
 · cases h
 · rename_i f w0 r hp
   obtain⟨f1,f2⟩:=point_bounds hp;split at h
   · cases h
   · split at h
     · cases h
     · rename_i e1 w1 he
       simp only[Option.some.injEq,Prod.mk.injEq]at h;obtain⟨_,rfl,rfl,rfl,_⟩:=h;have hl:=congrArg List.length (List.takeWhile_append_dropWhile (p:=isD) (l:=signS s));rw[List.length_append]at hl;have hs:=sign_len s;refine⟨?_,?_,?_,exp_bounds he⟩
       · rw[List.all_append,f1,Bool.and_true];exact List.all_takeWhile
       · rw[List.length_append];omega
       · rw[List.length_append];omega
theorem decimal_none {s:List UInt8} (h:partsF s=none):decimalF s=((0,0),false,false):=by
 unfold decimalF;rw[h]
theorem decimal_some {s ds:List UInt8} {neg w:Bool} {k:Nat} {e:Int} (h:partsF s=some (neg,ds,k,e,w)):decimalF s=(valueF neg ds (e-k),w,true):=by
 unfold decimalF;rw[h]
end Go.Proofs.YtnahlfaehelfjaaGreatDoor
