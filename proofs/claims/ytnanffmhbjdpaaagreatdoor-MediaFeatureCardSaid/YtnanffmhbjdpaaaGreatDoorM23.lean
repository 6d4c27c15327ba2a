/- Of my texts: CalcD, SameX. -/
import Derived.Test.YtnanffmhbjdpaaaGreatDoorM00
import Derived.Test.YtnanffmhbjdpaaaGreatDoorM14
import Derived.Test.YtnanffmhbjdpaaaGreatDoorM20
import Derived.Test.YtnanffmhbjdpaaaGreatDoorM22
namespace Go.Proofs.YtnanffmhbjdpaaaGreatDoor
set_option maxHeartbeats 8000000
set_option maxRecDepth 20000
set_option linter.unusedVariables false
set_option linter.unusedSimpArgs false
open Go.RowKit
def Dn (F:FuncId) (h:Nat) (read:List Vt→Nat→Option (Et×Nat)):Prop:=∀ (R:Nat) (oa:Option Addr) (cap b o:Nat) (l:List Vl) (i:Nat) (w:World),Rd (·=R) w R h oa cap b o l i →
 Calls Tryz.prog F #[.pointer (some ⟨R,0,none⟩)] w fun e w'=>Ys (· < w.heap.size) ((read (l.map Vl.c) i).map (·.1)) e w'∧∃ j,Mv w w' R oa l.length cap j∧j≤l.length∧∀ E j',read (l.map Vl.c) i=some (E,j')→j=j'∧i<j
def S0 (f:Vt→Option Et) (l:List Vt) (j:Nat):Option (Et×Nat):=(W6 f l j).map fun e=>(e,j+1)
theorem Q1w {h:Nat} (ho:R3 h):Dn 242 h (S0 (Kb J0 h)):=by
 intro R oa cap b o l i w hr
 refine(ho R oa cap b o l i w hr).mono fun e w' ⟨h1,j,h2,h3,h4⟩=>⟨?_,j,h2,h3,fun E j' hE=>?_⟩
 · unfold S0;rw[Option.map_map]
   cases hx:W6 (Kb J0 h) (l.map Vl.c) i with
   | none=>rw[hx]at h1;exact h1
   | some E=>rw[hx]at h1;exact h1
 · unfold S0 at hE
   have hil:i<l.length:=by
    rcases Nat.lt_or_ge i l.length with h|h
    · exact h
    · unfold W6 at hE;rw[Zf (by simpa using h)]at hE
      cases hE
   have:=h4 hil
   cases hx:W6 (Kb J0 h) (l.map Vl.c) i with
   | none=>rw[hx]at hE;cases hE
   | some E2=>rw[hx]at hE;injection hE with hE;injection hE with _ hE;omega
def Ka (read:List Vt→Nat→Option (Et×Nat)) (s1 s2:List UInt8) (apart:Bool) (k kk:Int) (l:List Vt) (i:Nat):Option (Et×Nat):=match read l i with
 | none=>none
 | some (e,j)=>(V6 (read l) (Jt l s1 s2 apart) s2 kk (l.length+1) j).map fun r=>(Jm k (e::r.1),r.2)
theorem I3 (f:Vt→Option Et):Ka (S0 f) Ur Zi false 4 5=Eo f:=by
 funext l i
 unfold Ka Eo S0
 cases W6 f l i<;>rfl
theorem Q16 (f:Vt→Option Et):Ka (Eo f) Um J1 true 2 3=Rn f:=rfl
theorem Mf {l:List Vt} {s1 s2:List UInt8} {apart:Bool} {i:Nat} (hi:i≤l.length) (h1:s1≠[]) (h2:s2≠[]):Jt l s1 s2 apart i=([],i)∨∃ s j,Jt l s1 s2 apart i=(s,j)∧(s=s1∨s=s2)∧i<j∧j≤l.length:=by
 unfold Jt
 cases hx:l[Ja l i]? with
 | none=>exact Or.inl rfl
 | some v =>
   obtain⟨t,k⟩:=v;simp only
   by_cases hc:t.kind=9∧(t.text=s1∨t.text=s2)∧(apart=false∨(i<Ja l i∧Ja l i+1<Ja l (Ja l i+1)))
   · rw[if_pos hc];have hl:=(Qn.1 hx).1;have a1:=Gu l i;have a2:=Gu l (Ja l i+1);have a3:=K1 l (i:=Ja l i+1) (by omega);exact Or.inr ⟨_,_,rfl,hc.2.1,by omega,a3⟩
   · rw[if_neg hc];exact Or.inl rfl
theorem Lj {read:Nat→Option (Et×Nat)} {sign:Nat→List UInt8×Nat} {turn:List UInt8} {k:Int} {n i:Nat} {j:Nat} (h:sign i=([],j)):V6 read sign turn k n i=some ([],i):=by
 cases n with
 | zero=>rfl
 | succ n=>rw[V6,h]
theorem Rz {read:Nat→Option (Et×Nat)} {sign:Nat→List UInt8×Nat} {turn:List UInt8} {k:Int} {n i j:Nat} {s:List UInt8} (h:sign i=(s,j)) (hs:s≠[]):V6 read sign turn k (n+1) i=match read j with
  | none=>none
  | some (e,j')=>(V6 read sign turn k n j').map fun r=>((if s=turn then .mk k 0 0 0 [e] else e)::r.1,r.2):=by
 cases s with
 | nil=>exact absurd rfl hs
 | cons c s=>rw[V6,h];rfl
theorem Dd:El 30 32 (.agg #[.int .i64 0,.int .i64 0,.int .i64 0,.int .i64 0,.slice none 0 0]) 5 56:=⟨Tryz.underlying30,by kernel_rfl,rfl,by decide⟩
theorem Wa:∀ (h h':Nat) {w:World} {e:Ex},h≤h'→Zy w h e→Zy w h' e
 | 0,_,_,_,_,hx=>hx.elim
 | h+1,0,_,_,hh,_=>absurd hh (by omega)
 | h+1,h'+1,w,.mk k n d u oa b o cap l,hh,hx=>by
   obtain⟨h1,h2,h3,h4,h5,h6,h7,h8⟩:=hx;exact⟨h1,h2,h3,h4,h5,h6,h7,fun i x hi=>⟨(h8 i x hi).1,Wa h h' (by omega) (h8 i x hi).2⟩⟩
theorem Ea {w w8 w9:World} {R g2 g4 g6 lo B3 N cap j gg cap3 h2:Nat} {oa:Option Addr} {D:List Ex} {x2:Ex} {v:Value} {O:Obj} {z2 z4:Array Value} {k:Int} {xs:List Value}
  (hm:Mv w w8 R oa N cap j) (hR:R<w.heap.size) (hwg:w.heap.size≤g2) (h24:g2<g4) (h40:g4<lo) (h06:lo<g6) (h63:g6<B3) (h38:B3≤w8.heap.size)
  (b2:Ql w8 g2 32 z2) (b4:Ql w8 g4 32 z4) (b6:Ql w8 g6 32 #[.int .i64 k,.int .i64 0,.int .i64 0,.int .i64 0,v])
  (hV:∀ b,v.ownBlock=some b→lo≤b∧b≠g6) (hv3:∀ b,v.ownBlock=some b→b<B3)
  (hS:∃ hh,J3 (fun b=>b<w.heap.size∨b=g2∨b=g4∨b=g6∨v.ownBlock=some b) w8 fun w=>∀ x∈D,Zy w hh x)
  (hx:J3 (fun b=>b<B3∨w8.heap.size≤b) w8 fun w=>Zy w h2 x2)
  (ho:w9.ownsRow w.heap.size 32 5 (.slice (some ⟨gg,0,none⟩) (D.length+1) cap3) (D.length+1) (D.flatMap J6++xs)) (hxs:J6 x2=xs)
  (hg:(w8.alloc O).grownBy w9 v.ownBlock) (hat:v.ownBlock=some gg∨gg=(w8.alloc O).heap.size) :
  Mv w (w9.setCell ⟨g6,4,none⟩ (.slice (some ⟨gg,0,none⟩) (D.length+1) cap3)) R oa N cap j ∧
  (w9.setCell ⟨g6,4,none⟩ (.slice (some ⟨gg,0,none⟩) (D.length+1) cap3)).ownsRow w.heap.size 32 5 (.slice (some ⟨gg,0,none⟩) (D.length+1) cap3) (D++[x2]).length ((D++[x2]).flatMap J6) ∧
  Ql (w9.setCell ⟨g6,4,none⟩ (.slice (some ⟨gg,0,none⟩) (D.length+1) cap3)) g2 32 z2 ∧
  Ql (w9.setCell ⟨g6,4,none⟩ (.slice (some ⟨gg,0,none⟩) (D.length+1) cap3)) g4 32 z4 ∧
  Ql (w9.setCell ⟨g6,4,none⟩ (.slice (some ⟨gg,0,none⟩) (D.length+1) cap3)) g6 32 #[.int .i64 k,.int .i64 0,.int .i64 0,.int .i64 0,.slice (some ⟨gg,0,none⟩) (D.length+1) cap3] ∧
  (∃ hh,J3 (fun b=>b<w.heap.size∨b=g2∨b=g4∨b=g6∨(Value.slice (some ⟨gg,0,none⟩) (D.length+1) cap3).ownBlock=some b) (w9.setCell ⟨g6,4,none⟩ (.slice (some ⟨gg,0,none⟩) (D.length+1) cap3)) fun w=>∀ x∈D++[x2],Zy w hh x) ∧
  (∀ b,(Value.slice (some ⟨gg,0,none⟩) (D.length+1) cap3).ownBlock=some b→lo≤b∧b≠g6):=by
 have hs8:(w8.alloc O).heap.size=w8.heap.size+1:=by simp
 have hG:w8.grownBy w9 v.ownBlock:=Z7 (Qc (Q7 w8 O) _) hg;have hP:=J9 w9 ⟨g6,4,none⟩ (.slice (some ⟨gg,0,none⟩) (D.length+1) cap3);have h89:=hG.size
 have hggc:lo≤gg∧gg≠g6:=by
  rcases hat with h|h
  · exact hV gg h
  · omega
 have b29:Ql w9 g2 _ _:=(hG.block g2 b2.lt (fun e=>by have:=hV g2 e.symm;omega)).trans b2;have b49:Ql w9 g4 _ _:=(hG.block g4 b4.lt (fun e=>by have:=hV g4 e.symm;omega)).trans b4;have b69:Ql w9 g6 _ _:=(hG.block g6 b6.lt (fun e=>(hV g6 e.symm).2 rfl)).trans b6;refine⟨(hm.far hG (fun k e=>by have:=hV k e;omega) hR).far hP (fun k e=>by have e:g6=k:=Q8 e;omega) hR,?_,b29.far (by simp;omega) _,b49.far (by simp;omega) _,?_,?_,fun b e=>?_⟩
 · rw[Qd,List.flatMap_append,Zd,hxs];exact ho.kept hP (.inr fun e=>hggc.2 (Q8 e))
 · have:=b69.put 4 (.slice (some ⟨gg,0,none⟩) (D.length+1) cap3);simpa using this
 · obtain⟨hh,hS⟩:=hS;refine⟨max hh h2,?_⟩
   have hA:∀ b,(b<w.heap.size∨b=g2∨b=g4∨b=g6∨(Value.slice (some ⟨gg,0,none⟩) (D.length+1) cap3).ownBlock=some b)→(b<w.heap.size∨b=g2∨b=g4∨b=g6∨v.ownBlock=some b)∨w8.heap.size≤b:=by
    intro b hb
    rcases hb with hb|hb|hb|hb|hb
    · exact Or.inl (Or.inl hb)
    · exact Or.inl (Or.inr (Or.inl hb))
    · exact Or.inl (Or.inr (Or.inr (Or.inl hb)))
    · exact Or.inl (Or.inr (Or.inr (Or.inr (Or.inl hb))))
    · have e:gg=b:=Q8 hb;subst e
      rcases hat with h|h
      · exact Or.inl (Or.inr (Or.inr (Or.inr (Or.inr h))))
      · exact Or.inr (by omega)
   have s1:=(((hS.wide (A':=fun b=>(b<w.heap.size∨b=g2∨b=g4∨b=g6∨v.ownBlock=some b)∨w8.heap.size≤b) fun b h=>h).grown hG (fun k e _=>Or.inl (Or.inr (Or.inr (Or.inr (Or.inr e)))))).set (p:=⟨g6,4,none⟩) (Or.inl (Or.inr (Or.inr (Or.inr (Or.inl rfl))))) (.slice (some ⟨gg,0,none⟩) (D.length+1) cap3)).anti fun b hb _=>hA b hb
   have s2:=((hx.grown hG (fun k e _=>Or.inl (hv3 k e))).set (p:=⟨g6,4,none⟩) (Or.inl h63) (.slice (some ⟨gg,0,none⟩) (D.length+1) cap3)).anti (A':=fun b=>b<w.heap.size∨b=g2∨b=g4∨b=g6∨(Value.slice (some ⟨gg,0,none⟩) (D.length+1) cap3).ownBlock=some b) fun b hb _=>by
    rcases hA b hb with (hb|hb|hb|hb|hb) | hb
    · exact Or.inl (by omega)
    · exact Or.inl (by omega)
    · exact Or.inl (by omega)
    · exact Or.inl (by omega)
    · exact Or.inl (hv3 b hb)
    · exact Or.inr hb
   exact (s1.and s2).mono fun w ⟨a,c⟩ x hm=>by
    rcases Zh.1 hm with hm|hm
    · exact Wa _ _ (Nat.le_max_left _ _) (a x hm)
    · obtain rfl:=Qh.1 hm;exact Wa _ _ (Nat.le_max_right _ _) c
 · have e:gg=b:=Q8 e;subst e;exact hggc
theorem Ng {w7:World} {g4 B3 h2:Nat} {kk:Int} {x2:Ex} {V:Array Value} {cs:List Value} (hV:J6 x2=V.toList) (hsz:V.size=5) (h4:g4<B3) (h37:B3≤w7.heap.size) (hkk:Wj kk)
  (hx:J3 (· < B3) w7 fun w=>Zy w h2 x2) :
  J3 (fun b=>b<B3∨((J5 w7 g4 0 cs).alloc (.cells V 32)).heap.size≤b) ((J5 w7 g4 0 cs).alloc (.cells V 32)) fun w=>Zy w (h2+1) (.mk kk 0 0 0 (some ⟨w7.heap.size,0,none⟩) w7.heap.size 0 1 [x2]):=by
 have hpu:=Qm cs w7 g4 0;have hs8:=Jp cs w7 g4 0
 have hs7:((J5 w7 g4 0 cs).alloc (.cells V 32)).heap.size=w7.heap.size+1:=by simp[hs8]
 have B8:Ql ((J5 w7 g4 0 cs).alloc (.cells V 32)) (J5 w7 g4 0 cs).heap.size _ _:=Ql.new (J5 w7 g4 0 cs) 32 V;rw[hs8]at B8;obtain⟨oa,cap,g,hv,hsl,_⟩:=Zx (Vv (base:=0) (n:=1) (size:=5) B8 (Qs _) hsz (by decide))
 injection hv with e1 _ e3
 subst e1 e3;have e4:=(hsl.lies (by omega)).1
 injection e4 with e4
 injection e4 with e4
 subst e4
 have e5:V.toList=[x2].flatMap J6:=by rw[Zd,hV]
 rw[e5]at hsl;refine Zy.made hkk (by unfold U2;decide) (Z1 _ (by decide)) (by simp) hsl (fun _ hb=>?_) ?_
 · rw[hs7]at hb;omega
 · have s1:=((hx.wide (A':=fun b=>b<B3∨w7.heap.size≤b) fun b hb=>hb).grown hpu (fun k e _=>Or.inl (by have e:=Q8 e;omega))).alloc (.cells V 32)
   exact (s1.anti fun b hb hl=>by
    rcases hb with hb|hb
    · exact Or.inl hb
    · omega).mono fun w hw x hm=>by
      obtain rfl:=Qh.1 hm;exact hw
theorem Q1r (h:Nat) (read:List Vt→Nat→Option (Et×Nat)) (hC:Dn 242 h read):Dn 227 h (Ka read Ur Zi false 4 5):=by
 intro R oa cap b o l i w hr;obtain⟨XL,hXL⟩:∃ XL,l.map Vl.c=XL:=⟨_,rfl⟩;obtain⟨N,hN⟩:∃ N,l.length=N:=⟨_,rfl⟩
 have hNX:XL.length=N:=by rw[← hXL,Qj,hN]
 have hsm:=hr.vs.here.small;have hcl:=hr.vs.here.sl.le;have hcm:=hr.vs.here.sl.max;have hiN:=hr.pos;unfold maxLen at hcm;rw[hN]at hsm hcl hiN;rw[hXL,hN];obtain⟨Y,hY⟩:∃ Y,Ka read Ur Zi false 4 5 XL i=Y:=⟨_,rfl⟩;rw[hY];have hRlt:=hr.blk.lt
 have HCALL:=Q1 (show ∀ (j:Nat) (wx:World),Mv w wx R oa N cap j→j≤N→Calls Tryz.prog 242 #[.pointer (some ⟨R,0,none⟩)] wx fun e w'=>Ys (· < wx.heap.size) ((read XL j).map (·.1)) e w'∧∃ j2,Mv wx w' R oa N cap j2∧j2≤N∧∀ E j',read XL j=some (E,j')→j2=j'∧j<j2 from fun j wx hm hj=>by
  have h2:=hC R oa cap b o l j wx (hr.mv (by rw[hN];exact hm) (by rw[hN];exact hj));rw[hXL,hN]at h2
  exact h2)
 have HSIGN:=Q1 (show ∀ (j:Nat) (wx:World),Mv w wx R oa N cap j→j≤N→Calls Tryz.prog 228 #[.pointer (some ⟨R,0,none⟩),.string ⟨#[42]⟩,.string ⟨#[47]⟩,.bool false] wx fun e w'=>e=.returned (.string ⟨(Jt XL Ur Zi false j).1.toArray⟩)∧Mv wx w' R oa N cap (Jt XL Ur Zi false j).2 from fun j wx hm hj=>by
  have h2:=Oh R h oa cap b o l j Ur Zi false wx (hr.mv (by rw[hN];exact hm) (by rw[hN];exact hj));rw[hXL,hN]at h2
  exact h2)
 have HN:=Q1 (Q3 hN (Q3 hXL hNX));have HY:=Q1 hY
 -- the result's variable
 have hb0:=Q7 w (.cells #[.int .i64 0,.int .i64 0,.int .i64 0,.int .i64 0,.slice none 0 0] 32);have h2:=Ql.new w 32 #[.int .i64 0,.int .i64 0,.int .i64 0,.int .i64 0,.slice none 0 0];have hm0:=Mv.refl hr;rw[hN]at hm0;have HM1:=Q1 (hm0.below hb0);have H2:=Q1 h2;clear hr hb0 h2 hN hXL hNX hC hY hm0
 go_enter Tryz.func227,Tryz.ntmps227
 go_upto_region 1 with fail
 obtain⟨g2,hg2⟩:∃ g2,w.heap.size=g2:=⟨_,rfl⟩;have HG:=Q1 hg2;rw[hg2]at H2 hRlt;simp only[hg2];clear hg2;generalize w.alloc _=w1 at *;have hg21:=H2.out.lt
 have hne2:g2≠R:=by omega
 obtain⟨r1,hr1⟩:∃ r1,read XL i=r1:=⟨_,rfl⟩;have hc1:=HCALL.out i w1 HM1.out hiN;rw[hr1]at hc1;have HC1:=Q1 hc1;have HR1:=Q1 hr1;clear hc1 hr1;go_wp2_with fail
 ((with_reducible refine HC1.out.mono ?_);rintro e w2 ⟨⟨v,ok,rfl,hok,h5,hE⟩,j,hmv,hjN,hjE⟩)
 obtain⟨vk,vn,vd,vu,voa,vL,vc,rfl⟩:=h5;have HE:=Q1 (Q3 hok hE);have HM2:=Q1 (HM1.out.trans hmv);have H22:=Q1 (hmv.keeps H2.out hne2);have HJ:=Q1 hjE;have hw12:=hmv.gb.size;clear hok hE hmv hjE HC1 HM1 H2
 cases r1 with
 | none =>
   obtain rfl:ok=false:=HE.out.1
   have hY0:Y=none:=by rw[← HY.out,Ka,HR1.out]
   subst hY0
   go_upto_region 2 with fail
   have h24:=Q1 (H22.out.old (.cells #[.int .i64 vk,.int .i64 vn,.int .i64 vd,.int .i64 vu,.slice voa vL vc] 32));have h44:=Ql.new w2 32 #[.int .i64 vk,.int .i64 vn,.int .i64 vd,.int .i64 vu,.slice voa vL vc];have hm4:=Q1 (HM2.out.below (Q7 w2 (.cells #[.int .i64 vk,.int .i64 vn,.int .i64 vd,.int .i64 vu,.slice voa vL vc] 32)));have hw2:=HM2.out.gb.size;generalize w2.heap.size=g4 at *;generalize w2.alloc _=w4 at *;obtain⟨ca0,fca0,ca1,fca1,ca2,fca2,ca3,fca3,ca4,fca4,lca⟩:=Ql.five (h44);obtain⟨cb0,fcb0,cb1,fcb1,cb2,fcb2,cb3,fcb3,cb4,fcb4,lcb⟩:=Ql.five (h24.out);clear h44;go_wp2_with fail;have hputs:=(h24.out).put5 (.int .i64 vk) (.int .i64 vn) (.int .i64 vd) (.int .i64 vu) (.slice voa vL vc);refine bodyPost_ret (v:=.tuple #[.agg #[.int .i64 vk,.int .i64 vn,.int .i64 vd,.int .i64 vu,.slice voa vL vc],.bool false]) ?_ rfl ?_
   · refine Zj Tryz.results227 ?_ ?_ hputs rfl
     all_goals rfl
   · exact⟨⟨_,_,rfl,rfl,⟨_,_,_,_,_,_,_,rfl⟩,fun E hE=>by cases hE⟩,j,hm4.out.far (Qm [.int .i64 vk,.int .i64 vn,.int .i64 vd,.int .i64 vu,.slice voa vL vc] w4 g2 0) (fun k e=>by have:=HG.out;injection e with e;omega) (by have:=HG.out;omega),hjN,fun E j' hE=>by cases hE⟩
 | some r1 =>
   obtain⟨E1,j1⟩:=r1;obtain rfl:ok=true:=HE.out.1;obtain⟨hjj,hij⟩:=HJ.out E1 j1 rfl;subst hjj;obtain⟨x1,h1,hxv,hxc,hxs⟩:=HE.out.2 E1 rfl;have HX1:=Q1 (Q3 hxv (Q3 hxc hxs));clear hxv hxc hxs HE HJ
   go_upto_region 4 with fail
   have h24:=Q1 (H22.out.old (.cells #[.int .i64 vk,.int .i64 vn,.int .i64 vd,.int .i64 vu,.slice voa vL vc] 32));have h44:=Ql.new w2 32 #[.int .i64 vk,.int .i64 vn,.int .i64 vd,.int .i64 vu,.slice voa vL vc];have hm4:=Q1 (HM2.out.below (Q7 w2 (.cells #[.int .i64 vk,.int .i64 vn,.int .i64 vd,.int .i64 vu,.slice voa vL vc] 32)));have hx4:=Q1 ((HX1.out.2.2.wide (A':=fun b=>b<w1.heap.size∨w2.heap.size≤b) fun b hb=>hb).alloc (.cells #[.int .i64 vk,.int .i64 vn,.int .i64 vd,.int .i64 vu,.slice voa vL vc] 32));have hw2:=HM2.out.gb.size
   have hw24:(w2.alloc (.cells #[.int .i64 vk,.int .i64 vn,.int .i64 vd,.int .i64 vu,.slice voa vL vc] 32)).heap.size=w2.heap.size+1:=by simp
   generalize hg4:w2.heap.size=g4 at *;generalize w2.alloc _=w4 at *;obtain⟨ca0,fca0,ca1,fca1,ca2,fca2,ca3,fca3,ca4,fca4,lca⟩:=Ql.five (h44);have H44:=Q1 h44;have HW24:=Q1 hw24;clear h44 H22 HM2 hw24
   go_upto_region 5 with fail
   have hgr:Below w4.heap.size w4 ((w4.alloc (.cells #[.int .i64 vk,.int .i64 vn,.int .i64 vd,.int .i64 vu,.slice voa vL vc] 32)).alloc (.cells #[.int .i64 4,.int .i64 0,.int .i64 0,.int .i64 0,.slice (some ⟨w4.heap.size,0,none⟩) 1 1] 32)):=(Q7 _ _).alloc (by simp) _;have h25:=Q1 (h24.out.below hgr h24.out.lt);have h45:=Q1 (H44.out.below hgr H44.out.lt);have hm5:=Q1 (hm4.out.below hgr);have hx5:=Q1 (hx4.out.below hgr);have h65:=Q1 (Ql.new2 w4 (.cells #[.int .i64 vk,.int .i64 vn,.int .i64 vd,.int .i64 vu,.slice voa vL vc] 32) 32 #[.int .i64 4,.int .i64 0,.int .i64 0,.int .i64 0,.slice (some ⟨w4.heap.size,0,none⟩) 1 1])
   have hro:=Q1 (Vv (base:=w.heap.size) (n:=1) (size:=5) ((Ql.new w4 32 #[.int .i64 vk,.int .i64 vn,.int .i64 vd,.int .i64 vu,.slice voa vL vc]).old (.cells #[.int .i64 4,.int .i64 0,.int .i64 0,.int .i64 0,.slice (some ⟨w4.heap.size,0,none⟩) 1 1] 32)) (by have:=HG.out;have:=HW24.out;omega) rfl (by decide))
   have hw5:((w4.alloc (.cells #[.int .i64 vk,.int .i64 vn,.int .i64 vd,.int .i64 vu,.slice voa vL vc] 32)).alloc (.cells #[.int .i64 4,.int .i64 0,.int .i64 0,.int .i64 0,.slice (some ⟨w4.heap.size,0,none⟩) 1 1] 32)).heap.size=w4.heap.size+2:=by simp
   clear h24 H44 hm4 hx4 ca0 ca1 ca2 ca3 ca4 fca0 fca1 fca2 fca3 fca4 lca hgr;generalize hg0:w4.heap.size=g0 at *;generalize World.alloc (World.alloc w4 _) _=w5 at *
   have hY2:Y=(V6 (read XL) (Jt XL Ur Zi false) Zi 5 (N+1) j).map fun r=>(Jm 4 (E1::r.1),r.2):=by
    rw[← HY.out];unfold Ka;rw[HR1.out,HN.out.2.2]
   have HY2:=Q1 hY2;clear hY2;have hw24:=HW24.out;have HGS:=Q1 (show w.heap.size=g2∧g2<g4∧g0=g4+1 from ⟨HG.out,by omega,by omega⟩)
   have hS0:=Q1 (show ∃ hh,J3 (fun b=>b<w.heap.size∨b=g2∨b=g4∨b=g0+1∨(Value.slice (some ⟨g0,0,none⟩) 1 1).ownBlock=some b) w5 fun w=>∀ x∈[x1],Zy w hh x from
    ⟨h1,(hx5.out.mono fun _ hw x hx=>by obtain rfl:=Qh.1 hx;exact hw) |>.anti fun b hb hlt=>by
      have:=HG.out
      rcases hb with hb|hb|hb|hb|hb
      · exact Or.inl (by omega)
      · exact Or.inl (by omega)
      · exact Or.inr (by omega)
      · exact Or.inr (by omega)
      · have:=Q8 hb;simp only at this
        exact Or.inr (by omega)⟩)
   clear hw24 HW24;have hxc1:=Q1 HX1.out.2.1
   have hxl1:J6 x1=[.int .i64 vk,.int .i64 vn,.int .i64 vd,.int .i64 vu,.slice voa vL vc]:=by
    have e:=HX1.out.1;unfold xv at e
    injection e with e
    have:=congrArg Array.toList e;simpa using this.symm
   have hro2:=Q1 (show w5.ownsRow w.heap.size 32 5 (.slice (some ⟨g0,0,none⟩) [x1].length 1) [x1].length ([x1].flatMap J6) from by
    rw[Zd,hxl1]
    exact hro.out)
   clear hx5 hro HX1 HR1 HY hxl1
   go_loopg [] (N+1) (fun q wr=>∃ (j n:Nat) (D:List Ex) (v:Value) (yk yn yd yu:Int) (yoa:Option Addr) (yL yc:Nat),Hid (Mv w wr R oa N cap j)∧j≤N∧Hid (wr.ownsRow w.heap.size 32 5 v D.length (D.flatMap J6)) ∧
    Hid (Ql wr g2 32 #[.int .i64 0,.int .i64 0,.int .i64 0,.int .i64 0,.slice none 0 0])∧Hid (Ql wr g4 32 #[.int .i64 yk,.int .i64 yn,.int .i64 yd,.int .i64 yu,.slice yoa yL yc])∧Hid (Ql wr (g0+1) 32 #[.int .i64 4,.int .i64 0,.int .i64 0,.int .i64 0,v]) ∧
    Hid (∃ hh,J3 (fun b=>b<w.heap.size∨b=g2∨b=g4∨b=g0+1∨v.ownBlock=some b) wr fun w=>∀ x∈D,Zy w hh x) ∧
    Hid (∀ b,v.ownBlock=some b→g0≤b∧b≠g0+1)∧Hid (Y=(V6 (read XL) (Jt XL Ur Zi false) Zi 5 n j).map fun r=>(Jm 4 (D.map Ex.c++r.1),r.2))∧N<n+j∧1≤D.length∧D.length≤j∧i<j∧N+1-j≤q)
   case atStart=>exact⟨j,N+1,[x1],_,vk,vn,vd,vu,voa,vL,vc,hm5,hjN,hro2,h25,h45,h65,hS0,Q1 (fun b hb=>by have:=Q8 hb;simp only at this;omega),Q1 (by rw[HY2.out];simp only[List.map_cons,List.map_nil,hxc1.out];rfl),by omega,Q6 _,by simp;omega,hij,by omega⟩
   case round =>
    clear hm5 hro2 h25 h45 h65 hS0 HY2 hxc1;obtain⟨j,n,D,v,yk,yn,yd,yu,yoa,yL,yc,hm,hjN,hO,h2,h4,h6,hS,hV,hY,hnj,hD1,hDj,hij,hq⟩:=hrel
    have hwg:w.heap.size≤g2:=by have:=HGS.out.1;omega
    have hgw:g2≤w.heap.size:=by have:=HGS.out.1;omega
    have hgs:g2<g4:=HGS.out.2.1
    have hg40:g4<g0:=by have:=HGS.out.2.2;omega
    have hsg:=HSIGN.out j wr hm.out hjN;obtain⟨⟨ss,js⟩,hss⟩:∃ S,Jt XL Ur Zi false j=S:=⟨_,rfl⟩;have hways:=Mf (l:=XL) (s1:=Ur) (s2:=Zi) (apart:=false) (i:=j) (by rw[HN.out.2.2];exact hjN) (by decide) (by decide);rw[hss]at hsg hways;simp only at hsg hways;have HSG:=Q1 hsg;have HSS:=Q1 hss;clear hsg hss;go_wp2_with fail;go_wp2_with fail
    ((with_reducible refine(HSG.out).mono ?_);rintro e w' ⟨rfl,hmv⟩)
    have hm3:=Q1 (hm.out.trans hmv);have h23:=Q1 (hmv.keeps h2.out hne2);have h43:=Q1 (hmv.keeps h4.out (by omega));have h63:=Q1 (hmv.keeps h6.out (by omega));have hO3:=Q1 (V9 hO.out hmv.gb (by omega))
    have hS3:=Q1 (show ∃ hh,J3 (fun b=>b<w.heap.size∨b=g2∨b=g4∨b=g0+1∨v.ownBlock=some b) w' fun w=>∀ x∈D,Zy w hh x from by
     obtain⟨hh,hs⟩:=hS.out
     exact⟨hh,hs.grown hmv.gb (fun k e _=>by injection e with e;exact Or.inl (by omega))⟩)
    clear hmv hm h2 h4 h6 hO hS HSG;obtain⟨w3,hw3⟩:∃ w3,w3=w':=⟨_,rfl⟩;subst hw3
    rcases hways with hways|⟨s,j1,hsj,hs12,hj1,hj1N⟩
    · -- no sign: done
      injection hways with e1 e2
      have e3:=e2.symm;subst e1 e3
      have hY3:Y=some (Jm 4 (D.map Ex.c),j):=by
       rw[hY.out,Lj HSS.out];simp
      obtain⟨hh,hs⟩:=hS3.out;obtain⟨voa,vcap,gv,rfl,hsl,hpos⟩:=Zx hO3.out;have hgv:=hV.out gv (by rw[(hsl.lies (by omega)).1];rfl)
      have hex:J3 (fun b=>b<w.heap.size∨b=g2∨b=g4∨b=g0+1) w3 fun w=>Zy w (hh+1) (.mk 4 0 0 0 voa gv 0 vcap D) :=
       Zy.made (Z1 _ (by decide)) (by unfold U2;decide) (Z1 _ (by decide)) (by omega) hsl (fun _ hb=>by
        have:=hpos (by omega)
        rcases hb with hb|hb|hb|hb<;>omega) (hs.anti fun b hb _=>by
        rcases hb with hb|hb|hb|hb
        · exact Or.inl hb
        · exact Or.inr (Or.inl hb)
        · exact Or.inr (Or.inr (Or.inl hb))
        · exact Or.inr (Or.inr (Or.inr (Or.inl hb))))
      have hsi:=Fz _ hh 4 voa gv 0 vcap D w3 hex;obtain⟨DL,hDL⟩:∃ DL,D.length=DL:=⟨_,rfl⟩;rw[hDL]at hsi;have HSI:=Q1 hsi;have h63':=h63.out;rw[hDL]at h63';obtain⟨cc0,fcc0,cc1,fcc1,cc2,fcc2,cc3,fcc3,cc4,fcc4,lcc⟩:=Ql.five (h63');have HY3:=Q1 hY3;clear hs hsl hpos hex hsi h63' hY3;go_wp2_with fail
      ((with_reducible refine HSI.out.mono ?_);rintro e w6 ⟨⟨vs,rfl,hex⟩,hbb⟩)
      obtain⟨vk,vn,vd,vu,voa,vL,vc,rfl⟩:=hex.e5;have h26:=h23.out.below hbb h23.out.lt;obtain⟨cd0,fcd0,cd1,fcd1,cd2,fcd2,cd3,fcd3,cd4,fcd4,lcd⟩:=Ql.five (h26);have H26:=Q1 h26;have HEX:=Q1 hex;have hm6:=Q1 (hm3.out.below hbb);clear h26 hex hbb cc0 cc1 cc2 cc3 cc4 fcc0 fcc1 fcc2 fcc3 fcc4 lcc;go_wp2_with fail;have hpu:=Qm [.int .i64 vk,.int .i64 vn,.int .i64 vd,.int .i64 vu,.slice voa vL vc] w6 g2 0;have hputs:=(H26.out).put5 (.int .i64 vk) (.int .i64 vn) (.int .i64 vd) (.int .i64 vu) (.slice voa vL vc);refine bodyPost_ret (v:=.tuple #[.agg #[.int .i64 vk,.int .i64 vn,.int .i64 vd,.int .i64 vu,.slice voa vL vc],.bool true]) ?_ rfl ?_
      · refine Zj Tryz.results227 ?_ ?_ hputs rfl
        all_goals rfl
      · exact⟨⟨_,_,rfl,by rw[HY3.out];rfl,⟨_,_,_,_,_,_,_,rfl⟩,fun E hE=>by rw[HY3.out]at hE;injection hE with hE;subst hE;exact(HEX.out.grown hpu (fun k e _=>by injection e with e;exact Or.inr (Or.inl e.symm))).anti fun b hb=>Or.inl (Or.inl hb)⟩,j,hm6.out.far hpu (fun k e=>by injection e with e;omega) (by omega),hjN,fun E j' hE=>by rw[HY3.out]at hE;injection hE with hE;injection hE with _ hE;exact⟨hE,hij⟩⟩
    · -- a sign
      injection hsj with e1 e2
      subst e1 e2;rw[HN.out.2.2]at hj1N;obtain⟨n,rfl⟩:∃ n',n=n'+1:=⟨n-1,by omega⟩;have hY3:=hY.out;rw[Rz HSS.out (by rcases hs12 with rfl|rfl<;>decide)]at hY3;obtain⟨r2,hr2⟩:∃ r2,read XL js=r2:=⟨_,rfl⟩;have hc2:=HCALL.out js w3 hm3.out hj1N;rw[hr2]at hc2 hY3;have HC2:=Q1 hc2;have HY3:=Q1 hY3;have hwn:w.heap.size≤w3.heap.size:=hm3.out.gb.size;have hl2:=h23.out.lt;have hl4:=h43.out.lt;have hl6:=h63.out.lt;clear hc2 hY3 hr2 hY
      rcases hs12 with rfl|rfl
      · go_wp2_with fail
        ((with_reducible refine HC2.out.mono ?_);rintro e w6 ⟨⟨pv,ok,rfl,hok,h5,hE⟩,j2,hmv,hj2N,hjE⟩)
        obtain⟨pk,pn,pd,pu,poa,pL,pc,rfl⟩:=h5;have HE:=Q1 (Q3 hok hE);have HJ:=Q1 hjE;have hm6:=Q1 (hm3.out.trans hmv);have h26:=Q1 (hmv.keeps h23.out hne2);have h46:=Q1 (hmv.keeps h43.out (by omega));have h66:=Q1 (hmv.keeps h63.out (by omega));have hO6:=Q1 (V9 hO3.out hmv.gb (by omega))
        have hS6:=Q1 (show ∃ hh,J3 (fun b=>b<w.heap.size∨b=g2∨b=g4∨b=g0+1∨v.ownBlock=some b) w6 fun w=>∀ x∈D,Zy w hh x from by
         obtain⟨hh,hs⟩:=hS3.out
         exact⟨hh,hs.grown hmv.gb (fun k e _=>by injection e with e;exact Or.inl (by omega))⟩)
        have hw6:=hmv.gb.size;have HV3:=Q1 (show ∀ b,v.ownBlock=some b→b<w3.heap.size from fun b e=>(hO3.out.lt b e).2);clear hok hE hjE hmv HC2 hm3 h23 h43 h63 hO3 hS3;obtain⟨cc0,fcc0,cc1,fcc1,cc2,fcc2,cc3,fcc3,cc4,fcc4,lcc⟩:=Ql.five (h46.out)
        go_upto_region 8 with fail
        have hpu:=Qm [.int .i64 pk,.int .i64 pn,.int .i64 pd,.int .i64 pu,.slice poa pL pc] w6 g4 0;have h27:=Q1 (show Ql (J5 w6 g4 0 [.int .i64 pk,.int .i64 pn,.int .i64 pd,.int .i64 pu,.slice poa pL pc]) g2 32 #[.int .i64 0,.int .i64 0,.int .i64 0,.int .i64 0,.slice none 0 0] from (hpu.block g2 h26.out.lt (by simp;omega)).trans h26.out);have h67:=Q1 (show Ql (J5 w6 g4 0 [.int .i64 pk,.int .i64 pn,.int .i64 pd,.int .i64 pu,.slice poa pL pc]) (g0+1) 32 #[.int .i64 4,.int .i64 0,.int .i64 0,.int .i64 0,v] from (hpu.block (g0+1) h66.out.lt (by simp;omega)).trans h66.out);have h47:=Q1 (h46.out.put5 (.int .i64 pk) (.int .i64 pn) (.int .i64 pd) (.int .i64 pu) (.slice poa pL pc));have hO7:=Q1 (hO6.out.kept hpu (.inr fun e=>by have:=hV.out g4 e;omega))
        have hS7:=Q1 (show ∃ hh,J3 (fun b=>b<w.heap.size∨b=g2∨b=g4∨b=g0+1∨v.ownBlock=some b) (J5 w6 g4 0 [.int .i64 pk,.int .i64 pn,.int .i64 pd,.int .i64 pu,.slice poa pL pc]) fun w=>∀ x∈D,Zy w hh x from by
         obtain⟨hh,hs⟩:=hS6.out
         exact⟨hh,hs.grown hpu (fun k e _=>by injection e with e;exact Or.inr (Or.inr (Or.inl e.symm)))⟩)
        have hm7:=Q1 (hm6.out.far hpu (fun k e=>by injection e with e;omega) (by omega));have hE7:=Q1 (show ∀ E,r2.map (·.1)=some E→Jk (· < w3.heap.size) E (.agg #[.int .i64 pk,.int .i64 pn,.int .i64 pd,.int .i64 pu,.slice poa pL pc]) (J5 w6 g4 0 [.int .i64 pk,.int .i64 pn,.int .i64 pd,.int .i64 pu,.slice poa pL pc]) from fun E hE=>(HE.out.2 E hE).grown hpu (fun k e _=>by injection e with e;omega));have hw7:(J5 w6 g4 0 [.int .i64 pk,.int .i64 pn,.int .i64 pd,.int .i64 pu,.slice poa pL pc]).heap.size≤w6.heap.size:=Qr (Jp _ _ _ _);have hw8:w6.heap.size≤(J5 w6 g4 0 [.int .i64 pk,.int .i64 pn,.int .i64 pd,.int .i64 pu,.slice poa pL pc]).heap.size:=Qr (Jp _ _ _ _).symm;simp only[J5,Nat.zero_add,Nat.reduceAdd]at h27 h67 hO7 hS7 hm7 hE7 hw7 hw8;clear hpu h26 h66 h46 hO6 hS6 hm6 cc0 cc1 cc2 cc3 cc4 fcc0 fcc1 fcc2 fcc3 fcc4 lcc
        generalize World.setCell _ _ _=w7 at *
        cases r2 with
        | none =>
          obtain rfl:ok=false:=HE.out.1;have hY4:Y=none:=HY3.out;subst hY4;obtain⟨ca0,fca0,ca1,fca1,ca2,fca2,ca3,fca3,ca4,fca4,lca⟩:=Ql.five (h47.out);obtain⟨cb0,fcb0,cb1,fcb1,cb2,fcb2,cb3,fcb3,cb4,fcb4,lcb⟩:=Ql.five (h27.out);go_wp2_with fail;have hputs:=(h27.out).put5 (.int .i64 pk) (.int .i64 pn) (.int .i64 pd) (.int .i64 pu) (.slice poa pL pc);refine bodyPost_ret (v:=.tuple #[.agg #[.int .i64 pk,.int .i64 pn,.int .i64 pd,.int .i64 pu,.slice poa pL pc],.bool false]) ?_ rfl ?_
          · refine Zj Tryz.results227 ?_ ?_ hputs rfl
            all_goals rfl
          · exact⟨⟨_,_,rfl,rfl,⟨_,_,_,_,_,_,_,rfl⟩,fun E hE=>by cases hE⟩,j2,hm7.out.far (Qm [.int .i64 pk,.int .i64 pn,.int .i64 pd,.int .i64 pu,.slice poa pL pc] w7 g2 0) (fun k e=>by injection e with e;omega) (by omega),by first|exact⟨hj2N,fun E j' hE=>by cases hE⟩ | exact hj2N⟩
        | some r2 =>
          obtain⟨E2,j3⟩:=r2;obtain rfl:ok=true:=HE.out.1;obtain⟨hjj,hjs⟩:=HJ.out E2 j3 rfl;subst hjj;obtain⟨x2,hx2,hxv,hxc,hxs⟩:=hE7.out E2 rfl;have HX2:=Q1 (Q3 hxv (Q3 hxc hxs))
          have HY4:=Q1 (show Y=((V6 (read XL) (Jt XL Ur Zi false) Zi 5 n j2).map fun r=>(E2::r.1,r.2)).map fun r=>(Jm 4 (D.map Ex.c++r.1),r.2) from by
           have:=HY3.out;simp only[show ¬ (Ur=Zi) by decide,if_false]at this
           exact this)
          clear hxv hxc hxs hE7 HE HJ HY3;have hx8:=Q1 (HX2.out.2.2.wide (A':=fun b=>b<w3.heap.size∨w7.heap.size≤b) fun b hb=>hb);have hxe:=Q1 (Q3 HX2.out.1 HX2.out.2.1);clear HX2
          go_upto_region 12 with fail
          have h28:=h27;have h48:=h47;have h68:=h67;have hO8:=hO7;have hS8:=hS7;have hm8:=hm7;clear h27 h47 h67 hO7 hS7 hm7;generalize w7=w8 at *;obtain⟨cf0,fcf0,cf1,fcf1,cf2,fcf2,cf3,fcf3,cf4,fcf4,lcf⟩:=Ql.five (h48.out);obtain⟨ch0,fch0,ch1,fch1,ch2,fch2,ch3,fch3,ch4,fch4,lch⟩:=Ql.five (h68.out);have hbs:=Q1 (show w.heap.size≤w8.heap.size by have:=hm8.out.gb.size;omega)
          go_wp2_with (at_builtin;refine J4 Dd rfl _ _ rfl rfl (hO8.out.alloc _) (by have:=hbs.out;simp;omega) (Ql.new w8 _ _) 1 rfl rfl (by simp[Value.oneCell']) (by omega) (by omega) ?_;intro gg cap3 w9 ho9 hg9 hat9 hvb9;have H9:=Q1 (Q3 ho9 (Q3 hg9 (Q3 hat9 hvb9)));have ch4':=(hg9.cell_far (a:=⟨g0+1,4,none⟩) (by simp;omega) (fun e=>(hV.out _ e.symm).2 rfl)).trans ((Below.cell (B:=w8.heap.size) (Q7 w8 _) lch).trans ch4);have fch4':=(hg9.frozen_far (a:=⟨g0+1,4,none⟩) (by simp;omega) (fun e=>(hV.out _ e.symm).2 rfl)).trans ((Below.frozen (B:=w8.heap.size) (Q7 w8 _) lch).trans fch4);clear ho9 hg9 hat9 hvb9)
          go_roundg (N+1-j2)
          case measure=>omega
          case rel =>
           obtain⟨ho9,hg9,hat9,_⟩:=H9.out
           have hxcl:J6 x2=[.int .i64 pk,.int .i64 pn,.int .i64 pd,.int .i64 pu,.slice poa pL pc]:=by
            have e:=hxe.out.1;unfold xv at e
            injection e with e
            have:=congrArg Array.toList e;simpa using this.symm
           obtain⟨a1,a2,a3,a4,a5,a6,a7⟩:=Ea (B3:=w3.heap.size) (lo:=g0) hm8.out (by omega) hwg hgs hg40 (by omega) hl6 (by omega) h28.out h48.out h68.out hV.out HV3.out hS8.out hx8.out ho9 hxcl (show World.grownBy _ _ v.ownBlock from hg9) (show v.ownBlock=some gg∨_ from hat9);refine⟨j2,n,D++[x2],_,pk,pn,pd,pu,poa,pL,pc,Q1 a1,hj2N,Q1 a2,Q1 a3,Q1 a4,Q1 a5,Q1 a6,Q1 a7,Q1 ?_,by omega,by simp,by simp;omega,by omega,Q6 _⟩;rw[HY4.out,Option.map_map,Zp,List.map_cons,List.map_nil,hxe.out.2]
           congr 1
           funext r
           simp
      · go_wp2_with fail
        ((with_reducible refine HC2.out.mono ?_);rintro e w6 ⟨⟨pv,ok,rfl,hok,h5,hE⟩,j2,hmv,hj2N,hjE⟩)
        obtain⟨pk,pn,pd,pu,poa,pL,pc,rfl⟩:=h5;have HE:=Q1 (Q3 hok hE);have HJ:=Q1 hjE;have hm6:=Q1 (hm3.out.trans hmv);have h26:=Q1 (hmv.keeps h23.out hne2);have h46:=Q1 (hmv.keeps h43.out (by omega));have h66:=Q1 (hmv.keeps h63.out (by omega));have hO6:=Q1 (V9 hO3.out hmv.gb (by omega))
        have hS6:=Q1 (show ∃ hh,J3 (fun b=>b<w.heap.size∨b=g2∨b=g4∨b=g0+1∨v.ownBlock=some b) w6 fun w=>∀ x∈D,Zy w hh x from by
         obtain⟨hh,hs⟩:=hS3.out
         exact⟨hh,hs.grown hmv.gb (fun k e _=>by injection e with e;exact Or.inl (by omega))⟩)
        have hw6:=hmv.gb.size;have HV3:=Q1 (show ∀ b,v.ownBlock=some b→b<w3.heap.size from fun b e=>(hO3.out.lt b e).2);clear hok hE hjE hmv HC2 hm3 h23 h43 h63 hO3 hS3;obtain⟨cc0,fcc0,cc1,fcc1,cc2,fcc2,cc3,fcc3,cc4,fcc4,lcc⟩:=Ql.five (h46.out)
        go_upto_region 8 with fail
        have hpu:=Qm [.int .i64 pk,.int .i64 pn,.int .i64 pd,.int .i64 pu,.slice poa pL pc] w6 g4 0;have h27:=Q1 (show Ql (J5 w6 g4 0 [.int .i64 pk,.int .i64 pn,.int .i64 pd,.int .i64 pu,.slice poa pL pc]) g2 32 #[.int .i64 0,.int .i64 0,.int .i64 0,.int .i64 0,.slice none 0 0] from (hpu.block g2 h26.out.lt (by simp;omega)).trans h26.out);have h67:=Q1 (show Ql (J5 w6 g4 0 [.int .i64 pk,.int .i64 pn,.int .i64 pd,.int .i64 pu,.slice poa pL pc]) (g0+1) 32 #[.int .i64 4,.int .i64 0,.int .i64 0,.int .i64 0,v] from (hpu.block (g0+1) h66.out.lt (by simp;omega)).trans h66.out);have h47:=Q1 (h46.out.put5 (.int .i64 pk) (.int .i64 pn) (.int .i64 pd) (.int .i64 pu) (.slice poa pL pc));have hO7:=Q1 (hO6.out.kept hpu (.inr fun e=>by have:=hV.out g4 e;omega))
        have hS7:=Q1 (show ∃ hh,J3 (fun b=>b<w.heap.size∨b=g2∨b=g4∨b=g0+1∨v.ownBlock=some b) (J5 w6 g4 0 [.int .i64 pk,.int .i64 pn,.int .i64 pd,.int .i64 pu,.slice poa pL pc]) fun w=>∀ x∈D,Zy w hh x from by
         obtain⟨hh,hs⟩:=hS6.out
         exact⟨hh,hs.grown hpu (fun k e _=>by injection e with e;exact Or.inr (Or.inr (Or.inl e.symm)))⟩)
        have hm7:=Q1 (hm6.out.far hpu (fun k e=>by injection e with e;omega) (by omega));have hE7:=Q1 (show ∀ E,r2.map (·.1)=some E→Jk (· < w3.heap.size) E (.agg #[.int .i64 pk,.int .i64 pn,.int .i64 pd,.int .i64 pu,.slice poa pL pc]) (J5 w6 g4 0 [.int .i64 pk,.int .i64 pn,.int .i64 pd,.int .i64 pu,.slice poa pL pc]) from fun E hE=>(HE.out.2 E hE).grown hpu (fun k e _=>by injection e with e;omega));have hw7:(J5 w6 g4 0 [.int .i64 pk,.int .i64 pn,.int .i64 pd,.int .i64 pu,.slice poa pL pc]).heap.size≤w6.heap.size:=Qr (Jp _ _ _ _);have hw8:w6.heap.size≤(J5 w6 g4 0 [.int .i64 pk,.int .i64 pn,.int .i64 pd,.int .i64 pu,.slice poa pL pc]).heap.size:=Qr (Jp _ _ _ _).symm;simp only[J5,Nat.zero_add,Nat.reduceAdd]at h27 h67 hO7 hS7 hm7 hE7 hw7 hw8;clear hpu h26 h66 h46 hO6 hS6 hm6 cc0 cc1 cc2 cc3 cc4 fcc0 fcc1 fcc2 fcc3 fcc4 lcc
        generalize World.setCell _ _ _=w7 at *
        cases r2 with
        | none =>
          obtain rfl:ok=false:=HE.out.1;have hY4:Y=none:=HY3.out;subst hY4;obtain⟨ca0,fca0,ca1,fca1,ca2,fca2,ca3,fca3,ca4,fca4,lca⟩:=Ql.five (h47.out);obtain⟨cb0,fcb0,cb1,fcb1,cb2,fcb2,cb3,fcb3,cb4,fcb4,lcb⟩:=Ql.five (h27.out);go_wp2_with fail;have hputs:=(h27.out).put5 (.int .i64 pk) (.int .i64 pn) (.int .i64 pd) (.int .i64 pu) (.slice poa pL pc);refine bodyPost_ret (v:=.tuple #[.agg #[.int .i64 pk,.int .i64 pn,.int .i64 pd,.int .i64 pu,.slice poa pL pc],.bool false]) ?_ rfl ?_
          · refine Zj Tryz.results227 ?_ ?_ hputs rfl
            all_goals rfl
          · exact⟨⟨_,_,rfl,rfl,⟨_,_,_,_,_,_,_,rfl⟩,fun E hE=>by cases hE⟩,j2,hm7.out.far (Qm [.int .i64 pk,.int .i64 pn,.int .i64 pd,.int .i64 pu,.slice poa pL pc] w7 g2 0) (fun k e=>by injection e with e;omega) (by omega),by first|exact⟨hj2N,fun E j' hE=>by cases hE⟩ | exact hj2N⟩
        | some r2 =>
          obtain⟨E2,j3⟩:=r2;obtain rfl:ok=true:=HE.out.1;obtain⟨hjj,hjs⟩:=HJ.out E2 j3 rfl;subst hjj;obtain⟨x2,hx2,hxv,hxc,hxs⟩:=hE7.out E2 rfl;have HX2:=Q1 (Q3 hxv (Q3 hxc hxs))
          have HY4:=Q1 (show Y=((V6 (read XL) (Jt XL Ur Zi false) Zi 5 n j2).map fun r=>(Et.mk 5 0 0 0 [E2]::r.1,r.2)).map fun r=>(Jm 4 (D.map Ex.c++r.1),r.2) from by
           have:=HY3.out;simp only[if_true]at this
           exact this)
          clear hxv hxc hxs hE7 HE HJ HY3
          go_upto_region 11 with fail
          have hxl2:J6 x2=[.int .i64 pk,.int .i64 pn,.int .i64 pd,.int .i64 pu,.slice poa pL pc]:=by
           have e:=HX2.out.1;unfold xv at e
           injection e with e
           have:=congrArg Array.toList e;simpa using this.symm
          obtain⟨cg0,fcg0,cg1,fcg1,cg2,fcg2,cg3,fcg3,cg4,fcg4,lcg⟩:=Ql.five (h47.out)
          go_upto_region 12 with fail
          have hpu:=Qm [.int .i64 5,.int .i64 0,.int .i64 0,.int .i64 0,.slice (some ⟨w7.heap.size,0,none⟩) 1 1] w7 g4 0;have hx8:=Q1 (Ng (kk:=5) (cs:=[.int .i64 5,.int .i64 0,.int .i64 0,.int .i64 0,.slice (some ⟨w7.heap.size,0,none⟩) 1 1]) hxl2 rfl hl4 (by omega) (Z1 _ (by decide)) HX2.out.2.2);have h28:=Q1 (show Ql ((J5 w7 g4 0 [.int .i64 5,.int .i64 0,.int .i64 0,.int .i64 0,.slice (some ⟨w7.heap.size,0,none⟩) 1 1]).alloc (.cells #[.int .i64 pk,.int .i64 pn,.int .i64 pd,.int .i64 pu,.slice poa pL pc] 32)) g2 32 #[.int .i64 0,.int .i64 0,.int .i64 0,.int .i64 0,.slice none 0 0] from Ql.old ((hpu.block g2 h27.out.lt (by simp;omega)).trans h27.out) _)
          have h68:=Q1 (show Ql ((J5 w7 g4 0 [.int .i64 5,.int .i64 0,.int .i64 0,.int .i64 0,.slice (some ⟨w7.heap.size,0,none⟩) 1 1]).alloc (.cells #[.int .i64 pk,.int .i64 pn,.int .i64 pd,.int .i64 pu,.slice poa pL pc] 32)) (g0+1) 32 #[.int .i64 4,.int .i64 0,.int .i64 0,.int .i64 0,v] from Ql.old ((hpu.block (g0+1) h67.out.lt (by simp;omega)).trans h67.out) _);have h48:=Q1 ((h47.out.put5 (.int .i64 5) (.int .i64 0) (.int .i64 0) (.int .i64 0) (.slice (some ⟨w7.heap.size,0,none⟩) 1 1)).old (.cells #[.int .i64 pk,.int .i64 pn,.int .i64 pd,.int .i64 pu,.slice poa pL pc] 32));have hO8:=Q1 ((hO7.out.kept hpu (.inr fun e=>by have:=hV.out g4 e;omega)).alloc (.cells #[.int .i64 pk,.int .i64 pn,.int .i64 pd,.int .i64 pu,.slice poa pL pc] 32))
          have hS8:=Q1 (show ∃ hh,J3 (fun b=>b<w.heap.size∨b=g2∨b=g4∨b=g0+1∨v.ownBlock=some b) ((J5 w7 g4 0 [.int .i64 5,.int .i64 0,.int .i64 0,.int .i64 0,.slice (some ⟨w7.heap.size,0,none⟩) 1 1]).alloc (.cells #[.int .i64 pk,.int .i64 pn,.int .i64 pd,.int .i64 pu,.slice poa pL pc] 32)) fun w=>∀ x∈D,Zy w hh x from by
           obtain⟨hh,hs⟩:=hS7.out
           exact⟨hh,(hs.grown hpu (fun k e _=>by injection e with e;exact Or.inr (Or.inr (Or.inl e.symm)))).alloc (.cells #[.int .i64 pk,.int .i64 pn,.int .i64 pd,.int .i64 pu,.slice poa pL pc] 32)⟩)
          have hm8:=Q1 ((hm7.out.far hpu (fun k e=>by injection e with e;omega) (by omega)).below (Q7 _ (.cells #[.int .i64 pk,.int .i64 pn,.int .i64 pd,.int .i64 pu,.slice poa pL pc] 32)));have hw9:w7.heap.size≤((J5 w7 g4 0 [.int .i64 5,.int .i64 0,.int .i64 0,.int .i64 0,.slice (some ⟨w7.heap.size,0,none⟩) 1 1]).alloc (.cells #[.int .i64 pk,.int .i64 pn,.int .i64 pd,.int .i64 pu,.slice poa pL pc] 32)).heap.size:=Zg (by simp[J5]);have hxe:=Q1 HX2.out.2.1;simp only[J5,Nat.zero_add,Nat.reduceAdd]at h28 h68 hO8 hS8 hm8 hx8 hw9;clear hpu h27 h67 h47 hO7 hS7 hm7 HX2 cg0 cg1 cg2 cg3 cg4 fcg0 fcg1 fcg2 fcg3 fcg4 lcg hxl2;generalize World.alloc _ _=w8 at *;obtain⟨cf0,fcf0,cf1,fcf1,cf2,fcf2,cf3,fcf3,cf4,fcf4,lcf⟩:=Ql.five (h48.out);obtain⟨ch0,fch0,ch1,fch1,ch2,fch2,ch3,fch3,ch4,fch4,lch⟩:=Ql.five (h68.out)
          have hbs:=Q1 (show w.heap.size≤w8.heap.size by have:=hm8.out.gb.size;omega);go_wp2_with (at_builtin;refine J4 Dd rfl _ _ rfl rfl (hO8.out.alloc _) (by have:=hbs.out;simp;omega) (Ql.new w8 _ _) 1 rfl rfl (by simp[Value.oneCell']) (by omega) (by omega) ?_;intro gg cap3 w9 ho9 hg9 hat9 hvb9;have H9:=Q1 (Q3 ho9 (Q3 hg9 (Q3 hat9 hvb9)));have ch4':=(hg9.cell_far (a:=⟨g0+1,4,none⟩) (by simp;omega) (fun e=>(hV.out _ e.symm).2 rfl)).trans ((Below.cell (B:=w8.heap.size) (Q7 w8 _) lch).trans ch4);have fch4':=(hg9.frozen_far (a:=⟨g0+1,4,none⟩) (by simp;omega) (fun e=>(hV.out _ e.symm).2 rfl)).trans ((Below.frozen (B:=w8.heap.size) (Q7 w8 _) lch).trans fch4);clear ho9 hg9 hat9 hvb9)
          go_roundg (N+1-j2)
          case measure=>omega
          case rel =>
           obtain⟨ho9,hg9,hat9,_⟩:=H9.out;obtain⟨a1,a2,a3,a4,a5,a6,a7⟩:=Ea (B3:=w3.heap.size) (lo:=g0) hm8.out (by omega) hwg hgs hg40 (by omega) hl6 (by omega) h28.out h48.out h68.out hV.out HV3.out hS8.out hx8.out ho9 rfl (show World.grownBy _ _ v.ownBlock from hg9) (show v.ownBlock=some gg∨_ from hat9);refine⟨j2,n,D++[.mk 5 0 0 0 (some ⟨w7.heap.size,0,none⟩) w7.heap.size 0 1 [x2]],_,5,0,0,0,some ⟨w7.heap.size,0,none⟩,1,1,Q1 a1,hj2N,Q1 a2,Q1 a3,Q1 a4,Q1 a5,Q1 a6,Q1 a7,Q1 ?_,by omega,by simp,by simp;omega,by omega,Q6 _⟩;rw[HY4.out,Option.map_map,Zp,List.map_cons,List.map_nil,Ex.c_mk,List.map_cons,List.map_nil,hxe.out]
           congr 1
           funext r
           simp
theorem Q3o (h:Nat) (read:List Vt→Nat→Option (Et×Nat)) (hC:Dn 227 h read):Dn 210 h (Ka read Um J1 true 2 3):=by
 intro R oa cap b o l i w hr;obtain⟨XL,hXL⟩:∃ XL,l.map Vl.c=XL:=⟨_,rfl⟩;obtain⟨N,hN⟩:∃ N,l.length=N:=⟨_,rfl⟩
 have hNX:XL.length=N:=by rw[← hXL,Qj,hN]
 have hsm:=hr.vs.here.small;have hcl:=hr.vs.here.sl.le;have hcm:=hr.vs.here.sl.max;have hiN:=hr.pos;unfold maxLen at hcm;rw[hN]at hsm hcl hiN;rw[hXL,hN];obtain⟨Y,hY⟩:∃ Y,Ka read Um J1 true 2 3 XL i=Y:=⟨_,rfl⟩;rw[hY];have hRlt:=hr.blk.lt
 have HCALL:=Q1 (show ∀ (j:Nat) (wx:World),Mv w wx R oa N cap j→j≤N→Calls Tryz.prog 227 #[.pointer (some ⟨R,0,none⟩)] wx fun e w'=>Ys (· < wx.heap.size) ((read XL j).map (·.1)) e w'∧∃ j2,Mv wx w' R oa N cap j2∧j2≤N∧∀ E j',read XL j=some (E,j')→j2=j'∧j<j2 from fun j wx hm hj=>by
  have h2:=hC R oa cap b o l j wx (hr.mv (by rw[hN];exact hm) (by rw[hN];exact hj));rw[hXL,hN]at h2
  exact h2)
 have HSIGN:=Q1 (show ∀ (j:Nat) (wx:World),Mv w wx R oa N cap j→j≤N→Calls Tryz.prog 228 #[.pointer (some ⟨R,0,none⟩),.string ⟨#[43]⟩,.string ⟨#[45]⟩,.bool true] wx fun e w'=>e=.returned (.string ⟨(Jt XL Um J1 true j).1.toArray⟩)∧Mv wx w' R oa N cap (Jt XL Um J1 true j).2 from fun j wx hm hj=>by
  have h2:=Oh R h oa cap b o l j Um J1 true wx (hr.mv (by rw[hN];exact hm) (by rw[hN];exact hj));rw[hXL,hN]at h2
  exact h2)
 have HN:=Q1 (Q3 hN (Q3 hXL hNX));have HY:=Q1 hY
 -- the result's variable
 have hb0:=Q7 w (.cells #[.int .i64 0,.int .i64 0,.int .i64 0,.int .i64 0,.slice none 0 0] 32);have h2:=Ql.new w 32 #[.int .i64 0,.int .i64 0,.int .i64 0,.int .i64 0,.slice none 0 0];have hm0:=Mv.refl hr;rw[hN]at hm0;have HM1:=Q1 (hm0.below hb0);have H2:=Q1 h2;clear hr hb0 h2 hN hXL hNX hC hY hm0
 go_enter Tryz.func210,Tryz.ntmps210
 go_upto_region 1 with fail
 obtain⟨g2,hg2⟩:∃ g2,w.heap.size=g2:=⟨_,rfl⟩;have HG:=Q1 hg2;rw[hg2]at H2 hRlt;simp only[hg2];clear hg2;generalize w.alloc _=w1 at *;have hg21:=H2.out.lt
 have hne2:g2≠R:=by omega
 obtain⟨r1,hr1⟩:∃ r1,read XL i=r1:=⟨_,rfl⟩;have hc1:=HCALL.out i w1 HM1.out hiN;rw[hr1]at hc1;have HC1:=Q1 hc1;have HR1:=Q1 hr1;clear hc1 hr1;go_wp2_with fail
 ((with_reducible refine HC1.out.mono ?_);rintro e w2 ⟨⟨v,ok,rfl,hok,h5,hE⟩,j,hmv,hjN,hjE⟩)
 obtain⟨vk,vn,vd,vu,voa,vL,vc,rfl⟩:=h5;have HE:=Q1 (Q3 hok hE);have HM2:=Q1 (HM1.out.trans hmv);have H22:=Q1 (hmv.keeps H2.out hne2);have HJ:=Q1 hjE;have hw12:=hmv.gb.size;clear hok hE hmv hjE HC1 HM1 H2
 cases r1 with
 | none =>
   obtain rfl:ok=false:=HE.out.1
   have hY0:Y=none:=by rw[← HY.out,Ka,HR1.out]
   subst hY0
   go_upto_region 2 with fail
   have h24:=Q1 (H22.out.old (.cells #[.int .i64 vk,.int .i64 vn,.int .i64 vd,.int .i64 vu,.slice voa vL vc] 32));have h44:=Ql.new w2 32 #[.int .i64 vk,.int .i64 vn,.int .i64 vd,.int .i64 vu,.slice voa vL vc];have hm4:=Q1 (HM2.out.below (Q7 w2 (.cells #[.int .i64 vk,.int .i64 vn,.int .i64 vd,.int .i64 vu,.slice voa vL vc] 32)));have hw2:=HM2.out.gb.size;generalize w2.heap.size=g4 at *;generalize w2.alloc _=w4 at *;obtain⟨ca0,fca0,ca1,fca1,ca2,fca2,ca3,fca3,ca4,fca4,lca⟩:=Ql.five (h44);obtain⟨cb0,fcb0,cb1,fcb1,cb2,fcb2,cb3,fcb3,cb4,fcb4,lcb⟩:=Ql.five (h24.out);clear h44;go_wp2_with fail;have hputs:=(h24.out).put5 (.int .i64 vk) (.int .i64 vn) (.int .i64 vd) (.int .i64 vu) (.slice voa vL vc);refine bodyPost_ret (v:=.tuple #[.agg #[.int .i64 vk,.int .i64 vn,.int .i64 vd,.int .i64 vu,.slice voa vL vc],.bool false]) ?_ rfl ?_
   · refine Zj Tryz.results210 ?_ ?_ hputs rfl
     all_goals rfl
   · exact⟨⟨_,_,rfl,rfl,⟨_,_,_,_,_,_,_,rfl⟩,fun E hE=>by cases hE⟩,j,hm4.out.far (Qm [.int .i64 vk,.int .i64 vn,.int .i64 vd,.int .i64 vu,.slice voa vL vc] w4 g2 0) (fun k e=>by have:=HG.out;injection e with e;omega) (by have:=HG.out;omega),hjN,fun E j' hE=>by cases hE⟩
 | some r1 =>
   obtain⟨E1,j1⟩:=r1;obtain rfl:ok=true:=HE.out.1;obtain⟨hjj,hij⟩:=HJ.out E1 j1 rfl;subst hjj;obtain⟨x1,h1,hxv,hxc,hxs⟩:=HE.out.2 E1 rfl;have HX1:=Q1 (Q3 hxv (Q3 hxc hxs));clear hxv hxc hxs HE HJ
   go_upto_region 4 with fail
   have h24:=Q1 (H22.out.old (.cells #[.int .i64 vk,.int .i64 vn,.int .i64 vd,.int .i64 vu,.slice voa vL vc] 32));have h44:=Ql.new w2 32 #[.int .i64 vk,.int .i64 vn,.int .i64 vd,.int .i64 vu,.slice voa vL vc];have hm4:=Q1 (HM2.out.below (Q7 w2 (.cells #[.int .i64 vk,.int .i64 vn,.int .i64 vd,.int .i64 vu,.slice voa vL vc] 32)));have hx4:=Q1 ((HX1.out.2.2.wide (A':=fun b=>b<w1.heap.size∨w2.heap.size≤b) fun b hb=>hb).alloc (.cells #[.int .i64 vk,.int .i64 vn,.int .i64 vd,.int .i64 vu,.slice voa vL vc] 32));have hw2:=HM2.out.gb.size
   have hw24:(w2.alloc (.cells #[.int .i64 vk,.int .i64 vn,.int .i64 vd,.int .i64 vu,.slice voa vL vc] 32)).heap.size=w2.heap.size+1:=by simp
   generalize hg4:w2.heap.size=g4 at *;generalize w2.alloc _=w4 at *;obtain⟨ca0,fca0,ca1,fca1,ca2,fca2,ca3,fca3,ca4,fca4,lca⟩:=Ql.five (h44);have H44:=Q1 h44;have HW24:=Q1 hw24;clear h44 H22 HM2 hw24
   go_upto_region 5 with fail
   have hgr:Below w4.heap.size w4 ((w4.alloc (.cells #[.int .i64 vk,.int .i64 vn,.int .i64 vd,.int .i64 vu,.slice voa vL vc] 32)).alloc (.cells #[.int .i64 2,.int .i64 0,.int .i64 0,.int .i64 0,.slice (some ⟨w4.heap.size,0,none⟩) 1 1] 32)):=(Q7 _ _).alloc (by simp) _;have h25:=Q1 (h24.out.below hgr h24.out.lt);have h45:=Q1 (H44.out.below hgr H44.out.lt);have hm5:=Q1 (hm4.out.below hgr);have hx5:=Q1 (hx4.out.below hgr);have h65:=Q1 (Ql.new2 w4 (.cells #[.int .i64 vk,.int .i64 vn,.int .i64 vd,.int .i64 vu,.slice voa vL vc] 32) 32 #[.int .i64 2,.int .i64 0,.int .i64 0,.int .i64 0,.slice (some ⟨w4.heap.size,0,none⟩) 1 1])
   have hro:=Q1 (Vv (base:=w.heap.size) (n:=1) (size:=5) ((Ql.new w4 32 #[.int .i64 vk,.int .i64 vn,.int .i64 vd,.int .i64 vu,.slice voa vL vc]).old (.cells #[.int .i64 2,.int .i64 0,.int .i64 0,.int .i64 0,.slice (some ⟨w4.heap.size,0,none⟩) 1 1] 32)) (by have:=HG.out;have:=HW24.out;omega) rfl (by decide))
   have hw5:((w4.alloc (.cells #[.int .i64 vk,.int .i64 vn,.int .i64 vd,.int .i64 vu,.slice voa vL vc] 32)).alloc (.cells #[.int .i64 2,.int .i64 0,.int .i64 0,.int .i64 0,.slice (some ⟨w4.heap.size,0,none⟩) 1 1] 32)).heap.size=w4.heap.size+2:=by simp
   clear h24 H44 hm4 hx4 ca0 ca1 ca2 ca3 ca4 fca0 fca1 fca2 fca3 fca4 lca hgr;generalize hg0:w4.heap.size=g0 at *;generalize World.alloc (World.alloc w4 _) _=w5 at *
   have hY2:Y=(V6 (read XL) (Jt XL Um J1 true) J1 3 (N+1) j).map fun r=>(Jm 2 (E1::r.1),r.2):=by
    rw[← HY.out];unfold Ka;rw[HR1.out,HN.out.2.2]
   have HY2:=Q1 hY2;clear hY2;have hw24:=HW24.out;have HGS:=Q1 (show w.heap.size=g2∧g2<g4∧g0=g4+1 from ⟨HG.out,by omega,by omega⟩)
   have hS0:=Q1 (show ∃ hh,J3 (fun b=>b<w.heap.size∨b=g2∨b=g4∨b=g0+1∨(Value.slice (some ⟨g0,0,none⟩) 1 1).ownBlock=some b) w5 fun w=>∀ x∈[x1],Zy w hh x from
    ⟨h1,(hx5.out.mono fun _ hw x hx=>by obtain rfl:=Qh.1 hx;exact hw) |>.anti fun b hb hlt=>by
      have:=HG.out
      rcases hb with hb|hb|hb|hb|hb
      · exact Or.inl (by omega)
      · exact Or.inl (by omega)
      · exact Or.inr (by omega)
      · exact Or.inr (by omega)
      · have:=Q8 hb;simp only at this
        exact Or.inr (by omega)⟩)
   clear hw24 HW24;have hxc1:=Q1 HX1.out.2.1
   have hxl1:J6 x1=[.int .i64 vk,.int .i64 vn,.int .i64 vd,.int .i64 vu,.slice voa vL vc]:=by
    have e:=HX1.out.1;unfold xv at e
    injection e with e
    have:=congrArg Array.toList e;simpa using this.symm
   have hro2:=Q1 (show w5.ownsRow w.heap.size 32 5 (.slice (some ⟨g0,0,none⟩) [x1].length 1) [x1].length ([x1].flatMap J6) from by
    rw[Zd,hxl1]
    exact hro.out)
   clear hx5 hro HX1 HR1 HY hxl1
   go_loopg [] (N+1) (fun q wr=>∃ (j n:Nat) (D:List Ex) (v:Value) (yk yn yd yu:Int) (yoa:Option Addr) (yL yc:Nat),Hid (Mv w wr R oa N cap j)∧j≤N∧Hid (wr.ownsRow w.heap.size 32 5 v D.length (D.flatMap J6)) ∧
    Hid (Ql wr g2 32 #[.int .i64 0,.int .i64 0,.int .i64 0,.int .i64 0,.slice none 0 0])∧Hid (Ql wr g4 32 #[.int .i64 yk,.int .i64 yn,.int .i64 yd,.int .i64 yu,.slice yoa yL yc])∧Hid (Ql wr (g0+1) 32 #[.int .i64 2,.int .i64 0,.int .i64 0,.int .i64 0,v]) ∧
    Hid (∃ hh,J3 (fun b=>b<w.heap.size∨b=g2∨b=g4∨b=g0+1∨v.ownBlock=some b) wr fun w=>∀ x∈D,Zy w hh x) ∧
    Hid (∀ b,v.ownBlock=some b→g0≤b∧b≠g0+1)∧Hid (Y=(V6 (read XL) (Jt XL Um J1 true) J1 3 n j).map fun r=>(Jm 2 (D.map Ex.c++r.1),r.2))∧N<n+j∧1≤D.length∧D.length≤j∧i<j∧N+1-j≤q)
   case atStart=>exact⟨j,N+1,[x1],_,vk,vn,vd,vu,voa,vL,vc,hm5,hjN,hro2,h25,h45,h65,hS0,Q1 (fun b hb=>by have:=Q8 hb;simp only at this;omega),Q1 (by rw[HY2.out];simp only[List.map_cons,List.map_nil,hxc1.out];rfl),by omega,Q6 _,by simp;omega,hij,by omega⟩
   case round =>
    clear hm5 hro2 h25 h45 h65 hS0 HY2 hxc1;obtain⟨j,n,D,v,yk,yn,yd,yu,yoa,yL,yc,hm,hjN,hO,h2,h4,h6,hS,hV,hY,hnj,hD1,hDj,hij,hq⟩:=hrel
    have hwg:w.heap.size≤g2:=by have:=HGS.out.1;omega
    have hgw:g2≤w.heap.size:=by have:=HGS.out.1;omega
    have hgs:g2<g4:=HGS.out.2.1
    have hg40:g4<g0:=by have:=HGS.out.2.2;omega
    have hsg:=HSIGN.out j wr hm.out hjN;obtain⟨⟨ss,js⟩,hss⟩:∃ S,Jt XL Um J1 true j=S:=⟨_,rfl⟩;have hways:=Mf (l:=XL) (s1:=Um) (s2:=J1) (apart:=true) (i:=j) (by rw[HN.out.2.2];exact hjN) (by decide) (by decide);rw[hss]at hsg hways;simp only at hsg hways;have HSG:=Q1 hsg;have HSS:=Q1 hss;clear hsg hss;go_wp2_with fail;go_wp2_with fail
    ((with_reducible refine(HSG.out).mono ?_);rintro e w' ⟨rfl,hmv⟩)
    have hm3:=Q1 (hm.out.trans hmv);have h23:=Q1 (hmv.keeps h2.out hne2);have h43:=Q1 (hmv.keeps h4.out (by omega));have h63:=Q1 (hmv.keeps h6.out (by omega));have hO3:=Q1 (V9 hO.out hmv.gb (by omega))
    have hS3:=Q1 (show ∃ hh,J3 (fun b=>b<w.heap.size∨b=g2∨b=g4∨b=g0+1∨v.ownBlock=some b) w' fun w=>∀ x∈D,Zy w hh x from by
     obtain⟨hh,hs⟩:=hS.out
     exact⟨hh,hs.grown hmv.gb (fun k e _=>by injection e with e;exact Or.inl (by omega))⟩)
    clear hmv hm h2 h4 h6 hO hS HSG;obtain⟨w3,hw3⟩:∃ w3,w3=w':=⟨_,rfl⟩;subst hw3
    rcases hways with hways|⟨s,j1,hsj,hs12,hj1,hj1N⟩
    · -- no sign: done
      injection hways with e1 e2
      have e3:=e2.symm;subst e1 e3
      have hY3:Y=some (Jm 2 (D.map Ex.c),j):=by
       rw[hY.out,Lj HSS.out];simp
      obtain⟨hh,hs⟩:=hS3.out;obtain⟨voa,vcap,gv,rfl,hsl,hpos⟩:=Zx hO3.out;have hgv:=hV.out gv (by rw[(hsl.lies (by omega)).1];rfl)
      have hex:J3 (fun b=>b<w.heap.size∨b=g2∨b=g4∨b=g0+1) w3 fun w=>Zy w (hh+1) (.mk 2 0 0 0 voa gv 0 vcap D) :=
       Zy.made (Z1 _ (by decide)) (by unfold U2;decide) (Z1 _ (by decide)) (by omega) hsl (fun _ hb=>by
        have:=hpos (by omega)
        rcases hb with hb|hb|hb|hb<;>omega) (hs.anti fun b hb _=>by
        rcases hb with hb|hb|hb|hb
        · exact Or.inl hb
        · exact Or.inr (Or.inl hb)
        · exact Or.inr (Or.inr (Or.inl hb))
        · exact Or.inr (Or.inr (Or.inr (Or.inl hb))))
      have hsi:=Fz _ hh 2 voa gv 0 vcap D w3 hex;obtain⟨DL,hDL⟩:∃ DL,D.length=DL:=⟨_,rfl⟩;rw[hDL]at hsi;have HSI:=Q1 hsi;have h63':=h63.out;rw[hDL]at h63';obtain⟨cc0,fcc0,cc1,fcc1,cc2,fcc2,cc3,fcc3,cc4,fcc4,lcc⟩:=Ql.five (h63');have HY3:=Q1 hY3;clear hs hsl hpos hex hsi h63' hY3;go_wp2_with fail
      ((with_reducible refine HSI.out.mono ?_);rintro e w6 ⟨⟨vs,rfl,hex⟩,hbb⟩)
      obtain⟨vk,vn,vd,vu,voa,vL,vc,rfl⟩:=hex.e5;have h26:=h23.out.below hbb h23.out.lt;obtain⟨cd0,fcd0,cd1,fcd1,cd2,fcd2,cd3,fcd3,cd4,fcd4,lcd⟩:=Ql.five (h26);have H26:=Q1 h26;have HEX:=Q1 hex;have hm6:=Q1 (hm3.out.below hbb);clear h26 hex hbb cc0 cc1 cc2 cc3 cc4 fcc0 fcc1 fcc2 fcc3 fcc4 lcc;go_wp2_with fail;have hpu:=Qm [.int .i64 vk,.int .i64 vn,.int .i64 vd,.int .i64 vu,.slice voa vL vc] w6 g2 0;have hputs:=(H26.out).put5 (.int .i64 vk) (.int .i64 vn) (.int .i64 vd) (.int .i64 vu) (.slice voa vL vc);refine bodyPost_ret (v:=.tuple #[.agg #[.int .i64 vk,.int .i64 vn,.int .i64 vd,.int .i64 vu,.slice voa vL vc],.bool true]) ?_ rfl ?_
      · refine Zj Tryz.results210 ?_ ?_ hputs rfl
        all_goals rfl
      · exact⟨⟨_,_,rfl,by rw[HY3.out];rfl,⟨_,_,_,_,_,_,_,rfl⟩,fun E hE=>by rw[HY3.out]at hE;injection hE with hE;subst hE;exact(HEX.out.grown hpu (fun k e _=>by injection e with e;exact Or.inr (Or.inl e.symm))).anti fun b hb=>Or.inl (Or.inl hb)⟩,j,hm6.out.far hpu (fun k e=>by injection e with e;omega) (by omega),hjN,fun E j' hE=>by rw[HY3.out]at hE;injection hE with hE;injection hE with _ hE;exact⟨hE,hij⟩⟩
    · -- a sign
      injection hsj with e1 e2
      subst e1 e2;rw[HN.out.2.2]at hj1N;obtain⟨n,rfl⟩:∃ n',n=n'+1:=⟨n-1,by omega⟩;have hY3:=hY.out;rw[Rz HSS.out (by rcases hs12 with rfl|rfl<;>decide)]at hY3;obtain⟨r2,hr2⟩:∃ r2,read XL js=r2:=⟨_,rfl⟩;have hc2:=HCALL.out js w3 hm3.out hj1N;rw[hr2]at hc2 hY3;have HC2:=Q1 hc2;have HY3:=Q1 hY3;have hwn:w.heap.size≤w3.heap.size:=hm3.out.gb.size;have hl2:=h23.out.lt;have hl4:=h43.out.lt;have hl6:=h63.out.lt;clear hc2 hY3 hr2 hY
      rcases hs12 with rfl|rfl
      · go_wp2_with fail
        ((with_reducible refine HC2.out.mono ?_);rintro e w6 ⟨⟨pv,ok,rfl,hok,h5,hE⟩,j2,hmv,hj2N,hjE⟩)
        obtain⟨pk,pn,pd,pu,poa,pL,pc,rfl⟩:=h5;have HE:=Q1 (Q3 hok hE);have HJ:=Q1 hjE;have hm6:=Q1 (hm3.out.trans hmv);have h26:=Q1 (hmv.keeps h23.out hne2);have h46:=Q1 (hmv.keeps h43.out (by omega));have h66:=Q1 (hmv.keeps h63.out (by omega));have hO6:=Q1 (V9 hO3.out hmv.gb (by omega))
        have hS6:=Q1 (show ∃ hh,J3 (fun b=>b<w.heap.size∨b=g2∨b=g4∨b=g0+1∨v.ownBlock=some b) w6 fun w=>∀ x∈D,Zy w hh x from by
         obtain⟨hh,hs⟩:=hS3.out
         exact⟨hh,hs.grown hmv.gb (fun k e _=>by injection e with e;exact Or.inl (by omega))⟩)
        have hw6:=hmv.gb.size;have HV3:=Q1 (show ∀ b,v.ownBlock=some b→b<w3.heap.size from fun b e=>(hO3.out.lt b e).2);clear hok hE hjE hmv HC2 hm3 h23 h43 h63 hO3 hS3;obtain⟨cc0,fcc0,cc1,fcc1,cc2,fcc2,cc3,fcc3,cc4,fcc4,lcc⟩:=Ql.five (h46.out)
        go_upto_region 8 with fail
        have hpu:=Qm [.int .i64 pk,.int .i64 pn,.int .i64 pd,.int .i64 pu,.slice poa pL pc] w6 g4 0;have h27:=Q1 (show Ql (J5 w6 g4 0 [.int .i64 pk,.int .i64 pn,.int .i64 pd,.int .i64 pu,.slice poa pL pc]) g2 32 #[.int .i64 0,.int .i64 0,.int .i64 0,.int .i64 0,.slice none 0 0] from (hpu.block g2 h26.out.lt (by simp;omega)).trans h26.out);have h67:=Q1 (show Ql (J5 w6 g4 0 [.int .i64 pk,.int .i64 pn,.int .i64 pd,.int .i64 pu,.slice poa pL pc]) (g0+1) 32 #[.int .i64 2,.int .i64 0,.int .i64 0,.int .i64 0,v] from (hpu.block (g0+1) h66.out.lt (by simp;omega)).trans h66.out);have h47:=Q1 (h46.out.put5 (.int .i64 pk) (.int .i64 pn) (.int .i64 pd) (.int .i64 pu) (.slice poa pL pc));have hO7:=Q1 (hO6.out.kept hpu (.inr fun e=>by have:=hV.out g4 e;omega))
        have hS7:=Q1 (show ∃ hh,J3 (fun b=>b<w.heap.size∨b=g2∨b=g4∨b=g0+1∨v.ownBlock=some b) (J5 w6 g4 0 [.int .i64 pk,.int .i64 pn,.int .i64 pd,.int .i64 pu,.slice poa pL pc]) fun w=>∀ x∈D,Zy w hh x from by
         obtain⟨hh,hs⟩:=hS6.out
         exact⟨hh,hs.grown hpu (fun k e _=>by injection e with e;exact Or.inr (Or.inr (Or.inl e.symm)))⟩)
        have hm7:=Q1 (hm6.out.far hpu (fun k e=>by injection e with e;omega) (by omega));have hE7:=Q1 (show ∀ E,r2.map (·.1)=some E→Jk (· < w3.heap.size) E (.agg #[.int .i64 pk,.int .i64 pn,.int .i64 pd,.int .i64 pu,.slice poa pL pc]) (J5 w6 g4 0 [.int .i64 pk,.int .i64 pn,.int .i64 pd,.int .i64 pu,.slice poa pL pc]) from fun E hE=>(HE.out.2 E hE).grown hpu (fun k e _=>by injection e with e;omega));have hw7:(J5 w6 g4 0 [.int .i64 pk,.int .i64 pn,.int .i64 pd,.int .i64 pu,.slice poa pL pc]).heap.size≤w6.heap.size:=Qr (Jp _ _ _ _);have hw8:w6.heap.size≤(J5 w6 g4 0 [.int .i64 pk,.int .i64 pn,.int .i64 pd,.int .i64 pu,.slice poa pL pc]).heap.size:=Qr (Jp _ _ _ _).symm;simp only[J5,Nat.zero_add,Nat.reduceAdd]at h27 h67 hO7 hS7 hm7 hE7 hw7 hw8;clear hpu h26 h66 h46 hO6 hS6 hm6 cc0 cc1 cc2 cc3 cc4 fcc0 fcc1 fcc2 fcc3 fcc4 lcc
        generalize World.setCell _ _ _=w7 at *
        cases r2 with
        | none =>
          obtain rfl:ok=false:=HE.out.1;have hY4:Y=none:=HY3.out;subst hY4;obtain⟨ca0,fca0,ca1,fca1,ca2,fca2,ca3,fca3,ca4,fca4,lca⟩:=Ql.five (h47.out);obtain⟨cb0,fcb0,cb1,fcb1,cb2,fcb2,cb3,fcb3,cb4,fcb4,lcb⟩:=Ql.five (h27.out);go_wp2_with fail;have hputs:=(h27.out).put5 (.int .i64 pk) (.int .i64 pn) (.int .i64 pd) (.int .i64 pu) (.slice poa pL pc);refine bodyPost_ret (v:=.tuple #[.agg #[.int .i64 pk,.int .i64 pn,.int .i64 pd,.int .i64 pu,.slice poa pL pc],.bool false]) ?_ rfl ?_
          · refine Zj Tryz.results210 ?_ ?_ hputs rfl
            all_goals rfl
          · exact⟨⟨_,_,rfl,rfl,⟨_,_,_,_,_,_,_,rfl⟩,fun E hE=>by cases hE⟩,j2,hm7.out.far (Qm [.int .i64 pk,.int .i64 pn,.int .i64 pd,.int .i64 pu,.slice poa pL pc] w7 g2 0) (fun k e=>by injection e with e;omega) (by omega),by first|exact⟨hj2N,fun E j' hE=>by cases hE⟩ | exact hj2N⟩
        | some r2 =>
          obtain⟨E2,j3⟩:=r2;obtain rfl:ok=true:=HE.out.1;obtain⟨hjj,hjs⟩:=HJ.out E2 j3 rfl;subst hjj;obtain⟨x2,hx2,hxv,hxc,hxs⟩:=hE7.out E2 rfl;have HX2:=Q1 (Q3 hxv (Q3 hxc hxs))
          have HY4:=Q1 (show Y=((V6 (read XL) (Jt XL Um J1 true) J1 3 n j2).map fun r=>(E2::r.1,r.2)).map fun r=>(Jm 2 (D.map Ex.c++r.1),r.2) from by
           have:=HY3.out;simp only[show ¬ (Um=J1) by decide,if_false]at this
           exact this)
          clear hxv hxc hxs hE7 HE HJ HY3;have hx8:=Q1 (HX2.out.2.2.wide (A':=fun b=>b<w3.heap.size∨w7.heap.size≤b) fun b hb=>hb);have hxe:=Q1 (Q3 HX2.out.1 HX2.out.2.1);clear HX2
          go_upto_region 12 with fail
          have h28:=h27;have h48:=h47;have h68:=h67;have hO8:=hO7;have hS8:=hS7;have hm8:=hm7;clear h27 h47 h67 hO7 hS7 hm7;generalize w7=w8 at *;obtain⟨cf0,fcf0,cf1,fcf1,cf2,fcf2,cf3,fcf3,cf4,fcf4,lcf⟩:=Ql.five (h48.out);obtain⟨ch0,fch0,ch1,fch1,ch2,fch2,ch3,fch3,ch4,fch4,lch⟩:=Ql.five (h68.out);have hbs:=Q1 (show w.heap.size≤w8.heap.size by have:=hm8.out.gb.size;omega)
          go_wp2_with (at_builtin;refine J4 Dd rfl _ _ rfl rfl (hO8.out.alloc _) (by have:=hbs.out;simp;omega) (Ql.new w8 _ _) 1 rfl rfl (by simp[Value.oneCell']) (by omega) (by omega) ?_;intro gg cap3 w9 ho9 hg9 hat9 hvb9;have H9:=Q1 (Q3 ho9 (Q3 hg9 (Q3 hat9 hvb9)));have ch4':=(hg9.cell_far (a:=⟨g0+1,4,none⟩) (by simp;omega) (fun e=>(hV.out _ e.symm).2 rfl)).trans ((Below.cell (B:=w8.heap.size) (Q7 w8 _) lch).trans ch4);have fch4':=(hg9.frozen_far (a:=⟨g0+1,4,none⟩) (by simp;omega) (fun e=>(hV.out _ e.symm).2 rfl)).trans ((Below.frozen (B:=w8.heap.size) (Q7 w8 _) lch).trans fch4);clear ho9 hg9 hat9 hvb9)
          go_roundg (N+1-j2)
          case measure=>omega
          case rel =>
           obtain⟨ho9,hg9,hat9,_⟩:=H9.out
           have hxcl:J6 x2=[.int .i64 pk,.int .i64 pn,.int .i64 pd,.int .i64 pu,.slice poa pL pc]:=by
            have e:=hxe.out.1;unfold xv at e
            injection e with e
            have:=congrArg Array.toList e;simpa using this.symm
           obtain⟨a1,a2,a3,a4,a5,a6,a7⟩:=Ea (B3:=w3.heap.size) (lo:=g0) hm8.out (by omega) hwg hgs hg40 (by omega) hl6 (by omega) h28.out h48.out h68.out hV.out HV3.out hS8.out hx8.out ho9 hxcl (show World.grownBy _ _ v.ownBlock from hg9) (show v.ownBlock=some gg∨_ from hat9);refine⟨j2,n,D++[x2],_,pk,pn,pd,pu,poa,pL,pc,Q1 a1,hj2N,Q1 a2,Q1 a3,Q1 a4,Q1 a5,Q1 a6,Q1 a7,Q1 ?_,by omega,by simp,by simp;omega,by omega,Q6 _⟩;rw[HY4.out,Option.map_map,Zp,List.map_cons,List.map_nil,hxe.out.2]
           congr 1
           funext r
           simp
      · go_wp2_with fail
        ((with_reducible refine HC2.out.mono ?_);rintro e w6 ⟨⟨pv,ok,rfl,hok,h5,hE⟩,j2,hmv,hj2N,hjE⟩)
        obtain⟨pk,pn,pd,pu,poa,pL,pc,rfl⟩:=h5;have HE:=Q1 (Q3 hok hE);have HJ:=Q1 hjE;have hm6:=Q1 (hm3.out.trans hmv);have h26:=Q1 (hmv.keeps h23.out hne2);have h46:=Q1 (hmv.keeps h43.out (by omega));have h66:=Q1 (hmv.keeps h63.out (by omega));have hO6:=Q1 (V9 hO3.out hmv.gb (by omega))
        have hS6:=Q1 (show ∃ hh,J3 (fun b=>b<w.heap.size∨b=g2∨b=g4∨b=g0+1∨v.ownBlock=some b) w6 fun w=>∀ x∈D,Zy w hh x from by
         obtain⟨hh,hs⟩:=hS3.out
         exact⟨hh,hs.grown hmv.gb (fun k e _=>by injection e with e;exact Or.inl (by omega))⟩)
        have hw6:=hmv.gb.size;have HV3:=Q1 (show ∀ b,v.ownBlock=some b→b<w3.heap.size from fun b e=>(hO3.out.lt b e).2);clear hok hE hjE hmv HC2 hm3 h23 h43 h63 hO3 hS3;obtain⟨cc0,fcc0,cc1,fcc1,cc2,fcc2,cc3,fcc3,cc4,fcc4,lcc⟩:=Ql.five (h46.out)
        go_upto_region 8 with fail
        have hpu:=Qm [.int .i64 pk,.int .i64 pn,.int .i64 pd,.int .i64 pu,.slice poa pL pc] w6 g4 0;have h27:=Q1 (show Ql (J5 w6 g4 0 [.int .i64 pk,.int .i64 pn,.int .i64 pd,.int .i64 pu,.slice poa pL pc]) g2 32 #[.int .i64 0,.int .i64 0,.int .i64 0,.int .i64 0,.slice none 0 0] from (hpu.block g2 h26.out.lt (by simp;omega)).trans h26.out);have h67:=Q1 (show Ql (J5 w6 g4 0 [.int .i64 pk,.int .i64 pn,.int .i64 pd,.int .i64 pu,.slice poa pL pc]) (g0+1) 32 #[.int .i64 2,.int .i64 0,.int .i64 0,.int .i64 0,v] from (hpu.block (g0+1) h66.out.lt (by simp;omega)).trans h66.out);have h47:=Q1 (h46.out.put5 (.int .i64 pk) (.int .i64 pn) (.int .i64 pd) (.int .i64 pu) (.slice poa pL pc));have hO7:=Q1 (hO6.out.kept hpu (.inr fun e=>by have:=hV.out g4 e;omega))
        have hS7:=Q1 (show ∃ hh,J3 (fun b=>b<w.heap.size∨b=g2∨b=g4∨b=g0+1∨v.ownBlock=some b) (J5 w6 g4 0 [.int .i64 pk,.int .i64 pn,.int .i64 pd,.int .i64 pu,.slice poa pL pc]) fun w=>∀ x∈D,Zy w hh x from by
         obtain⟨hh,hs⟩:=hS6.out
         exact⟨hh,hs.grown hpu (fun k e _=>by injection e with e;exact Or.inr (Or.inr (Or.inl e.symm)))⟩)
        have hm7:=Q1 (hm6.out.far hpu (fun k e=>by injection e with e;omega) (by omega));have hE7:=Q1 (show ∀ E,r2.map (·.1)=some E→Jk (· < w3.heap.size) E (.agg #[.int .i64 pk,.int .i64 pn,.int .i64 pd,.int .i64 pu,.slice poa pL pc]) (J5 w6 g4 0 [.int .i64 pk,.int .i64 pn,.int .i64 pd,.int .i64 pu,.slice poa pL pc]) from fun E hE=>(HE.out.2 E hE).grown hpu (fun k e _=>by injection e with e;omega));have hw7:(J5 w6 g4 0 [.int .i64 pk,.int .i64 pn,.int .i64 pd,.int .i64 pu,.slice poa pL pc]).heap.size≤w6.heap.size:=Qr (Jp _ _ _ _);have hw8:w6.heap.size≤(J5 w6 g4 0 [.int .i64 pk,.int .i64 pn,.int .i64 pd,.int .i64 pu,.slice poa pL pc]).heap.size:=Qr (Jp _ _ _ _).symm;simp only[J5,Nat.zero_add,Nat.reduceAdd]at h27 h67 hO7 hS7 hm7 hE7 hw7 hw8;clear hpu h26 h66 h46 hO6 hS6 hm6 cc0 cc1 cc2 cc3 cc4 fcc0 fcc1 fcc2 fcc3 fcc4 lcc
        generalize World.setCell _ _ _=w7 at *
        cases r2 with
        | none =>
          obtain rfl:ok=false:=HE.out.1;have hY4:Y=none:=HY3.out;subst hY4;obtain⟨ca0,fca0,ca1,fca1,ca2,fca2,ca3,fca3,ca4,fca4,lca⟩:=Ql.five (h47.out);obtain⟨cb0,fcb0,cb1,fcb1,cb2,fcb2,cb3,fcb3,cb4,fcb4,lcb⟩:=Ql.five (h27.out);go_wp2_with fail;have hputs:=(h27.out).put5 (.int .i64 pk) (.int .i64 pn) (.int .i64 pd) (.int .i64 pu) (.slice poa pL pc);refine bodyPost_ret (v:=.tuple #[.agg #[.int .i64 pk,.int .i64 pn,.int .i64 pd,.int .i64 pu,.slice poa pL pc],.bool false]) ?_ rfl ?_
          · refine Zj Tryz.results210 ?_ ?_ hputs rfl
            all_goals rfl
          · exact⟨⟨_,_,rfl,rfl,⟨_,_,_,_,_,_,_,rfl⟩,fun E hE=>by cases hE⟩,j2,hm7.out.far (Qm [.int .i64 pk,.int .i64 pn,.int .i64 pd,.int .i64 pu,.slice poa pL pc] w7 g2 0) (fun k e=>by injection e with e;omega) (by omega),by first|exact⟨hj2N,fun E j' hE=>by cases hE⟩ | exact hj2N⟩
        | some r2 =>
          obtain⟨E2,j3⟩:=r2;obtain rfl:ok=true:=HE.out.1;obtain⟨hjj,hjs⟩:=HJ.out E2 j3 rfl;subst hjj;obtain⟨x2,hx2,hxv,hxc,hxs⟩:=hE7.out E2 rfl;have HX2:=Q1 (Q3 hxv (Q3 hxc hxs))
          have HY4:=Q1 (show Y=((V6 (read XL) (Jt XL Um J1 true) J1 3 n j2).map fun r=>(Et.mk 3 0 0 0 [E2]::r.1,r.2)).map fun r=>(Jm 2 (D.map Ex.c++r.1),r.2) from by
           have:=HY3.out;simp only[if_true]at this
           exact this)
          clear hxv hxc hxs hE7 HE HJ HY3
          go_upto_region 11 with fail
          have hxl2:J6 x2=[.int .i64 pk,.int .i64 pn,.int .i64 pd,.int .i64 pu,.slice poa pL pc]:=by
           have e:=HX2.out.1;unfold xv at e
           injection e with e
           have:=congrArg Array.toList e;simpa using this.symm
          obtain⟨cg0,fcg0,cg1,fcg1,cg2,fcg2,cg3,fcg3,cg4,fcg4,lcg⟩:=Ql.five (h47.out)
          go_upto_region 12 with fail
          have hpu:=Qm [.int .i64 3,.int .i64 0,.int .i64 0,.int .i64 0,.slice (some ⟨w7.heap.size,0,none⟩) 1 1] w7 g4 0;have hx8:=Q1 (Ng (kk:=3) (cs:=[.int .i64 3,.int .i64 0,.int .i64 0,.int .i64 0,.slice (some ⟨w7.heap.size,0,none⟩) 1 1]) hxl2 rfl hl4 (by omega) (Z1 _ (by decide)) HX2.out.2.2);have h28:=Q1 (show Ql ((J5 w7 g4 0 [.int .i64 3,.int .i64 0,.int .i64 0,.int .i64 0,.slice (some ⟨w7.heap.size,0,none⟩) 1 1]).alloc (.cells #[.int .i64 pk,.int .i64 pn,.int .i64 pd,.int .i64 pu,.slice poa pL pc] 32)) g2 32 #[.int .i64 0,.int .i64 0,.int .i64 0,.int .i64 0,.slice none 0 0] from Ql.old ((hpu.block g2 h27.out.lt (by simp;omega)).trans h27.out) _)
          have h68:=Q1 (show Ql ((J5 w7 g4 0 [.int .i64 3,.int .i64 0,.int .i64 0,.int .i64 0,.slice (some ⟨w7.heap.size,0,none⟩) 1 1]).alloc (.cells #[.int .i64 pk,.int .i64 pn,.int .i64 pd,.int .i64 pu,.slice poa pL pc] 32)) (g0+1) 32 #[.int .i64 2,.int .i64 0,.int .i64 0,.int .i64 0,v] from Ql.old ((hpu.block (g0+1) h67.out.lt (by simp;omega)).trans h67.out) _);have h48:=Q1 ((h47.out.put5 (.int .i64 3) (.int .i64 0) (.int .i64 0) (.int .i64 0) (.slice (some ⟨w7.heap.size,0,none⟩) 1 1)).old (.cells #[.int .i64 pk,.int .i64 pn,.int .i64 pd,.int .i64 pu,.slice poa pL pc] 32));have hO8:=Q1 ((hO7.out.kept hpu (.inr fun e=>by have:=hV.out g4 e;omega)).alloc (.cells #[.int .i64 pk,.int .i64 pn,.int .i64 pd,.int .i64 pu,.slice poa pL pc] 32))
          have hS8:=Q1 (show ∃ hh,J3 (fun b=>b<w.heap.size∨b=g2∨b=g4∨b=g0+1∨v.ownBlock=some b) ((J5 w7 g4 0 [.int .i64 3,.int .i64 0,.int .i64 0,.int .i64 0,.slice (some ⟨w7.heap.size,0,none⟩) 1 1]).alloc (.cells #[.int .i64 pk,.int .i64 pn,.int .i64 pd,.int .i64 pu,.slice poa pL pc] 32)) fun w=>∀ x∈D,Zy w hh x from by
           obtain⟨hh,hs⟩:=hS7.out
           exact⟨hh,(hs.grown hpu (fun k e _=>by injection e with e;exact Or.inr (Or.inr (Or.inl e.symm)))).alloc (.cells #[.int .i64 pk,.int .i64 pn,.int .i64 pd,.int .i64 pu,.slice poa pL pc] 32)⟩)
          have hm8:=Q1 ((hm7.out.far hpu (fun k e=>by injection e with e;omega) (by omega)).below (Q7 _ (.cells #[.int .i64 pk,.int .i64 pn,.int .i64 pd,.int .i64 pu,.slice poa pL pc] 32)));have hw9:w7.heap.size≤((J5 w7 g4 0 [.int .i64 3,.int .i64 0,.int .i64 0,.int .i64 0,.slice (some ⟨w7.heap.size,0,none⟩) 1 1]).alloc (.cells #[.int .i64 pk,.int .i64 pn,.int .i64 pd,.int .i64 pu,.slice poa pL pc] 32)).heap.size:=Zg (by simp[J5]);have hxe:=Q1 HX2.out.2.1;simp only[J5,Nat.zero_add,Nat.reduceAdd]at h28 h68 hO8 hS8 hm8 hx8 hw9;clear hpu h27 h67 h47 hO7 hS7 hm7 HX2 cg0 cg1 cg2 cg3 cg4 fcg0 fcg1 fcg2 fcg3 fcg4 lcg hxl2;generalize World.alloc _ _=w8 at *;obtain⟨cf0,fcf0,cf1,fcf1,cf2,fcf2,cf3,fcf3,cf4,fcf4,lcf⟩:=Ql.five (h48.out);obtain⟨ch0,fch0,ch1,fch1,ch2,fch2,ch3,fch3,ch4,fch4,lch⟩:=Ql.five (h68.out)
          have hbs:=Q1 (show w.heap.size≤w8.heap.size by have:=hm8.out.gb.size;omega);go_wp2_with (at_builtin;refine J4 Dd rfl _ _ rfl rfl (hO8.out.alloc _) (by have:=hbs.out;simp;omega) (Ql.new w8 _ _) 1 rfl rfl (by simp[Value.oneCell']) (by omega) (by omega) ?_;intro gg cap3 w9 ho9 hg9 hat9 hvb9;have H9:=Q1 (Q3 ho9 (Q3 hg9 (Q3 hat9 hvb9)));have ch4':=(hg9.cell_far (a:=⟨g0+1,4,none⟩) (by simp;omega) (fun e=>(hV.out _ e.symm).2 rfl)).trans ((Below.cell (B:=w8.heap.size) (Q7 w8 _) lch).trans ch4);have fch4':=(hg9.frozen_far (a:=⟨g0+1,4,none⟩) (by simp;omega) (fun e=>(hV.out _ e.symm).2 rfl)).trans ((Below.frozen (B:=w8.heap.size) (Q7 w8 _) lch).trans fch4);clear ho9 hg9 hat9 hvb9)
          go_roundg (N+1-j2)
          case measure=>omega
          case rel =>
           obtain⟨ho9,hg9,hat9,_⟩:=H9.out;obtain⟨a1,a2,a3,a4,a5,a6,a7⟩:=Ea (B3:=w3.heap.size) (lo:=g0) hm8.out (by omega) hwg hgs hg40 (by omega) hl6 (by omega) h28.out h48.out h68.out hV.out HV3.out hS8.out hx8.out ho9 rfl (show World.grownBy _ _ v.ownBlock from hg9) (show v.ownBlock=some gg∨_ from hat9);refine⟨j2,n,D++[.mk 3 0 0 0 (some ⟨w7.heap.size,0,none⟩) w7.heap.size 0 1 [x2]],_,3,0,0,0,some ⟨w7.heap.size,0,none⟩,1,1,Q1 a1,hj2N,Q1 a2,Q1 a3,Q1 a4,Q1 a5,Q1 a6,Q1 a7,Q1 ?_,by omega,by simp,by simp;omega,by omega,Q6 _⟩;rw[HY4.out,Option.map_map,Zp,List.map_cons,List.map_nil,Ex.c_mk,List.map_cons,List.map_nil,hxe.out]
           congr 1
           funext r
           simp
theorem Q2v {h:Nat} (ho:R3 h):Dn 227 h (Eo (Kb J0 h)):=by
 rw[← I3];exact Q1r h _ (Q1w ho)
theorem A6 {h:Nat} (ho:R3 h):Dn 210 h (Rn (Kb J0 h)):=by
 rw[← Q16];exact Q3o h _ (Q2v ho)
theorem Az:∀ (h:Nat) (e:Ex) (h2:Nat) (e2:Ex) (w:World),Zy w h e→Zy w h2 e2→e.c=e2.c →
  Calls Tryz.prog 66 #[xv e,xv e2] w fun x w'=>x=.returned (.bool true)∧Below w.heap.size w w':=by
 intro h
 induction h with
 | zero=>exact fun _ _ _ _ h=>h.elim
 | succ h ih =>
   intro e hh2 e2 w hx hy hc;obtain _ | hh2:=hh2
   · exact hy.elim
   obtain⟨k,n,d,u,oa,b,o,cap,kids⟩:=e;obtain⟨k2,n2,d2,u2,oa2,b2,o2,cap2,kids2⟩:=e2;rw[Ex.c_mk,Ex.c_mk]at hc
   injection hc with ek en ed eu el
   subst ek en ed eu;obtain⟨h1,h2,h3,h4,h5,h6,h7,h8⟩:=hx;obtain⟨y1,y2,y3,y4,y5,y6,y7,y8⟩:=hy
   have hll:kids2.length=kids.length:=by have:=congrArg List.length el;simpa using this.symm
   have hsm:kids.length≤9223372036854775807:=Qz (Qz h4 h5) (by decide);have HIH:=Q1 ih;have HEL:=Q1 el;clear ih h1 h2 h3 h6 y1 y2 y3 y6 el;rw[Vr,Vr];rw[hll]at y4 y7 ⊢;have HLL:=Q1 hll;clear hll
   go_enter Tryz.func66,Tryz.ntmps66
   go_wp2_with fail
   go_loopg [37] kids.length (fun kk s wr=>∃ (i:Nat),s=.int .i64 i∧Hid (Gk w wr 32 #[.int .i64 k,.int .i64 n,.int .i64 d,.int .i64 u,.slice oa kids.length cap])∧Hid (Ql wr (w.heap.size+1) 32 #[.int .i64 k,.int .i64 n,.int .i64 d,.int .i64 u,.slice oa2 kids.length cap2])∧i≤kids.length∧kids.length-i≤kk)
   case atStart=>exact⟨0,rfl,Q1 ⟨(Q7 _ _).alloc (by simp) _,(Ql.new _ _ _).old _⟩,Q1 (Ql.new2 _ _ _ _),Qs _,by omega⟩
   case round =>
    obtain⟨i,rfl,hg,hg2,hle,hk2⟩:=hrel;have hbel:=Q1 hg.out.below
    by_cases hi:i<kids.length
    · have gi:decide ((i:Int)<kids.length)=true:=by simpa using hi
      have hr:kids[i]?=some kids[i]:=Q9 hi
      have hi2:i<kids2.length:=by rw[HLL.out];exact hi
      have hr2:kids2[i]?=some kids2[i]:=Q9 hi2;have hx:=h8 i _ hr;have hy:=y8 i _ hr2
      have hcc:kids[i].c=kids2[i].c:=by
       have:=congrArg (fun l=>l[i]?) HEL.out;simp only[Z5,hr,hr2,Option.map_some]at this;exact Q8 this
      obtain⟨rfl,hbl⟩:=h7 (by omega);obtain⟨rfl,hbl2⟩:=y7 (by omega);generalize kids[i]=x at *;generalize kids2[i]=y at *
      have hX:=fun wx hb=>HIH.out x hh2 y wx (hx.2.below (w':=wx) _ hb) (hy.2.below (w':=wx) _ hb) hcc
      obtain⟨k',n',d',u',oa',b',o',cap',kids'⟩:=x;obtain⟨k'2,n'2,d'2,u'2,oa'2,b'2,o'2,cap'2,kids'2⟩:=y;obtain⟨K',hK'⟩:∃ K',kids'.length=K':=⟨_,rfl⟩;obtain⟨K'2,hK'2⟩:∃ K',kids'2.length=K':=⟨_,rfl⟩;simp only[Vr,hK',hK'2]at hX;have HX:=Q1 hX;have cb0:wr.cell? ⟨w.heap.size,0,none⟩=some (.int .i64 k):=(hg.out.box).cell 0;have fcb0:=(hg.out.box).frozen 0;have cb1:wr.cell? ⟨w.heap.size,1,none⟩=some (.int .i64 n):=(hg.out.box).cell 1;have fcb1:=(hg.out.box).frozen 1;have cb2:wr.cell? ⟨w.heap.size,2,none⟩=some (.int .i64 d):=(hg.out.box).cell 2;have fcb2:=(hg.out.box).frozen 2;have cb3:wr.cell? ⟨w.heap.size,3,none⟩=some (.int .i64 u):=(hg.out.box).cell 3;have fcb3:=(hg.out.box).frozen 3;have cb4:wr.cell? ⟨w.heap.size,4,none⟩=some (.slice (some ⟨b,o,none⟩) kids.length cap):=(hg.out.box).cell 4;have fcb4:=(hg.out.box).frozen 4;have lcb:=(hg.out.box).lt
      have cc0:wr.cell? ⟨w.heap.size+1,0,none⟩=some (.int .i64 k):=(hg2.out).cell 0;have fcc0:=(hg2.out).frozen 0;have cc1:wr.cell? ⟨w.heap.size+1,1,none⟩=some (.int .i64 n):=(hg2.out).cell 1;have fcc1:=(hg2.out).frozen 1;have cc2:wr.cell? ⟨w.heap.size+1,2,none⟩=some (.int .i64 d):=(hg2.out).cell 2;have fcc2:=(hg2.out).frozen 2;have cc3:wr.cell? ⟨w.heap.size+1,3,none⟩=some (.int .i64 u):=(hg2.out).cell 3;have fcc3:=(hg2.out).frozen 3;have cc4:wr.cell? ⟨w.heap.size+1,4,none⟩=some (.slice (some ⟨b2,o2,none⟩) kids.length cap2):=(hg2.out).cell 4;have fcc4:=(hg2.out).frozen 4;have lcc:=(hg2.out).lt;have f0:wr.cell? ⟨b,o+i*5,none⟩=some (.int .i64 k'):=(hg.out.below.cell hbl).trans (hx.1 0 _ rfl);have f1:wr.cell? ⟨b,o+i*5+1,none⟩=some (.int .i64 n'):=(hg.out.below.cell hbl).trans (hx.1 1 _ rfl);have f2:wr.cell? ⟨b,o+i*5+2,none⟩=some (.int .i64 d'):=(hg.out.below.cell hbl).trans (hx.1 2 _ rfl)
      have f3:wr.cell? ⟨b,o+i*5+3,none⟩=some (.int .i64 u'):=(hg.out.below.cell hbl).trans (hx.1 3 _ rfl)
      have f4:wr.cell? ⟨b,o+i*5+4,none⟩=some (.slice oa' K' cap'):=by rw[← hK'];exact(hg.out.below.cell hbl).trans (hx.1 4 _ rfl)
      have e0:wr.cell? ⟨b2,o2+i*5,none⟩=some (.int .i64 k'2):=(hg.out.below.cell hbl2).trans (hy.1 0 _ rfl);have e1:wr.cell? ⟨b2,o2+i*5+1,none⟩=some (.int .i64 n'2):=(hg.out.below.cell hbl2).trans (hy.1 1 _ rfl);have e2:wr.cell? ⟨b2,o2+i*5+2,none⟩=some (.int .i64 d'2):=(hg.out.below.cell hbl2).trans (hy.1 2 _ rfl);have e3:wr.cell? ⟨b2,o2+i*5+3,none⟩=some (.int .i64 u'2):=(hg.out.below.cell hbl2).trans (hy.1 3 _ rfl)
      have e4:wr.cell? ⟨b2,o2+i*5+4,none⟩=some (.slice oa'2 K'2 cap'2):=by rw[← hK'2];exact(hg.out.below.cell hbl2).trans (hy.1 4 _ rfl)
      have lb:b<wr.heap.size:=Qg hbl hg.out.below.size;have lb2:b2<wr.heap.size:=Qg hbl2 hg.out.below.size;clear hx hy hr hr2 h8 y8 h7 y7 hcc hX hi2 hK' hK'2;go_wp2_with fail;refine Qx (by kernel_rfl) (by kernel_rfl) ?_
      repeat (go_big_quiet_step ((first | (go_at_call 66;exact Vg (HX.out _ (Qa hbel.out _))))))
      refine wpQuiet_nil ?_;rintro _ ⟨m,rfl⟩;go_wp2_with fail
      go_roundg (kids.length-(i+1))
      case measure=>omega
      case rel=>exact⟨i+1,by go_num,Q1 ⟨Qa hbel.out m,hg.out.box.grow m⟩,Q1 (hg2.out.grow m),hi,by omega⟩
    · obtain rfl:i=kids.length:=by omega
      go_wp2_with fail;go_ret;exact⟨Qw rfl,hbel.out⟩
end Go.Proofs.YtnanffmhbjdpaaaGreatDoor
