/- Of my texts: CalcD, FeatH, CnP, AwP. -/
import Derived.Test.YtnbkbenkhkinoaaGreatDoorM05
import Derived.Test.YtnbkbenkhkinoaaGreatDoorM21
import Derived.Test.YtnbkbenkhkinoaaGreatDoorM30
import Derived.Test.YtnbkbenkhkinoaaGreatDoorM31
namespace Go.Proofs.YtnbkbenkhkinoaaGreatDoor
set_option linter.unusedVariables false
set_option linter.unusedSimpArgs false
open Go.RowKit
def ReadAt (F:FuncId) (h:Nat) (read:List Vt→Nat→Option (Et×Nat)):Prop:=∀ (R:Nat) (oa:Option Addr) (cap b o:Nat) (l:List Vl) (i:Nat) (w:World),Rd (·=R) w R h oa cap b o l i →
 Calls Tryz.prog F #[.pointer (some ⟨R,0,none⟩)] w fun e w'=>retE (· < w.heap.size) ((read (l.map Vl.c) i).map (·.1)) e w'∧∃ j,Mv w w' R oa l.length cap j∧j≤l.length∧∀ E j',read (l.map Vl.c) i=some (E,j')→j=j'∧i<j
def readO (f:Vt→Option Et) (l:List Vt) (j:Nat):Option (Et×Nat):=(opAt f l j).map fun e=>(e,j+1)
theorem oper_read {h:Nat} (ho:OperAt h):ReadAt 264 h (readO (opF wholeP h)):=by
 intro R oa cap b o l i w hr
 refine(ho R oa cap b o l i w hr).mono fun e w' ⟨h1,j,h2,h3,h4⟩=>⟨?_,j,h2,h3,fun E j' hE=>?_⟩
 · unfold readO;rw[Option.map_map]
   cases hx:opAt (opF wholeP h) (l.map Vl.c) i with
   | none=>rw[hx]at h1;exact h1
   | some E=>rw[hx]at h1;exact h1
 · unfold readO at hE
   have hil:i<l.length:=by
    rcases Nat.lt_or_ge i l.length with h|h
    · exact h
    · unfold opAt at hE;rw[List.getElem?_eq_none (by simpa using h)]at hE
      cases hE
   have:=h4 hil
   cases hx:opAt (opF wholeP h) (l.map Vl.c) i with
   | none=>rw[hx]at hE;cases hE
   | some E2=>rw[hx]at hE;injection hE with hE;injection hE with _ hE;omega
def chainP (read:List Vt→Nat→Option (Et×Nat)) (s1 s2:List UInt8) (apart:Bool) (k kk:Int) (l:List Vt) (i:Nat):Option (Et×Nat):=match read l i with
 | none=>none
 | some (e,j)=>(restP (read l) (signP l s1 s2 apart) s2 kk (l.length+1) j).map fun r=>(single k (e::r.1),r.2)
theorem prod_chain (f:Vt→Option Et):chainP (readO f) starS slashS false 4 5=prodP f:=by
 funext l i
 unfold chainP prodP readO
 cases opAt f l i<;>rfl
theorem sum_chain (f:Vt→Option Et):chainP (prodP f) plusS minusS true 2 3=sumP f:=rfl
theorem csign_ways {l:List Vt} {s1 s2:List UInt8} {apart:Bool} {i:Nat} (hi:i≤l.length) (h1:s1≠[]) (h2:s2≠[]):signP l s1 s2 apart i=([],i)∨∃ s j,signP l s1 s2 apart i=(s,j)∧(s=s1∨s=s2)∧i<j∧j≤l.length:=by
 unfold signP
 cases hx:l[blankP l i]? with
 | none=>exact Or.inl rfl
 | some v =>
   obtain⟨t,k⟩:=v;simp only
   by_cases hc:t.kind=9∧(t.text=s1∨t.text=s2)∧(apart=false∨(i<blankP l i∧blankP l i+1<blankP l (blankP l i+1)))
   · rw[if_pos hc];have hl:=(List.getElem?_eq_some_iff.1 hx).1;have a1:=blank_le l i;have a2:=blank_le l (blankP l i+1);have a3:=blank_len l (i:=blankP l i+1) (by omega);exact Or.inr ⟨_,_,rfl,hc.2.1,by omega,a3⟩
   · rw[if_neg hc];exact Or.inl rfl
theorem restP_stop {read:Nat→Option (Et×Nat)} {sign:Nat→List UInt8×Nat} {turn:List UInt8} {k:Int} {n i:Nat} {j:Nat} (h:sign i=([],j)):restP read sign turn k n i=some ([],i):=by
 cases n with
 | zero=>rfl
 | succ n=>rw[restP,h]
theorem restP_go {read:Nat→Option (Et×Nat)} {sign:Nat→List UInt8×Nat} {turn:List UInt8} {k:Int} {n i j:Nat} {s:List UInt8} (h:sign i=(s,j)) (hs:s≠[]):restP read sign turn k (n+1) i=match read j with
  | none=>none
  | some (e,j')=>(restP read sign turn k n j').map fun r=>((if s=turn then .mk k 0 0 0 [e] else e)::r.1,r.2):=by
 cases s with
 | nil=>exact absurd rfl hs
 | cons c s=>rw[restP,h];rfl
theorem elExpr:El 29 31 (.agg #[.int .i64 0,.int .i64 0,.int .i64 0,.int .i64 0,.slice none 0 0]) 5 56:=⟨Tryz.underlying29,by kernel_rfl,rfl,by decide⟩
theorem exin_up:∀ (h h':Nat) {w:World} {e:Ex},h≤h'→ExIn w h e→ExIn w h' e
 | 0,_,_,_,_,hx=>hx.elim
 | h+1,0,_,_,hh,_=>absurd hh (by omega)
 | h+1,h'+1,w,.mk k n d u oa b o cap l,hh,hx=>by
   obtain⟨h1,h2,h3,h4,h5,h6,h7,h8⟩:=hx;exact⟨h1,h2,h3,h4,h5,h6,h7,fun i x hi=>⟨(h8 i x hi).1,exin_up h h' (by omega) (h8 i x hi).2⟩⟩
theorem chain_add {w w8 w9:World} {R g2 g4 g6 lo B3 N cap j gg cap3 h2:Nat} {oa:Option Addr} {D:List Ex} {x2:Ex} {v:Value} {O:Obj} {z2 z4:Array Value} {k:Int} {xs:List Value}
  (hm:Mv w w8 R oa N cap j) (hR:R<w.heap.size) (hwg:w.heap.size≤g2) (h24:g2<g4) (h40:g4<lo) (h06:lo<g6) (h63:g6<B3) (h38:B3≤w8.heap.size)
  (b2:Blk w8 g2 31 z2) (b4:Blk w8 g4 31 z4) (b6:Blk w8 g6 31 #[.int .i64 k,.int .i64 0,.int .i64 0,.int .i64 0,v])
  (hV:∀ b,v.ownBlock=some b→lo≤b∧b≠g6) (hv3:∀ b,v.ownBlock=some b→b<B3)
  (hS:∃ hh,Safe (fun b=>b<w.heap.size∨b=g2∨b=g4∨b=g6∨v.ownBlock=some b) w8 fun w=>∀ x∈D,ExIn w hh x)
  (hx:Safe (fun b=>b<B3∨w8.heap.size≤b) w8 fun w=>ExIn w h2 x2)
  (ho:w9.ownsRow w.heap.size 31 5 (.slice (some ⟨gg,0,none⟩) (D.length+1) cap3) (D.length+1) (D.flatMap xcells++xs)) (hxs:xcells x2=xs)
  (hg:(w8.alloc O).grownBy w9 v.ownBlock) (hat:v.ownBlock=some gg∨gg=(w8.alloc O).heap.size) :
  Mv w (w9.setCell ⟨g6,4,none⟩ (.slice (some ⟨gg,0,none⟩) (D.length+1) cap3)) R oa N cap j ∧
  (w9.setCell ⟨g6,4,none⟩ (.slice (some ⟨gg,0,none⟩) (D.length+1) cap3)).ownsRow w.heap.size 31 5 (.slice (some ⟨gg,0,none⟩) (D.length+1) cap3) (D++[x2]).length ((D++[x2]).flatMap xcells) ∧
  Blk (w9.setCell ⟨g6,4,none⟩ (.slice (some ⟨gg,0,none⟩) (D.length+1) cap3)) g2 31 z2 ∧
  Blk (w9.setCell ⟨g6,4,none⟩ (.slice (some ⟨gg,0,none⟩) (D.length+1) cap3)) g4 31 z4 ∧
  Blk (w9.setCell ⟨g6,4,none⟩ (.slice (some ⟨gg,0,none⟩) (D.length+1) cap3)) g6 31 #[.int .i64 k,.int .i64 0,.int .i64 0,.int .i64 0,.slice (some ⟨gg,0,none⟩) (D.length+1) cap3] ∧
  (∃ hh,Safe (fun b=>b<w.heap.size∨b=g2∨b=g4∨b=g6∨(Value.slice (some ⟨gg,0,none⟩) (D.length+1) cap3).ownBlock=some b) (w9.setCell ⟨g6,4,none⟩ (.slice (some ⟨gg,0,none⟩) (D.length+1) cap3)) fun w=>∀ x∈D++[x2],ExIn w hh x) ∧
  (∀ b,(Value.slice (some ⟨gg,0,none⟩) (D.length+1) cap3).ownBlock=some b→lo≤b∧b≠g6):=by
 have hs8:(w8.alloc O).heap.size=w8.heap.size+1:=by simp
 have hG:w8.grownBy w9 v.ownBlock:=grownBy_trans (grownBy_of_below (below_box w8 O) _) hg;have hP:=grownBy_set w9 ⟨g6,4,none⟩ (.slice (some ⟨gg,0,none⟩) (D.length+1) cap3);have h89:=hG.size
 have hggc:lo≤gg∧gg≠g6:=by
  rcases hat with h|h
  · exact hV gg h
  · omega
 have b29:Blk w9 g2 _ _:=(hG.block g2 b2.lt (fun e=>by have:=hV g2 e.symm;omega)).trans b2;have b49:Blk w9 g4 _ _:=(hG.block g4 b4.lt (fun e=>by have:=hV g4 e.symm;omega)).trans b4;have b69:Blk w9 g6 _ _:=(hG.block g6 b6.lt (fun e=>(hV g6 e.symm).2 rfl)).trans b6;refine⟨(hm.far hG (fun k e=>by have:=hV k e;omega) hR).far hP (fun k e=>by have e:g6=k:=Option.some.inj e;omega) hR,?_,b29.far (by simp;omega) _,b49.far (by simp;omega) _,?_,?_,fun b e=>?_⟩
 · rw[List.length_append,List.flatMap_append,List.flatMap_singleton,hxs];exact ho.kept hP (.inr fun e=>hggc.2 (Option.some.inj e))
 · have:=b69.put 4 (.slice (some ⟨gg,0,none⟩) (D.length+1) cap3);simpa using this
 · obtain⟨hh,hS⟩:=hS;refine⟨max hh h2,?_⟩
   have hA:∀ b,(b<w.heap.size∨b=g2∨b=g4∨b=g6∨(Value.slice (some ⟨gg,0,none⟩) (D.length+1) cap3).ownBlock=some b)→(b<w.heap.size∨b=g2∨b=g4∨b=g6∨v.ownBlock=some b)∨w8.heap.size≤b:=by
    intro b hb
    rcases hb with hb|hb|hb|hb|hb
    · exact Or.inl (Or.inl hb)
    · exact Or.inl (Or.inr (Or.inl hb))
    · exact Or.inl (Or.inr (Or.inr (Or.inl hb)))
    · exact Or.inl (Or.inr (Or.inr (Or.inr (Or.inl hb))))
    · have e:gg=b:=Option.some.inj hb;subst e
      rcases hat with h|h
      · exact Or.inl (Or.inr (Or.inr (Or.inr (Or.inr h))))
      · exact Or.inr (by omega)
   have s1:=(((hS.wide (A':=fun b=>(b<w.heap.size∨b=g2∨b=g4∨b=g6∨v.ownBlock=some b)∨w8.heap.size≤b) fun b h=>h).grown hG (fun k e _=>Or.inl (Or.inr (Or.inr (Or.inr (Or.inr e)))))).set (p:=⟨g6,4,none⟩) (Or.inl (Or.inr (Or.inr (Or.inr (Or.inl rfl))))) (.slice (some ⟨gg,0,none⟩) (D.length+1) cap3)).anti fun b hb _=>hA b hb
   have s2:=((hx.grown hG (fun k e _=>Or.inl (hv3 k e))).set (p:=⟨g6,4,none⟩) (Or.inl h63) (.slice (some ⟨gg,0,none⟩) (D.length+1) cap3)).anti (A':=fun b=>b<w.heap.size∨b=g2∨b=g4∨b=g6∨(Value.slice (some ⟨gg,0,none⟩) (D.length+1) cap3).ownBlock=some b) fun b hb _=>by
    rcases hA b hb with (hb|hb|hb|hb|hb) | hb
    · exact Or.inl (by omega)
    · exact Or.inl (by omega)
    · exact Or.inl (by omega)
    · exact Or.inl (by omega)
    · exact Or.inl (hv3 b hb)
    · exact Or.inr hb
   exact (s1.and s2).mono fun w ⟨a,c⟩ x hm=>by
    rcases List.mem_append.1 hm with hm|hm
    · exact exin_up _ _ (Nat.le_max_left _ _) (a x hm)
    · obtain rfl:=List.mem_singleton.1 hm;exact exin_up _ _ (Nat.le_max_right _ _) c
 · have e:gg=b:=Option.some.inj e;subst e;exact hggc
theorem turn_made {w7:World} {g4 B3 h2:Nat} {kk:Int} {x2:Ex} {V:Array Value} {cs:List Value} (hV:xcells x2=V.toList) (hsz:V.size=5) (h4:g4<B3) (h37:B3≤w7.heap.size) (hkk:I64 kk)
  (hx:Safe (· < B3) w7 fun w=>ExIn w h2 x2) :
  Safe (fun b=>b<B3∨((puts w7 g4 0 cs).alloc (.cells V 31)).heap.size≤b) ((puts w7 g4 0 cs).alloc (.cells V 31)) fun w=>ExIn w (h2+1) (.mk kk 0 0 0 (some ⟨w7.heap.size,0,none⟩) w7.heap.size 0 1 [x2]):=by
 have hpu:=grownBy_puts cs w7 g4 0;have hs8:=puts_size cs w7 g4 0
 have hs7:((puts w7 g4 0 cs).alloc (.cells V 31)).heap.size=w7.heap.size+1:=by simp[hs8]
 have B8:Blk ((puts w7 g4 0 cs).alloc (.cells V 31)) (puts w7 g4 0 cs).heap.size _ _:=Blk.new (puts w7 g4 0 cs) 31 V;rw[hs8]at B8;obtain⟨oa,cap,g,hv,hsl,_⟩:=sl_of_own (owns_fresh (base:=0) (n:=1) (size:=5) B8 (Nat.zero_le _) hsz (by decide))
 injection hv with e1 _ e3
 subst e1 e3;have e4:=(hsl.lies (by omega)).1
 injection e4 with e4
 injection e4 with e4
 subst e4
 have e5:V.toList=[x2].flatMap xcells:=by rw[List.flatMap_singleton,hV]
 rw[e5]at hsl;refine ExIn.made hkk (by unfold Is64;decide) (i64_small _ (by decide)) (by simp) hsl (fun _ hb=>?_) ?_
 · rw[hs7]at hb;omega
 · have s1:=((hx.wide (A':=fun b=>b<B3∨w7.heap.size≤b) fun b hb=>hb).grown hpu (fun k e _=>Or.inl (by have e:=Option.some.inj e;omega))).alloc (.cells V 31)
   exact (s1.anti fun b hb hl=>by
    rcases hb with hb|hb
    · exact Or.inl hb
    · omega).mono fun w hw x hm=>by
      obtain rfl:=List.mem_singleton.1 hm;exact hw
set_option maxRecDepth 20000 in
set_option maxHeartbeats 8000000 in
theorem prod_step (h:Nat) (read:List Vt→Nat→Option (Et×Nat)) (hC:ReadAt 264 h read):ReadAt 261 h (chainP read starS slashS false 4 5):=by
 intro R oa cap b o l i w hr;obtain⟨XL,hXL⟩:∃ XL,l.map Vl.c=XL:=⟨_,rfl⟩;obtain⟨N,hN⟩:∃ N,l.length=N:=⟨_,rfl⟩
 have hNX:XL.length=N:=by rw[← hXL,List.length_map,hN]
 have hsm:=hr.vs.here.small;have hcl:=hr.vs.here.sl.le;have hcm:=hr.vs.here.sl.max;have hiN:=hr.pos;unfold maxLen at hcm;rw[hN]at hsm hcl hiN;rw[hXL,hN];obtain⟨Y,hY⟩:∃ Y,chainP read starS slashS false 4 5 XL i=Y:=⟨_,rfl⟩;rw[hY];have hRlt:=hr.blk.lt
 have HCALL:=Lib.hid (show ∀ (j:Nat) (wx:World),Mv w wx R oa N cap j→j≤N→Calls Tryz.prog 264 #[.pointer (some ⟨R,0,none⟩)] wx fun e w'=>retE (· < wx.heap.size) ((read XL j).map (·.1)) e w'∧∃ j2,Mv wx w' R oa N cap j2∧j2≤N∧∀ E j',read XL j=some (E,j')→j2=j'∧j<j2 from fun j wx hm hj=>by
  have h2:=hC R oa cap b o l j wx (hr.mv (by rw[hN];exact hm) (by rw[hN];exact hj));rw[hXL,hN]at h2
  exact h2)
 have HSIGN:=Lib.hid (show ∀ (j:Nat) (wx:World),Mv w wx R oa N cap j→j≤N→Calls Tryz.prog 262 #[.pointer (some ⟨R,0,none⟩),.string ⟨#[42]⟩,.string ⟨#[47]⟩,.bool false] wx fun e w'=>e=.returned (.string ⟨(signP XL starS slashS false j).1.toArray⟩)∧Mv wx w' R oa N cap (signP XL starS slashS false j).2 from fun j wx hm hj=>by
  have h2:=csign_any R h oa cap b o l j starS slashS false wx (hr.mv (by rw[hN];exact hm) (by rw[hN];exact hj));rw[hXL,hN]at h2
  exact h2)
 have HN:=Lib.hid (And.intro hN (And.intro hXL hNX));have HY:=Lib.hid hY
 -- the result's variable
 have hb0:=below_box w (.cells #[.int .i64 0,.int .i64 0,.int .i64 0,.int .i64 0,.slice none 0 0] 31);have h2:=Blk.new w 31 #[.int .i64 0,.int .i64 0,.int .i64 0,.int .i64 0,.slice none 0 0];have hm0:=Mv.refl hr;rw[hN]at hm0;have HM1:=Lib.hid (hm0.below hb0);have H2:=Lib.hid h2;clear hr hb0 h2 hN hXL hNX hC hY hm0
 go_enter Tryz.func261,Tryz.ntmps261
 go_upto_region 1 with fail
 obtain⟨g2,hg2⟩:∃ g2,w.heap.size=g2:=⟨_,rfl⟩;have HG:=Lib.hid hg2;rw[hg2]at H2 hRlt;simp only[hg2];clear hg2;generalize w.alloc _=w1 at *;have hg21:=H2.out.lt
 have hne2:g2≠R:=by omega
 obtain⟨r1,hr1⟩:∃ r1,read XL i=r1:=⟨_,rfl⟩;have hc1:=HCALL.out i w1 HM1.out hiN;rw[hr1]at hc1;have HC1:=Lib.hid hc1;have HR1:=Lib.hid hr1;clear hc1 hr1;go_wp2_with fail
 ((with_reducible refine HC1.out.mono ?_);rintro e w2 ⟨⟨v,ok,rfl,hok,h5,hE⟩,j,hmv,hjN,hjE⟩)
 obtain⟨vk,vn,vd,vu,voa,vL,vc,rfl⟩:=h5;have HE:=Lib.hid (And.intro hok hE);have HM2:=Lib.hid (HM1.out.trans hmv);have H22:=Lib.hid (hmv.keeps H2.out hne2);have HJ:=Lib.hid hjE;have hw12:=hmv.gb.size;clear hok hE hmv hjE HC1 HM1 H2
 cases r1 with
 | none =>
   obtain rfl:ok=false:=HE.out.1
   have hY0:Y=none:=by rw[← HY.out,chainP,HR1.out]
   subst hY0
   go_upto_region 2 with fail
   have h24:=Lib.hid (H22.out.old (.cells #[.int .i64 vk,.int .i64 vn,.int .i64 vd,.int .i64 vu,.slice voa vL vc] 31));have h44:=Blk.new w2 31 #[.int .i64 vk,.int .i64 vn,.int .i64 vd,.int .i64 vu,.slice voa vL vc];have hm4:=Lib.hid (HM2.out.below (below_box w2 (.cells #[.int .i64 vk,.int .i64 vn,.int .i64 vd,.int .i64 vu,.slice voa vL vc] 31)));have hw2:=HM2.out.gb.size;generalize w2.heap.size=g4 at *;generalize w2.alloc _=w4 at *;obtain⟨ca0,fca0,ca1,fca1,ca2,fca2,ca3,fca3,ca4,fca4,lca⟩:=Blk.five (h44);obtain⟨cb0,fcb0,cb1,fcb1,cb2,fcb2,cb3,fcb3,cb4,fcb4,lcb⟩:=Blk.five (h24.out);clear h44;go_wp2_with fail;have hputs:=(h24.out).put5 (.int .i64 vk) (.int .i64 vn) (.int .i64 vd) (.int .i64 vu) (.slice voa vL vc);refine bodyPost_ret (v:=.tuple #[.agg #[.int .i64 vk,.int .i64 vn,.int .i64 vd,.int .i64 vu,.slice voa vL vc],.bool false]) ?_ rfl ?_
   · refine ret_ex2 Tryz.results261 ?_ ?_ hputs rfl
     all_goals rfl
   · exact⟨⟨_,_,rfl,rfl,⟨_,_,_,_,_,_,_,rfl⟩,fun E hE=>by cases hE⟩,j,hm4.out.far (grownBy_puts [.int .i64 vk,.int .i64 vn,.int .i64 vd,.int .i64 vu,.slice voa vL vc] w4 g2 0) (fun k e=>by have:=HG.out;injection e with e;omega) (by have:=HG.out;omega),hjN,fun E j' hE=>by cases hE⟩
 | some r1 =>
   obtain⟨E1,j1⟩:=r1;obtain rfl:ok=true:=HE.out.1;obtain⟨hjj,hij⟩:=HJ.out E1 j1 rfl;subst hjj;obtain⟨x1,h1,hxv,hxc,hxs⟩:=HE.out.2 E1 rfl;have HX1:=Lib.hid (And.intro hxv (And.intro hxc hxs));clear hxv hxc hxs HE HJ
   go_upto_region 4 with fail
   have h24:=Lib.hid (H22.out.old (.cells #[.int .i64 vk,.int .i64 vn,.int .i64 vd,.int .i64 vu,.slice voa vL vc] 31));have h44:=Blk.new w2 31 #[.int .i64 vk,.int .i64 vn,.int .i64 vd,.int .i64 vu,.slice voa vL vc];have hm4:=Lib.hid (HM2.out.below (below_box w2 (.cells #[.int .i64 vk,.int .i64 vn,.int .i64 vd,.int .i64 vu,.slice voa vL vc] 31)));have hx4:=Lib.hid ((HX1.out.2.2.wide (A':=fun b=>b<w1.heap.size∨w2.heap.size≤b) fun b hb=>hb).alloc (.cells #[.int .i64 vk,.int .i64 vn,.int .i64 vd,.int .i64 vu,.slice voa vL vc] 31));have hw2:=HM2.out.gb.size
   have hw24:(w2.alloc (.cells #[.int .i64 vk,.int .i64 vn,.int .i64 vd,.int .i64 vu,.slice voa vL vc] 31)).heap.size=w2.heap.size+1:=by simp
   generalize hg4:w2.heap.size=g4 at *;generalize w2.alloc _=w4 at *;obtain⟨ca0,fca0,ca1,fca1,ca2,fca2,ca3,fca3,ca4,fca4,lca⟩:=Blk.five (h44);have H44:=Lib.hid h44;have HW24:=Lib.hid hw24;clear h44 H22 HM2 hw24
   go_upto_region 5 with fail
   have hgr:Below w4.heap.size w4 ((w4.alloc (.cells #[.int .i64 vk,.int .i64 vn,.int .i64 vd,.int .i64 vu,.slice voa vL vc] 31)).alloc (.cells #[.int .i64 4,.int .i64 0,.int .i64 0,.int .i64 0,.slice (some ⟨w4.heap.size,0,none⟩) 1 1] 31)):=(below_box _ _).alloc (by simp) _;have h25:=Lib.hid (h24.out.below hgr h24.out.lt);have h45:=Lib.hid (H44.out.below hgr H44.out.lt);have hm5:=Lib.hid (hm4.out.below hgr);have hx5:=Lib.hid (hx4.out.below hgr);have h65:=Lib.hid (Blk.new2 w4 (.cells #[.int .i64 vk,.int .i64 vn,.int .i64 vd,.int .i64 vu,.slice voa vL vc] 31) 31 #[.int .i64 4,.int .i64 0,.int .i64 0,.int .i64 0,.slice (some ⟨w4.heap.size,0,none⟩) 1 1])
   have hro:=Lib.hid (owns_fresh (base:=w.heap.size) (n:=1) (size:=5) ((Blk.new w4 31 #[.int .i64 vk,.int .i64 vn,.int .i64 vd,.int .i64 vu,.slice voa vL vc]).old (.cells #[.int .i64 4,.int .i64 0,.int .i64 0,.int .i64 0,.slice (some ⟨w4.heap.size,0,none⟩) 1 1] 31)) (by have:=HG.out;have:=HW24.out;omega) rfl (by decide))
   have hw5:((w4.alloc (.cells #[.int .i64 vk,.int .i64 vn,.int .i64 vd,.int .i64 vu,.slice voa vL vc] 31)).alloc (.cells #[.int .i64 4,.int .i64 0,.int .i64 0,.int .i64 0,.slice (some ⟨w4.heap.size,0,none⟩) 1 1] 31)).heap.size=w4.heap.size+2:=by simp
   clear h24 H44 hm4 hx4 ca0 ca1 ca2 ca3 ca4 fca0 fca1 fca2 fca3 fca4 lca hgr;generalize hg0:w4.heap.size=g0 at *;generalize World.alloc (World.alloc w4 _) _=w5 at *
   have hY2:Y=(restP (read XL) (signP XL starS slashS false) slashS 5 (N+1) j).map fun r=>(single 4 (E1::r.1),r.2):=by
    rw[← HY.out];unfold chainP;rw[HR1.out,HN.out.2.2]
   have HY2:=Lib.hid hY2;clear hY2;have hw24:=HW24.out;have HGS:=Lib.hid (show w.heap.size=g2∧g2<g4∧g0=g4+1 from ⟨HG.out,by omega,by omega⟩)
   have hS0:=Lib.hid (show ∃ hh,Safe (fun b=>b<w.heap.size∨b=g2∨b=g4∨b=g0+1∨(Value.slice (some ⟨g0,0,none⟩) 1 1).ownBlock=some b) w5 fun w=>∀ x∈[x1],ExIn w hh x from
    ⟨h1,(hx5.out.mono fun _ hw x hx=>by obtain rfl:=List.mem_singleton.1 hx;exact hw) |>.anti fun b hb hlt=>by
      have:=HG.out
      rcases hb with hb|hb|hb|hb|hb
      · exact Or.inl (by omega)
      · exact Or.inl (by omega)
      · exact Or.inr (by omega)
      · exact Or.inr (by omega)
      · have:=Option.some.inj hb;simp only at this
        exact Or.inr (by omega)⟩)
   clear hw24 HW24;have hxc1:=Lib.hid HX1.out.2.1
   have hxl1:xcells x1=[.int .i64 vk,.int .i64 vn,.int .i64 vd,.int .i64 vu,.slice voa vL vc]:=by
    have e:=HX1.out.1;unfold xv at e
    injection e with e
    have:=congrArg Array.toList e;simpa using this.symm
   have hro2:=Lib.hid (show w5.ownsRow w.heap.size 31 5 (.slice (some ⟨g0,0,none⟩) [x1].length 1) [x1].length ([x1].flatMap xcells) from by
    rw[List.flatMap_singleton,hxl1]
    exact hro.out)
   clear hx5 hro HX1 HR1 HY hxl1
   go_loopg [] (N+1) (fun q wr=>∃ (j n:Nat) (D:List Ex) (v:Value) (yk yn yd yu:Int) (yoa:Option Addr) (yL yc:Nat),Hid (Mv w wr R oa N cap j)∧j≤N∧Hid (wr.ownsRow w.heap.size 31 5 v D.length (D.flatMap xcells)) ∧
    Hid (Blk wr g2 31 #[.int .i64 0,.int .i64 0,.int .i64 0,.int .i64 0,.slice none 0 0])∧Hid (Blk wr g4 31 #[.int .i64 yk,.int .i64 yn,.int .i64 yd,.int .i64 yu,.slice yoa yL yc])∧Hid (Blk wr (g0+1) 31 #[.int .i64 4,.int .i64 0,.int .i64 0,.int .i64 0,v]) ∧
    Hid (∃ hh,Safe (fun b=>b<w.heap.size∨b=g2∨b=g4∨b=g0+1∨v.ownBlock=some b) wr fun w=>∀ x∈D,ExIn w hh x) ∧
    Hid (∀ b,v.ownBlock=some b→g0≤b∧b≠g0+1)∧Hid (Y=(restP (read XL) (signP XL starS slashS false) slashS 5 n j).map fun r=>(single 4 (D.map Ex.c++r.1),r.2))∧N<n+j∧1≤D.length∧D.length≤j∧i<j∧N+1-j≤q)
   case atStart=>exact⟨j,N+1,[x1],_,vk,vn,vd,vu,voa,vL,vc,hm5,hjN,hro2,h25,h45,h65,hS0,Lib.hid (fun b hb=>by have:=Option.some.inj hb;simp only at this;omega),Lib.hid (by rw[HY2.out];simp only[List.map_cons,List.map_nil,hxc1.out];rfl),by omega,Nat.le_refl _,by simp;omega,hij,by omega⟩
   case round =>
    clear hm5 hro2 h25 h45 h65 hS0 HY2 hxc1;obtain⟨j,n,D,v,yk,yn,yd,yu,yoa,yL,yc,hm,hjN,hO,h2,h4,h6,hS,hV,hY,hnj,hD1,hDj,hij,hq⟩:=hrel
    have hwg:w.heap.size≤g2:=by have:=HGS.out.1;omega
    have hgw:g2≤w.heap.size:=by have:=HGS.out.1;omega
    have hgs:g2<g4:=HGS.out.2.1
    have hg40:g4<g0:=by have:=HGS.out.2.2;omega
    have hsg:=HSIGN.out j wr hm.out hjN;obtain⟨⟨ss,js⟩,hss⟩:∃ S,signP XL starS slashS false j=S:=⟨_,rfl⟩;have hways:=csign_ways (l:=XL) (s1:=starS) (s2:=slashS) (apart:=false) (i:=j) (by rw[HN.out.2.2];exact hjN) (by decide) (by decide);rw[hss]at hsg hways;simp only at hsg hways;have HSG:=Lib.hid hsg;have HSS:=Lib.hid hss;clear hsg hss;go_wp2_with fail;go_wp2_with fail
    ((with_reducible refine(HSG.out).mono ?_);rintro e w' ⟨rfl,hmv⟩)
    have hm3:=Lib.hid (hm.out.trans hmv);have h23:=Lib.hid (hmv.keeps h2.out hne2);have h43:=Lib.hid (hmv.keeps h4.out (by omega));have h63:=Lib.hid (hmv.keeps h6.out (by omega));have hO3:=Lib.hid (owns_moved hO.out hmv.gb (by omega))
    have hS3:=Lib.hid (show ∃ hh,Safe (fun b=>b<w.heap.size∨b=g2∨b=g4∨b=g0+1∨v.ownBlock=some b) w' fun w=>∀ x∈D,ExIn w hh x from by
     obtain⟨hh,hs⟩:=hS.out
     exact⟨hh,hs.grown hmv.gb (fun k e _=>by injection e with e;exact Or.inl (by omega))⟩)
    clear hmv hm h2 h4 h6 hO hS HSG;obtain⟨w3,hw3⟩:∃ w3,w3=w':=⟨_,rfl⟩;subst hw3
    rcases hways with hways|⟨s,j1,hsj,hs12,hj1,hj1N⟩
    · -- no sign: done
      injection hways with e1 e2
      have e3:=e2.symm;subst e1 e3
      have hY3:Y=some (single 4 (D.map Ex.c),j):=by
       rw[hY.out,restP_stop HSS.out];simp
      obtain⟨hh,hs⟩:=hS3.out;obtain⟨voa,vcap,gv,rfl,hsl,hpos⟩:=sl_of_own hO3.out;have hgv:=hV.out gv (by rw[(hsl.lies (by omega)).1];rfl)
      have hex:Safe (fun b=>b<w.heap.size∨b=g2∨b=g4∨b=g0+1) w3 fun w=>ExIn w (hh+1) (.mk 4 0 0 0 voa gv 0 vcap D) :=
       ExIn.made (i64_small _ (by decide)) (by unfold Is64;decide) (i64_small _ (by decide)) (by omega) hsl (fun _ hb=>by
        have:=hpos (by omega)
        rcases hb with hb|hb|hb|hb<;>omega) (hs.anti fun b hb _=>by
        rcases hb with hb|hb|hb|hb
        · exact Or.inl hb
        · exact Or.inr (Or.inl hb)
        · exact Or.inr (Or.inr (Or.inl hb))
        · exact Or.inr (Or.inr (Or.inr (Or.inl hb))))
      have hsi:=csingle_any _ hh 4 voa gv 0 vcap D w3 hex;obtain⟨DL,hDL⟩:∃ DL,D.length=DL:=⟨_,rfl⟩;rw[hDL]at hsi;have HSI:=Lib.hid hsi;have h63':=h63.out;rw[hDL]at h63';obtain⟨cc0,fcc0,cc1,fcc1,cc2,fcc2,cc3,fcc3,cc4,fcc4,lcc⟩:=Blk.five (h63');have HY3:=Lib.hid hY3;clear hs hsl hpos hex hsi h63' hY3;go_wp2_with fail
      ((with_reducible refine HSI.out.mono ?_);rintro e w6 ⟨⟨vs,rfl,hex⟩,hbb⟩)
      obtain⟨vk,vn,vd,vu,voa,vL,vc,rfl⟩:=hex.e5;have h26:=h23.out.below hbb h23.out.lt;obtain⟨cd0,fcd0,cd1,fcd1,cd2,fcd2,cd3,fcd3,cd4,fcd4,lcd⟩:=Blk.five (h26);have H26:=Lib.hid h26;have HEX:=Lib.hid hex;have hm6:=Lib.hid (hm3.out.below hbb);clear h26 hex hbb cc0 cc1 cc2 cc3 cc4 fcc0 fcc1 fcc2 fcc3 fcc4 lcc;go_wp2_with fail;have hpu:=grownBy_puts [.int .i64 vk,.int .i64 vn,.int .i64 vd,.int .i64 vu,.slice voa vL vc] w6 g2 0;have hputs:=(H26.out).put5 (.int .i64 vk) (.int .i64 vn) (.int .i64 vd) (.int .i64 vu) (.slice voa vL vc);refine bodyPost_ret (v:=.tuple #[.agg #[.int .i64 vk,.int .i64 vn,.int .i64 vd,.int .i64 vu,.slice voa vL vc],.bool true]) ?_ rfl ?_
      · refine ret_ex2 Tryz.results261 ?_ ?_ hputs rfl
        all_goals rfl
      · exact⟨⟨_,_,rfl,by rw[HY3.out];rfl,⟨_,_,_,_,_,_,_,rfl⟩,fun E hE=>by rw[HY3.out]at hE;injection hE with hE;subst hE;exact(HEX.out.grown hpu (fun k e _=>by injection e with e;exact Or.inr (Or.inl e.symm))).anti fun b hb=>Or.inl (Or.inl hb)⟩,j,hm6.out.far hpu (fun k e=>by injection e with e;omega) (by omega),hjN,fun E j' hE=>by rw[HY3.out]at hE;injection hE with hE;injection hE with _ hE;exact⟨hE,hij⟩⟩
    · -- a sign
      injection hsj with e1 e2
      subst e1 e2;rw[HN.out.2.2]at hj1N;obtain⟨n,rfl⟩:∃ n',n=n'+1:=⟨n-1,by omega⟩;have hY3:=hY.out;rw[restP_go HSS.out (by rcases hs12 with rfl|rfl<;>decide)]at hY3;obtain⟨r2,hr2⟩:∃ r2,read XL js=r2:=⟨_,rfl⟩;have hc2:=HCALL.out js w3 hm3.out hj1N;rw[hr2]at hc2 hY3;have HC2:=Lib.hid hc2;have HY3:=Lib.hid hY3;have hwn:w.heap.size≤w3.heap.size:=hm3.out.gb.size;have hl2:=h23.out.lt;have hl4:=h43.out.lt;have hl6:=h63.out.lt;clear hc2 hY3 hr2 hY
      rcases hs12 with rfl|rfl
      · go_wp2_with fail
        ((with_reducible refine HC2.out.mono ?_);rintro e w6 ⟨⟨pv,ok,rfl,hok,h5,hE⟩,j2,hmv,hj2N,hjE⟩)
        obtain⟨pk,pn,pd,pu,poa,pL,pc,rfl⟩:=h5;have HE:=Lib.hid (And.intro hok hE);have HJ:=Lib.hid hjE;have hm6:=Lib.hid (hm3.out.trans hmv);have h26:=Lib.hid (hmv.keeps h23.out hne2);have h46:=Lib.hid (hmv.keeps h43.out (by omega));have h66:=Lib.hid (hmv.keeps h63.out (by omega));have hO6:=Lib.hid (owns_moved hO3.out hmv.gb (by omega))
        have hS6:=Lib.hid (show ∃ hh,Safe (fun b=>b<w.heap.size∨b=g2∨b=g4∨b=g0+1∨v.ownBlock=some b) w6 fun w=>∀ x∈D,ExIn w hh x from by
         obtain⟨hh,hs⟩:=hS3.out
         exact⟨hh,hs.grown hmv.gb (fun k e _=>by injection e with e;exact Or.inl (by omega))⟩)
        have hw6:=hmv.gb.size;have HV3:=Lib.hid (show ∀ b,v.ownBlock=some b→b<w3.heap.size from fun b e=>(hO3.out.lt b e).2);clear hok hE hjE hmv HC2 hm3 h23 h43 h63 hO3 hS3;obtain⟨cc0,fcc0,cc1,fcc1,cc2,fcc2,cc3,fcc3,cc4,fcc4,lcc⟩:=Blk.five (h46.out)
        go_upto_region 8 with fail
        have hpu:=grownBy_puts [.int .i64 pk,.int .i64 pn,.int .i64 pd,.int .i64 pu,.slice poa pL pc] w6 g4 0;have h27:=Lib.hid (show Blk (puts w6 g4 0 [.int .i64 pk,.int .i64 pn,.int .i64 pd,.int .i64 pu,.slice poa pL pc]) g2 31 #[.int .i64 0,.int .i64 0,.int .i64 0,.int .i64 0,.slice none 0 0] from (hpu.block g2 h26.out.lt (by simp;omega)).trans h26.out);have h67:=Lib.hid (show Blk (puts w6 g4 0 [.int .i64 pk,.int .i64 pn,.int .i64 pd,.int .i64 pu,.slice poa pL pc]) (g0+1) 31 #[.int .i64 4,.int .i64 0,.int .i64 0,.int .i64 0,v] from (hpu.block (g0+1) h66.out.lt (by simp;omega)).trans h66.out);have h47:=Lib.hid (h46.out.put5 (.int .i64 pk) (.int .i64 pn) (.int .i64 pd) (.int .i64 pu) (.slice poa pL pc));have hO7:=Lib.hid (hO6.out.kept hpu (.inr fun e=>by have:=hV.out g4 e;omega))
        have hS7:=Lib.hid (show ∃ hh,Safe (fun b=>b<w.heap.size∨b=g2∨b=g4∨b=g0+1∨v.ownBlock=some b) (puts w6 g4 0 [.int .i64 pk,.int .i64 pn,.int .i64 pd,.int .i64 pu,.slice poa pL pc]) fun w=>∀ x∈D,ExIn w hh x from by
         obtain⟨hh,hs⟩:=hS6.out
         exact⟨hh,hs.grown hpu (fun k e _=>by injection e with e;exact Or.inr (Or.inr (Or.inl e.symm)))⟩)
        have hm7:=Lib.hid (hm6.out.far hpu (fun k e=>by injection e with e;omega) (by omega));have hE7:=Lib.hid (show ∀ E,r2.map (·.1)=some E→isEx (· < w3.heap.size) E (.agg #[.int .i64 pk,.int .i64 pn,.int .i64 pd,.int .i64 pu,.slice poa pL pc]) (puts w6 g4 0 [.int .i64 pk,.int .i64 pn,.int .i64 pd,.int .i64 pu,.slice poa pL pc]) from fun E hE=>(HE.out.2 E hE).grown hpu (fun k e _=>by injection e with e;omega));have hw7:(puts w6 g4 0 [.int .i64 pk,.int .i64 pn,.int .i64 pd,.int .i64 pu,.slice poa pL pc]).heap.size≤w6.heap.size:=Nat.le_of_eq (puts_size _ _ _ _);have hw8:w6.heap.size≤(puts w6 g4 0 [.int .i64 pk,.int .i64 pn,.int .i64 pd,.int .i64 pu,.slice poa pL pc]).heap.size:=Nat.le_of_eq (puts_size _ _ _ _).symm;simp only[puts,Nat.zero_add,Nat.reduceAdd]at h27 h67 hO7 hS7 hm7 hE7 hw7 hw8;clear hpu h26 h66 h46 hO6 hS6 hm6 cc0 cc1 cc2 cc3 cc4 fcc0 fcc1 fcc2 fcc3 fcc4 lcc
        generalize World.setCell _ _ _=w7 at *
        cases r2 with
        | none =>
          obtain rfl:ok=false:=HE.out.1;have hY4:Y=none:=HY3.out;subst hY4;obtain⟨ca0,fca0,ca1,fca1,ca2,fca2,ca3,fca3,ca4,fca4,lca⟩:=Blk.five (h47.out);obtain⟨cb0,fcb0,cb1,fcb1,cb2,fcb2,cb3,fcb3,cb4,fcb4,lcb⟩:=Blk.five (h27.out);go_wp2_with fail;have hputs:=(h27.out).put5 (.int .i64 pk) (.int .i64 pn) (.int .i64 pd) (.int .i64 pu) (.slice poa pL pc);refine bodyPost_ret (v:=.tuple #[.agg #[.int .i64 pk,.int .i64 pn,.int .i64 pd,.int .i64 pu,.slice poa pL pc],.bool false]) ?_ rfl ?_
          · refine ret_ex2 Tryz.results261 ?_ ?_ hputs rfl
            all_goals rfl
          · exact⟨⟨_,_,rfl,rfl,⟨_,_,_,_,_,_,_,rfl⟩,fun E hE=>by cases hE⟩,j2,hm7.out.far (grownBy_puts [.int .i64 pk,.int .i64 pn,.int .i64 pd,.int .i64 pu,.slice poa pL pc] w7 g2 0) (fun k e=>by injection e with e;omega) (by omega),by first|exact⟨hj2N,fun E j' hE=>by cases hE⟩ | exact hj2N⟩
        | some r2 =>
          obtain⟨E2,j3⟩:=r2;obtain rfl:ok=true:=HE.out.1;obtain⟨hjj,hjs⟩:=HJ.out E2 j3 rfl;subst hjj;obtain⟨x2,hx2,hxv,hxc,hxs⟩:=hE7.out E2 rfl;have HX2:=Lib.hid (And.intro hxv (And.intro hxc hxs))
          have HY4:=Lib.hid (show Y=((restP (read XL) (signP XL starS slashS false) slashS 5 n j2).map fun r=>(E2::r.1,r.2)).map fun r=>(single 4 (D.map Ex.c++r.1),r.2) from by
           have:=HY3.out;simp only[show ¬ (starS=slashS) by decide,if_false]at this
           exact this)
          clear hxv hxc hxs hE7 HE HJ HY3;have hx8:=Lib.hid (HX2.out.2.2.wide (A':=fun b=>b<w3.heap.size∨w7.heap.size≤b) fun b hb=>hb);have hxe:=Lib.hid (And.intro HX2.out.1 HX2.out.2.1);clear HX2
          go_upto_region 12 with fail
          have h28:=h27;have h48:=h47;have h68:=h67;have hO8:=hO7;have hS8:=hS7;have hm8:=hm7;clear h27 h47 h67 hO7 hS7 hm7;generalize w7=w8 at *;obtain⟨cf0,fcf0,cf1,fcf1,cf2,fcf2,cf3,fcf3,cf4,fcf4,lcf⟩:=Blk.five (h48.out);obtain⟨ch0,fch0,ch1,fch1,ch2,fch2,ch3,fch3,ch4,fch4,lch⟩:=Blk.five (h68.out);have hbs:=Lib.hid (show w.heap.size≤w8.heap.size by have:=hm8.out.gb.size;omega)
          go_wp2_with (at_builtin;refine wpList_add elExpr rfl _ _ rfl rfl (hO8.out.alloc _) (by have:=hbs.out;simp;omega) (Blk.new w8 _ _) 1 rfl rfl (by simp[Value.oneCell']) (by omega) (by omega) ?_;intro gg cap3 w9 ho9 hg9 hat9 hvb9;have H9:=Lib.hid (And.intro ho9 (And.intro hg9 (And.intro hat9 hvb9)));have ch4':=(hg9.cell_far (a:=⟨g0+1,4,none⟩) (by simp;omega) (fun e=>(hV.out _ e.symm).2 rfl)).trans ((Below.cell (B:=w8.heap.size) (below_box w8 _) lch).trans ch4);have fch4':=(hg9.frozen_far (a:=⟨g0+1,4,none⟩) (by simp;omega) (fun e=>(hV.out _ e.symm).2 rfl)).trans ((Below.frozen (B:=w8.heap.size) (below_box w8 _) lch).trans fch4);clear ho9 hg9 hat9 hvb9)
          go_roundg (N+1-j2)
          case measure=>omega
          case rel =>
           obtain⟨ho9,hg9,hat9,_⟩:=H9.out
           have hxcl:xcells x2=[.int .i64 pk,.int .i64 pn,.int .i64 pd,.int .i64 pu,.slice poa pL pc]:=by
            have e:=hxe.out.1;unfold xv at e
            injection e with e
            have:=congrArg Array.toList e;simpa using this.symm
           obtain⟨a1,a2,a3,a4,a5,a6,a7⟩:=chain_add (B3:=w3.heap.size) (lo:=g0) hm8.out (by omega) hwg hgs hg40 (by omega) hl6 (by omega) h28.out h48.out h68.out hV.out HV3.out hS8.out hx8.out ho9 hxcl (show World.grownBy _ _ v.ownBlock from hg9) (show v.ownBlock=some gg∨_ from hat9);refine⟨j2,n,D++[x2],_,pk,pn,pd,pu,poa,pL,pc,Lib.hid a1,hj2N,Lib.hid a2,Lib.hid a3,Lib.hid a4,Lib.hid a5,Lib.hid a6,Lib.hid a7,Lib.hid ?_,by omega,by simp,by simp;omega,by omega,Nat.le_refl _⟩;rw[HY4.out,Option.map_map,List.map_append,List.map_cons,List.map_nil,hxe.out.2]
           congr 1
           funext r
           simp
      · go_wp2_with fail
        ((with_reducible refine HC2.out.mono ?_);rintro e w6 ⟨⟨pv,ok,rfl,hok,h5,hE⟩,j2,hmv,hj2N,hjE⟩)
        obtain⟨pk,pn,pd,pu,poa,pL,pc,rfl⟩:=h5;have HE:=Lib.hid (And.intro hok hE);have HJ:=Lib.hid hjE;have hm6:=Lib.hid (hm3.out.trans hmv);have h26:=Lib.hid (hmv.keeps h23.out hne2);have h46:=Lib.hid (hmv.keeps h43.out (by omega));have h66:=Lib.hid (hmv.keeps h63.out (by omega));have hO6:=Lib.hid (owns_moved hO3.out hmv.gb (by omega))
        have hS6:=Lib.hid (show ∃ hh,Safe (fun b=>b<w.heap.size∨b=g2∨b=g4∨b=g0+1∨v.ownBlock=some b) w6 fun w=>∀ x∈D,ExIn w hh x from by
         obtain⟨hh,hs⟩:=hS3.out
         exact⟨hh,hs.grown hmv.gb (fun k e _=>by injection e with e;exact Or.inl (by omega))⟩)
        have hw6:=hmv.gb.size;have HV3:=Lib.hid (show ∀ b,v.ownBlock=some b→b<w3.heap.size from fun b e=>(hO3.out.lt b e).2);clear hok hE hjE hmv HC2 hm3 h23 h43 h63 hO3 hS3;obtain⟨cc0,fcc0,cc1,fcc1,cc2,fcc2,cc3,fcc3,cc4,fcc4,lcc⟩:=Blk.five (h46.out)
        go_upto_region 8 with fail
        have hpu:=grownBy_puts [.int .i64 pk,.int .i64 pn,.int .i64 pd,.int .i64 pu,.slice poa pL pc] w6 g4 0;have h27:=Lib.hid (show Blk (puts w6 g4 0 [.int .i64 pk,.int .i64 pn,.int .i64 pd,.int .i64 pu,.slice poa pL pc]) g2 31 #[.int .i64 0,.int .i64 0,.int .i64 0,.int .i64 0,.slice none 0 0] from (hpu.block g2 h26.out.lt (by simp;omega)).trans h26.out);have h67:=Lib.hid (show Blk (puts w6 g4 0 [.int .i64 pk,.int .i64 pn,.int .i64 pd,.int .i64 pu,.slice poa pL pc]) (g0+1) 31 #[.int .i64 4,.int .i64 0,.int .i64 0,.int .i64 0,v] from (hpu.block (g0+1) h66.out.lt (by simp;omega)).trans h66.out);have h47:=Lib.hid (h46.out.put5 (.int .i64 pk) (.int .i64 pn) (.int .i64 pd) (.int .i64 pu) (.slice poa pL pc));have hO7:=Lib.hid (hO6.out.kept hpu (.inr fun e=>by have:=hV.out g4 e;omega))
        have hS7:=Lib.hid (show ∃ hh,Safe (fun b=>b<w.heap.size∨b=g2∨b=g4∨b=g0+1∨v.ownBlock=some b) (puts w6 g4 0 [.int .i64 pk,.int .i64 pn,.int .i64 pd,.int .i64 pu,.slice poa pL pc]) fun w=>∀ x∈D,ExIn w hh x from by
         obtain⟨hh,hs⟩:=hS6.out
         exact⟨hh,hs.grown hpu (fun k e _=>by injection e with e;exact Or.inr (Or.inr (Or.inl e.symm)))⟩)
        have hm7:=Lib.hid (hm6.out.far hpu (fun k e=>by injection e with e;omega) (by omega));have hE7:=Lib.hid (show ∀ E,r2.map (·.1)=some E→isEx (· < w3.heap.size) E (.agg #[.int .i64 pk,.int .i64 pn,.int .i64 pd,.int .i64 pu,.slice poa pL pc]) (puts w6 g4 0 [.int .i64 pk,.int .i64 pn,.int .i64 pd,.int .i64 pu,.slice poa pL pc]) from fun E hE=>(HE.out.2 E hE).grown hpu (fun k e _=>by injection e with e;omega));have hw7:(puts w6 g4 0 [.int .i64 pk,.int .i64 pn,.int .i64 pd,.int .i64 pu,.slice poa pL pc]).heap.size≤w6.heap.size:=Nat.le_of_eq (puts_size _ _ _ _);have hw8:w6.heap.size≤(puts w6 g4 0 [.int .i64 pk,.int .i64 pn,.int .i64 pd,.int .i64 pu,.slice poa pL pc]).heap.size:=Nat.le_of_eq (puts_size _ _ _ _).symm;simp only[puts,Nat.zero_add,Nat.reduceAdd]at h27 h67 hO7 hS7 hm7 hE7 hw7 hw8;clear hpu h26 h66 h46 hO6 hS6 hm6 cc0 cc1 cc2 cc3 cc4 fcc0 fcc1 fcc2 fcc3 fcc4 lcc
        generalize World.setCell _ _ _=w7 at *
        cases r2 with
        | none =>
          obtain rfl:ok=false:=HE.out.1;have hY4:Y=none:=HY3.out;subst hY4;obtain⟨ca0,fca0,ca1,fca1,ca2,fca2,ca3,fca3,ca4,fca4,lca⟩:=Blk.five (h47.out);obtain⟨cb0,fcb0,cb1,fcb1,cb2,fcb2,cb3,fcb3,cb4,fcb4,lcb⟩:=Blk.five (h27.out);go_wp2_with fail;have hputs:=(h27.out).put5 (.int .i64 pk) (.int .i64 pn) (.int .i64 pd) (.int .i64 pu) (.slice poa pL pc);refine bodyPost_ret (v:=.tuple #[.agg #[.int .i64 pk,.int .i64 pn,.int .i64 pd,.int .i64 pu,.slice poa pL pc],.bool false]) ?_ rfl ?_
          · refine ret_ex2 Tryz.results261 ?_ ?_ hputs rfl
            all_goals rfl
          · exact⟨⟨_,_,rfl,rfl,⟨_,_,_,_,_,_,_,rfl⟩,fun E hE=>by cases hE⟩,j2,hm7.out.far (grownBy_puts [.int .i64 pk,.int .i64 pn,.int .i64 pd,.int .i64 pu,.slice poa pL pc] w7 g2 0) (fun k e=>by injection e with e;omega) (by omega),by first|exact⟨hj2N,fun E j' hE=>by cases hE⟩ | exact hj2N⟩
        | some r2 =>
          obtain⟨E2,j3⟩:=r2;obtain rfl:ok=true:=HE.out.1;obtain⟨hjj,hjs⟩:=HJ.out E2 j3 rfl;subst hjj;obtain⟨x2,hx2,hxv,hxc,hxs⟩:=hE7.out E2 rfl;have HX2:=Lib.hid (And.intro hxv (And.intro hxc hxs))
          have HY4:=Lib.hid (show Y=((restP (read XL) (signP XL starS slashS false) slashS 5 n j2).map fun r=>(Et.mk 5 0 0 0 [E2]::r.1,r.2)).map fun r=>(single 4 (D.map Ex.c++r.1),r.2) from by
           have:=HY3.out;simp only[if_true]at this
           exact this)
          clear hxv hxc hxs hE7 HE HJ HY3
          go_upto_region 11 with fail
          have hxl2:xcells x2=[.int .i64 pk,.int .i64 pn,.int .i64 pd,.int .i64 pu,.slice poa pL pc]:=by
           have e:=HX2.out.1;unfold xv at e
           injection e with e
           have:=congrArg Array.toList e;simpa using this.symm
          obtain⟨cg0,fcg0,cg1,fcg1,cg2,fcg2,cg3,fcg3,cg4,fcg4,lcg⟩:=Blk.five (h47.out)
          go_upto_region 12 with fail
          have hpu:=grownBy_puts [.int .i64 5,.int .i64 0,.int .i64 0,.int .i64 0,.slice (some ⟨w7.heap.size,0,none⟩) 1 1] w7 g4 0;have hx8:=Lib.hid (turn_made (kk:=5) (cs:=[.int .i64 5,.int .i64 0,.int .i64 0,.int .i64 0,.slice (some ⟨w7.heap.size,0,none⟩) 1 1]) hxl2 rfl hl4 (by omega) (i64_small _ (by decide)) HX2.out.2.2);have h28:=Lib.hid (show Blk ((puts w7 g4 0 [.int .i64 5,.int .i64 0,.int .i64 0,.int .i64 0,.slice (some ⟨w7.heap.size,0,none⟩) 1 1]).alloc (.cells #[.int .i64 pk,.int .i64 pn,.int .i64 pd,.int .i64 pu,.slice poa pL pc] 31)) g2 31 #[.int .i64 0,.int .i64 0,.int .i64 0,.int .i64 0,.slice none 0 0] from Blk.old ((hpu.block g2 h27.out.lt (by simp;omega)).trans h27.out) _)
          have h68:=Lib.hid (show Blk ((puts w7 g4 0 [.int .i64 5,.int .i64 0,.int .i64 0,.int .i64 0,.slice (some ⟨w7.heap.size,0,none⟩) 1 1]).alloc (.cells #[.int .i64 pk,.int .i64 pn,.int .i64 pd,.int .i64 pu,.slice poa pL pc] 31)) (g0+1) 31 #[.int .i64 4,.int .i64 0,.int .i64 0,.int .i64 0,v] from Blk.old ((hpu.block (g0+1) h67.out.lt (by simp;omega)).trans h67.out) _);have h48:=Lib.hid ((h47.out.put5 (.int .i64 5) (.int .i64 0) (.int .i64 0) (.int .i64 0) (.slice (some ⟨w7.heap.size,0,none⟩) 1 1)).old (.cells #[.int .i64 pk,.int .i64 pn,.int .i64 pd,.int .i64 pu,.slice poa pL pc] 31));have hO8:=Lib.hid ((hO7.out.kept hpu (.inr fun e=>by have:=hV.out g4 e;omega)).alloc (.cells #[.int .i64 pk,.int .i64 pn,.int .i64 pd,.int .i64 pu,.slice poa pL pc] 31))
          have hS8:=Lib.hid (show ∃ hh,Safe (fun b=>b<w.heap.size∨b=g2∨b=g4∨b=g0+1∨v.ownBlock=some b) ((puts w7 g4 0 [.int .i64 5,.int .i64 0,.int .i64 0,.int .i64 0,.slice (some ⟨w7.heap.size,0,none⟩) 1 1]).alloc (.cells #[.int .i64 pk,.int .i64 pn,.int .i64 pd,.int .i64 pu,.slice poa pL pc] 31)) fun w=>∀ x∈D,ExIn w hh x from by
           obtain⟨hh,hs⟩:=hS7.out
           exact⟨hh,(hs.grown hpu (fun k e _=>by injection e with e;exact Or.inr (Or.inr (Or.inl e.symm)))).alloc (.cells #[.int .i64 pk,.int .i64 pn,.int .i64 pd,.int .i64 pu,.slice poa pL pc] 31)⟩)
          have hm8:=Lib.hid ((hm7.out.far hpu (fun k e=>by injection e with e;omega) (by omega)).below (below_box _ (.cells #[.int .i64 pk,.int .i64 pn,.int .i64 pd,.int .i64 pu,.slice poa pL pc] 31)));have hw9:w7.heap.size≤((puts w7 g4 0 [.int .i64 5,.int .i64 0,.int .i64 0,.int .i64 0,.slice (some ⟨w7.heap.size,0,none⟩) 1 1]).alloc (.cells #[.int .i64 pk,.int .i64 pn,.int .i64 pd,.int .i64 pu,.slice poa pL pc] 31)).heap.size:=Nat.le_of_lt (by simp[puts]);have hxe:=Lib.hid HX2.out.2.1;simp only[puts,Nat.zero_add,Nat.reduceAdd]at h28 h68 hO8 hS8 hm8 hx8 hw9;clear hpu h27 h67 h47 hO7 hS7 hm7 HX2 cg0 cg1 cg2 cg3 cg4 fcg0 fcg1 fcg2 fcg3 fcg4 lcg hxl2;generalize World.alloc _ _=w8 at *;obtain⟨cf0,fcf0,cf1,fcf1,cf2,fcf2,cf3,fcf3,cf4,fcf4,lcf⟩:=Blk.five (h48.out);obtain⟨ch0,fch0,ch1,fch1,ch2,fch2,ch3,fch3,ch4,fch4,lch⟩:=Blk.five (h68.out)
          have hbs:=Lib.hid (show w.heap.size≤w8.heap.size by have:=hm8.out.gb.size;omega);go_wp2_with (at_builtin;refine wpList_add elExpr rfl _ _ rfl rfl (hO8.out.alloc _) (by have:=hbs.out;simp;omega) (Blk.new w8 _ _) 1 rfl rfl (by simp[Value.oneCell']) (by omega) (by omega) ?_;intro gg cap3 w9 ho9 hg9 hat9 hvb9;have H9:=Lib.hid (And.intro ho9 (And.intro hg9 (And.intro hat9 hvb9)));have ch4':=(hg9.cell_far (a:=⟨g0+1,4,none⟩) (by simp;omega) (fun e=>(hV.out _ e.symm).2 rfl)).trans ((Below.cell (B:=w8.heap.size) (below_box w8 _) lch).trans ch4);have fch4':=(hg9.frozen_far (a:=⟨g0+1,4,none⟩) (by simp;omega) (fun e=>(hV.out _ e.symm).2 rfl)).trans ((Below.frozen (B:=w8.heap.size) (below_box w8 _) lch).trans fch4);clear ho9 hg9 hat9 hvb9)
          go_roundg (N+1-j2)
          case measure=>omega
          case rel =>
           obtain⟨ho9,hg9,hat9,_⟩:=H9.out;obtain⟨a1,a2,a3,a4,a5,a6,a7⟩:=chain_add (B3:=w3.heap.size) (lo:=g0) hm8.out (by omega) hwg hgs hg40 (by omega) hl6 (by omega) h28.out h48.out h68.out hV.out HV3.out hS8.out hx8.out ho9 rfl (show World.grownBy _ _ v.ownBlock from hg9) (show v.ownBlock=some gg∨_ from hat9);refine⟨j2,n,D++[.mk 5 0 0 0 (some ⟨w7.heap.size,0,none⟩) w7.heap.size 0 1 [x2]],_,5,0,0,0,some ⟨w7.heap.size,0,none⟩,1,1,Lib.hid a1,hj2N,Lib.hid a2,Lib.hid a3,Lib.hid a4,Lib.hid a5,Lib.hid a6,Lib.hid a7,Lib.hid ?_,by omega,by simp,by simp;omega,by omega,Nat.le_refl _⟩;rw[HY4.out,Option.map_map,List.map_append,List.map_cons,List.map_nil,Ex.c_mk,List.map_cons,List.map_nil,hxe.out]
           congr 1
           funext r
           simp
set_option maxRecDepth 20000 in
set_option maxHeartbeats 8000000 in
theorem sum_step (h:Nat) (read:List Vt→Nat→Option (Et×Nat)) (hC:ReadAt 261 h read):ReadAt 255 h (chainP read plusS minusS true 2 3):=by
 intro R oa cap b o l i w hr;obtain⟨XL,hXL⟩:∃ XL,l.map Vl.c=XL:=⟨_,rfl⟩;obtain⟨N,hN⟩:∃ N,l.length=N:=⟨_,rfl⟩
 have hNX:XL.length=N:=by rw[← hXL,List.length_map,hN]
 have hsm:=hr.vs.here.small;have hcl:=hr.vs.here.sl.le;have hcm:=hr.vs.here.sl.max;have hiN:=hr.pos;unfold maxLen at hcm;rw[hN]at hsm hcl hiN;rw[hXL,hN];obtain⟨Y,hY⟩:∃ Y,chainP read plusS minusS true 2 3 XL i=Y:=⟨_,rfl⟩;rw[hY];have hRlt:=hr.blk.lt
 have HCALL:=Lib.hid (show ∀ (j:Nat) (wx:World),Mv w wx R oa N cap j→j≤N→Calls Tryz.prog 261 #[.pointer (some ⟨R,0,none⟩)] wx fun e w'=>retE (· < wx.heap.size) ((read XL j).map (·.1)) e w'∧∃ j2,Mv wx w' R oa N cap j2∧j2≤N∧∀ E j',read XL j=some (E,j')→j2=j'∧j<j2 from fun j wx hm hj=>by
  have h2:=hC R oa cap b o l j wx (hr.mv (by rw[hN];exact hm) (by rw[hN];exact hj));rw[hXL,hN]at h2
  exact h2)
 have HSIGN:=Lib.hid (show ∀ (j:Nat) (wx:World),Mv w wx R oa N cap j→j≤N→Calls Tryz.prog 262 #[.pointer (some ⟨R,0,none⟩),.string ⟨#[43]⟩,.string ⟨#[45]⟩,.bool true] wx fun e w'=>e=.returned (.string ⟨(signP XL plusS minusS true j).1.toArray⟩)∧Mv wx w' R oa N cap (signP XL plusS minusS true j).2 from fun j wx hm hj=>by
  have h2:=csign_any R h oa cap b o l j plusS minusS true wx (hr.mv (by rw[hN];exact hm) (by rw[hN];exact hj));rw[hXL,hN]at h2
  exact h2)
 have HN:=Lib.hid (And.intro hN (And.intro hXL hNX));have HY:=Lib.hid hY
 -- the result's variable
 have hb0:=below_box w (.cells #[.int .i64 0,.int .i64 0,.int .i64 0,.int .i64 0,.slice none 0 0] 31);have h2:=Blk.new w 31 #[.int .i64 0,.int .i64 0,.int .i64 0,.int .i64 0,.slice none 0 0];have hm0:=Mv.refl hr;rw[hN]at hm0;have HM1:=Lib.hid (hm0.below hb0);have H2:=Lib.hid h2;clear hr hb0 h2 hN hXL hNX hC hY hm0
 go_enter Tryz.func255,Tryz.ntmps255
 go_upto_region 1 with fail
 obtain⟨g2,hg2⟩:∃ g2,w.heap.size=g2:=⟨_,rfl⟩;have HG:=Lib.hid hg2;rw[hg2]at H2 hRlt;simp only[hg2];clear hg2;generalize w.alloc _=w1 at *;have hg21:=H2.out.lt
 have hne2:g2≠R:=by omega
 obtain⟨r1,hr1⟩:∃ r1,read XL i=r1:=⟨_,rfl⟩;have hc1:=HCALL.out i w1 HM1.out hiN;rw[hr1]at hc1;have HC1:=Lib.hid hc1;have HR1:=Lib.hid hr1;clear hc1 hr1;go_wp2_with fail
 ((with_reducible refine HC1.out.mono ?_);rintro e w2 ⟨⟨v,ok,rfl,hok,h5,hE⟩,j,hmv,hjN,hjE⟩)
 obtain⟨vk,vn,vd,vu,voa,vL,vc,rfl⟩:=h5;have HE:=Lib.hid (And.intro hok hE);have HM2:=Lib.hid (HM1.out.trans hmv);have H22:=Lib.hid (hmv.keeps H2.out hne2);have HJ:=Lib.hid hjE;have hw12:=hmv.gb.size;clear hok hE hmv hjE HC1 HM1 H2
 cases r1 with
 | none =>
   obtain rfl:ok=false:=HE.out.1
   have hY0:Y=none:=by rw[← HY.out,chainP,HR1.out]
   subst hY0
   go_upto_region 2 with fail
   have h24:=Lib.hid (H22.out.old (.cells #[.int .i64 vk,.int .i64 vn,.int .i64 vd,.int .i64 vu,.slice voa vL vc] 31));have h44:=Blk.new w2 31 #[.int .i64 vk,.int .i64 vn,.int .i64 vd,.int .i64 vu,.slice voa vL vc];have hm4:=Lib.hid (HM2.out.below (below_box w2 (.cells #[.int .i64 vk,.int .i64 vn,.int .i64 vd,.int .i64 vu,.slice voa vL vc] 31)));have hw2:=HM2.out.gb.size;generalize w2.heap.size=g4 at *;generalize w2.alloc _=w4 at *;obtain⟨ca0,fca0,ca1,fca1,ca2,fca2,ca3,fca3,ca4,fca4,lca⟩:=Blk.five (h44);obtain⟨cb0,fcb0,cb1,fcb1,cb2,fcb2,cb3,fcb3,cb4,fcb4,lcb⟩:=Blk.five (h24.out);clear h44;go_wp2_with fail;have hputs:=(h24.out).put5 (.int .i64 vk) (.int .i64 vn) (.int .i64 vd) (.int .i64 vu) (.slice voa vL vc);refine bodyPost_ret (v:=.tuple #[.agg #[.int .i64 vk,.int .i64 vn,.int .i64 vd,.int .i64 vu,.slice voa vL vc],.bool false]) ?_ rfl ?_
   · refine ret_ex2 Tryz.results255 ?_ ?_ hputs rfl
     all_goals rfl
   · exact⟨⟨_,_,rfl,rfl,⟨_,_,_,_,_,_,_,rfl⟩,fun E hE=>by cases hE⟩,j,hm4.out.far (grownBy_puts [.int .i64 vk,.int .i64 vn,.int .i64 vd,.int .i64 vu,.slice voa vL vc] w4 g2 0) (fun k e=>by have:=HG.out;injection e with e;omega) (by have:=HG.out;omega),hjN,fun E j' hE=>by cases hE⟩
 | some r1 =>
   obtain⟨E1,j1⟩:=r1;obtain rfl:ok=true:=HE.out.1;obtain⟨hjj,hij⟩:=HJ.out E1 j1 rfl;subst hjj;obtain⟨x1,h1,hxv,hxc,hxs⟩:=HE.out.2 E1 rfl;have HX1:=Lib.hid (And.intro hxv (And.intro hxc hxs));clear hxv hxc hxs HE HJ
   go_upto_region 4 with fail
   have h24:=Lib.hid (H22.out.old (.cells #[.int .i64 vk,.int .i64 vn,.int .i64 vd,.int .i64 vu,.slice voa vL vc] 31));have h44:=Blk.new w2 31 #[.int .i64 vk,.int .i64 vn,.int .i64 vd,.int .i64 vu,.slice voa vL vc];have hm4:=Lib.hid (HM2.out.below (below_box w2 (.cells #[.int .i64 vk,.int .i64 vn,.int .i64 vd,.int .i64 vu,.slice voa vL vc] 31)));have hx4:=Lib.hid ((HX1.out.2.2.wide (A':=fun b=>b<w1.heap.size∨w2.heap.size≤b) fun b hb=>hb).alloc (.cells #[.int .i64 vk,.int .i64 vn,.int .i64 vd,.int .i64 vu,.slice voa vL vc] 31));have hw2:=HM2.out.gb.size
   have hw24:(w2.alloc (.cells #[.int .i64 vk,.int .i64 vn,.int .i64 vd,.int .i64 vu,.slice voa vL vc] 31)).heap.size=w2.heap.size+1:=by simp
   generalize hg4:w2.heap.size=g4 at *;generalize w2.alloc _=w4 at *;obtain⟨ca0,fca0,ca1,fca1,ca2,fca2,ca3,fca3,ca4,fca4,lca⟩:=Blk.five (h44);have H44:=Lib.hid h44;have HW24:=Lib.hid hw24;clear h44 H22 HM2 hw24
   go_upto_region 5 with fail
   have hgr:Below w4.heap.size w4 ((w4.alloc (.cells #[.int .i64 vk,.int .i64 vn,.int .i64 vd,.int .i64 vu,.slice voa vL vc] 31)).alloc (.cells #[.int .i64 2,.int .i64 0,.int .i64 0,.int .i64 0,.slice (some ⟨w4.heap.size,0,none⟩) 1 1] 31)):=(below_box _ _).alloc (by simp) _;have h25:=Lib.hid (h24.out.below hgr h24.out.lt);have h45:=Lib.hid (H44.out.below hgr H44.out.lt);have hm5:=Lib.hid (hm4.out.below hgr);have hx5:=Lib.hid (hx4.out.below hgr);have h65:=Lib.hid (Blk.new2 w4 (.cells #[.int .i64 vk,.int .i64 vn,.int .i64 vd,.int .i64 vu,.slice voa vL vc] 31) 31 #[.int .i64 2,.int .i64 0,.int .i64 0,.int .i64 0,.slice (some ⟨w4.heap.size,0,none⟩) 1 1])
   have hro:=Lib.hid (owns_fresh (base:=w.heap.size) (n:=1) (size:=5) ((Blk.new w4 31 #[.int .i64 vk,.int .i64 vn,.int .i64 vd,.int .i64 vu,.slice voa vL vc]).old (.cells #[.int .i64 2,.int .i64 0,.int .i64 0,.int .i64 0,.slice (some ⟨w4.heap.size,0,none⟩) 1 1] 31)) (by have:=HG.out;have:=HW24.out;omega) rfl (by decide))
   have hw5:((w4.alloc (.cells #[.int .i64 vk,.int .i64 vn,.int .i64 vd,.int .i64 vu,.slice voa vL vc] 31)).alloc (.cells #[.int .i64 2,.int .i64 0,.int .i64 0,.int .i64 0,.slice (some ⟨w4.heap.size,0,none⟩) 1 1] 31)).heap.size=w4.heap.size+2:=by simp
   clear h24 H44 hm4 hx4 ca0 ca1 ca2 ca3 ca4 fca0 fca1 fca2 fca3 fca4 lca hgr;generalize hg0:w4.heap.size=g0 at *;generalize World.alloc (World.alloc w4 _) _=w5 at *
   have hY2:Y=(restP (read XL) (signP XL plusS minusS true) minusS 3 (N+1) j).map fun r=>(single 2 (E1::r.1),r.2):=by
    rw[← HY.out];unfold chainP;rw[HR1.out,HN.out.2.2]
   have HY2:=Lib.hid hY2;clear hY2;have hw24:=HW24.out;have HGS:=Lib.hid (show w.heap.size=g2∧g2<g4∧g0=g4+1 from ⟨HG.out,by omega,by omega⟩)
   have hS0:=Lib.hid (show ∃ hh,Safe (fun b=>b<w.heap.size∨b=g2∨b=g4∨b=g0+1∨(Value.slice (some ⟨g0,0,none⟩) 1 1).ownBlock=some b) w5 fun w=>∀ x∈[x1],ExIn w hh x from
    ⟨h1,(hx5.out.mono fun _ hw x hx=>by obtain rfl:=List.mem_singleton.1 hx;exact hw) |>.anti fun b hb hlt=>by
      have:=HG.out
      rcases hb with hb|hb|hb|hb|hb
      · exact Or.inl (by omega)
      · exact Or.inl (by omega)
      · exact Or.inr (by omega)
      · exact Or.inr (by omega)
      · have:=Option.some.inj hb;simp only at this
        exact Or.inr (by omega)⟩)
   clear hw24 HW24;have hxc1:=Lib.hid HX1.out.2.1
   have hxl1:xcells x1=[.int .i64 vk,.int .i64 vn,.int .i64 vd,.int .i64 vu,.slice voa vL vc]:=by
    have e:=HX1.out.1;unfold xv at e
    injection e with e
    have:=congrArg Array.toList e;simpa using this.symm
   have hro2:=Lib.hid (show w5.ownsRow w.heap.size 31 5 (.slice (some ⟨g0,0,none⟩) [x1].length 1) [x1].length ([x1].flatMap xcells) from by
    rw[List.flatMap_singleton,hxl1]
    exact hro.out)
   clear hx5 hro HX1 HR1 HY hxl1
   go_loopg [] (N+1) (fun q wr=>∃ (j n:Nat) (D:List Ex) (v:Value) (yk yn yd yu:Int) (yoa:Option Addr) (yL yc:Nat),Hid (Mv w wr R oa N cap j)∧j≤N∧Hid (wr.ownsRow w.heap.size 31 5 v D.length (D.flatMap xcells)) ∧
    Hid (Blk wr g2 31 #[.int .i64 0,.int .i64 0,.int .i64 0,.int .i64 0,.slice none 0 0])∧Hid (Blk wr g4 31 #[.int .i64 yk,.int .i64 yn,.int .i64 yd,.int .i64 yu,.slice yoa yL yc])∧Hid (Blk wr (g0+1) 31 #[.int .i64 2,.int .i64 0,.int .i64 0,.int .i64 0,v]) ∧
    Hid (∃ hh,Safe (fun b=>b<w.heap.size∨b=g2∨b=g4∨b=g0+1∨v.ownBlock=some b) wr fun w=>∀ x∈D,ExIn w hh x) ∧
    Hid (∀ b,v.ownBlock=some b→g0≤b∧b≠g0+1)∧Hid (Y=(restP (read XL) (signP XL plusS minusS true) minusS 3 n j).map fun r=>(single 2 (D.map Ex.c++r.1),r.2))∧N<n+j∧1≤D.length∧D.length≤j∧i<j∧N+1-j≤q)
   case atStart=>exact⟨j,N+1,[x1],_,vk,vn,vd,vu,voa,vL,vc,hm5,hjN,hro2,h25,h45,h65,hS0,Lib.hid (fun b hb=>by have:=Option.some.inj hb;simp only at this;omega),Lib.hid (by rw[HY2.out];simp only[List.map_cons,List.map_nil,hxc1.out];rfl),by omega,Nat.le_refl _,by simp;omega,hij,by omega⟩
   case round =>
    clear hm5 hro2 h25 h45 h65 hS0 HY2 hxc1;obtain⟨j,n,D,v,yk,yn,yd,yu,yoa,yL,yc,hm,hjN,hO,h2,h4,h6,hS,hV,hY,hnj,hD1,hDj,hij,hq⟩:=hrel
    have hwg:w.heap.size≤g2:=by have:=HGS.out.1;omega
    have hgw:g2≤w.heap.size:=by have:=HGS.out.1;omega
    have hgs:g2<g4:=HGS.out.2.1
    have hg40:g4<g0:=by have:=HGS.out.2.2;omega
    have hsg:=HSIGN.out j wr hm.out hjN;obtain⟨⟨ss,js⟩,hss⟩:∃ S,signP XL plusS minusS true j=S:=⟨_,rfl⟩;have hways:=csign_ways (l:=XL) (s1:=plusS) (s2:=minusS) (apart:=true) (i:=j) (by rw[HN.out.2.2];exact hjN) (by decide) (by decide);rw[hss]at hsg hways;simp only at hsg hways;have HSG:=Lib.hid hsg;have HSS:=Lib.hid hss;clear hsg hss;go_wp2_with fail;go_wp2_with fail
    ((with_reducible refine(HSG.out).mono ?_);rintro e w' ⟨rfl,hmv⟩)
    have hm3:=Lib.hid (hm.out.trans hmv);have h23:=Lib.hid (hmv.keeps h2.out hne2);have h43:=Lib.hid (hmv.keeps h4.out (by omega));have h63:=Lib.hid (hmv.keeps h6.out (by omega));have hO3:=Lib.hid (owns_moved hO.out hmv.gb (by omega))
    have hS3:=Lib.hid (show ∃ hh,Safe (fun b=>b<w.heap.size∨b=g2∨b=g4∨b=g0+1∨v.ownBlock=some b) w' fun w=>∀ x∈D,ExIn w hh x from by
     obtain⟨hh,hs⟩:=hS.out
     exact⟨hh,hs.grown hmv.gb (fun k e _=>by injection e with e;exact Or.inl (by omega))⟩)
    clear hmv hm h2 h4 h6 hO hS HSG;obtain⟨w3,hw3⟩:∃ w3,w3=w':=⟨_,rfl⟩;subst hw3
    rcases hways with hways|⟨s,j1,hsj,hs12,hj1,hj1N⟩
    · -- no sign: done
      injection hways with e1 e2
      have e3:=e2.symm;subst e1 e3
      have hY3:Y=some (single 2 (D.map Ex.c),j):=by
       rw[hY.out,restP_stop HSS.out];simp
      obtain⟨hh,hs⟩:=hS3.out;obtain⟨voa,vcap,gv,rfl,hsl,hpos⟩:=sl_of_own hO3.out;have hgv:=hV.out gv (by rw[(hsl.lies (by omega)).1];rfl)
      have hex:Safe (fun b=>b<w.heap.size∨b=g2∨b=g4∨b=g0+1) w3 fun w=>ExIn w (hh+1) (.mk 2 0 0 0 voa gv 0 vcap D) :=
       ExIn.made (i64_small _ (by decide)) (by unfold Is64;decide) (i64_small _ (by decide)) (by omega) hsl (fun _ hb=>by
        have:=hpos (by omega)
        rcases hb with hb|hb|hb|hb<;>omega) (hs.anti fun b hb _=>by
        rcases hb with hb|hb|hb|hb
        · exact Or.inl hb
        · exact Or.inr (Or.inl hb)
        · exact Or.inr (Or.inr (Or.inl hb))
        · exact Or.inr (Or.inr (Or.inr (Or.inl hb))))
      have hsi:=csingle_any _ hh 2 voa gv 0 vcap D w3 hex;obtain⟨DL,hDL⟩:∃ DL,D.length=DL:=⟨_,rfl⟩;rw[hDL]at hsi;have HSI:=Lib.hid hsi;have h63':=h63.out;rw[hDL]at h63';obtain⟨cc0,fcc0,cc1,fcc1,cc2,fcc2,cc3,fcc3,cc4,fcc4,lcc⟩:=Blk.five (h63');have HY3:=Lib.hid hY3;clear hs hsl hpos hex hsi h63' hY3;go_wp2_with fail
      ((with_reducible refine HSI.out.mono ?_);rintro e w6 ⟨⟨vs,rfl,hex⟩,hbb⟩)
      obtain⟨vk,vn,vd,vu,voa,vL,vc,rfl⟩:=hex.e5;have h26:=h23.out.below hbb h23.out.lt;obtain⟨cd0,fcd0,cd1,fcd1,cd2,fcd2,cd3,fcd3,cd4,fcd4,lcd⟩:=Blk.five (h26);have H26:=Lib.hid h26;have HEX:=Lib.hid hex;have hm6:=Lib.hid (hm3.out.below hbb);clear h26 hex hbb cc0 cc1 cc2 cc3 cc4 fcc0 fcc1 fcc2 fcc3 fcc4 lcc;go_wp2_with fail;have hpu:=grownBy_puts [.int .i64 vk,.int .i64 vn,.int .i64 vd,.int .i64 vu,.slice voa vL vc] w6 g2 0;have hputs:=(H26.out).put5 (.int .i64 vk) (.int .i64 vn) (.int .i64 vd) (.int .i64 vu) (.slice voa vL vc);refine bodyPost_ret (v:=.tuple #[.agg #[.int .i64 vk,.int .i64 vn,.int .i64 vd,.int .i64 vu,.slice voa vL vc],.bool true]) ?_ rfl ?_
      · refine ret_ex2 Tryz.results255 ?_ ?_ hputs rfl
        all_goals rfl
      · exact⟨⟨_,_,rfl,by rw[HY3.out];rfl,⟨_,_,_,_,_,_,_,rfl⟩,fun E hE=>by rw[HY3.out]at hE;injection hE with hE;subst hE;exact(HEX.out.grown hpu (fun k e _=>by injection e with e;exact Or.inr (Or.inl e.symm))).anti fun b hb=>Or.inl (Or.inl hb)⟩,j,hm6.out.far hpu (fun k e=>by injection e with e;omega) (by omega),hjN,fun E j' hE=>by rw[HY3.out]at hE;injection hE with hE;injection hE with _ hE;exact⟨hE,hij⟩⟩
    · -- a sign
      injection hsj with e1 e2
      subst e1 e2;rw[HN.out.2.2]at hj1N;obtain⟨n,rfl⟩:∃ n',n=n'+1:=⟨n-1,by omega⟩;have hY3:=hY.out;rw[restP_go HSS.out (by rcases hs12 with rfl|rfl<;>decide)]at hY3;obtain⟨r2,hr2⟩:∃ r2,read XL js=r2:=⟨_,rfl⟩;have hc2:=HCALL.out js w3 hm3.out hj1N;rw[hr2]at hc2 hY3;have HC2:=Lib.hid hc2;have HY3:=Lib.hid hY3;have hwn:w.heap.size≤w3.heap.size:=hm3.out.gb.size;have hl2:=h23.out.lt;have hl4:=h43.out.lt;have hl6:=h63.out.lt;clear hc2 hY3 hr2 hY
      rcases hs12 with rfl|rfl
      · go_wp2_with fail
        ((with_reducible refine HC2.out.mono ?_);rintro e w6 ⟨⟨pv,ok,rfl,hok,h5,hE⟩,j2,hmv,hj2N,hjE⟩)
        obtain⟨pk,pn,pd,pu,poa,pL,pc,rfl⟩:=h5;have HE:=Lib.hid (And.intro hok hE);have HJ:=Lib.hid hjE;have hm6:=Lib.hid (hm3.out.trans hmv);have h26:=Lib.hid (hmv.keeps h23.out hne2);have h46:=Lib.hid (hmv.keeps h43.out (by omega));have h66:=Lib.hid (hmv.keeps h63.out (by omega));have hO6:=Lib.hid (owns_moved hO3.out hmv.gb (by omega))
        have hS6:=Lib.hid (show ∃ hh,Safe (fun b=>b<w.heap.size∨b=g2∨b=g4∨b=g0+1∨v.ownBlock=some b) w6 fun w=>∀ x∈D,ExIn w hh x from by
         obtain⟨hh,hs⟩:=hS3.out
         exact⟨hh,hs.grown hmv.gb (fun k e _=>by injection e with e;exact Or.inl (by omega))⟩)
        have hw6:=hmv.gb.size;have HV3:=Lib.hid (show ∀ b,v.ownBlock=some b→b<w3.heap.size from fun b e=>(hO3.out.lt b e).2);clear hok hE hjE hmv HC2 hm3 h23 h43 h63 hO3 hS3;obtain⟨cc0,fcc0,cc1,fcc1,cc2,fcc2,cc3,fcc3,cc4,fcc4,lcc⟩:=Blk.five (h46.out)
        go_upto_region 8 with fail
        have hpu:=grownBy_puts [.int .i64 pk,.int .i64 pn,.int .i64 pd,.int .i64 pu,.slice poa pL pc] w6 g4 0;have h27:=Lib.hid (show Blk (puts w6 g4 0 [.int .i64 pk,.int .i64 pn,.int .i64 pd,.int .i64 pu,.slice poa pL pc]) g2 31 #[.int .i64 0,.int .i64 0,.int .i64 0,.int .i64 0,.slice none 0 0] from (hpu.block g2 h26.out.lt (by simp;omega)).trans h26.out);have h67:=Lib.hid (show Blk (puts w6 g4 0 [.int .i64 pk,.int .i64 pn,.int .i64 pd,.int .i64 pu,.slice poa pL pc]) (g0+1) 31 #[.int .i64 2,.int .i64 0,.int .i64 0,.int .i64 0,v] from (hpu.block (g0+1) h66.out.lt (by simp;omega)).trans h66.out);have h47:=Lib.hid (h46.out.put5 (.int .i64 pk) (.int .i64 pn) (.int .i64 pd) (.int .i64 pu) (.slice poa pL pc));have hO7:=Lib.hid (hO6.out.kept hpu (.inr fun e=>by have:=hV.out g4 e;omega))
        have hS7:=Lib.hid (show ∃ hh,Safe (fun b=>b<w.heap.size∨b=g2∨b=g4∨b=g0+1∨v.ownBlock=some b) (puts w6 g4 0 [.int .i64 pk,.int .i64 pn,.int .i64 pd,.int .i64 pu,.slice poa pL pc]) fun w=>∀ x∈D,ExIn w hh x from by
         obtain⟨hh,hs⟩:=hS6.out
         exact⟨hh,hs.grown hpu (fun k e _=>by injection e with e;exact Or.inr (Or.inr (Or.inl e.symm)))⟩)
        have hm7:=Lib.hid (hm6.out.far hpu (fun k e=>by injection e with e;omega) (by omega));have hE7:=Lib.hid (show ∀ E,r2.map (·.1)=some E→isEx (· < w3.heap.size) E (.agg #[.int .i64 pk,.int .i64 pn,.int .i64 pd,.int .i64 pu,.slice poa pL pc]) (puts w6 g4 0 [.int .i64 pk,.int .i64 pn,.int .i64 pd,.int .i64 pu,.slice poa pL pc]) from fun E hE=>(HE.out.2 E hE).grown hpu (fun k e _=>by injection e with e;omega));have hw7:(puts w6 g4 0 [.int .i64 pk,.int .i64 pn,.int .i64 pd,.int .i64 pu,.slice poa pL pc]).heap.size≤w6.heap.size:=Nat.le_of_eq (puts_size _ _ _ _);have hw8:w6.heap.size≤(puts w6 g4 0 [.int .i64 pk,.int .i64 pn,.int .i64 pd,.int .i64 pu,.slice poa pL pc]).heap.size:=Nat.le_of_eq (puts_size _ _ _ _).symm;simp only[puts,Nat.zero_add,Nat.reduceAdd]at h27 h67 hO7 hS7 hm7 hE7 hw7 hw8;clear hpu h26 h66 h46 hO6 hS6 hm6 cc0 cc1 cc2 cc3 cc4 fcc0 fcc1 fcc2 fcc3 fcc4 lcc
        generalize World.setCell _ _ _=w7 at *
        cases r2 with
        | none =>
          obtain rfl:ok=false:=HE.out.1;have hY4:Y=none:=HY3.out;subst hY4;obtain⟨ca0,fca0,ca1,fca1,ca2,fca2,ca3,fca3,ca4,fca4,lca⟩:=Blk.five (h47.out);obtain⟨cb0,fcb0,cb1,fcb1,cb2,fcb2,cb3,fcb3,cb4,fcb4,lcb⟩:=Blk.five (h27.out);go_wp2_with fail;have hputs:=(h27.out).put5 (.int .i64 pk) (.int .i64 pn) (.int .i64 pd) (.int .i64 pu) (.slice poa pL pc);refine bodyPost_ret (v:=.tuple #[.agg #[.int .i64 pk,.int .i64 pn,.int .i64 pd,.int .i64 pu,.slice poa pL pc],.bool false]) ?_ rfl ?_
          · refine ret_ex2 Tryz.results255 ?_ ?_ hputs rfl
            all_goals rfl
          · exact⟨⟨_,_,rfl,rfl,⟨_,_,_,_,_,_,_,rfl⟩,fun E hE=>by cases hE⟩,j2,hm7.out.far (grownBy_puts [.int .i64 pk,.int .i64 pn,.int .i64 pd,.int .i64 pu,.slice poa pL pc] w7 g2 0) (fun k e=>by injection e with e;omega) (by omega),by first|exact⟨hj2N,fun E j' hE=>by cases hE⟩ | exact hj2N⟩
        | some r2 =>
          obtain⟨E2,j3⟩:=r2;obtain rfl:ok=true:=HE.out.1;obtain⟨hjj,hjs⟩:=HJ.out E2 j3 rfl;subst hjj;obtain⟨x2,hx2,hxv,hxc,hxs⟩:=hE7.out E2 rfl;have HX2:=Lib.hid (And.intro hxv (And.intro hxc hxs))
          have HY4:=Lib.hid (show Y=((restP (read XL) (signP XL plusS minusS true) minusS 3 n j2).map fun r=>(E2::r.1,r.2)).map fun r=>(single 2 (D.map Ex.c++r.1),r.2) from by
           have:=HY3.out;simp only[show ¬ (plusS=minusS) by decide,if_false]at this
           exact this)
          clear hxv hxc hxs hE7 HE HJ HY3;have hx8:=Lib.hid (HX2.out.2.2.wide (A':=fun b=>b<w3.heap.size∨w7.heap.size≤b) fun b hb=>hb);have hxe:=Lib.hid (And.intro HX2.out.1 HX2.out.2.1);clear HX2
          go_upto_region 12 with fail
          have h28:=h27;have h48:=h47;have h68:=h67;have hO8:=hO7;have hS8:=hS7;have hm8:=hm7;clear h27 h47 h67 hO7 hS7 hm7;generalize w7=w8 at *;obtain⟨cf0,fcf0,cf1,fcf1,cf2,fcf2,cf3,fcf3,cf4,fcf4,lcf⟩:=Blk.five (h48.out);obtain⟨ch0,fch0,ch1,fch1,ch2,fch2,ch3,fch3,ch4,fch4,lch⟩:=Blk.five (h68.out);have hbs:=Lib.hid (show w.heap.size≤w8.heap.size by have:=hm8.out.gb.size;omega)
          go_wp2_with (at_builtin;refine wpList_add elExpr rfl _ _ rfl rfl (hO8.out.alloc _) (by have:=hbs.out;simp;omega) (Blk.new w8 _ _) 1 rfl rfl (by simp[Value.oneCell']) (by omega) (by omega) ?_;intro gg cap3 w9 ho9 hg9 hat9 hvb9;have H9:=Lib.hid (And.intro ho9 (And.intro hg9 (And.intro hat9 hvb9)));have ch4':=(hg9.cell_far (a:=⟨g0+1,4,none⟩) (by simp;omega) (fun e=>(hV.out _ e.symm).2 rfl)).trans ((Below.cell (B:=w8.heap.size) (below_box w8 _) lch).trans ch4);have fch4':=(hg9.frozen_far (a:=⟨g0+1,4,none⟩) (by simp;omega) (fun e=>(hV.out _ e.symm).2 rfl)).trans ((Below.frozen (B:=w8.heap.size) (below_box w8 _) lch).trans fch4);clear ho9 hg9 hat9 hvb9)
          go_roundg (N+1-j2)
          case measure=>omega
          case rel =>
           obtain⟨ho9,hg9,hat9,_⟩:=H9.out
           have hxcl:xcells x2=[.int .i64 pk,.int .i64 pn,.int .i64 pd,.int .i64 pu,.slice poa pL pc]:=by
            have e:=hxe.out.1;unfold xv at e
            injection e with e
            have:=congrArg Array.toList e;simpa using this.symm
           obtain⟨a1,a2,a3,a4,a5,a6,a7⟩:=chain_add (B3:=w3.heap.size) (lo:=g0) hm8.out (by omega) hwg hgs hg40 (by omega) hl6 (by omega) h28.out h48.out h68.out hV.out HV3.out hS8.out hx8.out ho9 hxcl (show World.grownBy _ _ v.ownBlock from hg9) (show v.ownBlock=some gg∨_ from hat9);refine⟨j2,n,D++[x2],_,pk,pn,pd,pu,poa,pL,pc,Lib.hid a1,hj2N,Lib.hid a2,Lib.hid a3,Lib.hid a4,Lib.hid a5,Lib.hid a6,Lib.hid a7,Lib.hid ?_,by omega,by simp,by simp;omega,by omega,Nat.le_refl _⟩;rw[HY4.out,Option.map_map,List.map_append,List.map_cons,List.map_nil,hxe.out.2]
           congr 1
           funext r
           simp
      · go_wp2_with fail
        ((with_reducible refine HC2.out.mono ?_);rintro e w6 ⟨⟨pv,ok,rfl,hok,h5,hE⟩,j2,hmv,hj2N,hjE⟩)
        obtain⟨pk,pn,pd,pu,poa,pL,pc,rfl⟩:=h5;have HE:=Lib.hid (And.intro hok hE);have HJ:=Lib.hid hjE;have hm6:=Lib.hid (hm3.out.trans hmv);have h26:=Lib.hid (hmv.keeps h23.out hne2);have h46:=Lib.hid (hmv.keeps h43.out (by omega));have h66:=Lib.hid (hmv.keeps h63.out (by omega));have hO6:=Lib.hid (owns_moved hO3.out hmv.gb (by omega))
        have hS6:=Lib.hid (show ∃ hh,Safe (fun b=>b<w.heap.size∨b=g2∨b=g4∨b=g0+1∨v.ownBlock=some b) w6 fun w=>∀ x∈D,ExIn w hh x from by
         obtain⟨hh,hs⟩:=hS3.out
         exact⟨hh,hs.grown hmv.gb (fun k e _=>by injection e with e;exact Or.inl (by omega))⟩)
        have hw6:=hmv.gb.size;have HV3:=Lib.hid (show ∀ b,v.ownBlock=some b→b<w3.heap.size from fun b e=>(hO3.out.lt b e).2);clear hok hE hjE hmv HC2 hm3 h23 h43 h63 hO3 hS3;obtain⟨cc0,fcc0,cc1,fcc1,cc2,fcc2,cc3,fcc3,cc4,fcc4,lcc⟩:=Blk.five (h46.out)
        go_upto_region 8 with fail
        have hpu:=grownBy_puts [.int .i64 pk,.int .i64 pn,.int .i64 pd,.int .i64 pu,.slice poa pL pc] w6 g4 0;have h27:=Lib.hid (show Blk (puts w6 g4 0 [.int .i64 pk,.int .i64 pn,.int .i64 pd,.int .i64 pu,.slice poa pL pc]) g2 31 #[.int .i64 0,.int .i64 0,.int .i64 0,.int .i64 0,.slice none 0 0] from (hpu.block g2 h26.out.lt (by simp;omega)).trans h26.out);have h67:=Lib.hid (show Blk (puts w6 g4 0 [.int .i64 pk,.int .i64 pn,.int .i64 pd,.int .i64 pu,.slice poa pL pc]) (g0+1) 31 #[.int .i64 2,.int .i64 0,.int .i64 0,.int .i64 0,v] from (hpu.block (g0+1) h66.out.lt (by simp;omega)).trans h66.out);have h47:=Lib.hid (h46.out.put5 (.int .i64 pk) (.int .i64 pn) (.int .i64 pd) (.int .i64 pu) (.slice poa pL pc));have hO7:=Lib.hid (hO6.out.kept hpu (.inr fun e=>by have:=hV.out g4 e;omega))
        have hS7:=Lib.hid (show ∃ hh,Safe (fun b=>b<w.heap.size∨b=g2∨b=g4∨b=g0+1∨v.ownBlock=some b) (puts w6 g4 0 [.int .i64 pk,.int .i64 pn,.int .i64 pd,.int .i64 pu,.slice poa pL pc]) fun w=>∀ x∈D,ExIn w hh x from by
         obtain⟨hh,hs⟩:=hS6.out
         exact⟨hh,hs.grown hpu (fun k e _=>by injection e with e;exact Or.inr (Or.inr (Or.inl e.symm)))⟩)
        have hm7:=Lib.hid (hm6.out.far hpu (fun k e=>by injection e with e;omega) (by omega));have hE7:=Lib.hid (show ∀ E,r2.map (·.1)=some E→isEx (· < w3.heap.size) E (.agg #[.int .i64 pk,.int .i64 pn,.int .i64 pd,.int .i64 pu,.slice poa pL pc]) (puts w6 g4 0 [.int .i64 pk,.int .i64 pn,.int .i64 pd,.int .i64 pu,.slice poa pL pc]) from fun E hE=>(HE.out.2 E hE).grown hpu (fun k e _=>by injection e with e;omega));have hw7:(puts w6 g4 0 [.int .i64 pk,.int .i64 pn,.int .i64 pd,.int .i64 pu,.slice poa pL pc]).heap.size≤w6.heap.size:=Nat.le_of_eq (puts_size _ _ _ _);have hw8:w6.heap.size≤(puts w6 g4 0 [.int .i64 pk,.int .i64 pn,.int .i64 pd,.int .i64 pu,.slice poa pL pc]).heap.size:=Nat.le_of_eq (puts_size _ _ _ _).symm;simp only[puts,Nat.zero_add,Nat.reduceAdd]at h27 h67 hO7 hS7 hm7 hE7 hw7 hw8;clear hpu h26 h66 h46 hO6 hS6 hm6 cc0 cc1 cc2 cc3 cc4 fcc0 fcc1 fcc2 fcc3 fcc4 lcc
        generalize World.setCell _ _ _=w7 at *
        cases r2 with
        | none =>
          obtain rfl:ok=false:=HE.out.1;have hY4:Y=none:=HY3.out;subst hY4;obtain⟨ca0,fca0,ca1,fca1,ca2,fca2,ca3,fca3,ca4,fca4,lca⟩:=Blk.five (h47.out);obtain⟨cb0,fcb0,cb1,fcb1,cb2,fcb2,cb3,fcb3,cb4,fcb4,lcb⟩:=Blk.five (h27.out);go_wp2_with fail;have hputs:=(h27.out).put5 (.int .i64 pk) (.int .i64 pn) (.int .i64 pd) (.int .i64 pu) (.slice poa pL pc);refine bodyPost_ret (v:=.tuple #[.agg #[.int .i64 pk,.int .i64 pn,.int .i64 pd,.int .i64 pu,.slice poa pL pc],.bool false]) ?_ rfl ?_
          · refine ret_ex2 Tryz.results255 ?_ ?_ hputs rfl
            all_goals rfl
          · exact⟨⟨_,_,rfl,rfl,⟨_,_,_,_,_,_,_,rfl⟩,fun E hE=>by cases hE⟩,j2,hm7.out.far (grownBy_puts [.int .i64 pk,.int .i64 pn,.int .i64 pd,.int .i64 pu,.slice poa pL pc] w7 g2 0) (fun k e=>by injection e with e;omega) (by omega),by first|exact⟨hj2N,fun E j' hE=>by cases hE⟩ | exact hj2N⟩
        | some r2 =>
          obtain⟨E2,j3⟩:=r2;obtain rfl:ok=true:=HE.out.1;obtain⟨hjj,hjs⟩:=HJ.out E2 j3 rfl;subst hjj;obtain⟨x2,hx2,hxv,hxc,hxs⟩:=hE7.out E2 rfl;have HX2:=Lib.hid (And.intro hxv (And.intro hxc hxs))
          have HY4:=Lib.hid (show Y=((restP (read XL) (signP XL plusS minusS true) minusS 3 n j2).map fun r=>(Et.mk 3 0 0 0 [E2]::r.1,r.2)).map fun r=>(single 2 (D.map Ex.c++r.1),r.2) from by
           have:=HY3.out;simp only[if_true]at this
           exact this)
          clear hxv hxc hxs hE7 HE HJ HY3
          go_upto_region 11 with fail
          have hxl2:xcells x2=[.int .i64 pk,.int .i64 pn,.int .i64 pd,.int .i64 pu,.slice poa pL pc]:=by
           have e:=HX2.out.1;unfold xv at e
           injection e with e
           have:=congrArg Array.toList e;simpa using this.symm
          obtain⟨cg0,fcg0,cg1,fcg1,cg2,fcg2,cg3,fcg3,cg4,fcg4,lcg⟩:=Blk.five (h47.out)
          go_upto_region 12 with fail
          have hpu:=grownBy_puts [.int .i64 3,.int .i64 0,.int .i64 0,.int .i64 0,.slice (some ⟨w7.heap.size,0,none⟩) 1 1] w7 g4 0;have hx8:=Lib.hid (turn_made (kk:=3) (cs:=[.int .i64 3,.int .i64 0,.int .i64 0,.int .i64 0,.slice (some ⟨w7.heap.size,0,none⟩) 1 1]) hxl2 rfl hl4 (by omega) (i64_small _ (by decide)) HX2.out.2.2);have h28:=Lib.hid (show Blk ((puts w7 g4 0 [.int .i64 3,.int .i64 0,.int .i64 0,.int .i64 0,.slice (some ⟨w7.heap.size,0,none⟩) 1 1]).alloc (.cells #[.int .i64 pk,.int .i64 pn,.int .i64 pd,.int .i64 pu,.slice poa pL pc] 31)) g2 31 #[.int .i64 0,.int .i64 0,.int .i64 0,.int .i64 0,.slice none 0 0] from Blk.old ((hpu.block g2 h27.out.lt (by simp;omega)).trans h27.out) _)
          have h68:=Lib.hid (show Blk ((puts w7 g4 0 [.int .i64 3,.int .i64 0,.int .i64 0,.int .i64 0,.slice (some ⟨w7.heap.size,0,none⟩) 1 1]).alloc (.cells #[.int .i64 pk,.int .i64 pn,.int .i64 pd,.int .i64 pu,.slice poa pL pc] 31)) (g0+1) 31 #[.int .i64 2,.int .i64 0,.int .i64 0,.int .i64 0,v] from Blk.old ((hpu.block (g0+1) h67.out.lt (by simp;omega)).trans h67.out) _);have h48:=Lib.hid ((h47.out.put5 (.int .i64 3) (.int .i64 0) (.int .i64 0) (.int .i64 0) (.slice (some ⟨w7.heap.size,0,none⟩) 1 1)).old (.cells #[.int .i64 pk,.int .i64 pn,.int .i64 pd,.int .i64 pu,.slice poa pL pc] 31));have hO8:=Lib.hid ((hO7.out.kept hpu (.inr fun e=>by have:=hV.out g4 e;omega)).alloc (.cells #[.int .i64 pk,.int .i64 pn,.int .i64 pd,.int .i64 pu,.slice poa pL pc] 31))
          have hS8:=Lib.hid (show ∃ hh,Safe (fun b=>b<w.heap.size∨b=g2∨b=g4∨b=g0+1∨v.ownBlock=some b) ((puts w7 g4 0 [.int .i64 3,.int .i64 0,.int .i64 0,.int .i64 0,.slice (some ⟨w7.heap.size,0,none⟩) 1 1]).alloc (.cells #[.int .i64 pk,.int .i64 pn,.int .i64 pd,.int .i64 pu,.slice poa pL pc] 31)) fun w=>∀ x∈D,ExIn w hh x from by
           obtain⟨hh,hs⟩:=hS7.out
           exact⟨hh,(hs.grown hpu (fun k e _=>by injection e with e;exact Or.inr (Or.inr (Or.inl e.symm)))).alloc (.cells #[.int .i64 pk,.int .i64 pn,.int .i64 pd,.int .i64 pu,.slice poa pL pc] 31)⟩)
          have hm8:=Lib.hid ((hm7.out.far hpu (fun k e=>by injection e with e;omega) (by omega)).below (below_box _ (.cells #[.int .i64 pk,.int .i64 pn,.int .i64 pd,.int .i64 pu,.slice poa pL pc] 31)));have hw9:w7.heap.size≤((puts w7 g4 0 [.int .i64 3,.int .i64 0,.int .i64 0,.int .i64 0,.slice (some ⟨w7.heap.size,0,none⟩) 1 1]).alloc (.cells #[.int .i64 pk,.int .i64 pn,.int .i64 pd,.int .i64 pu,.slice poa pL pc] 31)).heap.size:=Nat.le_of_lt (by simp[puts]);have hxe:=Lib.hid HX2.out.2.1;simp only[puts,Nat.zero_add,Nat.reduceAdd]at h28 h68 hO8 hS8 hm8 hx8 hw9;clear hpu h27 h67 h47 hO7 hS7 hm7 HX2 cg0 cg1 cg2 cg3 cg4 fcg0 fcg1 fcg2 fcg3 fcg4 lcg hxl2;generalize World.alloc _ _=w8 at *;obtain⟨cf0,fcf0,cf1,fcf1,cf2,fcf2,cf3,fcf3,cf4,fcf4,lcf⟩:=Blk.five (h48.out);obtain⟨ch0,fch0,ch1,fch1,ch2,fch2,ch3,fch3,ch4,fch4,lch⟩:=Blk.five (h68.out)
          have hbs:=Lib.hid (show w.heap.size≤w8.heap.size by have:=hm8.out.gb.size;omega);go_wp2_with (at_builtin;refine wpList_add elExpr rfl _ _ rfl rfl (hO8.out.alloc _) (by have:=hbs.out;simp;omega) (Blk.new w8 _ _) 1 rfl rfl (by simp[Value.oneCell']) (by omega) (by omega) ?_;intro gg cap3 w9 ho9 hg9 hat9 hvb9;have H9:=Lib.hid (And.intro ho9 (And.intro hg9 (And.intro hat9 hvb9)));have ch4':=(hg9.cell_far (a:=⟨g0+1,4,none⟩) (by simp;omega) (fun e=>(hV.out _ e.symm).2 rfl)).trans ((Below.cell (B:=w8.heap.size) (below_box w8 _) lch).trans ch4);have fch4':=(hg9.frozen_far (a:=⟨g0+1,4,none⟩) (by simp;omega) (fun e=>(hV.out _ e.symm).2 rfl)).trans ((Below.frozen (B:=w8.heap.size) (below_box w8 _) lch).trans fch4);clear ho9 hg9 hat9 hvb9)
          go_roundg (N+1-j2)
          case measure=>omega
          case rel =>
           obtain⟨ho9,hg9,hat9,_⟩:=H9.out;obtain⟨a1,a2,a3,a4,a5,a6,a7⟩:=chain_add (B3:=w3.heap.size) (lo:=g0) hm8.out (by omega) hwg hgs hg40 (by omega) hl6 (by omega) h28.out h48.out h68.out hV.out HV3.out hS8.out hx8.out ho9 rfl (show World.grownBy _ _ v.ownBlock from hg9) (show v.ownBlock=some gg∨_ from hat9);refine⟨j2,n,D++[.mk 3 0 0 0 (some ⟨w7.heap.size,0,none⟩) w7.heap.size 0 1 [x2]],_,3,0,0,0,some ⟨w7.heap.size,0,none⟩,1,1,Lib.hid a1,hj2N,Lib.hid a2,Lib.hid a3,Lib.hid a4,Lib.hid a5,Lib.hid a6,Lib.hid a7,Lib.hid ?_,by omega,by simp,by simp;omega,by omega,Nat.le_refl _⟩;rw[HY4.out,Option.map_map,List.map_append,List.map_cons,List.map_nil,Ex.c_mk,List.map_cons,List.map_nil,hxe.out]
           congr 1
           funext r
           simp
theorem cprod_any {h:Nat} (ho:OperAt h):ReadAt 261 h (prodP (opF wholeP h)):=by
 rw[← prod_chain];exact prod_step h _ (oper_read ho)
theorem csum_any {h:Nat} (ho:OperAt h):ReadAt 255 h (sumP (opF wholeP h)):=by
 rw[← sum_chain];exact sum_step h _ (cprod_any ho)
end Go.Proofs.YtnbkbenkhkinoaaGreatDoor
namespace Go.Proofs.YtnbkbenkhkinoaaGreatDoor
set_option linter.unusedVariables false
set_option linter.unusedSimpArgs false
theorem mayW_app (n:Nat):∀ a b:List Vt,mayV n (a++b)=(mayV n a&&mayV n b)
 | [],b=>by rw[List.nil_append,mayV_nil,Bool.true_and]
 | .mk t k::r,b=>by rw[List.cons_append,mayV_cons,mayV_cons,mayW_app n r b];simp only[Bool.and_assoc]
theorem mayW_up:∀ (n:Nat) (l:List Vt),mayV n l=true→mayV (n+1) l=true:=by
 intro n
 induction n with
 | zero =>
   intro l
   induction l with
   | nil=>exact fun _=>mayV_nil _
   | cons v r ih =>
     obtain⟨t,k⟩:=v;intro h;rw[mayV_cons,Bool.and_eq_true,Bool.and_eq_true]at h ⊢;refine⟨⟨h.1.1,?_⟩,ih h.2⟩;have h2:=h.1.2;split at h2
     · rename_i hc;rw[if_pos hc];exact h2
     · cases h2
 | succ n ihn =>
   intro l
   induction l with
   | nil=>exact fun _=>mayV_nil _
   | cons v r ih =>
     obtain⟨t,k⟩:=v;intro h;rw[mayV_cons,Bool.and_eq_true,Bool.and_eq_true]at h ⊢;refine⟨⟨h.1.1,?_⟩,ih h.2⟩;have h2:=h.1.2;split at h2
     · rename_i hc;rw[if_pos hc];exact h2
     · rename_i hc;rw[if_neg hc];exact ihn k h2
theorem mayW_take {n:Nat} {l:List Vt} (h:mayV n l=true) (i:Nat):mayV n (l.take i)=true∧mayV n (l.drop i)=true:=by
 rw[← List.take_append_drop i l,mayW_app,Bool.and_eq_true]at h;exact h
theorem mayW_trim {n:Nat} {l:List Vt} (h:mayV n l=true):mayV n (trimV l)=true:=by
 have hd:∀ l:List Vt,∃ a,l=a++l.dropWhile spV:=fun l=>⟨l.takeWhile spV,List.takeWhile_append_dropWhile.symm⟩
 obtain⟨a,ha⟩:=hd l;rw[ha,mayW_app,Bool.and_eq_true]at h;obtain⟨b,hb⟩:=hd (frontV l).reverse
 have hb2:frontV l=trimV l++b.reverse:=by
  have:=congrArg List.reverse hb;rwa [List.reverse_reverse,List.reverse_append]at this
 have h2:mayV n (frontV l)=true:=h.2;rw[hb2,mayW_app,Bool.and_eq_true]at h2;exact h2.1
theorem mayW_kids {t:Tk} {k:List Vt} (h:mayV 64 [.mk t k]=true) (hk:t.kind=21):mayV 64 (trimV k)=true:=by
 rw[mayV_cons,hk]at h;simp only[Bool.and_eq_true]at h;have h2:=h.1.2;rw[if_neg (by decide)]at h2;exact mayW_trim (mayW_up 63 _ h2)
def exH (h:Nat) (v:Vt):Option Et:=match exF wholeP h v with
 | some e=>if mayT 340 e then some e else none
 | none=>none
theorem parse_trim {h:Nat} {l:List Vt} (hm:mayV 64 l=true):(parseF wholeP h l).1=oneN (exF wholeP h) (nbs l):=by
 unfold parseF;rw[if_neg (by rw[hm];decide)]
 match ht:trimV l with
 | [] =>
   have hn:nbs l=[]:=by rw[← nbs_trim,ht];rfl
   rw[hn];rfl
 | [v] =>
   have hv:spV v=false:=by have:=trimV_head l;rw[ht]at this;exact this
   have hn:nbs l=[v]:=by rw[← nbs_trim,ht,nbs_cons _ hv];rfl
   rw[hn];have e:oneN (exF wholeP h) [v]=exF wholeP h v:=rfl;rw[e];simp only
   cases exF wholeP h v<;>rfl
 | v::x::r =>
   match hn:nbs l with
   | []=>rfl
   | [y]=>rw[trim_one hn]at ht;cases ht
   | _::_::_=>rfl
def ofH (h:Nat) (k:Int) (l:List Vt):Option Et:=match (parseF wholeP h l).1 with
 | some e=>if (kindOfT e).1=k then some e else none
 | none=>none
theorem ofH_N {h:Nat} {k:Int} {l:List Vt} (hm:mayV 64 l=true) (hk:k≠0):ofH h k l=ofN (exH h) k l:=by
 unfold ofH ofN readN;rw[parse_trim hm]
 match nbs l with
 | []=>rfl
 | _::_::_=>rfl
 | [v] =>
   show (match exF wholeP h v with
    | some e=>if (kindOfT e).1=k then some e else none
    | none=>none)=match exH h v with
    | some e=>if kindE e=k then some e else none
    | none=>none
   unfold exH
   cases exF wholeP h v with
   | none=>rfl
   | some e =>
     simp only;unfold kindOfT
     cases mayT 340 e with
     | false=>simp[Ne.symm hk]
     | true =>
       by_cases h0:kindE e=0
       · simp[h0,Ne.symm hk]
       · simp[h0]
def fracH (h:Nat) (l:List Vt):Option Et:=match l.findIdx? (delimV slashS) with
 | none=>ofH h 1 l
 | some i=>match ofH h 1 (l.take i),ofH h 1 (l.drop (i+1)) with
   | some a,some b=>some (ratioE a b)
   | _,_=>none
def valH (h:Nat) (n:List UInt8) (l:List Vt):Option Et :=
 if n=colorS then ofH h 1 l else if n=ratioS then fracH h l else if zeroN l then some zeroPx else ofH h 2 l
theorem fracH_N {h:Nat} {l:List Vt} (hm:mayV 64 l=true):fracH h l=fracN (exH h) l:=by
 unfold fracH fracN
 cases l.findIdx? (delimV slashS) with
 | none=>exact ofH_N hm (by decide)
 | some i =>
   simp only;rw[ofH_N (k:=1) (mayW_take hm _).1 (by decide),ofH_N (k:=1) (mayW_take hm _).2 (by decide)]
   all_goals (cases ofN (exH h) 1 (l.take i)<;>cases ofN (exH h) 1 (l.drop (i+1))<;>rfl)
theorem valH_N {h:Nat} {l:List Vt} (n:List UInt8) (hm:mayV 64 l=true):valH h n l=valueN (exH h) n l:=by
 unfold valH valueN;rw[ofH_N hm (by decide),ofH_N hm (by decide),fracH_N hm]
def cmpH (h:Nat) (n:List UInt8) (op:Int) (l:List Vt):Option Ct:=if rangedN n then (valH h n l).map (cmpC n op) else none
theorem cmpH_N {h:Nat} {l:List Vt} (n:List UInt8) (op:Int) (hm:mayV 64 l=true):cmpH h n op l=comparedN (exH h) n op l:=by
 unfold cmpH comparedN;rw[valH_N n hm]
def cnT:List UInt8:=[98,32,40,119,105,100,116,104,32,62,32,49,48,101,109,41]
def cnK:List Tk:=[⟨1,[119,105,100,116,104],(0,0),false,false⟩,⟨13,[],(0,0),false,false⟩,⟨9,[62],(0,0),false,false⟩,⟨13,[],(0,0),false,false⟩,⟨12,[101,109],(10,1),true,false⟩]
def cnV:Vt:=.mk ⟨21,[],(0,0),false,false⟩ (cnK.map fun t=>.mk t [])
def csp:Tk:=⟨13,[],(0,0),false,false⟩
def cbt:Tk:=⟨1,[98],(0,0),false,false⟩
theorem cn_may1:mayV 64 [cnV]=true:=by
 simp[cnV,cnK,mayV,closeF]
theorem cn_may2:mayV 64 [.mk csp [],cnV]=true:=by
 simp[cnV,cnK,mayV,closeF,csp]
theorem cn_may:mayV 64 [.mk cbt [],.mk csp [],cnV]=true:=by
 simp[cnV,cnK,mayV,closeF,cbt,csp]
theorem cn_feat:featN (exH 1) cnV true=some (cmpC widthS 5 (.mk 1 10 1 2 [])):=by
 have h:=cn_may1;unfold cnV at h ⊢;unfold featN
 dsimp only
 rw[h,if_neg (by decide),if_neg (by decide +kernel)]
 have e:plainN (exH 1) (trimV (cnK.map fun t=>.mk t [])) true=none:=by kernel_rfl
 rw[e];show betweenN (exH 1) (trimV (cnK.map fun t=>Vt.mk t [])) true=some (cmpC widthS 5 (.mk 1 10 1 2 []))
 kernel_rfl
def awK:List Tk:=[⟨1,[109,105,110,45,119,105,100,116,104],(0,0),false,false⟩,⟨16,[],(0,0),false,false⟩,⟨13,[],(0,0),false,false⟩,⟨12,[112,120],(600,1),true,false⟩]
end Go.Proofs.YtnbkbenkhkinoaaGreatDoor
