/- Of my texts: CalcE, CalcF, CalcG, OfM. -/
import Derived.Test.YtnbkbenkhkinoaaGreatDoorM31
import Derived.Test.YtnbkbenkhkinoaaGreatDoorM33
import Derived.OwnWalk
namespace Go.Proofs.YtnbkbenkhkinoaaGreatDoor
set_option linter.unusedVariables false
set_option linter.unusedSimpArgs false
open Go.RowKit
theorem grownBy_drew {w w':World} {row:Option Nat} (h:w.grownBy w' row):w.grownBy w'.drew row:=⟨h.os,h.tape,h.output,h.size,h.block⟩
theorem blk_drew {w:World} {g:Nat} {t:TypeId} {cs:Array Value} (h:Blk w g t cs):Blk w.drew g t cs:=h
def allOf (N:Nat):Option (Et×Nat)→Option Et
 | none=>none
 | some (e,j)=>if j=N then some e else none
theorem whole_of {f:Vt→Option Et} {X:List Vt} {Y:Option (Et×Nat)} {N:Nat} (hY:sumP f (trimV X) 0=Y) (hN:(trimV X).length=N):wholeP f X=allOf N Y:=by
 subst hY hN;unfold wholeP allOf
 cases sumP f (trimV X) 0<;>rfl
set_option maxRecDepth 20000 in
set_option maxHeartbeats 4000000 in
theorem whole_step (h:Nat) (hS:ReadAt 255 h (sumP (opF wholeP h))):WholeAt h:=by
 intro l oa cap b o w hs;obtain⟨f,hf⟩:∃ f,opF wholeP h=f:=⟨_,rfl⟩;rw[hf]at hS;rw[hf];have hb0:=below_box w (.cells #[.int .i64 0,.int .i64 0,.int .i64 0,.int .i64 0,.slice none 0 0] 31);have h2:=Blk.new w 31 #[.int .i64 0,.int .i64 0,.int .i64 0,.int .i64 0,.slice none 0 0];have ht:=rtrim_any h l oa cap b o _ (hs.below hb0);have HT:=Lib.hid ht;have H2:=Lib.hid h2;have HB0:=Lib.hid hb0
 have hw01:(w.alloc (.cells #[.int .i64 0,.int .i64 0,.int .i64 0,.int .i64 0,.slice none 0 0] 31)).heap.size=w.heap.size+1:=by simp
 have HW01:=Lib.hid hw01;obtain⟨X,hX⟩:∃ X,l.map Vl.c=X:=⟨_,rfl⟩;obtain⟨N0,hN0⟩:∃ N0,l.length=N0:=⟨_,rfl⟩;rw[hX,hN0]at HT;rw[hX,hN0];obtain⟨Z,hZ⟩:∃ Z,wholeP f X=Z:=⟨_,rfl⟩;have HZ:=Lib.hid hZ;rw[hZ];clear ht h2 hb0 hs hw01 hX hN0 hZ
 go_enter Tryz.func244,Tryz.ntmps244
 go_upto_region 1 with fail
 obtain⟨g2,hg2⟩:∃ g2,w.heap.size=g2:=⟨_,rfl⟩;have HG:=Lib.hid hg2;rw[hg2]at H2;simp only[hg2];clear hg2;generalize w.alloc _=w1 at *;go_wp2_with fail
 ((with_reducible refine HT.out.mono ?_);rintro e w2 ⟨⟨v,rfl,oa2,cap2,b2,o2,l2,rfl,hc2,hs2⟩,hb12⟩)
 have hw12:=hb12.size;have hl2:=H2.out.lt;have hn2:=hs2.here.small;have hcl:=hs2.here.sl.le;have hcm:=hs2.here.sl.max;unfold maxLen at hcm;have HS2:=Lib.hid hs2;have HC2:=Lib.hid hc2;have H22:=Lib.hid (H2.out.below hb12 hl2);have HB2:=Lib.hid (below_far HB0.out (grownBy_of_below hb12 none) (fun _ e=>by cases e));clear hs2 hc2 hb12 HT H2 HB0;obtain⟨N,hN⟩:∃ N,l2.length=N:=⟨_,rfl⟩;rw[hN]at hn2 hcl;simp only[hN];have HN:=Lib.hid hN
 go_upto_region 2 with fail
 have hR:=Blk.new w2 297 #[.slice oa2 N cap2,.int .i64 0];have hs3:=(HS2.out.wide (A':=fun b=>b=w2.heap.size) fun b hb=>Or.inr (by omega)).alloc (.cells #[.slice oa2 N cap2,.int .i64 0] 297);have hc:=hS w2.heap.size oa2 cap2 b2 o2 l2 0 _ ⟨by rw[hN];exact hR,hs3,Nat.zero_le _,rfl⟩;rw[HC2.out,hN]at hc;have HC:=Lib.hid hc;have H23:=Lib.hid (H22.out.old (.cells #[.slice oa2 N cap2,.int .i64 0] 297));have HB3:=Lib.hid (HB2.out.alloc (by have:=HW01.out;omega) (.cells #[.slice oa2 N cap2,.int .i64 0] 297))
 have hgR:g2<w2.heap.size:=by omega
 have hw23:(w2.alloc (.cells #[.slice oa2 N cap2,.int .i64 0] 297)).heap.size=w2.heap.size+1:=by simp
 have HW:=Lib.hid hw23;clear hw23 hR hs3 hc hS H22 HB2 HS2;obtain⟨R,hR⟩:∃ R,w2.heap.size=R:=⟨_,rfl⟩;rw[hR]at HC hgR hw12;simp only[hR]at HC hgR hw12 ⊢;have HR:=Lib.hid hR;clear hR;generalize w2.alloc _=w3 at *;obtain⟨Y,hY⟩:∃ Y,sumP f (trimV X) 0=Y:=⟨_,rfl⟩;rw[hY]at HC;have HY:=Lib.hid (HZ.out.symm.trans (whole_of hY (N:=N) (by rw[← hN,← HC2.out,List.length_map])));clear hY hN HN HC2;go_wp2_with fail
 ((with_reducible refine HC.out.mono ?_);rintro e w4 ⟨⟨ev,ok,rfl,hok,h5,hE⟩,j,hmv,hjN,hjE⟩)
 obtain⟨vk,vn,vd,vu,voa,vL,vc,rfl⟩:=h5;have HE:=Lib.hid (And.intro hok hE);have HJ:=Lib.hid hjE;have H24:=Lib.hid (hmv.keeps H23.out (by omega));have HB4:=Lib.hid (below_far HB3.out hmv.gb (fun k e=>by injection e with e;have:=HG.out;omega));have HR4:=Lib.hid hmv.blk;have hw34:=hmv.gb.size;clear hok hE hjE hmv HC H23 HB3
 go_upto_region 3 with fail
 have h25:=H24.out.old (.cells #[.int .i64 vk,.int .i64 vn,.int .i64 vd,.int .i64 vu,.slice voa vL vc] 31);have hr5:=HR4.out.old (.cells #[.int .i64 vk,.int .i64 vn,.int .i64 vd,.int .i64 vu,.slice voa vL vc] 31);have h55:=Blk.new w4 31 #[.int .i64 vk,.int .i64 vn,.int .i64 vd,.int .i64 vu,.slice voa vL vc];have HB5:=Lib.hid (HB4.out.alloc (by have:=HB4.out.size;omega) (.cells #[.int .i64 vk,.int .i64 vn,.int .i64 vd,.int .i64 vu,.slice voa vL vc] 31));have HE5:=Lib.hid (And.intro HE.out.1 (fun E hE=>(HE.out.2 E hE).below (below_box w4 (.cells #[.int .i64 vk,.int .i64 vn,.int .i64 vd,.int .i64 vu,.slice voa vL vc] 31))))
 have hg23:g2<w3.heap.size:=by have:=HW.out;have:=HR.out;omega
 have hwg:w.heap.size≤g2:=by have:=HG.out;omega
 have hg25:g2<w4.heap.size:=by have:=HW.out;have:=HR.out;omega
 have hR5:R<w4.heap.size:=by have:=HW.out;have:=HR.out;omega
 have hn1:¬ w4.heap.size=g2:=by omega
 have hn2:¬ g2=w4.heap.size:=by omega
 have hn3:¬ R=g2:=by omega
 have hn4:¬ g2=R:=by omega
 clear H24 HR4 HB4 HE;generalize w4.heap.size=g5 at *;generalize w4.alloc _=w5 at *;have ca0:w5.cell? ⟨g5,0,none⟩=some (.int .i64 vk):=(h55).cell 0;have fca0:=(h55).frozen 0;have ca1:w5.cell? ⟨g5,1,none⟩=some (.int .i64 vn):=(h55).cell 1;have fca1:=(h55).frozen 1;have ca2:w5.cell? ⟨g5,2,none⟩=some (.int .i64 vd):=(h55).cell 2;have fca2:=(h55).frozen 2;have ca3:w5.cell? ⟨g5,3,none⟩=some (.int .i64 vu):=(h55).cell 3;have fca3:=(h55).frozen 3;have ca4:w5.cell? ⟨g5,4,none⟩=some (.slice voa vL vc):=(h55).cell 4;have fca4:=(h55).frozen 4;have lca:=(h55).lt;have cb0:w5.cell? ⟨g2,0,none⟩=some (.int .i64 0):=(h25).cell 0;have fcb0:=(h25).frozen 0;have cb1:w5.cell? ⟨g2,1,none⟩=some (.int .i64 0):=(h25).cell 1;have fcb1:=(h25).frozen 1;have cb2:w5.cell? ⟨g2,2,none⟩=some (.int .i64 0):=(h25).cell 2;have fcb2:=(h25).frozen 2;have cb3:w5.cell? ⟨g2,3,none⟩=some (.int .i64 0):=(h25).cell 3
 have fcb3:=(h25).frozen 3;have cb4:w5.cell? ⟨g2,4,none⟩=some (.slice none 0 0):=(h25).cell 4;have fcb4:=(h25).frozen 4;have lcb:=(h25).lt;have cr0:w5.cell? ⟨R,0,none⟩=some (.slice oa2 N cap2):=(hr5).cell 0;have fcr0:=(hr5).frozen 0;have cr1:w5.cell? ⟨R,1,none⟩=some (.int .i64 (j:Int)):=(hr5).cell 1;have fcr1:=(hr5).frozen 1;have lcr:=(hr5).lt;have H25:=Lib.hid h25;clear h25 hr5 h55
 cases Y with
 | none =>
   obtain rfl:ok=false:=HE5.out.1;refine wp_region_held_drew (S:=(fun w'=>w'.cell? ⟨g5,0,none⟩=some (.int .i64 vk)∧w'.cell? ⟨g5,1,none⟩=some (.int .i64 vn)∧w'.cell? ⟨g5,2,none⟩=some (.int .i64 vd)∧w'.cell? ⟨g5,3,none⟩=some (.int .i64 vu)∧w'.cell? ⟨g5,4,none⟩=some (.slice voa vL vc))) (by kernel_rfl) (by (try dsimp only);go_keep) (fun hHeld=>?_);refine wpAnyH_take (i:=1) (v:=?hvv1_1) rfl (by kernel_rfl) (by kernel_rfl) (by kernel_rfl) (fun _ _ _ h=>h) (Or.inl ⟨by rfl,?hhy1_1⟩) (by assumption) ?_
   case hhy1_1=>(intro w hSw;(try dsimp only at hSw);go_simp;try with_reducible rfl)
   change wpAnyH _ _ _ _ _ _ _ (Act.put _ (some 17) _) _
   try simp only[Act.put,List.setIfInBounds_toArray,List.set_cons_zero,List.set_cons_succ]
   refine wpAnyH_take (i:=2) (v:=?hvv2_2) rfl (by kernel_rfl) (by kernel_rfl) (by kernel_rfl) (fun _ _ _ h=>h) (Or.inl ⟨by rfl,?hhy2_2⟩) (by assumption) ?_
   case hhy2_2=>(intro w hSw;(try dsimp only at hSw);go_simp;try with_reducible rfl)
   change wpAnyH _ _ _ _ _ _ _ (Act.put _ (some 18) _) _
   try simp only[Act.put,List.setIfInBounds_toArray,List.set_cons_zero,List.set_cons_succ]
   refine wpAnyH_take (i:=3) (v:=undef) rfl (by kernel_rfl) (by kernel_rfl) (by kernel_rfl) (fun _ _ _ h=>h) (Or.inr ⟨by rfl,rfl⟩) (by assumption) ?_;change wpAnyH _ _ _ _ _ _ _ (Act.put _ (some 19) _) _
   try simp only[Act.put,List.setIfInBounds_toArray,List.set_cons_zero,List.set_cons_succ]
   refine wpAnyH_take (i:=4) (v:=undef) rfl (by kernel_rfl) (by kernel_rfl) (by kernel_rfl) (fun _ _ _ h=>h) (Or.inr ⟨by rfl,rfl⟩) (by assumption) ?_;change wpAnyH _ _ _ _ _ _ _ (Act.put _ (some 20) _) _
   try simp only[Act.put,List.setIfInBounds_toArray,List.set_cons_zero,List.set_cons_succ]
   refine wpAnyH_take (i:=5) (v:=undef) rfl (by kernel_rfl) (by kernel_rfl) (by kernel_rfl) (fun _ _ _ h=>h) (Or.inr ⟨by rfl,rfl⟩) (by assumption) ?_;change wpAnyH _ _ _ _ _ _ _ (Act.put _ (some 21) _) _
   try simp only[Act.put,List.setIfInBounds_toArray,List.set_cons_zero,List.set_cons_succ]
   refine wpAnyH_take (i:=6) (v:=undef) rfl (by kernel_rfl) (by kernel_rfl) (by kernel_rfl) (fun _ _ _ h=>h) (Or.inr ⟨by rfl,rfl⟩) (by assumption) ?_;change wpAnyH _ _ _ _ _ _ _ (Act.put _ (some 22) _) _
   try simp only[Act.put,List.setIfInBounds_toArray,List.set_cons_zero,List.set_cons_succ]
   refine wpAnyH_take (i:=7) (v:=undef) rfl (by kernel_rfl) (by kernel_rfl) (by kernel_rfl) (fun _ _ _ h=>h) (Or.inr ⟨by rfl,rfl⟩) (by assumption) ?_;change wpAnyH _ _ _ _ _ _ _ (Act.put _ (some 23) _) _
   try simp only[Act.put,List.setIfInBounds_toArray,List.set_cons_zero,List.set_cons_succ]
   refine wpAnyH_take (i:=8) (v:=undef) rfl (by kernel_rfl) (by kernel_rfl) (by kernel_rfl) (fun _ _ _ h=>h) (Or.inr ⟨by rfl,rfl⟩) (by assumption) ?_;change wpAnyH _ _ _ _ _ _ _ (Act.put _ (some 24) _) _
   try simp only[Act.put,List.setIfInBounds_toArray,List.set_cons_zero,List.set_cons_succ]
   refine wpAnyH_take (i:=9) (v:=undef) rfl (by kernel_rfl) (by kernel_rfl) (by kernel_rfl) (fun _ _ _ h=>h) (Or.inr ⟨by rfl,rfl⟩) (by assumption) ?_;change wpAnyH _ _ _ _ _ _ _ (Act.put _ (some 25) _) _
   try simp only[Act.put,List.setIfInBounds_toArray,List.set_cons_zero,List.set_cons_succ]
   refine wpAnyH_take (i:=10) (v:=undef) rfl (by kernel_rfl) (by kernel_rfl) (by kernel_rfl) (fun _ _ _ h=>h) (Or.inr ⟨by rfl,rfl⟩) (by assumption) ?_;change wpAnyH _ _ _ _ _ _ _ (Act.put _ (some 26) _) _
   try simp only[Act.put,List.setIfInBounds_toArray,List.set_cons_zero,List.set_cons_succ]
   refine wpAnyH_take (i:=11) (v:=undef) rfl (by kernel_rfl) (by kernel_rfl) (by kernel_rfl) (fun _ _ _ h=>h) (Or.inr ⟨by rfl,rfl⟩) (by assumption) ?_;change wpAnyH _ _ _ _ _ _ _ (Act.put _ (some 27) _) _
   try simp only[Act.put,List.setIfInBounds_toArray,List.set_cons_zero,List.set_cons_succ]
   refine wpAnyH_take (i:=12) (v:=undef) rfl (by kernel_rfl) (by kernel_rfl) (by kernel_rfl) (fun _ _ _ h=>h) (Or.inr ⟨by rfl,rfl⟩) (by assumption) ?_;change wpAnyH _ _ _ _ _ _ _ (Act.put _ (some 28) _) _
   try simp only[Act.put,List.setIfInBounds_toArray,List.set_cons_zero,List.set_cons_succ]
   refine wpAnyH_take (i:=13) (v:=?hvv13_3) rfl (by kernel_rfl) (by kernel_rfl) (by kernel_rfl) (fun _ _ _ h=>h) (Or.inl ⟨by rfl,?hhy13_3⟩) (by assumption) ?_
   case hhy13_3=>(intro w hSw;(try dsimp only at hSw);go_simp;try with_reducible rfl)
   change wpAnyH _ _ _ _ _ _ _ (Act.put _ (some 29) _) _
   try simp only[Act.put,List.setIfInBounds_toArray,List.set_cons_zero,List.set_cons_succ]
   refine wpAnyH_take (i:=0) (v:=?hvv0_4) rfl (by kernel_rfl) (by kernel_rfl) (by kernel_rfl) (fun _ _ _ h=>h) (Or.inl ⟨by rfl,?hhy0_4⟩) (by assumption) ?_
   case hhy0_4=>(intro w hSw;(try dsimp only at hSw);go_simp;try with_reducible rfl)
   change wpAnyH _ _ _ _ _ _ _ (Act.put _ (some 16) _) _
   try simp only[Act.put,List.setIfInBounds_toArray,List.set_cons_zero,List.set_cons_succ]
   refine wpAnyH_ready (rs:=[14]) (by kernel_rfl) (by simp) ?_;refine AllReadyH.cons rfl (fun K hK=>?_) AllReadyH.nil
   go_simp
   refine hK.out _ _ (by (try dsimp only);go_keep) (fun hHeld=>?_);clear hK K;refine wpAnyH_ready (rs:=[15]) (by kernel_rfl) (by simp) ?_;refine AllReadyH.cons rfl (fun K hK=>?_) AllReadyH.nil
   go_simp
   refine hK.out _ _ (by (try dsimp only);go_keep) (fun hHeld=>?_);clear hK K;refine wpAnyH_done (by kernel_rfl) ?_ _;go_wp2_with fail;have hputs:=blk_drew (H25.out.put5 (.int .i64 vk) (.int .i64 vn) (.int .i64 vd) (.int .i64 vu) (.slice voa vL vc));refine bodyPost_ret (v:=.tuple #[.agg #[.int .i64 vk,.int .i64 vn,.int .i64 vd,.int .i64 vu,.slice voa vL vc],.bool false]) ?_ rfl ?_
   · refine ret_ex2 Tryz.results244 ?_ ?_ hputs rfl
     all_goals rfl
   · exact⟨⟨_,_,rfl,by rw[HY.out];rfl,⟨_,_,_,_,_,_,_,rfl⟩,fun E hE=>by rw[HY.out]at hE;cases hE⟩,Below.drew (below_put5 HB5.out hwg (.int .i64 vk) (.int .i64 vn) (.int .i64 vd) (.int .i64 vu) (.slice voa vL vc))⟩
 | some y =>
   obtain⟨E,j'⟩:=y;obtain rfl:ok=true:=HE5.out.1
   go_region_held3 (fun w'=>w'.cell? ⟨g5,0,none⟩=some (.int .i64 vk)∧w'.cell? ⟨g5,1,none⟩=some (.int .i64 vn)∧w'.cell? ⟨g5,2,none⟩=some (.int .i64 vd)∧w'.cell? ⟨g5,3,none⟩=some (.int .i64 vu)∧w'.cell? ⟨g5,4,none⟩=some (.slice voa vL vc)∧w'.cell? ⟨R,0,none⟩=some (.slice oa2 N cap2)∧w'.cell? ⟨R,1,none⟩=some (.int .i64 (j:Int))) (go_keep) (fail)
   go_wp2_with fail;have hpu:=grownBy_puts [.int .i64 vk,.int .i64 vn,.int .i64 vd,.int .i64 vu,.slice voa vL vc] w5 g2 0;have hgp:w5.grownBy (puts w5 g2 0 [.int .i64 vk,.int .i64 vn,.int .i64 vd,.int .i64 vu,.slice voa vL vc]).drew (some g2):=grownBy_drew hpu
   have hee:=((HE5.out.2 E rfl).grown hgp (fun k e _=>by injection e with e;omega)).anti (A':=(· < w.heap.size)) fun b hb=>Or.inl (by omega)
   have hjj:=(HJ.out E j' rfl).1;subst hjj;simp only[puts,Nat.zero_add,Nat.reduceAdd]at hee
   have hok:((j:Int)==(N:Int))=Z.isSome:=by
    rw[HY.out];unfold allOf
    by_cases hj:j=N
    · simp[hj]
    · simp only[hj,if_false];rw[beq_eq_false_iff_ne.2 (by omega)];rfl
   have hZE:∀ E2,Z=some E2→E=E2:=fun E2 hE=>by
    rw[HY.out]at hE;unfold allOf at hE
    by_cases hj:j=N
    · simpa[hj] using hE
    · simp[hj]at hE
   have hputs:=blk_drew (H25.out.put5 (.int .i64 vk) (.int .i64 vn) (.int .i64 vd) (.int .i64 vu) (.slice voa vL vc));refine bodyPost_ret (v:=.tuple #[.agg #[.int .i64 vk,.int .i64 vn,.int .i64 vd,.int .i64 vu,.slice voa vL vc],.bool ((j:Int)==(N:Int))]) ?_ rfl ?_
   · refine ret_ex2 Tryz.results244 ?_ ?_ hputs rfl
     all_goals rfl
   · exact⟨⟨_,_,rfl,hok,⟨_,_,_,_,_,_,_,rfl⟩,fun E2 hE=>by rw[← hZE E2 hE];exact hee⟩,Below.drew (below_put5 HB5.out hwg (.int .i64 vk) (.int .i64 vn) (.int .i64 vd) (.int .i64 vu) (.slice voa vL vc))⟩
theorem num_ex (A:Nat→Prop) {r:Rt} {u:Int} (hr:Is64 r) (hu:I64 u) (w:World):isEx A (numE r u) (.agg #[.int .i64 1,.int .i64 (cleanR r).1,.int .i64 (cleanR r).2,.int .i64 u,.slice none 0 0]) w :=
 ⟨.mk 1 (cleanR r).1 (cleanR r).2 u none 0 0 0 [],1,rfl,rfl,ExIn.leaf (i64_small _ (by decide)) (is64_cleanR hr) hu⟩
theorem row_add {w7 w8 w9:World} {g6 B3 gg cap3 h2:Nat} {D:List Ex} {x2:Ex} {v:Value} {O:Obj} {k:Int} {xs:List Value}
  (hg8:w7.grownBy w8 (some g6)) (h67:g6<w7.heap.size) (b6:Blk w8 g6 31 #[.int .i64 k,.int .i64 0,.int .i64 0,.int .i64 0,v])
  (hv7:∀ b,v.ownBlock=some b→w7.heap.size≤b∧b<B3) (h73:w7.heap.size≤B3) (h38:B3≤w8.heap.size)
  (hS:∃ hh,Safe (fun b=>b<w7.heap.size∨v.ownBlock=some b) w8 fun w=>∀ x∈D,ExIn w hh x)
  (hx:Safe (fun b=>b<B3∨w8.heap.size≤b) w8 fun w=>ExIn w h2 x2)
  (ho:w9.ownsRow w7.heap.size 31 5 (.slice (some ⟨gg,0,none⟩) (D.length+1) cap3) (D.length+1) (D.flatMap xcells++xs)) (hxs:xcells x2=xs)
  (hg:(w8.alloc O).grownBy w9 v.ownBlock) (hat:v.ownBlock=some gg∨gg=(w8.alloc O).heap.size) :
  w7.grownBy (w9.setCell ⟨g6,4,none⟩ (.slice (some ⟨gg,0,none⟩) (D.length+1) cap3)) (some g6) ∧
  (w9.setCell ⟨g6,4,none⟩ (.slice (some ⟨gg,0,none⟩) (D.length+1) cap3)).ownsRow w7.heap.size 31 5 (.slice (some ⟨gg,0,none⟩) (D.length+1) cap3) (D++[x2]).length ((D++[x2]).flatMap xcells) ∧
  Blk (w9.setCell ⟨g6,4,none⟩ (.slice (some ⟨gg,0,none⟩) (D.length+1) cap3)) g6 31 #[.int .i64 k,.int .i64 0,.int .i64 0,.int .i64 0,.slice (some ⟨gg,0,none⟩) (D.length+1) cap3] ∧
  (∃ hh,Safe (fun b=>b<w7.heap.size∨(Value.slice (some ⟨gg,0,none⟩) (D.length+1) cap3).ownBlock=some b) (w9.setCell ⟨g6,4,none⟩ (.slice (some ⟨gg,0,none⟩) (D.length+1) cap3)) fun w=>∀ x∈D++[x2],ExIn w hh x):=by
 have hs8:(w8.alloc O).heap.size=w8.heap.size+1:=by simp
 have hG:w8.grownBy w9 v.ownBlock:=grownBy_trans (grownBy_of_below (below_box w8 O) _) hg;have hP:=grownBy_set w9 ⟨g6,4,none⟩ (.slice (some ⟨gg,0,none⟩) (D.length+1) cap3);have h78:=hg8.size
 have hgg7:w7.heap.size≤gg:=by
  rcases hat with h|h
  · exact(hv7 gg h).1
  · omega
 have b69:Blk w9 g6 _ _:=(hG.block g6 b6.lt (fun e=>by have:=hv7 g6 e.symm;omega)).trans b6;refine⟨grownBy_trans (grownBy_far hg8 hG (fun k e=>(hv7 k e).1)) hP,?_,?_,?_⟩
 · rw[List.length_append,List.flatMap_append,List.flatMap_singleton,hxs];exact ho.kept hP (.inr fun e=>by have e:gg=g6:=Option.some.inj e;omega)
 · have:=b69.put 4 (.slice (some ⟨gg,0,none⟩) (D.length+1) cap3);simpa using this
 · obtain⟨hh,hS⟩:=hS;refine⟨max hh h2,?_⟩
   have hA:∀ b,(b<w7.heap.size∨(Value.slice (some ⟨gg,0,none⟩) (D.length+1) cap3).ownBlock=some b)→(b<w7.heap.size∨v.ownBlock=some b)∨w8.heap.size≤b:=by
    intro b hb
    rcases hb with hb|hb
    · exact Or.inl (Or.inl hb)
    · have e:gg=b:=Option.some.inj hb;subst e
      rcases hat with h|h
      · exact Or.inl (Or.inr h)
      · exact Or.inr (by omega)
   have s1:=(((hS.wide (A':=fun b=>(b<w7.heap.size∨v.ownBlock=some b)∨w8.heap.size≤b) fun b h=>h).grown hG (fun k e _=>Or.inl (Or.inr e))).set (p:=⟨g6,4,none⟩) (Or.inl (Or.inl h67)) (.slice (some ⟨gg,0,none⟩) (D.length+1) cap3)).anti fun b hb _=>hA b hb
   have s2:=((hx.grown hG (fun k e _=>Or.inl (hv7 k e).2)).set (p:=⟨g6,4,none⟩) (Or.inl (show g6<B3 by omega)) (.slice (some ⟨gg,0,none⟩) (D.length+1) cap3)).anti (A':=fun b=>b<w7.heap.size∨(Value.slice (some ⟨gg,0,none⟩) (D.length+1) cap3).ownBlock=some b) fun b hb _=>by
    rcases hA b hb with (hb|hb) | hb
    · exact Or.inl (by omega)
    · exact Or.inl (hv7 b hb).2
    · exact Or.inr hb
   exact (s1.and s2).mono fun w ⟨a,c⟩ x hm=>by
    rcases List.mem_append.1 hm with hm|hm
    · exact exin_up _ _ (Nat.le_max_left _ _) (a x hm)
    · obtain rfl:=List.mem_singleton.1 hm;exact exin_up _ _ (Nat.le_max_right _ _) c
def pieceF (W:List Vt→Option Et) (k:Int) (done:List Et) (l:List (List Vt)):Option Et:=match mapO W l with
 | none=>none
 | some es=>if k=8∧(done++es).length≠3 then none else some (.mk k 0 0 0 (done++es))
theorem piece_none {W:List Vt→Option Et} {k:Int} {done:List Et} {x:List Vt} {r:List (List Vt)} (h:W x=none):pieceF W k done (x::r)=none:=by
 unfold pieceF mapO;rw[h]
theorem piece_some {W:List Vt→Option Et} {k:Int} {done:List Et} {x:List Vt} {e:Et} {r:List (List Vt)} (h:W x=some e):pieceF W k done (x::r)=pieceF W k (done++[e]) r:=by
 unfold pieceF;rw[mapO,h];simp only
 cases mapO W r with
 | none=>rfl
 | some es=>simp
set_option maxRecDepth 20000 in
set_option maxHeartbeats 2000000 in
theorem expr_step (h:Nat) (hW:WholeAt h):ExprAt (h+1):=by
 intro v w hv;obtain⟨t,oa,b,o,cap,kids⟩:=v;obtain⟨tk,tt,⟨tn,td⟩,ti,tid⟩:=t;have h64:=hv.1;have hks:=hv.kids;have hkl:=hks.small;have hcl:=hks.sl.le;have hcm:=hks.sl.max;unfold maxLen at hcm;have htl:tt.length≤9223372036854775807:=h64.2.2;have hi64:Is64 (tn,td):=h64.2.1;rw[Vl.c_mk,exF];obtain⟨XL,hXL⟩:∃ XL,kids.map Vl.c=XL:=⟨_,rfl⟩;obtain⟨N,hN⟩:∃ N,kids.length=N:=⟨_,rfl⟩;obtain⟨W,hWd⟩:∃ W,wholeP (opF wholeP h)=W:=⟨_,rfl⟩;rw[hXL,hWd]
 have hvv:vv (Vl.mk ⟨tk,tt,(tn,td),ti,tid⟩ oa b o cap kids)=.agg #[.int .i64 tk,.string ⟨tt.toArray⟩,.int .i64 tn,.int .i64 td,.bool ti,.bool tid,.slice oa N cap]:=by rw[← hN];rfl
 rw[hvv];rw[hN]at hkl hcl;obtain⟨Y,hY⟩:∃ Y,exprF W ⟨tk,tt,(tn,td),ti,tid⟩ XL=Y:=⟨_,rfl⟩;rw[hY];have HY:=Lib.hid hY;have HK:=Lib.hid (And.intro hN (And.intro hXL hWd));have HI:=Lib.hid hi64;have HT:=Lib.hid htl;have HKS:=Lib.hid hks;clear hY hN hXL hWd hvv hi64 htl hks hv h64
 go_enter Tryz.func226,Tryz.ntmps226
 go_upto_region 2 with fail
 have hb1:=below_box w (.cells #[.int .i64 tk,.string ⟨tt.toArray⟩,.int .i64 tn,.int .i64 td,.bool ti,.bool tid,.slice oa N cap] 104);have hb2:=(hb1.alloc (by simp) (.cells #[.int .i64 0,.int .i64 0,.int .i64 0,.int .i64 0,.slice none 0 0] 31)).alloc (by simp;omega) (.cells #[.int .i64 tk,.string ⟨tt.toArray⟩,.int .i64 tn,.int .i64 td,.bool ti,.bool tid] 102)
 have B1:Blk (((w.alloc (.cells #[.int .i64 tk,.string ⟨tt.toArray⟩,.int .i64 tn,.int .i64 td,.bool ti,.bool tid,.slice oa N cap] 104)).alloc (.cells #[.int .i64 0,.int .i64 0,.int .i64 0,.int .i64 0,.slice none 0 0] 31)).alloc (.cells #[.int .i64 tk,.string ⟨tt.toArray⟩,.int .i64 tn,.int .i64 td,.bool ti,.bool tid] 102)) w.heap.size 104 #[.int .i64 tk,.string ⟨tt.toArray⟩,.int .i64 tn,.int .i64 td,.bool ti,.bool tid,.slice oa N cap]:=((Blk.new w 104 #[.int .i64 tk,.string ⟨tt.toArray⟩,.int .i64 tn,.int .i64 td,.bool ti,.bool tid,.slice oa N cap]).old _).old _
 have B2:Blk (((w.alloc (.cells #[.int .i64 tk,.string ⟨tt.toArray⟩,.int .i64 tn,.int .i64 td,.bool ti,.bool tid,.slice oa N cap] 104)).alloc (.cells #[.int .i64 0,.int .i64 0,.int .i64 0,.int .i64 0,.slice none 0 0] 31)).alloc (.cells #[.int .i64 tk,.string ⟨tt.toArray⟩,.int .i64 tn,.int .i64 td,.bool ti,.bool tid] 102)) (w.heap.size+1) 31 #[.int .i64 0,.int .i64 0,.int .i64 0,.int .i64 0,.slice none 0 0]:=by
  have h:=(Blk.new (w.alloc (.cells #[.int .i64 tk,.string ⟨tt.toArray⟩,.int .i64 tn,.int .i64 td,.bool ti,.bool tid,.slice oa N cap] 104)) 31 #[.int .i64 0,.int .i64 0,.int .i64 0,.int .i64 0,.slice none 0 0]).old (.cells #[.int .i64 tk,.string ⟨tt.toArray⟩,.int .i64 tn,.int .i64 td,.bool ti,.bool tid] 102);simpa using h
 have B4:Blk (((w.alloc (.cells #[.int .i64 tk,.string ⟨tt.toArray⟩,.int .i64 tn,.int .i64 td,.bool ti,.bool tid,.slice oa N cap] 104)).alloc (.cells #[.int .i64 0,.int .i64 0,.int .i64 0,.int .i64 0,.slice none 0 0] 31)).alloc (.cells #[.int .i64 tk,.string ⟨tt.toArray⟩,.int .i64 tn,.int .i64 td,.bool ti,.bool tid] 102)) (w.heap.size+1+1) 102 #[.int .i64 tk,.string ⟨tt.toArray⟩,.int .i64 tn,.int .i64 td,.bool ti,.bool tid]:=by
  have h:=Blk.new ((w.alloc (.cells #[.int .i64 tk,.string ⟨tt.toArray⟩,.int .i64 tn,.int .i64 td,.bool ti,.bool tid,.slice oa N cap] 104)).alloc (.cells #[.int .i64 0,.int .i64 0,.int .i64 0,.int .i64 0,.slice none 0 0] 31)) 102 #[.int .i64 tk,.string ⟨tt.toArray⟩,.int .i64 tn,.int .i64 td,.bool ti,.bool tid];simpa using h
 have HKV:=Lib.hid (HKS.out.below hb2)
 have hws:(((w.alloc (.cells #[.int .i64 tk,.string ⟨tt.toArray⟩,.int .i64 tn,.int .i64 td,.bool ti,.bool tid,.slice oa N cap] 104)).alloc (.cells #[.int .i64 0,.int .i64 0,.int .i64 0,.int .i64 0,.slice none 0 0] 31)).alloc (.cells #[.int .i64 tk,.string ⟨tt.toArray⟩,.int .i64 tn,.int .i64 td,.bool ti,.bool tid] 102)).heap.size=w.heap.size+3:=by simp
 have HB:=Lib.hid hb2;have HWS:=Lib.hid hws;obtain⟨g1,hg1⟩:∃ g1,w.heap.size=g1:=⟨_,rfl⟩;obtain⟨g2,hg2⟩:∃ g2,w.heap.size+1=g2:=⟨_,rfl⟩;rw[hg2]at B2 B4;obtain⟨g4,hg4⟩:∃ g4,g2+1=g4:=⟨_,rfl⟩;have HG:=Lib.hid (And.intro hg1 (And.intro hg2 hg4));rw[hg4]at B4;rw[hg1]at B1;simp only[hg2];simp only[hg4];simp only[hg1];clear hg1 hg2 hg4 hb1 hb2 hws HKS;generalize World.alloc (World.alloc (World.alloc w _) _) _=w4 at *;have ca0:w4.cell? ⟨g1,0,none⟩=some (.int .i64 tk):=(B1).cell 0;have fca0:=(B1).frozen 0;have ca1:w4.cell? ⟨g1,1,none⟩=some (.string ⟨tt.toArray⟩):=(B1).cell 1;have fca1:=(B1).frozen 1;have ca2:w4.cell? ⟨g1,2,none⟩=some (.int .i64 tn):=(B1).cell 2;have fca2:=(B1).frozen 2;have ca3:w4.cell? ⟨g1,3,none⟩=some (.int .i64 td):=(B1).cell 3;have fca3:=(B1).frozen 3;have ca4:w4.cell? ⟨g1,4,none⟩=some (.bool ti):=(B1).cell 4;have fca4:=(B1).frozen 4
 have ca5:w4.cell? ⟨g1,5,none⟩=some (.bool tid):=(B1).cell 5;have fca5:=(B1).frozen 5;have ca6:w4.cell? ⟨g1,6,none⟩=some (.slice oa N cap):=(B1).cell 6;have fca6:=(B1).frozen 6;have lca:=(B1).lt;obtain⟨cb0,fcb0,cb1,fcb1,cb2,fcb2,cb3,fcb3,cb4,fcb4,lcb⟩:=Blk.five (B2);have cc0:w4.cell? ⟨g4,0,none⟩=some (.int .i64 tk):=(B4).cell 0;have fcc0:=(B4).frozen 0;have cc1:w4.cell? ⟨g4,1,none⟩=some (.string ⟨tt.toArray⟩):=(B4).cell 1;have fcc1:=(B4).frozen 1;have cc2:w4.cell? ⟨g4,2,none⟩=some (.int .i64 tn):=(B4).cell 2;have fcc2:=(B4).frozen 2;have cc3:w4.cell? ⟨g4,3,none⟩=some (.int .i64 td):=(B4).cell 3;have fcc3:=(B4).frozen 3;have cc4:w4.cell? ⟨g4,4,none⟩=some (.bool ti):=(B4).cell 4;have fcc4:=(B4).frozen 4;have cc5:w4.cell? ⟨g4,5,none⟩=some (.bool tid):=(B4).cell 5;have fcc5:=(B4).frozen 5;have lcc:=(B4).lt;have HB1:=Lib.hid B1;have HB2:=Lib.hid B2;have HB4:=Lib.hid B4
 have HFIN:=Lib.hid (show ∀ (v:Value) (ok:Bool) (w6 w7:World),ok=Y.isSome→isE5 v→(∀ E,Y=some E→isEx (· < w4.heap.size) E v w6)→Below w4.heap.size w4 w6→w6.grownBy w7 (some g2)→retE (· < w.heap.size) Y (.returned (.tuple #[v,.bool ok])) w7∧Below w.heap.size w w7 from
  fun v ok w6 w7 h1 h2 h3 h4 h5=>⟨⟨v,ok,rfl,h1,h2,fun E hE=>((h3 E hE).grown h5 (fun k e _=>by injection e with e;omega)).anti fun b hb=>Or.inl (by have:=HWS.out;omega)⟩,
   below_far (below_far HB.out (grownBy_of_below h4 none) (fun _ e=>by cases e)) h5 (fun k e=>by injection e with e;have:=HG.out;omega)⟩)
 clear B1 B2 B4
 by_cases hk10:tk=10
 · have hYk:Y=some (numE (tn,td) 0):=by
    rw[← HY.out,exprF,if_pos hk10]
   subst hk10;have hnum:=cnumber_any (tn,td) 0 w4 HI.out;go_wp2_with fail
   ((with_reducible refine hnum.mono ?_);rintro e w6 ⟨rfl,hbb⟩)
   have h26:=HB2.out.below hbb HB2.out.lt;have HBB:=Lib.hid hbb;obtain⟨cd0,fcd0,cd1,fcd1,cd2,fcd2,cd3,fcd3,cd4,fcd4,lcd⟩:=Blk.five (h26);have H26:=Lib.hid h26;clear h26 hnum hbb;go_wp2_with fail;have hputs:=(H26.out).put5 (.int .i64 1) (.int .i64 (cleanR (tn,td)).1) (.int .i64 (cleanR (tn,td)).2) (.int .i64 0) (.slice none 0 0);refine bodyPost_ret (v:=.tuple #[.agg #[.int .i64 1,.int .i64 (cleanR (tn,td)).1,.int .i64 (cleanR (tn,td)).2,.int .i64 0,.slice none 0 0],.bool true]) ?_ rfl ?_
   · refine ret_ex2 Tryz.results226 ?_ ?_ hputs rfl
     all_goals rfl
   · exact HFIN.out _ _ w6 _ (by rw[hYk];rfl) ⟨_,_,_,_,_,_,_,rfl⟩ (fun E hE=>by rw[hYk]at hE;injection hE with hE;subst hE;exact num_ex _ HI.out (i64_small _ (by decide)) w6) HBB.out (grownBy_puts [.int .i64 1,.int .i64 (cleanR (tn,td)).1,.int .i64 (cleanR (tn,td)).2,.int .i64 0,.slice none 0 0] w6 g2 0)
 by_cases hk12:tk=12
 · have hYk:Y=if unitF tt=0 then none else some (numE (tn,td) (unitF tt)):=by
    rw[← HY.out,exprF,if_neg hk10,if_pos hk12]
   subst hk12;have HU:=Lib.hid (fun w=>cunit_any tt w HT.out);have hU7:=unitF_le tt;generalize unitF tt=U at *;have HYK:=Lib.hid hYk
   have hnum:=fun w=>cnumber_any (tn,td) (U:Int) w HI.out
   have HNUM:=Lib.hid hnum;clear hYk hnum
   go_upto_region 7 with fail
   have KEEP:∀ w',Below w4.heap.size w4 w'→w'.cell? ⟨g4,1,none⟩=some (.string ⟨tt.toArray⟩)∧w'.cell? ⟨g4,2,none⟩=some (.int .i64 tn)∧w'.cell? ⟨g4,3,none⟩=some (.int .i64 td):=fun w' hb =>
    have h:=HB4.out.below hb HB4.out.lt
    ⟨h.cell 1,h.cell 2,h.cell 3⟩
   refine wp_region_held_drew (S:=(fun w'=>w'.cell? ⟨g4,1,none⟩=some (.string ⟨tt.toArray⟩)∧w'.cell? ⟨g4,2,none⟩=some (.int .i64 tn)∧w'.cell? ⟨g4,3,none⟩=some (.int .i64 td))) (by kernel_rfl) (by (try dsimp only);go_keep) (fun hHeld=>?_);refine wpAnyH_take (i:=0) (v:=?hvv0_1) rfl (by kernel_rfl) (by kernel_rfl) (by kernel_rfl) (fun _ _ _ h=>h) (Or.inl ⟨by rfl,?hhy0_1⟩) (by assumption) ?_
   case hhy0_1=>(intro w hSw;(try dsimp only at hSw);go_simp;try with_reducible rfl)
   change wpAnyH _ _ _ _ _ _ _ (Act.put _ (some 23) _) _
   try simp only[Act.put,List.setIfInBounds_toArray,List.set_cons_zero,List.set_cons_succ]
   refine wpAnyH_take (i:=1) (v:=?hvv1_2) rfl (by kernel_rfl) (by kernel_rfl) (by kernel_rfl) (fun _ _ _ h=>h) (Or.inl ⟨by rfl,?hhy1_2⟩) (by assumption) ?_
   case hhy1_2=>(intro w hSw;(try dsimp only at hSw);go_simp;try with_reducible rfl)
   change wpAnyH _ _ _ _ _ _ _ (Act.put _ (some 24) _) _
   try simp only[Act.put,List.setIfInBounds_toArray,List.set_cons_zero,List.set_cons_succ]
   refine wpAnyH_take (i:=2) (v:=?hvv2_3) rfl (by kernel_rfl) (by kernel_rfl) (by kernel_rfl) (fun _ _ _ h=>h) (Or.inl ⟨by rfl,?hhy2_3⟩) (by assumption) ?_
   case hhy2_3=>(intro w hSw;(try dsimp only at hSw);go_simp;try with_reducible rfl)
   change wpAnyH _ _ _ _ _ _ _ (Act.put _ (some 25) _) _
   try simp only[Act.put,List.setIfInBounds_toArray,List.set_cons_zero,List.set_cons_succ]
   refine wpAnyH_take (i:=3) (v:=?hvv3_4) rfl (by kernel_rfl) (by kernel_rfl) (by kernel_rfl) (fun _ _ _ h=>h) (Or.inl ⟨by rfl,?hhy3_4⟩) (by assumption) ?_
   case hhy3_4=>(intro w hSw;(try dsimp only at hSw);go_simp;try with_reducible rfl)
   change wpAnyH _ _ _ _ _ _ _ (Act.put _ (some 26) _) _
   try simp only[Act.put,List.setIfInBounds_toArray,List.set_cons_zero,List.set_cons_succ]
   refine wpAnyH_take (i:=6) (v:=?hvv6_5) rfl (by kernel_rfl) (by kernel_rfl) (by kernel_rfl) (fun _ _ _ h=>h) (Or.inl ⟨by rfl,?hhy6_5⟩) (by assumption) ?_
   case hhy6_5=>(intro w hSw;(try dsimp only at hSw);go_simp;try with_reducible rfl)
   change wpAnyH _ _ _ _ _ _ _ (Act.put _ (some 29) _) _
   try simp only[Act.put,List.setIfInBounds_toArray,List.set_cons_zero,List.set_cons_succ]
   refine wpAnyH_take (i:=7) (v:=?hvv7_6) rfl (by kernel_rfl) (by kernel_rfl) (by kernel_rfl) (fun _ _ _ h=>h) (Or.inl ⟨by rfl,?hhy7_6⟩) (by assumption) ?_
   case hhy7_6=>(intro w hSw;(try dsimp only at hSw);go_simp;try with_reducible rfl)
   change wpAnyH _ _ _ _ _ _ _ (Act.put _ (some 30) _) _
   try simp only[Act.put,List.setIfInBounds_toArray,List.set_cons_zero,List.set_cons_succ]
   refine wpAnyH_ready (rs:=[4]) (by kernel_rfl) (by simp) ?_;refine AllReadyH.cons rfl (fun K hK=>?_) AllReadyH.nil
   go_simp
   ((with_reducible refine(HU.out _).mono ?_);rintro e w' ⟨rfl,hbw⟩;obtain⟨m5,rfl⟩:=grow_mk hbw;clear hbw)
   go_wp2_with fail;refine hK.out _ _ (KEEP _ (by repeat (first|with_reducible exact Below.refl _ _ | with_reducible refine Below.drew ?_ | with_reducible refine below_grow ?_ _))) (fun hHeld=>?_);clear hK K;refine wpAnyH_ready (rs:=[5]) (by kernel_rfl) (by simp) ?_;refine AllReadyH.cons rfl (fun K hK=>?_) AllReadyH.nil
   go_simp
   ((with_reducible refine(HNUM.out _).mono ?_);rintro e w' ⟨rfl,hbw⟩;obtain⟨m6,rfl⟩:=grow_mk hbw;clear hbw)
   go_wp2_with fail;refine hK.out _ _ (KEEP _ (by repeat (first|with_reducible exact Below.refl _ _ | with_reducible refine Below.drew ?_ | with_reducible refine below_grow ?_ _))) (fun hHeld=>?_);clear hK K;refine wpAnyH_ready (rs:=[8]) (by kernel_rfl) (by simp) ?_;refine AllReadyH.cons rfl (fun K hK=>?_) AllReadyH.nil
   go_simp
   ((with_reducible refine(HU.out _).mono ?_);rintro e w' ⟨rfl,hbw⟩;obtain⟨m7,rfl⟩:=grow_mk hbw;clear hbw)
   go_wp2_with fail;refine hK.out _ _ (KEEP _ (by repeat (first|with_reducible exact Below.refl _ _ | with_reducible refine Below.drew ?_ | with_reducible refine below_grow ?_ _))) (fun hHeld=>?_);clear hK K;refine wpAnyH_take (i:=9) (v:=?hvv9_7) rfl (by kernel_rfl) (by kernel_rfl) (by kernel_rfl) (fun _ _ _ h=>h) (Or.inl ⟨by rfl,?hhy9_7⟩) (by assumption) ?_
   case hhy9_7=>(intro w hSw;(try dsimp only at hSw);go_simp;try with_reducible rfl)
   change wpAnyH _ _ _ _ _ _ _ (Act.put _ (some 32) _) _
   try simp only[Act.put,List.setIfInBounds_toArray,List.set_cons_zero,List.set_cons_succ]
   have HB7:=Lib.hid (show Below w4.heap.size w4 (grow w4.drew ((m5.trans m6).trans m7)) from below_grow (Below.drew (Below.refl _ _)) _);generalize grow w4.drew ((m5.trans m6).trans m7)=w7 at *
   have hn24:¬ g4=g2:=by have:=HG.out;omega
   have hn42:¬ g2=g4:=by omega
   have h27:=HB2.out.below HB7.out HB2.out.lt;obtain⟨ce0,fce0,ce1,fce1,ce2,fce2,ce3,fce3,ce4,fce4,lce⟩:=Blk.five (h27);have H27:=Lib.hid h27;clear h27;refine wpAnyH_ready (rs:=[10]) (by kernel_rfl) (by simp) ?_;refine AllReadyH.cons rfl (fun K hK=>?_) AllReadyH.nil
   go_simp
   refine hK.out _ _ (by (try dsimp only);go_keep) (fun hHeld=>?_);clear hK K;refine wpAnyH_take (i:=11) (v:=?hvv11_8) rfl (by kernel_rfl) (by kernel_rfl) (by kernel_rfl) (fun _ _ _ h=>h) (Or.inl ⟨by rfl,?hhy11_8⟩) (by assumption) ?_
   case hhy11_8=>(intro w hSw;(try dsimp only at hSw);go_simp;try with_reducible rfl)
   change wpAnyH _ _ _ _ _ _ _ (Act.put _ (some 3) _) _
   try simp only[Act.put,List.setIfInBounds_toArray,List.set_cons_zero,List.set_cons_succ]
   refine wpAnyH_done (by kernel_rfl) ?_ _
   have hok:(!((U:Int)==0))=Y.isSome:=by
    rw[HYK.out]
    by_cases hu:U=0
    · subst hu;rfl
    · rw[if_neg hu,beq_eq_false_iff_ne.2 (by omega)];rfl
   have hEE:∀ E,Y=some E→numE (tn,td) (U:Int)=E:=fun E hE=>by
    rw[HYK.out]at hE
    by_cases hu:U=0
    · rw[if_pos hu]at hE;cases hE
    · rw[if_neg hu]at hE;exact Option.some.inj hE
   go_wp2_with fail;have hputs:=(H27.out).put5 (.int .i64 1) (.int .i64 (cleanR (tn,td)).1) (.int .i64 (cleanR (tn,td)).2) (.int .i64 (U:Int)) (.slice none 0 0);refine bodyPost_ret (v:=.tuple #[.agg #[.int .i64 1,.int .i64 (cleanR (tn,td)).1,.int .i64 (cleanR (tn,td)).2,.int .i64 (U:Int),.slice none 0 0],.bool (!((U:Int)==0))]) ?_ rfl ?_
   · refine ret_ex2 Tryz.results226 ?_ ?_ hputs rfl
     all_goals rfl
   · exact HFIN.out _ _ w7 _ hok ⟨_,_,_,_,_,_,_,rfl⟩ (fun E hE=>by rw[← hEE E hE];exact num_ex _ HI.out (i64_small _ (by omega)) w7) HB7.out (grownBy_puts [.int .i64 1,.int .i64 (cleanR (tn,td)).1,.int .i64 (cleanR (tn,td)).2,.int .i64 (U:Int),.slice none 0 0] w7 g2 0)
 by_cases hk2:tk=2
 · have hYk:Y=if lowS tt=calcS then W XL else if kindS (lowS tt)=0 then none else match mapO W (splitV XL) with
    | none=>none
    | some es=>if kindS (lowS tt)=8∧es.length≠3 then none else some (.mk (kindS (lowS tt)) 0 0 0 es):=by
    rw[← HY.out,exprF,if_neg hk10,if_neg hk12,if_pos hk2];rfl
   subst hk2;have HSM:=Lib.hid (csmall_any tt w4 HT.out);generalize lowS tt=L at *;have HYK:=Lib.hid hYk;clear hYk
   go_upto_region 10 with fail
   go_wp2_with fail
   ((with_reducible refine HSM.out.mono ?_);rintro e w5 ⟨rfl,hb5⟩)
   have HB5:=Lib.hid hb5;have h15:=HB1.out.below hb5 HB1.out.lt;have h25:=HB2.out.below hb5 HB2.out.lt;have HKV5:=Lib.hid (HKV.out.below hb5);have cd0:w5.cell? ⟨g1,0,none⟩=some (.int .i64 2):=(h15).cell 0;have fcd0:=(h15).frozen 0;have cd1:w5.cell? ⟨g1,1,none⟩=some (.string ⟨tt.toArray⟩):=(h15).cell 1;have fcd1:=(h15).frozen 1;have cd2:w5.cell? ⟨g1,2,none⟩=some (.int .i64 tn):=(h15).cell 2;have fcd2:=(h15).frozen 2;have cd3:w5.cell? ⟨g1,3,none⟩=some (.int .i64 td):=(h15).cell 3;have fcd3:=(h15).frozen 3;have cd4:w5.cell? ⟨g1,4,none⟩=some (.bool ti):=(h15).cell 4;have fcd4:=(h15).frozen 4;have cd5:w5.cell? ⟨g1,5,none⟩=some (.bool tid):=(h15).cell 5;have fcd5:=(h15).frozen 5;have cd6:w5.cell? ⟨g1,6,none⟩=some (.slice oa N cap):=(h15).cell 6;have fcd6:=(h15).frozen 6;have lcd:=(h15).lt;obtain⟨ce0,fce0,ce1,fce1,ce2,fce2,ce3,fce3,ce4,fce4,lce⟩:=Blk.five (h25);have H15:=Lib.hid h15
   have H25:=Lib.hid h25;have hw45:=hb5.size;clear hb5 h15 h25 HSM ca0 ca1 ca2 ca3 ca4 ca5 ca6 fca0 fca1 fca2 fca3 fca4 fca5 fca6 lca cb0 cb1 cb2 cb3 cb4 fcb0 fcb1 fcb2 fcb3 fcb4 lcb cc0 cc1 cc2 cc3 cc4 cc5 fcc0 fcc1 fcc2 fcc3 fcc4 fcc5 lcc
   go_upto_block 1 with fail
   go_cut [5] from 35 to 51 (fun s wx=>wx=w5∧∃ k:Int,s=.int .i64 k∧Hid (k=6∨k=7∨k=8)∧Hid (kindS L=k)∧Hid (L≠calcS))
   case first =>
    by_cases hc:L=calcS
    · have q0:(L==[99,97,108,99])=true:=by rw[hc];rfl
      have hYk:W XL=Y:=by rw[HYK.out,if_pos hc]
      have hwc:=hW kids oa cap b o w5 HKV5.out;rw[HK.out.2.2,HK.out.2.1,HK.out.1,hYk]at hwc;have HC:=Lib.hid hwc;clear hwc hYk;go_wp2_with fail
      ((with_reducible refine HC.out.mono ?_);rintro e w6 ⟨⟨v,ok,rfl,hok,h5,hE⟩,hbb⟩)
      obtain⟨vk,vn,vd,vu,voa,vL,vc,rfl⟩:=h5;have h26:=H25.out.below hbb H25.out.lt;obtain⟨cf0,fcf0,cf1,fcf1,cf2,fcf2,cf3,fcf3,cf4,fcf4,lcf⟩:=Blk.five (h26);have HE:=Lib.hid (And.intro hok (And.intro hE hbb));have H26:=Lib.hid h26;clear h26 hok hE hbb;go_wp2_with fail;have hputs:=(H26.out).put5 (.int .i64 vk) (.int .i64 vn) (.int .i64 vd) (.int .i64 vu) (.slice voa vL vc);refine bodyPost_ret (v:=.tuple #[.agg #[.int .i64 vk,.int .i64 vn,.int .i64 vd,.int .i64 vu,.slice voa vL vc],.bool ok]) ?_ rfl ?_
      · refine ret_ex2 Tryz.results226 ?_ ?_ hputs rfl
        all_goals rfl
      · exact HFIN.out _ _ w6 _ HE.out.1 ⟨_,_,_,_,_,_,_,rfl⟩ (fun E hE=>(HE.out.2.1 E hE).anti fun b hb=>Or.inl (by omega)) (below_far HB5.out (grownBy_of_below HE.out.2.2 none) (fun _ e=>by cases e)) (grownBy_puts [.int .i64 vk,.int .i64 vn,.int .i64 vd,.int .i64 vu,.slice voa vL vc] w6 g2 0)
    · have q0:(L==[99,97,108,99])=false:=beq_eq_false_iff_ne.2 hc;have HNC:=Lib.hid hc
      by_cases hm6:L=minS
      · have q1:(L==[109,105,110])=true:=by rw[hm6];rfl
        go_wp2_with fail;go_meet;exact⟨rfl,6,rfl,Lib.hid (by omega),Lib.hid (by rw[hm6];decide),HNC⟩
      have q1:(L==[109,105,110])=false:=beq_eq_false_iff_ne.2 hm6
      by_cases hm7:L=maxS
      · have q2:(L==[109,97,120])=true:=by rw[hm7];rfl
        go_wp2_with fail;go_meet;exact⟨rfl,7,rfl,Lib.hid (by omega),Lib.hid (by rw[hm7];decide),HNC⟩
      have q2:(L==[109,97,120])=false:=beq_eq_false_iff_ne.2 hm7
      by_cases hm8:L=clampS
      · have q3:(L==[99,108,97,109,112])=true:=by rw[hm8];rfl
        go_wp2_with fail;go_meet;exact⟨rfl,8,rfl,Lib.hid (by omega),Lib.hid (by rw[hm8];decide),HNC⟩
      have q3:(L==[99,108,97,109,112])=false:=beq_eq_false_iff_ne.2 hm8
      have hYk:Y=none:=by rw[HYK.out,if_neg hc,if_pos (by unfold kindS;rw[if_neg hm6,if_neg hm7,if_neg hm8])]
      go_wp2_with fail;have hputs:=(H25.out).put5 (.int .i64 0) (.int .i64 0) (.int .i64 0) (.int .i64 0) (.slice none 0 0);refine bodyPost_ret (v:=.tuple #[.agg #[.int .i64 0,.int .i64 0,.int .i64 0,.int .i64 0,.slice none 0 0],.bool false]) ?_ rfl ?_
      · refine ret_ex2 Tryz.results226 ?_ ?_ hputs rfl
        all_goals rfl
      · exact HFIN.out _ _ w5 _ (by rw[hYk];rfl) ⟨_,_,_,_,_,_,_,rfl⟩ (fun E hE=>by rw[hYk]at hE;cases hE) HB5.out (grownBy_puts [.int .i64 0,.int .i64 0,.int .i64 0,.int .i64 0,.slice none 0 0] w5 g2 0)
   case rest =>
    obtain⟨rfl,k,rfl,hk,hkS,hnc⟩:=hcut;obtain⟨P,hP⟩:∃ P,splitV XL=P:=⟨_,rfl⟩
    have hY2:Y=pieceF W k [] P:=by
     rw[HYK.out,if_neg hnc.out,if_neg (by rw[hkS.out];have:=hk.out;omega),hkS.out,hP];rfl
    have HY2:=Lib.hid hY2;clear hY2
    go_upto_region 21 with fail
    have h26:=H25.out.old (.cells #[.int .i64 k,.int .i64 0,.int .i64 0,.int .i64 0,.slice none 0 0] 31);have h16:=H15.out.old (.cells #[.int .i64 k,.int .i64 0,.int .i64 0,.int .i64 0,.slice none 0 0] 31);have h66:=Blk.new wc 31 #[.int .i64 k,.int .i64 0,.int .i64 0,.int .i64 0,.slice none 0 0];have hb6:=below_far HB5.out (grownBy_of_below (below_box wc (.cells #[.int .i64 k,.int .i64 0,.int .i64 0,.int .i64 0,.slice none 0 0] 31)) none) (fun _ e=>by cases e);have hsp:=rsplit_any h kids oa cap b o _ (HKV5.out.below (below_box wc (.cells #[.int .i64 k,.int .i64 0,.int .i64 0,.int .i64 0,.slice none 0 0] 31)));rw[HK.out.2.1,HK.out.1,hP]at hsp;have HSP:=Lib.hid hsp;have HP:=Lib.hid hP;have H66:=Lib.hid h66;have H26:=Lib.hid h26;have HB6:=Lib.hid hb6
    have hw56:(wc.alloc (.cells #[.int .i64 k,.int .i64 0,.int .i64 0,.int .i64 0,.slice none 0 0] 31)).heap.size=wc.heap.size+1:=by simp
    have HW56:=Lib.hid hw56;clear hw56 hsp h66 h26 hb6 HKV5 hP;obtain⟨g6,hg6⟩:∃ g6,wc.heap.size=g6:=⟨_,rfl⟩;have HG6:=Lib.hid hg6;rw[hg6]at H66 hw45;simp only[hg6];clear hg6;generalize wc.alloc _=w6 at *;have cf0:w6.cell? ⟨g1,0,none⟩=some (.int .i64 2):=(h16).cell 0;have fcf0:=(h16).frozen 0;have cf1:w6.cell? ⟨g1,1,none⟩=some (.string ⟨tt.toArray⟩):=(h16).cell 1;have fcf1:=(h16).frozen 1;have cf2:w6.cell? ⟨g1,2,none⟩=some (.int .i64 tn):=(h16).cell 2;have fcf2:=(h16).frozen 2;have cf3:w6.cell? ⟨g1,3,none⟩=some (.int .i64 td):=(h16).cell 3;have fcf3:=(h16).frozen 3;have cf4:w6.cell? ⟨g1,4,none⟩=some (.bool ti):=(h16).cell 4;have fcf4:=(h16).frozen 4;have cf5:w6.cell? ⟨g1,5,none⟩=some (.bool tid):=(h16).cell 5;have fcf5:=(h16).frozen 5;have cf6:w6.cell? ⟨g1,6,none⟩=some (.slice oa N cap):=(h16).cell 6;have fcf6:=(h16).frozen 6;have lcf:=(h16).lt;clear h16;go_wp2_with fail
    ((with_reducible refine HSP.out.mono ?_);rintro e w7 ⟨⟨pv,rfl,poa,pcap,pb,D,rfl,hDP,hsl,hps⟩,hb67⟩)
    have hM1:P.length≤N+1:=by
     rw[← HP.out,← HK.out.1];have h:=splitG_len XL [];rw[← HK.out.2.1,List.length_map]at h;unfold splitV;rw[← HK.out.2.1];omega
    obtain⟨M,hM⟩:∃ M,D.length=M:=⟨_,rfl⟩
    have hMN:M≤N+1:=by omega
    have HSL:=Lib.hid hsl;have HPS:=Lib.hid hps;have HD:=Lib.hid (And.intro hM (hDP.symm.trans hM));have hcl7:=hsl.here.le;have hcm7:=hsl.here.max;unfold maxLen at hcm7;rw[hM]at hcl7;simp only[hM];have h67:=hb67.size;have H67:=Lib.hid (H66.out.below hb67 H66.out.lt);have H27:=Lib.hid (H26.out.below hb67 H26.out.lt);have HB7:=Lib.hid (below_far HB6.out (grownBy_of_below hb67 none) (fun _ e=>by cases e));have hg67:g6<w6.heap.size:=H66.out.lt;have hg24:g2<w4.heap.size:=HB2.out.lt;clear hM hsl hps hDP hM1 hb67 HSP H66 H26 HB6 H15 H25;go_wp2_with fail
    go_loopg [58] M (fun q s58 wr=>∃ (i:Nat) (E:List Ex) (v:Value),s58=.int .i64 (i:Int)∧i≤M∧Hid (w7.grownBy wr (some g6))∧Hid (wr.ownsRow w7.heap.size 31 5 v E.length (E.flatMap xcells))∧Hid (Blk wr g6 31 #[.int .i64 k,.int .i64 0,.int .i64 0,.int .i64 0,v]) ∧
     Hid (∃ hh,Safe (fun b=>b<w7.heap.size∨v.ownBlock=some b) wr fun w=>∀ x∈E,ExIn w hh x)∧Hid (E.length=i)∧Hid (Y=pieceF W k (E.map Ex.c) (P.drop i))∧M-i≤q)
    case atStart=>exact⟨0,[],.slice none 0 0,rfl,Nat.zero_le _,Lib.hid (grownBy_refl _ _),Lib.hid (World.ownsRow_nil _ _ _ _),H67,Lib.hid ⟨0,fun _ _ _ _ hx=>by cases hx⟩,Lib.hid rfl,HY2,by omega⟩
    case round =>
     obtain⟨i,E,v,rfl,hiM,hg,hO,h6,hS,hE,hY,hq⟩:=hrel;have h7r:=hg.out.size;have hr2:=Lib.hid (show Blk wr g2 31 #[.int .i64 0,.int .i64 0,.int .i64 0,.int .i64 0,.slice none 0 0] from (hg.out.block g2 H27.out.lt (fun e=>by have e:=Option.some.inj e;omega)).trans H27.out)
     by_cases hi:i<M
     · have gi:decide ((i:Int)<(M:Int))=true:=by simp;omega
       have ij0:(0:Int)≤(i:Int):=Int.natCast_nonneg _
       have ijM:(i:Int)<(M:Int):=by omega
       have hil:i<D.length:=by rw[HD.out.1];exact hi
       have hip:i<P.length:=by rw[HD.out.2];exact hi
       obtain⟨s,hs⟩:∃ s,D[i]?=some s:=⟨_,List.getElem?_eq_getElem hil⟩;obtain⟨X,hX⟩:∃ X,P[i]?=some X:=⟨_,List.getElem?_eq_getElem hip⟩
       have hdrop:P.drop i=X::P.drop (i+1):=by
        rw[List.getElem?_eq_getElem hip]at hX
        injection hX with hX
        rw[← hX];exact List.drop_eq_getElem_cons hip
       have hv:=(HPS.out i s X hs hX).grown hg.out (fun k e _=>by have e:=Option.some.inj e;show k<w6.heap.size;omega);obtain⟨oa',cap',b',o',l',rfl,hc',hs'⟩:=hv;have hslr:=(HSL.out.grown hg.out (fun k e _=>by have e:=Option.some.inj e;show k<w6.heap.size;omega)).here;have hcell:=hslr.cell i _ hs;obtain⟨rfl,hpb⟩:=hslr.lies (by omega);rw[Nat.zero_add]at hcell;have hwc:=hW l' oa' cap' b' o' wr hs'.here;rw[HK.out.2.2,hc']at hwc;obtain⟨N',hN'⟩:∃ N',l'.length=N':=⟨_,rfl⟩;rw[hN']at hwc hcell;obtain⟨r,hr⟩:∃ r,W X=r:=⟨_,rfl⟩;rw[hr]at hwc;have HWC:=Lib.hid hwc;have HR:=Lib.hid hr;have HDR:=Lib.hid hdrop;clear hwc hr hdrop hil hip hs hX hc' hs' hslr hN';go_wp2_with fail
       ((with_reducible refine HWC.out.mono ?_);rintro e w8 ⟨⟨ev,ok,rfl,hok,h5,hE8⟩,hb8⟩)
       obtain⟨vk,vn,vd,vu,voa,vL,vc,rfl⟩:=h5;have HE8:=Lib.hid (And.intro hok hE8);have hr8:=hb8.size;have HG8:=Lib.hid (grownBy_trans hg.out (grownBy_of_below hb8 _));have HO8:=Lib.hid (owns_belowW hO.out hb8);have H68:=Lib.hid (h6.out.below hb8 h6.out.lt);have H28:=Lib.hid (hr2.out.below hb8 hr2.out.lt)
       have HS8:=Lib.hid (show ∃ hh,Safe (fun b=>b<w7.heap.size∨v.ownBlock=some b) w8 fun w=>∀ x∈E,ExIn w hh x from by
        obtain⟨hh,hs⟩:=hS.out
        exact⟨hh,hs.below hb8⟩)
       have HV7:=Lib.hid (show ∀ b,v.ownBlock=some b→w7.heap.size≤b∧b<wr.heap.size from fun b e=>hO.out.lt b e);clear hok hE8 hb8 hg hO h6 hr2 hS HWC hcell
       go_upto_region 25 with fail
       have hg9:=Lib.hid (grownBy_trans HG8.out (grownBy_of_below (below_box w8 (.cells #[.int .i64 vk,.int .i64 vn,.int .i64 vd,.int .i64 vu,.slice voa vL vc] 31)) _));have ho9:=Lib.hid (HO8.out.alloc (.cells #[.int .i64 vk,.int .i64 vn,.int .i64 vd,.int .i64 vu,.slice voa vL vc] 31));have h69:=Lib.hid (H68.out.old (.cells #[.int .i64 vk,.int .i64 vn,.int .i64 vd,.int .i64 vu,.slice voa vL vc] 31));have h29:=Lib.hid (H28.out.old (.cells #[.int .i64 vk,.int .i64 vn,.int .i64 vd,.int .i64 vu,.slice voa vL vc] 31));have h99:=Blk.new w8 31 #[.int .i64 vk,.int .i64 vn,.int .i64 vd,.int .i64 vu,.slice voa vL vc]
       have hs9:=Lib.hid (show ∃ hh,Safe (fun b=>b<w7.heap.size∨v.ownBlock=some b) (w8.alloc (.cells #[.int .i64 vk,.int .i64 vn,.int .i64 vd,.int .i64 vu,.slice voa vL vc] 31)) fun w=>∀ x∈E,ExIn w hh x from by
        obtain⟨hh,hs⟩:=HS8.out
        exact⟨hh,hs.alloc _⟩)
       have he9:=Lib.hid (And.intro HE8.out.1 (fun E2 hE2=>(HE8.out.2 E2 hE2).below (below_box w8 (.cells #[.int .i64 vk,.int .i64 vn,.int .i64 vd,.int .i64 vu,.slice voa vL vc] 31))))
       have hw89:w8.heap.size≤(w8.alloc (.cells #[.int .i64 vk,.int .i64 vn,.int .i64 vd,.int .i64 vu,.slice voa vL vc] 31)).heap.size:=by simp
       clear HG8 HO8 H68 H28 HS8 HE8;generalize w8.heap.size=g9 at *;generalize w8.alloc _=w9 at *;obtain⟨cg0,fcg0,cg1,fcg1,cg2,fcg2,cg3,fcg3,cg4,fcg4,lcg⟩:=Blk.five (h99);obtain⟨ch0,fch0,ch1,fch1,ch2,fch2,ch3,fch3,ch4,fch4,lch⟩:=Blk.five (h69.out);obtain⟨ci0,fci0,ci1,fci1,ci2,fci2,ci3,fci3,ci4,fci4,lci⟩:=Blk.five (h29.out);clear h99
       cases r with
       | none =>
         obtain rfl:ok=false:=he9.out.1
         have hYk:Y=none:=by rw[hY.out,HDR.out,piece_none HR.out]
         go_wp2_with fail;have hputs:=(h29.out).put5 (.int .i64 0) (.int .i64 0) (.int .i64 0) (.int .i64 0) (.slice none 0 0);refine bodyPost_ret (v:=.tuple #[.agg #[.int .i64 0,.int .i64 0,.int .i64 0,.int .i64 0,.slice none 0 0],.bool false]) ?_ rfl ?_
         · refine ret_ex2 Tryz.results226 ?_ ?_ hputs rfl
           all_goals rfl
         · exact HFIN.out _ _ w9 _ (by rw[hYk];rfl) ⟨_,_,_,_,_,_,_,rfl⟩ (fun E hE=>by rw[hYk]at hE;cases hE) (below_far HB7.out hg9.out (fun k e=>by have e:=Option.some.inj e;omega)) (grownBy_puts [.int .i64 0,.int .i64 0,.int .i64 0,.int .i64 0,.slice none 0 0] w9 g2 0)
       | some E2 =>
         obtain rfl:ok=true:=he9.out.1;obtain⟨x2,hx2,hxv,hxc,hxs⟩:=he9.out.2 E2 rfl;have HX2:=Lib.hid (And.intro hxv (And.intro hxc hxs));clear hxv hxc hxs he9
         go_upto_region 27 with fail
         have hbs:=Lib.hid (show w7.heap.size≤w9.heap.size from hg9.out.size);have hEi:E.length≤i:=Nat.le_of_eq hE.out;go_wp2_with (at_builtin;refine wpList_add elExpr rfl _ _ rfl rfl (ho9.out.alloc _) (by have:=hbs.out;simp;omega) (Blk.new w9 _ _) 1 rfl rfl (by simp[Value.oneCell']) (by omega) (by omega) ?_;intro gg cap3 wA hoA hgA hatA hvbA;have HA:=Lib.hid (And.intro hoA (And.intro hgA (And.intro hatA hvbA)));have ch4':=(hgA.cell_far (a:=⟨g6,4,none⟩) (by simp;omega) (fun e=>by have:=(HV7.out g6 e.symm).1;omega)).trans ((Below.cell (B:=w9.heap.size) (below_box w9 _) lch).trans ch4);have fch4':=(hgA.frozen_far (a:=⟨g6,4,none⟩) (by simp;omega) (fun e=>by have:=(HV7.out g6 e.symm).1;omega)).trans ((Below.frozen (B:=w9.heap.size) (below_box w9 _) lch).trans fch4);clear hoA hgA hatA hvbA)
         go_roundg (M-(i+1))
         case measure=>omega
         case rel =>
          obtain⟨hoA,hgA,hatA,_⟩:=HA.out
          have hxcl:xcells x2=[.int .i64 vk,.int .i64 vn,.int .i64 vd,.int .i64 vu,.slice voa vL vc]:=by
           have e:=HX2.out.1;unfold xv at e
           injection e with e
           have:=congrArg Array.toList e;simpa using this.symm
          obtain⟨a1,a2,a3,a4⟩:=row_add (B3:=wr.heap.size) hg9.out (by omega) h69.out HV7.out h7r (by omega) hs9.out (HX2.out.2.2.wide (A':=fun b=>b<wr.heap.size∨w9.heap.size≤b) fun b hb=>hb) hoA hxcl (show World.grownBy _ _ v.ownBlock from hgA) (show v.ownBlock=some gg∨_ from hatA);refine⟨i+1,E++[x2],_,by go_num,hi,Lib.hid a1,Lib.hid a2,Lib.hid a3,Lib.hid a4,Lib.hid (by rw[List.length_append,hE.out];rfl),Lib.hid ?_,Nat.le_refl _⟩;rw[hY.out,HDR.out,piece_some HR.out,List.map_append,List.map_cons,List.map_nil,HX2.out.2.1]
     · have gi:decide ((i:Int)<(M:Int))=false:=by simp;omega
       obtain rfl:i=M:=by omega
       have hYe:Y=if k=8∧(E.map Ex.c).length≠3 then none else some (.mk k 0 0 0 (E.map Ex.c)):=by
        rw[hY.out,List.drop_eq_nil_of_le (by rw[HD.out.2];exact Nat.le_refl _)];unfold pieceF mapO;simp only[List.append_nil]
       have HYE:=Lib.hid hYe;obtain⟨voa,vcap,gv,rfl,hsl,hpos⟩:=sl_of_own hO.out
       have hex:isEx (· < w4.heap.size) (.mk k 0 0 0 (E.map Ex.c)) (.agg #[.int .i64 k,.int .i64 0,.int .i64 0,.int .i64 0,.slice voa E.length vcap]) wr:=by
        obtain⟨hh,hs⟩:=hS.out;refine⟨.mk k 0 0 0 voa gv 0 vcap E,hh+1,rfl,Ex.c_mk _ _ _ _ _ _ _ _ _,ExIn.made (i64_small _ (by have:=hk.out;omega)) (by unfold Is64;decide) (i64_small _ (by decide)) (by have:=hE.out;omega) hsl (fun hp hb=>?_) (hs.anti fun b hb _=>Or.inl ?_)⟩
        · have:=hpos hp;omega
        · have hb:b<w4.heap.size:=hb;omega
       have HXE:=Lib.hid hex;have hEl:(E.map Ex.c).length=E.length:=List.length_map _;have HEL:=Lib.hid hEl;have HELM:=Lib.hid hE.out;obtain⟨EL,hEL⟩:∃ EL,E.length=EL:=⟨_,rfl⟩;rw[hEL]at h6 HXE HEL HELM;clear hYe hex hsl hpos hEl hEL hO hS hY;obtain⟨ch0,fch0,ch1,fch1,ch2,fch2,ch3,fch3,ch4,fch4,lch⟩:=Blk.five (h6.out);obtain⟨ci0,fci0,ci1,fci1,ci2,fci2,ci3,fci3,ci4,fci4,lci⟩:=Blk.five (hr2.out)
       have hn26:¬ g6=g2:=by omega
       have hn62:¬ g2=g6:=by omega
       clear h6
       go_upto_region 29 with fail
       have hk3:=hk.out
       rcases hk3 with rfl|rfl|rfl
       · refine wp_region_held_drew (S:=(fun w'=>w'.cell? ⟨g6,0,none⟩=some (.int .i64 6)∧w'.cell? ⟨g6,1,none⟩=some (.int .i64 0)∧w'.cell? ⟨g6,2,none⟩=some (.int .i64 0)∧w'.cell? ⟨g6,3,none⟩=some (.int .i64 0)∧w'.cell? ⟨g6,4,none⟩=some (.slice voa EL vcap))) (by kernel_rfl) (by (try dsimp only);go_keep) (fun hHeld=>?_);refine wpAnyH_take (i:=0) (v:=?hvv0_9) rfl (by kernel_rfl) (by kernel_rfl) (by kernel_rfl) (fun _ _ _ h=>h) (Or.inl ⟨by rfl,?hhy0_9⟩) (by assumption) ?_
         case hhy0_9=>(intro w hSw;(try dsimp only at hSw);go_simp;try with_reducible rfl)
         change wpAnyH _ _ _ _ _ _ _ (Act.put _ (some 77) _) _
         try simp only[Act.put,List.setIfInBounds_toArray,List.set_cons_zero,List.set_cons_succ]
         refine wpAnyH_take (i:=1) (v:=?hvv1_10) rfl (by kernel_rfl) (by kernel_rfl) (by kernel_rfl) (fun _ _ _ h=>h) (Or.inl ⟨by rfl,?hhy1_10⟩) (by assumption) ?_
         case hhy1_10=>(intro w hSw;(try dsimp only at hSw);go_simp;try with_reducible rfl)
         change wpAnyH _ _ _ _ _ _ _ (Act.put _ (some 78) _) _
         try simp only[Act.put,List.setIfInBounds_toArray,List.set_cons_zero,List.set_cons_succ]
         refine wpAnyH_take (i:=2) (v:=?hvv2_11) rfl (by kernel_rfl) (by kernel_rfl) (by kernel_rfl) (fun _ _ _ h=>h) (Or.inl ⟨by rfl,?hhy2_11⟩) (by assumption) ?_
         case hhy2_11=>(intro w hSw;(try dsimp only at hSw);go_simp;try with_reducible rfl)
         change wpAnyH _ _ _ _ _ _ _ (Act.put _ (some 79) _) _
         try simp only[Act.put,List.setIfInBounds_toArray,List.set_cons_zero,List.set_cons_succ]
         refine wpAnyH_take (i:=3) (v:=?hvv3_12) rfl (by kernel_rfl) (by kernel_rfl) (by kernel_rfl) (fun _ _ _ h=>h) (Or.inl ⟨by rfl,?hhy3_12⟩) (by assumption) ?_
         case hhy3_12=>(intro w hSw;(try dsimp only at hSw);go_simp;try with_reducible rfl)
         change wpAnyH _ _ _ _ _ _ _ (Act.put _ (some 80) _) _
         try simp only[Act.put,List.setIfInBounds_toArray,List.set_cons_zero,List.set_cons_succ]
         refine wpAnyH_take (i:=4) (v:=undef) rfl (by kernel_rfl) (by kernel_rfl) (by kernel_rfl) (fun _ _ _ h=>h) (Or.inr ⟨by rfl,rfl⟩) (by assumption) ?_;change wpAnyH _ _ _ _ _ _ _ (Act.put _ (some 81) _) _
         try simp only[Act.put,List.setIfInBounds_toArray,List.set_cons_zero,List.set_cons_succ]
         refine wpAnyH_take (i:=5) (v:=undef) rfl (by kernel_rfl) (by kernel_rfl) (by kernel_rfl) (fun _ _ _ h=>h) (Or.inr ⟨by rfl,rfl⟩) (by assumption) ?_;change wpAnyH _ _ _ _ _ _ _ (Act.put _ (some 82) _) _
         try simp only[Act.put,List.setIfInBounds_toArray,List.set_cons_zero,List.set_cons_succ]
         refine wpAnyH_take (i:=6) (v:=undef) rfl (by kernel_rfl) (by kernel_rfl) (by kernel_rfl) (fun _ _ _ h=>h) (Or.inr ⟨by rfl,rfl⟩) (by assumption) ?_;change wpAnyH _ _ _ _ _ _ _ (Act.put _ (some 83) _) _
         try simp only[Act.put,List.setIfInBounds_toArray,List.set_cons_zero,List.set_cons_succ]
         refine wpAnyH_take (i:=7) (v:=undef) rfl (by kernel_rfl) (by kernel_rfl) (by kernel_rfl) (fun _ _ _ h=>h) (Or.inr ⟨by rfl,rfl⟩) (by assumption) ?_;change wpAnyH _ _ _ _ _ _ _ (Act.put _ (some 84) _) _
         try simp only[Act.put,List.setIfInBounds_toArray,List.set_cons_zero,List.set_cons_succ]
         refine wpAnyH_take (i:=8) (v:=?hvv8_13) rfl (by kernel_rfl) (by kernel_rfl) (by kernel_rfl) (fun _ _ _ h=>h) (Or.inl ⟨by rfl,?hhy8_13⟩) (by assumption) ?_
         case hhy8_13=>(intro w hSw;(try dsimp only at hSw);go_simp;try with_reducible rfl)
         change wpAnyH _ _ _ _ _ _ _ (Act.put _ (some 85) _) _
         try simp only[Act.put,List.setIfInBounds_toArray,List.set_cons_zero,List.set_cons_succ]
         refine wpAnyH_ready (rs:=[9]) (by kernel_rfl) (by simp) ?_;refine AllReadyH.cons rfl (fun K hK=>?_) AllReadyH.nil
         go_simp
         refine hK.out _ _ (by (try dsimp only);go_keep) (fun hHeld=>?_);clear hK K;refine wpAnyH_take (i:=10) (v:=?hvv10_14) rfl (by kernel_rfl) (by kernel_rfl) (by kernel_rfl) (fun _ _ _ h=>h) (Or.inl ⟨by rfl,?hhy10_14⟩) (by assumption) ?_
         case hhy10_14=>(intro w hSw;(try dsimp only at hSw);go_simp;try with_reducible rfl)
         change wpAnyH _ _ _ _ _ _ _ (Act.put _ (some 3) _) _
         try simp only[Act.put,List.setIfInBounds_toArray,List.set_cons_zero,List.set_cons_succ]
         refine wpAnyH_done (by kernel_rfl) ?_ _;go_wp2_with fail
         have hYk:Y=some (.mk 6 0 0 0 (E.map Ex.c)):=by rw[HYE.out,if_neg (by omega)]
         have hputs:=blk_drew (hr2.out.put5 (.int .i64 6) (.int .i64 0) (.int .i64 0) (.int .i64 0) (.slice voa EL vcap));refine bodyPost_ret (v:=.tuple #[.agg #[.int .i64 6,.int .i64 0,.int .i64 0,.int .i64 0,.slice voa EL vcap],.bool true]) ?_ rfl ?_
         · refine ret_ex2 Tryz.results226 ?_ ?_ hputs rfl
           all_goals rfl
         · exact HFIN.out _ _ wr _ (by rw[hYk];rfl) ⟨_,_,_,_,_,_,_,rfl⟩ (fun E2 hE2=>by rw[hYk]at hE2;injection hE2 with hE2;subst hE2;exact HXE.out) (below_far HB7.out hg.out (fun k e=>by have e:=Option.some.inj e;omega)) (grownBy_drew (grownBy_puts [.int .i64 6,.int .i64 0,.int .i64 0,.int .i64 0,.slice voa EL vcap] wr g2 0))
       · refine wp_region_held_drew (S:=(fun w'=>w'.cell? ⟨g6,0,none⟩=some (.int .i64 7)∧w'.cell? ⟨g6,1,none⟩=some (.int .i64 0)∧w'.cell? ⟨g6,2,none⟩=some (.int .i64 0)∧w'.cell? ⟨g6,3,none⟩=some (.int .i64 0)∧w'.cell? ⟨g6,4,none⟩=some (.slice voa EL vcap))) (by kernel_rfl) (by (try dsimp only);go_keep) (fun hHeld=>?_);refine wpAnyH_take (i:=0) (v:=?hvv0_15) rfl (by kernel_rfl) (by kernel_rfl) (by kernel_rfl) (fun _ _ _ h=>h) (Or.inl ⟨by rfl,?hhy0_15⟩) (by assumption) ?_
         case hhy0_15=>(intro w hSw;(try dsimp only at hSw);go_simp;try with_reducible rfl)
         change wpAnyH _ _ _ _ _ _ _ (Act.put _ (some 77) _) _
         try simp only[Act.put,List.setIfInBounds_toArray,List.set_cons_zero,List.set_cons_succ]
         refine wpAnyH_take (i:=1) (v:=?hvv1_16) rfl (by kernel_rfl) (by kernel_rfl) (by kernel_rfl) (fun _ _ _ h=>h) (Or.inl ⟨by rfl,?hhy1_16⟩) (by assumption) ?_
         case hhy1_16=>(intro w hSw;(try dsimp only at hSw);go_simp;try with_reducible rfl)
         change wpAnyH _ _ _ _ _ _ _ (Act.put _ (some 78) _) _
         try simp only[Act.put,List.setIfInBounds_toArray,List.set_cons_zero,List.set_cons_succ]
         refine wpAnyH_take (i:=2) (v:=?hvv2_17) rfl (by kernel_rfl) (by kernel_rfl) (by kernel_rfl) (fun _ _ _ h=>h) (Or.inl ⟨by rfl,?hhy2_17⟩) (by assumption) ?_
         case hhy2_17=>(intro w hSw;(try dsimp only at hSw);go_simp;try with_reducible rfl)
         change wpAnyH _ _ _ _ _ _ _ (Act.put _ (some 79) _) _
         try simp only[Act.put,List.setIfInBounds_toArray,List.set_cons_zero,List.set_cons_succ]
         refine wpAnyH_take (i:=3) (v:=?hvv3_18) rfl (by kernel_rfl) (by kernel_rfl) (by kernel_rfl) (fun _ _ _ h=>h) (Or.inl ⟨by rfl,?hhy3_18⟩) (by assumption) ?_
         case hhy3_18=>(intro w hSw;(try dsimp only at hSw);go_simp;try with_reducible rfl)
         change wpAnyH _ _ _ _ _ _ _ (Act.put _ (some 80) _) _
         try simp only[Act.put,List.setIfInBounds_toArray,List.set_cons_zero,List.set_cons_succ]
         refine wpAnyH_take (i:=4) (v:=undef) rfl (by kernel_rfl) (by kernel_rfl) (by kernel_rfl) (fun _ _ _ h=>h) (Or.inr ⟨by rfl,rfl⟩) (by assumption) ?_;change wpAnyH _ _ _ _ _ _ _ (Act.put _ (some 81) _) _
         try simp only[Act.put,List.setIfInBounds_toArray,List.set_cons_zero,List.set_cons_succ]
         refine wpAnyH_take (i:=5) (v:=undef) rfl (by kernel_rfl) (by kernel_rfl) (by kernel_rfl) (fun _ _ _ h=>h) (Or.inr ⟨by rfl,rfl⟩) (by assumption) ?_;change wpAnyH _ _ _ _ _ _ _ (Act.put _ (some 82) _) _
         try simp only[Act.put,List.setIfInBounds_toArray,List.set_cons_zero,List.set_cons_succ]
         refine wpAnyH_take (i:=6) (v:=undef) rfl (by kernel_rfl) (by kernel_rfl) (by kernel_rfl) (fun _ _ _ h=>h) (Or.inr ⟨by rfl,rfl⟩) (by assumption) ?_;change wpAnyH _ _ _ _ _ _ _ (Act.put _ (some 83) _) _
         try simp only[Act.put,List.setIfInBounds_toArray,List.set_cons_zero,List.set_cons_succ]
         refine wpAnyH_take (i:=7) (v:=undef) rfl (by kernel_rfl) (by kernel_rfl) (by kernel_rfl) (fun _ _ _ h=>h) (Or.inr ⟨by rfl,rfl⟩) (by assumption) ?_;change wpAnyH _ _ _ _ _ _ _ (Act.put _ (some 84) _) _
         try simp only[Act.put,List.setIfInBounds_toArray,List.set_cons_zero,List.set_cons_succ]
         refine wpAnyH_take (i:=8) (v:=?hvv8_19) rfl (by kernel_rfl) (by kernel_rfl) (by kernel_rfl) (fun _ _ _ h=>h) (Or.inl ⟨by rfl,?hhy8_19⟩) (by assumption) ?_
         case hhy8_19=>(intro w hSw;(try dsimp only at hSw);go_simp;try with_reducible rfl)
         change wpAnyH _ _ _ _ _ _ _ (Act.put _ (some 85) _) _
         try simp only[Act.put,List.setIfInBounds_toArray,List.set_cons_zero,List.set_cons_succ]
         refine wpAnyH_ready (rs:=[9]) (by kernel_rfl) (by simp) ?_;refine AllReadyH.cons rfl (fun K hK=>?_) AllReadyH.nil
         go_simp
         refine hK.out _ _ (by (try dsimp only);go_keep) (fun hHeld=>?_);clear hK K;refine wpAnyH_take (i:=10) (v:=?hvv10_20) rfl (by kernel_rfl) (by kernel_rfl) (by kernel_rfl) (fun _ _ _ h=>h) (Or.inl ⟨by rfl,?hhy10_20⟩) (by assumption) ?_
         case hhy10_20=>(intro w hSw;(try dsimp only at hSw);go_simp;try with_reducible rfl)
         change wpAnyH _ _ _ _ _ _ _ (Act.put _ (some 3) _) _
         try simp only[Act.put,List.setIfInBounds_toArray,List.set_cons_zero,List.set_cons_succ]
         refine wpAnyH_done (by kernel_rfl) ?_ _;go_wp2_with fail
         have hYk:Y=some (.mk 7 0 0 0 (E.map Ex.c)):=by rw[HYE.out,if_neg (by omega)]
         have hputs:=blk_drew (hr2.out.put5 (.int .i64 7) (.int .i64 0) (.int .i64 0) (.int .i64 0) (.slice voa EL vcap));refine bodyPost_ret (v:=.tuple #[.agg #[.int .i64 7,.int .i64 0,.int .i64 0,.int .i64 0,.slice voa EL vcap],.bool true]) ?_ rfl ?_
         · refine ret_ex2 Tryz.results226 ?_ ?_ hputs rfl
           all_goals rfl
         · exact HFIN.out _ _ wr _ (by rw[hYk];rfl) ⟨_,_,_,_,_,_,_,rfl⟩ (fun E2 hE2=>by rw[hYk]at hE2;injection hE2 with hE2;subst hE2;exact HXE.out) (below_far HB7.out hg.out (fun k e=>by have e:=Option.some.inj e;omega)) (grownBy_drew (grownBy_puts [.int .i64 7,.int .i64 0,.int .i64 0,.int .i64 0,.slice voa EL vcap] wr g2 0))
       · refine wp_region_held_drew (S:=(fun w'=>w'.cell? ⟨g6,0,none⟩=some (.int .i64 8)∧w'.cell? ⟨g6,1,none⟩=some (.int .i64 0)∧w'.cell? ⟨g6,2,none⟩=some (.int .i64 0)∧w'.cell? ⟨g6,3,none⟩=some (.int .i64 0)∧w'.cell? ⟨g6,4,none⟩=some (.slice voa EL vcap))) (by kernel_rfl) (by (try dsimp only);go_keep) (fun hHeld=>?_);refine wpAnyH_take (i:=0) (v:=?hvv0_21) rfl (by kernel_rfl) (by kernel_rfl) (by kernel_rfl) (fun _ _ _ h=>h) (Or.inl ⟨by rfl,?hhy0_21⟩) (by assumption) ?_
         case hhy0_21=>(intro w hSw;(try dsimp only at hSw);go_simp;try with_reducible rfl)
         change wpAnyH _ _ _ _ _ _ _ (Act.put _ (some 77) _) _
         try simp only[Act.put,List.setIfInBounds_toArray,List.set_cons_zero,List.set_cons_succ]
         refine wpAnyH_take (i:=1) (v:=?hvv1_22) rfl (by kernel_rfl) (by kernel_rfl) (by kernel_rfl) (fun _ _ _ h=>h) (Or.inl ⟨by rfl,?hhy1_22⟩) (by assumption) ?_
         case hhy1_22=>(intro w hSw;(try dsimp only at hSw);go_simp;try with_reducible rfl)
         change wpAnyH _ _ _ _ _ _ _ (Act.put _ (some 78) _) _
         try simp only[Act.put,List.setIfInBounds_toArray,List.set_cons_zero,List.set_cons_succ]
         refine wpAnyH_take (i:=2) (v:=?hvv2_23) rfl (by kernel_rfl) (by kernel_rfl) (by kernel_rfl) (fun _ _ _ h=>h) (Or.inl ⟨by rfl,?hhy2_23⟩) (by assumption) ?_
         case hhy2_23=>(intro w hSw;(try dsimp only at hSw);go_simp;try with_reducible rfl)
         change wpAnyH _ _ _ _ _ _ _ (Act.put _ (some 79) _) _
         try simp only[Act.put,List.setIfInBounds_toArray,List.set_cons_zero,List.set_cons_succ]
         refine wpAnyH_take (i:=3) (v:=?hvv3_24) rfl (by kernel_rfl) (by kernel_rfl) (by kernel_rfl) (fun _ _ _ h=>h) (Or.inl ⟨by rfl,?hhy3_24⟩) (by assumption) ?_
         case hhy3_24=>(intro w hSw;(try dsimp only at hSw);go_simp;try with_reducible rfl)
         change wpAnyH _ _ _ _ _ _ _ (Act.put _ (some 80) _) _
         try simp only[Act.put,List.setIfInBounds_toArray,List.set_cons_zero,List.set_cons_succ]
         refine wpAnyH_take (i:=4) (v:=?hvv4_25) rfl (by kernel_rfl) (by kernel_rfl) (by kernel_rfl) (fun _ _ _ h=>h) (Or.inl ⟨by rfl,?hhy4_25⟩) (by assumption) ?_
         case hhy4_25=>(intro w hSw;(try dsimp only at hSw);go_simp;try with_reducible rfl)
         change wpAnyH _ _ _ _ _ _ _ (Act.put _ (some 81) _) _
         try simp only[Act.put,List.setIfInBounds_toArray,List.set_cons_zero,List.set_cons_succ]
         refine wpAnyH_take (i:=5) (v:=?hvv5_26) rfl (by kernel_rfl) (by kernel_rfl) (by kernel_rfl) (fun _ _ _ h=>h) (Or.inl ⟨by rfl,?hhy5_26⟩) (by assumption) ?_
         case hhy5_26=>(intro w hSw;(try dsimp only at hSw);go_simp;try with_reducible rfl)
         change wpAnyH _ _ _ _ _ _ _ (Act.put _ (some 82) _) _
         try simp only[Act.put,List.setIfInBounds_toArray,List.set_cons_zero,List.set_cons_succ]
         refine wpAnyH_take (i:=6) (v:=?hvv6_27) rfl (by kernel_rfl) (by kernel_rfl) (by kernel_rfl) (fun _ _ _ h=>h) (Or.inl ⟨by rfl,?hhy6_27⟩) (by assumption) ?_
         case hhy6_27=>(intro w hSw;(try dsimp only at hSw);go_simp;try with_reducible rfl)
         change wpAnyH _ _ _ _ _ _ _ (Act.put _ (some 83) _) _
         try simp only[Act.put,List.setIfInBounds_toArray,List.set_cons_zero,List.set_cons_succ]
         refine wpAnyH_take (i:=7) (v:=?hvv7_28) rfl (by kernel_rfl) (by kernel_rfl) (by kernel_rfl) (fun _ _ _ h=>h) (Or.inl ⟨by rfl,?hhy7_28⟩) (by assumption) ?_
         case hhy7_28=>(intro w hSw;(try dsimp only at hSw);go_simp;try with_reducible rfl)
         change wpAnyH _ _ _ _ _ _ _ (Act.put _ (some 84) _) _
         try simp only[Act.put,List.setIfInBounds_toArray,List.set_cons_zero,List.set_cons_succ]
         refine wpAnyH_take (i:=8) (v:=?hvv8_29) rfl (by kernel_rfl) (by kernel_rfl) (by kernel_rfl) (fun _ _ _ h=>h) (Or.inl ⟨by rfl,?hhy8_29⟩) (by assumption) ?_
         case hhy8_29=>(intro w hSw;(try dsimp only at hSw);go_simp;try with_reducible rfl)
         change wpAnyH _ _ _ _ _ _ _ (Act.put _ (some 85) _) _
         try simp only[Act.put,List.setIfInBounds_toArray,List.set_cons_zero,List.set_cons_succ]
         refine wpAnyH_ready (rs:=[9]) (by kernel_rfl) (by simp) ?_;refine AllReadyH.cons rfl (fun K hK=>?_) AllReadyH.nil
         go_simp
         refine hK.out _ _ (by (try dsimp only);go_keep) (fun hHeld=>?_);clear hK K;refine wpAnyH_take (i:=10) (v:=?hvv10_30) rfl (by kernel_rfl) (by kernel_rfl) (by kernel_rfl) (fun _ _ _ h=>h) (Or.inl ⟨by rfl,?hhy10_30⟩) (by assumption) ?_
         case hhy10_30=>(intro w hSw;(try dsimp only at hSw);go_simp;try with_reducible rfl)
         change wpAnyH _ _ _ _ _ _ _ (Act.put _ (some 3) _) _
         try simp only[Act.put,List.setIfInBounds_toArray,List.set_cons_zero,List.set_cons_succ]
         refine wpAnyH_done (by kernel_rfl) ?_ _;go_wp2_with fail
         have hok:((EL:Int)==3)=Y.isSome:=by
          rw[HYE.out,HEL.out]
          by_cases he:EL=3
          · subst he;rfl
          · rw[if_pos ⟨by trivial,he⟩,beq_eq_false_iff_ne.2 (by omega)];rfl
         have hYk:∀ E2,Y=some E2→E2=.mk 8 0 0 0 (E.map Ex.c):=fun E2 hE2=>by
          rw[HYE.out,HEL.out]at hE2
          by_cases he:EL=3
          · rw[if_neg (by omega)]at hE2;exact(Option.some.inj hE2).symm
          · rw[if_pos ⟨by trivial,he⟩]at hE2
            cases hE2
         have hputs:=blk_drew (hr2.out.put5 (.int .i64 8) (.int .i64 0) (.int .i64 0) (.int .i64 0) (.slice voa EL vcap));refine bodyPost_ret (v:=.tuple #[.agg #[.int .i64 8,.int .i64 0,.int .i64 0,.int .i64 0,.slice voa EL vcap],.bool ((EL:Int)==3)]) ?_ rfl ?_
         · refine ret_ex2 Tryz.results226 ?_ ?_ hputs rfl
           all_goals rfl
         · exact HFIN.out _ _ wr _ hok ⟨_,_,_,_,_,_,_,rfl⟩ (fun E2 hE2=>by rw[hYk E2 hE2];exact HXE.out) (below_far HB7.out hg.out (fun k e=>by have e:=Option.some.inj e;omega)) (grownBy_drew (grownBy_puts [.int .i64 8,.int .i64 0,.int .i64 0,.int .i64 0,.slice voa EL vcap] wr g2 0))
 · have hYk:Y=none:=by
    rw[← HY.out,exprF,if_neg hk10,if_neg hk12,if_neg hk2]
   have q10:(tk==(10:Int))=false:=by simpa using hk10
   have q12:(tk==(12:Int))=false:=by simpa using hk12
   have q2:(tk==(2:Int))=false:=by simpa using hk2
   go_wp2_with fail;have hputs:=(HB2.out).put5 (.int .i64 0) (.int .i64 0) (.int .i64 0) (.int .i64 0) (.slice none 0 0);refine bodyPost_ret (v:=.tuple #[.agg #[.int .i64 0,.int .i64 0,.int .i64 0,.int .i64 0,.slice none 0 0],.bool false]) ?_ rfl ?_
   · refine ret_ex2 Tryz.results226 ?_ ?_ hputs rfl
     all_goals rfl
   · exact HFIN.out _ _ w4 _ (by rw[hYk];rfl) ⟨_,_,_,_,_,_,_,rfl⟩ (fun E hE=>by rw[hYk]at hE;cases hE) (Below.refl _ _) (grownBy_puts [.int .i64 0,.int .i64 0,.int .i64 0,.int .i64 0,.slice none 0 0] w4 g2 0)
theorem calc_all:∀ h,WholeAt h∧ExprAt h
 | 0=>⟨whole_step 0 (csum_any (oper_step 0 (fun h' e=>by omega) fun v w hv=>hv.elim)),fun v w hv=>hv.elim⟩
 | h+1=>by
   have ih:=calc_all h;have hX:=expr_step h ih.1;exact⟨whole_step (h+1) (csum_any (oper_step (h+1) (fun h' e=>(show h=h' by omega) ▸ ih.1) hX)),hX⟩
def retP (A:Nat→Prop) (r:Option Et×Int) (e:Ending) (w:World):Prop:=∃ v,e=.returned (.tuple #[v,.int .i64 r.2])∧isEx A (r.1.getD zeroEt) v w
theorem zero_ex (A:Nat→Prop) (w:World):isEx A zeroEt (.agg #[.int .i64 0,.int .i64 0,.int .i64 0,.int .i64 0,.slice none 0 0]) w :=
 ⟨.mk 0 0 0 0 none 0 0 0 [],1,rfl,rfl,ExIn.leaf (i64_small _ (by decide)) (by unfold Is64;decide) (i64_small _ (by decide))⟩
set_option maxRecDepth 20000 in
set_option maxHeartbeats 2000000 in
theorem cparse_any (h:Nat) (l:List Vl) (oa:Option Addr) (cap b o:Nat) (w:World) (hs:VsIn w h oa cap b o l) :
  Calls Tryz.prog 203 #[.slice oa l.length cap] w fun e w'=>retP (· < w.heap.size) (parseF wholeP h (l.map Vl.c)) e w'∧Below w.heap.size w w':=by
 have hX:=(calc_all h).2;obtain⟨Y,hY⟩:∃ Y,parseF wholeP h (l.map Vl.c)=Y:=⟨_,rfl⟩;rw[hY];have hb0:=below_box w (.cells #[.int .i64 0,.int .i64 0,.int .i64 0,.int .i64 0,.slice none 0 0] 31);have h2:=Blk.new w 31 #[.int .i64 0,.int .i64 0,.int .i64 0,.int .i64 0,.slice none 0 0];have hs1:=hs.below hb0;have hmay:=mayvr_any h l oa cap b o _ hs1
 have htr:=fun w' (hb:Below _ _ w')=>rtrim_any h l oa cap b o w' (hs1.below hb)
 have hw01:(w.alloc (.cells #[.int .i64 0,.int .i64 0,.int .i64 0,.int .i64 0,.slice none 0 0] 31)).heap.size=w.heap.size+1:=by simp
 obtain⟨X,hXX⟩:∃ X,l.map Vl.c=X:=⟨_,rfl⟩;obtain⟨N,hN⟩:∃ N,l.length=N:=⟨_,rfl⟩;rw[hXX]at hmay hY;rw[hN]at hmay;rw[hN];simp only[hXX,hN]at htr;have HY:=Lib.hid hY;have HMAY:=Lib.hid hmay;have HTR:=Lib.hid htr;have HB0:=Lib.hid hb0;have H2:=Lib.hid h2;have HW01:=Lib.hid hw01;obtain⟨m,hm⟩:∃ m,mayV 64 X=m:=⟨_,rfl⟩;rw[hm]at HMAY;have HM:=Lib.hid hm;clear hY hmay htr hb0 h2 hw01 hXX hN hs hs1 hm
 go_enter Tryz.func203,Tryz.ntmps203
 go_upto_region 1 with fail
 obtain⟨g2,hg2⟩:∃ g2,w.heap.size=g2:=⟨_,rfl⟩;have HG:=Lib.hid hg2;rw[hg2]at H2;simp only[hg2];clear hg2;generalize w.alloc _=w1 at *;go_wp2_with fail
 ((with_reducible refine HMAY.out.mono ?_);rintro e w2 ⟨rfl,hb2⟩)
 have hb12:=hb2.size;have H22:=Lib.hid (H2.out.below hb2 H2.out.lt);have HB2:=Lib.hid (below_far HB0.out (grownBy_of_below hb2 none) (fun _ e=>by cases e));have HT2:=Lib.hid (HTR.out w2 hb2);have HWG:=Lib.hid (show w.heap.size≤g2 by have:=HG.out;omega);clear hb2 HTR HMAY HB0;have ca0:w2.cell? ⟨g2,0,none⟩=some (.int .i64 0):=(H22.out).cell 0;have fca0:=(H22.out).frozen 0;have ca1:w2.cell? ⟨g2,1,none⟩=some (.int .i64 0):=(H22.out).cell 1;have fca1:=(H22.out).frozen 1;have ca2:w2.cell? ⟨g2,2,none⟩=some (.int .i64 0):=(H22.out).cell 2;have fca2:=(H22.out).frozen 2;have ca3:w2.cell? ⟨g2,3,none⟩=some (.int .i64 0):=(H22.out).cell 3;have fca3:=(H22.out).frozen 3;have ca4:w2.cell? ⟨g2,4,none⟩=some (.slice none 0 0):=(H22.out).cell 4;have fca4:=(H22.out).frozen 4;have lca:=(H22.out).lt
 cases m with
 | false =>
   have hYk:Y=(none,1):=by rw[← HY.out,parseF,if_pos HM.out]
   go_wp2_with fail;have hputs:=(H22.out).put5 (.int .i64 0) (.int .i64 0) (.int .i64 0) (.int .i64 0) (.slice none 0 0);refine bodyPost_ret (v:=.tuple #[.agg #[.int .i64 0,.int .i64 0,.int .i64 0,.int .i64 0,.slice none 0 0],.int .i64 1]) ?_ rfl ?_
   · refine ret_ex2 Tryz.results203 ?_ ?_ hputs rfl
     all_goals rfl
   · exact⟨⟨_,by first|rfl|rw[hYk],by first|exact zero_ex _ _ | (rw[hYk];exact zero_ex _ _)⟩,below_put5 HB2.out HWG.out _ _ _ _ _⟩
 | true =>
   have hY2:Y=match trimV X with
     | [v]=>(match exF wholeP h v with
       | none=>(none,3)
       | some e=>(some e,0))
     | _=>(none,3):=by
    rw[← HY.out,parseF,if_neg (by rw[HM.out];decide)];rfl
   have HY2:=Lib.hid hY2;clear hY2 HY;go_wp2_with fail
   ((with_reducible refine HT2.out.mono ?_);rintro e w3 ⟨⟨v,rfl,oa2,cap2,b2,o2,l2,rfl,hc2,hs2⟩,hb3⟩)
   have H23:=Lib.hid (H22.out.below hb3 H22.out.lt);have HB3:=Lib.hid (below_far HB2.out (grownBy_of_below hb3 none) (fun _ e=>by cases e));have hb23:=hb3.size;have hcm2:=hs2.here.sl.max;have hcl2:=hs2.here.sl.le;unfold maxLen at hcm2;clear hb3 HT2 H22 HB2 ca0 ca1 ca2 ca3 ca4 fca0 fca1 fca2 fca3 fca4 lca;have ca0:w3.cell? ⟨g2,0,none⟩=some (.int .i64 0):=(H23.out).cell 0;have fca0:=(H23.out).frozen 0;have ca1:w3.cell? ⟨g2,1,none⟩=some (.int .i64 0):=(H23.out).cell 1;have fca1:=(H23.out).frozen 1;have ca2:w3.cell? ⟨g2,2,none⟩=some (.int .i64 0):=(H23.out).cell 2;have fca2:=(H23.out).frozen 2;have ca3:w3.cell? ⟨g2,3,none⟩=some (.int .i64 0):=(H23.out).cell 3;have fca3:=(H23.out).frozen 3;have ca4:w3.cell? ⟨g2,4,none⟩=some (.slice none 0 0):=(H23.out).cell 4;have fca4:=(H23.out).frozen 4;have lca:=(H23.out).lt
   by_cases hl1:l2.length=1
   · obtain⟨x,rfl⟩:=List.length_eq_one_iff.1 hl1;obtain⟨rfl,hbl⟩:=hs2.here.sl.lies (by simp);have hli:[x][0]?=some x:=rfl;have hvs:=hs2.here;have HVX:=Lib.hid (hs2.here.each 0 x hli);have hxp:=hX x w3 (hs2.here.each 0 x hli)
     have hYx:Y=match exF wholeP h x.c with
      | none=>(none,3)
      | some e=>(some e,0):=by rw[HY2.out,← hc2];rfl
     obtain⟨r,hr⟩:∃ r,exF wholeP h x.c=r:=⟨_,rfl⟩;rw[hr]at hxp hYx;obtain⟨t,koa,kb,ko,kcap,kids⟩:=x;obtain⟨K,hK⟩:∃ K,kids.length=K:=⟨_,rfl⟩;have f0:=hvs.cell hli (j:=0) rfl;have f1:=hvs.cell hli (j:=1) rfl;have f2:=hvs.cell hli (j:=2) rfl;have f3:=hvs.cell hli (j:=3) rfl;have f4:=hvs.cell hli (j:=4) rfl;have f5:=hvs.cell hli (j:=5) rfl;have f6:=hvs.cell hli (j:=6) rfl;rw[hK]at f6;simp only[Nat.zero_mul,Nat.add_zero]at f0 f1 f2 f3 f4 f5 f6;obtain⟨tk,tt,⟨tn,td⟩,ti,tid⟩:=t
     have hvv:vv (Vl.mk ⟨tk,tt,(tn,td),ti,tid⟩ koa kb ko kcap kids)=.agg #[.int .i64 tk,.string ⟨tt.toArray⟩,.int .i64 tn,.int .i64 td,.bool ti,.bool tid,.slice koa K kcap]:=by rw[← hK];rfl
     rw[hvv]at hxp;have HXP:=Lib.hid hxp;have HYX:=Lib.hid hYx;simp only[List.length_singleton]at hcl2 ⊢;clear hvv hxp hYx hK hvs hli hr hs2 hc2 hX HY2 hl1;go_wp2_with fail
     ((with_reducible refine HXP.out.mono ?_);rintro e w4 ⟨⟨ev,ok,rfl,hok,h5,hE⟩,hb4⟩)
     obtain⟨vk,vn,vd,vu,voa,vL,vc,rfl⟩:=h5;have HE:=Lib.hid (And.intro hok hE);have H24:=Lib.hid (H23.out.below hb4 H23.out.lt);have hbB:=below_far HB3.out (grownBy_of_below hb4 none) (fun _ e=>by cases e);have hw34:=hb4.size;clear hok hE hb4 H23 HB3 ca0 ca1 ca2 ca3 ca4 fca0 fca1 fca2 fca3 fca4 lca f0 f1 f2 f3 f4 f5 f6 HXP
     go_upto_region 7 with fail
     have h25:=H24.out.old (.cells #[.int .i64 vk,.int .i64 vn,.int .i64 vd,.int .i64 vu,.slice voa vL vc] 31);have h55:=Blk.new w4 31 #[.int .i64 vk,.int .i64 vn,.int .i64 vd,.int .i64 vu,.slice voa vL vc];have HB4:=Lib.hid (hbB.alloc (by have:=hbB.size;omega) (.cells #[.int .i64 vk,.int .i64 vn,.int .i64 vd,.int .i64 vu,.slice voa vL vc] 31));have HE5:=Lib.hid (And.intro HE.out.1 (fun E hE=>(HE.out.2 E hE).below (below_box w4 (.cells #[.int .i64 vk,.int .i64 vn,.int .i64 vd,.int .i64 vu,.slice voa vL vc] 31))));clear H24 hbB HE;generalize w4.heap.size=g5 at *;generalize w4.alloc _=w5 at *;have cb0:w5.cell? ⟨g5,0,none⟩=some (.int .i64 vk):=(h55).cell 0;have fcb0:=(h55).frozen 0;have cb1:w5.cell? ⟨g5,1,none⟩=some (.int .i64 vn):=(h55).cell 1;have fcb1:=(h55).frozen 1;have cb2:w5.cell? ⟨g5,2,none⟩=some (.int .i64 vd):=(h55).cell 2;have fcb2:=(h55).frozen 2
     have cb3:w5.cell? ⟨g5,3,none⟩=some (.int .i64 vu):=(h55).cell 3;have fcb3:=(h55).frozen 3;have cb4:w5.cell? ⟨g5,4,none⟩=some (.slice voa vL vc):=(h55).cell 4;have fcb4:=(h55).frozen 4;have lcb:=(h55).lt;have ca0:w5.cell? ⟨g2,0,none⟩=some (.int .i64 0):=(h25).cell 0;have fca0:=(h25).frozen 0;have ca1:w5.cell? ⟨g2,1,none⟩=some (.int .i64 0):=(h25).cell 1;have fca1:=(h25).frozen 1;have ca2:w5.cell? ⟨g2,2,none⟩=some (.int .i64 0):=(h25).cell 2;have fca2:=(h25).frozen 2;have ca3:w5.cell? ⟨g2,3,none⟩=some (.int .i64 0):=(h25).cell 3;have fca3:=(h25).frozen 3;have ca4:w5.cell? ⟨g2,4,none⟩=some (.slice none 0 0):=(h25).cell 4;have fca4:=(h25).frozen 4;have lca:=(h25).lt;have H25:=Lib.hid h25;clear h25 h55;have hg2w:=H2.out.lt
     cases r with
     | none =>
       obtain rfl:ok=false:=HE5.out.1;have hYk:Y=(none,3):=HYX.out;go_wp2_with fail;have hputs:=(H25.out).put5 (.int .i64 0) (.int .i64 0) (.int .i64 0) (.int .i64 0) (.slice none 0 0);refine bodyPost_ret (v:=.tuple #[.agg #[.int .i64 0,.int .i64 0,.int .i64 0,.int .i64 0,.slice none 0 0],.int .i64 3]) ?_ rfl ?_
       · refine ret_ex2 Tryz.results203 ?_ ?_ hputs rfl
         all_goals rfl
       · exact⟨⟨_,by first|rfl|rw[hYk],by first|exact zero_ex _ _ | (rw[hYk];exact zero_ex _ _)⟩,below_put5 HB4.out HWG.out _ _ _ _ _⟩
     | some E =>
       obtain rfl:ok=true:=HE5.out.1;have hYk:Y=(some E,0):=HYX.out
       have hee:=((HE5.out.2 E rfl).grown (grownBy_puts [.int .i64 vk,.int .i64 vn,.int .i64 vd,.int .i64 vu,.slice voa vL vc] w5 g2 0) (fun k e _=>by have e:g2=k:=Option.some.inj e;show k<w3.heap.size;omega)).anti (A':=(· < w.heap.size)) fun b hb=>Or.inl (by have:=HWG.out;have hb:b<w.heap.size:=hb;show b<w3.heap.size;omega)
       simp only[puts,Nat.zero_add,Nat.reduceAdd]at hee;go_wp2_with fail;have hputs:=(H25.out).put5 (.int .i64 vk) (.int .i64 vn) (.int .i64 vd) (.int .i64 vu) (.slice voa vL vc);refine bodyPost_ret (v:=.tuple #[.agg #[.int .i64 vk,.int .i64 vn,.int .i64 vd,.int .i64 vu,.slice voa vL vc],.int .i64 0]) ?_ rfl ?_
       · refine ret_ex2 Tryz.results203 ?_ ?_ hputs rfl
         all_goals rfl
       · exact⟨⟨_,by first|rfl|rw[hYk],by first|exact hee | (rw[hYk];exact hee)⟩,below_put5 HB4.out HWG.out _ _ _ _ _⟩
   · have q1:((l2.length:Int)==1)=false:=beq_eq_false_iff_ne.2 (by omega)
     have hYk:Y=(none,3):=by
      rw[HY2.out,← hc2]
      match l2,hl1 with
      | [],_=>rfl
      | [x],h=>exact absurd rfl h
      | x::y::l,_=>rfl
     generalize l2.length=N2 at *;have HB4:=HB3;go_wp2_with fail;have hputs:=(H23.out).put5 (.int .i64 0) (.int .i64 0) (.int .i64 0) (.int .i64 0) (.slice none 0 0);refine bodyPost_ret (v:=.tuple #[.agg #[.int .i64 0,.int .i64 0,.int .i64 0,.int .i64 0,.slice none 0 0],.int .i64 3]) ?_ rfl ?_
     · refine ret_ex2 Tryz.results203 ?_ ?_ hputs rfl
       all_goals rfl
     · exact⟨⟨_,by first|rfl|rw[hYk],by first|exact zero_ex _ _ | (rw[hYk];exact zero_ex _ _)⟩,below_put5 HB4.out HWG.out _ _ _ _ _⟩
end Go.Proofs.YtnbkbenkhkinoaaGreatDoor
namespace Go.Proofs.YtnbkbenkhkinoaaGreatDoor
set_option linter.unusedVariables false
set_option linter.unusedSimpArgs false
open Go.RowKit Go.Lib
theorem conv_bytes (m:List UInt8) (w:World) (hm:m.length≤maxLen):∃ (cap:Nat) (w1:World),(convert 9 112 (.string ⟨m.toArray⟩)).run Tryz.prog w=.ok (.slice (some ⟨w.heap.size,0,none⟩) m.length cap) w1∧Below w.heap.size w w1 ∧
  Sl w1 (some ⟨w.heap.size,0,none⟩) m.length cap w.heap.size 0 1 (bytesV m):=by
 have h:=run_bytes_of_string (P:=Tryz.prog) w 9 112 5 ⟨m.toArray⟩ Tryz.underlying9 Tryz.underlying112 Tryz.underlying5;have hge:=grownCap_ge w m.length 0 5;have hcm:=grownCap_le_maxLen w m.length 0 5 hm;refine⟨_,_,h,((Below.refl _ _).drew.alloc (Nat.le_refl _) _),by simp[bytesV],hge,hcm,fun _=>⟨rfl,by simp⟩,fun i v hv=>?_⟩
 have hi:i<m.length:=by have:=(List.getElem?_eq_some_iff.1 hv).1;simpa[bytesV] using this
 rw[bytesV_at hi]at hv;obtain rfl:=Option.some.inj hv;rw[Nat.zero_add,cell_of_row _ w.heap.size i _ _ _ (heap_alloc_new w.drew _)];exact bytesRow_at ⟨m.toArray⟩ _ i hi
end Go.Proofs.YtnbkbenkhkinoaaGreatDoor
