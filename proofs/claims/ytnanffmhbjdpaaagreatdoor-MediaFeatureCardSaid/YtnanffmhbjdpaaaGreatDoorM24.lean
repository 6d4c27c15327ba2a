/- Of my texts: CalcE, CalcF, CalcG, RefA. -/
import Derived.Test.YtnanffmhbjdpaaaGreatDoorM00
import Derived.Test.YtnanffmhbjdpaaaGreatDoorM23
namespace Go.Proofs.YtnanffmhbjdpaaaGreatDoor
set_option maxHeartbeats 4000000
set_option maxRecDepth 20000
set_option linter.unusedVariables false
set_option linter.unusedSimpArgs false
open Go.RowKit
theorem Vd {w w':World} {row:Option Nat} (h:w.grownBy w' row):w.grownBy w'.drew row:=⟨h.os,h.tape,h.output,h.size,h.block⟩
theorem Jy {w:World} {g:Nat} {t:TypeId} {cs:Array Value} (h:Ql w g t cs):Ql w.drew g t cs:=h
def Q0n (N:Nat):Option (Et×Nat)→Option Et
 | none=>none
 | some (e,j)=>if j=N then some e else none
theorem Q3h {f:Vt→Option Et} {X:List Vt} {Y:Option (Et×Nat)} {N:Nat} (hY:Rn f (Z9 X) 0=Y) (hN:(Z9 X).length=N):J0 f X=Q0n N Y:=by
 subst hY hN;unfold J0 Q0n
 cases Rn f (Z9 X) 0<;>rfl
theorem Hu (h:Nat) (hS:Dn 210 h (Rn (Kb J0 h))):Hp h:=by
 intro l oa cap b o w hs;obtain⟨f,hf⟩:∃ f,Kb J0 h=f:=⟨_,rfl⟩;rw[hf]at hS;rw[hf];have hb0:=Q7 w (.cells #[.int .i64 0,.int .i64 0,.int .i64 0,.int .i64 0,.slice none 0 0] 32);have h2:=Ql.new w 32 #[.int .i64 0,.int .i64 0,.int .i64 0,.int .i64 0,.slice none 0 0];have ht:=G0 h l oa cap b o _ (hs.below hb0);have HT:=Q1 ht;have H2:=Q1 h2;have HB0:=Q1 hb0
 have hw01:(w.alloc (.cells #[.int .i64 0,.int .i64 0,.int .i64 0,.int .i64 0,.slice none 0 0] 32)).heap.size=w.heap.size+1:=by simp
 have HW01:=Q1 hw01;obtain⟨X,hX⟩:∃ X,l.map Vl.c=X:=⟨_,rfl⟩;obtain⟨N0,hN0⟩:∃ N0,l.length=N0:=⟨_,rfl⟩;rw[hX,hN0]at HT;rw[hX,hN0];obtain⟨Z,hZ⟩:∃ Z,J0 f X=Z:=⟨_,rfl⟩;have HZ:=Q1 hZ;rw[hZ];clear ht h2 hb0 hs hw01 hX hN0 hZ
 go_enter Tryz.func187,Tryz.ntmps187
 go_upto_region 1 with fail
 obtain⟨g2,hg2⟩:∃ g2,w.heap.size=g2:=⟨_,rfl⟩;have HG:=Q1 hg2;rw[hg2]at H2;simp only[hg2];clear hg2;generalize w.alloc _=w1 at *;go_wp2_with fail
 ((with_reducible refine HT.out.mono ?_);rintro e w2 ⟨⟨v,rfl,oa2,cap2,b2,o2,l2,rfl,hc2,hs2⟩,hb12⟩)
 have hw12:=hb12.size;have hl2:=H2.out.lt;have hn2:=hs2.here.small;have hcl:=hs2.here.sl.le;have hcm:=hs2.here.sl.max;unfold maxLen at hcm;have HS2:=Q1 hs2;have HC2:=Q1 hc2;have H22:=Q1 (H2.out.below hb12 hl2);have HB2:=Q1 (Qu HB0.out (Qc hb12 none) (fun _ e=>by cases e));clear hs2 hc2 hb12 HT H2 HB0;obtain⟨N,hN⟩:∃ N,l2.length=N:=⟨_,rfl⟩;rw[hN]at hn2 hcl;simp only[hN];have HN:=Q1 hN
 go_upto_region 2 with fail
 have hR:=Ql.new w2 221 #[.slice oa2 N cap2,.int .i64 0];have hs3:=(HS2.out.wide (A':=fun b=>b=w2.heap.size) fun b hb=>Or.inr (by omega)).alloc (.cells #[.slice oa2 N cap2,.int .i64 0] 221);have hc:=hS w2.heap.size oa2 cap2 b2 o2 l2 0 _ ⟨by rw[hN];exact hR,hs3,Qs _,rfl⟩;rw[HC2.out,hN]at hc;have HC:=Q1 hc;have H23:=Q1 (H22.out.old (.cells #[.slice oa2 N cap2,.int .i64 0] 221));have HB3:=Q1 (HB2.out.alloc (by have:=HW01.out;omega) (.cells #[.slice oa2 N cap2,.int .i64 0] 221))
 have hgR:g2<w2.heap.size:=by omega
 have hw23:(w2.alloc (.cells #[.slice oa2 N cap2,.int .i64 0] 221)).heap.size=w2.heap.size+1:=by simp
 have HW:=Q1 hw23;clear hw23 hR hs3 hc hS H22 HB2 HS2;obtain⟨R,hR⟩:∃ R,w2.heap.size=R:=⟨_,rfl⟩;rw[hR]at HC hgR hw12;simp only[hR]at HC hgR hw12 ⊢;have HR:=Q1 hR;clear hR;generalize w2.alloc _=w3 at *;obtain⟨Y,hY⟩:∃ Y,Rn f (Z9 X) 0=Y:=⟨_,rfl⟩;rw[hY]at HC;have HY:=Q1 (HZ.out.symm.trans (Q3h hY (N:=N) (by rw[← hN,← HC2.out,Qj])));clear hY hN HN HC2;go_wp2_with fail
 ((with_reducible refine HC.out.mono ?_);rintro e w4 ⟨⟨ev,ok,rfl,hok,h5,hE⟩,j,hmv,hjN,hjE⟩)
 obtain⟨vk,vn,vd,vu,voa,vL,vc,rfl⟩:=h5;have HE:=Q1 (Q3 hok hE);have HJ:=Q1 hjE;have H24:=Q1 (hmv.keeps H23.out (by omega));have HB4:=Q1 (Qu HB3.out hmv.gb (fun k e=>by injection e with e;have:=HG.out;omega));have HR4:=Q1 hmv.blk;have hw34:=hmv.gb.size;clear hok hE hjE hmv HC H23 HB3
 go_upto_region 3 with fail
 have h25:=H24.out.old (.cells #[.int .i64 vk,.int .i64 vn,.int .i64 vd,.int .i64 vu,.slice voa vL vc] 32);have hr5:=HR4.out.old (.cells #[.int .i64 vk,.int .i64 vn,.int .i64 vd,.int .i64 vu,.slice voa vL vc] 32);have h55:=Ql.new w4 32 #[.int .i64 vk,.int .i64 vn,.int .i64 vd,.int .i64 vu,.slice voa vL vc];have HB5:=Q1 (HB4.out.alloc (by have:=HB4.out.size;omega) (.cells #[.int .i64 vk,.int .i64 vn,.int .i64 vd,.int .i64 vu,.slice voa vL vc] 32));have HE5:=Q1 (Q3 HE.out.1 (fun E hE=>(HE.out.2 E hE).below (Q7 w4 (.cells #[.int .i64 vk,.int .i64 vn,.int .i64 vd,.int .i64 vu,.slice voa vL vc] 32))))
 have hg23:g2<w3.heap.size:=by have:=HW.out;have:=HR.out;omega
 have hwg:w.heap.size≤g2:=by have:=HG.out;omega
 have hg25:g2<w4.heap.size:=by have:=HW.out;have:=HR.out;omega
 have hR5:R<w4.heap.size:=by have:=HW.out;have:=HR.out;omega
 have hn1:¬ w4.heap.size=g2:=by omega
 have hn2:¬ g2=w4.heap.size:=by omega
 have hn3:¬ R=g2:=by omega
 have hn4:¬ g2=R:=by omega
 clear H24 HR4 HB4 HE;generalize w4.heap.size=g5 at *;generalize w4.alloc _=w5 at *;have ca0:w5.cell? ⟨g5,0,none⟩=some (.int .i64 vk):=(h55).cell 0;have fca0:=(h55).frozen 0;have ca1:w5.cell? ⟨g5,1,none⟩=some (.int .i64 vn):=(h55).cell 1;have fca1:=(h55).frozen 1;have ca2:w5.cell? ⟨g5,2,none⟩=some (.int .i64 vd):=(h55).cell 2;have fca2:=(h55).frozen 2;have ca3:w5.cell? ⟨g5,3,none⟩=some (.int .i64 vu):=(h55).cell 3;have fca3:=(h55).frozen 3;have ca4:w5.cell? ⟨g5,4,none⟩=some (.slice voa vL vc):=(h55).cell 4;have fca4:=(h55).frozen 4;have lca:=(h55).lt;have cb0:w5.cell? ⟨g2,0,none⟩=some (.int .i64 0):=(h25).cell 0;have fcb0:=(h25).frozen 0;have cb1:w5.cell? ⟨g2,1,none⟩=some (.int .i64 0):=(h25).cell 1;have fcb1:=(h25).frozen 1;have cb2:w5.cell? ⟨g2,2,none⟩=some (.int .i64 0):=(h25).cell 2;have fcb2:=(h25).frozen 2;have cb3:w5.cell? ⟨g2,3,none⟩=some (.int .i64 0):=(h25).cell 3
 have fcb3:=(h25).frozen 3;have cb4:w5.cell? ⟨g2,4,none⟩=some (.slice none 0 0):=(h25).cell 4;have fcb4:=(h25).frozen 4;have lcb:=(h25).lt;have cr0:w5.cell? ⟨R,0,none⟩=some (.slice oa2 N cap2):=(hr5).cell 0;have fcr0:=(hr5).frozen 0;have cr1:w5.cell? ⟨R,1,none⟩=some (.int .i64 (j:Int)):=(hr5).cell 1;have fcr1:=(hr5).frozen 1;have lcr:=(hr5).lt;have H25:=Q1 h25;clear h25 hr5 h55
 cases Y with
 | none =>
   obtain rfl:ok=false:=HE5.out.1;refine wp_region_held_drew (S:=(fun w'=>w'.cell? ⟨g5,0,none⟩=some (.int .i64 vk)∧w'.cell? ⟨g5,1,none⟩=some (.int .i64 vn)∧w'.cell? ⟨g5,2,none⟩=some (.int .i64 vd)∧w'.cell? ⟨g5,3,none⟩=some (.int .i64 vu)∧w'.cell? ⟨g5,4,none⟩=some (.slice voa vL vc))) (by kernel_rfl) (by (try dsimp only);go_keep) (fun hHeld=>?_);refine wpAnyH_take (i:=1) (v:=?hvv1_1) rfl (by kernel_rfl) (by kernel_rfl) (by kernel_rfl) (fun _ _ _ h=>h) (Or.inl ⟨by rfl,?hhy1_1⟩) (by assumption) ?_
   case hhy1_1=>(intro w hSw;(try dsimp only at hSw);go_simp;try with_reducible rfl)
   change wpAnyH _ _ _ _ _ _ _ (Act.put _ (some 17) _) _
   try simp only[Act.put,Q2,Q4,Q5]
   refine wpAnyH_take (i:=2) (v:=?hvv2_2) rfl (by kernel_rfl) (by kernel_rfl) (by kernel_rfl) (fun _ _ _ h=>h) (Or.inl ⟨by rfl,?hhy2_2⟩) (by assumption) ?_
   case hhy2_2=>(intro w hSw;(try dsimp only at hSw);go_simp;try with_reducible rfl)
   change wpAnyH _ _ _ _ _ _ _ (Act.put _ (some 18) _) _
   try simp only[Act.put,Q2,Q4,Q5]
   refine wpAnyH_take (i:=3) (v:=undef) rfl (by kernel_rfl) (by kernel_rfl) (by kernel_rfl) (fun _ _ _ h=>h) (Or.inr ⟨by rfl,rfl⟩) (by assumption) ?_;change wpAnyH _ _ _ _ _ _ _ (Act.put _ (some 19) _) _
   try simp only[Act.put,Q2,Q4,Q5]
   refine wpAnyH_take (i:=4) (v:=undef) rfl (by kernel_rfl) (by kernel_rfl) (by kernel_rfl) (fun _ _ _ h=>h) (Or.inr ⟨by rfl,rfl⟩) (by assumption) ?_;change wpAnyH _ _ _ _ _ _ _ (Act.put _ (some 20) _) _
   try simp only[Act.put,Q2,Q4,Q5]
   refine wpAnyH_take (i:=5) (v:=undef) rfl (by kernel_rfl) (by kernel_rfl) (by kernel_rfl) (fun _ _ _ h=>h) (Or.inr ⟨by rfl,rfl⟩) (by assumption) ?_;change wpAnyH _ _ _ _ _ _ _ (Act.put _ (some 21) _) _
   try simp only[Act.put,Q2,Q4,Q5]
   refine wpAnyH_take (i:=6) (v:=undef) rfl (by kernel_rfl) (by kernel_rfl) (by kernel_rfl) (fun _ _ _ h=>h) (Or.inr ⟨by rfl,rfl⟩) (by assumption) ?_;change wpAnyH _ _ _ _ _ _ _ (Act.put _ (some 22) _) _
   try simp only[Act.put,Q2,Q4,Q5]
   refine wpAnyH_take (i:=7) (v:=undef) rfl (by kernel_rfl) (by kernel_rfl) (by kernel_rfl) (fun _ _ _ h=>h) (Or.inr ⟨by rfl,rfl⟩) (by assumption) ?_;change wpAnyH _ _ _ _ _ _ _ (Act.put _ (some 23) _) _
   try simp only[Act.put,Q2,Q4,Q5]
   refine wpAnyH_take (i:=8) (v:=undef) rfl (by kernel_rfl) (by kernel_rfl) (by kernel_rfl) (fun _ _ _ h=>h) (Or.inr ⟨by rfl,rfl⟩) (by assumption) ?_;change wpAnyH _ _ _ _ _ _ _ (Act.put _ (some 24) _) _
   try simp only[Act.put,Q2,Q4,Q5]
   refine wpAnyH_take (i:=9) (v:=undef) rfl (by kernel_rfl) (by kernel_rfl) (by kernel_rfl) (fun _ _ _ h=>h) (Or.inr ⟨by rfl,rfl⟩) (by assumption) ?_;change wpAnyH _ _ _ _ _ _ _ (Act.put _ (some 25) _) _
   try simp only[Act.put,Q2,Q4,Q5]
   refine wpAnyH_take (i:=10) (v:=undef) rfl (by kernel_rfl) (by kernel_rfl) (by kernel_rfl) (fun _ _ _ h=>h) (Or.inr ⟨by rfl,rfl⟩) (by assumption) ?_;change wpAnyH _ _ _ _ _ _ _ (Act.put _ (some 26) _) _
   try simp only[Act.put,Q2,Q4,Q5]
   refine wpAnyH_take (i:=11) (v:=undef) rfl (by kernel_rfl) (by kernel_rfl) (by kernel_rfl) (fun _ _ _ h=>h) (Or.inr ⟨by rfl,rfl⟩) (by assumption) ?_;change wpAnyH _ _ _ _ _ _ _ (Act.put _ (some 27) _) _
   try simp only[Act.put,Q2,Q4,Q5]
   refine wpAnyH_take (i:=12) (v:=undef) rfl (by kernel_rfl) (by kernel_rfl) (by kernel_rfl) (fun _ _ _ h=>h) (Or.inr ⟨by rfl,rfl⟩) (by assumption) ?_;change wpAnyH _ _ _ _ _ _ _ (Act.put _ (some 28) _) _
   try simp only[Act.put,Q2,Q4,Q5]
   refine wpAnyH_take (i:=13) (v:=?hvv13_3) rfl (by kernel_rfl) (by kernel_rfl) (by kernel_rfl) (fun _ _ _ h=>h) (Or.inl ⟨by rfl,?hhy13_3⟩) (by assumption) ?_
   case hhy13_3=>(intro w hSw;(try dsimp only at hSw);go_simp;try with_reducible rfl)
   change wpAnyH _ _ _ _ _ _ _ (Act.put _ (some 29) _) _
   try simp only[Act.put,Q2,Q4,Q5]
   refine wpAnyH_take (i:=0) (v:=?hvv0_4) rfl (by kernel_rfl) (by kernel_rfl) (by kernel_rfl) (fun _ _ _ h=>h) (Or.inl ⟨by rfl,?hhy0_4⟩) (by assumption) ?_
   case hhy0_4=>(intro w hSw;(try dsimp only at hSw);go_simp;try with_reducible rfl)
   change wpAnyH _ _ _ _ _ _ _ (Act.put _ (some 16) _) _
   try simp only[Act.put,Q2,Q4,Q5]
   refine wpAnyH_ready (rs:=[14]) (by kernel_rfl) (by simp) ?_;refine AllReadyH.cons rfl (fun K hK=>?_) AllReadyH.nil
   go_simp
   refine hK.out _ _ (by (try dsimp only);go_keep) (fun hHeld=>?_);clear hK K;refine wpAnyH_ready (rs:=[15]) (by kernel_rfl) (by simp) ?_;refine AllReadyH.cons rfl (fun K hK=>?_) AllReadyH.nil
   go_simp
   refine hK.out _ _ (by (try dsimp only);go_keep) (fun hHeld=>?_);clear hK K;refine wpAnyH_done (by kernel_rfl) ?_ _;go_wp2_with fail;have hputs:=Jy (H25.out.put5 (.int .i64 vk) (.int .i64 vn) (.int .i64 vd) (.int .i64 vu) (.slice voa vL vc));refine bodyPost_ret (v:=.tuple #[.agg #[.int .i64 vk,.int .i64 vn,.int .i64 vd,.int .i64 vu,.slice voa vL vc],.bool false]) ?_ rfl ?_
   · refine Zj Tryz.results187 ?_ ?_ hputs rfl
     all_goals rfl
   · exact⟨⟨_,_,rfl,by rw[HY.out];rfl,⟨_,_,_,_,_,_,_,rfl⟩,fun E hE=>by rw[HY.out]at hE;cases hE⟩,Below.drew (Jh HB5.out hwg (.int .i64 vk) (.int .i64 vn) (.int .i64 vd) (.int .i64 vu) (.slice voa vL vc))⟩
 | some y =>
   obtain⟨E,j'⟩:=y;obtain rfl:ok=true:=HE5.out.1
   go_region_held3 (fun w'=>w'.cell? ⟨g5,0,none⟩=some (.int .i64 vk)∧w'.cell? ⟨g5,1,none⟩=some (.int .i64 vn)∧w'.cell? ⟨g5,2,none⟩=some (.int .i64 vd)∧w'.cell? ⟨g5,3,none⟩=some (.int .i64 vu)∧w'.cell? ⟨g5,4,none⟩=some (.slice voa vL vc)∧w'.cell? ⟨R,0,none⟩=some (.slice oa2 N cap2)∧w'.cell? ⟨R,1,none⟩=some (.int .i64 (j:Int))) (go_keep) (fail)
   go_wp2_with fail;have hpu:=Qm [.int .i64 vk,.int .i64 vn,.int .i64 vd,.int .i64 vu,.slice voa vL vc] w5 g2 0;have hgp:w5.grownBy (J5 w5 g2 0 [.int .i64 vk,.int .i64 vn,.int .i64 vd,.int .i64 vu,.slice voa vL vc]).drew (some g2):=Vd hpu
   have hee:=((HE5.out.2 E rfl).grown hgp (fun k e _=>by injection e with e;omega)).anti (A':=(· < w.heap.size)) fun b hb=>Or.inl (by omega)
   have hjj:=(HJ.out E j' rfl).1;subst hjj;simp only[J5,Nat.zero_add,Nat.reduceAdd]at hee
   have hok:((j:Int)==(N:Int))=Z.isSome:=by
    rw[HY.out];unfold Q0n
    by_cases hj:j=N
    · simp[hj]
    · simp only[hj,if_false];rw[beq_eq_false_iff_ne.2 (by omega)];rfl
   have hZE:∀ E2,Z=some E2→E=E2:=fun E2 hE=>by
    rw[HY.out]at hE;unfold Q0n at hE
    by_cases hj:j=N
    · simpa[hj] using hE
    · simp[hj]at hE
   have hputs:=Jy (H25.out.put5 (.int .i64 vk) (.int .i64 vn) (.int .i64 vd) (.int .i64 vu) (.slice voa vL vc));refine bodyPost_ret (v:=.tuple #[.agg #[.int .i64 vk,.int .i64 vn,.int .i64 vd,.int .i64 vu,.slice voa vL vc],.bool ((j:Int)==(N:Int))]) ?_ rfl ?_
   · refine Zj Tryz.results187 ?_ ?_ hputs rfl
     all_goals rfl
   · exact⟨⟨_,_,rfl,hok,⟨_,_,_,_,_,_,_,rfl⟩,fun E2 hE=>by rw[← hZE E2 hE];exact hee⟩,Below.drew (Jh HB5.out hwg (.int .i64 vk) (.int .i64 vn) (.int .i64 vd) (.int .i64 vu) (.slice voa vL vc))⟩
theorem P9 (A:Nat→Prop) {r:Rt} {u:Int} (hr:U2 r) (hu:Wj u) (w:World):Jk A (Pa r u) (.agg #[.int .i64 1,.int .i64 (Je r).1,.int .i64 (Je r).2,.int .i64 u,.slice none 0 0]) w :=
 ⟨.mk 1 (Je r).1 (Je r).2 u none 0 0 0 [],1,rfl,rfl,Zy.leaf (Z1 _ (by decide)) (Sm hr) hu⟩
theorem Q07 {w7 w8 w9:World} {g6 B3 gg cap3 h2:Nat} {D:List Ex} {x2:Ex} {v:Value} {O:Obj} {k:Int} {xs:List Value}
  (hg8:w7.grownBy w8 (some g6)) (h67:g6<w7.heap.size) (b6:Ql w8 g6 32 #[.int .i64 k,.int .i64 0,.int .i64 0,.int .i64 0,v])
  (hv7:∀ b,v.ownBlock=some b→w7.heap.size≤b∧b<B3) (h73:w7.heap.size≤B3) (h38:B3≤w8.heap.size)
  (hS:∃ hh,J3 (fun b=>b<w7.heap.size∨v.ownBlock=some b) w8 fun w=>∀ x∈D,Zy w hh x)
  (hx:J3 (fun b=>b<B3∨w8.heap.size≤b) w8 fun w=>Zy w h2 x2)
  (ho:w9.ownsRow w7.heap.size 32 5 (.slice (some ⟨gg,0,none⟩) (D.length+1) cap3) (D.length+1) (D.flatMap J6++xs)) (hxs:J6 x2=xs)
  (hg:(w8.alloc O).grownBy w9 v.ownBlock) (hat:v.ownBlock=some gg∨gg=(w8.alloc O).heap.size) :
  w7.grownBy (w9.setCell ⟨g6,4,none⟩ (.slice (some ⟨gg,0,none⟩) (D.length+1) cap3)) (some g6) ∧
  (w9.setCell ⟨g6,4,none⟩ (.slice (some ⟨gg,0,none⟩) (D.length+1) cap3)).ownsRow w7.heap.size 32 5 (.slice (some ⟨gg,0,none⟩) (D.length+1) cap3) (D++[x2]).length ((D++[x2]).flatMap J6) ∧
  Ql (w9.setCell ⟨g6,4,none⟩ (.slice (some ⟨gg,0,none⟩) (D.length+1) cap3)) g6 32 #[.int .i64 k,.int .i64 0,.int .i64 0,.int .i64 0,.slice (some ⟨gg,0,none⟩) (D.length+1) cap3] ∧
  (∃ hh,J3 (fun b=>b<w7.heap.size∨(Value.slice (some ⟨gg,0,none⟩) (D.length+1) cap3).ownBlock=some b) (w9.setCell ⟨g6,4,none⟩ (.slice (some ⟨gg,0,none⟩) (D.length+1) cap3)) fun w=>∀ x∈D++[x2],Zy w hh x):=by
 have hs8:(w8.alloc O).heap.size=w8.heap.size+1:=by simp
 have hG:w8.grownBy w9 v.ownBlock:=Z7 (Qc (Q7 w8 O) _) hg;have hP:=J9 w9 ⟨g6,4,none⟩ (.slice (some ⟨gg,0,none⟩) (D.length+1) cap3);have h78:=hg8.size
 have hgg7:w7.heap.size≤gg:=by
  rcases hat with h|h
  · exact(hv7 gg h).1
  · omega
 have b69:Ql w9 g6 _ _:=(hG.block g6 b6.lt (fun e=>by have:=hv7 g6 e.symm;omega)).trans b6;refine⟨Z7 (Db hg8 hG (fun k e=>(hv7 k e).1)) hP,?_,?_,?_⟩
 · rw[Qd,List.flatMap_append,Zd,hxs];exact ho.kept hP (.inr fun e=>by have e:gg=g6:=Q8 e;omega)
 · have:=b69.put 4 (.slice (some ⟨gg,0,none⟩) (D.length+1) cap3);simpa using this
 · obtain⟨hh,hS⟩:=hS;refine⟨max hh h2,?_⟩
   have hA:∀ b,(b<w7.heap.size∨(Value.slice (some ⟨gg,0,none⟩) (D.length+1) cap3).ownBlock=some b)→(b<w7.heap.size∨v.ownBlock=some b)∨w8.heap.size≤b:=by
    intro b hb
    rcases hb with hb|hb
    · exact Or.inl (Or.inl hb)
    · have e:gg=b:=Q8 hb;subst e
      rcases hat with h|h
      · exact Or.inl (Or.inr h)
      · exact Or.inr (by omega)
   have s1:=(((hS.wide (A':=fun b=>(b<w7.heap.size∨v.ownBlock=some b)∨w8.heap.size≤b) fun b h=>h).grown hG (fun k e _=>Or.inl (Or.inr e))).set (p:=⟨g6,4,none⟩) (Or.inl (Or.inl h67)) (.slice (some ⟨gg,0,none⟩) (D.length+1) cap3)).anti fun b hb _=>hA b hb
   have s2:=((hx.grown hG (fun k e _=>Or.inl (hv7 k e).2)).set (p:=⟨g6,4,none⟩) (Or.inl (show g6<B3 by omega)) (.slice (some ⟨gg,0,none⟩) (D.length+1) cap3)).anti (A':=fun b=>b<w7.heap.size∨(Value.slice (some ⟨gg,0,none⟩) (D.length+1) cap3).ownBlock=some b) fun b hb _=>by
    rcases hA b hb with (hb|hb) | hb
    · exact Or.inl (by omega)
    · exact Or.inl (hv7 b hb).2
    · exact Or.inr hb
   exact (s1.and s2).mono fun w ⟨a,c⟩ x hm=>by
    rcases Zh.1 hm with hm|hm
    · exact Wa _ _ (Nat.le_max_left _ _) (a x hm)
    · obtain rfl:=Qh.1 hm;exact Wa _ _ (Nat.le_max_right _ _) c
def K5 (W:List Vt→Option Et) (k:Int) (done:List Et) (l:List (List Vt)):Option Et:=match N5 W l with
 | none=>none
 | some es=>if k=8∧(done++es).length≠3 then none else some (.mk k 0 0 0 (done++es))
theorem Lo {W:List Vt→Option Et} {k:Int} {done:List Et} {x:List Vt} {r:List (List Vt)} (h:W x=none):K5 W k done (x::r)=none:=by
 unfold K5 N5;rw[h]
theorem Ln {W:List Vt→Option Et} {k:Int} {done:List Et} {x:List Vt} {e:Et} {r:List (List Vt)} (h:W x=some e):K5 W k done (x::r)=K5 W k (done++[e]) r:=by
 unfold K5;rw[N5,h];simp only
 cases N5 W r with
 | none=>rfl
 | some es=>simp
theorem Q2m (h:Nat) (hW:Hp h):Q01 (h+1):=by
 intro v w hv;obtain⟨t,oa,b,o,cap,kids⟩:=v;obtain⟨tk,tt,⟨tn,td⟩,ti,tid⟩:=t;have h64:=hv.1;have hks:=hv.kids;have hkl:=hks.small;have hcl:=hks.sl.le;have hcm:=hks.sl.max;unfold maxLen at hcm;have htl:tt.length≤9223372036854775807:=h64.2.2;have hi64:U2 (tn,td):=h64.2.1;rw[Vl.c_mk,Cr];obtain⟨XL,hXL⟩:∃ XL,kids.map Vl.c=XL:=⟨_,rfl⟩;obtain⟨N,hN⟩:∃ N,kids.length=N:=⟨_,rfl⟩;obtain⟨W,hWd⟩:∃ W,J0 (Kb J0 h)=W:=⟨_,rfl⟩;rw[hXL,hWd]
 have hvv:vv (Vl.mk ⟨tk,tt,(tn,td),ti,tid⟩ oa b o cap kids)=.agg #[.int .i64 tk,.string ⟨tt.toArray⟩,.int .i64 tn,.int .i64 td,.bool ti,.bool tid,.slice oa N cap]:=by rw[← hN];rfl
 rw[hvv];rw[hN]at hkl hcl;obtain⟨Y,hY⟩:∃ Y,K8 W ⟨tk,tt,(tn,td),ti,tid⟩ XL=Y:=⟨_,rfl⟩;rw[hY];have HY:=Q1 hY;have HK:=Q1 (Q3 hN (Q3 hXL hWd));have HI:=Q1 hi64;have HT:=Q1 htl;have HKS:=Q1 hks;clear hY hN hXL hWd hvv hi64 htl hks hv h64
 go_enter Tryz.func157,Tryz.ntmps157
 go_upto_region 2 with fail
 have hb1:=Q7 w (.cells #[.int .i64 tk,.string ⟨tt.toArray⟩,.int .i64 tn,.int .i64 td,.bool ti,.bool tid,.slice oa N cap] 28);have hb2:=(hb1.alloc (by simp) (.cells #[.int .i64 0,.int .i64 0,.int .i64 0,.int .i64 0,.slice none 0 0] 32)).alloc (by simp;omega) (.cells #[.int .i64 tk,.string ⟨tt.toArray⟩,.int .i64 tn,.int .i64 td,.bool ti,.bool tid] 25)
 have B1:Ql (((w.alloc (.cells #[.int .i64 tk,.string ⟨tt.toArray⟩,.int .i64 tn,.int .i64 td,.bool ti,.bool tid,.slice oa N cap] 28)).alloc (.cells #[.int .i64 0,.int .i64 0,.int .i64 0,.int .i64 0,.slice none 0 0] 32)).alloc (.cells #[.int .i64 tk,.string ⟨tt.toArray⟩,.int .i64 tn,.int .i64 td,.bool ti,.bool tid] 25)) w.heap.size 28 #[.int .i64 tk,.string ⟨tt.toArray⟩,.int .i64 tn,.int .i64 td,.bool ti,.bool tid,.slice oa N cap]:=((Ql.new w 28 #[.int .i64 tk,.string ⟨tt.toArray⟩,.int .i64 tn,.int .i64 td,.bool ti,.bool tid,.slice oa N cap]).old _).old _
 have B2:Ql (((w.alloc (.cells #[.int .i64 tk,.string ⟨tt.toArray⟩,.int .i64 tn,.int .i64 td,.bool ti,.bool tid,.slice oa N cap] 28)).alloc (.cells #[.int .i64 0,.int .i64 0,.int .i64 0,.int .i64 0,.slice none 0 0] 32)).alloc (.cells #[.int .i64 tk,.string ⟨tt.toArray⟩,.int .i64 tn,.int .i64 td,.bool ti,.bool tid] 25)) (w.heap.size+1) 32 #[.int .i64 0,.int .i64 0,.int .i64 0,.int .i64 0,.slice none 0 0]:=by
  have h:=(Ql.new (w.alloc (.cells #[.int .i64 tk,.string ⟨tt.toArray⟩,.int .i64 tn,.int .i64 td,.bool ti,.bool tid,.slice oa N cap] 28)) 32 #[.int .i64 0,.int .i64 0,.int .i64 0,.int .i64 0,.slice none 0 0]).old (.cells #[.int .i64 tk,.string ⟨tt.toArray⟩,.int .i64 tn,.int .i64 td,.bool ti,.bool tid] 25);simpa using h
 have B4:Ql (((w.alloc (.cells #[.int .i64 tk,.string ⟨tt.toArray⟩,.int .i64 tn,.int .i64 td,.bool ti,.bool tid,.slice oa N cap] 28)).alloc (.cells #[.int .i64 0,.int .i64 0,.int .i64 0,.int .i64 0,.slice none 0 0] 32)).alloc (.cells #[.int .i64 tk,.string ⟨tt.toArray⟩,.int .i64 tn,.int .i64 td,.bool ti,.bool tid] 25)) (w.heap.size+1+1) 25 #[.int .i64 tk,.string ⟨tt.toArray⟩,.int .i64 tn,.int .i64 td,.bool ti,.bool tid]:=by
  have h:=Ql.new ((w.alloc (.cells #[.int .i64 tk,.string ⟨tt.toArray⟩,.int .i64 tn,.int .i64 td,.bool ti,.bool tid,.slice oa N cap] 28)).alloc (.cells #[.int .i64 0,.int .i64 0,.int .i64 0,.int .i64 0,.slice none 0 0] 32)) 25 #[.int .i64 tk,.string ⟨tt.toArray⟩,.int .i64 tn,.int .i64 td,.bool ti,.bool tid];simpa using h
 have HKV:=Q1 (HKS.out.below hb2)
 have hws:(((w.alloc (.cells #[.int .i64 tk,.string ⟨tt.toArray⟩,.int .i64 tn,.int .i64 td,.bool ti,.bool tid,.slice oa N cap] 28)).alloc (.cells #[.int .i64 0,.int .i64 0,.int .i64 0,.int .i64 0,.slice none 0 0] 32)).alloc (.cells #[.int .i64 tk,.string ⟨tt.toArray⟩,.int .i64 tn,.int .i64 td,.bool ti,.bool tid] 25)).heap.size=w.heap.size+3:=by simp
 have HB:=Q1 hb2;have HWS:=Q1 hws;obtain⟨g1,hg1⟩:∃ g1,w.heap.size=g1:=⟨_,rfl⟩;obtain⟨g2,hg2⟩:∃ g2,w.heap.size+1=g2:=⟨_,rfl⟩;rw[hg2]at B2 B4;obtain⟨g4,hg4⟩:∃ g4,g2+1=g4:=⟨_,rfl⟩;have HG:=Q1 (Q3 hg1 (Q3 hg2 hg4));rw[hg4]at B4;rw[hg1]at B1;simp only[hg2];simp only[hg4];simp only[hg1];clear hg1 hg2 hg4 hb1 hb2 hws HKS;generalize World.alloc (World.alloc (World.alloc w _) _) _=w4 at *;have ca0:w4.cell? ⟨g1,0,none⟩=some (.int .i64 tk):=(B1).cell 0;have fca0:=(B1).frozen 0;have ca1:w4.cell? ⟨g1,1,none⟩=some (.string ⟨tt.toArray⟩):=(B1).cell 1;have fca1:=(B1).frozen 1;have ca2:w4.cell? ⟨g1,2,none⟩=some (.int .i64 tn):=(B1).cell 2;have fca2:=(B1).frozen 2;have ca3:w4.cell? ⟨g1,3,none⟩=some (.int .i64 td):=(B1).cell 3;have fca3:=(B1).frozen 3;have ca4:w4.cell? ⟨g1,4,none⟩=some (.bool ti):=(B1).cell 4;have fca4:=(B1).frozen 4
 have ca5:w4.cell? ⟨g1,5,none⟩=some (.bool tid):=(B1).cell 5;have fca5:=(B1).frozen 5;have ca6:w4.cell? ⟨g1,6,none⟩=some (.slice oa N cap):=(B1).cell 6;have fca6:=(B1).frozen 6;have lca:=(B1).lt;obtain⟨cb0,fcb0,cb1,fcb1,cb2,fcb2,cb3,fcb3,cb4,fcb4,lcb⟩:=Ql.five (B2);have cc0:w4.cell? ⟨g4,0,none⟩=some (.int .i64 tk):=(B4).cell 0;have fcc0:=(B4).frozen 0;have cc1:w4.cell? ⟨g4,1,none⟩=some (.string ⟨tt.toArray⟩):=(B4).cell 1;have fcc1:=(B4).frozen 1;have cc2:w4.cell? ⟨g4,2,none⟩=some (.int .i64 tn):=(B4).cell 2;have fcc2:=(B4).frozen 2;have cc3:w4.cell? ⟨g4,3,none⟩=some (.int .i64 td):=(B4).cell 3;have fcc3:=(B4).frozen 3;have cc4:w4.cell? ⟨g4,4,none⟩=some (.bool ti):=(B4).cell 4;have fcc4:=(B4).frozen 4;have cc5:w4.cell? ⟨g4,5,none⟩=some (.bool tid):=(B4).cell 5;have fcc5:=(B4).frozen 5;have lcc:=(B4).lt;have HB1:=Q1 B1;have HB2:=Q1 B2;have HB4:=Q1 B4
 have HFIN:=Q1 (show ∀ (v:Value) (ok:Bool) (w6 w7:World),ok=Y.isSome→Sh v→(∀ E,Y=some E→Jk (· < w4.heap.size) E v w6)→Below w4.heap.size w4 w6→w6.grownBy w7 (some g2)→Ys (· < w.heap.size) Y (.returned (.tuple #[v,.bool ok])) w7∧Below w.heap.size w w7 from
  fun v ok w6 w7 h1 h2 h3 h4 h5=>⟨⟨v,ok,rfl,h1,h2,fun E hE=>((h3 E hE).grown h5 (fun k e _=>by injection e with e;omega)).anti fun b hb=>Or.inl (by have:=HWS.out;omega)⟩,
   Qu (Qu HB.out (Qc h4 none) (fun _ e=>by cases e)) h5 (fun k e=>by injection e with e;have:=HG.out;omega)⟩)
 clear B1 B2 B4
 by_cases hk10:tk=10
 · have hYk:Y=some (Pa (tn,td) 0):=by
    rw[← HY.out,K8,if_pos hk10]
   subst hk10;have hnum:=Ha (tn,td) 0 w4 HI.out;go_wp2_with fail
   ((with_reducible refine hnum.mono ?_);rintro e w6 ⟨rfl,hbb⟩)
   have h26:=HB2.out.below hbb HB2.out.lt;have HBB:=Q1 hbb;obtain⟨cd0,fcd0,cd1,fcd1,cd2,fcd2,cd3,fcd3,cd4,fcd4,lcd⟩:=Ql.five (h26);have H26:=Q1 h26;clear h26 hnum hbb;go_wp2_with fail;have hputs:=(H26.out).put5 (.int .i64 1) (.int .i64 (Je (tn,td)).1) (.int .i64 (Je (tn,td)).2) (.int .i64 0) (.slice none 0 0);refine bodyPost_ret (v:=.tuple #[.agg #[.int .i64 1,.int .i64 (Je (tn,td)).1,.int .i64 (Je (tn,td)).2,.int .i64 0,.slice none 0 0],.bool true]) ?_ rfl ?_
   · refine Zj Tryz.results157 ?_ ?_ hputs rfl
     all_goals rfl
   · exact HFIN.out _ _ w6 _ (by rw[hYk];rfl) ⟨_,_,_,_,_,_,_,rfl⟩ (fun E hE=>by rw[hYk]at hE;injection hE with hE;subst hE;exact P9 _ HI.out (Z1 _ (by decide)) w6) HBB.out (Qm [.int .i64 1,.int .i64 (Je (tn,td)).1,.int .i64 (Je (tn,td)).2,.int .i64 0,.slice none 0 0] w6 g2 0)
 by_cases hk12:tk=12
 · have hYk:Y=if Xx tt=0 then none else some (Pa (tn,td) (Xx tt)):=by
    rw[← HY.out,K8,if_neg hk10,if_pos hk12]
   subst hk12;have HU:=Q1 (fun w=>Q2u tt w HT.out);have hU7:=Rj tt;generalize Xx tt=U at *;have HYK:=Q1 hYk
   have hnum:=fun w=>Ha (tn,td) (U:Int) w HI.out
   have HNUM:=Q1 hnum;clear hYk hnum
   go_upto_region 7 with fail
   have KEEP:∀ w',Below w4.heap.size w4 w'→w'.cell? ⟨g4,1,none⟩=some (.string ⟨tt.toArray⟩)∧w'.cell? ⟨g4,2,none⟩=some (.int .i64 tn)∧w'.cell? ⟨g4,3,none⟩=some (.int .i64 td):=fun w' hb =>
    have h:=HB4.out.below hb HB4.out.lt
    ⟨h.cell 1,h.cell 2,h.cell 3⟩
   refine wp_region_held_drew (S:=(fun w'=>w'.cell? ⟨g4,1,none⟩=some (.string ⟨tt.toArray⟩)∧w'.cell? ⟨g4,2,none⟩=some (.int .i64 tn)∧w'.cell? ⟨g4,3,none⟩=some (.int .i64 td))) (by kernel_rfl) (by (try dsimp only);go_keep) (fun hHeld=>?_);refine wpAnyH_take (i:=0) (v:=?hvv0_1) rfl (by kernel_rfl) (by kernel_rfl) (by kernel_rfl) (fun _ _ _ h=>h) (Or.inl ⟨by rfl,?hhy0_1⟩) (by assumption) ?_
   case hhy0_1=>(intro w hSw;(try dsimp only at hSw);go_simp;try with_reducible rfl)
   change wpAnyH _ _ _ _ _ _ _ (Act.put _ (some 23) _) _
   try simp only[Act.put,Q2,Q4,Q5]
   refine wpAnyH_take (i:=1) (v:=?hvv1_2) rfl (by kernel_rfl) (by kernel_rfl) (by kernel_rfl) (fun _ _ _ h=>h) (Or.inl ⟨by rfl,?hhy1_2⟩) (by assumption) ?_
   case hhy1_2=>(intro w hSw;(try dsimp only at hSw);go_simp;try with_reducible rfl)
   change wpAnyH _ _ _ _ _ _ _ (Act.put _ (some 24) _) _
   try simp only[Act.put,Q2,Q4,Q5]
   refine wpAnyH_take (i:=2) (v:=?hvv2_3) rfl (by kernel_rfl) (by kernel_rfl) (by kernel_rfl) (fun _ _ _ h=>h) (Or.inl ⟨by rfl,?hhy2_3⟩) (by assumption) ?_
   case hhy2_3=>(intro w hSw;(try dsimp only at hSw);go_simp;try with_reducible rfl)
   change wpAnyH _ _ _ _ _ _ _ (Act.put _ (some 25) _) _
   try simp only[Act.put,Q2,Q4,Q5]
   refine wpAnyH_take (i:=3) (v:=?hvv3_4) rfl (by kernel_rfl) (by kernel_rfl) (by kernel_rfl) (fun _ _ _ h=>h) (Or.inl ⟨by rfl,?hhy3_4⟩) (by assumption) ?_
   case hhy3_4=>(intro w hSw;(try dsimp only at hSw);go_simp;try with_reducible rfl)
   change wpAnyH _ _ _ _ _ _ _ (Act.put _ (some 26) _) _
   try simp only[Act.put,Q2,Q4,Q5]
   refine wpAnyH_take (i:=6) (v:=?hvv6_5) rfl (by kernel_rfl) (by kernel_rfl) (by kernel_rfl) (fun _ _ _ h=>h) (Or.inl ⟨by rfl,?hhy6_5⟩) (by assumption) ?_
   case hhy6_5=>(intro w hSw;(try dsimp only at hSw);go_simp;try with_reducible rfl)
   change wpAnyH _ _ _ _ _ _ _ (Act.put _ (some 29) _) _
   try simp only[Act.put,Q2,Q4,Q5]
   refine wpAnyH_take (i:=7) (v:=?hvv7_6) rfl (by kernel_rfl) (by kernel_rfl) (by kernel_rfl) (fun _ _ _ h=>h) (Or.inl ⟨by rfl,?hhy7_6⟩) (by assumption) ?_
   case hhy7_6=>(intro w hSw;(try dsimp only at hSw);go_simp;try with_reducible rfl)
   change wpAnyH _ _ _ _ _ _ _ (Act.put _ (some 30) _) _
   try simp only[Act.put,Q2,Q4,Q5]
   refine wpAnyH_ready (rs:=[4]) (by kernel_rfl) (by simp) ?_;refine AllReadyH.cons rfl (fun K hK=>?_) AllReadyH.nil
   go_simp
   ((with_reducible refine(HU.out _).mono ?_);rintro e w' ⟨rfl,hbw⟩;obtain⟨m5,rfl⟩:=Qf hbw;clear hbw)
   go_wp2_with fail;refine hK.out _ _ (KEEP _ (by repeat (first|with_reducible exact Below.refl _ _ | with_reducible refine Below.drew ?_ | with_reducible refine Qa ?_ _))) (fun hHeld=>?_);clear hK K;refine wpAnyH_ready (rs:=[5]) (by kernel_rfl) (by simp) ?_;refine AllReadyH.cons rfl (fun K hK=>?_) AllReadyH.nil
   go_simp
   ((with_reducible refine(HNUM.out _).mono ?_);rintro e w' ⟨rfl,hbw⟩;obtain⟨m6,rfl⟩:=Qf hbw;clear hbw)
   go_wp2_with fail;refine hK.out _ _ (KEEP _ (by repeat (first|with_reducible exact Below.refl _ _ | with_reducible refine Below.drew ?_ | with_reducible refine Qa ?_ _))) (fun hHeld=>?_);clear hK K;refine wpAnyH_ready (rs:=[8]) (by kernel_rfl) (by simp) ?_;refine AllReadyH.cons rfl (fun K hK=>?_) AllReadyH.nil
   go_simp
   ((with_reducible refine(HU.out _).mono ?_);rintro e w' ⟨rfl,hbw⟩;obtain⟨m7,rfl⟩:=Qf hbw;clear hbw)
   go_wp2_with fail;refine hK.out _ _ (KEEP _ (by repeat (first|with_reducible exact Below.refl _ _ | with_reducible refine Below.drew ?_ | with_reducible refine Qa ?_ _))) (fun hHeld=>?_);clear hK K;refine wpAnyH_take (i:=9) (v:=?hvv9_7) rfl (by kernel_rfl) (by kernel_rfl) (by kernel_rfl) (fun _ _ _ h=>h) (Or.inl ⟨by rfl,?hhy9_7⟩) (by assumption) ?_
   case hhy9_7=>(intro w hSw;(try dsimp only at hSw);go_simp;try with_reducible rfl)
   change wpAnyH _ _ _ _ _ _ _ (Act.put _ (some 32) _) _
   try simp only[Act.put,Q2,Q4,Q5]
   have HB7:=Q1 (show Below w4.heap.size w4 (grow w4.drew ((m5.trans m6).trans m7)) from Qa (Below.drew (Below.refl _ _)) _);generalize grow w4.drew ((m5.trans m6).trans m7)=w7 at *
   have hn24:¬ g4=g2:=by have:=HG.out;omega
   have hn42:¬ g2=g4:=by omega
   have h27:=HB2.out.below HB7.out HB2.out.lt;obtain⟨ce0,fce0,ce1,fce1,ce2,fce2,ce3,fce3,ce4,fce4,lce⟩:=Ql.five (h27);have H27:=Q1 h27;clear h27;refine wpAnyH_ready (rs:=[10]) (by kernel_rfl) (by simp) ?_;refine AllReadyH.cons rfl (fun K hK=>?_) AllReadyH.nil
   go_simp
   refine hK.out _ _ (by (try dsimp only);go_keep) (fun hHeld=>?_);clear hK K;refine wpAnyH_take (i:=11) (v:=?hvv11_8) rfl (by kernel_rfl) (by kernel_rfl) (by kernel_rfl) (fun _ _ _ h=>h) (Or.inl ⟨by rfl,?hhy11_8⟩) (by assumption) ?_
   case hhy11_8=>(intro w hSw;(try dsimp only at hSw);go_simp;try with_reducible rfl)
   change wpAnyH _ _ _ _ _ _ _ (Act.put _ (some 3) _) _
   try simp only[Act.put,Q2,Q4,Q5]
   refine wpAnyH_done (by kernel_rfl) ?_ _
   have hok:(!((U:Int)==0))=Y.isSome:=by
    rw[HYK.out]
    by_cases hu:U=0
    · subst hu;rfl
    · rw[if_neg hu,beq_eq_false_iff_ne.2 (by omega)];rfl
   have hEE:∀ E,Y=some E→Pa (tn,td) (U:Int)=E:=fun E hE=>by
    rw[HYK.out]at hE
    by_cases hu:U=0
    · rw[if_pos hu]at hE;cases hE
    · rw[if_neg hu]at hE;exact Q8 hE
   go_wp2_with fail;have hputs:=(H27.out).put5 (.int .i64 1) (.int .i64 (Je (tn,td)).1) (.int .i64 (Je (tn,td)).2) (.int .i64 (U:Int)) (.slice none 0 0);refine bodyPost_ret (v:=.tuple #[.agg #[.int .i64 1,.int .i64 (Je (tn,td)).1,.int .i64 (Je (tn,td)).2,.int .i64 (U:Int),.slice none 0 0],.bool (!((U:Int)==0))]) ?_ rfl ?_
   · refine Zj Tryz.results157 ?_ ?_ hputs rfl
     all_goals rfl
   · exact HFIN.out _ _ w7 _ hok ⟨_,_,_,_,_,_,_,rfl⟩ (fun E hE=>by rw[← hEE E hE];exact P9 _ HI.out (Z1 _ (by omega)) w7) HB7.out (Qm [.int .i64 1,.int .i64 (Je (tn,td)).1,.int .i64 (Je (tn,td)).2,.int .i64 (U:Int),.slice none 0 0] w7 g2 0)
 by_cases hk2:tk=2
 · have hYk:Y=if U6 tt=Cq then W XL else if Gg (U6 tt)=0 then none else match N5 W (Y0 XL) with
    | none=>none
    | some es=>if Gg (U6 tt)=8∧es.length≠3 then none else some (.mk (Gg (U6 tt)) 0 0 0 es):=by
    rw[← HY.out,K8,if_neg hk10,if_neg hk12,if_pos hk2];rfl
   subst hk2;have HSM:=Q1 (Me tt w4 HT.out);generalize U6 tt=L at *;have HYK:=Q1 hYk;clear hYk
   go_upto_region 10 with fail
   go_wp2_with fail
   ((with_reducible refine HSM.out.mono ?_);rintro e w5 ⟨rfl,hb5⟩)
   have HB5:=Q1 hb5;have h15:=HB1.out.below hb5 HB1.out.lt;have h25:=HB2.out.below hb5 HB2.out.lt;have HKV5:=Q1 (HKV.out.below hb5);have cd0:w5.cell? ⟨g1,0,none⟩=some (.int .i64 2):=(h15).cell 0;have fcd0:=(h15).frozen 0;have cd1:w5.cell? ⟨g1,1,none⟩=some (.string ⟨tt.toArray⟩):=(h15).cell 1;have fcd1:=(h15).frozen 1;have cd2:w5.cell? ⟨g1,2,none⟩=some (.int .i64 tn):=(h15).cell 2;have fcd2:=(h15).frozen 2;have cd3:w5.cell? ⟨g1,3,none⟩=some (.int .i64 td):=(h15).cell 3;have fcd3:=(h15).frozen 3;have cd4:w5.cell? ⟨g1,4,none⟩=some (.bool ti):=(h15).cell 4;have fcd4:=(h15).frozen 4;have cd5:w5.cell? ⟨g1,5,none⟩=some (.bool tid):=(h15).cell 5;have fcd5:=(h15).frozen 5;have cd6:w5.cell? ⟨g1,6,none⟩=some (.slice oa N cap):=(h15).cell 6;have fcd6:=(h15).frozen 6;have lcd:=(h15).lt;obtain⟨ce0,fce0,ce1,fce1,ce2,fce2,ce3,fce3,ce4,fce4,lce⟩:=Ql.five (h25);have H15:=Q1 h15
   have H25:=Q1 h25;have hw45:=hb5.size;clear hb5 h15 h25 HSM ca0 ca1 ca2 ca3 ca4 ca5 ca6 fca0 fca1 fca2 fca3 fca4 fca5 fca6 lca cb0 cb1 cb2 cb3 cb4 fcb0 fcb1 fcb2 fcb3 fcb4 lcb cc0 cc1 cc2 cc3 cc4 cc5 fcc0 fcc1 fcc2 fcc3 fcc4 fcc5 lcc
   go_upto_block 1 with fail
   go_cut [5] from 35 to 51 (fun s wx=>wx=w5∧∃ k:Int,s=.int .i64 k∧Hid (k=6∨k=7∨k=8)∧Hid (Gg L=k)∧Hid (L≠Cq))
   case first =>
    by_cases hc:L=Cq
    · have q0:(L==[99,97,108,99])=true:=by rw[hc];rfl
      have hYk:W XL=Y:=by rw[HYK.out,if_pos hc]
      have hwc:=hW kids oa cap b o w5 HKV5.out;rw[HK.out.2.2,HK.out.2.1,HK.out.1,hYk]at hwc;have HC:=Q1 hwc;clear hwc hYk;go_wp2_with fail
      ((with_reducible refine HC.out.mono ?_);rintro e w6 ⟨⟨v,ok,rfl,hok,h5,hE⟩,hbb⟩)
      obtain⟨vk,vn,vd,vu,voa,vL,vc,rfl⟩:=h5;have h26:=H25.out.below hbb H25.out.lt;obtain⟨cf0,fcf0,cf1,fcf1,cf2,fcf2,cf3,fcf3,cf4,fcf4,lcf⟩:=Ql.five (h26);have HE:=Q1 (Q3 hok (Q3 hE hbb));have H26:=Q1 h26;clear h26 hok hE hbb;go_wp2_with fail;have hputs:=(H26.out).put5 (.int .i64 vk) (.int .i64 vn) (.int .i64 vd) (.int .i64 vu) (.slice voa vL vc);refine bodyPost_ret (v:=.tuple #[.agg #[.int .i64 vk,.int .i64 vn,.int .i64 vd,.int .i64 vu,.slice voa vL vc],.bool ok]) ?_ rfl ?_
      · refine Zj Tryz.results157 ?_ ?_ hputs rfl
        all_goals rfl
      · exact HFIN.out _ _ w6 _ HE.out.1 ⟨_,_,_,_,_,_,_,rfl⟩ (fun E hE=>(HE.out.2.1 E hE).anti fun b hb=>Or.inl (by omega)) (Qu HB5.out (Qc HE.out.2.2 none) (fun _ e=>by cases e)) (Qm [.int .i64 vk,.int .i64 vn,.int .i64 vd,.int .i64 vu,.slice voa vL vc] w6 g2 0)
    · have q0:(L==[99,97,108,99])=false:=beq_eq_false_iff_ne.2 hc;have HNC:=Q1 hc
      by_cases hm6:L=Q64
      · have q1:(L==[109,105,110])=true:=by rw[hm6];rfl
        go_wp2_with fail;go_meet;exact⟨rfl,6,rfl,Q1 (by omega),Q1 (by rw[hm6];decide),HNC⟩
      have q1:(L==[109,105,110])=false:=beq_eq_false_iff_ne.2 hm6
      by_cases hm7:L=Q66
      · have q2:(L==[109,97,120])=true:=by rw[hm7];rfl
        go_wp2_with fail;go_meet;exact⟨rfl,7,rfl,Q1 (by omega),Q1 (by rw[hm7];decide),HNC⟩
      have q2:(L==[109,97,120])=false:=beq_eq_false_iff_ne.2 hm7
      by_cases hm8:L=Ps
      · have q3:(L==[99,108,97,109,112])=true:=by rw[hm8];rfl
        go_wp2_with fail;go_meet;exact⟨rfl,8,rfl,Q1 (by omega),Q1 (by rw[hm8];decide),HNC⟩
      have q3:(L==[99,108,97,109,112])=false:=beq_eq_false_iff_ne.2 hm8
      have hYk:Y=none:=by rw[HYK.out,if_neg hc,if_pos (by unfold Gg;rw[if_neg hm6,if_neg hm7,if_neg hm8])]
      go_wp2_with fail;have hputs:=(H25.out).put5 (.int .i64 0) (.int .i64 0) (.int .i64 0) (.int .i64 0) (.slice none 0 0);refine bodyPost_ret (v:=.tuple #[.agg #[.int .i64 0,.int .i64 0,.int .i64 0,.int .i64 0,.slice none 0 0],.bool false]) ?_ rfl ?_
      · refine Zj Tryz.results157 ?_ ?_ hputs rfl
        all_goals rfl
      · exact HFIN.out _ _ w5 _ (by rw[hYk];rfl) ⟨_,_,_,_,_,_,_,rfl⟩ (fun E hE=>by rw[hYk]at hE;cases hE) HB5.out (Qm [.int .i64 0,.int .i64 0,.int .i64 0,.int .i64 0,.slice none 0 0] w5 g2 0)
   case rest =>
    obtain⟨rfl,k,rfl,hk,hkS,hnc⟩:=hcut;obtain⟨P,hP⟩:∃ P,Y0 XL=P:=⟨_,rfl⟩
    have hY2:Y=K5 W k [] P:=by
     rw[HYK.out,if_neg hnc.out,if_neg (by rw[hkS.out];have:=hk.out;omega),hkS.out,hP];rfl
    have HY2:=Q1 hY2;clear hY2
    go_upto_region 21 with fail
    have h26:=H25.out.old (.cells #[.int .i64 k,.int .i64 0,.int .i64 0,.int .i64 0,.slice none 0 0] 32);have h16:=H15.out.old (.cells #[.int .i64 k,.int .i64 0,.int .i64 0,.int .i64 0,.slice none 0 0] 32);have h66:=Ql.new wc 32 #[.int .i64 k,.int .i64 0,.int .i64 0,.int .i64 0,.slice none 0 0];have hb6:=Qu HB5.out (Qc (Q7 wc (.cells #[.int .i64 k,.int .i64 0,.int .i64 0,.int .i64 0,.slice none 0 0] 32)) none) (fun _ e=>by cases e);have hsp:=Lg h kids oa cap b o _ (HKV5.out.below (Q7 wc (.cells #[.int .i64 k,.int .i64 0,.int .i64 0,.int .i64 0,.slice none 0 0] 32)));rw[HK.out.2.1,HK.out.1,hP]at hsp;have HSP:=Q1 hsp;have HP:=Q1 hP;have H66:=Q1 h66;have H26:=Q1 h26;have HB6:=Q1 hb6
    have hw56:(wc.alloc (.cells #[.int .i64 k,.int .i64 0,.int .i64 0,.int .i64 0,.slice none 0 0] 32)).heap.size=wc.heap.size+1:=by simp
    have HW56:=Q1 hw56;clear hw56 hsp h66 h26 hb6 HKV5 hP;obtain⟨g6,hg6⟩:∃ g6,wc.heap.size=g6:=⟨_,rfl⟩;have HG6:=Q1 hg6;rw[hg6]at H66 hw45;simp only[hg6];clear hg6;generalize wc.alloc _=w6 at *;have cf0:w6.cell? ⟨g1,0,none⟩=some (.int .i64 2):=(h16).cell 0;have fcf0:=(h16).frozen 0;have cf1:w6.cell? ⟨g1,1,none⟩=some (.string ⟨tt.toArray⟩):=(h16).cell 1;have fcf1:=(h16).frozen 1;have cf2:w6.cell? ⟨g1,2,none⟩=some (.int .i64 tn):=(h16).cell 2;have fcf2:=(h16).frozen 2;have cf3:w6.cell? ⟨g1,3,none⟩=some (.int .i64 td):=(h16).cell 3;have fcf3:=(h16).frozen 3;have cf4:w6.cell? ⟨g1,4,none⟩=some (.bool ti):=(h16).cell 4;have fcf4:=(h16).frozen 4;have cf5:w6.cell? ⟨g1,5,none⟩=some (.bool tid):=(h16).cell 5;have fcf5:=(h16).frozen 5;have cf6:w6.cell? ⟨g1,6,none⟩=some (.slice oa N cap):=(h16).cell 6;have fcf6:=(h16).frozen 6;have lcf:=(h16).lt;clear h16;go_wp2_with fail
    ((with_reducible refine HSP.out.mono ?_);rintro e w7 ⟨⟨pv,rfl,poa,pcap,pb,D,rfl,hDP,hsl,hps⟩,hb67⟩)
    have hM1:P.length≤N+1:=by
     rw[← HP.out,← HK.out.1];have h:=Y2 XL [];rw[← HK.out.2.1,Qj]at h;unfold Y0;rw[← HK.out.2.1];omega
    obtain⟨M,hM⟩:∃ M,D.length=M:=⟨_,rfl⟩
    have hMN:M≤N+1:=by omega
    have HSL:=Q1 hsl;have HPS:=Q1 hps;have HD:=Q1 (Q3 hM (hDP.symm.trans hM));have hcl7:=hsl.here.le;have hcm7:=hsl.here.max;unfold maxLen at hcm7;rw[hM]at hcl7;simp only[hM];have h67:=hb67.size;have H67:=Q1 (H66.out.below hb67 H66.out.lt);have H27:=Q1 (H26.out.below hb67 H26.out.lt);have HB7:=Q1 (Qu HB6.out (Qc hb67 none) (fun _ e=>by cases e));have hg67:g6<w6.heap.size:=H66.out.lt;have hg24:g2<w4.heap.size:=HB2.out.lt;clear hM hsl hps hDP hM1 hb67 HSP H66 H26 HB6 H15 H25;go_wp2_with fail
    go_loopg [58] M (fun q s58 wr=>∃ (i:Nat) (E:List Ex) (v:Value),s58=.int .i64 (i:Int)∧i≤M∧Hid (w7.grownBy wr (some g6))∧Hid (wr.ownsRow w7.heap.size 32 5 v E.length (E.flatMap J6))∧Hid (Ql wr g6 32 #[.int .i64 k,.int .i64 0,.int .i64 0,.int .i64 0,v]) ∧
     Hid (∃ hh,J3 (fun b=>b<w7.heap.size∨v.ownBlock=some b) wr fun w=>∀ x∈E,Zy w hh x)∧Hid (E.length=i)∧Hid (Y=K5 W k (E.map Ex.c) (P.drop i))∧M-i≤q)
    case atStart=>exact⟨0,[],.slice none 0 0,rfl,Qs _,Q1 (Vy _ _),Q1 (World.ownsRow_nil _ _ _ _),H67,Q1 ⟨0,fun _ _ _ _ hx=>by cases hx⟩,Q1 rfl,HY2,by omega⟩
    case round =>
     obtain⟨i,E,v,rfl,hiM,hg,hO,h6,hS,hE,hY,hq⟩:=hrel;have h7r:=hg.out.size;have hr2:=Q1 (show Ql wr g2 32 #[.int .i64 0,.int .i64 0,.int .i64 0,.int .i64 0,.slice none 0 0] from (hg.out.block g2 H27.out.lt (fun e=>by have e:=Q8 e;omega)).trans H27.out)
     by_cases hi:i<M
     · have gi:decide ((i:Int)<(M:Int))=true:=by simp;omega
       have ij0:(0:Int)≤(i:Int):=Int.natCast_nonneg _
       have ijM:(i:Int)<(M:Int):=by omega
       have hil:i<D.length:=by rw[HD.out.1];exact hi
       have hip:i<P.length:=by rw[HD.out.2];exact hi
       obtain⟨s,hs⟩:∃ s,D[i]?=some s:=⟨_,Q9 hil⟩;obtain⟨X,hX⟩:∃ X,P[i]?=some X:=⟨_,Q9 hip⟩
       have hdrop:P.drop i=X::P.drop (i+1):=by
        rw[Q9 hip]at hX
        injection hX with hX
        rw[← hX];exact Qv hip
       have hv:=(HPS.out i s X hs hX).grown hg.out (fun k e _=>by have e:=Q8 e;show k<w6.heap.size;omega);obtain⟨oa',cap',b',o',l',rfl,hc',hs'⟩:=hv;have hslr:=(HSL.out.grown hg.out (fun k e _=>by have e:=Q8 e;show k<w6.heap.size;omega)).here;have hcell:=hslr.cell i _ hs;obtain⟨rfl,hpb⟩:=hslr.lies (by omega);rw[Nat.zero_add]at hcell;have hwc:=hW l' oa' cap' b' o' wr hs'.here;rw[HK.out.2.2,hc']at hwc;obtain⟨N',hN'⟩:∃ N',l'.length=N':=⟨_,rfl⟩;rw[hN']at hwc hcell;obtain⟨r,hr⟩:∃ r,W X=r:=⟨_,rfl⟩;rw[hr]at hwc;have HWC:=Q1 hwc;have HR:=Q1 hr;have HDR:=Q1 hdrop;clear hwc hr hdrop hil hip hs hX hc' hs' hslr hN';go_wp2_with fail
       ((with_reducible refine HWC.out.mono ?_);rintro e w8 ⟨⟨ev,ok,rfl,hok,h5,hE8⟩,hb8⟩)
       obtain⟨vk,vn,vd,vu,voa,vL,vc,rfl⟩:=h5;have HE8:=Q1 (Q3 hok hE8);have hr8:=hb8.size;have HG8:=Q1 (Z7 hg.out (Qc hb8 _));have HO8:=Q1 (Jc hO.out hb8);have H68:=Q1 (h6.out.below hb8 h6.out.lt);have H28:=Q1 (hr2.out.below hb8 hr2.out.lt)
       have HS8:=Q1 (show ∃ hh,J3 (fun b=>b<w7.heap.size∨v.ownBlock=some b) w8 fun w=>∀ x∈E,Zy w hh x from by
        obtain⟨hh,hs⟩:=hS.out
        exact⟨hh,hs.below hb8⟩)
       have HV7:=Q1 (show ∀ b,v.ownBlock=some b→w7.heap.size≤b∧b<wr.heap.size from fun b e=>hO.out.lt b e);clear hok hE8 hb8 hg hO h6 hr2 hS HWC hcell
       go_upto_region 25 with fail
       have hg9:=Q1 (Z7 HG8.out (Qc (Q7 w8 (.cells #[.int .i64 vk,.int .i64 vn,.int .i64 vd,.int .i64 vu,.slice voa vL vc] 32)) _));have ho9:=Q1 (HO8.out.alloc (.cells #[.int .i64 vk,.int .i64 vn,.int .i64 vd,.int .i64 vu,.slice voa vL vc] 32));have h69:=Q1 (H68.out.old (.cells #[.int .i64 vk,.int .i64 vn,.int .i64 vd,.int .i64 vu,.slice voa vL vc] 32));have h29:=Q1 (H28.out.old (.cells #[.int .i64 vk,.int .i64 vn,.int .i64 vd,.int .i64 vu,.slice voa vL vc] 32));have h99:=Ql.new w8 32 #[.int .i64 vk,.int .i64 vn,.int .i64 vd,.int .i64 vu,.slice voa vL vc]
       have hs9:=Q1 (show ∃ hh,J3 (fun b=>b<w7.heap.size∨v.ownBlock=some b) (w8.alloc (.cells #[.int .i64 vk,.int .i64 vn,.int .i64 vd,.int .i64 vu,.slice voa vL vc] 32)) fun w=>∀ x∈E,Zy w hh x from by
        obtain⟨hh,hs⟩:=HS8.out
        exact⟨hh,hs.alloc _⟩)
       have he9:=Q1 (Q3 HE8.out.1 (fun E2 hE2=>(HE8.out.2 E2 hE2).below (Q7 w8 (.cells #[.int .i64 vk,.int .i64 vn,.int .i64 vd,.int .i64 vu,.slice voa vL vc] 32))))
       have hw89:w8.heap.size≤(w8.alloc (.cells #[.int .i64 vk,.int .i64 vn,.int .i64 vd,.int .i64 vu,.slice voa vL vc] 32)).heap.size:=by simp
       clear HG8 HO8 H68 H28 HS8 HE8;generalize w8.heap.size=g9 at *;generalize w8.alloc _=w9 at *;obtain⟨cg0,fcg0,cg1,fcg1,cg2,fcg2,cg3,fcg3,cg4,fcg4,lcg⟩:=Ql.five (h99);obtain⟨ch0,fch0,ch1,fch1,ch2,fch2,ch3,fch3,ch4,fch4,lch⟩:=Ql.five (h69.out);obtain⟨ci0,fci0,ci1,fci1,ci2,fci2,ci3,fci3,ci4,fci4,lci⟩:=Ql.five (h29.out);clear h99
       cases r with
       | none =>
         obtain rfl:ok=false:=he9.out.1
         have hYk:Y=none:=by rw[hY.out,HDR.out,Lo HR.out]
         go_wp2_with fail;have hputs:=(h29.out).put5 (.int .i64 0) (.int .i64 0) (.int .i64 0) (.int .i64 0) (.slice none 0 0);refine bodyPost_ret (v:=.tuple #[.agg #[.int .i64 0,.int .i64 0,.int .i64 0,.int .i64 0,.slice none 0 0],.bool false]) ?_ rfl ?_
         · refine Zj Tryz.results157 ?_ ?_ hputs rfl
           all_goals rfl
         · exact HFIN.out _ _ w9 _ (by rw[hYk];rfl) ⟨_,_,_,_,_,_,_,rfl⟩ (fun E hE=>by rw[hYk]at hE;cases hE) (Qu HB7.out hg9.out (fun k e=>by have e:=Q8 e;omega)) (Qm [.int .i64 0,.int .i64 0,.int .i64 0,.int .i64 0,.slice none 0 0] w9 g2 0)
       | some E2 =>
         obtain rfl:ok=true:=he9.out.1;obtain⟨x2,hx2,hxv,hxc,hxs⟩:=he9.out.2 E2 rfl;have HX2:=Q1 (Q3 hxv (Q3 hxc hxs));clear hxv hxc hxs he9
         go_upto_region 27 with fail
         have hbs:=Q1 (show w7.heap.size≤w9.heap.size from hg9.out.size);have hEi:E.length≤i:=Qr hE.out;go_wp2_with (at_builtin;refine J4 Dd rfl _ _ rfl rfl (ho9.out.alloc _) (by have:=hbs.out;simp;omega) (Ql.new w9 _ _) 1 rfl rfl (by simp[Value.oneCell']) (by omega) (by omega) ?_;intro gg cap3 wA hoA hgA hatA hvbA;have HA:=Q1 (Q3 hoA (Q3 hgA (Q3 hatA hvbA)));have ch4':=(hgA.cell_far (a:=⟨g6,4,none⟩) (by simp;omega) (fun e=>by have:=(HV7.out g6 e.symm).1;omega)).trans ((Below.cell (B:=w9.heap.size) (Q7 w9 _) lch).trans ch4);have fch4':=(hgA.frozen_far (a:=⟨g6,4,none⟩) (by simp;omega) (fun e=>by have:=(HV7.out g6 e.symm).1;omega)).trans ((Below.frozen (B:=w9.heap.size) (Q7 w9 _) lch).trans fch4);clear hoA hgA hatA hvbA)
         go_roundg (M-(i+1))
         case measure=>omega
         case rel =>
          obtain⟨hoA,hgA,hatA,_⟩:=HA.out
          have hxcl:J6 x2=[.int .i64 vk,.int .i64 vn,.int .i64 vd,.int .i64 vu,.slice voa vL vc]:=by
           have e:=HX2.out.1;unfold xv at e
           injection e with e
           have:=congrArg Array.toList e;simpa using this.symm
          obtain⟨a1,a2,a3,a4⟩:=Q07 (B3:=wr.heap.size) hg9.out (by omega) h69.out HV7.out h7r (by omega) hs9.out (HX2.out.2.2.wide (A':=fun b=>b<wr.heap.size∨w9.heap.size≤b) fun b hb=>hb) hoA hxcl (show World.grownBy _ _ v.ownBlock from hgA) (show v.ownBlock=some gg∨_ from hatA);refine⟨i+1,E++[x2],_,by go_num,hi,Q1 a1,Q1 a2,Q1 a3,Q1 a4,Q1 (by rw[Qd,hE.out];rfl),Q1 ?_,Q6 _⟩;rw[hY.out,HDR.out,Ln HR.out,Zp,List.map_cons,List.map_nil,HX2.out.2.1]
     · have gi:decide ((i:Int)<(M:Int))=false:=by simp;omega
       obtain rfl:i=M:=by omega
       have hYe:Y=if k=8∧(E.map Ex.c).length≠3 then none else some (.mk k 0 0 0 (E.map Ex.c)):=by
        rw[hY.out,Z3 (by rw[HD.out.2];exact Q6 _)];unfold K5 N5;simp only[List.append_nil]
       have HYE:=Q1 hYe;obtain⟨voa,vcap,gv,rfl,hsl,hpos⟩:=Zx hO.out
       have hex:Jk (· < w4.heap.size) (.mk k 0 0 0 (E.map Ex.c)) (.agg #[.int .i64 k,.int .i64 0,.int .i64 0,.int .i64 0,.slice voa E.length vcap]) wr:=by
        obtain⟨hh,hs⟩:=hS.out;refine⟨.mk k 0 0 0 voa gv 0 vcap E,hh+1,rfl,Ex.c_mk _ _ _ _ _ _ _ _ _,Zy.made (Z1 _ (by have:=hk.out;omega)) (by unfold U2;decide) (Z1 _ (by decide)) (by have:=hE.out;omega) hsl (fun hp hb=>?_) (hs.anti fun b hb _=>Or.inl ?_)⟩
        · have:=hpos hp;omega
        · have hb:b<w4.heap.size:=hb;omega
       have HXE:=Q1 hex;have hEl:(E.map Ex.c).length=E.length:=Qj _;have HEL:=Q1 hEl;have HELM:=Q1 hE.out;obtain⟨EL,hEL⟩:∃ EL,E.length=EL:=⟨_,rfl⟩;rw[hEL]at h6 HXE HEL HELM;clear hYe hex hsl hpos hEl hEL hO hS hY;obtain⟨ch0,fch0,ch1,fch1,ch2,fch2,ch3,fch3,ch4,fch4,lch⟩:=Ql.five (h6.out);obtain⟨ci0,fci0,ci1,fci1,ci2,fci2,ci3,fci3,ci4,fci4,lci⟩:=Ql.five (hr2.out)
       have hn26:¬ g6=g2:=by omega
       have hn62:¬ g2=g6:=by omega
       clear h6
       go_upto_region 29 with fail
       have hk3:=hk.out
       rcases hk3 with rfl|rfl|rfl
       · refine wp_region_held_drew (S:=(fun w'=>w'.cell? ⟨g6,0,none⟩=some (.int .i64 6)∧w'.cell? ⟨g6,1,none⟩=some (.int .i64 0)∧w'.cell? ⟨g6,2,none⟩=some (.int .i64 0)∧w'.cell? ⟨g6,3,none⟩=some (.int .i64 0)∧w'.cell? ⟨g6,4,none⟩=some (.slice voa EL vcap))) (by kernel_rfl) (by (try dsimp only);go_keep) (fun hHeld=>?_);refine wpAnyH_take (i:=0) (v:=?hvv0_9) rfl (by kernel_rfl) (by kernel_rfl) (by kernel_rfl) (fun _ _ _ h=>h) (Or.inl ⟨by rfl,?hhy0_9⟩) (by assumption) ?_
         case hhy0_9=>(intro w hSw;(try dsimp only at hSw);go_simp;try with_reducible rfl)
         change wpAnyH _ _ _ _ _ _ _ (Act.put _ (some 77) _) _
         try simp only[Act.put,Q2,Q4,Q5]
         refine wpAnyH_take (i:=1) (v:=?hvv1_10) rfl (by kernel_rfl) (by kernel_rfl) (by kernel_rfl) (fun _ _ _ h=>h) (Or.inl ⟨by rfl,?hhy1_10⟩) (by assumption) ?_
         case hhy1_10=>(intro w hSw;(try dsimp only at hSw);go_simp;try with_reducible rfl)
         change wpAnyH _ _ _ _ _ _ _ (Act.put _ (some 78) _) _
         try simp only[Act.put,Q2,Q4,Q5]
         refine wpAnyH_take (i:=2) (v:=?hvv2_11) rfl (by kernel_rfl) (by kernel_rfl) (by kernel_rfl) (fun _ _ _ h=>h) (Or.inl ⟨by rfl,?hhy2_11⟩) (by assumption) ?_
         case hhy2_11=>(intro w hSw;(try dsimp only at hSw);go_simp;try with_reducible rfl)
         change wpAnyH _ _ _ _ _ _ _ (Act.put _ (some 79) _) _
         try simp only[Act.put,Q2,Q4,Q5]
         refine wpAnyH_take (i:=3) (v:=?hvv3_12) rfl (by kernel_rfl) (by kernel_rfl) (by kernel_rfl) (fun _ _ _ h=>h) (Or.inl ⟨by rfl,?hhy3_12⟩) (by assumption) ?_
         case hhy3_12=>(intro w hSw;(try dsimp only at hSw);go_simp;try with_reducible rfl)
         change wpAnyH _ _ _ _ _ _ _ (Act.put _ (some 80) _) _
         try simp only[Act.put,Q2,Q4,Q5]
         refine wpAnyH_take (i:=4) (v:=undef) rfl (by kernel_rfl) (by kernel_rfl) (by kernel_rfl) (fun _ _ _ h=>h) (Or.inr ⟨by rfl,rfl⟩) (by assumption) ?_;change wpAnyH _ _ _ _ _ _ _ (Act.put _ (some 81) _) _
         try simp only[Act.put,Q2,Q4,Q5]
         refine wpAnyH_take (i:=5) (v:=undef) rfl (by kernel_rfl) (by kernel_rfl) (by kernel_rfl) (fun _ _ _ h=>h) (Or.inr ⟨by rfl,rfl⟩) (by assumption) ?_;change wpAnyH _ _ _ _ _ _ _ (Act.put _ (some 82) _) _
         try simp only[Act.put,Q2,Q4,Q5]
         refine wpAnyH_take (i:=6) (v:=undef) rfl (by kernel_rfl) (by kernel_rfl) (by kernel_rfl) (fun _ _ _ h=>h) (Or.inr ⟨by rfl,rfl⟩) (by assumption) ?_;change wpAnyH _ _ _ _ _ _ _ (Act.put _ (some 83) _) _
         try simp only[Act.put,Q2,Q4,Q5]
         refine wpAnyH_take (i:=7) (v:=undef) rfl (by kernel_rfl) (by kernel_rfl) (by kernel_rfl) (fun _ _ _ h=>h) (Or.inr ⟨by rfl,rfl⟩) (by assumption) ?_;change wpAnyH _ _ _ _ _ _ _ (Act.put _ (some 84) _) _
         try simp only[Act.put,Q2,Q4,Q5]
         refine wpAnyH_take (i:=8) (v:=?hvv8_13) rfl (by kernel_rfl) (by kernel_rfl) (by kernel_rfl) (fun _ _ _ h=>h) (Or.inl ⟨by rfl,?hhy8_13⟩) (by assumption) ?_
         case hhy8_13=>(intro w hSw;(try dsimp only at hSw);go_simp;try with_reducible rfl)
         change wpAnyH _ _ _ _ _ _ _ (Act.put _ (some 85) _) _
         try simp only[Act.put,Q2,Q4,Q5]
         refine wpAnyH_ready (rs:=[9]) (by kernel_rfl) (by simp) ?_;refine AllReadyH.cons rfl (fun K hK=>?_) AllReadyH.nil
         go_simp
         refine hK.out _ _ (by (try dsimp only);go_keep) (fun hHeld=>?_);clear hK K;refine wpAnyH_take (i:=10) (v:=?hvv10_14) rfl (by kernel_rfl) (by kernel_rfl) (by kernel_rfl) (fun _ _ _ h=>h) (Or.inl ⟨by rfl,?hhy10_14⟩) (by assumption) ?_
         case hhy10_14=>(intro w hSw;(try dsimp only at hSw);go_simp;try with_reducible rfl)
         change wpAnyH _ _ _ _ _ _ _ (Act.put _ (some 3) _) _
         try simp only[Act.put,Q2,Q4,Q5]
         refine wpAnyH_done (by kernel_rfl) ?_ _;go_wp2_with fail
         have hYk:Y=some (.mk 6 0 0 0 (E.map Ex.c)):=by rw[HYE.out,if_neg (by omega)]
         have hputs:=Jy (hr2.out.put5 (.int .i64 6) (.int .i64 0) (.int .i64 0) (.int .i64 0) (.slice voa EL vcap));refine bodyPost_ret (v:=.tuple #[.agg #[.int .i64 6,.int .i64 0,.int .i64 0,.int .i64 0,.slice voa EL vcap],.bool true]) ?_ rfl ?_
         · refine Zj Tryz.results157 ?_ ?_ hputs rfl
           all_goals rfl
         · exact HFIN.out _ _ wr _ (by rw[hYk];rfl) ⟨_,_,_,_,_,_,_,rfl⟩ (fun E2 hE2=>by rw[hYk]at hE2;injection hE2 with hE2;subst hE2;exact HXE.out) (Qu HB7.out hg.out (fun k e=>by have e:=Q8 e;omega)) (Vd (Qm [.int .i64 6,.int .i64 0,.int .i64 0,.int .i64 0,.slice voa EL vcap] wr g2 0))
       · refine wp_region_held_drew (S:=(fun w'=>w'.cell? ⟨g6,0,none⟩=some (.int .i64 7)∧w'.cell? ⟨g6,1,none⟩=some (.int .i64 0)∧w'.cell? ⟨g6,2,none⟩=some (.int .i64 0)∧w'.cell? ⟨g6,3,none⟩=some (.int .i64 0)∧w'.cell? ⟨g6,4,none⟩=some (.slice voa EL vcap))) (by kernel_rfl) (by (try dsimp only);go_keep) (fun hHeld=>?_);refine wpAnyH_take (i:=0) (v:=?hvv0_15) rfl (by kernel_rfl) (by kernel_rfl) (by kernel_rfl) (fun _ _ _ h=>h) (Or.inl ⟨by rfl,?hhy0_15⟩) (by assumption) ?_
         case hhy0_15=>(intro w hSw;(try dsimp only at hSw);go_simp;try with_reducible rfl)
         change wpAnyH _ _ _ _ _ _ _ (Act.put _ (some 77) _) _
         try simp only[Act.put,Q2,Q4,Q5]
         refine wpAnyH_take (i:=1) (v:=?hvv1_16) rfl (by kernel_rfl) (by kernel_rfl) (by kernel_rfl) (fun _ _ _ h=>h) (Or.inl ⟨by rfl,?hhy1_16⟩) (by assumption) ?_
         case hhy1_16=>(intro w hSw;(try dsimp only at hSw);go_simp;try with_reducible rfl)
         change wpAnyH _ _ _ _ _ _ _ (Act.put _ (some 78) _) _
         try simp only[Act.put,Q2,Q4,Q5]
         refine wpAnyH_take (i:=2) (v:=?hvv2_17) rfl (by kernel_rfl) (by kernel_rfl) (by kernel_rfl) (fun _ _ _ h=>h) (Or.inl ⟨by rfl,?hhy2_17⟩) (by assumption) ?_
         case hhy2_17=>(intro w hSw;(try dsimp only at hSw);go_simp;try with_reducible rfl)
         change wpAnyH _ _ _ _ _ _ _ (Act.put _ (some 79) _) _
         try simp only[Act.put,Q2,Q4,Q5]
         refine wpAnyH_take (i:=3) (v:=?hvv3_18) rfl (by kernel_rfl) (by kernel_rfl) (by kernel_rfl) (fun _ _ _ h=>h) (Or.inl ⟨by rfl,?hhy3_18⟩) (by assumption) ?_
         case hhy3_18=>(intro w hSw;(try dsimp only at hSw);go_simp;try with_reducible rfl)
         change wpAnyH _ _ _ _ _ _ _ (Act.put _ (some 80) _) _
         try simp only[Act.put,Q2,Q4,Q5]
         refine wpAnyH_take (i:=4) (v:=undef) rfl (by kernel_rfl) (by kernel_rfl) (by kernel_rfl) (fun _ _ _ h=>h) (Or.inr ⟨by rfl,rfl⟩) (by assumption) ?_;change wpAnyH _ _ _ _ _ _ _ (Act.put _ (some 81) _) _
         try simp only[Act.put,Q2,Q4,Q5]
         refine wpAnyH_take (i:=5) (v:=undef) rfl (by kernel_rfl) (by kernel_rfl) (by kernel_rfl) (fun _ _ _ h=>h) (Or.inr ⟨by rfl,rfl⟩) (by assumption) ?_;change wpAnyH _ _ _ _ _ _ _ (Act.put _ (some 82) _) _
         try simp only[Act.put,Q2,Q4,Q5]
         refine wpAnyH_take (i:=6) (v:=undef) rfl (by kernel_rfl) (by kernel_rfl) (by kernel_rfl) (fun _ _ _ h=>h) (Or.inr ⟨by rfl,rfl⟩) (by assumption) ?_;change wpAnyH _ _ _ _ _ _ _ (Act.put _ (some 83) _) _
         try simp only[Act.put,Q2,Q4,Q5]
         refine wpAnyH_take (i:=7) (v:=undef) rfl (by kernel_rfl) (by kernel_rfl) (by kernel_rfl) (fun _ _ _ h=>h) (Or.inr ⟨by rfl,rfl⟩) (by assumption) ?_;change wpAnyH _ _ _ _ _ _ _ (Act.put _ (some 84) _) _
         try simp only[Act.put,Q2,Q4,Q5]
         refine wpAnyH_take (i:=8) (v:=?hvv8_19) rfl (by kernel_rfl) (by kernel_rfl) (by kernel_rfl) (fun _ _ _ h=>h) (Or.inl ⟨by rfl,?hhy8_19⟩) (by assumption) ?_
         case hhy8_19=>(intro w hSw;(try dsimp only at hSw);go_simp;try with_reducible rfl)
         change wpAnyH _ _ _ _ _ _ _ (Act.put _ (some 85) _) _
         try simp only[Act.put,Q2,Q4,Q5]
         refine wpAnyH_ready (rs:=[9]) (by kernel_rfl) (by simp) ?_;refine AllReadyH.cons rfl (fun K hK=>?_) AllReadyH.nil
         go_simp
         refine hK.out _ _ (by (try dsimp only);go_keep) (fun hHeld=>?_);clear hK K;refine wpAnyH_take (i:=10) (v:=?hvv10_20) rfl (by kernel_rfl) (by kernel_rfl) (by kernel_rfl) (fun _ _ _ h=>h) (Or.inl ⟨by rfl,?hhy10_20⟩) (by assumption) ?_
         case hhy10_20=>(intro w hSw;(try dsimp only at hSw);go_simp;try with_reducible rfl)
         change wpAnyH _ _ _ _ _ _ _ (Act.put _ (some 3) _) _
         try simp only[Act.put,Q2,Q4,Q5]
         refine wpAnyH_done (by kernel_rfl) ?_ _;go_wp2_with fail
         have hYk:Y=some (.mk 7 0 0 0 (E.map Ex.c)):=by rw[HYE.out,if_neg (by omega)]
         have hputs:=Jy (hr2.out.put5 (.int .i64 7) (.int .i64 0) (.int .i64 0) (.int .i64 0) (.slice voa EL vcap));refine bodyPost_ret (v:=.tuple #[.agg #[.int .i64 7,.int .i64 0,.int .i64 0,.int .i64 0,.slice voa EL vcap],.bool true]) ?_ rfl ?_
         · refine Zj Tryz.results157 ?_ ?_ hputs rfl
           all_goals rfl
         · exact HFIN.out _ _ wr _ (by rw[hYk];rfl) ⟨_,_,_,_,_,_,_,rfl⟩ (fun E2 hE2=>by rw[hYk]at hE2;injection hE2 with hE2;subst hE2;exact HXE.out) (Qu HB7.out hg.out (fun k e=>by have e:=Q8 e;omega)) (Vd (Qm [.int .i64 7,.int .i64 0,.int .i64 0,.int .i64 0,.slice voa EL vcap] wr g2 0))
       · refine wp_region_held_drew (S:=(fun w'=>w'.cell? ⟨g6,0,none⟩=some (.int .i64 8)∧w'.cell? ⟨g6,1,none⟩=some (.int .i64 0)∧w'.cell? ⟨g6,2,none⟩=some (.int .i64 0)∧w'.cell? ⟨g6,3,none⟩=some (.int .i64 0)∧w'.cell? ⟨g6,4,none⟩=some (.slice voa EL vcap))) (by kernel_rfl) (by (try dsimp only);go_keep) (fun hHeld=>?_);refine wpAnyH_take (i:=0) (v:=?hvv0_21) rfl (by kernel_rfl) (by kernel_rfl) (by kernel_rfl) (fun _ _ _ h=>h) (Or.inl ⟨by rfl,?hhy0_21⟩) (by assumption) ?_
         case hhy0_21=>(intro w hSw;(try dsimp only at hSw);go_simp;try with_reducible rfl)
         change wpAnyH _ _ _ _ _ _ _ (Act.put _ (some 77) _) _
         try simp only[Act.put,Q2,Q4,Q5]
         refine wpAnyH_take (i:=1) (v:=?hvv1_22) rfl (by kernel_rfl) (by kernel_rfl) (by kernel_rfl) (fun _ _ _ h=>h) (Or.inl ⟨by rfl,?hhy1_22⟩) (by assumption) ?_
         case hhy1_22=>(intro w hSw;(try dsimp only at hSw);go_simp;try with_reducible rfl)
         change wpAnyH _ _ _ _ _ _ _ (Act.put _ (some 78) _) _
         try simp only[Act.put,Q2,Q4,Q5]
         refine wpAnyH_take (i:=2) (v:=?hvv2_23) rfl (by kernel_rfl) (by kernel_rfl) (by kernel_rfl) (fun _ _ _ h=>h) (Or.inl ⟨by rfl,?hhy2_23⟩) (by assumption) ?_
         case hhy2_23=>(intro w hSw;(try dsimp only at hSw);go_simp;try with_reducible rfl)
         change wpAnyH _ _ _ _ _ _ _ (Act.put _ (some 79) _) _
         try simp only[Act.put,Q2,Q4,Q5]
         refine wpAnyH_take (i:=3) (v:=?hvv3_24) rfl (by kernel_rfl) (by kernel_rfl) (by kernel_rfl) (fun _ _ _ h=>h) (Or.inl ⟨by rfl,?hhy3_24⟩) (by assumption) ?_
         case hhy3_24=>(intro w hSw;(try dsimp only at hSw);go_simp;try with_reducible rfl)
         change wpAnyH _ _ _ _ _ _ _ (Act.put _ (some 80) _) _
         try simp only[Act.put,Q2,Q4,Q5]
         refine wpAnyH_take (i:=4) (v:=?hvv4_25) rfl (by kernel_rfl) (by kernel_rfl) (by kernel_rfl) (fun _ _ _ h=>h) (Or.inl ⟨by rfl,?hhy4_25⟩) (by assumption) ?_
         case hhy4_25=>(intro w hSw;(try dsimp only at hSw);go_simp;try with_reducible rfl)
         change wpAnyH _ _ _ _ _ _ _ (Act.put _ (some 81) _) _
         try simp only[Act.put,Q2,Q4,Q5]
         refine wpAnyH_take (i:=5) (v:=?hvv5_26) rfl (by kernel_rfl) (by kernel_rfl) (by kernel_rfl) (fun _ _ _ h=>h) (Or.inl ⟨by rfl,?hhy5_26⟩) (by assumption) ?_
         case hhy5_26=>(intro w hSw;(try dsimp only at hSw);go_simp;try with_reducible rfl)
         change wpAnyH _ _ _ _ _ _ _ (Act.put _ (some 82) _) _
         try simp only[Act.put,Q2,Q4,Q5]
         refine wpAnyH_take (i:=6) (v:=?hvv6_27) rfl (by kernel_rfl) (by kernel_rfl) (by kernel_rfl) (fun _ _ _ h=>h) (Or.inl ⟨by rfl,?hhy6_27⟩) (by assumption) ?_
         case hhy6_27=>(intro w hSw;(try dsimp only at hSw);go_simp;try with_reducible rfl)
         change wpAnyH _ _ _ _ _ _ _ (Act.put _ (some 83) _) _
         try simp only[Act.put,Q2,Q4,Q5]
         refine wpAnyH_take (i:=7) (v:=?hvv7_28) rfl (by kernel_rfl) (by kernel_rfl) (by kernel_rfl) (fun _ _ _ h=>h) (Or.inl ⟨by rfl,?hhy7_28⟩) (by assumption) ?_
         case hhy7_28=>(intro w hSw;(try dsimp only at hSw);go_simp;try with_reducible rfl)
         change wpAnyH _ _ _ _ _ _ _ (Act.put _ (some 84) _) _
         try simp only[Act.put,Q2,Q4,Q5]
         refine wpAnyH_take (i:=8) (v:=?hvv8_29) rfl (by kernel_rfl) (by kernel_rfl) (by kernel_rfl) (fun _ _ _ h=>h) (Or.inl ⟨by rfl,?hhy8_29⟩) (by assumption) ?_
         case hhy8_29=>(intro w hSw;(try dsimp only at hSw);go_simp;try with_reducible rfl)
         change wpAnyH _ _ _ _ _ _ _ (Act.put _ (some 85) _) _
         try simp only[Act.put,Q2,Q4,Q5]
         refine wpAnyH_ready (rs:=[9]) (by kernel_rfl) (by simp) ?_;refine AllReadyH.cons rfl (fun K hK=>?_) AllReadyH.nil
         go_simp
         refine hK.out _ _ (by (try dsimp only);go_keep) (fun hHeld=>?_);clear hK K;refine wpAnyH_take (i:=10) (v:=?hvv10_30) rfl (by kernel_rfl) (by kernel_rfl) (by kernel_rfl) (fun _ _ _ h=>h) (Or.inl ⟨by rfl,?hhy10_30⟩) (by assumption) ?_
         case hhy10_30=>(intro w hSw;(try dsimp only at hSw);go_simp;try with_reducible rfl)
         change wpAnyH _ _ _ _ _ _ _ (Act.put _ (some 3) _) _
         try simp only[Act.put,Q2,Q4,Q5]
         refine wpAnyH_done (by kernel_rfl) ?_ _;go_wp2_with fail
         have hok:((EL:Int)==3)=Y.isSome:=by
          rw[HYE.out,HEL.out]
          by_cases he:EL=3
          · subst he;rfl
          · rw[if_pos ⟨by trivial,he⟩,beq_eq_false_iff_ne.2 (by omega)];rfl
         have hYk:∀ E2,Y=some E2→E2=.mk 8 0 0 0 (E.map Ex.c):=fun E2 hE2=>by
          rw[HYE.out,HEL.out]at hE2
          by_cases he:EL=3
          · rw[if_neg (by omega)]at hE2;exact(Q8 hE2).symm
          · rw[if_pos ⟨by trivial,he⟩]at hE2
            cases hE2
         have hputs:=Jy (hr2.out.put5 (.int .i64 8) (.int .i64 0) (.int .i64 0) (.int .i64 0) (.slice voa EL vcap));refine bodyPost_ret (v:=.tuple #[.agg #[.int .i64 8,.int .i64 0,.int .i64 0,.int .i64 0,.slice voa EL vcap],.bool ((EL:Int)==3)]) ?_ rfl ?_
         · refine Zj Tryz.results157 ?_ ?_ hputs rfl
           all_goals rfl
         · exact HFIN.out _ _ wr _ hok ⟨_,_,_,_,_,_,_,rfl⟩ (fun E2 hE2=>by rw[hYk E2 hE2];exact HXE.out) (Qu HB7.out hg.out (fun k e=>by have e:=Q8 e;omega)) (Vd (Qm [.int .i64 8,.int .i64 0,.int .i64 0,.int .i64 0,.slice voa EL vcap] wr g2 0))
 · have hYk:Y=none:=by
    rw[← HY.out,K8,if_neg hk10,if_neg hk12,if_neg hk2]
   have q10:(tk==(10:Int))=false:=by simpa using hk10
   have q12:(tk==(12:Int))=false:=by simpa using hk12
   have q2:(tk==(2:Int))=false:=by simpa using hk2
   go_wp2_with fail;have hputs:=(HB2.out).put5 (.int .i64 0) (.int .i64 0) (.int .i64 0) (.int .i64 0) (.slice none 0 0);refine bodyPost_ret (v:=.tuple #[.agg #[.int .i64 0,.int .i64 0,.int .i64 0,.int .i64 0,.slice none 0 0],.bool false]) ?_ rfl ?_
   · refine Zj Tryz.results157 ?_ ?_ hputs rfl
     all_goals rfl
   · exact HFIN.out _ _ w4 _ (by rw[hYk];rfl) ⟨_,_,_,_,_,_,_,rfl⟩ (fun E hE=>by rw[hYk]at hE;cases hE) (Below.refl _ _) (Qm [.int .i64 0,.int .i64 0,.int .i64 0,.int .i64 0,.slice none 0 0] w4 g2 0)
theorem Af:∀ h,Hp h∧Q01 h
 | 0=>⟨Hu 0 (A6 (Nv 0 (fun h' e=>by omega) fun v w hv=>hv.elim)),fun v w hv=>hv.elim⟩
 | h+1=>by
   have ih:=Af h;have hX:=Q2m h ih.1;exact⟨Hu (h+1) (A6 (Nv (h+1) (fun h' e=>(show h=h' by omega) ▸ ih.1) hX)),hX⟩
def Q5t (A:Nat→Prop) (r:Option Et×Int) (e:Ending) (w:World):Prop:=∃ v,e=.returned (.tuple #[v,.int .i64 r.2])∧Jk A (r.1.getD Wn) v w
theorem Xe (A:Nat→Prop) (w:World):Jk A Wn (.agg #[.int .i64 0,.int .i64 0,.int .i64 0,.int .i64 0,.slice none 0 0]) w :=
 ⟨.mk 0 0 0 0 none 0 0 0 [],1,rfl,rfl,Zy.leaf (Z1 _ (by decide)) (by unfold U2;decide) (Z1 _ (by decide))⟩
theorem Tg (h:Nat) (l:List Vl) (oa:Option Addr) (cap b o:Nat) (w:World) (hs:Zw w h oa cap b o l) :
  Calls Tryz.prog 128 #[.slice oa l.length cap] w fun e w'=>Q5t (· < w.heap.size) (Jz J0 h (l.map Vl.c)) e w'∧Below w.heap.size w w':=by
 have hX:=(Af h).2;obtain⟨Y,hY⟩:∃ Y,Jz J0 h (l.map Vl.c)=Y:=⟨_,rfl⟩;rw[hY];have hb0:=Q7 w (.cells #[.int .i64 0,.int .i64 0,.int .i64 0,.int .i64 0,.slice none 0 0] 32);have h2:=Ql.new w 32 #[.int .i64 0,.int .i64 0,.int .i64 0,.int .i64 0,.slice none 0 0];have hs1:=hs.below hb0;have hmay:=Dw h l oa cap b o _ hs1
 have htr:=fun w' (hb:Below _ _ w')=>G0 h l oa cap b o w' (hs1.below hb)
 have hw01:(w.alloc (.cells #[.int .i64 0,.int .i64 0,.int .i64 0,.int .i64 0,.slice none 0 0] 32)).heap.size=w.heap.size+1:=by simp
 obtain⟨X,hXX⟩:∃ X,l.map Vl.c=X:=⟨_,rfl⟩;obtain⟨N,hN⟩:∃ N,l.length=N:=⟨_,rfl⟩;rw[hXX]at hmay hY;rw[hN]at hmay;rw[hN];simp only[hXX,hN]at htr;have HY:=Q1 hY;have HMAY:=Q1 hmay;have HTR:=Q1 htr;have HB0:=Q1 hb0;have H2:=Q1 h2;have HW01:=Q1 hw01;obtain⟨m,hm⟩:∃ m,Jf 64 X=m:=⟨_,rfl⟩;rw[hm]at HMAY;have HM:=Q1 hm;clear hY hmay htr hb0 h2 hw01 hXX hN hs hs1 hm
 go_enter Tryz.func128,Tryz.ntmps128
 go_upto_region 1 with fail
 obtain⟨g2,hg2⟩:∃ g2,w.heap.size=g2:=⟨_,rfl⟩;have HG:=Q1 hg2;rw[hg2]at H2;simp only[hg2];clear hg2;generalize w.alloc _=w1 at *;go_wp2_with fail
 ((with_reducible refine HMAY.out.mono ?_);rintro e w2 ⟨rfl,hb2⟩)
 have hb12:=hb2.size;have H22:=Q1 (H2.out.below hb2 H2.out.lt);have HB2:=Q1 (Qu HB0.out (Qc hb2 none) (fun _ e=>by cases e));have HT2:=Q1 (HTR.out w2 hb2);have HWG:=Q1 (show w.heap.size≤g2 by have:=HG.out;omega);clear hb2 HTR HMAY HB0;have ca0:w2.cell? ⟨g2,0,none⟩=some (.int .i64 0):=(H22.out).cell 0;have fca0:=(H22.out).frozen 0;have ca1:w2.cell? ⟨g2,1,none⟩=some (.int .i64 0):=(H22.out).cell 1;have fca1:=(H22.out).frozen 1;have ca2:w2.cell? ⟨g2,2,none⟩=some (.int .i64 0):=(H22.out).cell 2;have fca2:=(H22.out).frozen 2;have ca3:w2.cell? ⟨g2,3,none⟩=some (.int .i64 0):=(H22.out).cell 3;have fca3:=(H22.out).frozen 3;have ca4:w2.cell? ⟨g2,4,none⟩=some (.slice none 0 0):=(H22.out).cell 4;have fca4:=(H22.out).frozen 4;have lca:=(H22.out).lt
 cases m with
 | false =>
   have hYk:Y=(none,1):=by rw[← HY.out,Jz,if_pos HM.out]
   go_wp2_with fail;have hputs:=(H22.out).put5 (.int .i64 0) (.int .i64 0) (.int .i64 0) (.int .i64 0) (.slice none 0 0);refine bodyPost_ret (v:=.tuple #[.agg #[.int .i64 0,.int .i64 0,.int .i64 0,.int .i64 0,.slice none 0 0],.int .i64 1]) ?_ rfl ?_
   · refine Zj Tryz.results128 ?_ ?_ hputs rfl
     all_goals rfl
   · exact⟨⟨_,by first|rfl|rw[hYk],by first|exact Xe _ _ | (rw[hYk];exact Xe _ _)⟩,Jh HB2.out HWG.out _ _ _ _ _⟩
 | true =>
   have hY2:Y=match Z9 X with
     | [v]=>(match Cr J0 h v with
       | none=>(none,3)
       | some e=>(some e,0))
     | _=>(none,3):=by
    rw[← HY.out,Jz,if_neg (by rw[HM.out];decide)];rfl
   have HY2:=Q1 hY2;clear hY2 HY;go_wp2_with fail
   ((with_reducible refine HT2.out.mono ?_);rintro e w3 ⟨⟨v,rfl,oa2,cap2,b2,o2,l2,rfl,hc2,hs2⟩,hb3⟩)
   have H23:=Q1 (H22.out.below hb3 H22.out.lt);have HB3:=Q1 (Qu HB2.out (Qc hb3 none) (fun _ e=>by cases e));have hb23:=hb3.size;have hcm2:=hs2.here.sl.max;have hcl2:=hs2.here.sl.le;unfold maxLen at hcm2;clear hb3 HT2 H22 HB2 ca0 ca1 ca2 ca3 ca4 fca0 fca1 fca2 fca3 fca4 lca;have ca0:w3.cell? ⟨g2,0,none⟩=some (.int .i64 0):=(H23.out).cell 0;have fca0:=(H23.out).frozen 0;have ca1:w3.cell? ⟨g2,1,none⟩=some (.int .i64 0):=(H23.out).cell 1;have fca1:=(H23.out).frozen 1;have ca2:w3.cell? ⟨g2,2,none⟩=some (.int .i64 0):=(H23.out).cell 2;have fca2:=(H23.out).frozen 2;have ca3:w3.cell? ⟨g2,3,none⟩=some (.int .i64 0):=(H23.out).cell 3;have fca3:=(H23.out).frozen 3;have ca4:w3.cell? ⟨g2,4,none⟩=some (.slice none 0 0):=(H23.out).cell 4;have fca4:=(H23.out).frozen 4;have lca:=(H23.out).lt
   by_cases hl1:l2.length=1
   · obtain⟨x,rfl⟩:=Zo.1 hl1;obtain⟨rfl,hbl⟩:=hs2.here.sl.lies (by simp);have hli:[x][0]?=some x:=rfl;have hvs:=hs2.here;have HVX:=Q1 (hs2.here.each 0 x hli);have hxp:=hX x w3 (hs2.here.each 0 x hli)
     have hYx:Y=match Cr J0 h x.c with
      | none=>(none,3)
      | some e=>(some e,0):=by rw[HY2.out,← hc2];rfl
     obtain⟨r,hr⟩:∃ r,Cr J0 h x.c=r:=⟨_,rfl⟩;rw[hr]at hxp hYx;obtain⟨t,koa,kb,ko,kcap,kids⟩:=x;obtain⟨K,hK⟩:∃ K,kids.length=K:=⟨_,rfl⟩;have f0:=hvs.cell hli (j:=0) rfl;have f1:=hvs.cell hli (j:=1) rfl;have f2:=hvs.cell hli (j:=2) rfl;have f3:=hvs.cell hli (j:=3) rfl;have f4:=hvs.cell hli (j:=4) rfl;have f5:=hvs.cell hli (j:=5) rfl;have f6:=hvs.cell hli (j:=6) rfl;rw[hK]at f6;simp only[Nat.zero_mul,Nat.add_zero]at f0 f1 f2 f3 f4 f5 f6;obtain⟨tk,tt,⟨tn,td⟩,ti,tid⟩:=t
     have hvv:vv (Vl.mk ⟨tk,tt,(tn,td),ti,tid⟩ koa kb ko kcap kids)=.agg #[.int .i64 tk,.string ⟨tt.toArray⟩,.int .i64 tn,.int .i64 td,.bool ti,.bool tid,.slice koa K kcap]:=by rw[← hK];rfl
     rw[hvv]at hxp;have HXP:=Q1 hxp;have HYX:=Q1 hYx;simp only[Qi]at hcl2 ⊢;clear hvv hxp hYx hK hvs hli hr hs2 hc2 hX HY2 hl1;go_wp2_with fail
     ((with_reducible refine HXP.out.mono ?_);rintro e w4 ⟨⟨ev,ok,rfl,hok,h5,hE⟩,hb4⟩)
     obtain⟨vk,vn,vd,vu,voa,vL,vc,rfl⟩:=h5;have HE:=Q1 (Q3 hok hE);have H24:=Q1 (H23.out.below hb4 H23.out.lt);have hbB:=Qu HB3.out (Qc hb4 none) (fun _ e=>by cases e);have hw34:=hb4.size;clear hok hE hb4 H23 HB3 ca0 ca1 ca2 ca3 ca4 fca0 fca1 fca2 fca3 fca4 lca f0 f1 f2 f3 f4 f5 f6 HXP
     go_upto_region 7 with fail
     have h25:=H24.out.old (.cells #[.int .i64 vk,.int .i64 vn,.int .i64 vd,.int .i64 vu,.slice voa vL vc] 32);have h55:=Ql.new w4 32 #[.int .i64 vk,.int .i64 vn,.int .i64 vd,.int .i64 vu,.slice voa vL vc];have HB4:=Q1 (hbB.alloc (by have:=hbB.size;omega) (.cells #[.int .i64 vk,.int .i64 vn,.int .i64 vd,.int .i64 vu,.slice voa vL vc] 32));have HE5:=Q1 (Q3 HE.out.1 (fun E hE=>(HE.out.2 E hE).below (Q7 w4 (.cells #[.int .i64 vk,.int .i64 vn,.int .i64 vd,.int .i64 vu,.slice voa vL vc] 32))));clear H24 hbB HE;generalize w4.heap.size=g5 at *;generalize w4.alloc _=w5 at *;have cb0:w5.cell? ⟨g5,0,none⟩=some (.int .i64 vk):=(h55).cell 0;have fcb0:=(h55).frozen 0;have cb1:w5.cell? ⟨g5,1,none⟩=some (.int .i64 vn):=(h55).cell 1;have fcb1:=(h55).frozen 1;have cb2:w5.cell? ⟨g5,2,none⟩=some (.int .i64 vd):=(h55).cell 2;have fcb2:=(h55).frozen 2
     have cb3:w5.cell? ⟨g5,3,none⟩=some (.int .i64 vu):=(h55).cell 3;have fcb3:=(h55).frozen 3;have cb4:w5.cell? ⟨g5,4,none⟩=some (.slice voa vL vc):=(h55).cell 4;have fcb4:=(h55).frozen 4;have lcb:=(h55).lt;have ca0:w5.cell? ⟨g2,0,none⟩=some (.int .i64 0):=(h25).cell 0;have fca0:=(h25).frozen 0;have ca1:w5.cell? ⟨g2,1,none⟩=some (.int .i64 0):=(h25).cell 1;have fca1:=(h25).frozen 1;have ca2:w5.cell? ⟨g2,2,none⟩=some (.int .i64 0):=(h25).cell 2;have fca2:=(h25).frozen 2;have ca3:w5.cell? ⟨g2,3,none⟩=some (.int .i64 0):=(h25).cell 3;have fca3:=(h25).frozen 3;have ca4:w5.cell? ⟨g2,4,none⟩=some (.slice none 0 0):=(h25).cell 4;have fca4:=(h25).frozen 4;have lca:=(h25).lt;have H25:=Q1 h25;clear h25 h55;have hg2w:=H2.out.lt
     cases r with
     | none =>
       obtain rfl:ok=false:=HE5.out.1;have hYk:Y=(none,3):=HYX.out;go_wp2_with fail;have hputs:=(H25.out).put5 (.int .i64 0) (.int .i64 0) (.int .i64 0) (.int .i64 0) (.slice none 0 0);refine bodyPost_ret (v:=.tuple #[.agg #[.int .i64 0,.int .i64 0,.int .i64 0,.int .i64 0,.slice none 0 0],.int .i64 3]) ?_ rfl ?_
       · refine Zj Tryz.results128 ?_ ?_ hputs rfl
         all_goals rfl
       · exact⟨⟨_,by first|rfl|rw[hYk],by first|exact Xe _ _ | (rw[hYk];exact Xe _ _)⟩,Jh HB4.out HWG.out _ _ _ _ _⟩
     | some E =>
       obtain rfl:ok=true:=HE5.out.1;have hYk:Y=(some E,0):=HYX.out
       have hee:=((HE5.out.2 E rfl).grown (Qm [.int .i64 vk,.int .i64 vn,.int .i64 vd,.int .i64 vu,.slice voa vL vc] w5 g2 0) (fun k e _=>by have e:g2=k:=Q8 e;show k<w3.heap.size;omega)).anti (A':=(· < w.heap.size)) fun b hb=>Or.inl (by have:=HWG.out;have hb:b<w.heap.size:=hb;show b<w3.heap.size;omega)
       simp only[J5,Nat.zero_add,Nat.reduceAdd]at hee;go_wp2_with fail;have hputs:=(H25.out).put5 (.int .i64 vk) (.int .i64 vn) (.int .i64 vd) (.int .i64 vu) (.slice voa vL vc);refine bodyPost_ret (v:=.tuple #[.agg #[.int .i64 vk,.int .i64 vn,.int .i64 vd,.int .i64 vu,.slice voa vL vc],.int .i64 0]) ?_ rfl ?_
       · refine Zj Tryz.results128 ?_ ?_ hputs rfl
         all_goals rfl
       · exact⟨⟨_,by first|rfl|rw[hYk],by first|exact hee | (rw[hYk];exact hee)⟩,Jh HB4.out HWG.out _ _ _ _ _⟩
   · have q1:((l2.length:Int)==1)=false:=beq_eq_false_iff_ne.2 (by omega)
     have hYk:Y=(none,3):=by
      rw[HY2.out,← hc2]
      match l2,hl1 with
      | [],_=>rfl
      | [x],h=>exact absurd rfl h
      | x::y::l,_=>rfl
     generalize l2.length=N2 at *;have HB4:=HB3;go_wp2_with fail;have hputs:=(H23.out).put5 (.int .i64 0) (.int .i64 0) (.int .i64 0) (.int .i64 0) (.slice none 0 0);refine bodyPost_ret (v:=.tuple #[.agg #[.int .i64 0,.int .i64 0,.int .i64 0,.int .i64 0,.slice none 0 0],.int .i64 3]) ?_ rfl ?_
     · refine Zj Tryz.results128 ?_ ?_ hputs rfl
       all_goals rfl
     · exact⟨⟨_,by first|rfl|rw[hYk],by first|exact Xe _ _ | (rw[hYk];exact Xe _ _)⟩,Jh HB4.out HWG.out _ _ _ _ _⟩
theorem Bz (tk tn td:Int) (tt:List UInt8) (ti tid:Bool) (koa:Option Addr) (K kcap:Nat) (w:World) :
  Calls Tryz.prog 191 #[.agg #[.int .i64 tk,.string ⟨tt.toArray⟩,.int .i64 tn,.int .i64 td,.bool ti,.bool tid,.slice koa K kcap]] w fun e w'=>e=.returned (.bool (tk==13))∧Below w.heap.size w w':=by
 go_enter Tryz.func191,Tryz.ntmps191
 go_wp2_with fail;go_ret;exact⟨rfl,Q7 _ _⟩
theorem Q1o (tk tn td k:Int) (tt s:List UInt8) (ti tid:Bool) (koa:Option Addr) (K kcap:Nat) (w:World) (ht:tt.length≤9223372036854775807) (hs:s.length≤9223372036854775807) :
  Calls Tryz.prog 163 #[.agg #[.int .i64 tk,.string ⟨tt.toArray⟩,.int .i64 tn,.int .i64 td,.bool ti,.bool tid,.slice koa K kcap],.int .i64 k,.string ⟨s.toArray⟩] w fun e w'=>e=.returned (.bool (tk==k&&Ga tt s))∧Below w.heap.size w w':=by
 have HL:=Q1 (fun w=>Lx tt s w ht hs);generalize Ga tt s=b at *;clear ht hs
 by_cases hk:tk=k
 · subst hk;rw[show (tk==tk)=true from beq_iff_eq.2 rfl,Bool.true_and]
   go_enter Tryz.func163,Tryz.ntmps163
   go_wp2_with fail
   ((with_reducible refine(HL.out _).mono ?_);rintro e w2 ⟨rfl,hb2⟩)
   have hb:=Qu (Q7 w (.cells #[.int .i64 tk,.string ⟨tt.toArray⟩,.int .i64 tn,.int .i64 td,.bool ti,.bool tid,.slice koa K kcap] 28)) (Qc hb2 none) (fun _ e=>by cases e);clear hb2;go_wp2_with fail;go_ret;exact⟨rfl,hb⟩
 · have q:(tk==k)=false:=beq_eq_false_iff_ne.2 hk;rw[q,Bool.false_and]
   go_enter Tryz.func163,Tryz.ntmps163
   go_wp2_with fail;go_ret;exact⟨rfl,Q7 _ _⟩
theorem Fo (tk tn td:Int) (tt a b:List UInt8) (ti tid:Bool) (koa:Option Addr) (K kcap:Nat) (w:World) :
  Calls Tryz.prog 190 #[.agg #[.int .i64 tk,.string ⟨tt.toArray⟩,.int .i64 tn,.int .i64 td,.bool ti,.bool tid,.slice koa K kcap],.string ⟨a.toArray⟩,.string ⟨b.toArray⟩] w fun e w'=>e=.returned (.bool (tk==9&&(tt==a||tt==b)))∧Below w.heap.size w w':=by
 by_cases hk:tk=9
 · subst hk
   by_cases ha:tt=a
   · have q:(tt==a)=true:=beq_iff_eq.2 ha;rw[q]
     go_enter Tryz.func190,Tryz.ntmps190
     go_wp2_with fail;go_ret;exact⟨rfl,Q7 _ _⟩
   · have q:(tt==a)=false:=beq_eq_false_iff_ne.2 ha;rw[q]
     go_enter Tryz.func190,Tryz.ntmps190
     go_wp2_with fail;go_ret;exact⟨by simp,Q7 _ _⟩
 · have q:(tk==9)=false:=beq_eq_false_iff_ne.2 hk;rw[q,Bool.false_and]
   go_enter Tryz.func190,Tryz.ntmps190
   go_wp2_with fail;go_ret;exact⟨rfl,Q7 _ _⟩
end Go.Proofs.YtnanffmhbjdpaaaGreatDoor
