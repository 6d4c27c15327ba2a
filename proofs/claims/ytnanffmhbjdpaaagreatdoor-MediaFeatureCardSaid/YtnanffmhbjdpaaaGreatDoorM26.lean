/- Of my texts: MedI, MedJ, MedK, MedL, MedM, MedN. -/
import Derived.Test.YtnanffmhbjdpaaaGreatDoorM00
import Derived.Test.YtnanffmhbjdpaaaGreatDoorM11
import Derived.Test.YtnanffmhbjdpaaaGreatDoorM25
namespace Go.Proofs.YtnanffmhbjdpaaaGreatDoor
set_option maxHeartbeats 4000000
set_option maxRecDepth 20000
set_option linter.unusedVariables false
set_option linter.unusedSimpArgs false
open Go.RowKit
theorem A3 (n p:List UInt8) (w:World):Calls Tryz.prog 52 #[.string ⟨n.toArray⟩,.string ⟨p.toArray⟩] w fun e w'=>e=.returned (.tuple #[.string ⟨(if p <+: n then n.drop p.length else n).toArray⟩,.bool (decide (p <+: n))])∧w=w' :=
 (Any.strings_CutPrefix Tryz.laysCP ⟨n.toArray⟩ ⟨p.toArray⟩ w).mono fun e w' ⟨he,hw⟩=>⟨by
   rw[he]
   have h1:Lib.hasPrefix n p=decide (p <+: n):=by
    unfold Lib.hasPrefix;rw[Qt];simp
   show Ending.returned (.tuple #[.string ⟨(Lib.trimPrefix n p).toArray⟩,.bool (Lib.hasPrefix n p)])=_;unfold Lib.trimPrefix;rw[h1]
   simp,hw.symm⟩
theorem Nf (n:List UInt8):(Jo n).length≤8:=by
 unfold Jo
 repeat (first|split|decide)
theorem I6 (h:Nat) (l:List Vl) (oa:Option Addr) (cap b o:Nat) (w:World) (hs:Zw w h oa cap b o l) (hm:Jf 64 (l.map Vl.c)=true) (box:Bool) :
  Calls Tryz.prog 19 #[.slice oa l.length cap,.bool box] w fun e w'=>Bw (· < w.heap.size) (Y4 (Jx h) (l.map Vl.c) box) e w'∧Below w.heap.size w w':=by
 obtain⟨Y,hY⟩:∃ Y,Y4 (Jx h) (l.map Vl.c) box=Y:=⟨_,rfl⟩;rw[hY];unfold Y4 at hY;obtain⟨h4,hb4⟩:=Z2 w 36 Zl
 have hw1:(w.alloc (.cells Zl 36)).heap.size=w.heap.size+1:=by simp
 have hs1:=hs.below hb4;obtain⟨N,hN⟩:∃ N,l.length=N:=⟨_,rfl⟩;obtain⟨L,hL⟩:∃ L,l.map Vl.c=L:=⟨_,rfl⟩;have HN:=Q1 (Q3 hN hL);rw[hL]at hY hm;rw[hN];obtain⟨g,hg⟩:∃ g,w.heap.size=g:=⟨_,rfl⟩;have HG:=Q1 hg;rw[hg]at h4 hw1;have hp:=Nr 51 Ug (enters_of Tryz.func51 (by kernel_rfl) rfl) (fun tk tn td tt ti tid koa K kcap k w=>Tj tk tn td tt ti tid koa K kcap w) h l oa cap b o _ hs1;obtain⟨P,hP⟩:∃ P,L.findIdx? Ug=P:=⟨_,rfl⟩;rw[hN,hL,hP]at hp;rw[hP]at hY;have HP:=Q1 hp;have HPP:=Q1 hP;have H4:=Q1 h4;have HB4:=Q1 hb4;have HW1:=Q1 hw1;have HY:=Q1 hY;have HS:=Q1 hs1;have HM:=Q1 hm;clear hs hs1 h4 hb4 hw1 hN hL hY hp hP hm;simp only[Zl]at HP HB4 HW1 H4 HS
 go_enter Tryz.func19,Tryz.ntmps19
 go_upto_region 1 with fail
 try simp only[hg]
 clear hg;generalize w.alloc _=w1 at *
 cases P with
 | none =>
   obtain rfl:none=Y:=HY.out;simp only[Kt]at HP;go_wp2_with fail
   ((with_reducible refine HP.out.mono ?_);rintro e w2 ⟨rfl,hb2⟩)
   have H42:=Q1 (H4.out.below hb2 H4.out.lt);have HB2:=J8 HB4 hb2;clear hb2;obtain⟨c0,fc0,c1,fc1,c2,fc2,c3,fc3,c4,fc4,c5,fc5,c6,fc6,c7,fc7,c8,fc8,c9,fc9,c10,fc10,c11,fc11,c12,fc12,c13,fc13,lc⟩:=Ql.z14 (H42.out);go_wp2_with fail;refine bodyPost_ret (v:=.tuple #[.agg #[.int .i64 0,.slice none 0 0,.int .i64 0,.int .i64 0,.string ⟨#[]⟩,.int .i64 0,.int .i64 0,.int .i64 0,.int .i64 0,.int .i64 0,.slice none 0 0,.string ⟨#[]⟩,.string ⟨#[]⟩,.bool false],.bool false]) ?_ rfl ?_
   · exact Zq Tryz.results19 rfl rfl (Ql.zput (H42.out)) rfl
   · exact Jr (HB2.out) (Qr HG.out) (rfl) rfl
 | some i =>
   simp only[Kt]at HP
   have hiN:i<N:=by
    have:=(List.findIdx?_eq_some_iff_getElem.1 HPP.out).1;rw[← HN.out.2,Qj,HN.out.1]at this;exact this
   have ij0:(0:Int)≤(i:Int):=Int.natCast_nonneg _
   have gi:decide ((i:Int)<0)=false:=by simp
   have hi63:(i:Int)+1≤9223372036854775807:=by
    have h1:=HS.out.sl.le;have h2:=HS.out.sl.max;rw[HN.out.1]at h1;unfold maxLen at h2;omega
   obtain⟨oa1,cap1,o1,hr1,hv1⟩:=Wt HS.out HN.out.1 (Zg hiN);obtain⟨oa2,cap2,o2,hr2,hv2⟩:=Xo HS.out HN.out.1 (Nat.succ_le_of_lt hiN)
   have hm1:(l.take i).map Vl.c=L.take i:=by rw[← HN.out.2,List.map_take]
   have hm2:(l.drop (i+1)).map Vl.c=L.drop (i+1):=by rw[← HN.out.2,List.map_drop]
   generalize l.take i=D1 at *;generalize l.drop (i+1)=D2 at *
   have hr2:=fun w=>hr2 ((i:Int)+1) w (by omega)
   have hr1:=fun w=>hr1 (i:Int) w rfl
   have HV:=Q1 (Q3 hv1 (Q3 hv2 (Q3 hm1 hm2)));have hmb:=(Uh HM.out (i+1)).2;obtain⟨n1,hn1⟩:∃ n,Qy (L.take i)=n:=⟨_,rfl⟩;obtain⟨B,hB⟩:∃ B,L.drop (i+1)=B:=⟨_,rfl⟩
   have hY2:Vs (Jx h) n1 B box=Y:=by rw[← hn1,← hB];exact HY.out
   rw[hB]at hmb;have HY2:=Q1 hY2;have HX:=Q1 (Q3 hn1 (Q3 hB hmb));clear hv1 hv2 hm1 hm2 hn1 hB hmb hY2 HY;go_wp2_with fail
   ((with_reducible refine HP.out.mono ?_);rintro e w2 ⟨rfl,hb2⟩)
   have HB2:=J8 HB4 hb2;have H42:=Q1 (H4.out.below hb2 H4.out.lt)
   have HAL:=Q1 (show ∀ m:Kc w2,Calls Tryz.prog 17 #[.slice oa1 D1.length cap1] (grow w2 m) fun e w'=>e=.returned (.string ⟨n1.toArray⟩)∧Below (grow w2 m).heap.size (grow w2 m) w' from fun m=>by
    have:=Yf h D1 oa1 cap1 b o1 (grow w2 m) (HV.out.1 _ ((HS.out.below hb2).below (Qk m)))
    rwa [HV.out.2.2.1,HX.out.1]at this)
   have HS2:=Q1 (HS.out.below hb2);clear hb2 HP
   go_upto_region 4 with fail
   refine Qx (by kernel_rfl) (by kernel_rfl) ?_
   repeat (go_big_quiet_step ((first | (go_at_call 17;with_reducible exact Vg (HAL.out _)))))
   refine wpQuiet_nil ?_;rintro _ ⟨m,rfl⟩;have HB3:=J8 HB2 (Qk m);have H43:=Q1 (H42.out.below (Qk m) H42.out.lt);have HV3:=Q1 (HV.out.2.1 _ (HS2.out.below (Qk m)));clear HB2 H42 HS2 HAL;generalize grow w2 m=w3 at *;have HC1:=Q1 (show ∀ w,Calls Tryz.prog 52 #[.string ⟨n1.toArray⟩,.string ⟨#[109,105,110,45]⟩] w fun e w'=>e=.returned (.tuple #[.string ⟨(if U5 <+: n1 then n1.drop 4 else n1).toArray⟩,.bool (decide (U5 <+: n1))])∧w=w' from A3 n1 U5);have HC2:=Q1 (show ∀ w,Calls Tryz.prog 52 #[.string ⟨n1.toArray⟩,.string ⟨#[109,97,120,45]⟩] w fun e w'=>e=.returned (.tuple #[.string ⟨(if Jq <+: n1 then n1.drop 4 else n1).toArray⟩,.bool (decide (Jq <+: n1))])∧w=w' from A3 n1 Jq)
   go_upto_region 5 with fail
   go_cut [9] from 9 to 9 (fun s wx=>s=.int .i64 3∧wx=w3)
   case first =>
    go_wp2_with fail;go_meet;exact⟨rfl,rfl⟩
   obtain⟨rfl,rfl⟩:=hcut
   rename_i hK
   refine hK _ _ ?_
   apply wp_seq_k
   intro K0 hK0
   go_cut [7,9] from 10 to 43 (fun s7 s9 wx=>∃ (n2:List UInt8) (op:Int),s7=.string ⟨n2.toArray⟩∧s9=.int .i64 op∧wx=wc∧Hid (0≤op∧op≤6)∧Hid (G3 (Jx h) n2 op B box=Y))
   case first =>
    by_cases h1:U5 <+: n1
    · rw[decide_eq_true h1,if_pos h1]at HC1;have HR:=Q1 (show G3 (Jx h) (n1.drop 4) 4 B box=Y by rw[← HY2.out];unfold Vs;rw[if_pos h1]);generalize n1.drop 4=n2 at *;clear h1 HC2;go_wp2_with fail
      ((with_reducible refine(HC1.out _).mono ?_);rintro e w4 ⟨rfl,rfl⟩)
      go_wp2_with fail;go_meet;exact⟨n2,4,rfl,rfl,rfl,Q1 (by decide),HR⟩
    · rw[decide_eq_false h1,if_neg h1]at HC1
      by_cases h2:Jq <+: n1
      · rw[decide_eq_true h2,if_pos h2]at HC2;have HR:=Q1 (show G3 (Jx h) (n1.drop 4) 2 B box=Y by rw[← HY2.out];unfold Vs;rw[if_neg h1,if_pos h2]);generalize n1.drop 4=n2 at *;clear h1 h2;go_wp2_with fail
        ((with_reducible refine(HC1.out _).mono ?_);rintro e w4 ⟨rfl,rfl⟩)
        go_wp2_with fail
        ((with_reducible refine(HC2.out _).mono ?_);rintro e w4 ⟨rfl,rfl⟩)
        go_wp2_with fail;go_meet;exact⟨n2,2,rfl,rfl,rfl,Q1 (by decide),HR⟩
      · rw[decide_eq_false h2,if_neg h2]at HC2;have HR:=Q1 (show G3 (Jx h) n1 3 B box=Y by rw[← HY2.out];unfold Vs;rw[if_neg h1,if_neg h2]);clear h1 h2;go_wp2_with fail
        ((with_reducible refine(HC1.out _).mono ?_);rintro e w4 ⟨rfl,rfl⟩)
        go_wp2_with fail
        ((with_reducible refine(HC2.out _).mono ?_);rintro e w4 ⟨rfl,rfl⟩)
        go_wp2_with fail;go_meet;exact⟨n1,3,rfl,rfl,rfl,Q1 (by decide),HR⟩
   case rest =>
    obtain⟨n2,op,rfl,rfl,rfl,hop,hpt⟩:=hcut;have hpt2:=hpt.out;unfold G3 at hpt2;obtain⟨n3,hn3⟩:∃ n,Jn n2 box=n:=⟨_,rfl⟩
    have hk:=fun w=>K7 n2 box w
    simp only[hn3]at hpt2 hk;have HK:=Q1 hk;have HPT:=Q1 hpt2;have HR:=Q1 (Wv n3);obtain⟨r,hr⟩:∃ r,V5 n3=r:=⟨_,rfl⟩;rw[hr]at HR HPT;clear hpt2 hpt hk hn3 hr HC1 HC2 HY2;go_wp2_with fail
    ((with_reducible refine(HK.out _).mono ?_);rintro e w4 ⟨rfl,hb4⟩)
    have HB4':=J8 HB3 hb4;have H44:=Q1 (H43.out.below hb4 H43.out.lt);have HV4:=Q1 (HV3.out.below hb4);clear hb4 HB3 H43 HV3
    cases r with
    | true =>
      have hpt:(X7 (Jx h) n3 B).map (Vx n3 op)=Y:=HPT.out;have hv:=Hy h D2 oa2 cap2 b o2 w4 HV4.out n3;rw[HV.out.2.2.2,HX.out.2.1,Q3j n3 HX.out.2.2]at hv;have HVL:=Q1 hv;have HPT2:=Q1 hpt;clear hv hpt HPT HK hK;go_wp2_with fail
      ((with_reducible refine(HR.out _).mono ?_);rintro e w5 ⟨rfl,rfl⟩)
      go_wp2_with fail
      ((with_reducible refine HVL.out.mono ?_);rintro e w6 ⟨⟨v,ok,rfl,hok,⟨vk,vn,vd,vu,voa,vL,vc,rfl⟩,hE⟩,hb2⟩)
      have HE:=Q1 (Q3 hok (Q3 hE hb2));have h62:=H44.out.below hb2 H44.out.lt;have hw46:=hb2.size;clear hok hE hb2 HVL HR
      go_upto_region 15 with fail
      obtain⟨h8,hb3⟩:=Z2 w6 32 #[.int .i64 vk,.int .i64 vn,.int .i64 vd,.int .i64 vu,.slice voa vL vc];have h63:=h62.below hb3 h62.lt;have HB5:=J8 (J8 HB4' HE.out.2.2) hb3;have HE2:=Q1 (Q3 HE.out.1 fun E hE=>(HE.out.2.1 E hE).below hb3)
      have hg8:w6.heap.size≠g:=by have:=h62.lt;omega
      clear h62 hb3 HE;generalize w6.heap.size=g8 at *;generalize w6.alloc _=w7 at *;obtain⟨d0,e0,d1,e1,d2,e2,d3,e3,d4,e4,l8⟩:=Ql.five h8;have H63:=Q1 h63;clear h8 h63;go_wp2_with fail
      ((with_reducible refine(Gb 4 0 op vk vn vd vu _ _ _ voa vL vc false _).mono ?_);rintro e w8 ⟨rfl,hb4⟩)
      have H64:=Q1 (H63.out.below hb4 H63.out.lt);have HE3:=Q1 (Q3 HE2.out.1 fun E hE=>(HE2.out.2 E hE).below hb4);have HB6:=J8 HB5 hb4;clear d0 e0 d1 e1 d2 e2 d3 e3 d4 e4 l8 hb4 H63 HE2 HB5;obtain⟨c0,fc0,c1,fc1,c2,fc2,c3,fc3,c4,fc4,c5,fc5,c6,fc6,c7,fc7,c8,fc8,c9,fc9,c10,fc10,c11,fc11,c12,fc12,c13,fc13,lc⟩:=Ql.z14 (H64.out);go_wp2_with fail;refine bodyPost_ret (v:=.tuple #[.agg #[.int .i64 4,.slice none 0 0,.int .i64 4,.int .i64 0,.string ⟨n3.toArray⟩,.int .i64 op,.int .i64 vk,.int .i64 vn,.int .i64 vd,.int .i64 vu,.slice voa vL vc,.string ⟨#[]⟩,.string ⟨#[]⟩,.bool false],.bool ok]) ?_ rfl ?_
      · exact Zq Tryz.results19 rfl rfl (H64.out.put14 _ _ _ _ _ _ _ _ _ _ _ _ _ _) rfl
      · exact Uq HB6.out (Qr HG.out) H44.out.lt (by rw[HE3.out.1,← HPT2.out];cases X7 (Jx h) n3 B<;>rfl) ⟨_,_,_,_,_,_,_,_,_,_,_,_,_,_,_,_,_,_,rfl⟩ (fun C hC=>by rw[← HPT2.out]at hC;obtain⟨E,hE,rfl⟩:=Option.map_eq_some_iff.1 hC;exact Bh n3 op (HE3.out.2 E hE) (by have:=hop.out;unfold Wj;omega)) rfl
    | false =>
      have hpt:(if n3≠[]∧op=3 then (if Qy B≠[]∧Qy B∈Jo n3 then some (Y6 n3 (Qy B)) else none) else none)=Y:=HPT.out;clear HPT HK hK
      by_cases h3:n3=[]
      · rw[if_neg (by rintro⟨h,_⟩;exact h h3)]at hpt;have HYN:=Q1 hpt.symm;subst h3;clear hpt;obtain⟨c0,fc0,c1,fc1,c2,fc2,c3,fc3,c4,fc4,c5,fc5,c6,fc6,c7,fc7,c8,fc8,c9,fc9,c10,fc10,c11,fc11,c12,fc12,c13,fc13,lc⟩:=Ql.z14 (H44.out);go_wp2_with fail
        ((with_reducible refine(HR.out _).mono ?_);rintro e w5 ⟨rfl,rfl⟩)
        go_wp2_with fail;refine bodyPost_ret (v:=.tuple #[.agg #[.int .i64 0,.slice none 0 0,.int .i64 0,.int .i64 0,.string ⟨#[]⟩,.int .i64 0,.int .i64 0,.int .i64 0,.int .i64 0,.int .i64 0,.slice none 0 0,.string ⟨#[]⟩,.string ⟨#[]⟩,.bool false],.bool false]) ?_ rfl ?_
        · exact Zq Tryz.results19 rfl rfl (Ql.zput (H44.out)) rfl
        · exact Jr (HB4'.out) (Qr HG.out) (HYN.out) rfl
      · have g0:(n3==[])=false:=beq_eq_false_iff_ne.2 h3;have g1:(n3 != [])=true:=bne_iff_ne.2 h3
        by_cases ho:op=3
        · subst ho;rw[if_pos ⟨h3,rfl⟩]at hpt;have hal:=Yf h D2 oa2 cap2 b o2 w4 HV4.out;rw[HV.out.2.2.2,HX.out.2.1]at hal;obtain⟨wd,hwd⟩:∃ x,Qy B=x:=⟨_,rfl⟩;rw[hwd]at hal hpt;have HAL:=Q1 hal;have HYW:=Q1 hpt;clear hal hpt hwd h3;go_wp2_with fail
          ((with_reducible refine(HR.out _).mono ?_);rintro e w5 ⟨rfl,rfl⟩)
          go_wp2_with fail
          ((with_reducible refine HAL.out.mono ?_);rintro e w6 ⟨rfl,hb6⟩)
          have H46:=Q1 (H44.out.below hb6 H44.out.lt);have HB6:=J8 HB4' hb6;clear hb6 HAL;go_wp2_with fail
          ((with_reducible refine(Gb 5 0 0 0 0 0 0 _ _ _ none 0 0 false _).mono ?_);rintro e w8 ⟨rfl,hb4⟩)
          have H64:=Q1 (H46.out.below hb4 H46.out.lt);have HB7:=J8 HB6 hb4;clear hb4
          by_cases h4:wd=[]
          · subst h4;rw[if_neg (by rintro⟨h,_⟩;exact h rfl)]at HYW;obtain⟨c0,fc0,c1,fc1,c2,fc2,c3,fc3,c4,fc4,c5,fc5,c6,fc6,c7,fc7,c8,fc8,c9,fc9,c10,fc10,c11,fc11,c12,fc12,c13,fc13,lc⟩:=Ql.z14 (H64.out);go_wp2_with fail;refine bodyPost_ret (v:=.tuple #[.agg #[.int .i64 4,.slice none 0 0,.int .i64 5,.int .i64 0,.string ⟨n3.toArray⟩,.int .i64 0,.int .i64 0,.int .i64 0,.int .i64 0,.int .i64 0,.slice none 0 0,.string ⟨#[]⟩,.string ⟨#[]⟩,.bool false],.bool false]) ?_ rfl ?_
            · exact Zq Tryz.results19 rfl rfl (H64.out.put14 _ _ _ _ _ _ _ _ _ _ _ _ _ _) rfl
            · exact Uq HB7.out (Qr HG.out) H44.out.lt (by rw[← HYW.out];rfl) ⟨_,_,_,_,_,_,_,_,_,_,_,_,_,_,_,_,_,_,rfl⟩ (fun C hC=>by rw[← HYW.out]at hC;cases hC) rfl
          · have g2:(wd==[])=false:=beq_eq_false_iff_ne.2 h4;have g3:(wd != [])=true:=bne_iff_ne.2 h4;go_wp2_with fail
            ((with_reducible refine(Cs n3 _).mono ?_);rintro e w9 ⟨⟨v,rfl,hz⟩,hb9⟩)
            have HAM:=Q1 (Ou (Jo n3) wd v w9 hz (Nf n3));have H69:=Q1 (H64.out.below hb9 H64.out.lt);have HB9:=J8 HB7 hb9;clear hz hb9;go_wp2_with fail
            ((with_reducible refine HAM.out.mono ?_);rintro e w10 ⟨rfl,rfl⟩)
            obtain⟨c0,fc0,c1,fc1,c2,fc2,c3,fc3,c4,fc4,c5,fc5,c6,fc6,c7,fc7,c8,fc8,c9,fc9,c10,fc10,c11,fc11,c12,fc12,c13,fc13,lc⟩:=Ql.z14 (H69.out);go_wp2_with fail;refine bodyPost_ret (v:=.tuple #[.agg #[.int .i64 4,.slice none 0 0,.int .i64 5,.int .i64 0,.string ⟨n3.toArray⟩,.int .i64 0,.int .i64 0,.int .i64 0,.int .i64 0,.int .i64 0,.slice none 0 0,.string ⟨wd.toArray⟩,.string ⟨#[]⟩,.bool false],.bool (decide (wd∈Jo n3))]) ?_ rfl ?_
            · exact Zq Tryz.results19 rfl rfl (H69.out.put14 _ _ _ _ _ _ _ _ _ _ _ _ _ _) rfl
            · exact Uq HB9.out (Qr HG.out) H44.out.lt (by rw[← HYW.out];by_cases hx:wd∈Jo n3<;>simp[hx,h4]) ⟨_,_,_,_,_,_,_,_,_,_,_,_,_,_,_,_,_,_,rfl⟩ (fun C hC=>by rw[← HYW.out]at hC;split at hC;(obtain rfl:=Q8 hC;exact Bs _ _ 5 n3 wd (by decide));cases hC) rfl
        · have g4:(op==3)=false:=beq_eq_false_iff_ne.2 ho;rw[if_neg (by rintro⟨_,h⟩;exact ho h)]at hpt;have HYN:=Q1 hpt.symm;clear hpt ho h3;obtain⟨c0,fc0,c1,fc1,c2,fc2,c3,fc3,c4,fc4,c5,fc5,c6,fc6,c7,fc7,c8,fc8,c9,fc9,c10,fc10,c11,fc11,c12,fc12,c13,fc13,lc⟩:=Ql.z14 (H44.out);go_wp2_with fail
          ((with_reducible refine(HR.out _).mono ?_);rintro e w5 ⟨rfl,rfl⟩)
          go_wp2_with fail;refine bodyPost_ret (v:=.tuple #[.agg #[.int .i64 0,.slice none 0 0,.int .i64 0,.int .i64 0,.string ⟨#[]⟩,.int .i64 0,.int .i64 0,.int .i64 0,.int .i64 0,.int .i64 0,.slice none 0 0,.string ⟨#[]⟩,.string ⟨#[]⟩,.bool false],.bool false]) ?_ rfl ?_
          · exact Zq Tryz.results19 rfl rfl (Ql.zput (H44.out)) rfl
          · exact Jr (HB4'.out) (Qr HG.out) (HYN.out) rfl
theorem G7:∀ (l:List Vt) (i:Nat) (o:Int×Nat×Nat) (D:List (Int×Nat×Nat)),Un i l=o::D→i≤o.2.1∧o.2.1<o.2.2∧o.2.2≤i+l.length∧1≤o.1∧o.1≤5∧D=Un o.2.2 (l.drop (o.2.2-i)):=by
 intro l
 induction l with
 | nil=>intro i o D h;unfold Un at h;cases h
 | cons v r ih =>
   intro i o D h;rw[S7]at h
   cases hs:Yq v (Xj r 0) with
   | none =>
     rw[hs]at h;obtain⟨h1,h2,h3,h4,h5,h6⟩:=ih (i+1) o D h;refine⟨by omega,h2,by rw[Z8];omega,h4,h5,?_⟩;rw[h6,show o.2.2-i=(o.2.2-(i+1))+1 by omega,Z4]
   | some x =>
     obtain⟨op,n⟩:=x;rw[hs]at h;obtain⟨h1,h2,h3,h4,hw⟩:=Hl hs;obtain⟨rfl,rfl⟩:=List.cons.inj h;refine⟨Q6 _,by simp only;omega,?_,h3,h4,?_⟩
     · simp only[Z8]
       by_cases h2n:n=2
       · have hw:=hw h2n
         match r with
         | []=>cases hw
         | _::_=>simp only[Z8];omega
       · omega
     · simp only;rw[show i+n-i=(n-1)+1 by omega,Z4]
class Bel (w w':World):Prop where out:Below w.heap.size w w'
instance (w:World):Bel w w:=⟨Below.refl _ _⟩
instance (w w1:World) (m:Kc w1) [h:Bel w w1]:Bel w (grow w1 m):=⟨Qa h.out m⟩
instance (w w1:World) (o:Obj) [h:Bel w w1]:Bel w (w1.alloc o):=⟨h.out.alloc h.out.size o⟩
instance (w w1:World) [h:Bel w w1]:Bel w w1.drew:=⟨h.out.drew⟩
class Up (w:World) (g:Nat):Prop where out:w.heap.size≤g
instance (w w1:World) [h:Bel w w1]:Up w w1.heap.size:=⟨h.out.size⟩
instance (w w1:World) (g o:Nat) (v:Value) [h:Bel w w1] [hg:Up w g]:Bel w (w1.setCell ⟨g,o,none⟩ v):=⟨h.out.setCell hg.out v⟩
class Has (w:World) (g:Nat) (t:TypeId) (V:Array Value):Prop where out:Ql w g t V
instance (w:World) (t:TypeId) (V:Array Value):Has (w.alloc (.cells V t)) w.heap.size t V:=⟨Ql.new w t V⟩
instance (w:World) (m:Kc w) (g:Nat) (t:TypeId) (V:Array Value) [h:Has w g t V]:Has (grow w m) g t V:=⟨h.out.grow m⟩
instance (w:World) (g:Nat) (t:TypeId) (V:Array Value) [h:Has w g t V]:Has w.drew g t V:=⟨Jy h.out⟩
def Q0p (w:World) (X:Option Ct) (args:Array Value):Prop:=∀ wx,Bel w wx→Calls Tryz.prog 56 args wx fun e w'=>∃ (vk:Int) (voa:Option Addr) (vn vc:Nat) (vk2 vt:Int) (vnm:ByteArray) (vop ve0 ve1 ve2 ve3:Int) (vea:Option Addr) (ven vec:Nat) (vwd vvl:ByteArray) (van:Bool),e=.returned (.tuple #[.agg #[.int .i64 vk,.slice voa vn vc,.int .i64 vk2,.int .i64 vt,.string vnm,.int .i64 vop,.int .i64 ve0,.int .i64 ve1,.int .i64 ve2,.int .i64 ve3,.slice vea ven vec,.string vwd,.string vvl,.bool van],.bool X.isSome])∧Below wx.heap.size wx w'∧Hid (∀ C,X=some C→Vj (· < wx.heap.size) C (.agg #[.int .i64 vk,.slice voa vn vc,.int .i64 vk2,.int .i64 vt,.string vnm,.int .i64 vop,.int .i64 ve0,.int .i64 ve1,.int .i64 ve2,.int .i64 ve3,.slice vea ven vec,.string vwd,.string vvl,.bool van]) w')
theorem Pr {h:Nat} {l:List Vl} {oa:Option Addr} {cap b o:Nat} {w:World} (hs:Zw w h oa cap b o l) (hm:Jf 64 (l.map Vl.c)=true) (n:List UInt8) {op:Int} (ho:Wj op):Q0p w (Jj (Jx h) n op (l.map Vl.c)) #[.string ⟨n.toArray⟩,.int .i64 op,.slice oa l.length cap]:=fun wx hx=>by
 have:=Na h l oa cap b o wx (hs.below hx.out) n op ho;rw[Q7q _ _ hm]at this;refine this.mono ?_;rintro e w' ⟨⟨v,ok,rfl,rfl,⟨vk,voa,vn,vc,vk2,vt,vnm,vop,ve0,ve1,ve2,ve3,vea,ven,vec,vwd,vvl,van,rfl⟩,hC⟩,hb⟩;exact⟨_,_,_,_,_,_,_,_,_,_,_,_,_,_,_,_,_,_,rfl,hb,Q1 hC⟩
def Q5f (w wx:World) (g:Nat) (X:Option Ct):Prop:=w.heap.size≤g∧Below w.heap.size w wx∧∃ V,O7 (.agg V)∧Ql wx g 36 V∧∀ C,X=some C→Vj (· < w.heap.size) C (.agg V) wx
theorem F1 {w wy:World} {X:Option Ct} {V:Array Value} {n:Nat} [hb:Bel w wy] [hn:Up w n] (h14:O7 (.agg V)) (hC:∀ C,X=some C→Vj (· < n) C (.agg V) wy):Q5f w (wy.alloc (.cells V 36)) wy.heap.size X :=
 ⟨hb.out.size,hb.out.alloc hb.out.size _,V,h14,Ql.new _ _ _,fun C h=>((hC C h).below (Q7 _ _)).anti fun b hb=>Or.inl (Qg hb hn.out)⟩
theorem Lq {w wy wn:World} {X:Option Ct} {g:Nat} {v0 v1 v2 v3 v4 v5 v6 v7 v8 v9 v10 v11 v12 v13:Value} [hz:Has wy g 36 #[.int .i64 0,.slice none 0 0,.int .i64 0,.int .i64 0,.string ⟨#[]⟩,.int .i64 0,.int .i64 0,.int .i64 0,.int .i64 0,.int .i64 0,.slice none 0 0,.string ⟨#[]⟩,.string ⟨#[]⟩,.bool false]] [hb:Bel w wy] [hu:Up w g] [hn:Has wn g 36 #[.int .i64 0,.slice none 0 0,.int .i64 0,.int .i64 0,.string ⟨#[]⟩,.int .i64 0,.int .i64 0,.int .i64 0,.int .i64 0,.int .i64 0,.slice none 0 0,.string ⟨#[]⟩,.string ⟨#[]⟩,.bool false]] (h14:O7 (.agg #[v0,v1,v2,v3,v4,v5,v6,v7,v8,v9,v10,v11,v12,v13])) (hC:∀ C,X=some C→Vj (· < wn.heap.size) C (.agg #[v0,v1,v2,v3,v4,v5,v6,v7,v8,v9,v10,v11,v12,v13]) wy) {W:World} (hW:W=((((((((((((((wy).setCell ⟨g,0,none⟩ v0).setCell ⟨g,1,none⟩ v1).setCell ⟨g,2,none⟩ v2).setCell ⟨g,3,none⟩ v3).setCell ⟨g,4,none⟩ v4).setCell ⟨g,5,none⟩ v5).setCell ⟨g,6,none⟩ v6).setCell ⟨g,7,none⟩ v7).setCell ⟨g,8,none⟩ v8).setCell ⟨g,9,none⟩ v9).setCell ⟨g,10,none⟩ v10).setCell ⟨g,11,none⟩ v11).setCell ⟨g,12,none⟩ v12).setCell ⟨g,13,none⟩ v13):Q5f w W g X:=by
 have hgz:=Qm [v0,v1,v2,v3,v4,v5,v6,v7,v8,v9,v10,v11,v12,v13] wy g 0;have hbz:=hb.out.trans ((V3 [v0,v1,v2,v3,v4,v5,v6,v7,v8,v9,v10,v11,v12,v13] wy g 0).mono hu.out);simp only[J5,Nat.zero_add,Nat.reduceAdd]at hgz hbz;subst hW;exact⟨hu.out,hbz,_,h14,(show Ql wy g _ Zl from hz.out).put14 _ _ _ _ _ _ _ _ _ _ _ _ _ _,fun C h=>((hC C h).grown hgz fun q e _=>by injection e with e;show q<wn.heap.size;have:=hn.out.lt;omega).anti fun b hb=>Or.inl (by have hb:b<w.heap.size:=hb;have:=hn.out.lt;have:=hu.out;show b<wn.heap.size;omega)⟩
theorem Q5x {w:World} {g n:Nat} {a b:Ct} {V1 V2 V:Array Value} (cs:List Value) (hA:Vj (· < n) a (.agg V1) w) (hB:Vj (· < n) b (.agg V2) w) (hV:V.toList=V1.toList++V2.toList) (hg:g<n) (hn:n≤w.heap.size) :
  Vj (· < n) (.mk 1 [a,b] lt0) (.agg #[.int .i64 1,.slice (some ⟨w.heap.size,0,none⟩) 2 2,.int .i64 0,.int .i64 0,.string ⟨#[]⟩,.int .i64 0,.int .i64 0,.int .i64 0,.int .i64 0,.int .i64 0,.slice none 0 0,.string ⟨#[]⟩,.string ⟨#[]⟩,.bool false]) ((J5 w g 0 cs).alloc (.cells V 36)):=by
 obtain⟨xa,ha,hva,rfl,hsa⟩:=hA;obtain⟨xb,hb,hvb,rfl,hsb⟩:=hB;have hs:=Jp cs w g 0;have hpu:=Qm cs w g 0
 have hk:∀ k,some g=some k→k<w.heap.size→k<n:=fun k e _=>by injection e with e;omega
 have sa:=hsa.grown hpu hk;have sb:=hsb.grown hpu hk;generalize J5 w g 0 cs=W at *
 have ea:V1.toList=Dj xa:=by injection hva with e;exact congrArg Array.toList e
 have eb:V2.toList=Dj xb:=by injection hvb with e;exact congrArg Array.toList e
 have hV2:V.toList=[xa,xb].flatMap Dj:=by rw[hV,ea,eb];simp
 have hsz:V.size=2*14:=by rw[← Array.length_toList,hV2,Jg Mr];rfl
 obtain⟨oa,cap,gg,hv,hsl,_⟩:=Zx (Vv (base:=0) (n:=2) (size:=14) (Ql.new W 36 V) (Qs _) hsz (by decide))
 injection hv with e1 _ e3
 subst e1 e3;have e4:=(hsl.lies (by omega)).1
 injection e4 with e4
 injection e4 with e4
 subst e4;rw[hV2]at hsl
 have sp:=F9 (A:=(· < n)) (w:=W.alloc (.cells V 36)) (h:=ha+hb+1) (k:=1) (L:=Xz) (l:=[xa,xb]) (Z1 _ (by decide)) (by simp) hsl (fun _ hlt=>by have hlt:W.heap.size<n:=hlt;omega)
  ((Zy.leaf (A:=(· < n)) (w:=W.alloc (.cells V 36)) (k:=0) (n:=0) (d:=0) (u:=0) (Z1 _ (by decide)) (by unfold U2;decide) (Z1 _ (by decide))).mono fun w h=>Hj.mk (Z1 _ (by decide)) (Z1 _ (by decide)) (Z1 _ (by decide)) (Zy.mono 1 _ (by omega) h))
  (((sa.and sb).alloc _).mono fun w hw x hx=>by
   rcases List.mem_cons.1 hx with rfl|hx
   · exact Q6x _ _ (by omega) hw.1
   · obtain rfl:=Qh.1 hx
     exact Q6x _ _ (by omega) hw.2)
 refine⟨_,_,?_,?_,sp⟩
 · rw[← hs];rfl
 · rw[Cd.t_mk];rfl
theorem Nl {w w6:World} {g n:Nat} {Y X1 X2:Option Ct} {V1 V2 V:Array Value} {lw hw ok1 ok2 okk:Bool} (hb:Below w.heap.size w w6) (hg:w.heap.size≤g) (hgn:g<n) (hn:n≤w6.heap.size) (hY:(match X1,X2 with
   | some a,some b=>if lw||hw then some (.mk 1 [a,b] lt0) else none
   | _,_=>none)=Y) (h1:X1.isSome=ok1∧X2.isSome=ok2) (hA:∀ C,X1=some C→Vj (· < n) C (.agg V1) w6) (hB:∀ C,X2=some C→Vj (· < n) C (.agg V2) w6) (hV:V.toList=V1.toList++V2.toList) (hk:okk=((lw||hw)&&(ok1&&ok2))) {W:World} (hW:W=(((((((((((((((w6).setCell ⟨g,0,none⟩ (.int .i64 1)).setCell ⟨g,1,none⟩ (.slice (some ⟨w6.heap.size,0,none⟩) 2 2)).setCell ⟨g,2,none⟩ (.int .i64 0)).setCell ⟨g,3,none⟩ (.int .i64 0)).setCell ⟨g,4,none⟩ (.string ⟨#[]⟩)).setCell ⟨g,5,none⟩ (.int .i64 0)).setCell ⟨g,6,none⟩ (.int .i64 0)).setCell ⟨g,7,none⟩ (.int .i64 0)).setCell ⟨g,8,none⟩ (.int .i64 0)).setCell ⟨g,9,none⟩ (.int .i64 0)).setCell ⟨g,10,none⟩ (.slice none 0 0)).setCell ⟨g,11,none⟩ (.string ⟨#[]⟩)).setCell ⟨g,12,none⟩ (.string ⟨#[]⟩)).setCell ⟨g,13,none⟩ (.bool false)).alloc (.cells V 36)) :
  Bw (· < w.heap.size) Y (.returned (.tuple #[.agg #[.int .i64 1,.slice (some ⟨w6.heap.size,0,none⟩) 2 2,.int .i64 0,.int .i64 0,.string ⟨#[]⟩,.int .i64 0,.int .i64 0,.int .i64 0,.int .i64 0,.int .i64 0,.slice none 0 0,.string ⟨#[]⟩,.string ⟨#[]⟩,.bool false],.bool okk])) W∧Below w.heap.size w W:=by
 have hbz:=hb.trans ((V3 [.int .i64 1,.slice (some ⟨w6.heap.size,0,none⟩) 2 2,.int .i64 0,.int .i64 0,.string ⟨#[]⟩,.int .i64 0,.int .i64 0,.int .i64 0,.int .i64 0,.int .i64 0,.slice none 0 0,.string ⟨#[]⟩,.string ⟨#[]⟩,.bool false] w6 g 0).mono hg)
 have hcd:=fun a b (ha:X1=some a) (hb:X2=some b)=>Q5x [.int .i64 1,.slice (some ⟨w6.heap.size,0,none⟩) 2 2,.int .i64 0,.int .i64 0,.string ⟨#[]⟩,.int .i64 0,.int .i64 0,.int .i64 0,.int .i64 0,.int .i64 0,.slice none 0 0,.string ⟨#[]⟩,.string ⟨#[]⟩,.bool false] (hA a ha) (hB b hb) hV hgn hn
 simp only[J5,Nat.zero_add,Nat.reduceAdd]at hbz hcd;subst hW;refine⟨⟨_,_,rfl,?_,⟨_,_,_,_,_,_,_,_,_,_,_,_,_,_,_,_,_,_,rfl⟩,fun C hC=>?_⟩,hbz.alloc hbz.size _⟩
 · rw[hk,← h1.1,← h1.2,← hY]
   cases X1<;>cases X2<;>cases lw<;>cases hw<;>rfl
 · rw[← hY]at hC
   cases X1 with
   | none=>cases hC
   | some a=>cases X2 with
     | none=>cases hC
     | some b =>
       simp only at hC;split at hC
       · obtain rfl:=Q8 hC
         exact(hcd a b rfl rfl).anti fun b hb=>Or.inl (by have hb:b<w.heap.size:=hb;show b<n;omega)
       · cases hC
theorem Q1c {w:World} {h:Nat} {oa:Option Addr} {cap b o:Nat} {l:List Vl} (hs:Zw w h oa cap b o l) {N a c:Nat} (hN:l.length=N) (hac:a≤c) (hc:c≤N) :
  ∃ oa' cap' o',(∀ w,(Instr.slice 26 (.slice oa N cap) (some (.int .i64 a)) (some (.int .i64 c)) none).run Tryz.prog w=.ok (.slice oa' ((l.take c).drop a).length cap') w)∧∀ w,Zw w h oa cap b o l→Zw w h oa' cap' b o' ((l.take c).drop a):=by
 subst hN;have hle:=hs.sl.le;refine⟨if cap=a then oa else oa.map (·.add (a*7)),cap-a,o+a*7,fun w=>?_,fun w hs=>hs.part hac hc⟩;rw[run_slice_lh w 26 oa l.length cap (by rw[Xd];exact Tryz.underlying26) .i64 .i64 a c (by omega) (by omega) (by omega),Xd,Tryz.sizeOf28];simp[Result.andThen,sliced,Nat.min_eq_left hc]
theorem Oo (h:Nat) (l:List Vl) (oa:Option Addr) (cap b o:Nat) (w:World) (hs:Zw w h oa cap b o l) (hm:Jf 64 (l.map Vl.c)=true) (box:Bool) (h1:∀ o,Un 0 (l.map Vl.c)≠[o]) (h2:∀ o p,Un 0 (l.map Vl.c)≠[o,p]) :
  Calls Tryz.prog 20 #[.slice oa l.length cap,.bool box] w fun e w'=>Bw (· < w.heap.size) (Jl (Jx h) (l.map Vl.c) box) e w'∧Below w.heap.size w w':=by
 obtain⟨Y,hY⟩:∃ Y,Jl (Jx h) (l.map Vl.c) box=Y:=⟨_,rfl⟩;rw[hY];unfold Jl at hY;obtain⟨h4,hb4⟩:=Z2 w 36 Zl
 have hw1:(w.alloc (.cells Zl 36)).heap.size=w.heap.size+1:=by simp
 have hs1:=hs.below hb4;have hop:=Ku h l oa cap b o _ hs1;obtain⟨N,hN⟩:∃ N,l.length=N:=⟨_,rfl⟩;obtain⟨L,hL⟩:∃ L,l.map Vl.c=L:=⟨_,rfl⟩;obtain⟨D,hD⟩:∃ D,Un 0 L=D:=⟨_,rfl⟩;rw[hL,hD]at h1 h2;have HN:=Q1 (Q3 hN (Q3 hL hD));rw[hL]at hY hm hop;rw[hD]at hY hop;rw[hN]at hop ⊢;obtain⟨g,hg⟩:∃ g,w.heap.size=g:=⟨_,rfl⟩;have HG:=Q1 hg;rw[hg]at h4 hw1;have H4:=Q1 h4;have HB4:=Q1 hb4;have HW1:=Q1 hw1;have HY:=Q1 hY;have HS:=Q1 hs1;have HM:=Q1 hm;have HOP:=Q1 hop;clear hs hs1 h4 hb4 hw1 hN hL hY hm hop hD;simp only[Zl]at HB4 HW1 H4 HS HOP
 go_enter Tryz.func20,Tryz.ntmps20
 go_upto_region 1 with fail
 try simp only[hg]
 clear hg;generalize w.alloc _=w1 at *;go_wp2_with fail
 ((with_reducible refine HOP.out.mono ?_);rintro e w2 ⟨⟨v,rfl,hown⟩,hb2⟩)
 obtain⟨voa,vcap,vg,rfl,hsl,hpos⟩:=Zx hown;have HB2:=J8 HB4 hb2;have H42:=Q1 (H4.out.below hb2 H4.out.lt);have HS2:=Q1 (HS.out.below hb2);have HSL:=Q1 hsl;clear hown hb2 hsl HOP
 match D with
 | [] =>
   obtain rfl:none=Y:=HY.out;obtain⟨c0,fc0,c1,fc1,c2,fc2,c3,fc3,c4,fc4,c5,fc5,c6,fc6,c7,fc7,c8,fc8,c9,fc9,c10,fc10,c11,fc11,c12,fc12,c13,fc13,lc⟩:=Ql.z14 (H42.out);go_wp2_with fail;refine bodyPost_ret (v:=.tuple #[.agg #[.int .i64 0,.slice none 0 0,.int .i64 0,.int .i64 0,.string ⟨#[]⟩,.int .i64 0,.int .i64 0,.int .i64 0,.int .i64 0,.int .i64 0,.slice none 0 0,.string ⟨#[]⟩,.string ⟨#[]⟩,.bool false],.bool false]) ?_ rfl ?_
   · exact Zq Tryz.results20 rfl rfl (Ql.zput (H42.out)) rfl
   · exact Jr (HB2.out) (Qr HG.out) (rfl) rfl
 | _::_::_::D =>
   obtain rfl:none=Y:=HY.out
   have g1:(((D.length+1+1+1:Nat):Int)==1)=false:=by rw[beq_eq_false_iff_ne];omega
   have g2:(((D.length+1+1+1:Nat):Int)==2)=false:=by rw[beq_eq_false_iff_ne];omega
   simp only[Z8];generalize D.length+1+1+1=M at *;obtain⟨c0,fc0,c1,fc1,c2,fc2,c3,fc3,c4,fc4,c5,fc5,c6,fc6,c7,fc7,c8,fc8,c9,fc9,c10,fc10,c11,fc11,c12,fc12,c13,fc13,lc⟩:=Ql.z14 (H42.out);go_wp2_with fail;refine bodyPost_ret (v:=.tuple #[.agg #[.int .i64 0,.slice none 0 0,.int .i64 0,.int .i64 0,.string ⟨#[]⟩,.int .i64 0,.int .i64 0,.int .i64 0,.int .i64 0,.int .i64 0,.slice none 0 0,.string ⟨#[]⟩,.string ⟨#[]⟩,.bool false],.bool false]) ?_ rfl ?_
   · exact Zq Tryz.results20 rfl rfl (Ql.zput (H42.out)) rfl
   · exact Jr (HB2.out) (Qr HG.out) (rfl) rfl
 | [o]=>exact absurd rfl (h1 o)
 | [o,p]=>exact absurd rfl (h2 o p)
theorem Q34 (h:Nat) (l:List Vl) (oa:Option Addr) (cap b o:Nat) (w:World) (hs:Zw w h oa cap b o l) (hm:Jf 64 (l.map Vl.c)=true) (box:Bool) {op:Int} {f t:Nat} (hD:Un 0 (l.map Vl.c)=[(op,f,t)]) :
  Calls Tryz.prog 20 #[.slice oa l.length cap,.bool box] w fun e w'=>Bw (· < w.heap.size) (Jl (Jx h) (l.map Vl.c) box) e w'∧Below w.heap.size w w':=by
 obtain⟨Y,hY⟩:∃ Y,Jl (Jx h) (l.map Vl.c) box=Y:=⟨_,rfl⟩;rw[hY];unfold Jl at hY;obtain⟨h4,hb4⟩:=Z2 w 36 Zl
 have hw1:(w.alloc (.cells Zl 36)).heap.size=w.heap.size+1:=by simp
 have hs1:=hs.below hb4;have hop:=Ku h l oa cap b o _ hs1;obtain⟨N,hN⟩:∃ N,l.length=N:=⟨_,rfl⟩;obtain⟨L,hL⟩:∃ L,l.map Vl.c=L:=⟨_,rfl⟩;rw[hL]at hD;have HN:=Q1 (Q3 hN (Q3 hL hD));rw[hL]at hY hm hop;rw[hD]at hY hop;rw[hN]at hop ⊢;obtain⟨g,hg⟩:∃ g,w.heap.size=g:=⟨_,rfl⟩;have HG:=Q1 hg;rw[hg]at h4 hw1;have H4:=Q1 h4;have HB4:=Q1 hb4;have HW1:=Q1 hw1;have HY:=Q1 hY;have HS:=Q1 hs1;have HM:=Q1 hm;have HOP:=Q1 hop;clear hs hs1 h4 hb4 hw1 hN hL hY hm hop hD;simp only[Zl]at HB4 HW1 H4 HS HOP
 go_enter Tryz.func20,Tryz.ntmps20
 go_upto_region 1 with fail
 try simp only[hg]
 clear hg;generalize w.alloc _=w1 at *;go_wp2_with fail
 ((with_reducible refine HOP.out.mono ?_);rintro e w2 ⟨⟨v,rfl,hown⟩,hb2⟩)
 obtain⟨voa,vcap,vg,rfl,hsl,hpos⟩:=Zx hown;have HB2:=J8 HB4 hb2;have H42:=Q1 (H4.out.below hb2 H4.out.lt);have HS2:=Q1 (HS.out.below hb2);have HSL:=Q1 hsl;clear hown hb2 hsl HOP
 have hLN:L.length=N:=by rw[← HN.out.2.1,Qj,HN.out.1]
 obtain⟨_,hft,htN,ho1,ho5,_⟩:=G7 L 0 _ _ HN.out.2.2;simp only[Nat.zero_add]at hft htN ho1 ho5;rw[hLN]at htN;obtain⟨rfl,hvg⟩:=HSL.out.lies (by simp);have c0:w2.cell? ⟨vg,0,none⟩=some (.int .i64 op):=HSL.out.cell 0 _ rfl;have c1:w2.cell? ⟨vg,1,none⟩=some (.int .i64 (f:Int)):=HSL.out.cell 1 _ rfl;have c2:w2.cell? ⟨vg,2,none⟩=some (.int .i64 (t:Int)):=HSL.out.cell 2 _ rfl;have hvc:=HSL.out.le;obtain⟨oa1,cap1,o1,hr1,hv1⟩:=Wt HS2.out HN.out.1 (show f≤N by omega);obtain⟨oa2,cap2,o2,hr2,hv2⟩:=Xo HS2.out HN.out.1 htN
 have hr1:=fun w=>hr1 (f:Int) w rfl
 have hr2:=fun w=>hr2 (t:Int) w rfl
 have hm1:(l.take f).map Vl.c=L.take f:=by rw[← HN.out.2.1,List.map_take]
 have hm2:(l.drop t).map Vl.c=L.drop t:=by rw[← HN.out.2.1,List.map_drop]
 have hmf:=(Uh HM.out f).1;have hmt:=(Uh HM.out t).2;generalize l.take f=D1 at *;generalize l.drop t=D2 at *;obtain⟨A,hA⟩:∃ A,L.take f=A:=⟨_,rfl⟩;obtain⟨B,hB⟩:∃ B,L.drop t=B:=⟨_,rfl⟩
 have hY2:(match Jj (Jx h) (Jn (Qy A) box) op B with
  | some c=>some c
  | none=>Jj (Jx h) (Jn (Qy B) box) (6-op) A)=Y:=by rw[← hA,← hB];exact HY.out
 rw[hA]at hm1 hmf;rw[hB]at hm2 hmt;obtain⟨X1,hX1⟩:∃ X,Jj (Jx h) (Jn (Qy A) box) op B=X:=⟨_,rfl⟩;obtain⟨X2,hX2⟩:∃ X,Jj (Jx h) (Jn (Qy B) box) (6-op) A=X:=⟨_,rfl⟩;rw[hX1,hX2]at hY2;have HX:=Q1 (Q3 hX1 (Q3 hX2 hY2));have HV:=Q1 (Q3 (hv1 _ HS2.out) (Q3 hm1 (Q3 hmf (Q3 (hv2 _ HS2.out) (Q3 hm2 hmt)))));have hpos1:w1.heap.size≤vg:=hpos (by simp);have hgw1:=H4.out.lt;clear hA hB hX1 hX2 hY2 hv1 hv2 hm1 hm2 hmf hmt HY hpos HSL
 have hvcN:(0:Int)<1:=by decide
 simp only[Z8,List.length_nil,Nat.zero_add]at hvc ⊢
 go_upto_region 4 with fail
 refine Qx (by kernel_rfl) (by kernel_rfl) ?_
 repeat (go_big_quiet_step (fail))
 refine wpQuiet_nil ?_;rintro _ ⟨m,rfl⟩;have HB3:=J8 HB2 (Qk m);have H43:=Q1 (H42.out.below (Qk m) H42.out.lt);have HV3:=Q1 (Q3 (HV.out.1.below (Qk m)) (HV.out.2.2.2.1.below (Qk m)));have c0:=(Below.cell (Qk m) (p:=⟨vg,0,none⟩) hvg).trans c0;have hvg3:=Qg hvg (Zn m);clear HB2 H42 HS2 c1 c2 hr1 hr2 hvg;generalize grow w2 m=w3 at *;obtain⟨n1,hn1⟩:∃ n,Qy A=n:=⟨_,rfl⟩;obtain⟨k1,hk1⟩:∃ n,Jn n1 box=n:=⟨_,rfl⟩;have hcm:=Pr HV3.out.2 (by rw[HV.out.2.2.2.2.1];exact HV.out.2.2.2.2.2) k1 (op:=op) (by unfold Wj;omega);have hx1:=HX.out.1;rw[hn1,hk1]at hx1;rw[HV.out.2.2.2.2.1,hx1]at hcm
 have HAL:=Q1 (show ∀ wx,Bel w3 wx→Calls Tryz.prog 17 #[.slice oa1 D1.length cap1] wx fun e w'=>e=.returned (.string ⟨n1.toArray⟩)∧Below wx.heap.size wx w' from fun wx hx=>by
  have:=Yf h D1 oa1 cap1 b o1 wx (HV3.out.1.below hx.out)
  rwa [HV.out.2.1,hn1]at this)
 have HKN:=Q1 (fun w=>K7 n1 box w);rw[hk1]at HKN;have HCM:=Q1 hcm;obtain⟨ok1,hok1⟩:∃ k,X1.isSome=k:=⟨_,rfl⟩;have KEEP:=Q1 (show ∀ wx,Bel w3 wx→wx.cell? ⟨vg,0,none⟩=some (.int .i64 op) from fun wx hx=>(Below.cell hx.out (p:=⟨vg,0,none⟩) hvg3).trans c0);unfold Q0p at HCM;rw[hok1]at HCM;clear hn1 hk1 hx1 hcm
 go_upto_region 5 with fail
 go_cut [9,10] from 36 to 48 (fun s9 s10 wx=>∃ g9,s9=.pointer (some ⟨g9,0,none⟩)∧s10=.bool ok1∧Hid (Q5f w3 wx g9 X1))
 case first =>
  go_region_held3 (fun wx=>wx.cell? ⟨vg,0,none⟩=some (.int .i64 op)) (exact KEEP.out _ inferInstance) (first | (go_at_call 17;(with_reducible refine(HAL.out _ inferInstance).mono ?_);rintro e w5 ⟨rfl,hb5⟩;(first|obtain⟨m5,rfl⟩:=Qf ((Qk _).trans (hb5.mono (Zn _))) | obtain⟨m5,rfl⟩:=Qf hb5);clear hb5) | (go_at_call 16;(with_reducible refine(HKN.out _).mono ?_);rintro e w6 ⟨rfl,hb6⟩;(first|obtain⟨m6,rfl⟩:=Qf ((Qk _).trans (hb6.mono (Zn _))) | obtain⟨m6,rfl⟩:=Qf hb6);clear hb6) | (go_at_call 56;(with_reducible refine(HCM.out _ inferInstance).mono ?_);rintro e w7 ⟨vk,voa,vn,vc,vk2,vt,vnm,vop,ve0,ve1,ve2,ve3,vea,ven,vec,vwd,vvl,van,rfl,hb7,HQ⟩;(first|obtain⟨m7,rfl⟩:=Qf ((Qk _).trans (hb7.mono (Zn _))) | obtain⟨m7,rfl⟩:=Qf hb7);clear hb7))
  all_goals go_wp2_with fail
  all_goals go_meet
  all_goals refine⟨_,rfl,rfl,Q1 ?_⟩
  · refine F1 ?_ HQ.out;exact⟨_,_,_,_,_,_,_,_,_,_,_,_,_,_,_,_,_,_,rfl⟩
  all_goals
   refine Lq ?_ HQ.out rfl;exact⟨_,_,_,_,_,_,_,_,_,_,_,_,_,_,_,_,_,_,rfl⟩
 case rest =>
  obtain⟨g9,rfl,rfl,hN9⟩:=hcut;obtain⟨hg9,hb9,V,⟨vk,voa,vn,vc,vk2,vt,vnm,vop,ve0,ve1,ve2,ve3,vea,ven,vec,vwd,vvl,van,hV⟩,hblk,hC⟩:=hN9.out
  injection hV with hV
  subst hV;have HB5:=J8 HB3 hb9;have H45:=Q1 (H43.out.below hb9 H43.out.lt);have hgw:=H43.out.lt;have HV5:=Q1 (Q3 (HV3.out.1.below hb9) (HV3.out.2.below hb9));have c0:=KEEP.out _ ⟨hb9⟩;have hvg5:=Qg hvg3 hb9.size;have HC:=Q1 hC
  have hne:g9≠g:=by omega
  clear hN9 hb9 hC HB3 HV3 KEEP HAL HKN HCM H43
  cases ok1 with
  | true =>
    obtain⟨C1,rfl⟩:∃ C,X1=some C:=Option.isSome_iff_exists.1 hok1;have HYC:=Q1 (show some C1=Y from HX.out.2.2);obtain⟨d0,fd0,d1,fd1,d2,fd2,d3,fd3,d4,fd4,d5,fd5,d6,fd6,d7,fd7,d8,fd8,d9,fd9,d10,fd10,d11,fd11,d12,fd12,d13,fd13,ld⟩:=Ql.many14 (hblk);obtain⟨q0,fq0,q1,fq1,q2,fq2,q3,fq3,q4,fq4,q5,fq5,q6,fq6,q7,fq7,q8,fq8,q9,fq9,q10,fq10,q11,fq11,q12,fq12,q13,fq13,lq⟩:=Ql.z14 (H45.out);clear hok1 hblk;go_wp2_with fail;refine bodyPost_ret (v:=.tuple #[.agg #[.int .i64 vk,.slice voa vn vc,.int .i64 vk2,.int .i64 vt,.string vnm,.int .i64 vop,.int .i64 ve0,.int .i64 ve1,.int .i64 ve2,.int .i64 ve3,.slice vea ven vec,.string vwd,.string vvl,.bool van],.bool true]) ?_ rfl ?_
    · exact Zq Tryz.results20 rfl rfl (H45.out.put14 _ _ _ _ _ _ _ _ _ _ _ _ _ _) rfl
    · exact Uq HB5.out (Qr HG.out) hgw (by rw[← HYC.out];rfl) ⟨_,_,_,_,_,_,_,_,_,_,_,_,_,_,_,_,_,_,rfl⟩ (fun C hC=>by rw[← HYC.out]at hC;exact HC.out C hC) rfl
  | false =>
    obtain rfl:X1=none:=by cases X1 with
     | none=>rfl
     | some _=>cases hok1
    have HYC:=Q1 (show X2=Y from HX.out.2.2);clear hok1 HC hblk vk voa vn vc vk2 vt vnm vop ve0 ve1 ve2 ve3 vea ven vec vwd vvl van;obtain⟨n2,hn2⟩:∃ n,Qy B=n:=⟨_,rfl⟩;obtain⟨k2,hk2⟩:∃ n,Jn n2 box=n:=⟨_,rfl⟩;have hcm:=Pr HV5.out.1 (by rw[HV.out.2.1];exact HV.out.2.2.1) k2 (op:=6-op) (by unfold Wj;omega);have hx2:=HX.out.2.1;rw[hn2,hk2]at hx2;rw[HV.out.2.1,hx2]at hcm
    have HAL2:=Q1 (show ∀ wx,Bel wc wx→Calls Tryz.prog 17 #[.slice oa2 D2.length cap2] wx fun e w'=>e=.returned (.string ⟨n2.toArray⟩)∧Below wx.heap.size wx w' from fun wx hx=>by
     have:=Yf h D2 oa2 cap2 b o2 wx (HV5.out.2.below hx.out)
     rwa [HV.out.2.2.2.2.1,hn2]at this)
    have HKN2:=Q1 (fun w=>K7 n2 box w);rw[hk2]at HKN2;have HCM2:=Q1 hcm;have HTN:=Q1 (fun w=>Fj op w (by omega));obtain⟨ok2,hok2⟩:∃ k,X2.isSome=k:=⟨_,rfl⟩;have KEEP2:=Q1 (show ∀ wx,Bel wc wx→wx.cell? ⟨vg,0,none⟩=some (.int .i64 op) from fun wx hx=>(Below.cell hx.out (p:=⟨vg,0,none⟩) hvg5).trans c0);unfold Q0p at HCM2;rw[hok2]at HCM2
    have hgv:g≠vg:=by have:=hpos1;omega
    have HOK:=Q1 hok2
    have hz:=fun m:Kc wc.drew=>Ql.z14 ((Jy H45.out).grow m)
    clear hn2 hk2 hx2 hcm hok2
    go_upto_region 8 with fail
    go_region_held3 (fun wx=>wx.cell? ⟨vg,0,none⟩=some (.int .i64 op)) (first|exact KEEP2.out _ inferInstance|go_keep) (first | (go_at_call 17;(with_reducible refine(HAL2.out _ inferInstance).mono ?_);rintro e w5 ⟨rfl,hb5⟩;(first|obtain⟨m5,rfl⟩:=Qf ((Qk _).trans (hb5.mono (Zn _))) | obtain⟨m5,rfl⟩:=Qf hb5);clear hb5) | (go_at_call 16;(with_reducible refine(HKN2.out _).mono ?_);rintro e w6 ⟨rfl,hb6⟩;(first|obtain⟨m6,rfl⟩:=Qf ((Qk _).trans (hb6.mono (Zn _))) | obtain⟨m6,rfl⟩:=Qf hb6);clear hb6) | (go_at_call 57;(with_reducible refine(HTN.out _).mono ?_);rintro e w8 ⟨rfl,rfl⟩) | (go_at_call 56;(with_reducible refine(HCM2.out _ inferInstance).mono ?_);rintro e w7 ⟨vk,voa,vn,vc,vk2,vt,vnm,vop,ve0,ve1,ve2,ve3,vea,ven,vec,vwd,vvl,van,rfl,hb7,HQ⟩;(first|obtain⟨m7,rfl⟩:=Qf ((Qk _).trans (hb7.mono (Zn _))) | obtain⟨m7,rfl⟩:=Qf hb7);clear hb7))
    go_wp2_with fail;refine bodyPost_ret (v:=.tuple #[.agg #[.int .i64 vk,.slice voa vn vc,.int .i64 vk2,.int .i64 vt,.string vnm,.int .i64 vop,.int .i64 ve0,.int .i64 ve1,.int .i64 ve2,.int .i64 ve3,.slice vea ven vec,.string vwd,.string vvl,.bool van],.bool ok2]) ?_ rfl ?_
    · exact Zq Tryz.results20 rfl rfl (((Jy H45.out).grow m7).put14 _ _ _ _ _ _ _ _ _ _ _ _ _ _) rfl
    · exact Uq (Qa HB5.out.drew m7) (Qr HG.out) (Qg H45.out.lt (Zn m6)) (by rw[← HYC.out];exact HOK.out.symm) ⟨_,_,_,_,_,_,_,_,_,_,_,_,_,_,_,_,_,_,rfl⟩ (fun C hC=>HQ.out C (by rw[HYC.out];exact hC)) rfl
theorem Q33 (h:Nat) (l:List Vl) (oa:Option Addr) (cap b o:Nat) (w:World) (hs:Zw w h oa cap b o l) (hm:Jf 64 (l.map Vl.c)=true) (box:Bool) {op Yi:Int} {f t f2 t2:Nat} (hD:Un 0 (l.map Vl.c)=[(op,f,t),(Yi,f2,t2)]) :
  Calls Tryz.prog 20 #[.slice oa l.length cap,.bool box] w fun e w'=>Bw (· < w.heap.size) (Jl (Jx h) (l.map Vl.c) box) e w'∧Below w.heap.size w w':=by
 obtain⟨Y,hY⟩:∃ Y,Jl (Jx h) (l.map Vl.c) box=Y:=⟨_,rfl⟩;rw[hY];unfold Jl at hY;obtain⟨h4,hb4⟩:=Z2 w 36 Zl
 have hw1:(w.alloc (.cells Zl 36)).heap.size=w.heap.size+1:=by simp
 have hs1:=hs.below hb4;have hop:=Ku h l oa cap b o _ hs1;obtain⟨N,hN⟩:∃ N,l.length=N:=⟨_,rfl⟩;obtain⟨L,hL⟩:∃ L,l.map Vl.c=L:=⟨_,rfl⟩;rw[hL]at hD;have HN:=Q1 (Q3 hN (Q3 hL hD));rw[hL]at hY hm hop;rw[hD]at hY hop;rw[hN]at hop ⊢;obtain⟨g,hg⟩:∃ g,w.heap.size=g:=⟨_,rfl⟩;have HG:=Q1 hg;rw[hg]at h4 hw1;have H4:=Q1 h4;have HB4:=Q1 hb4;have HW1:=Q1 hw1;have HY:=Q1 hY;have HS:=Q1 hs1;have HM:=Q1 hm;have HOP:=Q1 hop;clear hs hs1 h4 hb4 hw1 hN hL hY hm hop hD;simp only[Zl]at HB4 HW1 H4 HS HOP
 go_enter Tryz.func20,Tryz.ntmps20
 go_upto_region 1 with fail
 try simp only[hg]
 clear hg;generalize w.alloc _=w1 at *;go_wp2_with fail
 ((with_reducible refine HOP.out.mono ?_);rintro e w2 ⟨⟨v,rfl,hown⟩,hb2⟩)
 obtain⟨voa,vcap,vg,rfl,hsl,hpos⟩:=Zx hown;have HB2:=J8 HB4 hb2;have H42:=Q1 (H4.out.below hb2 H4.out.lt);have HS2:=Q1 (HS.out.below hb2);have HSL:=Q1 hsl;clear hown hb2 hsl HOP
 have hLN:L.length=N:=by rw[← HN.out.2.1,Qj,HN.out.1]
 obtain⟨_,hft,htN,ho1,ho5,hD2⟩:=G7 L 0 _ _ HN.out.2.2;simp only[Nat.zero_add,Nat.sub_zero]at hft htN ho1 ho5 hD2;obtain⟨htf,hft2,ht2N,ho3,ho4,_⟩:=G7 _ _ _ _ hD2.symm;simp only[Zu]at htf hft2 ht2N ho3 ho4;rw[hLN]at htN ht2N
 have ht2:t2≤N:=by omega
 have hf2:f2≤N:=by omega
 obtain⟨rfl,hvg⟩:=HSL.out.lies (by simp);have c0:w2.cell? ⟨vg,0,none⟩=some (.int .i64 op):=HSL.out.cell 0 _ rfl;have c1:w2.cell? ⟨vg,1,none⟩=some (.int .i64 (f:Int)):=HSL.out.cell 1 _ rfl;have c2:w2.cell? ⟨vg,2,none⟩=some (.int .i64 (t:Int)):=HSL.out.cell 2 _ rfl;have c3:w2.cell? ⟨vg,3,none⟩=some (.int .i64 Yi):=HSL.out.cell 3 _ rfl;have c4:w2.cell? ⟨vg,4,none⟩=some (.int .i64 (f2:Int)):=HSL.out.cell 4 _ rfl;have c5:w2.cell? ⟨vg,5,none⟩=some (.int .i64 (t2:Int)):=HSL.out.cell 5 _ rfl;have hvc:=HSL.out.le;obtain⟨oa1,cap1,o1,hr1,hv1⟩:=Wt HS2.out HN.out.1 (show f≤N by omega);obtain⟨oa2,cap2,o2,hr2,hv2⟩:=Xo HS2.out HN.out.1 ht2;obtain⟨oa3,cap3,o3,hr3,hv3⟩:=Q1c HS2.out HN.out.1 htf hf2
 have hr1:=fun w=>hr1 (f:Int) w rfl
 have hr2:=fun w=>hr2 (t2:Int) w rfl
 have hm1:(l.take f).map Vl.c=L.take f:=by rw[← HN.out.2.1,List.map_take]
 have hm2:(l.drop t2).map Vl.c=L.drop t2:=by rw[← HN.out.2.1,List.map_drop]
 have hm3:((l.take f2).drop t).map Vl.c=(L.take f2).drop t:=by rw[← HN.out.2.1,List.map_drop,List.map_take]
 have hmf:=(Uh HM.out f).1;have hmt:=(Uh HM.out t2).2;generalize l.take f=D1 at *;generalize l.drop t2=D2 at *;generalize (l.take f2).drop t=D3 at *;obtain⟨A,hA⟩:∃ A,L.take f=A:=⟨_,rfl⟩;obtain⟨B,hB⟩:∃ B,L.drop t2=B:=⟨_,rfl⟩;obtain⟨k1,hk1⟩:∃ n,Jn (Qy ((L.take f2).drop t)) box=n:=⟨_,rfl⟩
 have hY2:(match Jj (Jx h) k1 (6-op) A,Jj (Jx h) k1 Yi B with
  | some a,some b=>if upN op Yi||De op Yi then some (.mk 1 [a,b] lt0) else none
  | _,_=>none)=Y:=by rw[← hA,← hB,← hk1];exact HY.out
 rw[hA]at hm1 hmf;rw[hB]at hm2 hmt;obtain⟨X1,hX1⟩:∃ X,Jj (Jx h) k1 (6-op) A=X:=⟨_,rfl⟩;obtain⟨X2,hX2⟩:∃ X,Jj (Jx h) k1 Yi B=X:=⟨_,rfl⟩;rw[hX1,hX2]at hY2;have HY2:=Q1 hY2
 have hcm1:=fun w3 (hb:Below w2.heap.size w2 w3)=>Pr ((hv1 _ HS2.out).below hb) (by rw[hm1];exact hmf) k1 (op:=6-op) (by unfold Wj;omega)
 have hcm2:=fun w3 (hb:Below w2.heap.size w2 w3)=>Pr ((hv2 _ HS2.out).below hb) (by rw[hm2];exact hmt) k1 (op:=Yi) (by unfold Wj;omega)
 rw[hm1,hX1]at hcm1;rw[hm2,hX2]at hcm2;obtain⟨ok1,hok1⟩:∃ k,X1.isSome=k:=⟨_,rfl⟩;obtain⟨ok2,hok2⟩:∃ k,X2.isSome=k:=⟨_,rfl⟩;unfold Q0p at hcm1 hcm2;rw[hok1]at hcm1;rw[hok2]at hcm2;have HC1:=Q1 hcm1;have HC2:=Q1 hcm2;have HOK:=Q1 (Q3 hok1 hok2)
 have HAL:=Q1 (show ∀ m:Kc w2,Calls Tryz.prog 17 #[.slice oa3 D3.length cap3] (grow w2 m) fun e w'=>e=.returned (.string ⟨(Qy ((L.take f2).drop t)).toArray⟩)∧Below (grow w2 m).heap.size (grow w2 m) w' from fun m=>by
  have:=Yf h D3 oa3 cap3 b o3 (grow w2 m) ((hv3 _ HS2.out).below (Qk m))
  rwa [hm3]at this)
 have HKN:=Q1 (fun w=>K7 (Qy ((L.take f2).drop t)) box w);rw[hk1]at HKN;generalize Qy ((L.take f2).drop t)=n1 at *;have hpos1:w1.heap.size≤vg:=hpos (by simp);have hgw1:=H4.out.lt;have HTN:=Q1 (fun w=>Fj op w (by omega));clear hA hB hX1 hX2 hY2 hv1 hv2 hv3 hm1 hm2 hm3 hmf hmt HY hpos HSL hk1 hcm1 hcm2 hok1 hok2 hD2;simp only[Z8,List.length_nil,Nat.zero_add,Nat.reduceAdd]at hvc ⊢
 have z2:(0:Int)<2:=by decide
 have z3:(1:Int)<2:=by decide
 go_upto_region 10 with fail
 go_cut [11] from 66 to 91 (fun s wx=>s=.bool (upN op Yi)∧wx=w2)
 case first =>
  obtain⟨b1,q1⟩:∃ b,(op==1)=b:=⟨_,rfl⟩;obtain⟨b2,q2⟩:∃ b,(op==2)=b:=⟨_,rfl⟩;obtain⟨b3,q3⟩:∃ b,(Yi==1)=b:=⟨_,rfl⟩;obtain⟨b4,q4⟩:∃ b,(Yi==2)=b:=⟨_,rfl⟩;have HU:=Q1 (show upN op Yi=((b1||b2)&&(b3||b4)) by unfold upN;rw[q1,q2,q3,q4])
  rcases(show b1=true∨b1=false∧b2=true∨b1=false∧b2=false by cases b1<;>cases b2<;>simp) with rfl|⟨rfl,rfl⟩ | ⟨rfl,rfl⟩
  rotate_left 2
  · go_wp2_with fail;go_meet;exact⟨by rw[HU.out];simp,rfl⟩
  all_goals rcases(show b3=true∨b3=false∧b4=true∨b3=false∧b4=false by cases b3<;>cases b4<;>simp) with rfl|⟨rfl,rfl⟩ | ⟨rfl,rfl⟩
  all_goals
   go_wp2_with fail;go_meet;exact⟨by rw[HU.out];simp,rfl⟩
 obtain⟨rfl,rfl⟩:=hcut
 go_upto_region 11 with fail
 go_cut [12] from 92 to 117 (fun s wx=>s=.bool (De op Yi)∧wc=wx)
 case first =>
  obtain⟨b1,q1⟩:∃ b,(op==5)=b:=⟨_,rfl⟩;obtain⟨b2,q2⟩:∃ b,(op==4)=b:=⟨_,rfl⟩;obtain⟨b3,q3⟩:∃ b,(Yi==5)=b:=⟨_,rfl⟩;obtain⟨b4,q4⟩:∃ b,(Yi==4)=b:=⟨_,rfl⟩;have HU:=Q1 (show De op Yi=((b1||b2)&&(b3||b4)) by unfold De;rw[q1,q2,q3,q4])
  rcases(show b1=true∨b1=false∧b2=true∨b1=false∧b2=false by cases b1<;>cases b2<;>simp) with rfl|⟨rfl,rfl⟩ | ⟨rfl,rfl⟩
  rotate_left 2
  · go_wp2_with fail;go_meet;exact⟨by rw[HU.out];simp,rfl⟩
  all_goals rcases(show b3=true∨b3=false∧b4=true∨b3=false∧b4=false by cases b3<;>cases b4<;>simp) with rfl|⟨rfl,rfl⟩ | ⟨rfl,rfl⟩
  all_goals
   go_wp2_with fail;go_meet;exact⟨by rw[HU.out];simp,rfl⟩
 obtain⟨rfl,rfl⟩:=hcut;generalize upN op Yi=lw at *;generalize De op Yi=hw at *
 go_upto_region 12 with fail
 refine Qx (by kernel_rfl) (by kernel_rfl) ?_
 repeat (go_big_quiet_step ((first | (go_at_call 17;with_reducible exact Vg (HAL.out _)) | (go_at_call 16;with_reducible exact Vg (HKN.out _)))))
 refine wpQuiet_nil ?_;rintro _ ⟨m,rfl⟩;have HB3:=J8 HB2 (Qk m);have H43:=Q1 (H42.out.below (Qk m) H42.out.lt);have HCM1:=Q1 (HC1.out _ (Qk m));have HC2:=Q1 (fun w4 (hb:Below (grow wc m).heap.size (grow wc m) w4)=>HC2.out w4 ((Qk m).trans (hb.mono (Zn m))))
 have KEEP:=Q1 (show ∀ wx,Bel (grow wc m) wx→(wx.cell? ⟨vg,0,none⟩=some (.int .i64 op)∧wx.cell? ⟨vg,1,none⟩=some (.int .i64 (f:Int)))∧wx.cell? ⟨vg,3,none⟩=some (.int .i64 Yi)∧wx.cell? ⟨vg,5,none⟩=some (.int .i64 (t2:Int)) from fun wx hx=>by
  have hb:=(Qk m).trans (hx.out.mono (Zn m))
  exact⟨⟨(hb.cell (p:=⟨vg,0,none⟩) hvg).trans c0,(hb.cell (p:=⟨vg,1,none⟩) hvg).trans c1⟩,(hb.cell (p:=⟨vg,3,none⟩) hvg).trans c3,(hb.cell (p:=⟨vg,5,none⟩) hvg).trans c5⟩)
 have hvg3:=Qg hvg (Zn m);have hg3:=H43.out.lt;clear HB2 H42 HS2 HC1 HAL HKN c0 c1 c2 c3 c4 c5 hvg hr3;generalize grow wc m=w3 at *;have c0:=(KEEP.out w3 inferInstance).1.1;have c1:=(KEEP.out w3 inferInstance).1.2
 go_upto_region 13 with fail
 go_cut [14,15] from 131 to 146 (fun s14 s15 wx=>∃ g9,s14=.pointer (some ⟨g9,0,none⟩)∧s15=.bool ok1∧Hid (Q5f w3 wx g9 X1))
 case first =>
  go_region_held3 (fun wx=>wx.cell? ⟨vg,0,none⟩=some (.int .i64 op)∧wx.cell? ⟨vg,1,none⟩=some (.int .i64 (f:Int))) (exact(KEEP.out _ inferInstance).1) (first | (go_at_call 57;(with_reducible refine(HTN.out _).mono ?_);rintro e w8 ⟨rfl,rfl⟩) | (go_at_call 56;(with_reducible refine(HCM1.out _ inferInstance).mono ?_);rintro e w7 ⟨vk,voa,vn,vc,vk2,vt,vnm,vop,ve0,ve1,ve2,ve3,vea,ven,vec,vwd,vvl,van,rfl,hb7,HQ⟩;(first|obtain⟨m7,rfl⟩:=Qf ((Qk _).trans (hb7.mono (Zn _))) | obtain⟨m7,rfl⟩:=Qf hb7);clear hb7))
  all_goals go_wp2_with fail
  all_goals go_meet
  all_goals refine⟨_,rfl,rfl,Q1 ?_⟩
  · refine F1 ?_ HQ.out;exact⟨_,_,_,_,_,_,_,_,_,_,_,_,_,_,_,_,_,_,rfl⟩
  all_goals
   refine Lq ?_ HQ.out rfl;exact⟨_,_,_,_,_,_,_,_,_,_,_,_,_,_,_,_,_,_,rfl⟩
 obtain⟨g9,rfl,rfl,hN9⟩:=hcut;obtain⟨hg9,hb9,V,⟨pk,poa,pn,pc,pk2,pt,pnm,pop,pe0,pe1,pe2,pe3,pea,pen,pec,pwd,pvl,pan,hV⟩,hblk,hC⟩:=hN9.out
 injection hV with hV
 subst hV;have HB5:=J8 HB3 hb9;have H45:=Q1 (H43.out.below hb9 H43.out.lt);have HCM2:=Q1 (HC2.out _ hb9);have KEEP2:=Q1 (fun wx (hx:Bel wc wx)=>(KEEP.out wx ⟨hb9.trans (hx.out.mono hb9.size)⟩).2);have hw35:=hb9.size;have hg5:=H45.out.lt;have HK1:=Q1 (Q3 hblk hC);clear hN9 hb9 hblk hC HB3 H43 HCM1 HC2 KEEP c0 c1 hvg3;generalize wc=w5 at *;have c3:=(KEEP2.out w5 inferInstance).1;have c5:=(KEEP2.out w5 inferInstance).2
 go_upto_region 14 with fail
 go_cut [16,17] from 147 to 161 (fun s16 s17 wx=>∃ g9,s16=.pointer (some ⟨g9,0,none⟩)∧s17=.bool ok2∧Hid (Q5f w5 wx g9 X2))
 case first =>
  go_region_held3 (fun wx=>wx.cell? ⟨vg,3,none⟩=some (.int .i64 Yi)∧wx.cell? ⟨vg,5,none⟩=some (.int .i64 (t2:Int))) (exact KEEP2.out _ inferInstance) (first | (go_at_call 57;(with_reducible refine(HTN.out _).mono ?_);rintro e w8 ⟨rfl,rfl⟩) | (go_at_call 56;(with_reducible refine(HCM2.out _ inferInstance).mono ?_);rintro e w7 ⟨vk,voa,vn,vc,vk2,vt,vnm,vop,ve0,ve1,ve2,ve3,vea,ven,vec,vwd,vvl,van,rfl,hb7,HQ⟩;(first|obtain⟨m7,rfl⟩:=Qf ((Qk _).trans (hb7.mono (Zn _))) | obtain⟨m7,rfl⟩:=Qf hb7);clear hb7))
  all_goals go_wp2_with fail
  all_goals go_meet
  all_goals refine⟨_,rfl,rfl,Q1 ?_⟩
  · refine F1 ?_ HQ.out;exact⟨_,_,_,_,_,_,_,_,_,_,_,_,_,_,_,_,_,_,rfl⟩
  all_goals
   refine Lq ?_ HQ.out rfl;exact⟨_,_,_,_,_,_,_,_,_,_,_,_,_,_,_,_,_,_,rfl⟩
 obtain⟨g10,rfl,rfl,hN9⟩:=hcut;obtain⟨hg10,hb9,V,⟨vk,voa,vn,vc,vk2,vt,vnm,vop,ve0,ve1,ve2,ve3,vea,ven,vec,vwd,vvl,van,hV⟩,hblk2,hC2⟩:=hN9.out
 injection hV with hV
 subst hV;have HB6:=J8 HB5 hb9;have H46:=Q1 (H45.out.below hb9 H45.out.lt);have hblk1:=HK1.out.1.below hb9 HK1.out.1.lt;have hlt9:=HK1.out.1.lt;have HCA:=Q1 (Q3 (fun C (h:X1=some C)=>(HK1.out.2 C h).below hb9) fun C (h:X2=some C)=>(hC2 C h).anti (A':=(· < w3.heap.size)) fun b hb=>Or.inl (Qg hb hw35));have hw6:=hb9.size
 have n1:g9≠g:=by omega
 have n2:g10≠g:=by omega
 have n3:g10≠g9:=by omega
 obtain⟨d0,fd0,d1,fd1,d2,fd2,d3,fd3,d4,fd4,d5,fd5,d6,fd6,d7,fd7,d8,fd8,d9,fd9,d10,fd10,d11,fd11,d12,fd12,d13,fd13,ld⟩:=Ql.many14 (hblk1);obtain⟨e0,fe0,e1,fe1,e2,fe2,e3,fe3,e4,fe4,e5,fe5,e6,fe6,e7,fe7,e8,fe8,e9,fe9,e10,fe10,e11,fe11,e12,fe12,e13,fe13,le⟩:=Ql.many14 (hblk2);obtain⟨q0,fq0,q1,fq1,q2,fq2,q3,fq3,q4,fq4,q5,fq5,q6,fq6,q7,fq7,q8,fq8,q9,fq9,q10,fq10,q11,fq11,q12,fq12,q13,fq13,lq⟩:=Ql.z14 (H46.out);clear hN9 hb9 hblk1 hblk2 hC2 HK1 HB5 H45 HCM2 KEEP2 c3 c5 HTN
 have HF:=Q1 (fun okk hk W=>Nl (W:=W) (okk:=okk) (V:=#[.int .i64 pk,.slice poa pn pc,.int .i64 pk2,.int .i64 pt,.string pnm,.int .i64 pop,.int .i64 pe0,.int .i64 pe1,.int .i64 pe2,.int .i64 pe3,.slice pea pen pec,.string pwd,.string pvl,.bool pan,.int .i64 vk,.slice voa vn vc,.int .i64 vk2,.int .i64 vt,.string vnm,.int .i64 vop,.int .i64 ve0,.int .i64 ve1,.int .i64 ve2,.int .i64 ve3,.slice vea ven vec,.string vwd,.string vvl,.bool van]) HB6.out (Qr HG.out) hg3 (show w3.heap.size≤wc.heap.size by omega) HY2.out HOK.out HCA.out.1 HCA.out.2 rfl hk)
 have HBK:=Q1 ((H46.out.put14 (.int .i64 1) (.slice (some ⟨wc.heap.size,0,none⟩) 2 2) (.int .i64 0) (.int .i64 0) (.string ⟨#[]⟩) (.int .i64 0) (.int .i64 0) (.int .i64 0) (.int .i64 0) (.int .i64 0) (.slice none 0 0) (.string ⟨#[]⟩) (.string ⟨#[]⟩) (.bool false)).old (.cells #[.int .i64 pk,.slice poa pn pc,.int .i64 pk2,.int .i64 pt,.string pnm,.int .i64 pop,.int .i64 pe0,.int .i64 pe1,.int .i64 pe2,.int .i64 pe3,.slice pea pen pec,.string pwd,.string pvl,.bool pan,.int .i64 vk,.slice voa vn vc,.int .i64 vk2,.int .i64 vt,.string vnm,.int .i64 vop,.int .i64 ve0,.int .i64 ve1,.int .i64 ve2,.int .i64 ve3,.slice vea ven vec,.string vwd,.string vvl,.bool van] 36))
 rcases(show (lw=true∧ok1=false)∨(lw=true∧ok1=true)∨(lw=false∧hw=true∧ok1=false)∨(lw=false∧hw=true∧ok1=true)∨(lw=false∧hw=false) by cases lw<;>cases hw<;>cases ok1<;>simp) with ⟨rfl,rfl⟩ | ⟨rfl,rfl⟩ | ⟨rfl,rfl,rfl⟩ | ⟨rfl,rfl,rfl⟩ | ⟨rfl,rfl⟩
 all_goals go_wp2_with fail
 · refine bodyPost_ret (v:=.tuple #[.agg #[.int .i64 1,.slice (some ⟨wc.heap.size,0,none⟩) 2 2,.int .i64 0,.int .i64 0,.string ⟨#[]⟩,.int .i64 0,.int .i64 0,.int .i64 0,.int .i64 0,.int .i64 0,.slice none 0 0,.string ⟨#[]⟩,.string ⟨#[]⟩,.bool false],.bool false]) ?_ rfl ?_
   · exact Zq Tryz.results20 rfl rfl (HBK.out) rfl
   · exact HF.out _ (by simp) _ rfl
 · refine bodyPost_ret (v:=.tuple #[.agg #[.int .i64 1,.slice (some ⟨wc.heap.size,0,none⟩) 2 2,.int .i64 0,.int .i64 0,.string ⟨#[]⟩,.int .i64 0,.int .i64 0,.int .i64 0,.int .i64 0,.int .i64 0,.slice none 0 0,.string ⟨#[]⟩,.string ⟨#[]⟩,.bool false],.bool ok2]) ?_ rfl ?_
   · exact Zq Tryz.results20 rfl rfl (HBK.out) rfl
   · exact HF.out _ (by simp) _ rfl
 · refine bodyPost_ret (v:=.tuple #[.agg #[.int .i64 1,.slice (some ⟨wc.heap.size,0,none⟩) 2 2,.int .i64 0,.int .i64 0,.string ⟨#[]⟩,.int .i64 0,.int .i64 0,.int .i64 0,.int .i64 0,.int .i64 0,.slice none 0 0,.string ⟨#[]⟩,.string ⟨#[]⟩,.bool false],.bool false]) ?_ rfl ?_
   · exact Zq Tryz.results20 rfl rfl (HBK.out) rfl
   · exact HF.out _ (by simp) _ rfl
 · refine bodyPost_ret (v:=.tuple #[.agg #[.int .i64 1,.slice (some ⟨wc.heap.size,0,none⟩) 2 2,.int .i64 0,.int .i64 0,.string ⟨#[]⟩,.int .i64 0,.int .i64 0,.int .i64 0,.int .i64 0,.int .i64 0,.slice none 0 0,.string ⟨#[]⟩,.string ⟨#[]⟩,.bool false],.bool ok2]) ?_ rfl ?_
   · exact Zq Tryz.results20 rfl rfl (HBK.out) rfl
   · exact HF.out _ (by simp) _ rfl
 · refine bodyPost_ret (v:=.tuple #[.agg #[.int .i64 1,.slice (some ⟨wc.heap.size,0,none⟩) 2 2,.int .i64 0,.int .i64 0,.string ⟨#[]⟩,.int .i64 0,.int .i64 0,.int .i64 0,.int .i64 0,.int .i64 0,.slice none 0 0,.string ⟨#[]⟩,.string ⟨#[]⟩,.bool false],.bool false]) ?_ rfl ?_
   · exact Zq Tryz.results20 rfl rfl (HBK.out) rfl
   · exact HF.out _ (by simp) _ rfl
theorem Pv (h:Nat) (l:List Vl) (oa:Option Addr) (cap b o:Nat) (w:World) (hs:Zw w h oa cap b o l) (hm:Jf 64 (l.map Vl.c)=true) (box:Bool) :
  Calls Tryz.prog 20 #[.slice oa l.length cap,.bool box] w fun e w'=>Bw (· < w.heap.size) (Jl (Jx h) (l.map Vl.c) box) e w'∧Below w.heap.size w w':=by
 match hD:Un 0 (l.map Vl.c) with
 | [(op,f,t)]=>exact Q34 h l oa cap b o w hs hm box hD
 | [(op,f,t),(Yi,f2,t2)]=>exact Q33 h l oa cap b o w hs hm box hD
 | []=>exact Oo h l oa cap b o w hs hm box (by rw[hD];simp) (by rw[hD];simp)
 | _::_::_::_=>exact Oo h l oa cap b o w hs hm box (by rw[hD];simp) (by rw[hD];simp)
def Q78 (A:Nat→Prop) (r:Option Ct) (e:Ending) (w:World):Prop:=∃ v,e=.returned (.tuple #[v,.bool r.isSome])∧Vj A (r.getD Ao) v w
theorem Cy {A:Nat→Prop} {C:Ct} {e:Ending} {w:World} (h:Bw A (some C) e w):Q78 A (some C) e w:=by
 obtain⟨v,ok,rfl,rfl,_,hC⟩:=h;exact⟨v,rfl,hC C rfl⟩
theorem Ig {w W:World} {Y:Option Ct} (hY:Y=none) (hb:Below w.heap.size w W):Q78 (· < w.heap.size) Y (.returned (.tuple #[.agg #[.int .i64 0,.slice none 0 0,.int .i64 0,.int .i64 0,.string ⟨#[]⟩,.int .i64 0,.int .i64 0,.int .i64 0,.int .i64 0,.int .i64 0,.slice none 0 0,.string ⟨#[]⟩,.string ⟨#[]⟩,.bool false],.bool false])) W∧Below w.heap.size w W:=by
 subst hY;exact⟨⟨_,rfl,Q02 _ _⟩,hb⟩
theorem Q3i {w:World} {h:Nat} {v:Vl} (hv:Uu w h v) (V:Array Value) (hV:V.toList=U3 v):Zw (w.alloc (.cells V 28)) h (some ⟨w.heap.size,0,none⟩) 1 w.heap.size 0 [v]:=by
 have hsz:V.size=1*7:=by rw[← Array.length_toList,hV,Ji]
 obtain⟨oa,cap,gg,he,hsl,_⟩:=Zx (Vv (base:=0) (n:=1) (size:=7) (Ql.new w 28 V) (Qs _) hsz (by decide))
 injection he with e1 _ e3
 subst e1 e3;have e4:=(hsl.lies (by omega)).1
 injection e4 with e4
 injection e4 with e4
 subst e4;rw[hV,← Zd (f:=U3)]at hsl
 exact ⟨by simp,hsl,fun i x hx=>by
  obtain rfl:=Qh.1 (List.mem_of_getElem? hx)
  exact hv.below h (Q7 _ _)⟩
theorem Q4v (h:Nat) (t:Tk) (k:List Vt) (box:Bool):Ch (Jx h) (.mk t k) box=if t.kind≠21∨Jf 64 [.mk t k]=false then none
 else if Jn (Qy (Z9 k)) box≠[] then some (Ep (Jn (Qy (Z9 k)) box))
 else match Y4 (Jx h) (Z9 k) box with
  | some c=>some c
  | none=>Jl (Jx h) (Z9 k) box:=rfl
theorem Cg (h:Nat) (tk tn td:Int) (tt:List UInt8) (ti tid:Bool) (koa:Option Addr) (kb ko kcap:Nat) (kids:List Vl) (w:World) (hv:Uu w (h+1) (.mk ⟨tk,tt,(tn,td),ti,tid⟩ koa kb ko kcap kids)) (box:Bool) :
  Calls Tryz.prog 6 #[.agg #[.int .i64 tk,.string ⟨tt.toArray⟩,.int .i64 tn,.int .i64 td,.bool ti,.bool tid,.slice koa kids.length kcap],.bool box] w fun e w'=>Q78 (· < w.heap.size) (Ch (Jx h) (.mk ⟨tk,tt,(tn,td),ti,tid⟩ (kids.map Vl.c)) box) e w'∧Below w.heap.size w w':=by
 obtain⟨Y,hY⟩:∃ Y,Ch (Jx h) (.mk ⟨tk,tt,(tn,td),ti,tid⟩ (kids.map Vl.c)) box=Y:=⟨_,rfl⟩;rw[hY];rw[Q4v]at hY;obtain⟨K,hK⟩:∃ K,kids.length=K:=⟨_,rfl⟩;have hkv:=hv.kids;have HV:=Q1 (Q3 hv hkv);have HK:=Q1 hK;have HY:=Q1 hY;rw[hK];clear hv hkv hK hY
 go_enter Tryz.func6,Tryz.ntmps6
 go_upto_region 1 with fail
 have h1:=(Ql.new w 28 #[.int .i64 tk,.string ⟨tt.toArray⟩,.int .i64 tn,.int .i64 td,.bool ti,.bool tid,.slice koa K kcap]).old (.cells Zl 36);have h2:=Ql.new2 w (.cells #[.int .i64 tk,.string ⟨tt.toArray⟩,.int .i64 tn,.int .i64 td,.bool ti,.bool tid,.slice koa K kcap] 28) 36 Zl;have hb0:=(Q7 w (.cells #[.int .i64 tk,.string ⟨tt.toArray⟩,.int .i64 tn,.int .i64 td,.bool ti,.bool tid,.slice koa K kcap] 28)).alloc (by simp) (.cells Zl 36);obtain⟨g,hg⟩:∃ g,w.heap.size=g:=⟨_,rfl⟩;have HG:=Q1 hg;have hl2:=h2.lt;rw[hg]at h1 h2 hl2;have H1:=Q1 h1;have H2:=Q1 h2;have HB:=Q1 hb0;simp only[Zl]at H1 H2 HB hl2
 try simp only[hg]
 clear h1 h2 hb0 hg;generalize World.alloc (World.alloc w _) _=w1 at *;obtain⟨q0,fq0,q1,fq1,q2,fq2,q3,fq3,q4,fq4,q5,fq5,q6,fq6,lq⟩:=Ql.seven H1.out
 have hle:w.heap.size≤g+1:=by have:=HG.out;omega
 by_cases hk:tk=21
 · subst hk;have hm:=Dw (h+1) [.mk ⟨21,tt,(tn,td),ti,tid⟩ koa kb ko kcap kids] _ 1 w1.heap.size 0 _ (Q3i (HV.out.1.below (h+1) HB.out) #[.int .i64 21,.string ⟨tt.toArray⟩,.int .i64 tn,.int .i64 td,.bool ti,.bool tid,.slice koa K kcap] (by rw[← HK.out];rfl));obtain⟨X,hX⟩:∃ X,kids.map Vl.c=X:=⟨_,rfl⟩;simp only[List.map_cons,List.map_nil,Vl.c_mk,hX,Qi]at hm;rw[hX]at HY;obtain⟨m,hmm⟩:∃ m,Jf 64 [.mk ⟨21,tt,(tn,td),ti,tid⟩ X]=m:=⟨_,rfl⟩;rw[hmm]at hm;have HMM:=Q1 hmm;have HX:=Q1 hX;have HM:=Q1 hm;clear hm hmm hX
   cases m with
   | false =>
     have HYN:=Q1 (show Y=none by rw[← HY.out,if_pos (Or.inr HMM.out)]);go_wp2_with fail
     ((with_reducible refine HM.out.mono ?_);rintro e w2 ⟨rfl,hb2⟩)
     have hb12:=(Q7 w1 (.cells #[.int .i64 21,.string ⟨tt.toArray⟩,.int .i64 tn,.int .i64 td,.bool ti,.bool tid,.slice koa K kcap] 28)).trans (hb2.mono (Q7 w1 _).size);have H22:=Q1 (H2.out.below hb12 H2.out.lt);have HB2:=J8 HB hb12;clear hb2 hb12;obtain⟨c0,fc0,c1,fc1,c2,fc2,c3,fc3,c4,fc4,c5,fc5,c6,fc6,c7,fc7,c8,fc8,c9,fc9,c10,fc10,c11,fc11,c12,fc12,c13,fc13,lc⟩:=Ql.z14 (H22.out);go_wp2_with fail;refine bodyPost_ret (v:=.tuple #[.agg #[.int .i64 0,.slice none 0 0,.int .i64 0,.int .i64 0,.string ⟨#[]⟩,.int .i64 0,.int .i64 0,.int .i64 0,.int .i64 0,.int .i64 0,.slice none 0 0,.string ⟨#[]⟩,.string ⟨#[]⟩,.bool false],.bool false]) ?_ rfl ?_
     · exact Zq Tryz.results6 rfl rfl (Ql.zput H22.out) rfl
     · exact Ig HYN.out (Jr (Y:=none) HB2.out hle rfl rfl).2
   | true =>
     have hT:=O0 (k:=X) HMM.out rfl
     have hY2:Y=if Jn (Qy (Z9 X)) box≠[] then some (Ep (Jn (Qy (Z9 X)) box)) else match Y4 (Jx h) (Z9 X) box with
      | some c=>some c
      | none=>Jl (Jx h) (Z9 X) box:=by rw[← HY.out,if_neg (by rw[HMM.out];simp)]
     obtain⟨T,hTe⟩:∃ T,Z9 X=T:=⟨_,rfl⟩;rw[hTe]at hT hY2;obtain⟨n1,hn1⟩:∃ n,Qy T=n:=⟨_,rfl⟩;obtain⟨k1,hk1⟩:∃ n,Jn n1 box=n:=⟨_,rfl⟩;rw[hn1,hk1]at hY2;have HY2:=Q1 hY2;have HTT:=Q1 (Q3 hTe (Q3 hT hn1));have HKN:=Q1 (fun w=>K7 n1 box w);rw[hk1]at HKN;clear hT hY2 hTe hn1 hk1 HY HMM;go_wp2_with fail
     ((with_reducible refine HM.out.mono ?_);rintro e w2 ⟨rfl,hb2⟩)
     have hb12:=(Q7 w1 (.cells #[.int .i64 21,.string ⟨tt.toArray⟩,.int .i64 tn,.int .i64 td,.bool ti,.bool tid,.slice koa K kcap] 28)).trans (hb2.mono (Q7 w1 _).size);have H22:=Q1 (H2.out.below hb12 H2.out.lt);have h12:=H1.out.below hb12 H1.out.lt;have HB2:=J8 HB hb12;have ht:=G0 h kids koa kcap kb ko w2 ((HV.out.2.below HB.out).below hb12);rw[HX.out,HTT.out.1,HK.out]at ht;have HTR:=Q1 ht;clear q0 fq0 q1 fq1 q2 fq2 q3 fq3 q4 fq4 q5 fq5 q6 fq6 lq hb2 hb12 H1 H2 HB HM ht;obtain⟨q0,fq0,q1,fq1,q2,fq2,q3,fq3,q4,fq4,q5,fq5,q6,fq6,lq⟩:=Ql.seven h12;clear h12;go_wp2_with fail
     ((with_reducible refine HTR.out.mono ?_);rintro e w3 ⟨⟨v,rfl,oa2,cap2,b2,o2,l2,rfl,hc2,hs2⟩,hb3⟩)
     have hs2:=hs2.here;have H23:=Q1 (H22.out.below hb3 H22.out.lt);have HB3:=J8 HB2 hb3;have hal:=Yf h l2 oa2 cap2 b2 o2 w3 hs2;rw[hc2,HTT.out.2.2]at hal;have HAL:=Q1 hal;have HL2:=Q1 (Q3 hs2 hc2);clear q0 fq0 q1 fq1 q2 fq2 q3 fq3 q4 fq4 q5 fq5 q6 fq6 lq hb3 hal hs2 hc2 HTR H22 HB2;go_wp2_with fail
     ((with_reducible refine HAL.out.mono ?_);rintro e w4 ⟨rfl,hb4⟩)
     go_wp2_with fail
     ((with_reducible refine(HKN.out _).mono ?_);rintro e w5 ⟨rfl,hb5⟩)
     have hb35:=hb4.trans (hb5.mono hb4.size);have H25:=Q1 (H23.out.below hb35 H23.out.lt);have HB5:=J8 HB3 hb35;have HL5:=Q1 (HL2.out.1.below hb35);have hgl:=H25.out.lt;clear hb4 hb5 hb35 H23 HB3 HAL HKN
     by_cases h0:k1=[]
     · subst h0
       have hY3:Y=match Y4 (Jx h) T box with
        | some c=>some c
        | none=>Jl (Jx h) T box:=by rw[HY2.out,if_neg (by simp)]
       have hmT:Jf 64 (l2.map Vl.c)=true:=by rw[HL2.out.2];exact HTT.out.2.1
       have hp:=I6 h l2 oa2 cap2 b2 o2 w5 HL5.out hmT box;rw[HL2.out.2]at hp;obtain⟨X1,hX1⟩:∃ X,Y4 (Jx h) T box=X:=⟨_,rfl⟩;rw[hX1]at hp hY3;have HP:=Q1 hp;have HY3:=Q1 hY3;have HMT:=Q1 hmT;clear hp hX1 hY3 hmT HY2;go_wp2_with fail
       ((with_reducible refine HP.out.mono ?_);rintro e w6 ⟨⟨v,ok,rfl,hok,⟨vk,voa,vn,vc,vk2,vt,vnm,vop,ve0,ve1,ve2,ve3,vea,ven,vec,vwd,vvl,van,rfl⟩,hC⟩,hb6⟩)
       have h26:=H25.out.below hb6 H25.out.lt;have HB6:=J8 HB5 hb6;have HL6:=Q1 (HL5.out.below hb6);have HC:=Q1 hC;have HOK:=Q1 hok;clear hok hb6 hC HP HL5 HB5
       go_upto_region 8 with fail
       obtain⟨h8,hb7⟩:=Z2 w6 36 #[.int .i64 vk,.slice voa vn vc,.int .i64 vk2,.int .i64 vt,.string vnm,.int .i64 vop,.int .i64 ve0,.int .i64 ve1,.int .i64 ve2,.int .i64 ve3,.slice vea ven vec,.string vwd,.string vvl,.bool van];have h27:=h26.below hb7 h26.lt;have HB7:=J8 HB6 hb7;have HL7:=Q1 (HL6.out.below hb7)
       have HC7:=Q1 fun C (h:X1=some C)=>(HC.out C h).below hb7
       have hne:w6.heap.size≠g+1:=by have:=h26.lt;omega
       clear h26 hb7 HB6 HL6 HC;generalize w6.heap.size=g8 at *;generalize w6.alloc _=w7 at *;have H27:=Q1 h27;clear h27
       cases ok with
       | true =>
         obtain⟨C1,rfl⟩:∃ C,X1=some C:=Option.isSome_iff_exists.1 HOK.out.symm;have HYC:=Q1 (show Y=some C1 from HY3.out);obtain⟨d0,fd0,d1,fd1,d2,fd2,d3,fd3,d4,fd4,d5,fd5,d6,fd6,d7,fd7,d8,fd8,d9,fd9,d10,fd10,d11,fd11,d12,fd12,d13,fd13,ld⟩:=Ql.many14 (h8);obtain⟨c0,fc0,c1,fc1,c2,fc2,c3,fc3,c4,fc4,c5,fc5,c6,fc6,c7,fc7,c8,fc8,c9,fc9,c10,fc10,c11,fc11,c12,fc12,c13,fc13,lc⟩:=Ql.z14 (H27.out);clear h8 HOK;go_wp2_with fail;refine bodyPost_ret (v:=.tuple #[.agg #[.int .i64 vk,.slice voa vn vc,.int .i64 vk2,.int .i64 vt,.string vnm,.int .i64 vop,.int .i64 ve0,.int .i64 ve1,.int .i64 ve2,.int .i64 ve3,.slice vea ven vec,.string vwd,.string vvl,.bool van],.bool true]) ?_ rfl ?_
         · exact Zq Tryz.results6 rfl rfl (H27.out.put14 _ _ _ _ _ _ _ _ _ _ _ _ _ _) rfl
         · exact by rw[HYC.out];exact(fun⟨a,b⟩=>⟨Cy a,b⟩) (Uq HB7.out hle hgl rfl ⟨_,_,_,_,_,_,_,_,_,_,_,_,_,_,_,_,_,_,rfl⟩ (fun C hC=>HC7.out C hC) rfl)
       | false =>
         obtain rfl:X1=none:=by cases X1 with
          | none=>rfl
          | some _=>cases HOK.out
         clear HOK h8 HC7;have HY4:=Q1 (show Y=Jl (Jx h) T box from HY3.out);have hp:=Pv h l2 oa2 cap2 b2 o2 w7 HL7.out HMT.out box;rw[HL2.out.2]at hp;obtain⟨X2,hX2⟩:∃ X,Jl (Jx h) T box=X:=⟨_,rfl⟩;rw[hX2]at hp HY4;have HP:=Q1 hp;clear hp hX2 HY3;go_wp2_with fail
         ((with_reducible refine HP.out.mono ?_);rintro e w8 ⟨⟨v,ok,rfl,hok,⟨vk,voa,vn,vc,vk2,vt,vnm,vop,ve0,ve1,ve2,ve3,vea,ven,vec,vwd,vvl,van,rfl⟩,hC⟩,hb6⟩)
         have h26:=H27.out.below hb6 H27.out.lt;have HB6:=J8 HB7 hb6;have HC:=Q1 hC;have HOK:=Q1 hok;clear hok hb6 hC HP HL7 HB7
         go_upto_region 11 with fail
         obtain⟨h8,hb7⟩:=Z2 w8 36 #[.int .i64 vk,.slice voa vn vc,.int .i64 vk2,.int .i64 vt,.string vnm,.int .i64 vop,.int .i64 ve0,.int .i64 ve1,.int .i64 ve2,.int .i64 ve3,.slice vea ven vec,.string vwd,.string vvl,.bool van];have h27:=h26.below hb7 h26.lt;have HB7:=J8 HB6 hb7
         have HC7:=Q1 fun C (h:X2=some C)=>(HC.out C h).below hb7
         have hne2:w8.heap.size≠g+1:=by have:=h26.lt;omega
         have hgl2:=H27.out.lt;clear h26 hb7 HB6 HC;generalize w8.heap.size=g9 at *;generalize w8.alloc _=w9 at *;have H29:=Q1 h27;clear h27;obtain⟨c0,fc0,c1,fc1,c2,fc2,c3,fc3,c4,fc4,c5,fc5,c6,fc6,c7,fc7,c8,fc8,c9,fc9,c10,fc10,c11,fc11,c12,fc12,c13,fc13,lc⟩:=Ql.z14 (H29.out)
         cases ok with
         | true =>
           obtain⟨C1,rfl⟩:∃ C,X2=some C:=Option.isSome_iff_exists.1 HOK.out.symm;obtain⟨d0,fd0,d1,fd1,d2,fd2,d3,fd3,d4,fd4,d5,fd5,d6,fd6,d7,fd7,d8,fd8,d9,fd9,d10,fd10,d11,fd11,d12,fd12,d13,fd13,ld⟩:=Ql.many14 (h8);clear h8 HOK;go_wp2_with fail;refine bodyPost_ret (v:=.tuple #[.agg #[.int .i64 vk,.slice voa vn vc,.int .i64 vk2,.int .i64 vt,.string vnm,.int .i64 vop,.int .i64 ve0,.int .i64 ve1,.int .i64 ve2,.int .i64 ve3,.slice vea ven vec,.string vwd,.string vvl,.bool van],.bool true]) ?_ rfl ?_
           · exact Zq Tryz.results6 rfl rfl (H29.out.put14 _ _ _ _ _ _ _ _ _ _ _ _ _ _) rfl
           · exact by rw[HY4.out];exact(fun⟨a,b⟩=>⟨Cy a,b⟩) (Uq HB7.out hle hgl2 rfl ⟨_,_,_,_,_,_,_,_,_,_,_,_,_,_,_,_,_,_,rfl⟩ (fun C hC=>HC7.out C hC) rfl)
         | false =>
           obtain rfl:X2=none:=by cases X2 with
            | none=>rfl
            | some _=>cases HOK.out
           clear HOK h8;go_wp2_with fail;refine bodyPost_ret (v:=.tuple #[.agg #[.int .i64 0,.slice none 0 0,.int .i64 0,.int .i64 0,.string ⟨#[]⟩,.int .i64 0,.int .i64 0,.int .i64 0,.int .i64 0,.int .i64 0,.slice none 0 0,.string ⟨#[]⟩,.string ⟨#[]⟩,.bool false],.bool false]) ?_ rfl ?_
           · exact Zq Tryz.results6 rfl rfl (Ql.zput H29.out) rfl
           · exact Ig HY4.out (Jr (Y:=none) HB7.out hle rfl rfl).2
     · have g0:(k1==[])=false:=beq_eq_false_iff_ne.2 h0;have g1:(k1 != [])=true:=bne_iff_ne.2 h0;have HYC:=Q1 (show Y=some (Ep k1) by rw[HY2.out,if_pos h0]);clear h0 HY2;go_wp2_with fail
       ((with_reducible refine(Gb 3 0 0 0 0 0 0 _ _ _ none 0 0 false _).mono ?_);rintro e w6 ⟨rfl,hb6⟩)
       have H26:=Q1 (H25.out.below hb6 H25.out.lt);have HB6:=J8 HB5 hb6;clear hb6;obtain⟨c0,fc0,c1,fc1,c2,fc2,c3,fc3,c4,fc4,c5,fc5,c6,fc6,c7,fc7,c8,fc8,c9,fc9,c10,fc10,c11,fc11,c12,fc12,c13,fc13,lc⟩:=Ql.z14 (H26.out);go_wp2_with fail;refine bodyPost_ret (v:=.tuple #[.agg #[.int .i64 4,.slice none 0 0,.int .i64 3,.int .i64 0,.string ⟨k1.toArray⟩,.int .i64 0,.int .i64 0,.int .i64 0,.int .i64 0,.int .i64 0,.slice none 0 0,.string ⟨#[]⟩,.string ⟨#[]⟩,.bool false],.bool true]) ?_ rfl ?_
       · exact Zq Tryz.results6 rfl rfl (H26.out.put14 _ _ _ _ _ _ _ _ _ _ _ _ _ _) rfl
       · exact by rw[HYC.out];exact(fun⟨a,b⟩=>⟨Cy a,b⟩) (Uq HB6.out hle hgl rfl ⟨_,_,_,_,_,_,_,_,_,_,_,_,_,_,_,_,_,_,rfl⟩ (fun C hC=>by obtain rfl:=Q8 hC;exact Bs _ _ 3 k1 [] (by decide)) rfl)
 · have gk:(tk != 21)=true:=by simpa using hk
   have HYN:=Q1 (show Y=none by rw[← HY.out,if_pos (Or.inl hk)]);obtain⟨c0,fc0,c1,fc1,c2,fc2,c3,fc3,c4,fc4,c5,fc5,c6,fc6,c7,fc7,c8,fc8,c9,fc9,c10,fc10,c11,fc11,c12,fc12,c13,fc13,lc⟩:=Ql.z14 (H2.out);go_wp2_with fail;refine bodyPost_ret (v:=.tuple #[.agg #[.int .i64 0,.slice none 0 0,.int .i64 0,.int .i64 0,.string ⟨#[]⟩,.int .i64 0,.int .i64 0,.int .i64 0,.int .i64 0,.int .i64 0,.slice none 0 0,.string ⟨#[]⟩,.string ⟨#[]⟩,.bool false],.bool false]) ?_ rfl ?_
   · exact Zq Tryz.results6 rfl rfl (Ql.zput H2.out) rfl
   · exact Ig HYN.out (Jr (Y:=none) HB.out hle rfl rfl).2
end Go.Proofs.YtnanffmhbjdpaaaGreatDoor
