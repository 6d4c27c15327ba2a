/- Of my texts: MedR, MedS, AwL, AwQ. -/
import Derived.Test.YtnanffmhbjdpaaaGreatDoorM00
import Derived.Test.YtnanffmhbjdpaaaGreatDoorM02
import Derived.Test.YtnanffmhbjdpaaaGreatDoorM03
import Derived.Test.YtnanffmhbjdpaaaGreatDoorM25
import Derived.Test.YtnanffmhbjdpaaaGreatDoorM26
import Derived.Test.YtnanffmhbjdpaaaGreatDoorM29
namespace Go.Proofs.YtnanffmhbjdpaaaGreatDoor
set_option maxHeartbeats 8000000
set_option maxRecDepth 20000
set_option linter.unusedVariables false
set_option linter.unusedSimpArgs false
open Go.RowKit
theorem Hd (h:Nat) (l:List Vl) (oa:Option Addr) (cap b o:Nat) (w:World) (hs:Zw w h oa cap b o l) (hm:Jf 64 (l.map Vl.c)=true) (n:List UInt8) :
  Calls Tryz.prog 61 #[.string ⟨n.toArray⟩,.slice oa l.length cap] w fun e w'=>Ys (· < w.heap.size) (Zm (Jx h) n (l.map Vl.c)) e w'∧Below w.heap.size w w' :=
 Mz h l oa cap b o w hs hm n fun _ l oa cap b o w hs hm=>Mz h l oa cap b o w hs hm [] fun h=>by cases h
def pcR (s:List UInt8) (box:Bool):Bool:=decide (4<s.length)&&(s.take 4==U5||s.take 4==Jq)&&(Z6 (s.drop 4) box).2
def Q1s (s:List UInt8) (box:Bool):Int:=if pcR s box then (if s.take 4=Jq then 2 else 4) else 3
def pmR (s:List UInt8) (box:Bool):List UInt8:=if pcR s box then s.drop 4 else s
theorem P5 (h:Nat) (l:List Vl) (oa:Option Addr) (cap b o:Nat) (w:World) (hs:Zw w h oa cap b o l) (hm:Jf 64 (l.map Vl.c)=true) (s:List UInt8) (box:Bool) :
  Calls Tryz.prog 27 #[.string ⟨s.toArray⟩,.slice oa l.length cap,.bool box] w fun e w'=>Bw (· < w.heap.size) (Yo (Jx h) s (l.map Vl.c) box) e w'∧Below w.heap.size w w':=by
 obtain⟨N,hN⟩:∃ N,l.length=N:=⟨_,rfl⟩;obtain⟨L,hL⟩:∃ L,l.map Vl.c=L:=⟨_,rfl⟩;obtain⟨Y,hY⟩:∃ Y,Yo (Jx h) s L box=Y:=⟨_,rfl⟩;rw[hL,hY]
 have hY:(if (Z6 (pmR s box) box).2 then (Zm (Jx h) (Z6 (pmR s box) box).1 L).map (Vx (Z6 (pmR s box) box).1 (Q1s s box))
  else if Uf (pmR s box) box=true∧Qy L≠[]∧Qy L∈Jo (pmR s box) then some (Y6 (pmR s box) (Qy L)) else none)=Y:=hY
 obtain⟨h6,hb6⟩:=Z2 w 36 Zl
 have hw1:(w.alloc (.cells Zl 36)).heap.size=w.heap.size+1:=by simp
 have hs1:=hs.below hb6;obtain⟨g,hg⟩:∃ g,w.heap.size=g:=⟨_,rfl⟩;have HG:=Q1 hg;rw[hg]at h6 hw1;rw[hN]
 have hop:Wj (Q1s s box):=by unfold Q1s;split;split;all_goals exact Z1 _ (by decide)
 have HOP:=Q1 hop;have HN:=Q1 (Q3 hN hL);rw[hL]at hm;have HM:=Q1 hm;have H6:=Q1 h6;have HB6:=Q1 hb6;have HW1:=Q1 hw1;have HY:=Q1 hY;have HS:=Q1 hs1;obtain⟨M,hM⟩:∃ M,pmR s box=M:=⟨_,rfl⟩;obtain⟨OP,hOP⟩:∃ OP,Q1s s box=OP:=⟨_,rfl⟩;rw[hM,hOP]at HY;rw[hOP]at HOP;clear hs hs1 h6 hb6 hw1 hY hm hop hN hL;simp only[Zl]at HB6 HW1 H6 HS
 go_enter Tryz.func27,Tryz.ntmps27
 go_upto_region 1 with fail
 try simp only[hg]
 clear hg;generalize w.alloc _=w1 at *
 go_cut [8] from 8 to 8 (fun s wx=>s=.int .i64 3∧w1=wx)
 case first =>
  go_wp2_with fail;go_meet;exact⟨rfl,rfl⟩
 obtain⟨rfl,rfl⟩:=hcut
 rename_i hK
 refine hK _ _ ?_
 apply wp_seq_k
 intro K0 hK0
 go_cut [0,8] from 9 to 41 (fun s0 s8 wx=>s0=.string ⟨M.toArray⟩∧s8=.int .i64 OP∧w1=wx)
 case first =>
  by_cases h4:4<s.length
  · have g4:decide ((4:Int)<(s.length:Int))=true:=decide_eq_true (by omega)
    have he1:(⟨s.toArray⟩:ByteArray).extract 0 4=⟨(s.take 4).toArray⟩:=by rw[ByteArray.extract_mk];simp
    have he2:(⟨s.toArray⟩:ByteArray).extract 4 s.length=⟨(s.drop 4).toArray⟩:=by rw[ByteArray.extract_mk];simp;exact Zc (by simp)
    have hM:(if (s.take 4==U5||s.take 4==Jq)&&(Z6 (s.drop 4) box).2 then s.drop 4 else s)=M:=by rw[← hM];unfold pmR pcR;rw[decide_eq_true h4,Bool.true_and]
    have hOP:(if (s.take 4==U5||s.take 4==Jq)&&(Z6 (s.drop 4) box).2 then (if (s.take 4==Jq)=true then (2:Int) else 4) else 3)=OP:=by rw[← hOP];unfold Q1s pcR;rw[decide_eq_true h4,Bool.true_and];simp only[beq_iff_eq]
    have hxx:¬ ((s.take 4==U5)=true∧(s.take 4==Jq)=true):=by
     rintro⟨h1,h2⟩;rw[beq_iff_eq]at h1 h2;rw[h1]at h2
     cases h2
    have HR:=Q1 (fun w=>Xk (s.drop 4) box w);generalize s.drop 4=D at *;generalize s.take 4=P at *;generalize Z6 D box=R at *;obtain⟨r1,r2⟩:=R;obtain⟨c1,q1⟩:∃ c,(P==[109,105,110,45])=c:=⟨_,rfl⟩;obtain⟨c2,q2⟩:∃ c,(P==[109,97,120,45])=c:=⟨_,rfl⟩;rw[show (P==U5)=c1 from q1,show (P==Jq)=c2 from q2]at *
    have h4i:(4:Int)≤(s.length:Int):=by omega
    rcases(show (c1=true∧c2=false)∨(c1=false∧c2=true)∨(c1=false∧c2=false) by cases c1<;>cases c2<;>simp at hxx ⊢) with ⟨rfl,rfl⟩ | ⟨rfl,rfl⟩ | ⟨rfl,rfl⟩
    rotate_left 2
    · obtain rfl:s=M:=hM;obtain rfl:3=OP:=hOP;clear hxx;go_wp2_with fail;go_meet;exact⟨rfl,rfl,rfl⟩
    all_goals
     cases r2 with
     | false =>
       obtain rfl:s=M:=hM;obtain rfl:3=OP:=hOP;clear hxx;go_wp2_with fail
       ((with_reducible refine(HR.out _).mono ?_);rintro e w2 ⟨rfl,rfl⟩)
       go_wp2_with fail;go_meet;exact⟨rfl,rfl,rfl⟩
     | true =>
       obtain rfl:D=M:=hM;have hOP:_=OP:=hOP;simp at hOP;subst hOP;clear hxx;go_wp2_with fail
       ((with_reducible refine(HR.out _).mono ?_);rintro e w2 ⟨rfl,rfl⟩)
       go_wp2_with fail;go_meet;exact⟨rfl,rfl,rfl⟩
  · have g4:decide ((4:Int)<(s.length:Int))=false:=decide_eq_false (by omega)
    obtain rfl:s=M:=by rw[← hM];unfold pmR pcR;rw[decide_eq_false h4];rfl
    obtain rfl:3=OP:=by rw[← hOP];unfold Q1s pcR;rw[decide_eq_false h4];rfl
    go_wp2_with fail;go_meet;exact⟨rfl,rfl,rfl⟩
 case rest =>
  obtain⟨rfl,rfl,rfl⟩:=hcut;refine hK0 _ _ ?_;have HR:=Q1 (fun w=>Xk M box w);obtain⟨R,hR⟩:∃ R,Z6 M box=R:=⟨_,rfl⟩;rw[hR]at HR HY;obtain⟨n,is⟩:=R;have HWD:=Q1 (fun w=>Fi M box w);have HAL:=Q1 (Bn h l oa cap b o w1 HS.out);rw[HN.out.1,HN.out.2]at HAL;have hp:=Hd h l oa cap b o w1 HS.out (by rw[HN.out.2];exact HM.out) n;rw[HN.out.1,HN.out.2]at hp;have HP:=Q1 hp;clear hp hM hOP hY hK hR;go_wp2_with fail
  ((with_reducible refine(HR.out _).mono ?_);rintro e w2 ⟨rfl,rfl⟩)
  cases is with
  | true =>
    have HY2:=Q1 (show (Zm (Jx h) n L).map (Vx n OP)=Y from HY.out);clear HY HWD HAL HR;go_wp2_with fail
    ((with_reducible refine HP.out.mono ?_);rintro e w2 ⟨⟨v,ok,rfl,hok,⟨vk,vn,vd,vu,voa,vL,vc,rfl⟩,hE⟩,hb2⟩)
    have HE:=Q1 (Q3 hok (Q3 hE hb2));have h62:=H6.out.below hb2 H6.out.lt;clear hok hE hb2
    go_upto_region 12 with fail
    obtain⟨h8,hb3⟩:=Z2 w2 32 #[.int .i64 vk,.int .i64 vn,.int .i64 vd,.int .i64 vu,.slice voa vL vc];have h63:=h62.below hb3 h62.lt;have HB3:=J8 (J8 HB6 HE.out.2.2) hb3;have HE2:=Q1 (Q3 HE.out.1 fun E hE=>(HE.out.2.1 E hE).below hb3)
    have hg8:w2.heap.size≠g:=by have:=h62.lt;omega
    clear h62 hb3 HE HP;generalize w2.heap.size=g8 at *;generalize w2.alloc _=w3 at *;obtain⟨d0,e0,d1,e1,d2,e2,d3,e3,d4,e4,l8⟩:=Ql.five h8;have H63:=Q1 h63;clear h8 h63
    cases ok with
    | false =>
      obtain⟨c0,fc0,c1,fc1,c2,fc2,c3,fc3,c4,fc4,c5,fc5,c6,fc6,c7,fc7,c8,fc8,c9,fc9,c10,fc10,c11,fc11,c12,fc12,c13,fc13,lc⟩:=Ql.z14 (H63.out);go_wp2_with fail;refine bodyPost_ret (v:=.tuple #[.agg #[.int .i64 0,.slice none 0 0,.int .i64 0,.int .i64 0,.string ⟨#[]⟩,.int .i64 0,.int .i64 0,.int .i64 0,.int .i64 0,.int .i64 0,.slice none 0 0,.string ⟨#[]⟩,.string ⟨#[]⟩,.bool false],.bool false]) ?_ rfl ?_
      · exact Zq Tryz.results27 rfl rfl (Ql.zput (H63.out)) rfl
      · exact Jr (HB3.out) (Qr HG.out) (by rw[← HY2.out];cases hA:Zm (Jx h) n L with|none=>rfl|some e=>have:=HE2.out.1;rw[hA]at this;cases this) rfl
    | true =>
      go_wp2_with fail
      ((with_reducible refine(Wf _ OP vk vn vd vu voa vL vc _).mono ?_);rintro e w4 ⟨rfl,hb4⟩)
      have H64:=Q1 (H63.out.below hb4 H63.out.lt);have HE3:=Q1 (Q3 HE2.out.1 fun E hE=>(HE2.out.2 E hE).below hb4);have HB4:=J8 HB3 hb4;clear d0 e0 d1 e1 d2 e2 d3 e3 d4 e4 l8 hb4 H63 HE2 HB3;obtain⟨c0,fc0,c1,fc1,c2,fc2,c3,fc3,c4,fc4,c5,fc5,c6,fc6,c7,fc7,c8,fc8,c9,fc9,c10,fc10,c11,fc11,c12,fc12,c13,fc13,lc⟩:=Ql.z14 (H64.out);go_wp2_with fail;refine bodyPost_ret (v:=.tuple #[.agg #[.int .i64 4,.slice none 0 0,.int .i64 4,.int .i64 0,.string ⟨n.toArray⟩,.int .i64 OP,.int .i64 vk,.int .i64 vn,.int .i64 vd,.int .i64 vu,.slice voa vL vc,.string ⟨#[]⟩,.string ⟨#[]⟩,.bool false],.bool true]) ?_ rfl ?_
      · exact Zq Tryz.results27 rfl rfl (H64.out.put14 _ _ _ _ _ _ _ _ _ _ _ _ _ _) rfl
      · exact Uq HB4.out (Qr HG.out) H6.out.lt (by rw[← HY2.out];have:=HE3.out.1;cases hA:Zm (Jx h) n L with|none=>rw[hA]at this;cases this|some e=>rfl) ⟨_,_,_,_,_,_,_,_,_,_,_,_,_,_,_,_,_,_,rfl⟩ (fun C hC=>by rw[← HY2.out]at hC;obtain⟨E,hE,rfl⟩:=Option.map_eq_some_iff.1 hC;exact Bh n OP (HE3.out.2 E hE) HOP.out) rfl
  | false =>
    have HY2:=Q1 (show (if Uf M box=true∧Qy L≠[]∧Qy L∈Jo M then some (Y6 M (Qy L)) else none)=Y from HY.out);clear HY HR HP;generalize Qy L=A at *;generalize Uf M box=wd at *;go_wp2_with fail
    ((with_reducible refine HAL.out.mono ?_);rintro e w2 ⟨rfl,hb2⟩)
    have H62:=Q1 (H6.out.below hb2 H6.out.lt);have HB2:=J8 HB6 hb2;clear hb2 H6 HB6;go_wp2_with fail
    ((with_reducible refine(HWD.out _).mono ?_);rintro e w3 ⟨rfl,hb3⟩)
    have H63:=Q1 (H62.out.below hb3 H62.out.lt);have HB3:=J8 HB2 hb3;clear hb3 H62 HB2 HWD
    cases wd with
    | false =>
      have HYN:=Q1 (show Y=none by rw[← HY2.out,if_neg (by rintro⟨h,_⟩;cases h)]);obtain⟨c0,fc0,c1,fc1,c2,fc2,c3,fc3,c4,fc4,c5,fc5,c6,fc6,c7,fc7,c8,fc8,c9,fc9,c10,fc10,c11,fc11,c12,fc12,c13,fc13,lc⟩:=Ql.z14 (H63.out);go_wp2_with fail;refine bodyPost_ret (v:=.tuple #[.agg #[.int .i64 0,.slice none 0 0,.int .i64 0,.int .i64 0,.string ⟨#[]⟩,.int .i64 0,.int .i64 0,.int .i64 0,.int .i64 0,.int .i64 0,.slice none 0 0,.string ⟨#[]⟩,.string ⟨#[]⟩,.bool false],.bool false]) ?_ rfl ?_
      · exact Zq Tryz.results27 rfl rfl (Ql.zput (H63.out)) rfl
      · exact Jr (HB3.out) (Qr HG.out) (HYN.out) rfl
    | true =>
      by_cases h4:A=[]
      · subst h4;have HYN:=Q1 (show Y=none by rw[← HY2.out,if_neg (by rintro⟨_,h,_⟩;exact h rfl)]);obtain⟨c0,fc0,c1,fc1,c2,fc2,c3,fc3,c4,fc4,c5,fc5,c6,fc6,c7,fc7,c8,fc8,c9,fc9,c10,fc10,c11,fc11,c12,fc12,c13,fc13,lc⟩:=Ql.z14 (H63.out);go_wp2_with fail;refine bodyPost_ret (v:=.tuple #[.agg #[.int .i64 0,.slice none 0 0,.int .i64 0,.int .i64 0,.string ⟨#[]⟩,.int .i64 0,.int .i64 0,.int .i64 0,.int .i64 0,.int .i64 0,.slice none 0 0,.string ⟨#[]⟩,.string ⟨#[]⟩,.bool false],.bool false]) ?_ rfl ?_
        · exact Zq Tryz.results27 rfl rfl (Ql.zput (H63.out)) rfl
        · exact Jr (HB3.out) (Qr HG.out) (HYN.out) rfl
      · have g2:(A==[])=false:=beq_eq_false_iff_ne.2 h4;have g3:(A != [])=true:=bne_iff_ne.2 h4;go_wp2_with fail
        ((with_reducible refine(Hr M _).mono ?_);rintro e w4 ⟨⟨v,rfl,hz,-,-⟩,hb4⟩)
        have HAM:=Q1 (Q4p (Jo M) A v w4 hz (Nf M));have H64:=Q1 (H63.out.below hb4 H63.out.lt);have HB4:=J8 HB3 hb4;clear hz hb4 H63 HB3;obtain⟨hh,hhe⟩:∃ c,decide (A∈Jo M)=c:=⟨_,rfl⟩;rw[hhe]at HAM
        cases hh with
        | false =>
          have HYN:=Q1 (show Y=none by rw[← HY2.out,if_neg (by rintro⟨_,_,h⟩;exact of_decide_eq_false hhe h)]);clear hhe;go_wp2_with fail
          ((with_reducible refine HAM.out.mono ?_);rintro e w10 ⟨rfl,rfl⟩)
          obtain⟨c0,fc0,c1,fc1,c2,fc2,c3,fc3,c4,fc4,c5,fc5,c6,fc6,c7,fc7,c8,fc8,c9,fc9,c10,fc10,c11,fc11,c12,fc12,c13,fc13,lc⟩:=Ql.z14 (H64.out);go_wp2_with fail;refine bodyPost_ret (v:=.tuple #[.agg #[.int .i64 0,.slice none 0 0,.int .i64 0,.int .i64 0,.string ⟨#[]⟩,.int .i64 0,.int .i64 0,.int .i64 0,.int .i64 0,.int .i64 0,.slice none 0 0,.string ⟨#[]⟩,.string ⟨#[]⟩,.bool false],.bool false]) ?_ rfl ?_
          · exact Zq Tryz.results27 rfl rfl (Ql.zput (H64.out)) rfl
          · exact Jr (HB4.out) (Qr HG.out) (HYN.out) rfl
        | true =>
          have HYN:=Q1 (show some (Y6 M A)=Y by rw[← HY2.out,if_pos (by exact⟨by trivial,h4,of_decide_eq_true hhe⟩)]);clear hhe;go_wp2_with fail
          ((with_reducible refine HAM.out.mono ?_);rintro e w10 ⟨rfl,rfl⟩)
          go_wp2_with fail
          ((with_reducible refine(Dz 5 0 0 0 0 0 0 _ _ _ none 0 0 false _).mono ?_);rintro e w8 ⟨rfl,hb8⟩)
          have H68:=Q1 (H64.out.below hb8 H64.out.lt);have HB8:=J8 HB4 hb8;clear hb8 H64 HB4;obtain⟨c0,fc0,c1,fc1,c2,fc2,c3,fc3,c4,fc4,c5,fc5,c6,fc6,c7,fc7,c8,fc8,c9,fc9,c10,fc10,c11,fc11,c12,fc12,c13,fc13,lc⟩:=Ql.z14 (H68.out);go_wp2_with fail;refine bodyPost_ret (v:=.tuple #[.agg #[.int .i64 4,.slice none 0 0,.int .i64 5,.int .i64 0,.string ⟨M.toArray⟩,.int .i64 0,.int .i64 0,.int .i64 0,.int .i64 0,.int .i64 0,.slice none 0 0,.string ⟨A.toArray⟩,.string ⟨#[]⟩,.bool false],.bool true]) ?_ rfl ?_
          · exact Zq Tryz.results27 rfl rfl (H68.out.put14 _ _ _ _ _ _ _ _ _ _ _ _ _ _) rfl
          · exact Uq HB8.out (Qr HG.out) (Nat.lt_succ_self g) (by rw[← HYN.out];rfl) ⟨_,_,_,_,_,_,_,_,_,_,_,_,_,_,_,_,_,_,rfl⟩ (fun C hC=>by rw[← HYN.out]at hC;obtain rfl:=Q8 hC;exact Bs _ _ 5 M A (by decide)) rfl
def Pm:Nat→List (Int×Nat×Nat)→Nat
 | a,[]=>a
 | _,x::r=>Pm x.2.2 r
def Rv:Nat→List (Int×Nat×Nat)→List (Nat×Nat)
 | _,[]=>[]
 | a,x::r=>(a,x.2.1)::Rv x.2.2 r
theorem Od:∀ (D:List (Int×Nat×Nat)) (a:Nat) (x:Int×Nat×Nat),Pm a (D++[x])=x.2.2
 | [],_,_=>rfl
 | y::D,_,x=>Od D y.2.2 x
theorem Nn:∀ (D:List (Int×Nat×Nat)) (a:Nat) (x:Int×Nat×Nat),Rv a (D++[x])=Rv a D++[(Pm a D,x.2.1)]
 | [],_,_=>rfl
 | y::D,a,x=>by rw[List.cons_append,Rv,Nn D y.2.2 x];rfl
def Cx (oa:Option Addr) (cap:Nat) (x:Nat×Nat):Value:=.slice (if cap=x.1 then oa else oa.map (·.add (x.1*7))) (x.2-x.1) (cap-x.1)
theorem Q5r {w:World} {h:Nat} {oa:Option Addr} {cap b o:Nat} {l:List Vl} (hs:Zw w h oa cap b o l) {N a c:Nat} (hN:l.length=N) (hac:a≤c) (hc:c≤N) (w:World) :
  (Instr.slice 26 (.slice oa N cap) (some (.int .i64 a)) (some (.int .i64 c)) none).run Tryz.prog w=.ok (Cx oa cap (a,c)) w:=by
 subst hN;have hle:=hs.sl.le;rw[run_slice_lh w 26 oa l.length cap (by rw[Xd];exact Tryz.underlying26) .i64 .i64 a c (by omega) (by omega) (by omega),Xd,Tryz.sizeOf28];simp[Result.andThen,sliced,Cx]
theorem Q76 {w:World} {h:Nat} {oa:Option Addr} {cap b o:Nat} {l:List Vl} (hs:Zw w h oa cap b o l) {N a:Nat} (hN:l.length=N) (ha:a≤N) (w:World) :
  (Instr.slice 26 (.slice oa N cap) (some (.int .i64 a)) none none).run Tryz.prog w=.ok (Cx oa cap (a,N)) w:=by
 subst hN;have hle:=hs.sl.le;rw[run_slice_l w 26 oa l.length cap (by rw[Xd];exact Tryz.underlying26) .i64 a (by omega) (by omega),Xd,Tryz.sizeOf28];simp[Result.andThen,sliced,Cx]
theorem Q77 {w:World} {h:Nat} {oa:Option Addr} {cap b o:Nat} {l:List Vl} (hs:Zw w h oa cap b o l) {a c:Nat} (hac:a≤c) (hc:c≤l.length) :
  ∃ oa' cap' o',Cx oa cap (a,c)=.slice oa' ((l.take c).drop a).length cap'∧∀ w,Zw w h oa cap b o l→Zw w h oa' cap' b o' ((l.take c).drop a) :=
 ⟨_,_,_,by unfold Cx;simp[Nat.min_eq_left hc],fun _ hs=>hs.part hac hc⟩
theorem Q8h:El 95 3 (.int .i64 0) 1 8:=⟨Tryz.underlying95,by kernel_rfl,rfl,by decide⟩
def Q5i (h:Nat) (w:World) (v:Value) (X:List Vt):Prop:=∀ (n:List UInt8) (wx:World),Below w.heap.size w wx→Calls Tryz.prog 61 #[.string ⟨n.toArray⟩,v] wx fun e w'=>Ys (· < wx.heap.size) (Zm (Jx h) n X) e w'∧Below wx.heap.size wx w'
def Q5j (w:World) (v:Value) (X:List Vt):Prop:=∀ wx:World,Below w.heap.size w wx→Calls Tryz.prog 23 #[v] wx fun e w'=>e=.returned (.string ⟨(Qy X).toArray⟩)∧Below wx.heap.size wx w'
theorem Ld {w:World} {h:Nat} {oa:Option Addr} {cap b o:Nat} {l:List Vl} {L:List Vt} {N:Nat} (hs:Zw w h oa cap b o l) (hN:l.length=N∧l.map Vl.c=L) (hm:Jf 64 L=true) {a c:Nat} (hac:a≤c) (hc:c≤N) :
  ∃ sa n sc,Cx oa cap (a,c)=.slice sa n sc∧Q5i h w (.slice sa n sc) ((L.take c).drop a)∧Q5j w (.slice sa n sc) ((L.take c).drop a):=by
 obtain⟨rfl,rfl⟩:=hN;obtain⟨sa,sc,so,hv,hV⟩:=Q77 hs hac hc
 have e:((l.take c).drop a).map Vl.c=((l.map Vl.c).take c).drop a:=by rw[List.map_drop,List.map_take]
 have hm2:=(Uh ((Uh hm c).1) a).2;refine⟨sa,_,sc,hv,fun n wx hx=>?_,fun wx hx=>?_⟩
 · have:=Hd h _ sa sc b so wx (hV _ (hs.below hx)) (by rw[e];exact hm2) n;rwa [e]at this
 · have:=Bn h _ sa sc b so wx (hV _ (hs.below hx));rwa [e]at this
def Er (v u:Value):Prop:=∀ k,v.ownBlock=some k→u.ownBlock=some k→False
theorem Ba {w w3:World} {base size n:Nat} {e:TypeId} {v u:Value} {xs:List Value} (h:w.ownsRow base e size u n xs) (hg:w.grownBy w3 v.ownBlock) (hA:Er v u):w3.ownsRow base e size u n xs :=
 h.kept hg (by
  cases hu:u.ownBlock with
  | none=>exact Or.inl rfl
  | some k=>exact Or.inr fun e=>hA k e.symm hu)
theorem Ot {w:World} {base size n m cap gg:Nat} {e:TypeId} {v u:Value} {xs:List Value} (h:w.ownsRow base e size u n xs) (hA:Er v u) (hat:v.ownBlock=some gg∨gg=w.heap.size):Er (.slice (some ⟨gg,0,none⟩) m cap) u:=fun k h1 h2=>by
 obtain rfl:gg=k:=by simpa[Value.ownBlock] using h1
 rcases hat with hat|rfl
 · exact hA _ hat h2
 · exact Nat.lt_irrefl _ (h.lt _ h2).2
theorem Er.symm {v u:Value} (h:Er v u):Er u v:=fun k h1 h2=>h k h2 h1
def opV (x:Int×Nat×Nat):Value:=.int .i64 x.1
theorem Hg (h:Nat) (l:List Vl) (oa:Option Addr) (cap b o:Nat) (w:World) (hs:Zw w h oa cap b o l) (hm:Jf 64 (l.map Vl.c)=true) (box:Bool) :
  Calls Tryz.prog 29 #[.slice oa l.length cap,.bool box] w fun e w'=>Bw (· < w.heap.size) (Uk (Jx h) (l.map Vl.c) box) e w'∧Below w.heap.size w w':=by
 obtain⟨N,hN⟩:∃ N,l.length=N:=⟨_,rfl⟩;obtain⟨L,hL⟩:∃ L,l.map Vl.c=L:=⟨_,rfl⟩;obtain⟨Y,hY⟩:∃ Y,Uk (Jx h) L box=Y:=⟨_,rfl⟩;rw[hL,hN,hY];obtain⟨h4,hb4⟩:=Z2 w 36 Zl
 have hw1:(w.alloc (.cells Zl 36)).heap.size=w.heap.size+1:=by simp
 have hs1:=hs.below hb4;obtain⟨g,hg⟩:∃ g,w.heap.size=g:=⟨_,rfl⟩;have HG:=Q1 hg;rw[hg]at h4 hw1;have HN:=Q1 (Q3 hN hL);rw[hL]at hm;have HM:=Q1 hm;have H4:=Q1 h4;have HB4:=Q1 hb4;have HW1:=Q1 hw1;have HY:=Q1 hY;have hsm:=hs1.small;have hcl:=hs1.sl.le;have hcm:=hs1.sl.max;unfold maxLen at hcm;rw[hN]at hsm hcl;have HS:=Q1 hs1;clear hs hs1 h4 hb4 hw1 hY hm hN hL;simp only[Zl]at HB4 HW1 H4 HS
 go_enter Tryz.func29,Tryz.ntmps29
 go_upto_region 1 with fail
 try simp only[hg]
 clear hg;generalize w.alloc _=w1 at *
 go_upto_region 4 with fail
 go_cut [9] from 9 to 9 (fun s wx=>s=.int .i64 0∧w1=wx)
 case first =>
  go_wp2_with fail;go_meet;exact⟨rfl,rfl⟩
 obtain⟨rfl,rfl⟩:=hcut
 rename_i hK
 refine hK _ _ ?_;obtain⟨O,hO⟩:∃ O,Un 0 L=O:=⟨_,rfl⟩;have HO:=Q1 hO;clear hO
 go_cut [6,7,8,9] from 10 to 56 (fun s6 s7 s8 s9 wx=>s8=.int .i64 (Pm 0 O:Nat)∧Pm 0 O≤N∧Hid (Below w1.heap.size w1 wx)∧Hid (wx.ownsRow w1.heap.size 26 1 s6 O.length ((Rv 0 O).map (Cx oa cap)))∧Hid (wx.ownsRow w1.heap.size 3 1 s7 O.length (O.map opV))∧Hid (Er s6 s7)∧O.length≤N)
 case first =>
  go_wp2_with fail
  go_loopg [6,7,8,9] N (fun q s6 s7 s8 s9 wr=>∃ (i a:Nat) (D:List (Int×Nat×Nat)),s9=.int .i64 i∧s8=.int .i64 a∧Hid (a=Pm 0 D)∧a≤i∧Hid (Below w1.heap.size w1 wr)∧Hid (wr.ownsRow w1.heap.size 26 1 s6 D.length ((Rv 0 D).map (Cx oa cap)))∧Hid (wr.ownsRow w1.heap.size 3 1 s7 D.length (D.map opV))∧Hid (Er s6 s7)∧Hid (O=D++Un i (L.drop i))∧D.length≤i∧i≤N∧N-i≤q)
  case atStart=>exact⟨0,0,[],rfl,rfl,Q1 rfl,Q6 _,Q1 (Below.refl _ _),Q1 (World.ownsRow_nil _ _ _ _),Q1 (World.ownsRow_nil _ _ _ _),Q1 (fun k h _=>by cases h),Q1 HO.out.symm,Q6 _,Qs _,Q6 _⟩
  case round =>
   obtain⟨i,a,D,rfl,rfl,hae,hai,hB,hP,hQ,hA,hD,hDi,hiN,hq⟩:=hrel
   by_cases hi:i<N
   · have gi:decide ((i:Int)<(N:Int))=true:=by simpa using hi
     have gin:decide (i<N)=true:=by simpa using hi
     have ij0:(0:Int)≤(i:Int):=Int.natCast_nonneg _
     have ijN:(i:Int)<(N:Int):=by omega
     have hi63:(i:Int)+2≤9223372036854775807:=by omega
     have hil:i<l.length:=by rw[HN.out.1];exact hi
     have hLi:L[i]?=some (l[i]).c:=by rw[← HN.out.2,Z5,Q9 hil];rfl
     have hst:=Q46 hLi
     have hsg:Ew L i=(Yq (l[i]).c (Xj L (i+1))).getD (0,0):=by unfold Ew;rw[hLi];rfl
     have hle:∀ op n,Yq (l[i]).c (Xj L (i+1))=some (op,n)→1≤n∧n≤2∧1≤op∧op≤5∧(n=2→Xj L (i+1)=true):=fun op n e=>Hl e
     have hsr:=Q1d h l oa cap b o wr (HS.out.below hB.out) i (by omega);rw[HN.out.1,HN.out.2,hsg]at hsr;generalize Yq (l[i]).c (Xj L (i+1))=so at *;have HSR:=Q1 hsr;have HST:=Q1 (Q3 hst hle);clear hsr hst hle hsg hLi
     cases so with
     | none =>
       go_wp2_with fail
       ((with_reducible refine HSR.out.mono ?_);rintro e w2 ⟨rfl,rfl⟩)
       go_wp2_with fail
       go_roundg (N-(i+1))
       case measure=>omega
       case rel=>exact⟨i+1,a,D,by go_num,rfl,hae,by omega,hB,hP,hQ,hA,Q1 (by rw[hD.out,HST.out.1]),by omega,hi,Q6 _⟩
     | some x =>
       obtain⟨op,n⟩:=x;obtain⟨hn1,hn2,ho1,ho2,hwide⟩:=HST.out.2 op n rfl
       have hin:i+n≤N:=by
        by_cases h2:n=2
        · have hw:=hwide h2
          have hlt:i+1<N:=Classical.byContradiction fun hc=>by
           rw[Xj,Zf (by rw[← HN.out.2,Qj,HN.out.1];omega)]at hw
           cases hw
          omega
        · omega
       have hst:O=(D++[(op,i,i+n)])++Un (i+n) (L.drop (i+n)):=by
        rw[hD.out,HST.out.1,List.append_assoc];rfl
       have HSN:=Q1 hst;have hsl:=Q5r (HS.out) HN.out.1 hai hiN;have go0:(op != 0)=true:=bne_iff_ne.2 (by omega);clear hwide hst HST hD;have hbs:=hB.out.size;obtain⟨soa,sn,scap,hseg⟩:∃ x y z,Cx oa cap (a,i)=.slice x y z:=⟨_,_,_,rfl⟩;rw[hseg]at hsl;have HSG:=Q1 hseg;clear hseg;have HW:=Q1 (hQ.out.alloc (.cells #[.slice soa sn scap] 26));have HP:=Q1 (hP.out.alloc (.cells #[.slice soa sn scap] 26))
       have HEE:=Q1 (show (Rv 0 (D++[(op,i,i+n)])).map (Cx oa cap)=(Rv 0 D).map (Cx oa cap)++[.slice soa sn scap]∧(D++[(op,i,i+n)]).map opV=D.map opV++[.int .i64 op]∧(D++[(op,i,i+n)]).length=D.length+1∧i+n=Pm 0 (D++[(op,i,i+n)]) from
        ⟨by rw[Nn,Zp,← hae.out];simp only[List.map_cons,List.map_nil];rw[HSG.out],by simp[opV],by simp,(Od D 0 (op,i,i+n)).symm⟩)
       obtain rfl|rfl:n=1∨n=2:=by omega
       all_goals
        go_wp2_with fail
        ((with_reducible refine HSR.out.mono ?_);rintro e w2 ⟨rfl,rfl⟩)
        clear HSR;have HIN:=Q1 hin;clear hin hn1 hn2 hil ho1 ho2;have HI63:=Q1 (show IntKind.i64.wrap ((i:Int)+1)=(i:Int)+1∧IntKind.i64.wrap ((i:Int)+2)=(i:Int)+2 by simp only[IntKind.wrap,IntKind.bits,IntKind.signed];constructor<;>simp<;>omega);clear hi63
        go_wp2_with (at_builtin;first | (refine J4 Q2q rfl _ _ rfl rfl HP.out (by simp;omega) (Ql.new wr _ _) 1 rfl rfl (by simp[Value.oneCell']) (by omega) (by omega) ?_;intro gg cap3 w3 ho3 hg3 hat hvb;have H3:=Q1 (Q3 ho3 (Q3 (show Er (.slice (some ⟨gg,0,none⟩) (D.length+1) cap3) u7 from Ot HW.out hA.out (hat.imp id fun e=>e.trans (by simp))) (Qu (hB.out.alloc hbs _) hg3 fun k hk=>(hvb k hk).1)));have hq3:=Ba HW.out hg3 hA.out;have HW3:=Q1 (hq3.alloc (.cells #[.int .i64 op] 3));have hs3:=H3.out.2.2.size;have v1:=HI63.out.1;have v2:=HI63.out.2;clear ho3 hg3 hat hvb hq3) | (refine J4 Q8h rfl _ _ rfl rfl HW3.out (by simp;omega) (Ql.new w3 _ _) 1 rfl rfl (by simp[Value.oneCell']) (by omega) (by omega) ?_;intro gg4 cap4 w4 ho4 hg4 hat hvb;have H4x:=Q1 (Q3 ho4 (Q3 (show Er (.slice (some ⟨gg4,0,none⟩) (D.length+1) cap4) (.slice (some ⟨gg,0,none⟩) (D.length+1) cap3) from Ot (H3.out.1.alloc (.cells #[.int .i64 op] 3)) H3.out.2.1.symm (hat.imp id fun e=>e.trans (by simp))) (Q3 (Ba (H3.out.1.alloc (.cells #[.int .i64 op] 3)) hg4 H3.out.2.1.symm) (Qu (H3.out.2.2.alloc hs3 _) hg4 fun k hk=>(hvb k hk).1))));clear ho4 hg4 hat hvb))
        go_roundg (N-(i+1))
        case measure=>omega
        case rel=>first|exact⟨i+1,i+1,D++[(op,i,i+1)],by go_num,by go_num,Q1 HEE.out.2.2.2,Q6 _,Q1 H4x.out.2.2.2,Q1 (by rw[HEE.out.1,HEE.out.2.2.1];exact H4x.out.2.2.1),Q1 (by rw[HEE.out.2.1,HEE.out.2.2.1];exact H4x.out.1),Q1 H4x.out.2.1.symm,HSN,by rw[HEE.out.2.2.1];omega,HIN.out,by omega⟩ | exact⟨i+2,i+2,D++[(op,i,i+2)],by go_num,by go_num,Q1 HEE.out.2.2.2,Q6 _,Q1 H4x.out.2.2.2,Q1 (by rw[HEE.out.1,HEE.out.2.2.1];exact H4x.out.2.2.1),Q1 (by rw[HEE.out.2.1,HEE.out.2.2.1];exact H4x.out.1),Q1 H4x.out.2.1.symm,HSN,by rw[HEE.out.2.2.1];omega,HIN.out,by omega⟩
   · obtain rfl:i=N:=by omega
     have gi:decide ((i:Int)<(i:Int))=false:=by simp
     have gin:decide (i<i)=false:=by simp
     have hDe:O=D:=by
      rw[hD.out,List.drop_of_length_le (by rw[← HN.out.2,Qj,HN.out.1];exact Q6 _)];exact List.append_nil D
     have hae:=hae.out;subst hae;subst hDe;go_wp2_with fail;go_meet;exact⟨rfl,hai,hB,hP,hQ,hA,hDi⟩
 case rest =>
  obtain⟨rfl,hEN,hB,hP,hQ,hA,hON⟩:=hcut;have hsl:=Q76 HS.out HN.out.1 hEN;obtain⟨soa,sn,scap,hseg⟩:∃ x y z,Cx oa cap (Pm 0 O,N)=.slice x y z:=⟨_,_,_,rfl⟩;rw[hseg]at hsl;have HSG:=Q1 hseg;have hbs:=hB.out.size;have HW:=Q1 (hQ.out.alloc (.cells #[.slice soa sn scap] 26));have HP:=Q1 (hP.out.alloc (.cells #[.slice soa sn scap] 26));obtain⟨M,hM⟩:∃ M,O.length=M:=⟨_,rfl⟩;rw[hM]at HW HP hON;have HMM:=Q1 hM;clear hseg hM hP hK;obtain⟨e,he⟩:∃ e,Pm 0 O=e:=⟨_,rfl⟩;rw[he]at HSG hsl ⊢;have HEO:=Q1 he;clear he hEN
  go_upto_region 14 with (at_builtin;refine J4 Q2q rfl _ _ rfl rfl HP.out (by simp;omega) (Ql.new wc _ _) 1 rfl rfl (by simp[Value.oneCell']) (by omega) (by omega) ?_;intro gg cap3 w3 ho3 hg3 hat hvb;have H3:=Q1 (Q3 ho3 (Q3 (Ba HW.out hg3 hA.out) (Qu (hB.out.alloc hbs _) hg3 fun k hk=>(hvb k hk).1)));clear ho3 hg3 hat hvb)
  have H43:=Q1 (H4.out.below H3.out.2.2 H4.out.lt);have HB3:=J8 HB4 H3.out.2.2;have HS3:=Q1 (HS.out.below H3.out.2.2);obtain⟨qoa,qcap,g7,rfl,hq7,hpq⟩:=Zx H3.out.2.1;obtain⟨poa,pcap,pg,hpv,hp7,-⟩:=Zx H3.out.1
  injection hpv with hp1 _ hp2
  subst hp1 hp2;have hl:=(hp7.lies (Nat.succ_pos _)).1
  injection hl with hl
  injection hl with hl
  subst hl;have HQ7:=Q1 hq7;have HP7:=Q1 hp7;clear hq7 hp7 H3 HP HW hA hQ hB hbs hsl H4 HB4 HS;generalize w1.heap.size=n1 at *
  by_cases hM1:M=1
  · obtain⟨⟨op,f,t⟩,rfl⟩:∃ x,O=[x]:=Zo.1 (HMM.out.trans hM1);subst hM1
    have hgq:g≠g7:=by have:=hpq (by decide);have:=HW1.out;omega
    have hgq2:=hgq.symm;obtain⟨-,hft,htN,ho1,ho2,-⟩:=G7 L 0 _ _ HO.out
    have hLN:L.length=N:=by rw[← HN.out.2,Qj,HN.out.1]
    simp only[Nat.zero_add,hLN]at hft htN ho1 ho2;obtain rfl:t=e:=HEO.out;obtain⟨s0a,s0n,s0c,hv0,hA0,hL0⟩:=Ld HS3.out HN.out HM.out (Qs f) (by omega);obtain⟨s1a,s1n,s1c,hv1,hA1,hL1⟩:=Ld HS3.out HN.out HM.out htN (Q6 N);rw[List.drop_zero]at hA0 hL0;rw[Zc (by omega)]at hA1 hL1;rw[HSG.out]at hv1
    injection hv1 with hv1 hv2 hv3
    subst hv1 hv2 hv3;have hq0:w3.cell? ⟨g7,0,none⟩=some (.int .i64 op):=HQ7.out.cell 0 (.int .i64 op) rfl;have hp0:w3.cell? ⟨gg,0,none⟩=some (.slice s0a s0n s0c):=hv0 ▸ HP7.out.cell 0 _ rfl;have hp1:w3.cell? ⟨gg,1,none⟩=some (.slice soa sn scap):=HP7.out.cell 1 (.slice soa sn scap) rfl;obtain⟨rfl,hgg7⟩:=HQ7.out.lies (by decide);have hgg:=(HP7.out.lies (by decide)).2;have HK:=Q1 (fun wx (hx:Below w3.heap.size w3 wx)=>Q3 ((Below.cell hx (p:=⟨gg,0,none⟩) hgg).trans hp0) (Q3 ((Below.cell hx (p:=⟨gg,1,none⟩) hgg).trans hp1) ((Below.cell hx (p:=⟨g7,0,none⟩) hgg7).trans hq0)));have hY:=HY.out;unfold Uk at hY;rw[HO.out]at hY
    have hY2:(if (Z6 (Qy (L.take f)) box).2 then (Zm (Jx h) (Z6 (Qy (L.take f)) box).1 (L.drop t)).map (Vx (Z6 (Qy (L.take f)) box).1 op)
     else if (Z6 (Qy (L.drop t)) box).2 then (Zm (Jx h) (Z6 (Qy (L.drop t)) box).1 (L.take f)).map (Vx (Z6 (Qy (L.drop t)) box).1 (6-op)) else none)=Y:=hY
    have HOI:=Q1 (Q3 ho1 ho2);have HTN:=Q1 (fun w=>Nh op w (by omega));generalize L.take f=X0 at *;generalize L.drop t=X1 at *;have HR0:=Q1 (fun w=>Xk (Qy X0) box w);have HR1:=Q1 (fun w=>Xk (Qy X1) box w);unfold Q5j at hL0 hL1;unfold Q5i at hA0 hA1;have HL0:=Q1 hL0;have HL1:=Q1 hL1;have HA0:=Q1 hA0;have HA1:=Q1 hA1;have HN6:=Q1 (show g+1≤w3.heap.size from H43.out.lt);generalize Qy X0=A0 at *;generalize Qy X1=A1 at *;obtain⟨R0,hR0⟩:∃ R,Z6 A0 box=R:=⟨_,rfl⟩;obtain⟨R1,hR1⟩:∃ R,Z6 A1 box=R:=⟨_,rfl⟩;rw[hR0,hR1]at hY2;rw[hR0]at HR0;rw[hR1]at HR1;have HY2:=Q1 hY2;clear hY hY2 hv0 hL0 hL1 hA0 hA1 HQ7 HP7 HSG HEO HO HY hft htN ho1 ho2 hLN hR0 hR1 HS3 HMM HM;obtain⟨n0,is0⟩:=R0;go_wp2_with fail
    ((with_reducible refine(HL0.out _ (Below.refl _ _)).mono ?_);rintro e w4 ⟨rfl,hb4⟩)
    have HB34:=Q1 hb4;obtain⟨p0,p1,q0⟩:=HK.out w4 hb4;clear hp0 hp1 hq0 hb4;go_wp2_with fail
    ((with_reducible refine(HR0.out _).mono ?_);rintro e w5 ⟨rfl,rfl⟩)
    cases is0 with
    | true =>
      have HY4:=Q1 (show (Zm (Jx h) n0 X1).map (Vx n0 op)=Y from HY2.out);clear HY2 HR1 HL1 HA0;go_wp2_with fail
      ((with_reducible refine(HA1.out n0 _ HB34.out).mono ?_);rintro e w6 ⟨⟨v,ok,rfl,hok,⟨vk,vn,vd,vu,voa,vL,vc,rfl⟩,hE⟩,hb6⟩)
      have HE:=Q1 (Q3 hok hE);have hb36:=HB34.out.trans (hb6.mono HB34.out.size);clear hok hE hb6
      go_upto_region 19 with fail
      obtain⟨h8,hb7⟩:=Z2 w6 32 #[.int .i64 vk,.int .i64 vn,.int .i64 vd,.int .i64 vu,.slice voa vL vc];have HE2:=Q1 (show ok=(Zm (Jx h) n0 X1).isSome∧∀ E,Zm (Jx h) n0 X1=some E→Jk (· < g+1) E (.agg #[.int .i64 vk,.int .i64 vn,.int .i64 vd,.int .i64 vu,.slice voa vL vc]) _ from ⟨HE.out.1,fun E hE=>((HE.out.2 E hE).below hb7).anti fun b hx=>Or.inl (Qg hx (Qz HN6.out HB34.out.size))⟩);have hb37:=hb36.trans (hb7.mono hb36.size)
      have hg8:g≠w6.heap.size:=by have:=hb36.size;have:=H43.out.lt;omega
      have hg9:g7≠w6.heap.size:=by have:=hb36.size;omega
      have hs67:=hb36.size;clear hb36 hb7 HE;generalize w6.heap.size=g8 at *;generalize w6.alloc _=w7 at *;have HB37:=Q1 hb37;have H47:=Q1 (H43.out.below hb37 H43.out.lt);obtain⟨p0,p1,q0⟩:=HK.out w7 hb37;clear hb37;obtain⟨d0,e0,d1,e1,d2,e2,d3,e3,d4,e4,l8⟩:=Ql.five h8;have H8:=Q1 h8;clear h8
      cases ok with
      | false =>
        have HYN:=Q1 (show Y=none by rw[← HY4.out];have:=HE2.out.1;revert this;cases Zm (Jx h) n0 X1<;>simp);obtain⟨c0,fc0,c1,fc1,c2,fc2,c3,fc3,c4,fc4,c5,fc5,c6,fc6,c7,fc7,c8,fc8,c9,fc9,c10,fc10,c11,fc11,c12,fc12,c13,fc13,lc⟩:=Ql.z14 (H47.out);go_wp2_with fail;refine bodyPost_ret (v:=.tuple #[.agg #[.int .i64 0,.slice none 0 0,.int .i64 0,.int .i64 0,.string ⟨#[]⟩,.int .i64 0,.int .i64 0,.int .i64 0,.int .i64 0,.int .i64 0,.slice none 0 0,.string ⟨#[]⟩,.string ⟨#[]⟩,.bool false],.bool false]) ?_ rfl ?_
        · exact Zq Tryz.results29 rfl rfl (Ql.zput (H47.out)) rfl
        · exact Jr ((J8 HB3 HB37.out).out) (Qr HG.out) (HYN.out) rfl
      | true =>
        clear p0 p1
        go_upto_region 21 with fail
        have hz:=fun m:Kc w7.drew=>Ql.z14 ((Jy H47.out).grow m)
        have KEEP:=Q1 (show ∀ wx,Bel w7 wx→wx.cell? ⟨g7,0,none⟩=some (.int .i64 op)∧wx.cell? ⟨g8,0,none⟩=some (.int .i64 vk)∧wx.cell? ⟨g8,1,none⟩=some (.int .i64 vn)∧wx.cell? ⟨g8,2,none⟩=some (.int .i64 vd)∧wx.cell? ⟨g8,3,none⟩=some (.int .i64 vu)∧wx.cell? ⟨g8,4,none⟩=some (.slice voa vL vc) from fun wx hx=>⟨(Below.cell hx.out (p:=⟨g7,0,none⟩) (Qg hgg7 (Qz hs67 (Zg l8)))).trans q0,(Below.cell hx.out (p:=⟨g8,0,none⟩) l8).trans d0,(Below.cell hx.out (p:=⟨g8,1,none⟩) l8).trans d1,(Below.cell hx.out (p:=⟨g8,2,none⟩) l8).trans d2,(Below.cell hx.out (p:=⟨g8,3,none⟩) l8).trans d3,(Below.cell hx.out (p:=⟨g8,4,none⟩) l8).trans d4⟩)
        go_region_held3 (fun wx=>wx.cell? ⟨g7,0,none⟩=some (.int .i64 op)∧wx.cell? ⟨g8,0,none⟩=some (.int .i64 vk)∧wx.cell? ⟨g8,1,none⟩=some (.int .i64 vn)∧wx.cell? ⟨g8,2,none⟩=some (.int .i64 vd)∧wx.cell? ⟨g8,3,none⟩=some (.int .i64 vu)∧wx.cell? ⟨g8,4,none⟩=some (.slice voa vL vc)) (first|exact KEEP.out _ inferInstance|go_keep) (first | (go_at_call 62;(with_reducible refine(Wf _ _ _ _ _ _ _ _ _ _).mono ?_);rintro e w9 ⟨rfl,hb9⟩;(first|obtain⟨m9,rfl⟩:=Qf ((Qk _).trans (hb9.mono (Zn _))) | obtain⟨m9,rfl⟩:=Qf hb9);clear hb9) | (go_at_call 65;(with_reducible refine(HTN.out _).mono ?_);rintro e w10 ⟨rfl,rfl⟩))
        go_wp2_with fail;refine bodyPost_ret (v:=.tuple #[.agg #[.int .i64 4,.slice none 0 0,.int .i64 4,.int .i64 0,.string ⟨n0.toArray⟩,.int .i64 op,.int .i64 vk,.int .i64 vn,.int .i64 vd,.int .i64 vu,.slice voa vL vc,.string ⟨#[]⟩,.string ⟨#[]⟩,.bool false],.bool true]) ?_ rfl ?_
        · exact Zq Tryz.results29 rfl rfl (((Jy H47.out).grow m9).put14 _ _ _ _ _ _ _ _ _ _ _ _ _ _) rfl
        · exact Uq (Qa (J8 HB3 HB37.out).out.drew m9) (Qr HG.out) (Nat.lt_succ_self g) (by rw[← HY4.out];exact(by have:=HE2.out.1;revert this;cases Zm (Jx h) n0 X1<;>simp)) ⟨_,_,_,_,_,_,_,_,_,_,_,_,_,_,_,_,_,_,rfl⟩ (fun C hC=>by rw[← HY4.out]at hC;obtain⟨E,hE,rfl⟩:=Option.map_eq_some_iff.1 hC;exact Bh n0 (op) (((HE2.out.2 E hE).below (Below.refl _ _).drew).below (Qk m9)) (Z1 _ (by have:=HOI.out;omega))) rfl
    | false =>
      obtain⟨n1,is1⟩:=R1;go_wp2_with fail
      ((with_reducible refine(HL1.out _ HB34.out).mono ?_);rintro e w5 ⟨rfl,hb5⟩)
      have hb35:=HB34.out.trans (hb5.mono HB34.out.size);have HB35:=Q1 hb35;clear p0 p1 q0;obtain⟨p0,p1,q0⟩:=HK.out w5 hb35;clear hb5 hb35;go_wp2_with fail
      ((with_reducible refine(HR1.out _).mono ?_);rintro e w5' ⟨rfl,rfl⟩)
      clear HL0 HL1 HR0 HR1 HA1;go_wp2_with fail
      ((with_reducible refine(HA0.out n1 _ HB35.out).mono ?_);rintro e w6 ⟨⟨v,ok,rfl,hok,⟨vk,vn,vd,vu,voa,vL,vc,rfl⟩,hE⟩,hb6⟩)
      have HE:=Q1 (Q3 hok hE);have hb36:=HB35.out.trans (hb6.mono HB35.out.size);clear hok hE hb6
      go_upto_region 26 with fail
      obtain⟨h8,hb7⟩:=Z2 w6 32 #[.int .i64 vk,.int .i64 vn,.int .i64 vd,.int .i64 vu,.slice voa vL vc];have HE2:=Q1 (show ok=(Zm (Jx h) n1 X0).isSome∧∀ E,Zm (Jx h) n1 X0=some E→Jk (· < g+1) E (.agg #[.int .i64 vk,.int .i64 vn,.int .i64 vd,.int .i64 vu,.slice voa vL vc]) _ from ⟨HE.out.1,fun E hE=>((HE.out.2 E hE).below hb7).anti fun b hx=>Or.inl (Qg hx (Qz HN6.out HB35.out.size))⟩);have hb37:=hb36.trans (hb7.mono hb36.size)
      have hg8:g≠w6.heap.size:=by have:=hb36.size;have:=H43.out.lt;omega
      have hg9:g7≠w6.heap.size:=by have:=hb36.size;omega
      have hs67:=hb36.size;clear hb36 hb7 HE;generalize w6.heap.size=g8 at *;generalize w6.alloc _=w7 at *;have HB37:=Q1 hb37;have H47:=Q1 (H43.out.below hb37 H43.out.lt);obtain⟨p0,p1,q0⟩:=HK.out w7 hb37;clear hb37;obtain⟨d0,e0,d1,e1,d2,e2,d3,e3,d4,e4,l8⟩:=Ql.five h8;have H8:=Q1 h8;clear h8
      cases is1 with
      | false =>
        have HYN:=Q1 (show none=Y from HY2.out).symm;obtain⟨c0,fc0,c1,fc1,c2,fc2,c3,fc3,c4,fc4,c5,fc5,c6,fc6,c7,fc7,c8,fc8,c9,fc9,c10,fc10,c11,fc11,c12,fc12,c13,fc13,lc⟩:=Ql.z14 (H47.out);go_wp2_with fail;refine bodyPost_ret (v:=.tuple #[.agg #[.int .i64 0,.slice none 0 0,.int .i64 0,.int .i64 0,.string ⟨#[]⟩,.int .i64 0,.int .i64 0,.int .i64 0,.int .i64 0,.int .i64 0,.slice none 0 0,.string ⟨#[]⟩,.string ⟨#[]⟩,.bool false],.bool false]) ?_ rfl ?_
        · exact Zq Tryz.results29 rfl rfl (Ql.zput (H47.out)) rfl
        · exact Jr ((J8 HB3 HB37.out).out) (Qr HG.out) (HYN.out) rfl
      | true =>
        have HY4:=Q1 (show (Zm (Jx h) n1 X0).map (Vx n1 (6-op))=Y from HY2.out);clear HY2
        cases ok with
        | false =>
          have HYN:=Q1 (show Y=none by rw[← HY4.out];have:=HE2.out.1;revert this;cases Zm (Jx h) n1 X0<;>simp);obtain⟨c0,fc0,c1,fc1,c2,fc2,c3,fc3,c4,fc4,c5,fc5,c6,fc6,c7,fc7,c8,fc8,c9,fc9,c10,fc10,c11,fc11,c12,fc12,c13,fc13,lc⟩:=Ql.z14 (H47.out);go_wp2_with fail;refine bodyPost_ret (v:=.tuple #[.agg #[.int .i64 0,.slice none 0 0,.int .i64 0,.int .i64 0,.string ⟨#[]⟩,.int .i64 0,.int .i64 0,.int .i64 0,.int .i64 0,.int .i64 0,.slice none 0 0,.string ⟨#[]⟩,.string ⟨#[]⟩,.bool false],.bool false]) ?_ rfl ?_
          · exact Zq Tryz.results29 rfl rfl (Ql.zput (H47.out)) rfl
          · exact Jr ((J8 HB3 HB37.out).out) (Qr HG.out) (HYN.out) rfl
        | true =>
          clear p0 p1
          go_upto_region 29 with fail
          have hz:=fun m:Kc w7.drew=>Ql.z14 ((Jy H47.out).grow m)
          have KEEP:=Q1 (show ∀ wx,Bel w7 wx→wx.cell? ⟨g7,0,none⟩=some (.int .i64 op)∧wx.cell? ⟨g8,0,none⟩=some (.int .i64 vk)∧wx.cell? ⟨g8,1,none⟩=some (.int .i64 vn)∧wx.cell? ⟨g8,2,none⟩=some (.int .i64 vd)∧wx.cell? ⟨g8,3,none⟩=some (.int .i64 vu)∧wx.cell? ⟨g8,4,none⟩=some (.slice voa vL vc) from fun wx hx=>⟨(Below.cell hx.out (p:=⟨g7,0,none⟩) (Qg hgg7 (Qz hs67 (Zg l8)))).trans q0,(Below.cell hx.out (p:=⟨g8,0,none⟩) l8).trans d0,(Below.cell hx.out (p:=⟨g8,1,none⟩) l8).trans d1,(Below.cell hx.out (p:=⟨g8,2,none⟩) l8).trans d2,(Below.cell hx.out (p:=⟨g8,3,none⟩) l8).trans d3,(Below.cell hx.out (p:=⟨g8,4,none⟩) l8).trans d4⟩)
          go_region_held3 (fun wx=>wx.cell? ⟨g7,0,none⟩=some (.int .i64 op)∧wx.cell? ⟨g8,0,none⟩=some (.int .i64 vk)∧wx.cell? ⟨g8,1,none⟩=some (.int .i64 vn)∧wx.cell? ⟨g8,2,none⟩=some (.int .i64 vd)∧wx.cell? ⟨g8,3,none⟩=some (.int .i64 vu)∧wx.cell? ⟨g8,4,none⟩=some (.slice voa vL vc)) (first|exact KEEP.out _ inferInstance|go_keep) (first | (go_at_call 62;(with_reducible refine(Wf _ _ _ _ _ _ _ _ _ _).mono ?_);rintro e w9 ⟨rfl,hb9⟩;(first|obtain⟨m9,rfl⟩:=Qf ((Qk _).trans (hb9.mono (Zn _))) | obtain⟨m9,rfl⟩:=Qf hb9);clear hb9) | (go_at_call 65;(with_reducible refine(HTN.out _).mono ?_);rintro e w10 ⟨rfl,rfl⟩))
          go_wp2_with fail;refine bodyPost_ret (v:=.tuple #[.agg #[.int .i64 4,.slice none 0 0,.int .i64 4,.int .i64 0,.string ⟨n1.toArray⟩,.int .i64 (6-op),.int .i64 vk,.int .i64 vn,.int .i64 vd,.int .i64 vu,.slice voa vL vc,.string ⟨#[]⟩,.string ⟨#[]⟩,.bool false],.bool true]) ?_ rfl ?_
          · exact Zq Tryz.results29 rfl rfl (((Jy H47.out).grow m9).put14 _ _ _ _ _ _ _ _ _ _ _ _ _ _) rfl
          · exact Uq (Qa (J8 HB3 HB37.out).out.drew m9) (Qr HG.out) (Nat.lt_succ_self g) (by rw[← HY4.out];exact(by have:=HE2.out.1;revert this;cases Zm (Jx h) n1 X0<;>simp)) ⟨_,_,_,_,_,_,_,_,_,_,_,_,_,_,_,_,_,_,rfl⟩ (fun C hC=>by rw[← HY4.out]at hC;obtain⟨E,hE,rfl⟩:=Option.map_eq_some_iff.1 hC;exact Bh n1 (6-op) (((HE2.out.2 E hE).below (Below.refl _ _).drew).below (Qk m9)) (Z1 _ (by have:=HOI.out;omega))) rfl
  by_cases hM2:M=2
  · obtain⟨⟨op,f,t⟩,⟨Yi,f2,t2⟩,rfl⟩:∃ x y,O=[x,y]:=by have hm:=HMM.out.trans hM2;match O,hm with | [x,y],_=>exact⟨x,y,rfl⟩
    subst hM2
    have hgq:g≠g7:=by have:=hpq (by decide);have:=HW1.out;omega
    have hgq2:=hgq.symm;obtain⟨-,hft,htN,ho1,ho2,hD2⟩:=G7 L 0 _ _ HO.out;obtain⟨htf2,hft2,ht2N,ho3,ho4,-⟩:=G7 _ _ _ _ hD2.symm
    have hLN:L.length=N:=by rw[← HN.out.2,Qj,HN.out.1]
    simp only[Nat.zero_add,Nat.sub_zero,Zu,hLN]at hft htN ho1 ho2 htf2 hft2 ht2N ho3 ho4;obtain rfl:t2=e:=HEO.out;obtain⟨s0a,s0n,s0c,hv0,hA0,-⟩:=Ld HS3.out HN.out HM.out (Qs f) (by omega);obtain⟨s1a,s1n,s1c,hv1,-,hL1⟩:=Ld HS3.out HN.out HM.out htf2 (by omega);obtain⟨s2a,s2n,s2c,hv2,hA2,-⟩:=Ld HS3.out HN.out HM.out (show t2≤N by omega) (Q6 N);rw[List.drop_zero]at hA0;rw[Zc (by omega)]at hA2;rw[HSG.out]at hv2
    injection hv2 with hv2 hv3 hv4
    subst hv2 hv3 hv4;have hq0:w3.cell? ⟨g7,0,none⟩=some (.int .i64 op):=HQ7.out.cell 0 (.int .i64 op) rfl;have hq1:w3.cell? ⟨g7,1,none⟩=some (.int .i64 Yi):=HQ7.out.cell 1 (.int .i64 Yi) rfl;have hp0:w3.cell? ⟨gg,0,none⟩=some (.slice s0a s0n s0c):=hv0 ▸ HP7.out.cell 0 _ rfl;have hp1:w3.cell? ⟨gg,1,none⟩=some (.slice s1a s1n s1c):=hv1 ▸ HP7.out.cell 1 _ rfl;have hp2:w3.cell? ⟨gg,2,none⟩=some (.slice soa sn scap):=HP7.out.cell 2 (.slice soa sn scap) rfl;obtain⟨rfl,hgg7⟩:=HQ7.out.lies (by decide);have hgg:=(HP7.out.lies (by decide)).2;have HK:=Q1 (fun wx (hx:Below w3.heap.size w3 wx)=>Q3 ((Below.cell hx (p:=⟨gg,0,none⟩) hgg).trans hp0) (Q3 (Q3 ((Below.cell hx (p:=⟨gg,1,none⟩) hgg).trans hp1) ((Below.cell hx (p:=⟨gg,2,none⟩) hgg).trans hp2)) (Q3 ((Below.cell hx (p:=⟨g7,0,none⟩) hgg7).trans hq0) ((Below.cell hx (p:=⟨g7,1,none⟩) hgg7).trans hq1))))
    have hY:=HY.out;unfold Uk at hY;rw[HO.out]at hY
    have hY2:(if (Z6 (Qy ((L.take f2).drop t)) box).2 then
     (match Zm (Jx h) (Z6 (Qy ((L.take f2).drop t)) box).1 (L.take f),Zm (Jx h) (Z6 (Qy ((L.take f2).drop t)) box).1 (L.drop t2) with
     | some a,some b=>if upN op Yi||De op Yi then some (.mk 1 [Vx (Z6 (Qy ((L.take f2).drop t)) box).1 (6-op) a,Vx (Z6 (Qy ((L.take f2).drop t)) box).1 Yi b] lt0) else none
     | _,_=>none) else none)=Y:=hY
    have HOI:=Q1 (Q3 (Q3 ho1 ho2) (Q3 ho3 ho4));have HTN:=Q1 (fun w=>Nh op w (by omega));generalize L.take f=X0 at *;generalize L.drop t2=X2 at *;generalize (L.take f2).drop t=X1 at *;unfold Q5j at hL1;unfold Q5i at hA0 hA2;have HR1:=Q1 (fun w=>Xk (Qy X1) box w);have HL1:=Q1 hL1;have HA0:=Q1 hA0;have HA2:=Q1 hA2;have HN6:=Q1 (show g+1≤w3.heap.size from H43.out.lt);generalize Qy X1=A1 at *;obtain⟨R1,hR1⟩:∃ R,Z6 A1 box=R:=⟨_,rfl⟩;rw[hR1]at hY2 HR1;have HY2:=Q1 hY2;clear hY hY2 hv0 hv1 hL1 hA0 hA2 HQ7 HP7 HSG HEO HO HY hft htN ho1 ho2 ho3 ho4 htf2 hft2 ht2N hD2 hLN hR1 HS3 HMM HM;obtain⟨n1,is1⟩:=R1;go_wp2_with fail
    ((with_reducible refine(HL1.out _ (Below.refl _ _)).mono ?_);rintro e w4 ⟨rfl,hb4⟩)
    have HB34:=Q1 hb4;obtain⟨p0,⟨p1,p2⟩,q0,q1⟩:=HK.out w4 hb4;clear hp0 hp1 hp2 hq0 hq1 hb4;go_wp2_with fail
    ((with_reducible refine(HR1.out _).mono ?_);rintro e w5 ⟨rfl,rfl⟩)
    clear HL1 HR1;go_wp2_with fail
    ((with_reducible refine(HA0.out n1 _ HB34.out).mono ?_);rintro e w6 ⟨⟨v,ok,rfl,hok,⟨vk,vn,vd,vu,voa,vL,vc,rfl⟩,hE⟩,hb6⟩)
    have HE:=Q1 (Q3 hok hE);have hb36:=HB34.out.trans (hb6.mono HB34.out.size);clear hok hE hb6
    go_upto_region 26 with fail
    obtain⟨h8,hb7⟩:=Z2 w6 32 #[.int .i64 vk,.int .i64 vn,.int .i64 vd,.int .i64 vu,.slice voa vL vc];have HE2:=Q1 (show ok=(Zm (Jx h) n1 X0).isSome∧∀ E,Zm (Jx h) n1 X0=some E→Jk (· < g+1) E (.agg #[.int .i64 vk,.int .i64 vn,.int .i64 vd,.int .i64 vu,.slice voa vL vc]) _ from ⟨HE.out.1,fun E hE=>((HE.out.2 E hE).below hb7).anti fun b hx=>Or.inl (Qg hx (Qz HN6.out HB34.out.size))⟩);have hb37:=hb36.trans (hb7.mono hb36.size)
    have hg8:g≠w6.heap.size:=by have:=hb36.size;have:=H43.out.lt;omega
    have hg9:g7≠w6.heap.size:=by have:=hb36.size;omega
    have hs67:=hb36.size;clear hb36 hb7 HE;generalize w6.heap.size=g8 at *;generalize w6.alloc _=w7 at *;have HB37:=Q1 hb37;have H47:=Q1 (H43.out.below hb37 H43.out.lt);clear p0 p1 p2 q0 q1;obtain⟨p0,⟨p1,p2⟩,q0,q1⟩:=HK.out w7 hb37;clear hb37;obtain⟨d0,e0,d1,e1,d2,e2,d3,e3,d4,e4,l8⟩:=Ql.five h8;have H8:=Q1 h8;clear h8
    cases is1 with
    | false =>
      have HYN:=Q1 (show none=Y from HY2.out).symm;obtain⟨c0,fc0,c1,fc1,c2,fc2,c3,fc3,c4,fc4,c5,fc5,c6,fc6,c7,fc7,c8,fc8,c9,fc9,c10,fc10,c11,fc11,c12,fc12,c13,fc13,lc⟩:=Ql.z14 (H47.out);go_wp2_with fail;refine bodyPost_ret (v:=.tuple #[.agg #[.int .i64 0,.slice none 0 0,.int .i64 0,.int .i64 0,.string ⟨#[]⟩,.int .i64 0,.int .i64 0,.int .i64 0,.int .i64 0,.int .i64 0,.slice none 0 0,.string ⟨#[]⟩,.string ⟨#[]⟩,.bool false],.bool false]) ?_ rfl ?_
      · exact Zq Tryz.results29 rfl rfl (Ql.zput (H47.out)) rfl
      · exact Jr ((J8 HB3 HB37.out).out) (Qr HG.out) (HYN.out) rfl
    | true =>
      have HY3:=Q1 (show (match Zm (Jx h) n1 X0,Zm (Jx h) n1 X2 with
       | some a,some b=>if upN op Yi||De op Yi then some (.mk 1 [Vx n1 (6-op) a,Vx n1 Yi b] lt0) else none
       | _,_=>none)=Y from HY2.out)
      clear HY2
      cases ok with
      | false =>
        have HYN:=Q1 (show Y=none by rw[← HY3.out];have:=HE2.out.1;revert this;cases Zm (Jx h) n1 X0<;>simp);obtain⟨c0,fc0,c1,fc1,c2,fc2,c3,fc3,c4,fc4,c5,fc5,c6,fc6,c7,fc7,c8,fc8,c9,fc9,c10,fc10,c11,fc11,c12,fc12,c13,fc13,lc⟩:=Ql.z14 (H47.out);go_wp2_with fail;refine bodyPost_ret (v:=.tuple #[.agg #[.int .i64 0,.slice none 0 0,.int .i64 0,.int .i64 0,.string ⟨#[]⟩,.int .i64 0,.int .i64 0,.int .i64 0,.int .i64 0,.int .i64 0,.slice none 0 0,.string ⟨#[]⟩,.string ⟨#[]⟩,.bool false],.bool false]) ?_ rfl ?_
        · exact Zq Tryz.results29 rfl rfl (Ql.zput (H47.out)) rfl
        · exact Jr ((J8 HB3 HB37.out).out) (Qr HG.out) (HYN.out) rfl
      | true =>
        clear d0 e0 d1 e1 d2 e2 d3 e3 d4 e4 p0 p1 p2 q0 q1;have HE2s:=Q1 HE2.out.1.symm;have hgin:=l8;have hp:=(HK.out w7 HB37.out).2.1.2;go_wp2_with fail
        ((with_reducible refine(HA2.out n1 _ HB37.out).mono ?_);rintro e w8 ⟨⟨v,ok2,rfl,hok2,⟨bk,bn,bd,bu,boa,bL,bc,rfl⟩,hE⟩,hb8⟩)
        have HE:=Q1 (Q3 hok2 hE);have hb38:=HB37.out.trans (hb8.mono HB37.out.size);have hb78:=hb8;clear hok2 hE hb8
        go_upto_region 31 with fail
        obtain⟨h12,hb9⟩:=Z2 w8 32 #[.int .i64 bk,.int .i64 bn,.int .i64 bd,.int .i64 bu,.slice boa bL bc];have HE4:=Q1 (show ok2=(Zm (Jx h) n1 X2).isSome∧∀ E,Zm (Jx h) n1 X2=some E→Jk (· < g+1) E (.agg #[.int .i64 bk,.int .i64 bn,.int .i64 bd,.int .i64 bu,.slice boa bL bc]) _ from ⟨HE.out.1,fun E hE=>((HE.out.2 E hE).below hb9).anti fun b hx=>Or.inl (Qg hx (Qz HN6.out HB37.out.size))⟩);have hb39:=hb38.trans (hb9.mono hb38.size);have hb79:=hb78.trans (hb9.mono hb78.size)
        have hg14:g8≠w8.heap.size:=by have:=hb78.size;omega
        have hg12:g≠w8.heap.size:=by have:=hb38.size;have:=H43.out.lt;omega
        have hg13:g7≠w8.heap.size:=by have:=hb38.size;omega
        have hs89:=hb38.size;clear hb38 hb9 HE hb78;generalize w8.heap.size=g12 at *;generalize w8.alloc _=w9 at *;have HB39:=Q1 hb39;have H49:=Q1 (H43.out.below hb39 H43.out.lt);have HE5:=Q1 (show ∀ E,Zm (Jx h) n1 X0=some E→Jk (· < g+1) E (.agg #[.int .i64 vk,.int .i64 vn,.int .i64 vd,.int .i64 vu,.slice voa vL vc]) w9 from fun E hE=>(HE2.out.2 E hE).below hb79);have h89:=H8.out.below hb79 H8.out.lt;obtain⟨p0,⟨p1,p2⟩,q0,q1⟩:=HK.out w9 hb39;clear hb39 hb79 HE2 H8;obtain⟨x0,y0,x1,y1,x2,y2,x3,y3,x4,y4,l12⟩:=Ql.five h12;have H12:=Q1 h12;clear h12;obtain⟨up,hup⟩:∃ u,upN op Yi=u:=⟨_,rfl⟩;obtain⟨dn,hdn⟩:∃ u,De op Yi=u:=⟨_,rfl⟩;rw[hup,hdn]at HY3
        have hup:(decide (op≤2)&&decide (Yi≤2))=up:=by rw[← hup];unfold upN;have:=HOI.out;rw[Qt];simp;omega
        have hdn:(decide (4≤op)&&decide (4≤Yi))=dn:=by rw[← hdn];unfold De;have:=HOI.out;rw[Qt];simp;omega
        have H89:=Q1 h89;clear x0 y0 x1 y1 x2 y2 x3 y3 x4 y4 h89
        go_cut [23] from 145 to 154 (fun s wx=>s=.bool up∧w9=wx)
        case first =>
         obtain⟨a1,ha1⟩:∃ a,decide (op≤2)=a:=⟨_,rfl⟩;obtain⟨a2,ha2⟩:∃ a,decide (Yi≤2)=a:=⟨_,rfl⟩;have hab:=hup;rw[ha1,ha2]at hab;have HAB:=Q1 hab;clear hab hup hdn
         cases a1
         all_goals
          go_wp2_with fail;go_meet;exact⟨by rw[← HAB.out];rfl,rfl⟩
        obtain⟨rfl,rfl⟩:=hcut
        go_upto_region 32 with fail
        go_cut [24] from 155 to 164 (fun s wx=>s=.bool dn∧w9=wx)
        case first =>
         obtain⟨a1,ha1⟩:∃ a,decide (4≤op)=a:=⟨_,rfl⟩;obtain⟨a2,ha2⟩:∃ a,decide (4≤Yi)=a:=⟨_,rfl⟩;have hab:=hdn;rw[ha1,ha2]at hab;have HAB:=Q1 hab;clear hab hup hdn
         cases a1
         all_goals
          go_wp2_with fail;go_meet;exact⟨by rw[← HAB.out];rfl,rfl⟩
        obtain⟨rfl,rfl⟩:=hcut;clear hup hdn
        go_upto_region 33 with fail
        go_cut [174] from 165 to 174 (fun s wx=>s=.bool (!(ok2&&(up||dn)))∧w9=wx)
        case first =>
         rcases(show ok2=false∨(ok2=true∧up=true)∨(ok2=true∧up=false∧dn=true)∨(ok2=true∧up=false∧dn=false) by cases ok2<;>cases up<;>cases dn<;>simp) with rfl|⟨rfl,rfl⟩ | ⟨rfl,rfl,rfl⟩ | ⟨rfl,rfl,rfl⟩
         all_goals
          go_wp2_with fail;go_meet;exact⟨rfl,rfl⟩
        obtain⟨rfl,rfl⟩:=hcut;obtain⟨fin,hfin⟩:∃ x,(ok2&&(up||dn))=x:=⟨_,rfl⟩;rw[hfin]
        have hF1:fin=true→ok2=true∧(up||dn)=true:=fun h=>by rw[h]at hfin;simpa using hfin
        cases fin with
        | false =>
          have HYN:=Q1 (show Y=none by
           rw[← HY3.out];have h1:=HE4.out.1
           revert h1
           cases Zm (Jx h) n1 X0 with
           | none=>intro;rfl
           | some a =>
             cases Zm (Jx h) n1 X2 with
             | none=>intro;rfl
             | some b =>
               intro h1;obtain rfl:ok2=true:=h1;rw[Bool.true_and]at hfin;simp only[hfin]
               rfl)
          clear hfin hF1;obtain⟨c0,fc0,c1,fc1,c2,fc2,c3,fc3,c4,fc4,c5,fc5,c6,fc6,c7,fc7,c8,fc8,c9,fc9,c10,fc10,c11,fc11,c12,fc12,c13,fc13,lc⟩:=Ql.z14 (H49.out);go_wp2_with fail;refine bodyPost_ret (v:=.tuple #[.agg #[.int .i64 0,.slice none 0 0,.int .i64 0,.int .i64 0,.string ⟨#[]⟩,.int .i64 0,.int .i64 0,.int .i64 0,.int .i64 0,.int .i64 0,.slice none 0 0,.string ⟨#[]⟩,.string ⟨#[]⟩,.bool false],.bool false]) ?_ rfl ?_
          · exact Zq Tryz.results29 rfl rfl (Ql.zput (H49.out)) rfl
          · exact Jr ((J8 HB3 HB39.out).out) (Qr HG.out) (HYN.out) rfl
        | true =>
          have HF2:=Q1 (hF1 rfl);clear hfin hF1 p0 p1 p2 hgin hp l8;have hg79:g7<w9.heap.size:=Qg hgg7 HB39.out.size;obtain⟨x0,y0,x1,y1,x2,y2,x3,y3,x4,y4,-⟩:=Ql.five H12.out;obtain⟨z0,y5,z1,y6,z2,y7,z3,y8,z4,y9,lz⟩:=Ql.five H89.out
          have hz:=fun m:Kc w9.drew=>Ql.z14 ((Jy H49.out).grow m)
          have KEEP:=Q1 (show ∀ wx,Bel w9 wx→wx.cell? ⟨g7,0,none⟩=some (.int .i64 op)∧wx.cell? ⟨g7,1,none⟩=some (.int .i64 Yi)∧wx.cell? ⟨g8,0,none⟩=some (.int .i64 vk)∧wx.cell? ⟨g8,1,none⟩=some (.int .i64 vn)∧wx.cell? ⟨g8,2,none⟩=some (.int .i64 vd)∧wx.cell? ⟨g8,3,none⟩=some (.int .i64 vu)∧wx.cell? ⟨g8,4,none⟩=some (.slice voa vL vc)∧wx.cell? ⟨g12,0,none⟩=some (.int .i64 bk)∧wx.cell? ⟨g12,1,none⟩=some (.int .i64 bn)∧wx.cell? ⟨g12,2,none⟩=some (.int .i64 bd)∧wx.cell? ⟨g12,3,none⟩=some (.int .i64 bu)∧wx.cell? ⟨g12,4,none⟩=some (.slice boa bL bc) from fun wx hx=>⟨(Below.cell hx.out (p:=⟨g7,0,none⟩) hg79).trans q0,(Below.cell hx.out (p:=⟨g7,1,none⟩) hg79).trans q1,(Below.cell hx.out (p:=⟨g8,0,none⟩) lz).trans z0,(Below.cell hx.out (p:=⟨g8,1,none⟩) lz).trans z1,(Below.cell hx.out (p:=⟨g8,2,none⟩) lz).trans z2,(Below.cell hx.out (p:=⟨g8,3,none⟩) lz).trans z3,(Below.cell hx.out (p:=⟨g8,4,none⟩) lz).trans z4,(Below.cell hx.out (p:=⟨g12,0,none⟩) l12).trans x0,(Below.cell hx.out (p:=⟨g12,1,none⟩) l12).trans x1,(Below.cell hx.out (p:=⟨g12,2,none⟩) l12).trans x2,(Below.cell hx.out (p:=⟨g12,3,none⟩) l12).trans x3,(Below.cell hx.out (p:=⟨g12,4,none⟩) l12).trans x4⟩)
          have HA:=Q1 (show ∀ (m:Kc w9.drew) C,(Zm (Jx h) n1 X0).map (Vx n1 (6-op))=some C→Vj (· < g+1) C (.agg #[.int .i64 4,.slice none 0 0,.int .i64 4,.int .i64 0,.string ⟨n1.toArray⟩,.int .i64 (6-op),.int .i64 vk,.int .i64 vn,.int .i64 vd,.int .i64 vu,.slice voa vL vc,.string ⟨#[]⟩,.string ⟨#[]⟩,.bool false]) (grow w9.drew m) from fun m C hC=>by
           obtain⟨E,hE,rfl⟩:=Option.map_eq_some_iff.1 hC
           exact Bh n1 (6-op) (((HE5.out E hE).below (Below.refl _ _).drew).below (Qk m)) (Z1 _ (by have:=HOI.out;omega)))
          have HB:=Q1 (show ∀ (m:Kc w9.drew) C,(Zm (Jx h) n1 X2).map (Vx n1 Yi)=some C→Vj (· < g+1) C (.agg #[.int .i64 4,.slice none 0 0,.int .i64 4,.int .i64 0,.string ⟨n1.toArray⟩,.int .i64 Yi,.int .i64 bk,.int .i64 bn,.int .i64 bd,.int .i64 bu,.slice boa bL bc,.string ⟨#[]⟩,.string ⟨#[]⟩,.bool false]) (grow w9.drew m) from fun m C hC=>by
           obtain⟨E,hE,rfl⟩:=Option.map_eq_some_iff.1 hC
           exact Bh n1 Yi (((HE4.out.2 E hE).below (Below.refl _ _).drew).below (Qk m)) (Z1 _ (by have:=HOI.out;omega)))
          have HS12:=Q1 (show ((Zm (Jx h) n1 X0).map (Vx n1 (6-op))).isSome=true∧((Zm (Jx h) n1 X2).map (Vx n1 Yi)).isSome=true from ⟨by rw[Option.isSome_map];exact HE2s.out,by rw[Option.isSome_map,← HE4.out.1];exact HF2.out.1⟩)
          have HYP:=Q1 (show (match (Zm (Jx h) n1 X0).map (Vx n1 (6-op)),(Zm (Jx h) n1 X2).map (Vx n1 Yi) with
           | some a,some b=>if up||dn then some (.mk 1 [a,b] lt0) else none
           | _,_=>none)=Y by rw[← HY3.out];cases Zm (Jx h) n1 X0<;>cases Zm (Jx h) n1 X2<;>rfl)
          clear HY3 HE4 HE5
          have hkg:=fun m:Kc w9.drew=>KEEP.out (grow w9.drew m) inferInstance
          go_upto_region 35 with fail
          go_region_held3 (fun wx=>wx.cell? ⟨g7,0,none⟩=some (.int .i64 op)∧wx.cell? ⟨g7,1,none⟩=some (.int .i64 Yi)∧wx.cell? ⟨g8,0,none⟩=some (.int .i64 vk)∧wx.cell? ⟨g8,1,none⟩=some (.int .i64 vn)∧wx.cell? ⟨g8,2,none⟩=some (.int .i64 vd)∧wx.cell? ⟨g8,3,none⟩=some (.int .i64 vu)∧wx.cell? ⟨g8,4,none⟩=some (.slice voa vL vc)∧wx.cell? ⟨g12,0,none⟩=some (.int .i64 bk)∧wx.cell? ⟨g12,1,none⟩=some (.int .i64 bn)∧wx.cell? ⟨g12,2,none⟩=some (.int .i64 bd)∧wx.cell? ⟨g12,3,none⟩=some (.int .i64 bu)∧wx.cell? ⟨g12,4,none⟩=some (.slice boa bL bc)) (first|exact KEEP.out _ inferInstance|go_keep) (first | (go_at_call 65;(with_reducible refine(HTN.out _).mono ?_);rintro e w10 ⟨rfl,rfl⟩) | (go_at_call 62;(with_reducible refine(Wf _ _ _ _ _ _ _ _ _ _).mono ?_);rintro e w9 ⟨rfl,hb9⟩;(first|obtain⟨m9,rfl⟩:=Qf ((Qk _).trans (hb9.mono (Zn _))) | obtain⟨m9,rfl⟩:=Qf hb9);clear hb9))
          go_wp2_with fail;refine bodyPost_ret (v:=.tuple #[.agg #[.int .i64 1,.slice (some ⟨(grow w9.drew m9).heap.size,0,none⟩) 2 2,.int .i64 0,.int .i64 0,.string ⟨#[]⟩,.int .i64 0,.int .i64 0,.int .i64 0,.int .i64 0,.int .i64 0,.slice none 0 0,.string ⟨#[]⟩,.string ⟨#[]⟩,.bool false],.bool true]) ?_ rfl ?_
          · exact Zq Tryz.results29 rfl rfl ((((Jy H49.out).grow m9).put14 _ _ _ _ _ _ _ _ _ _ _ _ _ _).old _) rfl
          · exact Nl (okk:=true) (V:=#[.int .i64 4,.slice none 0 0,.int .i64 4,.int .i64 0,.string ⟨n1.toArray⟩,.int .i64 (6-op),.int .i64 vk,.int .i64 vn,.int .i64 vd,.int .i64 vu,.slice voa vL vc,.string ⟨#[]⟩,.string ⟨#[]⟩,.bool false,.int .i64 4,.slice none 0 0,.int .i64 4,.int .i64 0,.string ⟨n1.toArray⟩,.int .i64 Yi,.int .i64 bk,.int .i64 bn,.int .i64 bd,.int .i64 bu,.slice boa bL bc,.string ⟨#[]⟩,.string ⟨#[]⟩,.bool false]) (Qa (J8 HB3 HB39.out).out.drew m9) (Qr HG.out) (Nat.lt_succ_self g) (Qz (Qz HN6.out HB39.out.size) (Zn m9)) HYP.out HS12.out (HA.out m9) (HB.out m9) rfl (by rw[HF2.out.2];rfl) rfl
  have HYN:=Q1 (show Y=none by
   rw[← HY.out];unfold Uk;rw[HO.out];have hm:=HMM.out
   match O,hm with
   | [],_=>rfl
   | [_],h=>exact absurd h.symm hM1
   | [_,_],h=>exact absurd h.symm hM2
   | _::_::_::_,_=>rfl)
  have g1:((M:Int)==1)=false:=beq_eq_false_iff_ne.2 (by omega)
  by_cases hM0:M=0
  · subst hM0;obtain⟨c0,fc0,c1,fc1,c2,fc2,c3,fc3,c4,fc4,c5,fc5,c6,fc6,c7,fc7,c8,fc8,c9,fc9,c10,fc10,c11,fc11,c12,fc12,c13,fc13,lc⟩:=Ql.z14 (H43.out);go_wp2_with fail;refine bodyPost_ret (v:=.tuple #[.agg #[.int .i64 0,.slice none 0 0,.int .i64 0,.int .i64 0,.string ⟨#[]⟩,.int .i64 0,.int .i64 0,.int .i64 0,.int .i64 0,.int .i64 0,.slice none 0 0,.string ⟨#[]⟩,.string ⟨#[]⟩,.bool false],.bool false]) ?_ rfl ?_
    · exact Zq Tryz.results29 rfl rfl (Ql.zput (H43.out)) rfl
    · exact Jr (HB3.out) (Qr HG.out) (HYN.out) rfl
  · have g2:decide ((M:Int)<1)=false:=decide_eq_false (by omega);have g3:decide ((2:Int)<(M:Int))=true:=decide_eq_true (by omega);obtain⟨c0,fc0,c1,fc1,c2,fc2,c3,fc3,c4,fc4,c5,fc5,c6,fc6,c7,fc7,c8,fc8,c9,fc9,c10,fc10,c11,fc11,c12,fc12,c13,fc13,lc⟩:=Ql.z14 (H43.out);go_wp2_with fail;refine bodyPost_ret (v:=.tuple #[.agg #[.int .i64 0,.slice none 0 0,.int .i64 0,.int .i64 0,.string ⟨#[]⟩,.int .i64 0,.int .i64 0,.int .i64 0,.int .i64 0,.int .i64 0,.slice none 0 0,.string ⟨#[]⟩,.string ⟨#[]⟩,.bool false],.bool false]) ?_ rfl ?_
    · exact Zq Tryz.results29 rfl rfl (Ql.zput (H43.out)) rfl
    · exact Jr (HB3.out) (Qr HG.out) (HYN.out) rfl
theorem Tb (w:World):Calls Tryz.prog 104 #[.agg #[.bool false,.int .i64 800,.int .i64 1,.int .i64 600,.int .i64 1,.int .i64 16,.int .i64 1,.int .i64 8,.int .i64 1,.string ⟨#[108,105,103,104,116]⟩,.string ⟨#[104,111,118,101,114]⟩,.string ⟨#[102,105,110,101]⟩,.string ⟨#[110,111,45,112,114,101,102,101,114,101,110,99,101]⟩],.string ⟨#[119,105,100,116,104]⟩] w fun e w'=>e=.returned (.tuple #[.agg #[.int .i64 800,.int .i64 1],.bool true])∧Below w.heap.size w w':=by
 have h1:=(Ql.new w 65 #[.bool false,.int .i64 800,.int .i64 1,.int .i64 600,.int .i64 1,.int .i64 16,.int .i64 1,.int .i64 8,.int .i64 1,.string ⟨#[108,105,103,104,116]⟩,.string ⟨#[104,111,118,101,114]⟩,.string ⟨#[102,105,110,101]⟩,.string ⟨#[110,111,45,112,114,101,102,101,114,101,110,99,101]⟩]).old (.cells #[.int .i64 0,.int .i64 0] 23);have h2:=Ql.new2 w (.cells #[.bool false,.int .i64 800,.int .i64 1,.int .i64 600,.int .i64 1,.int .i64 16,.int .i64 1,.int .i64 8,.int .i64 1,.string ⟨#[108,105,103,104,116]⟩,.string ⟨#[104,111,118,101,114]⟩,.string ⟨#[102,105,110,101]⟩,.string ⟨#[110,111,45,112,114,101,102,101,114,101,110,99,101]⟩] 65) 23 #[.int .i64 0,.int .i64 0]
 have hb:=(Q7 w (.cells #[.bool false,.int .i64 800,.int .i64 1,.int .i64 600,.int .i64 1,.int .i64 16,.int .i64 1,.int .i64 8,.int .i64 1,.string ⟨#[108,105,103,104,116]⟩,.string ⟨#[104,111,118,101,114]⟩,.string ⟨#[102,105,110,101]⟩,.string ⟨#[110,111,45,112,114,101,102,101,114,101,110,99,101]⟩] 65)).alloc (by simp) (.cells #[.int .i64 0,.int .i64 0] 23);obtain⟨g,hg⟩:∃ g,w.heap.size=g:=⟨_,rfl⟩;rw[hg]at h1 h2;have H1:=Q1 h1;have H2:=Q1 h2;have HB:=Q1 hb;have HG:=Q1 hg;clear h1 h2 hb
 go_enter Tryz.func104,Tryz.ntmps104
 go_upto_region 1 with fail
 try simp only[hg]
 clear hg;generalize World.alloc (World.alloc w _) _=wa at *;obtain⟨c0,c1,c2,c3,c4,c5,c6,c7,c8,c9,c10,c11,c12,lc⟩:=Ql.thir (H1.out);go_wp2_with fail
 ((with_reducible refine(M9 _).mono ?_);rintro e wb ⟨rfl,hbb⟩)
 have HB2:=J8 HB hbb;have h2:=H2.out.below hbb H2.out.lt;clear c0 c1 c2 c3 c4 c5 c6 c7 c8 c9 c10 c11 c12 lc;obtain⟨c0,c1,c2,c3,c4,c5,c6,c7,c8,c9,c10,c11,c12,lc⟩:=Ql.thir (H1.out.below hbb H1.out.lt);have d0:wb.cell? ⟨g+1,0,none⟩=some (.int .i64 0):=(h2).cell 0;have fd0:=(h2).frozen 0;have d1:wb.cell? ⟨g+1,1,none⟩=some (.int .i64 0):=(h2).cell 1;have fd1:=(h2).frozen 1;have ld:=(h2).lt;clear h2 hbb;go_wp2_with fail;exact bodyPost_ret (v:=.tuple #[.agg #[.int .i64 800,.int .i64 1],.bool true]) (by simp[results,Tryz.results104,go_sem,d0,d1]) rfl ⟨rfl,(HB2.out.setCell (p:=⟨g+1,0,none⟩) (by rw[HG.out];exact Zk g) _).setCell (p:=⟨g+1,1,none⟩) (by rw[HG.out];exact Zk g) _⟩
theorem Q4x (w:World):Calls Tryz.prog 142 #[.agg #[.bool false,.int .i64 800,.int .i64 1,.int .i64 600,.int .i64 1,.int .i64 16,.int .i64 1,.int .i64 8,.int .i64 1,.string ⟨#[108,105,103,104,116]⟩,.string ⟨#[104,111,118,101,114]⟩,.string ⟨#[102,105,110,101]⟩,.string ⟨#[110,111,45,112,114,101,102,101,114,101,110,99,101]⟩]] w fun e w'=>e=.returned (.agg #[.int .i64 16,.int .i64 1,.int .i64 16,.int .i64 1,.int .i64 800,.int .i64 1,.int .i64 600,.int .i64 1,.int .i64 0,.int .i64 0,.int .i64 0,.int .i64 0])∧Below w.heap.size w w':=by
 have h1:=(Ql.new w 65 #[.bool false,.int .i64 800,.int .i64 1,.int .i64 600,.int .i64 1,.int .i64 16,.int .i64 1,.int .i64 8,.int .i64 1,.string ⟨#[108,105,103,104,116]⟩,.string ⟨#[104,111,118,101,114]⟩,.string ⟨#[102,105,110,101]⟩,.string ⟨#[110,111,45,112,114,101,102,101,114,101,110,99,101]⟩]).old (.cells #[.int .i64 0,.int .i64 0,.int .i64 0,.int .i64 0,.int .i64 0,.int .i64 0,.int .i64 0,.int .i64 0,.int .i64 0,.int .i64 0,.int .i64 0,.int .i64 0] 162)
 have h2:=Ql.new2 w (.cells #[.bool false,.int .i64 800,.int .i64 1,.int .i64 600,.int .i64 1,.int .i64 16,.int .i64 1,.int .i64 8,.int .i64 1,.string ⟨#[108,105,103,104,116]⟩,.string ⟨#[104,111,118,101,114]⟩,.string ⟨#[102,105,110,101]⟩,.string ⟨#[110,111,45,112,114,101,102,101,114,101,110,99,101]⟩] 65) 162 #[.int .i64 0,.int .i64 0,.int .i64 0,.int .i64 0,.int .i64 0,.int .i64 0,.int .i64 0,.int .i64 0,.int .i64 0,.int .i64 0,.int .i64 0,.int .i64 0]
 have hb:=(Q7 w (.cells #[.bool false,.int .i64 800,.int .i64 1,.int .i64 600,.int .i64 1,.int .i64 16,.int .i64 1,.int .i64 8,.int .i64 1,.string ⟨#[108,105,103,104,116]⟩,.string ⟨#[104,111,118,101,114]⟩,.string ⟨#[102,105,110,101]⟩,.string ⟨#[110,111,45,112,114,101,102,101,114,101,110,99,101]⟩] 65)).alloc (by simp) (.cells #[.int .i64 0,.int .i64 0,.int .i64 0,.int .i64 0,.int .i64 0,.int .i64 0,.int .i64 0,.int .i64 0,.int .i64 0,.int .i64 0,.int .i64 0,.int .i64 0] 162);obtain⟨g,hg⟩:∃ g,w.heap.size=g:=⟨_,rfl⟩;rw[hg]at h1 h2;have H1:=Q1 h1;have H2:=Q1 h2;have HB:=Q1 hb;have HG:=Q1 hg;clear h1 h2 hb
 go_enter Tryz.func142,Tryz.ntmps142
 go_upto_region 1 with fail
 try simp only[hg]
 clear hg;generalize World.alloc (World.alloc w _) _=wa at *;obtain⟨c0,c1,c2,c3,c4,c5,c6,c7,c8,c9,c10,c11,c12,lc⟩:=Ql.thir (H1.out);go_wp2_with fail
 ((with_reducible refine(M9 _).mono ?_);rintro e wb ⟨rfl,hbb⟩)
 have HB2:=J8 HB hbb;have H3:=Q1 (H2.out.below hbb H2.out.lt);clear c0 c1 c2 c3 c4 c5 c6 c7 c8 c9 c10 c11 c12 lc;obtain⟨c0,c1,c2,c3,c4,c5,c6,c7,c8,c9,c10,c11,c12,lc⟩:=Ql.thir (H1.out.below hbb H1.out.lt);have d0:wb.cell? ⟨g+1,0,none⟩=some (.int .i64 0):=(H3.out).cell 0;have fd0:=(H3.out).frozen 0;have d1:wb.cell? ⟨g+1,1,none⟩=some (.int .i64 0):=(H3.out).cell 1;have fd1:=(H3.out).frozen 1;have d2:wb.cell? ⟨g+1,2,none⟩=some (.int .i64 0):=(H3.out).cell 2;have fd2:=(H3.out).frozen 2;have d3:wb.cell? ⟨g+1,3,none⟩=some (.int .i64 0):=(H3.out).cell 3;have fd3:=(H3.out).frozen 3;have d4:wb.cell? ⟨g+1,4,none⟩=some (.int .i64 0):=(H3.out).cell 4;have fd4:=(H3.out).frozen 4;have d5:wb.cell? ⟨g+1,5,none⟩=some (.int .i64 0):=(H3.out).cell 5;have fd5:=(H3.out).frozen 5;have d6:wb.cell? ⟨g+1,6,none⟩=some (.int .i64 0):=(H3.out).cell 6;have fd6:=(H3.out).frozen 6
 have d7:wb.cell? ⟨g+1,7,none⟩=some (.int .i64 0):=(H3.out).cell 7;have fd7:=(H3.out).frozen 7;have d8:wb.cell? ⟨g+1,8,none⟩=some (.int .i64 0):=(H3.out).cell 8;have fd8:=(H3.out).frozen 8;have d9:wb.cell? ⟨g+1,9,none⟩=some (.int .i64 0):=(H3.out).cell 9;have fd9:=(H3.out).frozen 9;have d10:wb.cell? ⟨g+1,10,none⟩=some (.int .i64 0):=(H3.out).cell 10;have fd10:=(H3.out).frozen 10;have d11:wb.cell? ⟨g+1,11,none⟩=some (.int .i64 0):=(H3.out).cell 11;have fd11:=(H3.out).frozen 11;have ld:=(H3.out).lt;clear hbb;go_wp2_with fail;have hz:=Gr [.int .i64 16,.int .i64 1,.int .i64 16,.int .i64 1,.int .i64 800,.int .i64 1,.int .i64 600,.int .i64 1,.int .i64 0,.int .i64 0,.int .i64 0,.int .i64 0] [.int .i64 0,.int .i64 0,.int .i64 0,.int .i64 0,.int .i64 0,.int .i64 0,.int .i64 0,.int .i64 0,.int .i64 0,.int .i64 0,.int .i64 0,.int .i64 0] wb 0 [] H3.out rfl rfl
 have hbz:=HB2.out.trans ((V3 [.int .i64 16,.int .i64 1,.int .i64 16,.int .i64 1,.int .i64 800,.int .i64 1,.int .i64 600,.int .i64 1,.int .i64 0,.int .i64 0,.int .i64 0,.int .i64 0] wb (g+1) 0).mono (by rw[HG.out];exact Zk g));simp only[J5,Nat.zero_add,Nat.reduceAdd]at hz hbz;refine bodyPost_ret (v:=.agg #[.int .i64 16,.int .i64 1,.int .i64 16,.int .i64 1,.int .i64 800,.int .i64 1,.int .i64 600,.int .i64 1,.int .i64 0,.int .i64 0,.int .i64 0,.int .i64 0]) ?_ rfl ⟨rfl,hbz⟩;exact results_cell_row Tryz.results142 _ _ _ _ _ (0,0) _ rfl hz Tryz.underlying162 rfl (by kernel_rfl)
theorem Sx:Tryz.prog.elem 211=23:=by kernel_rfl
theorem Q1b (oa:Option Addr) (cap:Nat) (h:1≤cap):∃ oa' cap',∀ w,(Instr.slice 211 (.slice oa 1 cap) (some (.int .i64 1)) none none).run Tryz.prog w=.ok (.slice oa' 0 cap') w :=
 ⟨if cap=1 then oa else oa.map (·.add (1*2)),cap-1,fun w=>by
   have e:=run_slice_l w 211 oa 1 cap (by rw[Sx];exact Tryz.underlying211) .i64 1 (by omega) (by omega);rw[Sx,Tryz.sizeOf23]at e;refine e.trans ?_
   simp[Result.andThen,sliced]⟩
theorem Ss (b o cap:Nat) (w:World) (hc:1≤cap) (hb:b<w.heap.size) (e0:w.cell? ⟨b,o,none⟩=some (.int .i64 600)) (e1:w.cell? ⟨b,o+1,none⟩=some (.int .i64 1)) :
  Calls Tryz.prog 197 #[.agg #[.int .i64 0,.int .i64 1],.func (.func 223) #[] #[],.slice (some ⟨b,o,none⟩) 1 cap] w fun e w'=>e=.returned (.agg #[.int .i64 600,.int .i64 1])∧Below w.heap.size w w':=by
 obtain⟨oa2,cap2,hr⟩:=Q1b (some ⟨b,o,none⟩) cap hc;have h1:=(Ql.new w 23 #[.int .i64 0,.int .i64 1]).old (.cells #[.int .i64 0,.int .i64 0] 23);have h2:=Ql.new2 w (.cells #[.int .i64 0,.int .i64 1] 23) 23 #[.int .i64 0,.int .i64 0];have hbb:=(Q7 w (.cells #[.int .i64 0,.int .i64 1] 23)).alloc (by simp) (.cells #[.int .i64 0,.int .i64 0] 23);replace e0:=(hbb.cell (p:=⟨b,o,none⟩) hb).trans e0;replace e1:=(hbb.cell (p:=⟨b,o+1,none⟩) hb).trans e1;obtain⟨g,hg⟩:∃ g,w.heap.size=g:=⟨_,rfl⟩;rw[hg]at h1 h2;have H2:=Q1 h2;have HB:=Q1 hbb;have HG:=Q1 hg;have HS:=Q1 (fun w=>K4 (600,1) w (U9 (by decide)));rw[show U4 (600,1)=true by decide]at HS;simp only[rv]at HS;clear h1 h2 hbb
 go_enter Tryz.func197,Tryz.ntmps197
 go_upto_region 1 with fail
 try simp only[hg]
 clear hg;generalize World.alloc (World.alloc w _) _=wa at *
 go_upto_region 4 with fail
 obtain⟨h7,hb7⟩:=Z2 wa 23 #[.int .i64 600,.int .i64 1];have H3:=Q1 (H2.out.below hb7 H2.out.lt);have HB3:=J8 HB hb7;clear e0 e1 hb7 H2 HB;generalize wa.heap.size=g7 at *;generalize World.alloc wa _=wb at *;have c0:wb.cell? ⟨g7,0,none⟩=some (.int .i64 600):=(h7).cell 0;have fc0:=(h7).frozen 0;have c1:wb.cell? ⟨g7,1,none⟩=some (.int .i64 1):=(h7).cell 1;have fc1:=(h7).frozen 1;have lc:=(h7).lt;go_wp2_with fail
 ((with_reducible refine(HS.out _).mono ?_);rintro e wc ⟨rfl,hbc⟩)
 have h8:=h7.below hbc lc;have H4:=Q1 (H3.out.below hbc H3.out.lt);have HB4:=J8 HB3 hbc;clear c0 c1 fc0 fc1 lc h7 hbc H3 HB3;have c0:wc.cell? ⟨g7,0,none⟩=some (.int .i64 600):=(h8).cell 0;have fc0:=(h8).frozen 0;have c1:wc.cell? ⟨g7,1,none⟩=some (.int .i64 1):=(h8).cell 1;have fc1:=(h8).frozen 1;have lc:=(h8).lt;have d0:wc.cell? ⟨g+1,0,none⟩=some (.int .i64 0):=(H4.out).cell 0;have fd0:=(H4.out).frozen 0;have d1:wc.cell? ⟨g+1,1,none⟩=some (.int .i64 0):=(H4.out).cell 1;have fd1:=(H4.out).frozen 1;have ld:=(H4.out).lt;clear h8;go_wp2_with fail
 go_loopg [24] 0 (fun q s wr=>s=.int .i64 0∧wr=wc)
 case atStart=>exact⟨rfl,rfl⟩
 case round =>
  obtain⟨rfl,rfl⟩:=hrel;go_wp2_with fail;exact bodyPost_ret (v:=.agg #[.int .i64 600,.int .i64 1]) (by simp[results,Tryz.results197,go_sem,d0,d1]) rfl ⟨rfl,(HB4.out.setCell (p:=⟨g+1,0,none⟩) (by rw[HG.out];exact Zk g) _).setCell (p:=⟨g+1,1,none⟩) (by rw[HG.out];exact Zk g) _⟩
theorem Q5e (b o cap:Nat) (w:World) (hc:1≤cap) (hb:b<w.heap.size) (e0:w.cell? ⟨b,o,none⟩=some (.int .i64 600)) (e1:w.cell? ⟨b,o+1,none⟩=some (.int .i64 1)) :
  Calls Tryz.prog 202 #[.slice (some ⟨b,o,none⟩) 1 cap] w fun e w'=>e=.returned (.agg #[.int .i64 600,.int .i64 1])∧Below w.heap.size w w':=by
 obtain⟨h1,hb1⟩:=Z2 w 23 #[.int .i64 0,.int .i64 0];have HF:=Q1 (Ss b o cap _ hc (Qg hb hb1.size) ((hb1.cell (p:=⟨b,o,none⟩) hb).trans e0) ((hb1.cell (p:=⟨b,o+1,none⟩) hb).trans e1));obtain⟨g,hg⟩:∃ g,w.heap.size=g:=⟨_,rfl⟩;rw[hg]at h1;have H1:=Q1 h1;have HB:=Q1 hb1;have HG:=Q1 hg;clear h1 hb1 e0 e1
 go_enter Tryz.func202,Tryz.ntmps202
 go_upto_region 1 with fail
 try simp only[hg]
 clear hg;generalize World.alloc w _=wa at *;go_wp2_with fail
 ((with_reducible refine HF.out.mono ?_);rintro e wc ⟨rfl,hbc⟩)
 have d0:wc.cell? ⟨g,0,none⟩=some (.int .i64 0):=((H1.out.below hbc H1.out.lt)).cell 0;have fd0:=((H1.out.below hbc H1.out.lt)).frozen 0;have d1:wc.cell? ⟨g,1,none⟩=some (.int .i64 0):=((H1.out.below hbc H1.out.lt)).cell 1;have fd1:=((H1.out.below hbc H1.out.lt)).frozen 1;have ld:=((H1.out.below hbc H1.out.lt)).lt;have HB2:=J8 HB hbc;clear hbc;go_wp2_with fail;exact bodyPost_ret (v:=.agg #[.int .i64 600,.int .i64 1]) (by simp[results,Tryz.results202,go_sem,d0,d1]) rfl ⟨rfl,(HB2.out.setCell (p:=⟨g,0,none⟩) (by rw[HG.out];exact Q6 g) _).setCell (p:=⟨g,1,none⟩) (by rw[HG.out];exact Q6 g) _⟩
end Go.Proofs.YtnanffmhbjdpaaaGreatDoor
