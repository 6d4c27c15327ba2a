/- Of my texts: MedO, MedP, MedQ, AwK. -/
import Derived.Test.YtnanffmhbjdpaaaGreatDoorM00
import Derived.Test.YtnanffmhbjdpaaaGreatDoorM05
import Derived.Test.YtnanffmhbjdpaaaGreatDoorM18
import Derived.Test.YtnanffmhbjdpaaaGreatDoorM25
import Derived.Test.YtnanffmhbjdpaaaGreatDoorM26
import Derived.Test.YtnanffmhbjdpaaaGreatDoorM28
namespace Go.Proofs.YtnanffmhbjdpaaaGreatDoor
set_option maxHeartbeats 8000000
set_option maxRecDepth 100000
set_option linter.unusedVariables false
set_option linter.unusedSimpArgs false
open Go.RowKit
theorem Xk (n:List UInt8) (box:Bool) (w:World):Calls Tryz.prog 24 #[.string ⟨n.toArray⟩,.bool box] w fun e w'=>e=.returned (.tuple #[.string ⟨(Z6 n box).1.toArray⟩,.bool (Z6 n box).2])∧w=w':=by
 obtain⟨R,hR⟩:∃ R,Z6 n box=R:=⟨_,rfl⟩;rw[hR];unfold Z6 at hR;have HR:=Q1 hR;obtain⟨c0,q0⟩:∃ c,(n==[119,105,100,116,104])=c:=⟨_,rfl⟩;obtain⟨c1,q1⟩:∃ c,(n==[104,101,105,103,104,116])=c:=⟨_,rfl⟩;obtain⟨c2,q2⟩:∃ c,(n==[97,115,112,101,99,116,45,114,97,116,105,111])=c:=⟨_,rfl⟩;obtain⟨c3,q3⟩:∃ c,(n==[99,111,108,111,114])=c:=⟨_,rfl⟩;obtain⟨c4,q4⟩:∃ c,(n==[105,110,108,105,110,101,45,115,105,122,101])=c:=⟨_,rfl⟩;obtain⟨c5,q5⟩:∃ c,(n==[98,108,111,99,107,45,115,105,122,101])=c:=⟨_,rfl⟩
 have e4:(n=Kn)=(c4=true):=by rw[← q4,beq_iff_eq];rfl
 have e5:(n=Dk)=(c5=true):=by rw[← q5,beq_iff_eq];rfl
 have HR2:=Q1 (show (if box∧c4=true then (Js,true) else if box∧c5=true then (Uy,true) else (n,c0||c1||c2||!box&&c3))=R by
  rw[← HR.out];simp only[e4,e5];rw[← q0,← q1,← q2,← q3];rfl)
 clear hR HR e4 e5
 rcases (show (box=true∧c4=true)∨(box=true∧c4=false∧c5=true)∨(c0=true∧(box&&c4)=false∧(box&&c5)=false)∨(c0=false∧c1=true∧(box&&c4)=false∧(box&&c5)=false)∨(c0=false∧c1=false∧c2=true∧(box&&c4)=false∧(box&&c5)=false)∨(c0=false∧c1=false∧c2=false∧(box&&c4)=false∧(box&&c5)=false) by
  cases box<;>cases c0<;>cases c1<;>cases c2<;>cases c4<;>cases c5<;>simp) with ⟨rfl,rfl⟩ | ⟨rfl,rfl,rfl⟩ | ⟨rfl,a,b⟩ | ⟨rfl,rfl,a,b⟩ | ⟨rfl,rfl,rfl,a,b⟩ | ⟨rfl,rfl,rfl,a,b⟩
 · obtain rfl:(Js,true)=R:=by rw[← HR2.out];simp
   go_enter Tryz.func24,Tryz.ntmps24
   go_wp2_with fail;exact bodyPost_ret (v:=.tuple #[.string ⟨Js.toArray⟩,.bool true]) (by simp[results,Tryz.results24,go_sem,Js]) rfl ⟨rfl,rfl⟩
 · obtain rfl:(Uy,true)=R:=by rw[← HR2.out];simp
   go_enter Tryz.func24,Tryz.ntmps24
   go_wp2_with fail;exact bodyPost_ret (v:=.tuple #[.string ⟨Uy.toArray⟩,.bool true]) (by simp[results,Tryz.results24,go_sem,Uy]) rfl ⟨rfl,rfl⟩
 all_goals
  cases box
  · clear a b
    go_enter Tryz.func24,Tryz.ntmps24
    go_wp2_with fail
    first
     | (refine bodyPost_ret (v:=.tuple #[.string ⟨n.toArray⟩,.bool true]) ?_ rfl ⟨?_,rfl⟩;(focus (simp[results,Tryz.results24,go_sem];done));(focus (rw[← HR2.out];simp;done)))
     | (refine bodyPost_ret (v:=.tuple #[.string ⟨n.toArray⟩,.bool c3]) ?_ rfl ⟨?_,rfl⟩;(focus (simp[results,Tryz.results24,go_sem];done));(focus (rw[← HR2.out];simp;done)))
  · obtain rfl:c4=false:=a;obtain rfl:c5=false:=b
    go_enter Tryz.func24,Tryz.ntmps24
    go_wp2_with fail
    first
     | (refine bodyPost_ret (v:=.tuple #[.string ⟨n.toArray⟩,.bool true]) ?_ rfl ⟨?_,rfl⟩;(focus (simp[results,Tryz.results24,go_sem];done));(focus (rw[← HR2.out];simp;done)))
     | (refine bodyPost_ret (v:=.tuple #[.string ⟨n.toArray⟩,.bool false]) ?_ rfl ⟨?_,rfl⟩;(focus (simp[results,Tryz.results24,go_sem];done));(focus (rw[← HR2.out];simp;done)))
theorem Hr (n:List UInt8) (w:World):Calls Tryz.prog 60 #[.string ⟨n.toArray⟩] w fun e w'=>(∃ v,e=.returned v∧Zs w' v (Jo n)∧(Jo n=[]→v=.slice none 0 0)∧(Jo n≠[]→∃ b n c,v=.slice (some b) n c))∧Below w.heap.size w w':=by
 obtain⟨D,hD⟩:∃ D,Jo n=D:=⟨_,rfl⟩;rw[hD];unfold Jo at hD
 by_cases h0:n=F7
 · rw[if_pos h0]at hD
   have q0:(n==[104,111,118,101,114])=true:=by rw[h0];rfl
   subst hD;clear h0
   go_enter Tryz.func60,Tryz.ntmps60
   go_wp2_with fail;go_ret;exact⟨⟨.slice (some ⟨w.heap.size,0,none⟩) 2 2,rfl,Ks w 9 [Ny,F7],fun h=>(by cases h),fun _=>⟨_,_,_,rfl⟩⟩,Q7 _ _⟩
 rw[if_neg h0]at hD;have q0:(n==[104,111,118,101,114])=false:=beq_eq_false_iff_ne.2 h0
 by_cases h1:n=Yh
 · rw[if_pos h1]at hD
   have q1:(n==[111,114,105,101,110,116,97,116,105,111,110])=true:=by rw[h1];rfl
   subst hD;clear h1
   go_enter Tryz.func60,Tryz.ntmps60
   go_wp2_with fail;go_ret;exact⟨⟨.slice (some ⟨w.heap.size,0,none⟩) 2 2,rfl,Ks w 9 [F0,B7],fun h=>(by cases h),fun _=>⟨_,_,_,rfl⟩⟩,Q7 _ _⟩
 rw[if_neg h1]at hD;have q1:(n==[111,114,105,101,110,116,97,116,105,111,110])=false:=beq_eq_false_iff_ne.2 h1
 by_cases h2:n=Lm
 · rw[if_pos h2]at hD
   have q2:(n==[112,111,105,110,116,101,114])=true:=by rw[h2];rfl
   subst hD;clear h2
   go_enter Tryz.func60,Tryz.ntmps60
   go_wp2_with fail;go_ret;exact⟨⟨.slice (some ⟨w.heap.size,0,none⟩) 3 3,rfl,Ks w 9 [Ny,Pq,Q4s],fun h=>(by cases h),fun _=>⟨_,_,_,rfl⟩⟩,Q7 _ _⟩
 rw[if_neg h2]at hD;have q2:(n==[112,111,105,110,116,101,114])=false:=beq_eq_false_iff_ne.2 h2
 by_cases h3:n=P1
 · rw[if_pos h3]at hD
   have q3:(n==[112,114,101,102,101,114,115,45,99,111,108,111,114,45,115,99,104,101,109,101])=true:=by rw[h3];rfl
   subst hD;clear h3
   go_enter Tryz.func60,Tryz.ntmps60
   go_wp2_with fail;go_ret;exact⟨⟨.slice (some ⟨w.heap.size,0,none⟩) 2 2,rfl,Ks w 9 [Ir,Q50],fun h=>(by cases h),fun _=>⟨_,_,_,rfl⟩⟩,Q7 _ _⟩
 rw[if_neg h3]at hD;have q3:(n==[112,114,101,102,101,114,115,45,99,111,108,111,114,45,115,99,104,101,109,101])=false:=beq_eq_false_iff_ne.2 h3
 by_cases h4:n=Pc
 · rw[if_pos h4]at hD
   have q4:(n==[112,114,101,102,101,114,115,45,114,101,100,117,99,101,100,45,109,111,116,105,111,110])=true:=by rw[h4];rfl
   subst hD;clear h4
   go_enter Tryz.func60,Tryz.ntmps60
   go_wp2_with fail;go_ret;exact⟨⟨.slice (some ⟨w.heap.size,0,none⟩) 2 2,rfl,Ks w 9 [Ie,P3],fun h=>(by cases h),fun _=>⟨_,_,_,rfl⟩⟩,Q7 _ _⟩
 rw[if_neg h4]at hD;have q4:(n==[112,114,101,102,101,114,115,45,114,101,100,117,99,101,100,45,109,111,116,105,111,110])=false:=beq_eq_false_iff_ne.2 h4;subst hD
 go_enter Tryz.func60,Tryz.ntmps60
 go_wp2_with fail;go_ret;exact⟨⟨_,rfl,⟨none,0,rfl,fun h=>absurd rfl h⟩,fun _=>rfl,fun h=>absurd rfl h⟩,Below.refl _ _⟩
theorem Fi (n:List UInt8) (box:Bool) (w:World):Calls Tryz.prog 25 #[.string ⟨n.toArray⟩,.bool box] w fun e w'=>e=.returned (.bool (Uf n box))∧Below w.heap.size w w':=by
 obtain⟨R,hR⟩:∃ R,Uf n box=R:=⟨_,rfl⟩;rw[hR];unfold Uf at hR;obtain⟨c0,q0⟩:∃ c,(n==[111,114,105,101,110,116,97,116,105,111,110])=c:=⟨_,rfl⟩;have HR:=Q1 (show (c0||!box&&decide (0<(Jo n).length))=R by rw[← hR,← q0];rfl);have HW:=Q1 (Hr n);clear hR
 cases c0 with
 | true =>
   obtain rfl:true=R:=HR.out
   go_enter Tryz.func25,Tryz.ntmps25
   go_wp2_with fail;go_ret;exact⟨rfl,Below.refl _ _⟩
 | false =>
   cases box with
   | true =>
     obtain rfl:false=R:=HR.out
     go_enter Tryz.func25,Tryz.ntmps25
     go_wp2_with fail;go_ret;exact⟨rfl,Below.refl _ _⟩
   | false =>
     generalize Jo n=D at *
     go_enter Tryz.func25,Tryz.ntmps25
     go_wp2_with fail
     ((with_reducible refine(HW.out _).mono ?_);rintro e w' ⟨⟨v,rfl,_,hz,hz2⟩,hb⟩)
     have HB:=Q1 hb;clear hb
     by_cases h0:D=[]
     · obtain rfl:=hz h0
       obtain rfl:false=R:=by rw[← HR.out,h0];rfl
       clear hz hz2;go_wp2_with fail;go_ret;exact⟨rfl,HB.out⟩
     · obtain⟨b,n,c,rfl⟩:=hz2 h0
       obtain rfl:true=R:=by
        rw[← HR.out];have:=List.length_pos_iff.2 h0;simp[this]
       clear hz hz2;go_wp2_with fail;go_ret;exact⟨rfl,HB.out⟩
theorem We (h:Nat) (l:List Vl) (oa:Option Addr) (cap b o:Nat) (w:World) (hs:Zw w h oa cap b o l) (i:Nat) (hi:(i:Int)≤9223372036854775807) (s:List UInt8) :
  Calls Tryz.prog 96 #[.slice oa l.length cap,.int .i64 (i:Int),.string ⟨s.toArray⟩] w fun e w'=>e=.returned (.bool (((l.map Vl.c)[i]?.map (Zr s)).getD false))∧w=w':=by
 obtain⟨N,hN⟩:∃ N,l.length=N:=⟨_,rfl⟩;obtain⟨R,hR⟩:∃ R,((l.map Vl.c)[i]?.map (Zr s)).getD false=R:=⟨_,rfl⟩;have hcl:=hs.sl.le;have hcm:=hs.sl.max;unfold maxLen at hcm;rw[hN]at hcl ⊢;rw[hR]
 by_cases hin:i<N
 · have gi:decide ((i:Int)<(N:Int))=true:=by simpa using hin
   have ij0:(0:Int)≤(i:Int):=Int.natCast_nonneg _
   have ijN:(i:Int)<(N:Int):=by omega
   have hil:i<l.length:=by rw[hN];exact hin
   have hli:l[i]?=some l[i]:=Q9 hil;obtain⟨x,hx⟩:∃ x,l[i]=x:=⟨_,rfl⟩;rw[hx]at hli;obtain⟨rfl,hbl⟩:=hs.sl.lies (by omega);obtain⟨⟨tk,tt,⟨tn,td⟩,ti,tid⟩,koa,kb,ko,kcap,kids⟩:=x;obtain⟨f0,f1,f2,f3,f4,f5,f6⟩:=hs.row hli
   have hr:(tk==9&&tt==s)=R:=by rw[← hR,Z5,hli,Option.map_some,Vl.c_mk];rfl
   obtain⟨c1,q1⟩:∃ c,(tk==9)=c:=⟨_,rfl⟩;obtain⟨c2,q2⟩:∃ c,(tt==s)=c:=⟨_,rfl⟩;rw[q1,q2]at hr;have HR:=Q1 hr;clear hs hli hil hx hR hN hr f2 f3 f4 f5 f6
   cases c1<;>cases c2
   all_goals
    go_enter Tryz.func96,Tryz.ntmps96
    go_wp2_with fail;go_ret;exact⟨by rw[← HR.out];rfl,rfl⟩
 · have gi:decide ((i:Int)<(N:Int))=false:=by simpa using hin
   obtain rfl:false=R:=by
    rw[← hR,Zf (by rw[Qj];omega)];rfl
   clear hs hN hR
   go_enter Tryz.func96,Tryz.ntmps96
   go_wp2_with fail;go_ret;exact⟨rfl,rfl⟩
theorem Bn (h:Nat) (l:List Vl) (oa:Option Addr) (cap b o:Nat) (w:World) (hs:Zw w h oa cap b o l) :
  Calls Tryz.prog 23 #[.slice oa l.length cap] w fun e w'=>e=.returned (.string ⟨(Qy (l.map Vl.c)).toArray⟩)∧Below w.heap.size w w':=by
 have HT:=Q1 (Kx h l oa cap b o w hs)
 have hR:Qy (l.map Vl.c)=match (V4 l).map Vl.c with
  | [v]=>Wq v
  | _=>[]:=by
  rw[Cv];generalize l.map Vl.c=L
  match hn:Ue L with
  | [] =>
    have ht:Z9 L=[]:=by
     cases h:Z9 L with
     | nil=>rfl
     | cons v r =>
       have h1:=K3 L;rw[h]at h1
       have h2:Ue L=v::Ue r:=by rw[← V7,h,Vh _ h1]
       rw[hn]at h2
       cases h2
    rw[ht];unfold Qy;rw[hn]
  | [v]=>rw[Wr hn,Fe hn]
  | x::y::r =>
    rw[Fd hn]
    match ht:Z9 L with
    | []=>rfl
    | [v] =>
      have h2:Ue L=Ue [v]:=by rw[← V7,ht]
      rw[hn]at h2;unfold Ue at h2;rw[List.filter_cons]at h2;split at h2<;>simp at h2
    | _::_::_=>rfl
 obtain⟨R,hRR⟩:∃ R,Qy (l.map Vl.c)=R:=⟨_,rfl⟩;rw[hRR]at hR;have HS:=Q1 hs;rw[hRR];clear hs hRR
 go_enter Tryz.func23,Tryz.ntmps23
 go_wp2_with fail
 ((with_reducible refine HT.out.mono ?_);rintro e w1 ⟨⟨oa1,cap1,o1,rfl,hd⟩,hb⟩)
 have HB:=Q1 hb;have hd:=hd _ _ (HS.out.below hb);clear hb HT;generalize V4 l=D at *
 by_cases hN:D.length=1
 · obtain⟨x,rfl⟩:∃ x,D=[x]:=Zo.1 hN;obtain⟨⟨tk,tt,⟨tn,td⟩,ti,tid⟩,koa,kb,ko,kcap,kids⟩:=x;obtain⟨f0,f1,f2,f3,f4,f5,f6⟩:=hd.row (i:=0) rfl;obtain⟨rfl,hbl⟩:=hd.sl.lies (by simp);have htl:=(Bt (hd.each 0 _ rfl)).2.2;have HSM:=Q1 (fun w=>Kk tt w htl);simp only[List.map_cons,List.map_nil,Vl.c_mk]at hR;simp only[Nat.zero_mul,Nat.add_zero,Nat.zero_add]at f0 f1 f2 f3 f4 f5 f6;rw[hN];have hcp:=hd.sl.le;rw[hN]at hcp;clear hd hN f2 f3 f4 f5 f6 htl
   by_cases hk:tk=1
   · have hR3:R=U6 tt:=by rw[hR];unfold Wq;exact if_pos hk
     subst hR3 hk;clear hR;go_wp2_with fail
     ((with_reducible refine(HSM.out _).mono ?_);rintro e w2 ⟨rfl,hb2⟩)
     have HB2:=J8 HB hb2;clear hb2;go_wp2_with fail;go_ret;exact⟨rfl,HB2.out⟩
   · have hR3:R=[]:=by rw[hR];unfold Wq;exact if_neg hk
     have gk:(tk==(1:Int))=false:=beq_eq_false_iff_ne.2 hk;subst hR3;clear hR;go_wp2_with fail;go_ret;exact⟨rfl,HB.out⟩
 · have hR3:R=[]:=by
    rw[hR]
    match D,hN with
    | [],_=>rfl
    | [_],h=>exact absurd rfl h
    | _::_::_,_=>rfl
   obtain⟨N,hNe⟩:∃ N,D.length=N:=⟨_,rfl⟩;rw[hNe]at hN ⊢
   have gk:((N:Int)==(1:Int))=false:=by rw[beq_eq_false_iff_ne];omega
   subst hR3;clear hR hd hNe;go_wp2_with fail;go_ret;exact⟨rfl,HB.out⟩
theorem Dz (k t op e0 e1 e2 e3:Int) (nm wd vl:ByteArray) (ea:Option Addr) (en ec:Nat) (an:Bool) (w:World) :
  Calls Tryz.prog 26 #[.agg #[.int .i64 k,.int .i64 t,.string nm,.int .i64 op,.int .i64 e0,.int .i64 e1,.int .i64 e2,.int .i64 e3,.slice ea en ec,.string wd,.string vl,.bool an]] w fun e w' =>
   e=.returned (.agg #[.int .i64 4,.slice none 0 0,.int .i64 k,.int .i64 t,.string nm,.int .i64 op,.int .i64 e0,.int .i64 e1,.int .i64 e2,.int .i64 e3,.slice ea en ec,.string wd,.string vl,.bool an])∧Below w.heap.size w w':=by
 have hb:=Ql.new2 w (.cells #[.int .i64 k,.int .i64 t,.string nm,.int .i64 op,.int .i64 e0,.int .i64 e1,.int .i64 e2,.int .i64 e3,.slice ea en ec,.string wd,.string vl,.bool an] 34) 36 #[.int .i64 4,.slice none 0 0,.int .i64 k,.int .i64 t,.string nm,.int .i64 op,.int .i64 e0,.int .i64 e1,.int .i64 e2,.int .i64 e3,.slice ea en ec,.string wd,.string vl,.bool an];have HB:=Q1 hb;clear hb
 go_enter Tryz.func26,Tryz.ntmps26
 go_wp2_with fail;exact bodyPost_ret (Ey Tryz.results26 rfl HB.out rfl) rfl ⟨rfl,(Q7 w _).alloc (by simp) _⟩
theorem Wf (n:ByteArray) (op k a d u:Int) (oa:Option Addr) (L c:Nat) (w:World) :
  Calls Tryz.prog 62 #[.string n,.int .i64 op,.agg #[.int .i64 k,.int .i64 a,.int .i64 d,.int .i64 u,.slice oa L c]] w fun e w' =>
   e=.returned (.agg #[.int .i64 4,.slice none 0 0,.int .i64 4,.int .i64 0,.string n,.int .i64 op,.int .i64 k,.int .i64 a,.int .i64 d,.int .i64 u,.slice oa L c,.string ⟨#[]⟩,.string ⟨#[]⟩,.bool false])∧Below w.heap.size w w':=by
 have h6:=Ql.new2 w (.cells #[.int .i64 k,.int .i64 a,.int .i64 d,.int .i64 u,.slice oa L c] 32) 36 Zl;have hb6:=(Q7 w (.cells #[.int .i64 k,.int .i64 a,.int .i64 d,.int .i64 u,.slice oa L c] 32)).alloc (by simp) (.cells Zl 36);have h5:=(Ql.new w 32 #[.int .i64 k,.int .i64 a,.int .i64 d,.int .i64 u,.slice oa L c]).old (.cells Zl 36);obtain⟨g,hg⟩:∃ g,w.heap.size=g:=⟨_,rfl⟩;rw[hg]at h6 h5;have HG:=Q1 hg;have H6:=Q1 h6;have H5:=Q1 h5;have HB:=Q1 hb6;clear h6 h5 hb6;simp only[Zl]at H6 H5 HB
 go_enter Tryz.func62,Tryz.ntmps62
 go_upto_region 1 with fail
 try simp only[hg]
 clear hg;generalize World.alloc (World.alloc w _) _=w1 at *;obtain⟨c0,f0,c1,f1,c2,f2,c3,f3,c4,f4,l4⟩:=Ql.five H5.out;go_wp2_with fail
 ((with_reducible refine(Dz 4 0 op k a d u _ _ _ oa L c false _).mono ?_);rintro e w2 ⟨rfl,hb2⟩)
 have H62:=Q1 (H6.out.below hb2 H6.out.lt);have HB2:=J8 HB hb2;clear hb2;obtain⟨z0,fz0,z1,fz1,z2,fz2,z3,fz3,z4,fz4,z5,fz5,z6,fz6,z7,fz7,z8,fz8,z9,fz9,z10,fz10,z11,fz11,z12,fz12,z13,fz13,lz⟩:=Ql.z14 (H62.out);go_wp2_with fail;have hz:=(V3 [.int .i64 4,.slice none 0 0,.int .i64 4,.int .i64 0,.string n,.int .i64 op,.int .i64 k,.int .i64 a,.int .i64 d,.int .i64 u,.slice oa L c,.string ⟨#[]⟩,.string ⟨#[]⟩,.bool false] w2 (g+1) 0).mono (by have:=HG.out;omega:w.heap.size≤g+1);simp only[J5,Nat.zero_add,Nat.reduceAdd]at hz;exact bodyPost_ret (Ey Tryz.results62 rfl (H62.out.put14 _ _ _ _ _ _ _ _ _ _ _ _ _ _) rfl) rfl ⟨rfl,HB2.out.trans hz⟩
theorem Nh (op:Int) (w:World) (ho:0≤op∧op≤6):Calls Tryz.prog 65 #[.int .i64 op] w fun e w'=>e=.returned (.int .i64 (6-op))∧w=w':=by
 go_enter Tryz.func65,Tryz.ntmps65
 go_wp2_with fail;go_ret;exact⟨rfl,rfl⟩
def Ew (L:List Vt) (i:Nat):Int×Nat:=(L[i]?.bind fun v=>Yq v (Xj L (i+1))).getD (0,0)
theorem Q5q (L:List Vt) (i:Nat) (lt gt eq wd:Bool) (h1:(L[i]?.map (Zr ltS)).getD false=lt) (h2:(L[i]?.map (Zr gtS)).getD false=gt) (h3:(L[i]?.map (Zr Oc)).getD false=eq) (h4:(L[i+1]?.map (Zr Oc)).getD false=wd) :
  (lt=true→gt=false∧eq=false)∧(gt=true→eq=false)∧Ew L i=if eq then (3,1) else if lt then (if wd then (2,2) else (1,1)) else if gt then (if wd then (4,2) else (5,1)) else (0,0):=by
 have hx:∀ (v:Vt) (a b:List UInt8),a≠b→Zr a v=true→Zr b v=false:=fun v a b hab h=>by
  unfold Zr at h ⊢;simp only[Qe,beq_iff_eq]at h;rw[h.2,beq_eq_false_iff_ne.2 hab,Bool.and_false]
 have hw:Xj L (i+1)=wd:=h4;unfold Ew;rw[hw]
 cases hv:L[i]? with
 | none =>
   rw[hv]at h1 h2 h3;obtain rfl:false=lt:=h1;obtain rfl:false=gt:=h2;obtain rfl:false=eq:=h3;exact⟨fun h=>(by cases h),fun h=>(by cases h),rfl⟩
 | some v =>
   rw[hv]at h1 h2 h3;have h1:Zr ltS v=lt:=h1;have h2:Zr gtS v=gt:=h2;have h3:Zr Oc v=eq:=h3;refine⟨fun h=>⟨h2 ▸ hx v ltS gtS (by decide) (h1.trans h),h3 ▸ hx v ltS Oc (by decide) (h1.trans h)⟩,fun h=>h3 ▸ hx v gtS Oc (by decide) (h2.trans h),?_⟩;simp only[Option.bind_some];unfold Yq;rw[h1,h2,h3]
   cases eq<;>cases lt<;>cases gt<;>cases wd<;>rfl
theorem Q1d (h:Nat) (l:List Vl) (oa:Option Addr) (cap b o:Nat) (w:World) (hs:Zw w h oa cap b o l) (i:Nat) (hi:(i:Int)+1≤9223372036854775807) :
  Calls Tryz.prog 64 #[.slice oa l.length cap,.int .i64 (i:Int)] w fun e w'=>e=.returned (.tuple #[.int .i64 (Ew (l.map Vl.c) i).1,.int .i64 ((Ew (l.map Vl.c) i).2:Int)])∧w=w':=by
 obtain⟨lt,h1⟩:∃ c,((l.map Vl.c)[i]?.map (Zr ltS)).getD false=c:=⟨_,rfl⟩;obtain⟨gt,h2⟩:∃ c,((l.map Vl.c)[i]?.map (Zr gtS)).getD false=c:=⟨_,rfl⟩;obtain⟨eq,h3⟩:∃ c,((l.map Vl.c)[i]?.map (Zr Oc)).getD false=c:=⟨_,rfl⟩;obtain⟨wd,h4⟩:∃ c,((l.map Vl.c)[i+1]?.map (Zr Oc)).getD false=c:=⟨_,rfl⟩;obtain⟨x1,x2,hsg⟩:=Q5q (l.map Vl.c) i lt gt eq wd h1 h2 h3 h4
 have d1:=fun w' (hw:w=w')=>We h l oa cap b o w' (hw ▸ hs) i (by omega) ltS
 have d2:=fun w' (hw:w=w')=>We h l oa cap b o w' (hw ▸ hs) i (by omega) gtS
 have d3:=fun w' (hw:w=w')=>We h l oa cap b o w' (hw ▸ hs) i (by omega) Oc
 have d4:=fun w' (hw:w=w')=>We h l oa cap b o w' (hw ▸ hs) (i+1) (by omega) Oc
 simp only[h1,h2,h3,h4,Int.natCast_add,Int.cast_ofNat_Int]at d1 d2 d3 d4;simp only[ltS,gtS,Oc]at d1 d2 d3 d4;have HLT:=Q1 (d1 w rfl);have HGT:=Q1 (d2 w rfl);have HEQ:=Q1 (d3 w rfl);have HWD:=Q1 (d4 w rfl);have HS:=Q1 hsg;have ij0:(0:Int)≤(i:Int):=Int.natCast_nonneg _;generalize Ew (l.map Vl.c) i=sg at *;generalize l.length=N at *;clear h1 h2 h3 h4 d1 d2 d3 d4 hsg hs
 cases lt with
 | true =>
   obtain⟨rfl,rfl⟩:=x1 rfl;clear x1 x2
   cases wd with
   | true =>
     go_enter Tryz.func64,Tryz.ntmps64
     go_wp2_with fail
     ((with_reducible refine HLT.out.mono ?_);rintro e w2 ⟨rfl,rfl⟩)
     go_wp2_with fail
     ((with_reducible refine HWD.out.mono ?_);rintro e w2 ⟨rfl,rfl⟩)
     go_wp2_with fail;exact bodyPost_ret (v:=.tuple #[.int .i64 2,.int .i64 2]) (by simp[results,Tryz.results64,go_sem]) rfl ⟨(by rw[HS.out];rfl),rfl⟩
   | false =>
     go_enter Tryz.func64,Tryz.ntmps64
     go_wp2_with fail
     ((with_reducible refine HLT.out.mono ?_);rintro e w2 ⟨rfl,rfl⟩)
     go_wp2_with fail
     ((with_reducible refine HWD.out.mono ?_);rintro e w2 ⟨rfl,rfl⟩)
     go_wp2_with fail
     ((with_reducible refine HGT.out.mono ?_);rintro e w2 ⟨rfl,rfl⟩)
     go_wp2_with fail
     ((with_reducible refine HLT.out.mono ?_);rintro e w2 ⟨rfl,rfl⟩)
     go_wp2_with fail;exact bodyPost_ret (v:=.tuple #[.int .i64 1,.int .i64 1]) (by simp[results,Tryz.results64,go_sem]) rfl ⟨(by rw[HS.out];rfl),rfl⟩
 | false =>
   clear x1
   cases gt with
   | true =>
     obtain rfl:=x2 rfl;clear x2
     cases wd with
     | true =>
       go_enter Tryz.func64,Tryz.ntmps64
       go_wp2_with fail
       ((with_reducible refine HLT.out.mono ?_);rintro e w2 ⟨rfl,rfl⟩)
       go_wp2_with fail
       ((with_reducible refine HGT.out.mono ?_);rintro e w2 ⟨rfl,rfl⟩)
       go_wp2_with fail
       ((with_reducible refine HWD.out.mono ?_);rintro e w2 ⟨rfl,rfl⟩)
       go_wp2_with fail;exact bodyPost_ret (v:=.tuple #[.int .i64 4,.int .i64 2]) (by simp[results,Tryz.results64,go_sem]) rfl ⟨(by rw[HS.out];rfl),rfl⟩
     | false =>
       go_enter Tryz.func64,Tryz.ntmps64
       go_wp2_with fail
       ((with_reducible refine HLT.out.mono ?_);rintro e w2 ⟨rfl,rfl⟩)
       go_wp2_with fail
       ((with_reducible refine HGT.out.mono ?_);rintro e w2 ⟨rfl,rfl⟩)
       go_wp2_with fail
       ((with_reducible refine HWD.out.mono ?_);rintro e w2 ⟨rfl,rfl⟩)
       go_wp2_with fail
       ((with_reducible refine HLT.out.mono ?_);rintro e w2 ⟨rfl,rfl⟩)
       go_wp2_with fail
       ((with_reducible refine HGT.out.mono ?_);rintro e w2 ⟨rfl,rfl⟩)
       go_wp2_with fail;exact bodyPost_ret (v:=.tuple #[.int .i64 5,.int .i64 1]) (by simp[results,Tryz.results64,go_sem]) rfl ⟨(by rw[HS.out];rfl),rfl⟩
   | false =>
     clear x2
     cases eq with
     | true =>
       go_enter Tryz.func64,Tryz.ntmps64
       go_wp2_with fail
       ((with_reducible refine HLT.out.mono ?_);rintro e w2 ⟨rfl,rfl⟩)
       go_wp2_with fail
       ((with_reducible refine HGT.out.mono ?_);rintro e w2 ⟨rfl,rfl⟩)
       go_wp2_with fail
       ((with_reducible refine HLT.out.mono ?_);rintro e w2 ⟨rfl,rfl⟩)
       go_wp2_with fail
       ((with_reducible refine HGT.out.mono ?_);rintro e w2 ⟨rfl,rfl⟩)
       go_wp2_with fail
       ((with_reducible refine HEQ.out.mono ?_);rintro e w2 ⟨rfl,rfl⟩)
       go_wp2_with fail;exact bodyPost_ret (v:=.tuple #[.int .i64 3,.int .i64 1]) (by simp[results,Tryz.results64,go_sem]) rfl ⟨(by rw[HS.out];rfl),rfl⟩
     | false =>
       go_enter Tryz.func64,Tryz.ntmps64
       go_wp2_with fail
       ((with_reducible refine HLT.out.mono ?_);rintro e w2 ⟨rfl,rfl⟩)
       go_wp2_with fail
       ((with_reducible refine HGT.out.mono ?_);rintro e w2 ⟨rfl,rfl⟩)
       go_wp2_with fail
       ((with_reducible refine HLT.out.mono ?_);rintro e w2 ⟨rfl,rfl⟩)
       go_wp2_with fail
       ((with_reducible refine HGT.out.mono ?_);rintro e w2 ⟨rfl,rfl⟩)
       go_wp2_with fail
       ((with_reducible refine HEQ.out.mono ?_);rintro e w2 ⟨rfl,rfl⟩)
       go_wp2_with fail;exact bodyPost_ret (v:=.tuple #[.int .i64 0,.int .i64 0]) (by simp[results,Tryz.results64,go_sem]) rfl ⟨(by rw[HS.out];rfl),rfl⟩
theorem Q4p (D:List (List UInt8)) (x:List UInt8) (v:Value) (w:World) (hz:Zs w v D) (hm:D.length≤8) :
  Calls Tryz.prog 63 #[v,.string ⟨x.toArray⟩] w fun e w'=>e=.returned (.bool (decide (x∈D)))∧w=w':=by
 obtain⟨oa,cap,rfl,hc⟩:=hz;obtain⟨N,hN⟩:∃ N,D.length=N:=⟨_,rfl⟩;rw[hN]at hm ⊢;have HD:=Q1 (Q3 hN hc);clear hN hc
 go_enter Tryz.func63,Tryz.ntmps63
 go_wp2_with fail
 go_loopg [9] N (fun q s9 wr=>∃ (i:Nat),s9=.int .i64 i∧wr=w∧Hid (∀ v∈D.take i,(x==v)=false)∧i≤N∧N-i≤q)
 case atStart=>exact⟨0,rfl,rfl,Q1 (fun v h=>by cases h),Qs _,Q6 _⟩
 case round =>
  obtain⟨i,rfl,rfl,hD,hiN,hq⟩:=hrel
  by_cases hi:i<N
  · have gi:decide ((i:Int)<(N:Int))=true:=by simpa using hi
    have gin:decide (i<N)=true:=by simpa using hi
    have ij0:(0:Int)≤(i:Int):=Int.natCast_nonneg _
    have ijN:(i:Int)<(N:Int):=by omega
    have hil:i<D.length:=by rw[HD.out.1];exact hi
    have hli:D[i]?=some D[i]:=Q9 hil;obtain⟨b,rfl,hcell⟩:=HD.out.2 (by rintro rfl;simp at hil);have f0:=hcell i _ hli;obtain⟨y,hy⟩:∃ y,D[i]=y:=⟨_,rfl⟩;rw[hy]at f0 hli;have HI:=Q1 hli;clear hli hy hil hcell
    by_cases hxy:x=y
    · have hr:decide (x∈D)=true:=by rw[decide_eq_true_eq,hxy];exact List.mem_of_getElem? HI.out
      have g0:(y==x)=true:=by simp[hxy]
      have HR:=Q1 hr;clear hr hxy;go_wp2_with fail;go_ret;exact⟨by rw[HR.out];rfl,rfl⟩
    · have g0:(x==y)=false:=by simpa using hxy
      have g1:(y==x)=false:=beq_eq_false_iff_ne.2 (Ne.symm hxy);have HT:=Q1 (Ws (p:=(x==·)) HI.out hD.out g0);clear hxy;go_wp2_with fail
      go_roundg (N-(i+1))
      case measure=>omega
      case rel=>exact⟨i+1,by go_num,rfl,HT,hi,Q6 _⟩
  · obtain rfl:i=N:=by omega
    have gi:decide ((i:Int)<(i:Int))=false:=by simp
    have gin:decide (i<i)=false:=by simp
    have hr:decide (x∈D)=false:=by
     rw[decide_eq_false_iff_not];intro hx;have:=hD.out x (by rwa [Zc];rw[HD.out.1];exact Q6 _);simp at this
    have HR:=Q1 hr;clear hr;go_wp2_with fail;go_ret;exact⟨by rw[HR.out];rfl,rfl⟩
theorem Q7k {w:World} {n:Nat} {b:Et} {bk bn bd bu:Int} {boa:Option Addr} {bL bc:Nat} (hB:Jk (· < n) b (.agg #[.int .i64 bk,.int .i64 bn,.int .i64 bd,.int .i64 bu,.slice boa bL bc]) w) (hn:n≤w.heap.size) :
  Jk (· < n) (.mk 5 0 0 0 [b]) (.agg #[.int .i64 5,.int .i64 0,.int .i64 0,.int .i64 0,.slice (some ⟨w.heap.size,0,none⟩) 1 1]) (w.alloc (.cells #[.int .i64 bk,.int .i64 bn,.int .i64 bd,.int .i64 bu,.slice boa bL bc] 32)):=by
 obtain⟨xb,hb,hvb,rfl,hsb⟩:=hB
 have eb:J6 xb=[.int .i64 bk,.int .i64 bn,.int .i64 bd,.int .i64 bu,.slice boa bL bc]:=by injection hvb with e;exact(congrArg Array.toList e).symm
 exact⟨_,_,rfl,by simp[Ex.c_mk],Ph (w:=w) (B:=n) (hh:=hb) (k:=5) [xb] _ (by simp[eb]) (Z1 _ (by decide)) (by simp) hn (hsb.mono fun w hw x hx=>by obtain rfl:=Qh.1 hx;exact hw)⟩
theorem Q5u {w:World} {n:Nat} {a b:Et} {ak an ad au bk bn bd bu:Int} {aoa boa:Option Addr} {aL ac bL bc:Nat} (hA:Jk (· < n) a (.agg #[.int .i64 ak,.int .i64 an,.int .i64 ad,.int .i64 au,.slice aoa aL ac]) w) (hB:Jk (· < n) b (.agg #[.int .i64 bk,.int .i64 bn,.int .i64 bd,.int .i64 bu,.slice boa bL bc]) w) (hn:n≤w.heap.size) :
  Jk (· < n) (.mk 4 0 0 0 [a,b]) (.agg #[.int .i64 4,.int .i64 0,.int .i64 0,.int .i64 0,.slice (some ⟨w.heap.size,0,none⟩) 2 2]) (w.alloc (.cells #[.int .i64 ak,.int .i64 an,.int .i64 ad,.int .i64 au,.slice aoa aL ac,.int .i64 bk,.int .i64 bn,.int .i64 bd,.int .i64 bu,.slice boa bL bc] 32)):=by
 obtain⟨xa,ha,hva,rfl,hsa⟩:=hA;obtain⟨xb,hb,hvb,rfl,hsb⟩:=hB
 have ea:J6 xa=[.int .i64 ak,.int .i64 an,.int .i64 ad,.int .i64 au,.slice aoa aL ac]:=by injection hva with e;exact(congrArg Array.toList e).symm
 have eb:J6 xb=[.int .i64 bk,.int .i64 bn,.int .i64 bd,.int .i64 bu,.slice boa bL bc]:=by injection hvb with e;exact(congrArg Array.toList e).symm
 exact ⟨_,_,rfl,by simp[Ex.c_mk],Ph (w:=w) (B:=n) (hh:=ha+hb) (k:=4) [xa,xb] _ (by simp[ea,eb]) (Z1 _ (by decide)) (by simp) hn ((hsa.and hsb).mono fun w hw x hx=>by
  rcases List.mem_cons.1 hx with rfl|hx
  · exact Zy.mono _ _ (by omega) hw.1
  · obtain rfl:=Qh.1 hx
    exact Zy.mono _ _ (by omega) hw.2)⟩
theorem Q1m {w:World} {n:Nat} {Y X1 X2:Option Et} {ak an ad au bk bn bd bu:Int} {aoa boa:Option Addr} {aL ac bL bc:Nat} (hY:(match X1,X2 with
   | some a,some b=>some (W3 a b)
   | _,_=>none)=Y) (hn:n≤w.heap.size) (hA:∀ E,X1=some E→Jk (· < n) E (.agg #[.int .i64 ak,.int .i64 an,.int .i64 ad,.int .i64 au,.slice aoa aL ac]) w)
  (hB:∀ E,X2=some E→Jk (· < n) E (.agg #[.int .i64 bk,.int .i64 bn,.int .i64 bd,.int .i64 bu,.slice boa bL bc]) w) :
  ∀ E,Y=some E→Jk (· < n) E (.agg #[.int .i64 4,.int .i64 0,.int .i64 0,.int .i64 0,.slice (some ⟨((w.alloc (.cells #[.int .i64 bk,.int .i64 bn,.int .i64 bd,.int .i64 bu,.slice boa bL bc] 32)).alloc (.cells #[.int .i64 5,.int .i64 0,.int .i64 0,.int .i64 0,.slice (some ⟨w.heap.size,0,none⟩) 1 1] 32)).heap.size,0,none⟩) 2 2]) (((w.alloc (.cells #[.int .i64 bk,.int .i64 bn,.int .i64 bd,.int .i64 bu,.slice boa bL bc] 32)).alloc (.cells #[.int .i64 5,.int .i64 0,.int .i64 0,.int .i64 0,.slice (some ⟨w.heap.size,0,none⟩) 1 1] 32)).alloc
   (.cells #[.int .i64 ak,.int .i64 an,.int .i64 ad,.int .i64 au,.slice aoa aL ac,.int .i64 5,.int .i64 0,.int .i64 0,.int .i64 0,.slice (some ⟨w.heap.size,0,none⟩) 1 1] 32)):=by
 intro E hE;rw[← hY]at hE
 cases X1 with
 | none=>cases hE
 | some a =>
   cases X2 with
   | none=>cases hE
   | some b =>
     obtain rfl:=Q8 hE;have h1:=Z2 w 32 #[.int .i64 bk,.int .i64 bn,.int .i64 bd,.int .i64 bu,.slice boa bL bc];have h2:=Z2 (w.alloc (.cells #[.int .i64 bk,.int .i64 bn,.int .i64 bd,.int .i64 bu,.slice boa bL bc] 32)) 32 #[.int .i64 5,.int .i64 0,.int .i64 0,.int .i64 0,.slice (some ⟨w.heap.size,0,none⟩) 1 1];have hi:=Q7k (hB b rfl) hn;have ha:=(hA a rfl).below h1.2
     have hs1:(w.alloc (.cells #[.int .i64 bk,.int .i64 bn,.int .i64 bd,.int .i64 bu,.slice boa bL bc] 32)).heap.size=w.heap.size+1:=by simp
     have hp:=Q5u (a:=a) (b:=.mk 5 0 0 0 [b]) (n:=n) ((ha.below h2.2).anti fun b hb=>Or.inl (Qg hb (by omega))) ((hi.below h2.2).anti fun b hb=>Or.inl (Qg hb (by omega))) (by rw[show (World.alloc _ _).heap.size=w.heap.size+2 by simp];omega);exact hp
theorem Nb (l:List Vt):Xn (Z9 l)=Xn l:=by unfold Xn;rw[V7]
theorem Oy (l:List Vt):(match Z9 l with
  | [v]=>v.tok.kind==10&&v.tok.num==(0,1)
  | _=>false)=Xn (Z9 l):=by
 rw[Nb];unfold Xn
 cases hb:Ue l with
 | nil =>
   match hT:Z9 l with
   | []=>rfl
   | [v] =>
     have h1:=V7 l;rw[hT,hb]at h1;obtain⟨t,k⟩:=v;unfold Ue at h1;simp[Ud]at h1;simp[Vt.tok,h1]
   | _::_::_=>rfl
 | cons v r =>
   cases r with
   | nil=>rw[Wr hb]
   | cons v2 r =>
     match hT:Z9 l with
     | []=>rfl
     | [x] =>
       have h1:=V7 l;rw[hT,hb]at h1;unfold Ue at h1;rw[List.filter_cons]at h1;split at h1<;>simp at h1
     | _::_::_=>rfl
section
variable (ex:Vt→Option Et)
theorem Q2j (l:List Vt):Ko ex (Z9 l)=Ko ex l:=by rw[← Dc ex (Z9 l),V7,Dc]
theorem Q0c (k:Int) (l:List Vt):Wy ex k (Z9 l)=Wy ex k l:=by rw[← Wx ex k (Z9 l),V7,Wx]
theorem Ai (n:List UInt8) (l:List Vt):Zm ex n (Z9 l)=Zm ex n l:=by unfold Zm;rw[Q2j,Nb,Q0c,Q0c]
end
theorem Q48 {h:Nat} {T:List Vt} (hm:Jf 64 T=true) {k:Int} (hk:k≠0):(Wy (Jx h) k T).isSome=(((Jz Ux h T).2==0)&&Pd 340 ((Jz Ux h T).1.getD Wn)&&(Jv ((Jz Ux h T).1.getD Wn)==k))∧∀ e,Wy (Jx h) k T=some e→(Jz Ux h T).1.getD Wn=e:=by
 rw[← Nw hm hk,← I9];have he:=Nt h T;unfold Sa;generalize Jz J0 h T=X at *;obtain⟨X1,X2⟩:=X
 cases X1 with
 | none =>
   have h2:=he.1 rfl;refine⟨?_,fun e h=>by cases h⟩;simp only at h2 ⊢;rw[beq_eq_false_iff_ne.2 h2];rfl
 | some e =>
   obtain rfl:=he.2 e rfl;simp only[Option.getD_some];unfold E4
   cases Pd 340 e with
   | false=>exact⟨by simp[Ne.symm hk],fun e2 h=>by simp[Ne.symm hk]at h⟩
   | true =>
     by_cases h0:Jv e=0
     · exact⟨by simp[h0,Ne.symm hk],fun e2 h=>by simp[h0,Ne.symm hk]at h⟩
     · by_cases h1:Jv e=k
       · exact⟨by simp[h1,hk],fun e2 h=>by simpa[h1,hk] using h⟩
       · exact⟨by simp[h0,h1],fun e2 h=>by simp[h0,h1]at h⟩
theorem Mz (h:Nat) (l:List Vl) (oa:Option Addr) (cap b o:Nat) (w:World) (hs:Zw w h oa cap b o l) (hm:Jf 64 (l.map Vl.c)=true) (n:List UInt8)
  (hrec:n=Vp→∀ (l:List Vl) (oa:Option Addr) (cap b o:Nat) (w:World),Zw w h oa cap b o l→Jf 64 (l.map Vl.c)=true→Calls Tryz.prog 61 #[.string ⟨#[]⟩,.slice oa l.length cap] w fun e w'=>Ys (· < w.heap.size) (Wy (Jx h) 1 (l.map Vl.c)) e w'∧Below w.heap.size w w') :
  Calls Tryz.prog 61 #[.string ⟨n.toArray⟩,.slice oa l.length cap] w fun e w'=>Ys (· < w.heap.size) (Zm (Jx h) n (l.map Vl.c)) e w'∧Below w.heap.size w w':=by
 obtain⟨Y,hY⟩:∃ Y,Zm (Jx h) n (l.map Vl.c)=Y:=⟨_,rfl⟩;rw[hY];rw[← Ai]at hY;obtain⟨h4,hb4⟩:=Z2 w 32 #[.int .i64 0,.int .i64 0,.int .i64 0,.int .i64 0,.slice none 0 0];have hs1:=hs.below hb4
 have hw1:(w.alloc (.cells #[.int .i64 0,.int .i64 0,.int .i64 0,.int .i64 0,.slice none 0 0] 32)).heap.size=w.heap.size+1:=by simp
 have ht:=Kx h l oa cap b o _ hs1;have hmT:=F2 hm;obtain⟨T,hT⟩:∃ T,Z9 (l.map Vl.c)=T:=⟨_,rfl⟩;rw[hT]at hmT hY
 have hDT:(V4 l).map Vl.c=T:=by rw[Cv,hT]
 have hz0:=Oy (l.map Vl.c);rw[hT]at hz0;have HZ0:=Q1 hz0;obtain⟨g,hg⟩:∃ g,w.heap.size=g:=⟨_,rfl⟩;have HG:=Q1 hg;rw[hg]at h4 hw1;have H4:=Q1 h4;have HB4:=Q1 hb4;have HW1:=Q1 hw1;have HS:=Q1 hs1;have HY:=Q1 hY;have HM:=Q1 hmT;have HR:=Q1 hrec;have HTR:=Q1 ht;clear hz0 hs hs1 h4 hb4 hw1 hY hm hT ht hmT hrec
 go_enter Tryz.func61,Tryz.ntmps61
 go_upto_region 1 with fail
 try simp only[hg]
 clear hg;generalize w.alloc _=w1 at *;go_wp2_with fail
 ((with_reducible refine HTR.out.mono ?_);rintro e w2 ⟨⟨oa2,cap2,o2,rfl,hd⟩,hb2⟩)
 have hd:=hd _ _ (HS.out.below hb2);have HB2:=J8 HB4 hb2;have H42:=Q1 (H4.out.below hb2 H4.out.lt);have hgl:=H42.out.lt;clear hb2 HTR HS HB4;generalize V4 l=D at *;obtain⟨N,hN⟩:∃ N,D.length=N:=⟨_,rfl⟩;have hcl:=hd.sl.le;have hcm:=hd.sl.max;unfold maxLen at hcm;rw[hN]at hcl ⊢;have HD:=Q1 hd;have HN:=Q1 (Q3 hN hDT);clear hd hN hDT;obtain⟨r,hr⟩:∃ r,(n==[97,115,112,101,99,116,45,114,97,116,105,111])=r:=⟨_,rfl⟩
 go_upto_region 2 with fail
 go_cut [20] from 19 to 20 (fun s wx=>s=.bool r∧w2=wx)
 case first =>
  go_wp2_with fail;go_meet;exact⟨by rw[← hr],rfl⟩
 obtain⟨rfl,rfl⟩:=hcut
 rename_i hK
 refine hK _ _ ?_;have hb22:=Below.refl w2.heap.size w2
 go_cut [] from 6 to 65 (fun wx=>Hid (Below w2.heap.size w2 wx)∧Hid (n=Vp→T.findIdx? (Zr Zi)=none))
 case first =>
  cases r with
  | false =>
    have hnr:n≠Vp:=beq_eq_false_iff_ne.1 hr;clear hr;go_wp2_with fail;go_meet;exact⟨Q1 hb22,Q1 fun h=>absurd h hnr⟩
  | true =>
    have hnr:n=Vp:=beq_iff_eq.1 hr;have HNR:=Q1 hnr;clear hr hnr;go_wp2_with fail
    go_loopg [23] N (fun q s23 wr=>∃ (i:Nat),s23=.int .i64 i∧Hid (Below w2.heap.size w2 wr)∧Hid (∀ v∈T.take i,Zr Zi v=false)∧i≤N∧N-i≤q)
    case atStart=>exact⟨0,rfl,Q1 hb22,Q1 (fun v h=>by cases h),Qs _,Q6 _⟩
    case round =>
     obtain⟨i,rfl,hB,hI,hiN,hq⟩:=hrel
     by_cases hi:i<N
     · have gi:decide ((i:Int)<(N:Int))=true:=by simpa using hi
       have gin:decide (i<N)=true:=by simpa using hi
       have ij0:(0:Int)≤(i:Int):=Int.natCast_nonneg _
       have ijN:(i:Int)<(N:Int):=by omega
       have hi63:(i:Int)+1≤9223372036854775807:=by omega
       have hil:i<D.length:=by rw[HN.out.1];exact hi
       have hli:D[i]?=some D[i]:=Q9 hil;obtain⟨x,hx⟩:∃ x,D[i]=x:=⟨_,rfl⟩;rw[hx]at hli
       have hTi:T[i]?=some x.c:=by rw[← HN.out.2,Z5,hli];rfl
       have hvs:=HD.out.below hB.out;obtain⟨rfl,hbl⟩:=hvs.sl.lies (by rw[HN.out.1];omega);obtain⟨⟨tk,tt,⟨tn,td⟩,ti,tid⟩,koa,kb,ko,kcap,kids⟩:=x;obtain⟨f0,f1,f2,f3,f4,f5,f6⟩:=hvs.row hli;obtain⟨K,hK⟩:∃ K,kids.length=K:=⟨_,rfl⟩;rw[hK]at f6;rw[Vl.c_mk]at hTi;have HTI:=Q1 hTi;clear hvs hli hil hx hTi hK
       go_upto_region 6 with fail
       obtain⟨h7,hb7⟩:=Z2 wr 28 #[.int .i64 tk,.string ⟨tt.toArray⟩,.int .i64 tn,.int .i64 td,.bool ti,.bool tid,.slice koa K kcap];have HB5:=Q1 (hB.out.trans (hb7.mono hB.out.size));clear hB hb7 f0 f1 f2 f3 f4 f5 f6;generalize wr.heap.size=g7 at *;generalize wr.alloc _=w5 at *;obtain⟨q0,fq0,q1,fq1,q2,fq2,q3,fq3,q4,fq4,q5,fq5,q6,fq6,lq⟩:=Ql.seven h7;clear h7;obtain⟨d1,p1⟩:∃ c,(tk==9)=c:=⟨_,rfl⟩;obtain⟨d2,p2⟩:∃ c,(tt==[47])=c:=⟨_,rfl⟩
       have hdv:Zr Zi (.mk ⟨tk,tt,(tn,td),ti,tid⟩ (kids.map Vl.c))=(d1&&d2):=by rw[← p1,← p2];rfl
       have HDV:=Q1 hdv;clear hdv
       rcases(show (d1=true∧d2=true)∨(d1=true∧d2=false)∨d1=false by cases d1<;>cases d2<;>simp) with ⟨rfl,rfl⟩ | ⟨rfl,rfl⟩ | rfl
       rotate_left 1
       · go_wp2_with fail
         go_roundg (N-(i+1))
         case measure=>omega
         case rel=>exact⟨i+1,by go_num,HB5,Q1 (Ws HTI.out hI.out HDV.out),hi,Q6 _⟩
       · go_wp2_with fail
         go_roundg (N-(i+1))
         case measure=>omega
         case rel=>exact⟨i+1,by go_num,HB5,Q1 (Ws HTI.out hI.out HDV.out),hi,Q6 _⟩
       have hfi:=Pk hI.out HTI.out HDV.out;have hY:=HY.out;rw[HNR.out]at hY;unfold Zm Ko at hY;rw[if_pos rfl,hfi]at hY;have HD5:=Q1 (HD.out.below HB5.out);have hm1:=(Uh HM.out i).1;have hm2:=(Uh HM.out (i+1)).2;obtain⟨oa1,cap1,o1,hr1,hv1⟩:=Wt HD5.out HN.out.1 (Zg hi);obtain⟨oa3,cap3,o3,hr2,hv2⟩:=Xo HD5.out HN.out.1 hi
       have e1:(D.take i).map Vl.c=T.take i:=by rw[← HN.out.2,List.map_take]
       have e2:(D.drop (i+1)).map Vl.c=T.drop (i+1):=by rw[← HN.out.2,List.map_drop]
       have hs2:=fun w=>hr2 ((i:Int)+1) w (by omega)
       have hs1:=fun w=>hr1 (i:Int) w rfl
       have HY2:=Q1 (show (match Wy (Jx h) 1 (T.take i),Wy (Jx h) 1 (T.drop (i+1)) with
        | some a,some b=>some (W3 a b)
        | _,_=>none)=Y from hY)
       obtain⟨X1,hX1⟩:∃ X,Wy (Jx h) 1 (T.take i)=X:=⟨_,rfl⟩;obtain⟨X2,hX2⟩:∃ X,Wy (Jx h) 1 (T.drop (i+1))=X:=⟨_,rfl⟩;rw[hX1,hX2]at HY2
       have hp1:=fun wx (hx:Below w5.heap.size w5 wx)=>HR.out HNR.out (D.take i) oa1 cap1 _ o1 wx (hv1 _ (HD5.out.below hx)) (by rw[e1];exact hm1)
       have hp2:=fun wx (hx:Below w5.heap.size w5 wx)=>HR.out HNR.out (D.drop (i+1)) oa3 cap3 _ o3 wx (hv2 _ (HD5.out.below hx)) (by rw[e2];exact hm2)
       rw[e1,hX1]at hp1;rw[e2,hX2]at hp2;generalize D.take i=D1 at *;generalize D.drop (i+1)=D2 at *;have HP1:=Q1 hp1;have HP2:=Q1 hp2;have H45:=Q1 (H42.out.below HB5.out H42.out.lt);have HB6:=J8 HB2 HB5.out;have hg5:=H45.out.lt;clear hr1 hr2 hfi hY hm1 hm2 hv1 hv2 e1 e2 hX1 hX2 hp1 hp2 hI HDV HTI HD5;go_wp2_with fail
       ((with_reducible refine(HP1.out _ (Below.refl _ _)).mono ?_);rintro e w6 ⟨⟨v,ok1,rfl,hok1,⟨ak,an,ad,au,aoa,aL,ac,rfl⟩,hE1⟩,hb6⟩)
       have HE1:=Q1 (Q3 hok1 hE1);have h46:=H45.out.below hb6 H45.out.lt;have HB7:=J8 HB6 hb6;have hw56:=hb6.size;have HX6:=Q1 hb6;clear hb6 hok1 hE1
       go_upto_region 8 with fail
       obtain⟨h8,hb8⟩:=Z2 w6 32 #[.int .i64 ak,.int .i64 an,.int .i64 ad,.int .i64 au,.slice aoa aL ac];have H48:=Q1 (h46.below hb8 h46.lt);have HB8:=J8 HB7 hb8;have HE2:=Q1 (Q3 HE1.out.1 fun E hE=>(HE1.out.2 E hE).below hb8);have HP3:=Q1 (HP2.out _ (HX6.out.trans (hb8.mono hw56)));have hw68:=hb8.size;clear h46 hb8 HP1 HP2 HE1 HB7 HX6;generalize w6.heap.size=g8 at *;generalize w6.alloc _=w8 at *;have H8:=Q1 h8;clear h8;go_wp2_with fail
       ((with_reducible refine HP3.out.mono ?_);rintro e w9 ⟨⟨v,ok2,rfl,hok2,⟨bk,bn,bd,bu,boa,bL,bc,rfl⟩,hE2⟩,hb9⟩)
       have H89:=Q1 (H8.out.below hb9 H8.out.lt);have h49:=H48.out.below hb9 H48.out.lt;have HE3:=Q1 (Q3 (Q3 HE2.out.1 hok2) (Q3 (fun E hE=>(HE2.out.2 E hE).below hb9) hE2));have HB9:=J8 HB8 hb9;have hw89:=hb9.size;clear hb9 hok2 hE2 HE2 HP3 H8 H48 HB8
       go_upto_region 9 with fail
       obtain⟨h10,hb10⟩:=Z2 w9 32 #[.int .i64 bk,.int .i64 bn,.int .i64 bd,.int .i64 bu,.slice boa bL bc];have h410:=h49.below hb10 h49.lt;have h810:=H89.out.below hb10 H89.out.lt;have HB10:=J8 HB9 hb10
       have hn9:g+1≤w9.heap.size:=by omega
       have HE4:=Q1 (show (ok1=X1.isSome∧ok2=X2.isSome)∧(∀ E,X1=some E→Jk (· < g+1) E (.agg #[.int .i64 ak,.int .i64 an,.int .i64 ad,.int .i64 au,.slice aoa aL ac]) _)∧∀ E,X2=some E→Jk (· < g+1) E (.agg #[.int .i64 bk,.int .i64 bn,.int .i64 bd,.int .i64 bu,.slice boa bL bc]) _ from
        ⟨HE3.out.1,fun E hE=>((HE3.out.2.1 E hE).below hb10).anti fun b hb=>Or.inl (show b<w5.heap.size by have hb:b<g+1:=hb;omega),fun E hE=>((HE3.out.2.2 E hE).below hb10).anti fun b hb=>Or.inl (show b<w8.heap.size by have hb:b<g+1:=hb;omega)⟩)
       have hw10:=hb10.size
       have hne:w9.heap.size≠g8:=by have:=H89.out.lt;omega
       clear h49 hb10 H89 HE3 HB9;generalize w9.heap.size=g10 at *;generalize w9.alloc _=w10 at *;obtain⟨x0,y0,x1,y1,x2,y2,x3,y3,x4,y4,l10⟩:=Ql.five h10;have H4t:=Q1 (Q3 h410 h810);clear h410 h810 h10
       go_upto_region 10 with fail
       have HF:=Q1 (Q1m (w:=w10) (n:=g+1) HY2.out (show g+1≤w10.heap.size by omega) HE4.out.2.1 HE4.out.2.2)
       have hs12:(w10.alloc (.cells #[.int .i64 bk,.int .i64 bn,.int .i64 bd,.int .i64 bu,.slice boa bL bc] 32)).heap.size=w10.heap.size+1:=by simp
       obtain⟨hB1,hbB1⟩:=Z2 w10 32 #[.int .i64 bk,.int .i64 bn,.int .i64 bd,.int .i64 bu,.slice boa bL bc];obtain⟨h12,hb12⟩:=Z2 (w10.alloc (.cells #[.int .i64 bk,.int .i64 bn,.int .i64 bd,.int .i64 bu,.slice boa bL bc] 32)) 32 #[.int .i64 5,.int .i64 0,.int .i64 0,.int .i64 0,.slice (some ⟨w10.heap.size,0,none⟩) 1 1];rw[hs12]at h12 hb12;have hb12:=hbB1.trans (hb12.mono (Zk _));have H412:=Q1 (H4t.out.1.below hb12 H4t.out.1.lt);obtain⟨d0,e0,d1,e1,d2,e2,d3,e3,d4,e4,l7⟩:=Ql.five (H4t.out.2.below hb12 H4t.out.2.lt);have HB12:=J8 HB10 hb12;have hw12:=hb12.size;clear hs1 hs2 q0 fq0 q1 fq1 q2 fq2 q3 fq3 q4 fq4 q5 fq5 q6 fq6 lq p1 p2 kids hb12 hbB1 hB1 hs12 x0 y0 x1 y1 x2 y2 x3 y3 x4 y4 l10 H4t HB10;generalize w10.heap.size=g11 at *;generalize (w10.alloc _).alloc _=w12 at *;obtain⟨x0,y0,x1,y1,x2,y2,x3,y3,x4,y4,l10⟩:=Ql.five h12;clear h12
       go_upto_region 11 with fail
       have hs12:(w12.alloc (.cells #[.int .i64 ak,.int .i64 an,.int .i64 ad,.int .i64 au,.slice aoa aL ac,.int .i64 5,.int .i64 0,.int .i64 0,.int .i64 0,.slice (some ⟨g11,0,none⟩) 1 1] 32)).heap.size=w12.heap.size+1:=by simp
       obtain⟨hB1,hbB1⟩:=Z2 w12 32 #[.int .i64 ak,.int .i64 an,.int .i64 ad,.int .i64 au,.slice aoa aL ac,.int .i64 5,.int .i64 0,.int .i64 0,.int .i64 0,.slice (some ⟨g11,0,none⟩) 1 1];obtain⟨h14,hb14⟩:=Z2 (w12.alloc (.cells #[.int .i64 ak,.int .i64 an,.int .i64 ad,.int .i64 au,.slice aoa aL ac,.int .i64 5,.int .i64 0,.int .i64 0,.int .i64 0,.slice (some ⟨g11,0,none⟩) 1 1] 32)) 32 #[.int .i64 4,.int .i64 0,.int .i64 0,.int .i64 0,.slice (some ⟨w12.heap.size,0,none⟩) 2 2];rw[hs12]at h14
       have hne2:w12.heap.size+1≠g:=by omega
       have hf:=fun E hE=>(HF.out E hE).below hb14
       have hb14:=hbB1.trans (hb14.mono (by rw[hs12];exact Zk _));have h414:=H412.out.below hb14 H412.out.lt;have HB14:=J8 HB12 hb14;have HF2:=Q1 hf;clear hb14 hbB1 hB1 hs12 x0 y0 x1 y1 x2 y2 x3 y3 x4 y4 l10 H412 HB12 HF hf d0 e0 d1 e1 d2 e2 d3 e3 d4 e4 l7;generalize w12.heap.size=g13 at *;generalize (w12.alloc _).alloc _=w14 at *;obtain⟨c0,f0,c1,f1,c2,f2,c3,f3,c4,f4,l4⟩:=Ql.five h414;obtain⟨x0,y0,x1,y1,x2,y2,x3,y3,x4,y4,l10⟩:=Ql.five h14;have H414:=Q1 h414;clear h14 h414;have HE5:=Q1 HE4.out.1;have HY6:=Q1 (show (ok1&&ok2)=Y.isSome by rw[HE4.out.1.1,HE4.out.1.2,← HY2.out];cases X1<;>cases X2<;>rfl);clear HE4
       cases ok1
       · go_wp2_with fail;have hputs:=(H414.out).put5 (.int .i64 4) (.int .i64 0) (.int .i64 0) (.int .i64 0) (.slice (some ⟨g13,0,none⟩) 2 2);refine bodyPost_ret (v:=.tuple #[.agg #[.int .i64 4,.int .i64 0,.int .i64 0,.int .i64 0,.slice (some ⟨g13,0,none⟩) 2 2],.bool false]) ?_ rfl ?_
         · refine Zj Tryz.results61 ?_ ?_ hputs rfl
           all_goals rfl
         · exact Yg HB14.out (Qr HG.out) (Nat.lt_succ_self g) HY6.out HF2.out
       · go_wp2_with fail;have hputs:=(H414.out).put5 (.int .i64 4) (.int .i64 0) (.int .i64 0) (.int .i64 0) (.slice (some ⟨g13,0,none⟩) 2 2);refine bodyPost_ret (v:=.tuple #[.agg #[.int .i64 4,.int .i64 0,.int .i64 0,.int .i64 0,.slice (some ⟨g13,0,none⟩) 2 2],.bool ok2]) ?_ rfl ?_
         · refine Zj Tryz.results61 ?_ ?_ hputs rfl
           all_goals rfl
         · exact Yg HB14.out (Qr HG.out) (Nat.lt_succ_self g) HY6.out HF2.out
     · obtain rfl:i=N:=by omega
       have gi:decide ((i:Int)<(i:Int))=false:=by simp
       have gin:decide (i<i)=false:=by simp
       have hnone:T.findIdx? (Zr Zi)=none:=by
        rw[List.findIdx?_eq_none_iff];intro v hv;refine hI.out v ?_;rwa [Zc];rw[← HN.out.2,Qj,HN.out.1];exact Q6 _
       have HNO:=Q1 hnone;clear hnone;go_wp2_with fail;go_meet;exact⟨hB,Q1 fun _=>HNO.out⟩
 case rest =>
  have HB3:=J8 HB2 hcut.1.out;have H43:=Q1 (H42.out.below hcut.1.out hgl);have hg3:=H43.out.lt;have hp:=P4 h D oa2 cap2 b o2 wc (HD.out.below hcut.1.out);rw[HN.out.2,HN.out.1]at hp;have hdc:=Q1 (HD.out.below hcut.1.out);obtain⟨q1,p1⟩:∃ c,(n==[119,105,100,116,104])=c:=⟨_,rfl⟩;obtain⟨q2,p2⟩:∃ c,(n==[104,101,105,103,104,116])=c:=⟨_,rfl⟩
  have hY2:(if (q1||q2)=true then (if Xn T then some Es else Wy (Jx h) 2 T) else Wy (Jx h) 1 T)=Y:=by
   rw[← HY.out];unfold Zm
   by_cases hr:n=Vp
   · rw[if_pos hr];unfold Ko;rw[hcut.2.out hr,← p1,← p2,hr];rfl
   · rw[if_neg hr,← p1,← p2]
     by_cases h1:n=Js
     · subst h1;rfl
     · by_cases h2:n=Uy
       · subst h2;rfl
       · rw[if_neg (by rw[show (n==[119,105,100,116,104])=false from beq_eq_false_iff_ne.2 h1,show (n==[104,101,105,103,104,116])=false from beq_eq_false_iff_ne.2 h2];decide),if_neg (by rintro(h|h);exact h1 h;exact h2 h)]
  have HY2:=Q1 hY2
  have hof:=fun k hk=>Q48 (h:=h) (T:=T) HM.out (k:=k) hk
  generalize Jz Ux h T=X at *;obtain⟨X1,X2⟩:=X;obtain⟨E,hE⟩:∃ E,X1.getD Wn=E:=⟨_,rfl⟩;unfold Q5t at hp;simp only[hE]at hp hof;have HP:=Q1 hp;have HOF:=Q1 hof;clear hp hof hE hY2 hr hK hd HD HB2 H42 hcut HY hb22 HR HM;go_wp2_with fail
  ((with_reducible refine HP.out.mono ?_);rintro e w4 ⟨⟨v,rfl,x,hh,rfl,hxc,hxs⟩,hb4⟩)
  have hmc:=fun w3 (hb:Bel w4 w3)=>Q1n hh x w3 (hxs.here.below hh (w':=w3) hb.out)
  have hkc:=fun w3 (hb:Bel w4 w3)=>Q1j hh x w3 (hxs.here.below hh (w':=w3) hb.out)
  rw[Ip,hxc]at hmc;rw[hxc]at hkc;have HE:=Q1 (show Jk (· < wc.heap.size) E (xv x) w4 from ⟨x,hh,rfl,hxc,hxs⟩);have h44:=H43.out.below hb4 hg3;have HB4:=J8 HB3 hb4;have HDD:=Q1 (hdc.out.below hb4);have hw4:=hb4.size;clear hxs hxc hb4 HP HB3 H43 hdc;obtain⟨vk,vn,vd,vu,voa,vb,vo,vcap,kids⟩:=x;obtain⟨K,hK⟩:∃ K,kids.length=K:=⟨_,rfl⟩;simp only[Vr,hK]at hmc hkc HE ⊢;have HMC:=Q1 hmc;have HKC:=Q1 hkc;clear hK hmc hkc
  go_upto_region 14 with fail
  obtain⟨h6,hb5⟩:=Z2 w4 32 #[.int .i64 vk,.int .i64 vn,.int .i64 vd,.int .i64 vu,.slice voa K vcap];have H44:=Q1 (h44.below hb5 h44.lt);have HB5:=J8 HB4 hb5;have HE5:=Q1 (HE.out.below hb5);have hd5:=HDD.out.below hb5;have HMC5:=Q1 (fun w3 (hb:Bel _ w3)=>HMC.out w3 ⟨hb5.trans (hb.out.mono hb5.size)⟩);have HKC5:=Q1 (fun w3 (hb:Bel _ w3)=>HKC.out w3 ⟨hb5.trans (hb.out.mono hb5.size)⟩);have hw5:=hb5.size
  have hgv:g≠w4.heap.size:=by have:=h44.lt;omega
  have hwg:wc.heap.size≤w4.heap.size:=hw4;clear h44 hb5 HB4 HE HDD HMC HKC;generalize w4.heap.size=vg at *;generalize w4.alloc _=w5 at *;have H6:=Q1 h6;have hg6:=h6.lt;clear h6
  go_cut [16] from 16 to 16 (fun s wx=>s=.int .i64 1∧w5=wx)
  case first =>
   go_wp2_with fail;go_meet;exact⟨rfl,rfl⟩
  obtain⟨rfl,rfl⟩:=hcut
  rename_i hK
  refine hK _ _ ?_
  apply wp_seq_k
  intro K0 hK0;have hb55:=Below.refl w5.heap.size w5
  go_cut [16] from 71 to 96 (fun s wx=>Hid (Below w5.heap.size w5 wx)∧∃ k:Int,s=.int .i64 k∧Hid (k≠0∧Wy (Jx h) k T=Y))
  case first =>
   obtain⟨z,hz⟩:∃ z,Xn T=z:=⟨_,rfl⟩;rw[hz]at HY2 HZ0
   have hzD:(match D.map Vl.c with
    | [v]=>v.tok.kind==10&&v.tok.num==(0,1)
    | _=>false)=z:=by rw[HN.out.2];exact HZ0.out
   have HZD:=Q1 hzD;have HM:=Q1 HN.out.1;have HD:=Q1 hd5;have HBB:=Q1 hb55;clear hz hzD HZ0 hd5 hb55 HMC5 HKC5 HE5 HOF H6
   cases q1<;>cases q2
   · go_wp2_with fail;go_meet;exact⟨HBB,1,rfl,Q1 ⟨by decide,HY2.out⟩⟩
   all_goals
    have HY3:=Q1 (show (if z=true then some Es else Wy (Jx h) 2 T)=Y from HY2.out);clear HY2
    go_upto_region 17 with fail
    clear p1 p2
    go_cut [96] from 77 to 96 (fun s wx=>s=.bool z∧Hid (Below w5.heap.size w5 wx))
    case first =>
     by_cases hN:N=1
     · subst hN;obtain⟨x,rfl⟩:=Zo.1 HM.out;obtain⟨⟨tk,tt,⟨tn,td⟩,ti,tid⟩,koa,kb,ko,kcap,kids⟩:=x;have hd:=HD.out;obtain⟨f0,f1,f2,f3,f4,f5,f6⟩:=hd.row (i:=0) rfl;obtain⟨rfl,hbl⟩:=hd.sl.lies (by simp)
       have hz:(tk==10&&(tn,td)==(0,1))=z:=by rw[← HZD.out];simp only[List.map_cons,List.map_nil,Vl.c_mk];rfl
       simp only[Nat.zero_mul,Nat.add_zero,Nat.zero_add]at f0 f1 f2 f3 f4 f5 f6;clear hd HD HZD HM f4 f5 f6 f1
       by_cases hk:tk=10
       · subst hk;have HZ3:=Q1 (show ((tn,td)==(0,1))=z from hz);clear hz
         by_cases hn0:tn=0
         · subst hn0
           by_cases hd1:td=1
           · subst hd1;refine Qx (by kernel_rfl) (by kernel_rfl) ?_
             repeat (go_big_quiet_step ((first | (go_at_call 71;with_reducible exact Vg (Cc 0 _)))))
             refine wpQuiet_nil ?_;rintro _ ⟨m,rfl⟩;go_wp2_with fail;go_meet;exact⟨by rw[← HZ3.out];rfl,Q1 (Qa HBB.out _)⟩
           · have gd1:(td==1)=false:=beq_eq_false_iff_ne.2 hd1;refine Qx (by kernel_rfl) (by kernel_rfl) ?_
             repeat (go_big_quiet_step ((first | (go_at_call 71;with_reducible exact Vg (Cc 0 _)))))
             refine wpQuiet_nil ?_;rintro _ ⟨m,rfl⟩;go_wp2_with fail;go_meet;exact⟨by rw[← HZ3.out];simp[hd1],Q1 (Qa HBB.out _)⟩
         · have gn0:(tn==0)=false:=beq_eq_false_iff_ne.2 hn0;refine Qx (by kernel_rfl) (by kernel_rfl) ?_
           repeat (go_big_quiet_step ((first | (go_at_call 71;with_reducible exact Vg (Cc 0 _)))))
           refine wpQuiet_nil ?_;rintro _ ⟨m,rfl⟩;go_wp2_with fail;go_meet;exact⟨by rw[← HZ3.out];simp[hn0],Q1 (Qa HBB.out _)⟩
       · have gk:(tk==10)=false:=beq_eq_false_iff_ne.2 hk;rw[gk]at hz;obtain rfl:false=z:=hz;refine Qx (by kernel_rfl) (by kernel_rfl) ?_
         repeat (go_big_quiet_step (fail))
         refine wpQuiet_nil ?_;rintro _ ⟨m,rfl⟩;go_wp2_with fail;go_meet;exact⟨rfl,Q1 (Qa HBB.out _)⟩
     · obtain rfl:false=z:=by
        rw[← HZD.out]
        match D,(show D.length≠1 by rw[HM.out];exact hN) with
        | [],_=>rfl
        | [_],h=>exact absurd rfl h
        | _::_::_,_=>rfl
       have gk:((N:Int)==(1:Int))=false:=by rw[beq_eq_false_iff_ne];omega
       clear HM HD HZD;refine Qx (by kernel_rfl) (by kernel_rfl) ?_
       repeat (go_big_quiet_step (fail))
       refine wpQuiet_nil ?_;rintro _ ⟨m,rfl⟩;go_wp2_with fail;go_meet;exact⟨rfl,Q1 (Qa HBB.out _)⟩
    case rest =>
     obtain⟨rfl,hBx⟩:=hcut
     cases z with
     | true =>
       obtain rfl:some Es=Y:=HY3.out;have H45:=Q1 (H44.out.below hBx.out H44.out.lt);have HB6:=J8 HB5 hBx.out;clear HY3 H44 HB5;go_wp2_with fail
       ((with_reducible refine(Cc 0 _).mono ?_);rintro e w' ⟨rfl,hbw⟩)
       obtain⟨m,rfl⟩:=Qf hbw;clear hbw;obtain⟨c0,f0,c1,f1,c2,f2,c3,f3,c4,f4,l4⟩:=Ql.five (H45.out.grow m);go_wp2_with fail;have hputs:=(H45.out.grow m).put5 (.int .i64 1) (.int .i64 0) (.int .i64 1) (.int .i64 1) (.slice none 0 0);refine bodyPost_ret (v:=.tuple #[.agg #[.int .i64 1,.int .i64 0,.int .i64 1,.int .i64 1,.slice none 0 0],.bool true]) ?_ rfl ?_
       · refine Zj Tryz.results61 ?_ ?_ hputs rfl
         all_goals rfl
       · exact Yg (Qa HB6.out m) (Qr HG.out) (Nat.lt_succ_self g) rfl fun E hE=>by obtain rfl:=Q8 hE;exact⟨.mk 1 0 1 1 none 0 0 0 [],1,rfl,rfl,Zy.leaf (Z1 _ (by decide)) (by unfold U2;decide) (Z1 _ (by decide))⟩
     | false =>
       have HY4:=Q1 (show Wy (Jx h) 2 T=Y from HY3.out);clear HY3;go_wp2_with fail;go_meet;exact⟨hBx,2,rfl,Q1 ⟨by decide,HY4.out⟩⟩
  case rest =>
   obtain⟨hB,k,rfl,hkY⟩:=hcut;have H45:=Q1 (H44.out.below hB.out H44.out.lt);have h65:=H6.out.below hB.out H6.out.lt;have HB6:=J8 HB5 hB.out;have hof:=HOF.out k hkY.out.1;rw[hkY.out.2]at hof;have HMC6:=Q1 (fun w3 (hb:Bel wc w3)=>HMC5.out w3 ⟨hB.out.trans (hb.out.mono hB.out.size)⟩);have HKC6:=Q1 (fun w3 (hb:Bel wc w3)=>HKC5.out w3 ⟨hB.out.trans (hb.out.mono hB.out.size)⟩)
   have HE6:=Q1 (show ∀ E',Y=some E'→Jk (· < g+1) E' (.agg #[.int .i64 vk,.int .i64 vn,.int .i64 vd,.int .i64 vu,.slice voa K vcap]) wc from fun E' hE=>by
    obtain rfl:=hof.2 E' hE
    exact(HE5.out.below hB.out).anti fun b hb=>Or.inl (Qg hb hg3))
   have HO:=Q1 hof.1;obtain⟨c0,-,c1,-,c2,-,c3,-,c4,-,-⟩:=Ql.five h65;have hg7:=h65.lt;have KEEP:=Q1 (show ∀ wx,Bel wc wx→wx.cell? ⟨vg,0,none⟩=some (.int .i64 vk)∧wx.cell? ⟨vg,1,none⟩=some (.int .i64 vn)∧wx.cell? ⟨vg,2,none⟩=some (.int .i64 vd)∧wx.cell? ⟨vg,3,none⟩=some (.int .i64 vu)∧wx.cell? ⟨vg,4,none⟩=some (.slice voa K vcap) from fun wx hx=>⟨(Below.cell hx.out (p:=⟨vg,0,none⟩) hg7).trans c0,(Below.cell hx.out (p:=⟨vg,1,none⟩) hg7).trans c1,(Below.cell hx.out (p:=⟨vg,2,none⟩) hg7).trans c2,(Below.cell hx.out (p:=⟨vg,3,none⟩) hg7).trans c3,(Below.cell hx.out (p:=⟨vg,4,none⟩) hg7).trans c4⟩);clear h65 hof HOF HMC5 HKC5 HE5 hb55 hK hd5 H6 H44 HB5 HY2 p1 p2 HZ0 hB hkY;generalize Pd 340 E=M at *;generalize Jv E=kk at *;obtain⟨x0,hx0⟩:∃ c,(X2==0)=c:=⟨_,rfl⟩;rw[hx0]at HO;refine hK0 _ _ ?_
   go_upto_region 19 with fail
   have hgv2:¬ vg=g:=fun h=>hgv h.symm
   refine wp_region_held_drew (S:=(fun wx=>wx.cell? ⟨vg,0,none⟩=some (.int .i64 vk)∧wx.cell? ⟨vg,1,none⟩=some (.int .i64 vn)∧wx.cell? ⟨vg,2,none⟩=some (.int .i64 vd)∧wx.cell? ⟨vg,3,none⟩=some (.int .i64 vu)∧wx.cell? ⟨vg,4,none⟩=some (.slice voa K vcap))) (by kernel_rfl) (by (try dsimp only);go_keep) (fun hHeld=>?_);have HL7:=Q1 (show Below wc.heap.size wc wc.drew from (Below.refl _ _).drew);generalize wc.drew=w7 at *;refine wpAnyH_take (i:=0) (v:=?hvv0_1) rfl (by kernel_rfl) (by kernel_rfl) (by kernel_rfl) (fun _ _ _ h=>h) (Or.inl ⟨by rfl,?hhy0_1⟩) (by assumption) ?_
   case hhy0_1=>(intro w hSw;(try dsimp only at hSw);go_simp;try with_reducible rfl)
   change wpAnyH _ _ _ _ _ _ _ (Act.put _ (some 99) _) _
   try simp only[Act.put,Q2,Q4,Q5]
   refine wpAnyH_take (i:=1) (v:=?hvv1_2) rfl (by kernel_rfl) (by kernel_rfl) (by kernel_rfl) (fun _ _ _ h=>h) (Or.inl ⟨by rfl,?hhy1_2⟩) (by assumption) ?_
   case hhy1_2=>(intro w hSw;(try dsimp only at hSw);go_simp;try with_reducible rfl)
   change wpAnyH _ _ _ _ _ _ _ (Act.put _ (some 100) _) _
   try simp only[Act.put,Q2,Q4,Q5]
   refine wpAnyH_take (i:=2) (v:=?hvv2_3) rfl (by kernel_rfl) (by kernel_rfl) (by kernel_rfl) (fun _ _ _ h=>h) (Or.inl ⟨by rfl,?hhy2_3⟩) (by assumption) ?_
   case hhy2_3=>(intro w hSw;(try dsimp only at hSw);go_simp;try with_reducible rfl)
   change wpAnyH _ _ _ _ _ _ _ (Act.put _ (some 101) _) _
   try simp only[Act.put,Q2,Q4,Q5]
   refine wpAnyH_take (i:=3) (v:=?hvv3_4) rfl (by kernel_rfl) (by kernel_rfl) (by kernel_rfl) (fun _ _ _ h=>h) (Or.inl ⟨by rfl,?hhy3_4⟩) (by assumption) ?_
   case hhy3_4=>(intro w hSw;(try dsimp only at hSw);go_simp;try with_reducible rfl)
   change wpAnyH _ _ _ _ _ _ _ (Act.put _ (some 102) _) _
   try simp only[Act.put,Q2,Q4,Q5]
   cases x0 with
   | false =>
     have H47:=Q1 (H45.out.below HL7.out H45.out.lt);obtain⟨z0,y0,z1,y1,z2,y2,z3,y3,z4,y4,zl⟩:=Ql.five H47.out;refine wpAnyH_take (i:=4) (v:=undef) rfl (by kernel_rfl) (by kernel_rfl) (by kernel_rfl) (fun _ _ _ h=>h) (Or.inr ⟨by rfl,rfl⟩) (by assumption) ?_;change wpAnyH _ _ _ _ _ _ _ (Act.put _ (some 103) _) _
     try simp only[Act.put,Q2,Q4,Q5]
     refine wpAnyH_take (i:=5) (v:=undef) rfl (by kernel_rfl) (by kernel_rfl) (by kernel_rfl) (fun _ _ _ h=>h) (Or.inr ⟨by rfl,rfl⟩) (by assumption) ?_;change wpAnyH _ _ _ _ _ _ _ (Act.put _ (some 104) _) _
     try simp only[Act.put,Q2,Q4,Q5]
     refine wpAnyH_take (i:=6) (v:=?hvv6_5) rfl (by kernel_rfl) (by kernel_rfl) (by kernel_rfl) (fun _ _ _ h=>h) (Or.inl ⟨by rfl,?hhy6_5⟩) (by assumption) ?_
     case hhy6_5=>(intro w hSw;(try dsimp only at hSw);go_simp;try with_reducible rfl)
     change wpAnyH _ _ _ _ _ _ _ (Act.put _ (some 105) _) _
     try simp only[Act.put,Q2,Q4,Q5]
     refine wpAnyH_take (i:=7) (v:=?hvv7_6) rfl (by kernel_rfl) (by kernel_rfl) (by kernel_rfl) (fun _ _ _ h=>h) (Or.inl ⟨by rfl,?hhy7_6⟩) (by assumption) ?_
     case hhy7_6=>(intro w hSw;(try dsimp only at hSw);go_simp;try with_reducible rfl)
     change wpAnyH _ _ _ _ _ _ _ (Act.put _ (some 106) _) _
     try simp only[Act.put,Q2,Q4,Q5]
     refine wpAnyH_take (i:=8) (v:=undef) rfl (by kernel_rfl) (by kernel_rfl) (by kernel_rfl) (fun _ _ _ h=>h) (Or.inr ⟨by rfl,rfl⟩) (by assumption) ?_;change wpAnyH _ _ _ _ _ _ _ (Act.put _ (some 107) _) _
     try simp only[Act.put,Q2,Q4,Q5]
     refine wpAnyH_take (i:=9) (v:=undef) rfl (by kernel_rfl) (by kernel_rfl) (by kernel_rfl) (fun _ _ _ h=>h) (Or.inr ⟨by rfl,rfl⟩) (by assumption) ?_;change wpAnyH _ _ _ _ _ _ _ (Act.put _ (some 108) _) _
     try simp only[Act.put,Q2,Q4,Q5]
     refine wpAnyH_take (i:=10) (v:=undef) rfl (by kernel_rfl) (by kernel_rfl) (by kernel_rfl) (fun _ _ _ h=>h) (Or.inr ⟨by rfl,rfl⟩) (by assumption) ?_;change wpAnyH _ _ _ _ _ _ _ (Act.put _ (some 109) _) _
     try simp only[Act.put,Q2,Q4,Q5]
     refine wpAnyH_take (i:=11) (v:=undef) rfl (by kernel_rfl) (by kernel_rfl) (by kernel_rfl) (fun _ _ _ h=>h) (Or.inr ⟨by rfl,rfl⟩) (by assumption) ?_;change wpAnyH _ _ _ _ _ _ _ (Act.put _ (some 110) _) _
     try simp only[Act.put,Q2,Q4,Q5]
     refine wpAnyH_take (i:=12) (v:=?hvv12_7) rfl (by kernel_rfl) (by kernel_rfl) (by kernel_rfl) (fun _ _ _ h=>h) (Or.inl ⟨by rfl,?hhy12_7⟩) (by assumption) ?_
     case hhy12_7=>(intro w hSw;(try dsimp only at hSw);go_simp;try with_reducible rfl)
     change wpAnyH _ _ _ _ _ _ _ (Act.put _ (some 111) _) _
     try simp only[Act.put,Q2,Q4,Q5]
     refine wpAnyH_ready (rs:=[13]) (by kernel_rfl) (by simp) ?_;refine AllReadyH.cons rfl (fun K hK=>?_) AllReadyH.nil
     go_simp
     refine hK.out _ _ (by (try dsimp only);go_keep) (fun hHeld=>?_);clear hK K;refine wpAnyH_ready (rs:=[14]) (by kernel_rfl) (by simp) ?_;refine AllReadyH.cons rfl (fun K hK=>?_) AllReadyH.nil
     go_simp
     refine hK.out _ _ (by (try dsimp only);go_keep) (fun hHeld=>?_);clear hK K;refine wpAnyH_done (by kernel_rfl) ?_ _;go_wp2_with fail;have hputs:=(H47.out).put5 (.int .i64 vk) (.int .i64 vn) (.int .i64 vd) (.int .i64 vu) (.slice voa K vcap);refine bodyPost_ret (v:=.tuple #[.agg #[.int .i64 vk,.int .i64 vn,.int .i64 vd,.int .i64 vu,.slice voa K vcap],.bool false]) ?_ rfl ?_
     · refine Zj Tryz.results61 ?_ ?_ hputs rfl
       all_goals rfl
     · exact Yg (J8 HB6 HL7.out).out (Qr HG.out) (Nat.lt_succ_self g) (by rw[HO.out];rfl) fun E' hE=>(HE6.out E' hE).below HL7.out
   | true =>
     refine wpAnyH_take (i:=4) (v:=?hvv4_8) rfl (by kernel_rfl) (by kernel_rfl) (by kernel_rfl) (fun _ _ _ h=>h) (Or.inl ⟨by rfl,?hhy4_8⟩) (by assumption) ?_
     case hhy4_8=>(intro w hSw;(try dsimp only at hSw);go_simp;try with_reducible rfl)
     change wpAnyH _ _ _ _ _ _ _ (Act.put _ (some 103) _) _
     try simp only[Act.put,Q2,Q4,Q5]
     refine wpAnyH_ready (rs:=[5]) (by kernel_rfl) (by simp) ?_;refine AllReadyH.cons rfl (fun K hK=>?_) AllReadyH.nil
     go_simp
     ((with_reducible refine(HMC6.out _ ⟨HL7.out⟩).mono ?_);rintro e w8 ⟨rfl,hb6⟩)
     have hbl:Below wc.heap.size wc w8:=HL7.out.trans (hb6.mono HL7.out.size);refine hK.out _ _ (KEEP.out _ ⟨hbl⟩) (fun hHeld=>?_);have HL8:=Q1 hbl;clear hK K hb6 hbl;refine wpAnyH_take (i:=6) (v:=?hvv6_9) rfl (by kernel_rfl) (by kernel_rfl) (by kernel_rfl) (fun _ _ _ h=>h) (Or.inl ⟨by rfl,?hhy6_9⟩) (by assumption) ?_
     case hhy6_9=>(intro w hSw;(try dsimp only at hSw);go_simp;try with_reducible rfl)
     change wpAnyH _ _ _ _ _ _ _ (Act.put _ (some 105) _) _
     try simp only[Act.put,Q2,Q4,Q5]
     refine wpAnyH_take (i:=7) (v:=?hvv7_10) rfl (by kernel_rfl) (by kernel_rfl) (by kernel_rfl) (fun _ _ _ h=>h) (Or.inl ⟨by rfl,?hhy7_10⟩) (by assumption) ?_
     case hhy7_10=>(intro w hSw;(try dsimp only at hSw);go_simp;try with_reducible rfl)
     change wpAnyH _ _ _ _ _ _ _ (Act.put _ (some 106) _) _
     try simp only[Act.put,Q2,Q4,Q5]
     cases M with
     | false =>
       have H48:=Q1 (H45.out.below HL8.out H45.out.lt);obtain⟨z0,y0,z1,y1,z2,y2,z3,y3,z4,y4,zl⟩:=Ql.five H48.out;refine wpAnyH_take (i:=8) (v:=undef) rfl (by kernel_rfl) (by kernel_rfl) (by kernel_rfl) (fun _ _ _ h=>h) (Or.inr ⟨by rfl,rfl⟩) (by assumption) ?_;change wpAnyH _ _ _ _ _ _ _ (Act.put _ (some 107) _) _
       try simp only[Act.put,Q2,Q4,Q5]
       refine wpAnyH_take (i:=9) (v:=undef) rfl (by kernel_rfl) (by kernel_rfl) (by kernel_rfl) (fun _ _ _ h=>h) (Or.inr ⟨by rfl,rfl⟩) (by assumption) ?_;change wpAnyH _ _ _ _ _ _ _ (Act.put _ (some 108) _) _
       try simp only[Act.put,Q2,Q4,Q5]
       refine wpAnyH_take (i:=10) (v:=undef) rfl (by kernel_rfl) (by kernel_rfl) (by kernel_rfl) (fun _ _ _ h=>h) (Or.inr ⟨by rfl,rfl⟩) (by assumption) ?_;change wpAnyH _ _ _ _ _ _ _ (Act.put _ (some 109) _) _
       try simp only[Act.put,Q2,Q4,Q5]
       refine wpAnyH_take (i:=11) (v:=undef) rfl (by kernel_rfl) (by kernel_rfl) (by kernel_rfl) (fun _ _ _ h=>h) (Or.inr ⟨by rfl,rfl⟩) (by assumption) ?_;change wpAnyH _ _ _ _ _ _ _ (Act.put _ (some 110) _) _
       try simp only[Act.put,Q2,Q4,Q5]
       refine wpAnyH_take (i:=12) (v:=?hvv12_11) rfl (by kernel_rfl) (by kernel_rfl) (by kernel_rfl) (fun _ _ _ h=>h) (Or.inl ⟨by rfl,?hhy12_11⟩) (by assumption) ?_
       case hhy12_11=>(intro w hSw;(try dsimp only at hSw);go_simp;try with_reducible rfl)
       change wpAnyH _ _ _ _ _ _ _ (Act.put _ (some 111) _) _
       try simp only[Act.put,Q2,Q4,Q5]
       refine wpAnyH_ready (rs:=[13]) (by kernel_rfl) (by simp) ?_;refine AllReadyH.cons rfl (fun K hK=>?_) AllReadyH.nil
       go_simp
       refine hK.out _ _ (by (try dsimp only);go_keep) (fun hHeld=>?_);clear hK K;refine wpAnyH_ready (rs:=[14]) (by kernel_rfl) (by simp) ?_;refine AllReadyH.cons rfl (fun K hK=>?_) AllReadyH.nil
       go_simp
       refine hK.out _ _ (by (try dsimp only);go_keep) (fun hHeld=>?_);clear hK K;refine wpAnyH_done (by kernel_rfl) ?_ _;go_wp2_with fail;have hputs:=(H48.out).put5 (.int .i64 vk) (.int .i64 vn) (.int .i64 vd) (.int .i64 vu) (.slice voa K vcap);refine bodyPost_ret (v:=.tuple #[.agg #[.int .i64 vk,.int .i64 vn,.int .i64 vd,.int .i64 vu,.slice voa K vcap],.bool false]) ?_ rfl ?_
       · refine Zj Tryz.results61 ?_ ?_ hputs rfl
         all_goals rfl
       · exact Yg (J8 HB6 HL8.out).out (Qr HG.out) (Nat.lt_succ_self g) (by rw[HO.out];rfl) fun E' hE=>(HE6.out E' hE).below HL8.out
     | true =>
       refine wpAnyH_take (i:=8) (v:=?hvv8_12) rfl (by kernel_rfl) (by kernel_rfl) (by kernel_rfl) (fun _ _ _ h=>h) (Or.inl ⟨by rfl,?hhy8_12⟩) (by assumption) ?_
       case hhy8_12=>(intro w hSw;(try dsimp only at hSw);go_simp;try with_reducible rfl)
       change wpAnyH _ _ _ _ _ _ _ (Act.put _ (some 107) _) _
       try simp only[Act.put,Q2,Q4,Q5]
       refine wpAnyH_take (i:=10) (v:=?hvv10_13) rfl (by kernel_rfl) (by kernel_rfl) (by kernel_rfl) (fun _ _ _ h=>h) (Or.inl ⟨by rfl,?hhy10_13⟩) (by assumption) ?_
       case hhy10_13=>(intro w hSw;(try dsimp only at hSw);go_simp;try with_reducible rfl)
       change wpAnyH _ _ _ _ _ _ _ (Act.put _ (some 109) _) _
       try simp only[Act.put,Q2,Q4,Q5]
       refine wpAnyH_ready (rs:=[9]) (by kernel_rfl) (by simp) ?_;refine AllReadyH.cons rfl (fun K hK=>?_) AllReadyH.nil
       go_simp
       ((with_reducible refine(HKC6.out _ ⟨HL8.out⟩).mono ?_);rintro e w9 ⟨rfl,hb6⟩)
       have hbl:Below wc.heap.size wc w9:=HL8.out.trans (hb6.mono HL8.out.size);refine hK.out _ _ (KEEP.out _ ⟨hbl⟩) (fun hHeld=>?_);have HL9:=Q1 hbl;clear hK K hb6 hbl;have H49:=Q1 (H45.out.below HL9.out H45.out.lt);obtain⟨z0,y0,z1,y1,z2,y2,z3,y3,z4,y4,zl⟩:=Ql.five H49.out;refine wpAnyH_take (i:=11) (v:=?hvv11_14) rfl (by kernel_rfl) (by kernel_rfl) (by kernel_rfl) (fun _ _ _ h=>h) (Or.inl ⟨by rfl,?hhy11_14⟩) (by assumption) ?_
       case hhy11_14=>(intro w hSw;(try dsimp only at hSw);go_simp;try with_reducible rfl)
       change wpAnyH _ _ _ _ _ _ _ (Act.put _ (some 110) _) _
       try simp only[Act.put,Q2,Q4,Q5]
       refine wpAnyH_take (i:=12) (v:=?hvv12_15) rfl (by kernel_rfl) (by kernel_rfl) (by kernel_rfl) (fun _ _ _ h=>h) (Or.inl ⟨by rfl,?hhy12_15⟩) (by assumption) ?_
       case hhy12_15=>(intro w hSw;(try dsimp only at hSw);go_simp;try with_reducible rfl)
       change wpAnyH _ _ _ _ _ _ _ (Act.put _ (some 111) _) _
       try simp only[Act.put,Q2,Q4,Q5]
       refine wpAnyH_ready (rs:=[13]) (by kernel_rfl) (by simp) ?_;refine AllReadyH.cons rfl (fun K hK=>?_) AllReadyH.nil
       go_simp
       refine hK.out _ _ (by (try dsimp only);go_keep) (fun hHeld=>?_);clear hK K;refine wpAnyH_ready (rs:=[14]) (by kernel_rfl) (by simp) ?_;refine AllReadyH.cons rfl (fun K hK=>?_) AllReadyH.nil
       go_simp
       refine hK.out _ _ (by (try dsimp only);go_keep) (fun hHeld=>?_);clear hK K;refine wpAnyH_done (by kernel_rfl) ?_ _;go_wp2_with fail;have hputs:=(H49.out).put5 (.int .i64 vk) (.int .i64 vn) (.int .i64 vd) (.int .i64 vu) (.slice voa K vcap);refine bodyPost_ret (v:=.tuple #[.agg #[.int .i64 vk,.int .i64 vn,.int .i64 vd,.int .i64 vu,.slice voa K vcap],.bool (kk==k)]) ?_ rfl ?_
       · refine Zj Tryz.results61 ?_ ?_ hputs rfl
         all_goals rfl
       · exact Yg (J8 HB6 HL9.out).out (Qr HG.out) (Nat.lt_succ_self g) (by rw[HO.out];rfl) fun E' hE=>(HE6.out E' hE).below HL9.out
theorem E7 (n:Int) (w:World) (h0:0≤n) (hm:D6 (n,1)=true) (h64:U2 (n,1)):Calls Tryz.prog 97 #[.agg #[.int .i64 n,.int .i64 1]] w fun e w'=>e=.returned (.bool true)∧Below w.heap.size w w':=by
 obtain⟨h1,hb1⟩:=Z2 w 23 #[.int .i64 n,.int .i64 1];obtain⟨g,hg⟩:∃ g,w.heap.size=g:=⟨_,rfl⟩;have HM:=Q1 (C3 (n,1) (w.alloc (.cells #[.int .i64 n,.int .i64 1] 23)) h64);rw[hm]at HM;rw[hg]at h1;have H1:=Q1 h1;have HB1:=Q1 hb1;have g0:decide ((0:Int)≤n)=true:=decide_eq_true h0;simp only[rv]at HM;clear h1 hb1 hm h64
 go_enter Tryz.func97,Tryz.ntmps97
 go_upto_region 1 with fail
 try simp only[hg]
 clear hg;generalize World.alloc w _=wa at *;have c0:wa.cell? ⟨g,0,none⟩=some (.int .i64 n):=(H1.out).cell 0;have fc0:=(H1.out).frozen 0;have c1:wa.cell? ⟨g,1,none⟩=some (.int .i64 1):=(H1.out).cell 1;have fc1:=(H1.out).frozen 1;have lc:=(H1.out).lt;go_wp2_with fail
 ((with_reducible refine HM.out.mono ?_);rintro e wb ⟨rfl,hbb⟩)
 have d0:wb.cell? ⟨g,0,none⟩=some (.int .i64 n):=((H1.out.below hbb lc)).cell 0;have fd0:=((H1.out.below hbb lc)).frozen 0;have d1:wb.cell? ⟨g,1,none⟩=some (.int .i64 1):=((H1.out.below hbb lc)).cell 1;have fd1:=((H1.out.below hbb lc)).frozen 1;have ld:=((H1.out.below hbb lc)).lt;have HB2:=J8 HB1 hbb;clear hbb;go_wp2_with fail;go_ret;exact⟨rfl,HB2.out⟩
theorem Ta (n:Int) (w:World) (h0:0≤n) (hm:D6 (n,1)=true) (h64:U2 (n,1)):Calls Tryz.prog 98 #[.agg #[.int .i64 n,.int .i64 1]] w fun e w'=>e=.returned (.bool true)∧Below w.heap.size w w':=by
 obtain⟨h1,hb1⟩:=Z2 w 23 #[.int .i64 n,.int .i64 1];obtain⟨g,hg⟩:∃ g,w.heap.size=g:=⟨_,rfl⟩;have HM:=Q1 (E7 n (w.alloc (.cells #[.int .i64 n,.int .i64 1] 23)) h0 hm h64);rw[hg]at h1;have H1:=Q1 h1;have HB1:=Q1 hb1;clear h1 hb1 hm h64
 go_enter Tryz.func98,Tryz.ntmps98
 go_upto_region 1 with fail
 try simp only[hg]
 clear hg;generalize World.alloc w _=wa at *;have c0:wa.cell? ⟨g,0,none⟩=some (.int .i64 n):=(H1.out).cell 0;have fc0:=(H1.out).frozen 0;have c1:wa.cell? ⟨g,1,none⟩=some (.int .i64 1):=(H1.out).cell 1;have fc1:=(H1.out).frozen 1;have lc:=(H1.out).lt;go_wp2_with fail
 ((with_reducible refine HM.out.mono ?_);rintro e wb ⟨rfl,hbb⟩)
 have d0:wb.cell? ⟨g,0,none⟩=some (.int .i64 n):=((H1.out.below hbb lc)).cell 0;have fd0:=((H1.out.below hbb lc)).frozen 0;have d1:wb.cell? ⟨g,1,none⟩=some (.int .i64 1):=((H1.out.below hbb lc)).cell 1;have fd1:=((H1.out.below hbb lc)).frozen 1;have ld:=((H1.out.below hbb lc)).lt;have HB2:=J8 HB1 hbb;clear hbb;go_wp2_with fail;go_ret;exact⟨rfl,HB2.out⟩
def D4:Nat→List UInt8
 | 0=>[104,111,118,101,114]
 | 1=>[112,111,105,110,116,101,114]
 | 2=>[112,114,101,102,101,114,115,45,99,111,108,111,114,45,115,99,104,101,109,101]
 | _=>[112,114,101,102,101,114,115,45,114,101,100,117,99,101,100,45,109,111,116,105,111,110]
def Q1x:Nat→Nat
 | 0=>10
 | 1=>11
 | 2=>9
 | _=>12
def Ht:Nat→List UInt8
 | 0=>[104,111,118,101,114]
 | 1=>[102,105,110,101]
 | 2=>[108,105,103,104,116]
 | _=>[110,111,45,112,114,101,102,101,114,101,110,99,101]
theorem Sr {i:Nat} (h:i<4):i=0∨i=1∨i=2∨i=3:=by omega
theorem Wc (g i:Nat) (hi:i<4) (w:World):Calls Tryz.prog 99 #[.pointer (some ⟨g,0,none⟩),.string ⟨(D4 i).toArray⟩] w fun e w'=>e=.returned (.pointer (some ⟨g,Q1x i,none⟩))∧w=w':=by
 rcases Sr hi with rfl|rfl|rfl|rfl
 all_goals
  simp only[D4,Q1x]
  go_enter Tryz.func99,Tryz.ntmps99
  go_wp2_with fail;go_ret;exact⟨rfl,rfl⟩
theorem Ql.thir {w:World} {g:Nat} {t:TypeId} {a0 a1 a2 a3 a4 a5 a6 a7 a8 a9 a10 a11 a12:Value} (h:Ql w g t #[a0,a1,a2,a3,a4,a5,a6,a7,a8,a9,a10,a11,a12]):w.cell? ⟨g,0,none⟩=some a0∧w.cell? ⟨g,1,none⟩=some a1∧w.cell? ⟨g,2,none⟩=some a2∧w.cell? ⟨g,3,none⟩=some a3∧w.cell? ⟨g,4,none⟩=some a4∧w.cell? ⟨g,5,none⟩=some a5∧w.cell? ⟨g,6,none⟩=some a6∧w.cell? ⟨g,7,none⟩=some a7∧w.cell? ⟨g,8,none⟩=some a8∧w.cell? ⟨g,9,none⟩=some a9∧w.cell? ⟨g,10,none⟩=some a10∧w.cell? ⟨g,11,none⟩=some a11∧w.cell? ⟨g,12,none⟩=some a12∧g<w.heap.size :=
 ⟨h.cell 0,h.cell 1,h.cell 2,h.cell 3,h.cell 4,h.cell 5,h.cell 6,h.cell 7,h.cell 8,h.cell 9,h.cell 10,h.cell 11,h.cell 12,h.lt⟩
theorem Ci (i:Nat) (hi:i<4) (w:World):(Instr.index 123 (.agg #[.string ⟨#[104,111,118,101,114]⟩,.string ⟨#[112,111,105,110,116,101,114]⟩,.string ⟨#[112,114,101,102,101,114,115,45,99,111,108,111,114,45,115,99,104,101,109,101]⟩,.string ⟨#[112,114,101,102,101,114,115,45,114,101,100,117,99,101,100,45,109,111,116,105,111,110]⟩]) (.int .i64 i)).run Tryz.prog w=.ok (.string ⟨(D4 i).toArray⟩) w:=by
 rcases Sr hi with rfl|rfl|rfl|rfl
 all_goals kernel_rfl
theorem Wb (i:Nat) (hi:i<4) (w:World):Calls Tryz.prog 48 #[.string ⟨(D4 i).toArray⟩] w fun e w'=>(∃ v,e=.returned v∧Calls Tryz.prog 54 #[v,.string ⟨(Ht i).toArray⟩] w' fun e w2=>e=.returned (.bool true)∧w'=w2)∧Below w.heap.size w w':=by
 refine(Cs (D4 i) w).mono ?_;rintro e w' ⟨⟨v,rfl,hz⟩,hb⟩;refine⟨⟨v,rfl,?_⟩,hb⟩;have:=Ou (Jo (D4 i)) (Ht i) v w' hz (by rcases Sr hi with rfl|rfl|rfl|rfl<;>decide);rwa [show decide (Ht i∈Jo (D4 i))=true by rcases Sr hi with rfl|rfl|rfl|rfl<;>decide]at this
theorem U9 {n:Int} (h:0≤n∧n≤1000):U2 (n,1):=by unfold U2;omega
theorem M9 (w:World):Calls Tryz.prog 67 #[.agg #[.bool false,.int .i64 800,.int .i64 1,.int .i64 600,.int .i64 1,.int .i64 16,.int .i64 1,.int .i64 8,.int .i64 1,.string ⟨#[108,105,103,104,116]⟩,.string ⟨#[104,111,118,101,114]⟩,.string ⟨#[102,105,110,101]⟩,.string ⟨#[110,111,45,112,114,101,102,101,114,101,110,99,101]⟩]] w fun e w'=>e=.returned (.bool true)∧Below w.heap.size w w':=by
 obtain⟨h1,hb1⟩:=Z2 w 65 #[.bool false,.int .i64 800,.int .i64 1,.int .i64 600,.int .i64 1,.int .i64 16,.int .i64 1,.int .i64 8,.int .i64 1,.string ⟨#[108,105,103,104,116]⟩,.string ⟨#[104,111,118,101,114]⟩,.string ⟨#[102,105,110,101]⟩,.string ⟨#[110,111,45,112,114,101,102,101,114,101,110,99,101]⟩];obtain⟨g,hg⟩:∃ g,w.heap.size=g:=⟨_,rfl⟩;rw[hg]at h1;have H1:=Q1 h1;have HB1:=Q1 hb1;have HG:=Q1 hg;clear h1 hb1
 go_enter Tryz.func67,Tryz.ntmps67
 go_upto_region 1 with fail
 try simp only[hg]
 clear hg;generalize World.alloc w _=wa at *
 go_cut [26] from 5 to 26 (fun s wx=>s=.bool false∧Hid (Below wa.heap.size wa wx))
 case first =>
  obtain⟨c0,c1,c2,c3,c4,c5,c6,c7,c8,c9,c10,c11,c12,lc⟩:=Ql.thir (H1.out);have HX:=Q1 (Below.refl wa.heap.size wa);go_wp2_with fail
  ((with_reducible refine(E7 800 _ (by decide) (by decide) (U9 (by decide))).mono ?_);rintro e wb ⟨rfl,hbb⟩)
  replace HX:=J8 HX hbb;clear hbb c0 c1 c2 c3 c4 c5 c6 c7 c8 c9 c10 c11 c12 lc;obtain⟨c0,c1,c2,c3,c4,c5,c6,c7,c8,c9,c10,c11,c12,lc⟩:=Ql.thir (H1.out.below HX.out H1.out.lt);go_wp2_with fail
  ((with_reducible refine(E7 600 _ (by decide) (by decide) (U9 (by decide))).mono ?_);rintro e wb ⟨rfl,hbb⟩)
  replace HX:=J8 HX hbb;clear hbb c0 c1 c2 c3 c4 c5 c6 c7 c8 c9 c10 c11 c12 lc;obtain⟨c0,c1,c2,c3,c4,c5,c6,c7,c8,c9,c10,c11,c12,lc⟩:=Ql.thir (H1.out.below HX.out H1.out.lt);go_wp2_with fail
  ((with_reducible refine(E7 16 _ (by decide) (by decide) (U9 (by decide))).mono ?_);rintro e wb ⟨rfl,hbb⟩)
  replace HX:=J8 HX hbb;clear hbb c0 c1 c2 c3 c4 c5 c6 c7 c8 c9 c10 c11 c12 lc;obtain⟨c0,c1,c2,c3,c4,c5,c6,c7,c8,c9,c10,c11,c12,lc⟩:=Ql.thir (H1.out.below HX.out H1.out.lt);go_wp2_with fail
  ((with_reducible refine(Ta 8 _ (by decide) (by decide) (U9 (by decide))).mono ?_);rintro e wb ⟨rfl,hbb⟩)
  replace HX:=J8 HX hbb;clear hbb c0 c1 c2 c3 c4 c5 c6 c7 c8 c9 c10 c11 c12 lc;obtain⟨c0,c1,c2,c3,c4,c5,c6,c7,c8,c9,c10,c11,c12,lc⟩:=Ql.thir (H1.out.below HX.out H1.out.lt);go_wp2_with fail;go_meet;exact⟨rfl,HX⟩
 obtain⟨rfl,hbx⟩:=hcut;have H2:=Q1 (H1.out.below hbx.out H1.out.lt);have HB2:=J8 HB1 hbx.out;clear H1 HB1 hbx;go_wp2_with fail
 go_loopg [28] 4 (fun q s wr=>∃ i:Nat,s=.int .i64 i∧Hid (Below wc.heap.size wc wr)∧i≤4∧4-i≤q)
 case atStart=>exact⟨0,rfl,Q1 (Below.refl _ _),by omega,by omega⟩
 case round =>
  obtain⟨i,rfl,hb,hi,hq⟩:=hrel
  by_cases h4:i<4
  · obtain⟨c0,c1,c2,c3,c4,c5,c6,c7,c8,c9,c10,c11,c12,lc⟩:=Ql.thir (H2.out.below hb.out H2.out.lt)
    rcases Sr h4 with rfl|rfl|rfl|rfl
    · have hix:=fun w=>Ci 0 (by decide) w
      have HWD:=Q1 (Wb 0 (by decide));have HFD:=Q1 (Wc g 0 (by decide));simp only[D4,Ht,Q1x]at hix HWD HFD;change ∀ w,(Instr.index _ _ (.int .i64 0)).run _ w=_ at hix;go_wp2_with fail
      ((with_reducible refine(HWD.out _).mono ?_);rintro e wd ⟨⟨v,rfl,hv⟩,hbd⟩)
      have cw:=(hbd.cell (p:=⟨g,10,none⟩) lc).trans c10;have HV:=Q1 hv;have HD:=J8 hb hbd;clear hv hbd HWD;go_wp2_with fail
      ((with_reducible refine(HFD.out _).mono ?_);rintro e we ⟨rfl,rfl⟩)
      go_wp2_with fail
      ((with_reducible refine HV.out.mono ?_);rintro e we ⟨rfl,rfl⟩)
      go_wp2_with fail
      go_roundg 3
      case measure=>omega
      case rel=>exact⟨1,rfl,HD,by omega,by omega⟩
    · have hix:=fun w=>Ci 1 (by decide) w
      have HWD:=Q1 (Wb 1 (by decide));have HFD:=Q1 (Wc g 1 (by decide));simp only[D4,Ht,Q1x]at hix HWD HFD;change ∀ w,(Instr.index _ _ (.int .i64 1)).run _ w=_ at hix;go_wp2_with fail
      ((with_reducible refine(HWD.out _).mono ?_);rintro e wd ⟨⟨v,rfl,hv⟩,hbd⟩)
      have cw:=(hbd.cell (p:=⟨g,11,none⟩) lc).trans c11;have HV:=Q1 hv;have HD:=J8 hb hbd;clear hv hbd HWD;go_wp2_with fail
      ((with_reducible refine(HFD.out _).mono ?_);rintro e we ⟨rfl,rfl⟩)
      go_wp2_with fail
      ((with_reducible refine HV.out.mono ?_);rintro e we ⟨rfl,rfl⟩)
      go_wp2_with fail
      go_roundg 2
      case measure=>omega
      case rel=>exact⟨2,rfl,HD,by omega,by omega⟩
    · have hix:=fun w=>Ci 2 (by decide) w
      have HWD:=Q1 (Wb 2 (by decide));have HFD:=Q1 (Wc g 2 (by decide));simp only[D4,Ht,Q1x]at hix HWD HFD;change ∀ w,(Instr.index _ _ (.int .i64 2)).run _ w=_ at hix;go_wp2_with fail
      ((with_reducible refine(HWD.out _).mono ?_);rintro e wd ⟨⟨v,rfl,hv⟩,hbd⟩)
      have cw:=(hbd.cell (p:=⟨g,9,none⟩) lc).trans c9;have HV:=Q1 hv;have HD:=J8 hb hbd;clear hv hbd HWD;go_wp2_with fail
      ((with_reducible refine(HFD.out _).mono ?_);rintro e we ⟨rfl,rfl⟩)
      go_wp2_with fail
      ((with_reducible refine HV.out.mono ?_);rintro e we ⟨rfl,rfl⟩)
      go_wp2_with fail
      go_roundg 1
      case measure=>omega
      case rel=>exact⟨3,rfl,HD,by omega,by omega⟩
    · have hix:=fun w=>Ci 3 (by decide) w
      have HWD:=Q1 (Wb 3 (by decide));have HFD:=Q1 (Wc g 3 (by decide));simp only[D4,Ht,Q1x]at hix HWD HFD;change ∀ w,(Instr.index _ _ (.int .i64 3)).run _ w=_ at hix;go_wp2_with fail
      ((with_reducible refine(HWD.out _).mono ?_);rintro e wd ⟨⟨v,rfl,hv⟩,hbd⟩)
      have cw:=(hbd.cell (p:=⟨g,12,none⟩) lc).trans c12;have HV:=Q1 hv;have HD:=J8 hb hbd;clear hv hbd HWD;go_wp2_with fail
      ((with_reducible refine(HFD.out _).mono ?_);rintro e we ⟨rfl,rfl⟩)
      go_wp2_with fail
      ((with_reducible refine HV.out.mono ?_);rintro e we ⟨rfl,rfl⟩)
      go_wp2_with fail
      go_roundg 0
      case measure=>omega
      case rel=>exact⟨4,rfl,HD,by omega,by omega⟩
  · obtain rfl:i=4:=by omega
    go_wp2_with fail;go_ret;exact⟨rfl,(J8 HB2 hb.out).out⟩
end Go.Proofs.YtnanffmhbjdpaaaGreatDoor
