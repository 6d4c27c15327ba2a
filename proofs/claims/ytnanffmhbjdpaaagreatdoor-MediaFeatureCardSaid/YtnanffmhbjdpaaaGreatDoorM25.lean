/- Of my texts: MedC, MedD, MedE, MedF, MedG, MedH. -/
import Derived.Test.YtnanffmhbjdpaaaGreatDoorM00
import Derived.Test.YtnanffmhbjdpaaaGreatDoorM21
import Derived.Test.YtnanffmhbjdpaaaGreatDoorM22
import Derived.Test.YtnanffmhbjdpaaaGreatDoorM24
namespace Go.Proofs.YtnanffmhbjdpaaaGreatDoor
set_option maxHeartbeats 4000000
set_option maxRecDepth 100000
set_option linter.unusedVariables false
set_option linter.unusedSimpArgs false
open Go.RowKit
theorem Q4o (a c:UInt8):Lib.indexByte (⟨#[a]⟩:ByteArray).data.toList (c.toNat:Int).toNat.toUInt8=(if a==c then 0 else -1:Int):=by
 rw[show (c.toNat:Int).toNat.toUInt8=c by simp]
 by_cases h:a=c<;>simp[Lib.indexByte,h]
theorem Q2h (a c:UInt8) (w:World):Calls Tryz.prog 211 #[.string ⟨#[a]⟩,.int .u8 (c.toNat:Int)] w fun e w'=>e=.returned (.int .i64 (if a==c then 0 else -1))∧w=w':=by
 have e:=Q4o a c;generalize (if a==c then 0 else -1:Int)=r at *
 go_enter Tryz.func211,Tryz.ntmps211
 go_wp2_with fail;rw[run_callFunc_extern Tryz.func230 (by kernel_rfl) (by kernel_rfl) (by kernel_rfl) (e:=Extern.BytealgIndexByte.indexByte) (by kernel_rfl),Lib.run_indexByteString,e];clear e;simp only[Result.andThen];rw[Oper.upon_value];go_wp2_with fail;go_ret;exact⟨rfl,rfl⟩
theorem Ax (a c:UInt8) (w:World):Calls Tryz.prog 189 #[.string ⟨#[a]⟩,.string ⟨#[c]⟩] w fun e w'=>e=.returned (.int .i64 (if a==c then 0 else -1))∧w=w':=by
 have H:=Q1 (Q2h a c)
 by_cases h:a=c
 · subst h;clear H
   have e:(if a==a then 0 else -1:Int)=0:=by simp
   rw[e];clear e
   go_enter Tryz.func189,Tryz.ntmps189
   go_wp2_with fail;go_ret;exact⟨rfl,rfl⟩
 · have e:(if a==c then 0 else -1:Int)=-1:=by simp[h]
   rw[e]at H ⊢;have g:(c==a)=false:=beq_eq_false_iff_ne.2 (Ne.symm h);clear e h
   go_enter Tryz.func189,Tryz.ntmps189
   go_wp2_with fail
   ((with_reducible refine(H.out _).mono ?_);rintro e w' ⟨rfl,rfl⟩)
   go_wp2_with fail;go_ret;exact⟨rfl,rfl⟩
theorem Q2g (a c:UInt8) (w:World):Calls Tryz.prog 160 #[.string ⟨#[a]⟩,.string ⟨#[c]⟩] w fun e w'=>e=.returned (.int .i64 (if a==c then 0 else -1))∧w=w':=by
 have H:=Q1 (Ax a c);generalize (if a==c then 0 else -1:Int)=r at *
 go_enter Tryz.func160,Tryz.ntmps160
 go_wp2_with fail
 ((with_reducible refine(H.out _).mono ?_);rintro e w' ⟨rfl,rfl⟩)
 go_wp2_with fail;go_ret;exact⟨rfl,rfl⟩
theorem Pp (a c:UInt8) (w:World):Calls Tryz.prog 130 #[.string ⟨#[a]⟩,.string ⟨#[c]⟩] w fun e w'=>e=.returned (.bool (a==c))∧w=w':=by
 have H:=Q1 (Q2g a c)
 have e:∀ r,(if a==c then 0 else -1:Int)=r→decide (0≤r)=(a==c):=fun r h=>by subst h;cases a==c<;>rfl
 obtain⟨r,hr⟩:∃ r,(if a==c then 0 else -1:Int)=r:=⟨_,rfl⟩;rw[hr]at H;have E:=Q1 (e r hr);clear e hr
 go_enter Tryz.func130,Tryz.ntmps130
 go_wp2_with fail
 ((with_reducible refine(H.out _).mono ?_);rintro e w' ⟨rfl,rfl⟩)
 go_wp2_with fail;go_ret;exact⟨Qw E.out,rfl⟩
theorem Kz (a:UInt8) (tk tn td:Int) (tt:List UInt8) (ti tid:Bool) (koa:Option Addr) (K kcap:Nat) (w:World) :
  Calls Tryz.prog 91 #[.agg #[.int .i64 tk,.string ⟨tt.toArray⟩,.int .i64 tn,.int .i64 td,.bool ti,.bool tid,.slice koa K kcap],.string ⟨#[a]⟩] w fun e w'=>e=.returned (.bool (tk==9&&tt==[a]))∧Below w.heap.size w w':=by
 by_cases hk:tk=9
 · subst hk
   by_cases hl:tt.length=1
   · obtain⟨c,rfl⟩:=Zo.1 hl;have HC:=Q1 (Pp a c)
     have e:([c]==[a])=(a==c):=by rw[Qt];simp;exact eq_comm
     rw[e];clear e hl
     go_enter Tryz.func91,Tryz.ntmps91
     go_wp2_with fail
     ((with_reducible refine(HC.out _).mono ?_);rintro e w' ⟨rfl,rfl⟩)
     go_wp2_with fail;go_ret;exact⟨rfl,Q7 _ _⟩
   · have e:(tt==[a])=false:=by rw[beq_eq_false_iff_ne];rintro rfl;exact hl rfl
     have g0:((tt.length:Int)==1)=false:=by rw[beq_eq_false_iff_ne];omega
     rw[e];clear e hl
     go_enter Tryz.func91,Tryz.ntmps91
     go_wp2_with fail;go_ret;exact⟨rfl,Q7 _ _⟩
 · have gk:(tk==9)=false:=beq_eq_false_iff_ne.2 hk
   go_enter Tryz.func91,Tryz.ntmps91
   go_wp2_with fail;go_ret;exact⟨by rw[gk];rfl,Q7 _ _⟩
theorem Av (tk tn td:Int) (tt:List UInt8) (ti tid:Bool) (koa:Option Addr) (K kcap:Nat) (w:World) :
  Calls Tryz.prog 90 #[.agg #[.int .i64 tk,.string ⟨tt.toArray⟩,.int .i64 tn,.int .i64 td,.bool ti,.bool tid,.slice koa K kcap]] w fun e w'=>e=.returned (.bool (tk==9&&tt==[47]))∧Below w.heap.size w w':=by
 have hs:=Kz 47 tk tn td tt ti tid koa K kcap;generalize (tk==9&&tt==[47])=r at *;have HS:=Q1 hs;clear hs
 go_enter Tryz.func90,Tryz.ntmps90
 go_wp2_with fail
 ((with_reducible refine(HS.out _).mono ?_);rintro e w' ⟨rfl,hb⟩)
 have HB:=Q1 (Qu (Q7 w _) (Qc hb none) fun _ e=>by cases e);go_wp2_with fail;go_ret;exact⟨rfl,HB.out⟩
theorem Tj (tk tn td:Int) (tt:List UInt8) (ti tid:Bool) (koa:Option Addr) (K kcap:Nat) (w:World) :
  Calls Tryz.prog 51 #[.agg #[.int .i64 tk,.string ⟨tt.toArray⟩,.int .i64 tn,.int .i64 td,.bool ti,.bool tid,.slice koa K kcap]] w fun e w'=>e=.returned (.bool (tk==16))∧Below w.heap.size w w':=by
 go_enter Tryz.func51,Tryz.ntmps51
 go_wp2_with fail;go_ret;exact⟨rfl,Q7 _ _⟩
theorem Pk {α:Type} {p:α→Bool} {L:List α} {i:Nat} {X:α} (h1:∀ v∈L.take i,p v=false) (h2:L[i]?=some X) (h3:p X=true):L.findIdx? p=some i:=by
 obtain⟨hi,rfl⟩:=Qn.1 h2;refine List.findIdx?_eq_some_iff_getElem.2 ⟨hi,h3,fun j hj=>?_⟩;simp[h1 L[j] (List.mem_take_iff_getElem.2 ⟨j,by omega,rfl⟩)]
theorem Ws {α:Type} {p:α→Bool} {L:List α} {i:Nat} {X:α} (h2:L[i]?=some X) (h1:∀ v∈L.take i,p v=false) (h3:p X=false):∀ v∈L.take (i+1),p v=false:=fun v hv=>by
 rw[List.take_add_one,h2]at hv
 rcases Zh.1 hv with hv|hv
 · exact h1 v hv
 · obtain rfl:=Qh.1 hv;exact h3
def Kt:Option Nat→Int
 | none=>-1
 | some i=>i
theorem Nr (g:Nat) (p:Vt→Bool) (eg:∀ args w,(callFunc g args).run Tryz.prog w=.ok (.enter g args) w)
  (hp:∀ tk tn td tt ti tid koa K kcap k w,Calls Tryz.prog g #[.agg #[.int .i64 tk,.string ⟨tt.toArray⟩,.int .i64 tn,.int .i64 td,.bool ti,.bool tid,.slice koa K kcap]] w fun e w'=>e=.returned (.bool (p (.mk ⟨tk,tt,(tn,td),ti,tid⟩ k)))∧Below w.heap.size w w')
  (h:Nat) (l:List Vl) (oa:Option Addr) (cap b o:Nat) (w:World) (hs:Zw w h oa cap b o l) :
  Calls Tryz.prog 50 #[.slice oa l.length cap,.func (.func g) #[] #[]] w fun e w'=>e=.returned (.int .i64 (Kt ((l.map Vl.c).findIdx? p)))∧Below w.heap.size w w':=by
 obtain⟨N,hN⟩:∃ N,l.length=N:=⟨_,rfl⟩;obtain⟨L,hL⟩:∃ L,l.map Vl.c=L:=⟨_,rfl⟩;rw[hN,hL];have hcl:=hs.sl.le;have hcm:=hs.sl.max;unfold maxLen at hcm;rw[hN]at hcl;have HS:=Q1 hs;have HL:=Q1 (Q3 hN hL);have HP:=Q1 hp;clear hs hN hL hp
 go_enter Tryz.func50,Tryz.ntmps50
 go_wp2_with fail
 go_loopg [5,8] N (fun q s5 s8 wr=>∃ (i:Nat),s8=.int .i64 i∧Hid (Below w.heap.size w wr)∧Hid (∀ v∈L.take i,p v=false)∧i≤N∧N-i≤q)
 case atStart=>exact⟨0,rfl,Q1 (Below.refl _ _),Q1 (fun v h=>by cases h),Qs _,Q6 _⟩
 case round =>
  obtain⟨i,rfl,hB,hD,hiN,hq⟩:=hrel
  by_cases hi:i<N
  · have gi:decide ((i:Int)<(N:Int))=true:=by simpa using hi
    have gin:decide (i<N)=true:=by simpa using hi
    have ij0:(0:Int)≤(i:Int):=Int.natCast_nonneg _
    have ijN:(i:Int)<(N:Int):=by omega
    have hil:i<l.length:=by rw[HL.out.1];exact hi
    have hli:l[i]?=some l[i]:=Q9 hil;obtain⟨x,hx⟩:∃ x,l[i]=x:=⟨_,rfl⟩;rw[hx]at hli
    have hLi:L[i]?=some x.c:=by rw[← HL.out.2,Z5,hli];rfl
    have hvs:=HS.out.below hB.out;obtain⟨rfl,hbl⟩:=hvs.sl.lies (by omega);obtain⟨⟨tk,tt,⟨tn,td⟩,ti,tid⟩,koa,kb,ko,kcap,kids⟩:=x;obtain⟨f0,f1,f2,f3,f4,f5,f6⟩:=hvs.row hli;rw[Vl.c_mk]at hLi;have HC:=Q1 (HP.out tk tn td tt ti tid koa kids.length kcap (kids.map Vl.c));generalize (Vt.mk _ _)=X at *;obtain⟨c,hc⟩:∃ c,p X=c:=⟨_,rfl⟩;rw[hc]at HC;have HI:=Q1 (Q3 hLi hc);clear hvs hli hil hx hLi hc;generalize kids.length=K at *
    cases c with
    | true =>
      have hr:L.findIdx? p=some i:=Pk hD.out HI.out.1 HI.out.2;have HR:=Q1 hr;clear hr;go_wp2_with (go_at_fn g;refine(HC.out _).mono ?_;rintro e w2 ⟨rfl,hb2⟩);have HB:=J8 hB hb2;go_ret;exact⟨by rw[HR.out];rfl,HB.out⟩
    | false =>
      go_wp2_with (go_at_fn g;refine(HC.out _).mono ?_;rintro e w2 ⟨rfl,hb2⟩);have HB:=J8 hB hb2
      go_roundg (N-(i+1))
      case measure=>omega
      case rel=>exact⟨i+1,by go_num,HB,Q1 (Ws HI.out.1 hD.out HI.out.2),hi,Q6 _⟩
  · obtain rfl:i=N:=by omega
    have gi:decide ((i:Int)<(i:Int))=false:=by simp
    have gin:decide (i<i)=false:=by simp
    have hr:L.findIdx? p=none:=by
     rw[List.findIdx?_eq_none_iff];intro v hv;refine hD.out v ?_;rwa [Zc];rw[← HL.out.2,Qj,HL.out.1];exact Q6 _
    have HR:=Q1 hr;clear hr;go_wp2_with fail;go_ret;exact⟨by rw[HR.out];rfl,hB.out⟩
theorem Q17 (D:List (List UInt8)) (x:List UInt8) (v:Value) (w:World) (hz:Zs w v D) (hm:D.length≤8) :
  Calls Tryz.prog 92 #[v,.string ⟨x.toArray⟩] w fun e w'=>e=.returned (.int .i64 (Kt (D.findIdx? (x==·))))∧w=w':=by
 obtain⟨oa,cap,rfl,hc⟩:=hz;obtain⟨N,hN⟩:∃ N,D.length=N:=⟨_,rfl⟩;rw[hN]at hm ⊢;have HD:=Q1 (Q3 hN hc);clear hN hc
 go_enter Tryz.func92,Tryz.ntmps92
 go_wp2_with fail
 go_loopg [5,8] N (fun q s5 s8 wr=>∃ (i:Nat),s8=.int .i64 i∧wr=w∧Hid (∀ v∈D.take i,(x==v)=false)∧i≤N∧N-i≤q)
 case atStart=>exact⟨0,rfl,rfl,Q1 (fun v h=>by cases h),Qs _,Q6 _⟩
 case round =>
  obtain⟨i,rfl,rfl,hD,hiN,hq⟩:=hrel
  by_cases hi:i<N
  · have gi:decide ((i:Int)<(N:Int))=true:=by simpa using hi
    have gin:decide (i<N)=true:=by simpa using hi
    have ij0:(0:Int)≤(i:Int):=Int.natCast_nonneg _
    have ijN:(i:Int)<(N:Int):=by omega
    have hil:i<D.length:=by rw[HD.out.1];exact hi
    have hli:D[i]?=some D[i]:=Q9 hil;obtain⟨b,rfl,hcell⟩:=HD.out.2 (by rintro rfl;simp at hil);have f0:=hcell i _ hli;obtain⟨y,hy⟩:∃ y,D[i]=y:=⟨_,rfl⟩;rw[hy]at f0 hli;have HI:=Q1 hli;clear hli hy hil hcell
    by_cases hxy:x=y
    · have hr:D.findIdx? (x==·)=some i:=Pk hD.out HI.out (by simp[hxy])
      have g0:(x==y)=true:=by simp[hxy]
      have HR:=Q1 hr;clear hr hxy;go_wp2_with fail;go_ret;exact⟨by rw[HR.out];rfl,rfl⟩
    · have g0:(x==y)=false:=by simpa using hxy
      have HT:=Q1 (Ws (p:=(x==·)) HI.out hD.out g0);clear hxy;go_wp2_with fail
      go_roundg (N-(i+1))
      case measure=>omega
      case rel=>exact⟨i+1,by go_num,rfl,HT,hi,Q6 _⟩
  · obtain rfl:i=N:=by omega
    have gi:decide ((i:Int)<(i:Int))=false:=by simp
    have gin:decide (i<i)=false:=by simp
    have hr:D.findIdx? (x==·)=none:=by
     rw[List.findIdx?_eq_none_iff];intro v hv;refine hD.out v ?_;rwa [Zc];rw[HD.out.1];exact Q6 _
    have HR:=Q1 hr;clear hr;go_wp2_with fail;go_ret;exact⟨by rw[HR.out];rfl,rfl⟩
theorem Ou (D:List (List UInt8)) (x:List UInt8) (v:Value) (w:World) (hz:Zs w v D) (hm:D.length≤8) :
  Calls Tryz.prog 54 #[v,.string ⟨x.toArray⟩] w fun e w'=>e=.returned (.bool (decide (x∈D)))∧w=w':=by
 have H:=Q1 (Q17 D x v w hz hm)
 have e:decide (0≤Kt (D.findIdx? (x==·)))=decide (x∈D):=by
  cases h:D.findIdx? (x==·) with
  | none =>
    rw[List.findIdx?_eq_none_iff]at h
    have:x ∉ D:=fun hx=>by simpa using h x hx
    simp[Kt,this]
  | some i =>
    have:x∈D:=by
     obtain⟨hi,he,_⟩:=List.findIdx?_eq_some_iff_getElem.1 h
     have e:x=D[i]:=by simpa using he
     rw[e];exact List.getElem_mem hi
    simp[Kt,this]
 have E:=Q1 e;clear e hz;generalize Kt _=r at *
 go_enter Tryz.func54,Tryz.ntmps54
 go_wp2_with fail
 ((with_reducible refine H.out.mono ?_);rintro e w' ⟨rfl,rfl⟩)
 go_wp2_with fail;go_ret;exact⟨Qw E.out,rfl⟩
theorem Nt (h:Nat) (l:List Vt):((Jz J0 h l).1=none→(Jz J0 h l).2≠0)∧∀ e,(Jz J0 h l).1=some e→(Jz J0 h l).2=0:=by
 unfold Jz;split
 · exact⟨fun _=>by simp,fun e h=>by cases h⟩
 · split
   · split
     · exact⟨fun _=>by simp,fun e h=>by cases h⟩
     · exact⟨fun h=>(by cases h),fun _ _=>rfl⟩
   · exact⟨fun _=>by simp,fun e h=>by cases h⟩
theorem C0 (h:Nat) (l:List Vl) (oa:Option Addr) (cap b o:Nat) (w:World) (hs:Zw w h oa cap b o l) (k:Int) (hk:k≠0) :
  Calls Tryz.prog 89 #[.slice oa l.length cap,.int .i64 k] w fun e w'=>Ys (· < w.heap.size) (Sa h k (l.map Vl.c)) e w'∧Below w.heap.size w w':=by
 obtain⟨Y,hY⟩:∃ Y,Sa h k (l.map Vl.c)=Y:=⟨_,rfl⟩;rw[hY];unfold Sa at hY;obtain⟨h4,hb4⟩:=Z2 w 32 #[.int .i64 0,.int .i64 0,.int .i64 0,.int .i64 0,.slice none 0 0];have HP:=Q1 (Tg h l oa cap b o _ (hs.below hb4));obtain⟨X,hX⟩:∃ X,Jz J0 h (l.map Vl.c)=X:=⟨_,rfl⟩;rw[hX]at HP hY;obtain⟨N,hN⟩:∃ N,l.length=N:=⟨_,rfl⟩;rw[hN]at HP ⊢;have H4:=Q1 h4;have HB4:=Q1 hb4;have HY:=Q1 hY;clear hs h4 hb4 hY hN
 go_enter Tryz.func89,Tryz.ntmps89
 go_upto_region 1 with fail
 obtain⟨g4,hg4⟩:∃ g,w.heap.size=g:=⟨_,rfl⟩
 have hw1:(w.alloc (.cells #[.int .i64 0,.int .i64 0,.int .i64 0,.int .i64 0,.slice none 0 0] 32)).heap.size=w.heap.size+1:=by simp
 have HW1:=Q1 hw1;have HG:=Q1 hg4;rw[hg4]at H4;clear hw1;simp only[hg4];clear hg4;generalize w.alloc _=w1 at *;go_wp2_with fail
 ((with_reducible refine HP.out.mono ?_);rintro e w2 ⟨⟨v,rfl,x,hh,rfl,hxc,hxs⟩,hb2⟩)
 have HK:=Q1 (fun w3 hb=>Om hh x w3 (hxs.here.below hh (w':=w3) hb));have hkx:=Q4l x;rw[hxc]at hkx;have HE:=Q1 (show Jk (· < w1.heap.size) (X.1.getD Wn) (xv x) w2 from ⟨x,hh,rfl,hxc,hxs⟩);have h4:=H4.out.below hb2 H4.out.lt;have HB2:=J8 HB4 hb2;clear hxs hxc hb2 HP H4 HB4;obtain⟨vk,vn,vd,vu,voa,vb,vo,vcap,kids⟩:=x;obtain⟨K,hK⟩:∃ K,kids.length=K:=⟨_,rfl⟩;simp only[Vr,hK]at HK HE ⊢;generalize B9 _=kk at *;clear hK
 have hw2:w2.heap.size≠g4:=by have:=h4.lt;omega
 have hx:=Nt h (l.map Vl.c);rw[hX]at hx;clear hX
 go_upto_region 2 with fail
 obtain⟨h6,hb3⟩:=Z2 w2 32 #[.int .i64 vk,.int .i64 vn,.int .i64 vd,.int .i64 vu,.slice voa K vcap];have H4:=Q1 (h4.below hb3 h4.lt);have HB3:=J8 HB2 hb3;have HE3:=Q1 (HE.out.below hb3);have HK3:=Q1 (HK.out _ hb3);clear h4 hb3 HB2 HE HK hw2;generalize w2.heap.size=g6 at *;generalize w2.alloc _=w3 at *;obtain⟨X1,X2⟩:=X;simp only at HY HE3 hkx hx ⊢
 cases X1 with
 | none =>
   have hx2:=hx.1 rfl
   have g0:(X2 != 0)=true:=by simpa using hx2
   obtain rfl:none=Y:=HY.out;obtain⟨c0,f0,c1,f1,c2,f2,c3,f3,c4,f4,l4⟩:=Ql.five H4.out;clear hx hx2 HK3;go_wp2_with fail;have hputs:=(H4.out).put5 (.int .i64 0) (.int .i64 0) (.int .i64 0) (.int .i64 0) (.slice none 0 0);refine bodyPost_ret (v:=.tuple #[.agg #[.int .i64 0,.int .i64 0,.int .i64 0,.int .i64 0,.slice none 0 0],.bool false]) ?_ rfl ?_
   · refine Zj Tryz.results89 ?_ ?_ hputs rfl
     all_goals rfl
   · exact⟨⟨_,_,rfl,rfl,⟨_,_,_,_,_,_,_,rfl⟩,fun E hE=>by cases hE⟩,Jh HB3.out (Qr HG.out) _ _ _ _ _⟩
 | some E =>
   obtain rfl:=hx.2 E rfl;obtain⟨c0,f0,c1,f1,c2,f2,c3,f3,c4,f4,l4⟩:=Ql.five h6;have H6:=Q1 h6;clear hx h6;simp only[Option.getD_some]at HE3 hkx;go_wp2_with fail
   ((with_reducible refine HK3.out.mono ?_);rintro e w4 ⟨rfl,hb4⟩)
   have H44:=Q1 (H4.out.below hb4 H4.out.lt);have h64:=H6.out.below hb4 H6.out.lt;have HB4:=J8 HB3 hb4;have HE4:=Q1 (HE3.out.below hb4);clear hb4 H4 H6 HB3 HE3 HK3 c0 f0 c1 f1 c2 f2 c3 f3 c4 f4 l4;obtain⟨c0,f0,c1,f1,c2,f2,c3,f3,c4,f4,l4⟩:=Ql.five h64;obtain⟨d0,e0,d1,e1,d2,e2,d3,e3,d4,e4,l5⟩:=Ql.five H44.out;obtain⟨kk1,kk2⟩:=kk
   have hk1:Y=if kk1=k then some E else none:=by rw[← HY.out,← hkx]
   have HY2:=Q1 hk1;clear hk1 hkx HY h64;go_wp2_with fail;have hgz:=Qm [.int .i64 vk,.int .i64 vn,.int .i64 vd,.int .i64 vu,.slice voa K vcap] w4 g4 0;simp only[J5,Nat.zero_add,Nat.reduceAdd]at hgz
   have hee:=(HE4.out.grown hgz (fun q e _=>by injection e with e;have:=HW1.out;have:=HG.out;show q<w1.heap.size;omega)).anti (A':=(· < w.heap.size)) fun b hb=>Or.inl (by have:=HW1.out;have hb:b<w.heap.size:=hb;show b<w1.heap.size;omega)
   have hputs:=(H44.out).put5 (.int .i64 vk) (.int .i64 vn) (.int .i64 vd) (.int .i64 vu) (.slice voa K vcap);refine bodyPost_ret (v:=.tuple #[.agg #[.int .i64 vk,.int .i64 vn,.int .i64 vd,.int .i64 vu,.slice voa K vcap],.bool (kk1==k)]) ?_ rfl ?_
   · refine Zj Tryz.results89 ?_ ?_ hputs rfl
     all_goals rfl
   · exact⟨⟨_,_,rfl,by rw[HY2.out];by_cases hk:kk1=k<;>simp[hk],⟨_,_,_,_,_,_,_,rfl⟩,fun E' hE=>by rw[HY2.out]at hE;split at hE;(obtain rfl:=Q8 hE;exact hee);cases hE⟩,Jh HB4.out (Qr HG.out) _ _ _ _ _⟩
theorem Xd:Tryz.prog.elem 26=28:=by kernel_rfl
theorem Wt {w:World} {h:Nat} {oa:Option Addr} {cap b o:Nat} {l:List Vl} (hs:Zw w h oa cap b o l) {N i:Nat} (hN:l.length=N) (hi:i≤N) :
  ∃ oa' cap' o',(∀ (z:Int) w,z=i→(Instr.slice 26 (.slice oa N cap) none (some (.int .i64 z)) none).run Tryz.prog w=.ok (.slice oa' (l.take i).length cap') w)∧∀ w,Zw w h oa cap b o l→Zw w h oa' cap' b o' (l.take i):=by
 subst hN;have hc:=hs.sl.le;refine⟨if cap=0 then oa else oa.map (·.add (0*7)),cap-0,o+0*7,fun z w hz=>?_,fun w hs=>?_⟩
 · subst hz;rw[run_slice_h w 26 oa l.length cap (by rw[Xd];exact Tryz.underlying26) .i64 i (by omega) (by omega),Xd,Tryz.sizeOf28];simp[Result.andThen,sliced,Nat.min_eq_left hi]
 · have:=hs.part (a:=0) (c:=i) (Qs _) hi;rwa [List.drop_zero]at this
theorem Xo {w:World} {h:Nat} {oa:Option Addr} {cap b o:Nat} {l:List Vl} (hs:Zw w h oa cap b o l) {N i:Nat} (hN:l.length=N) (hi:i≤N) :
  ∃ oa' cap' o',(∀ (z:Int) w,z=i→(Instr.slice 26 (.slice oa N cap) (some (.int .i64 z)) none none).run Tryz.prog w=.ok (.slice oa' (l.drop i).length cap') w)∧∀ w,Zw w h oa cap b o l→Zw w h oa' cap' b o' (l.drop i):=by
 subst hN;have hc:=hs.sl.le;refine⟨if cap=i then oa else oa.map (·.add (i*7)),cap-i,o+i*7,fun z w hz=>?_,fun w hs=>?_⟩
 · subst hz;rw[run_slice_l w 26 oa l.length cap (by rw[Xd];exact Tryz.underlying26) .i64 i (by omega) (by omega),Xd,Tryz.sizeOf28];simp[Result.andThen,sliced]
 · have:=hs.part (a:=i) (c:=l.length) hi (Q6 _);rwa [List.take_length]at this
theorem Ph {w:World} {B hh:Nat} {k:Int} (xs:List Ex) (V:Array Value) (hV:V.toList=xs.flatMap J6) (hk:Wj k) (hl:0<xs.length∧xs.length≤8) (hB:B≤w.heap.size) (hx:J3 (· < B) w fun w=>∀ x∈xs,Zy w hh x) :
  J3 (· < B) (w.alloc (.cells V 32)) fun w'=>Zy w' (hh+1) (.mk k 0 0 0 (some ⟨w.heap.size,0,none⟩) w.heap.size 0 xs.length xs):=by
 have hs:V.size=xs.length*5:=by rw[← Array.length_toList,hV,Jg Ej]
 obtain⟨oa,cap,g,hv,hsl,_⟩:=Zx (Vv (base:=0) (n:=xs.length) (size:=5) (Ql.new w 32 V) (Qs _) hs (by unfold maxLen;omega))
 injection hv with e1 _ e3
 subst e1 e3;have e4:=(hsl.lies hl.1).1
 injection e4 with e4
 injection e4 with e4
 subst e4;rw[hV]at hsl;refine Zy.made hk (by unfold U2;decide) (Z1 _ (by decide)) (by omega) hsl (fun _ hb=>?_) (hx.alloc _);have hb:w.heap.size<B:=hb;omega
theorem Q41 {w:World} {g n:Nat} {a b:Et} {ak an ad au bk bn bd bu:Int} {aoa boa:Option Addr} {aL ac bL bc:Nat} (cs:List Value) (hA:Jk (· < n) a (.agg #[.int .i64 ak,.int .i64 an,.int .i64 ad,.int .i64 au,.slice aoa aL ac]) w)
  (hB:Jk (· < n) b (.agg #[.int .i64 bk,.int .i64 bn,.int .i64 bd,.int .i64 bu,.slice boa bL bc]) w) (hg:g<n) (hn:n≤w.heap.size) :
  Jk (· < n) (W3 a b) (.agg #[.int .i64 4,.int .i64 0,.int .i64 0,.int .i64 0,.slice (some ⟨w.heap.size+1,0,none⟩) 2 2]) (((J5 w g 0 cs).alloc (.cells #[.int .i64 bk,.int .i64 bn,.int .i64 bd,.int .i64 bu,.slice boa bL bc] 32)).alloc
   (.cells #[.int .i64 ak,.int .i64 an,.int .i64 ad,.int .i64 au,.slice aoa aL ac,.int .i64 5,.int .i64 0,.int .i64 0,.int .i64 0,.slice (some ⟨w.heap.size,0,none⟩) 1 1] 32)):=by
 obtain⟨xa,ha,hva,rfl,hsa⟩:=hA;obtain⟨xb,hb,hvb,rfl,hsb⟩:=hB;have hs:=Jp cs w g 0;have hpu:=Qm cs w g 0
 have hk:∀ k,some g=some k→k<w.heap.size→k<n:=fun k e _=>by injection e with e;omega
 have sa:=hsa.grown hpu hk;have sb:=hsb.grown hpu hk;generalize J5 w g 0 cs=W at *
 have ea:J6 xa=[.int .i64 ak,.int .i64 an,.int .i64 ad,.int .i64 au,.slice aoa aL ac]:=by injection hva with e;exact(congrArg Array.toList e).symm
 have eb:J6 xb=[.int .i64 bk,.int .i64 bn,.int .i64 bd,.int .i64 bu,.slice boa bL bc]:=by injection hvb with e;exact(congrArg Array.toList e).symm
 have si:=Ph (w:=W) (B:=n) (hh:=hb) (k:=5) [xb] #[.int .i64 bk,.int .i64 bn,.int .i64 bd,.int .i64 bu,.slice boa bL bc] (by simp[eb]) (Z1 _ (by decide)) (by simp) (by omega) (sb.mono fun w hw x hx=>by obtain rfl:=Qh.1 hx;exact hw)
 have hs2:(W.alloc (.cells #[.int .i64 bk,.int .i64 bn,.int .i64 bd,.int .i64 bu,.slice boa bL bc] 32)).heap.size=w.heap.size+1:=by simp[hs]
 have sa2:=sa.alloc (.cells #[.int .i64 bk,.int .i64 bn,.int .i64 bd,.int .i64 bu,.slice boa bL bc] 32);generalize W.alloc _=W2 at *
 have sp:=Ph (w:=W2) (B:=n) (hh:=ha+(hb+1)) (k:=4) [xa,.mk 5 0 0 0 (some ⟨W.heap.size,0,none⟩) W.heap.size 0 1 [xb]] #[.int .i64 ak,.int .i64 an,.int .i64 ad,.int .i64 au,.slice aoa aL ac,.int .i64 5,.int .i64 0,.int .i64 0,.int .i64 0,.slice (some ⟨w.heap.size,0,none⟩) 1 1]
  (by rw[hs];simp[ea];rfl) (Z1 _ (by decide)) (by simp) (by omega) ((sa2.and si).mono fun w hw x hx=>by
    rcases List.mem_cons.1 hx with rfl|hx
    · exact Zy.mono _ _ (by omega) hw.1
    · obtain rfl:=Qh.1 hx
      exact Zy.mono _ _ (by omega) hw.2)
 refine⟨_,_,?_,?_,sp⟩
 · rw[Vr,hs2];rfl
 · simp[Ex.c_mk,W3]
theorem Yg {w w2:World} {g n:Nat} {Y:Option Et} {vk vn vd vu:Int} {voa:Option Addr} {K vc:Nat} {ok:Bool} (hb:Below w.heap.size w w2) (hg:w.heap.size≤g) (hn:g<n) (hok:ok=Y.isSome) (hE:∀ E,Y=some E→Jk (· < n) E (.agg #[.int .i64 vk,.int .i64 vn,.int .i64 vd,.int .i64 vu,.slice voa K vc]) w2) :
  Ys (· < w.heap.size) Y (.returned (.tuple #[.agg #[.int .i64 vk,.int .i64 vn,.int .i64 vd,.int .i64 vu,.slice voa K vc],.bool ok])) (((((w2.setCell ⟨g,0,none⟩ (.int .i64 vk)).setCell ⟨g,1,none⟩ (.int .i64 vn)).setCell ⟨g,2,none⟩ (.int .i64 vd)).setCell ⟨g,3,none⟩ (.int .i64 vu)).setCell ⟨g,4,none⟩ (.slice voa K vc)) ∧
   Below w.heap.size w (((((w2.setCell ⟨g,0,none⟩ (.int .i64 vk)).setCell ⟨g,1,none⟩ (.int .i64 vn)).setCell ⟨g,2,none⟩ (.int .i64 vd)).setCell ⟨g,3,none⟩ (.int .i64 vu)).setCell ⟨g,4,none⟩ (.slice voa K vc)):=by
 have hgz:=Qm [.int .i64 vk,.int .i64 vn,.int .i64 vd,.int .i64 vu,.slice voa K vc] w2 g 0;simp only[J5,Nat.zero_add,Nat.reduceAdd]at hgz;exact⟨⟨_,_,rfl,hok,⟨_,_,_,_,_,_,_,rfl⟩,fun E hE'=>((hE E hE').grown hgz fun q e _=>by injection e with e;show q<n;omega).anti fun b hb=>Or.inl (by have hb:b<w.heap.size:=hb;show b<n;omega)⟩,Jh hb hg _ _ _ _ _⟩
theorem Au {w w6:World} {g n:Nat} {Y X1 X2:Option Et} {ak an ad au bk bn bd bu:Int} {aoa boa:Option Addr} {aL ac bL bc:Nat} {ok1 ok2:Bool} (okk:Bool) (hb:Below w.heap.size w w6) (hg:w.heap.size≤g) (hgn:g<n) (hn:n≤w6.heap.size)
  (hY:(match X1,X2 with
    | some a,some b=>some (W3 a b)
    | _,_=>none)=Y) (h1:ok1=X1.isSome∧ok2=X2.isSome) (hA:∀ E,X1=some E→Jk (· < n) E (.agg #[.int .i64 ak,.int .i64 an,.int .i64 ad,.int .i64 au,.slice aoa aL ac]) w6)
  (hB:∀ E,X2=some E→Jk (· < n) E (.agg #[.int .i64 bk,.int .i64 bn,.int .i64 bd,.int .i64 bu,.slice boa bL bc]) w6) (hk:okk=(ok1&&ok2)) {W:World} (hW:W=((J5 w6 g 0 [.int .i64 4,.int .i64 0,.int .i64 0,.int .i64 0,.slice (some ⟨w6.heap.size+1,0,none⟩) 2 2]).alloc (.cells #[.int .i64 bk,.int .i64 bn,.int .i64 bd,.int .i64 bu,.slice boa bL bc] 32)).alloc
    (.cells #[.int .i64 ak,.int .i64 an,.int .i64 ad,.int .i64 au,.slice aoa aL ac,.int .i64 5,.int .i64 0,.int .i64 0,.int .i64 0,.slice (some ⟨w6.heap.size,0,none⟩) 1 1] 32)) :
  Ys (· < w.heap.size) Y (.returned (.tuple #[.agg #[.int .i64 4,.int .i64 0,.int .i64 0,.int .i64 0,.slice (some ⟨w6.heap.size+1,0,none⟩) 2 2],.bool okk])) W∧Below w.heap.size w W:=by
 subst hW;refine⟨⟨_,_,rfl,?_,⟨_,_,_,_,_,_,_,rfl⟩,fun E hE=>?_⟩,?_⟩
 · rw[hk,h1.1,h1.2,← hY]
   cases X1<;>cases X2<;>rfl
 · rw[← hY]at hE
   cases X1 with
   | none=>cases hE
   | some a=>cases X2 with
     | none=>cases hE
     | some b =>
       obtain rfl:=Q8 hE
       exact(Q41 _ (hA a rfl) (hB b rfl) hgn hn).anti fun b hb=>Or.inl (by have hb:b<w.heap.size:=hb;show b<n;omega)
 · have h:=Jh hb hg (.int .i64 4) (.int .i64 0) (.int .i64 0) (.int .i64 0) (.slice (some ⟨w6.heap.size+1,0,none⟩) 2 2);simp only[J5,Nat.zero_add,Nat.reduceAdd];exact(h.alloc h.size _).alloc (h.alloc h.size _).size _
theorem Hy (h:Nat) (l:List Vl) (oa:Option Addr) (cap b o:Nat) (w:World) (hs:Zw w h oa cap b o l) (n:List UInt8) :
  Calls Tryz.prog 53 #[.string ⟨n.toArray⟩,.slice oa l.length cap] w fun e w'=>Ys (· < w.heap.size) (R9 h n (l.map Vl.c)) e w'∧Below w.heap.size w w':=by
 obtain⟨Y,hY⟩:∃ Y,R9 h n (l.map Vl.c)=Y:=⟨_,rfl⟩;rw[hY];unfold R9 at hY;obtain⟨h4,hb4⟩:=Z2 w 32 #[.int .i64 0,.int .i64 0,.int .i64 0,.int .i64 0,.slice none 0 0];have hs1:=hs.below hb4
 have hw1:(w.alloc (.cells #[.int .i64 0,.int .i64 0,.int .i64 0,.int .i64 0,.slice none 0 0] 32)).heap.size=w.heap.size+1:=by simp
 obtain⟨N,hN⟩:∃ N,l.length=N:=⟨_,rfl⟩;obtain⟨L,hL⟩:∃ L,l.map Vl.c=L:=⟨_,rfl⟩;have HN:=Q1 (Q3 hN hL);rw[hL]at hY;rw[hN];obtain⟨g4,hg4⟩:∃ g,w.heap.size=g:=⟨_,rfl⟩;have HG:=Q1 hg4;rw[hg4]at h4 hw1;have H4:=Q1 h4;have HB4:=Q1 hb4;have HW1:=Q1 hw1;have HS:=Q1 hs1;have HY:=Q1 hY;clear hs hs1 h4 hb4 hw1 hN hL hY
 go_enter Tryz.func53,Tryz.ntmps53
 go_upto_region 1 with fail
 try simp only[hg4]
 clear hg4;generalize w.alloc _=w1 at *
 by_cases hc:n=Di
 · have q0:(n==[99,111,108,111,114])=true:=by rw[hc];rfl
   have hY:=HY.out;rw[if_pos hc]at hY;have hp:=C0 h l oa cap b o w1 HS.out 1 (by decide);rw[HN.out.2,HN.out.1,hY]at hp;have HP:=Q1 hp;clear hY hp hc;go_wp2_with fail
   ((with_reducible refine HP.out.mono ?_);rintro e w2 ⟨⟨v,ok,rfl,hok,⟨vk,vn,vd,vu,voa,vL,vc,rfl⟩,hE⟩,hb2⟩)
   have h42:=H4.out.below hb2 H4.out.lt;have H42:=Q1 h42;have HE:=Q1 (Q3 hok (Q3 hE hb2));obtain⟨c0,f0,c1,f1,c2,f2,c3,f3,c4,f4,l4⟩:=Ql.five h42;clear h42 hok hE hb2;go_wp2_with fail;have hputs:=(H42.out).put5 (.int .i64 vk) (.int .i64 vn) (.int .i64 vd) (.int .i64 vu) (.slice voa vL vc);refine bodyPost_ret (v:=.tuple #[.agg #[.int .i64 vk,.int .i64 vn,.int .i64 vd,.int .i64 vu,.slice voa vL vc],.bool ok]) ?_ rfl ?_
   · refine Zj Tryz.results53 ?_ ?_ hputs rfl
     all_goals rfl
   · exact Yg (J8 HB4 HE.out.2.2).out (Qr HG.out) H4.out.lt HE.out.1 HE.out.2.1
 have q0:(n==[99,111,108,111,114])=false:=beq_eq_false_iff_ne.2 hc;have HC:=Q1 hc;clear hc
 by_cases hr:n=Vp
 · have q1:(n==[97,115,112,101,99,116,45,114,97,116,105,111])=true:=by rw[hr];rfl
   have hY:=HY.out;rw[if_neg HC.out,if_pos hr]at hY;have hp:=Nr 90 (Zr Zi) (enters_of Tryz.func90 (by kernel_rfl) rfl) (fun tk tn td tt ti tid koa K kcap k w=>Av tk tn td tt ti tid koa K kcap w) h l oa cap b o w1 HS.out;unfold Q0j at hY;obtain⟨P,hP⟩:∃ P,L.findIdx? (Zr Zi)=P:=⟨_,rfl⟩;rw[HN.out.2,HN.out.1,hP]at hp;rw[hP]at hY;have HP:=Q1 hp;have HPP:=Q1 hP;clear hp hr hP
   cases P with
   | none =>
     simp only[Kt]at HP;have HY2:=Q1 (show Sa h 1 L=Y from hY);clear hY;go_wp2_with fail
     ((with_reducible refine HP.out.mono ?_);rintro e w2 ⟨rfl,hb2⟩)
     have HB2:=J8 HB4 hb2;have H42:=Q1 (H4.out.below hb2 H4.out.lt);have hp:=C0 h l oa cap b o w2 (HS.out.below hb2) 1 (by decide);rw[HN.out.2,HN.out.1,HY2.out]at hp;have HP2:=Q1 hp;clear hp hb2;go_wp2_with fail
     ((with_reducible refine HP2.out.mono ?_);rintro e w3 ⟨⟨v,ok,rfl,hok,⟨vk,vn,vd,vu,voa,vL,vc,rfl⟩,hE⟩,hb3⟩)
     have h43:=H42.out.below hb3 H42.out.lt;have H43:=Q1 h43;have HE:=Q1 (Q3 hok (Q3 hE hb3));obtain⟨c0,f0,c1,f1,c2,f2,c3,f3,c4,f4,l4⟩:=Ql.five h43;clear h43 hok hE hb3;go_wp2_with fail;have hputs:=(H43.out).put5 (.int .i64 vk) (.int .i64 vn) (.int .i64 vd) (.int .i64 vu) (.slice voa vL vc);refine bodyPost_ret (v:=.tuple #[.agg #[.int .i64 vk,.int .i64 vn,.int .i64 vd,.int .i64 vu,.slice voa vL vc],.bool ok]) ?_ rfl ?_
     · refine Zj Tryz.results53 ?_ ?_ hputs rfl
       all_goals rfl
     · exact Yg (J8 HB2 HE.out.2.2).out (Qr HG.out) H42.out.lt HE.out.1 HE.out.2.1
   | some i =>
     simp only[Kt]at HP
     have hiN:i<N:=by
      have:=(List.findIdx?_eq_some_iff_getElem.1 HPP.out).1;rw[← HN.out.2,Qj,HN.out.1]at this;exact this
     have ij0:(0:Int)≤(i:Int):=Int.natCast_nonneg _
     have gi:decide ((i:Int)<0)=false:=by simp
     have hi63:(i:Int)+1≤9223372036854775807:=by
      have h1:=HS.out.sl.le;have h2:=HS.out.sl.max;rw[HN.out.1]at h1;unfold maxLen at h2;omega
     obtain⟨oa1,cap1,o1,hr1,hv1⟩:=Wt HS.out HN.out.1 (Zg hiN);obtain⟨oa2,cap2,o2,hr2,hv2⟩:=Xo HS.out HN.out.1 (Nat.succ_le_of_lt hiN)
     have hm1:(l.take i).map Vl.c=L.take i:=by rw[← HN.out.2,List.map_take]
     have hm2:(l.drop (i+1)).map Vl.c=L.drop (i+1):=by rw[← HN.out.2,List.map_drop]
     generalize l.take i=D1 at *;generalize l.drop (i+1)=D2 at *
     have hr2:=fun w=>hr2 ((i:Int)+1) w (by omega)
     have hr1:=fun w=>hr1 (i:Int) w rfl
     have HV:=Q1 (Q3 hv1 (Q3 hv2 (Q3 hm1 hm2)))
     have HY2:=Q1 (show (match Sa h 1 (L.take i),Sa h 1 (L.drop (i+1)) with
      | some a,some b=>some (W3 a b)
      | _,_=>none)=Y from hY)
     obtain⟨X1,hX1⟩:∃ X,Sa h 1 (L.take i)=X:=⟨_,rfl⟩;obtain⟨X2,hX2⟩:∃ X,Sa h 1 (L.drop (i+1))=X:=⟨_,rfl⟩;rw[hX1,hX2]at HY2;have HX:=Q1 (Q3 hX1 hX2);clear hY hv1 hv2 hm1 hm2 hX1 hX2;go_wp2_with fail
     ((with_reducible refine HP.out.mono ?_);rintro e w2 ⟨rfl,hb2⟩)
     have HB2:=J8 HB4 hb2;have H42:=Q1 (H4.out.below hb2 H4.out.lt);have hp:=C0 h D1 oa1 cap1 b o1 w2 (HV.out.1 _ (HS.out.below hb2)) 1 (by decide);rw[HV.out.2.2.1,HX.out.1]at hp;have HP2:=Q1 hp;have HS2:=Q1 (HS.out.below hb2);have hw2:=hb2.size;clear hp hb2;go_wp2_with fail
     ((with_reducible refine HP2.out.mono ?_);rintro e w3 ⟨⟨v,ok1,rfl,hok1,⟨ak,an,ad,au,aoa,aL,ac,rfl⟩,hE1⟩,hb3⟩)
     have HE1:=Q1 (Q3 hok1 hE1);have h43:=H42.out.below hb3 H42.out.lt;have HB3:=J8 HB2 hb3
     have hp:=fun w4 (hb4:Below w3.heap.size w3 w4)=>C0 h D2 oa2 cap2 b o2 w4 (HV.out.2.1 _ ((HS2.out.below hb3).below hb4)) 1 (by decide)
     rw[HV.out.2.2.2,HX.out.2]at hp;have HP3:=Q1 hp;have hw3:=hb3.size;clear hp hb3 hok1 hE1
     go_upto_region 9 with fail
     obtain⟨h7,hb4⟩:=Z2 w3 32 #[.int .i64 ak,.int .i64 an,.int .i64 ad,.int .i64 au,.slice aoa aL ac];have HP4:=Q1 (HP3.out _ hb4);have H44:=Q1 (h43.below hb4 h43.lt);have HB5:=J8 HB3 hb4;have HE2:=Q1 (Q3 HE1.out.1 fun E hE=>((HE1.out.2 E hE).below hb4));have hw4:=hb4.size;clear h43 hb4 HP3 HB3 HE1;generalize w3.heap.size=g7 at *;generalize w3.alloc _=w4 at *;have H7:=Q1 h7;clear h7;go_wp2_with fail
     ((with_reducible refine HP4.out.mono ?_);rintro e w5 ⟨⟨v,ok2,rfl,hok2,⟨bk,bn,bd,bu,boa,bL,bc,rfl⟩,hE2⟩,hb5⟩)
     have H75:=Q1 (H7.out.below hb5 H7.out.lt);have h45:=H44.out.below hb5 H44.out.lt;have HE3:=Q1 (Q3 HE2.out.1 (Q3 (fun E hE=>((HE2.out.2 E hE).below hb5)) (Q3 hok2 hE2)));have HB6:=J8 HB5 hb5;clear hb5 hok2 hE2 HE2 HP4 H7 H44 HB5
     go_upto_region 10 with fail
     obtain⟨h9,hb6⟩:=Z2 w5 32 #[.int .i64 bk,.int .i64 bn,.int .i64 bd,.int .i64 bu,.slice boa bL bc];have h46:=h45.below hb6 h45.lt;have h76:=H75.out.below hb6 H75.out.lt;have HB7:=J8 HB6 hb6
     have HE4:=Q1 (show (ok1=X1.isSome∧ok2=X2.isSome)∧(∀ E,X1=some E→Jk (· < w1.heap.size) E (.agg #[.int .i64 ak,.int .i64 an,.int .i64 ad,.int .i64 au,.slice aoa aL ac]) _)∧∀ E,X2=some E→Jk (· < w1.heap.size) E (.agg #[.int .i64 bk,.int .i64 bn,.int .i64 bd,.int .i64 bu,.slice boa bL bc]) _ from
      ⟨⟨HE3.out.1,HE3.out.2.2.1⟩,fun E hE=>((HE3.out.2.1 E hE).below hb6).anti fun b hb=>Or.inl (Qg hb hw2),fun E hE=>((HE3.out.2.2.2 E hE).below hb6).anti fun b hb=>Or.inl (Qg hb (by omega))⟩)
     have hw6:=hb6.size
     have hg79:g7≠w5.heap.size:=by have:=H75.out.lt;omega
     clear h45 hb6 H75 HB6 HE3;have H46:=Q1 h46;generalize w5.heap.size=g9 at *;generalize w5.alloc _=w6 at *;obtain⟨c0,f0,c1,f1,c2,f2,c3,f3,c4,f4,l4⟩:=Ql.five h46;obtain⟨d0,e0,d1,e1,d2,e2,d3,e3,d4,e4,l7⟩:=Ql.five h76;obtain⟨x0,y0,x1,y1,x2,y2,x3,y3,x4,y4,l9⟩:=Ql.five h9;clear h46 h76 h9;have HF:=Q1 (fun okk hk W=>Au (W:=W) okk HB7.out (Qr HG.out) H4.out.lt (show w1.heap.size≤w6.heap.size by omega) HY2.out HE4.out.1 HE4.out.2.1 HE4.out.2.2 hk)
     cases ok1
     · go_wp2_with fail;have hputs:=((H46.out.put5 (.int .i64 4) (.int .i64 0) (.int .i64 0) (.int .i64 0) (.slice (some ⟨w6.heap.size+1,0,none⟩) 2 2)).old (.cells #[.int .i64 bk,.int .i64 bn,.int .i64 bd,.int .i64 bu,.slice boa bL bc] 32)).old (.cells #[.int .i64 ak,.int .i64 an,.int .i64 ad,.int .i64 au,.slice aoa aL ac,.int .i64 5,.int .i64 0,.int .i64 0,.int .i64 0,.slice (some ⟨w6.heap.size,0,none⟩) 1 1] 32);refine bodyPost_ret (v:=.tuple #[.agg #[.int .i64 4,.int .i64 0,.int .i64 0,.int .i64 0,.slice (some ⟨w6.heap.size+1,0,none⟩) 2 2],.bool false]) ?_ rfl ?_
       · refine Zj Tryz.results53 ?_ ?_ hputs rfl
         all_goals rfl
       · exact HF.out _ rfl _ (by simp only[J5,Nat.zero_add,Nat.reduceAdd])
     · go_wp2_with fail;have hputs:=((H46.out.put5 (.int .i64 4) (.int .i64 0) (.int .i64 0) (.int .i64 0) (.slice (some ⟨w6.heap.size+1,0,none⟩) 2 2)).old (.cells #[.int .i64 bk,.int .i64 bn,.int .i64 bd,.int .i64 bu,.slice boa bL bc] 32)).old (.cells #[.int .i64 ak,.int .i64 an,.int .i64 ad,.int .i64 au,.slice aoa aL ac,.int .i64 5,.int .i64 0,.int .i64 0,.int .i64 0,.slice (some ⟨w6.heap.size,0,none⟩) 1 1] 32);refine bodyPost_ret (v:=.tuple #[.agg #[.int .i64 4,.int .i64 0,.int .i64 0,.int .i64 0,.slice (some ⟨w6.heap.size+1,0,none⟩) 2 2],.bool ok2]) ?_ rfl ?_
       · refine Zj Tryz.results53 ?_ ?_ hputs rfl
         all_goals rfl
       · exact HF.out _ rfl _ (by simp only[J5,Nat.zero_add,Nat.reduceAdd])
 have q1:(n==[97,115,112,101,99,116,45,114,97,116,105,111])=false:=beq_eq_false_iff_ne.2 hr;have hY:=HY.out;rw[if_neg HC.out,if_neg hr]at hY;obtain⟨z,hz⟩:∃ z,Xn L=z:=⟨_,rfl⟩;rw[hz]at hY;have HY2:=Q1 hY;have hso:=Eu h l oa cap b o w1 HS.out;rw[HN.out.2,HN.out.1]at hso;have HSO:=Q1 hso;have HZ:=Q1 hz;clear hY hr hz hso;go_wp2_with fail
 ((with_reducible refine HSO.out.mono ?_);rintro e w2 ⟨⟨oa2,cap2,b2,D,rfl,hd,hc⟩,hb2⟩)
 have hz2:(match D.map Vl.c with
  | [v]=>v.tok.kind==10&&v.tok.num==(0,1)
  | _=>false)=z:=by rw[hc,← HZ.out];unfold Xn;rfl
 have HB2:=J8 HB4 hb2;have H42:=Q1 (H4.out.below hb2 H4.out.lt);have hp:=C0 h l oa cap b o w2 (HS.out.below hb2) 2 (by decide);rw[HN.out.2,HN.out.1]at hp;have HP:=Q1 hp;have HD:=Q1 hd;have HZ2:=Q1 hz2;obtain⟨M,hM⟩:∃ M,D.length=M:=⟨_,rfl⟩;rw[hM];have HM:=Q1 hM;clear hp hc hz2 hb2 HSO HZ hd hM
 go_upto_region 12 with fail
 go_cut [75] from 56 to 75 (fun s wx=>s=.bool z∧wx=w2)
 case first =>
  by_cases hN:M=1
  · subst hN;obtain⟨x,rfl⟩:=Zo.1 HM.out;obtain⟨⟨tk,tt,⟨tn,td⟩,ti,tid⟩,koa,kb,ko,kcap,kids⟩:=x;have hd:=HD.out;obtain⟨f0,f1,f2,f3,f4,f5,f6⟩:=hd.row (i:=0) rfl;obtain⟨rfl,hbl⟩:=hd.sl.lies (by simp)
    have hz:(tk==10&&(tn,td)==(0,1))=z:=by rw[← HZ2.out];simp only[List.map_cons,List.map_nil,Vl.c_mk];rfl
    simp only[Nat.zero_mul,Nat.add_zero,Nat.zero_add]at f0 f1 f2 f3 f4 f5 f6;have hcp:=hd.sl.le;rw[HM.out]at hcp;clear hd HD HZ2 HM f4 f5 f6 f1
    by_cases hk:tk=10
    · subst hk;have HZ3:=Q1 (show ((tn,td)==(0,1))=z from hz);clear hz;go_wp2_with fail
      all_goals go_meet
      all_goals exact⟨by rw[← HZ3.out];simp[*],rfl⟩
    · have gk:(tk==10)=false:=beq_eq_false_iff_ne.2 hk;rw[gk]at hz;obtain rfl:false=z:=hz;go_wp2_with fail;go_meet;exact⟨rfl,rfl⟩
  · obtain rfl:false=z:=by
     rw[← HZ2.out]
     match D,(show D.length≠1 by rw[HM.out];exact hN) with
     | [],_=>rfl
     | [_],h=>exact absurd rfl h
     | _::_::_,_=>rfl
    have gk:((M:Int)==(1:Int))=false:=by rw[beq_eq_false_iff_ne];omega
    clear HM HD HZ2;go_wp2_with fail;go_meet;exact⟨rfl,rfl⟩
 case rest =>
  obtain⟨rfl,rfl⟩:=hcut
  cases z with
  | true =>
    obtain rfl:some Es=Y:=HY2.out;obtain⟨c0,f0,c1,f1,c2,f2,c3,f3,c4,f4,l4⟩:=Ql.five H42.out;go_wp2_with fail;have hputs:=(H42.out).put5 (.int .i64 1) (.int .i64 0) (.int .i64 1) (.int .i64 1) (.slice none 0 0);refine bodyPost_ret (v:=.tuple #[.agg #[.int .i64 1,.int .i64 0,.int .i64 1,.int .i64 1,.slice none 0 0],.bool true]) ?_ rfl ?_
    · refine Zj Tryz.results53 ?_ ?_ hputs rfl
      all_goals rfl
    · exact Yg HB2.out (Qr HG.out) H4.out.lt rfl fun E hE=>by obtain rfl:=Q8 hE;exact⟨.mk 1 0 1 1 none 0 0 0 [],1,rfl,rfl,Zy.leaf (Z1 _ (by decide)) (by unfold U2;decide) (Z1 _ (by decide))⟩
  | false =>
    have hY3:Sa h 2 L=Y:=HY2.out;have hp:=HP.out;rw[hY3]at hp;have HP2:=Q1 hp;clear hp hY3 HP;go_wp2_with fail
    ((with_reducible refine HP2.out.mono ?_);rintro e w3 ⟨⟨v,ok,rfl,hok,⟨vk,vn,vd,vu,voa,vL,vc,rfl⟩,hE⟩,hb3⟩)
    have h43:=H42.out.below hb3 H42.out.lt;have H43:=Q1 h43;have HE:=Q1 (Q3 hok (Q3 hE hb3));obtain⟨c0,f0,c1,f1,c2,f2,c3,f3,c4,f4,l4⟩:=Ql.five h43;clear h43 hok hE hb3;go_wp2_with fail;have hputs:=(H43.out).put5 (.int .i64 vk) (.int .i64 vn) (.int .i64 vd) (.int .i64 vu) (.slice voa vL vc);refine bodyPost_ret (v:=.tuple #[.agg #[.int .i64 vk,.int .i64 vn,.int .i64 vd,.int .i64 vu,.slice voa vL vc],.bool ok]) ?_ rfl ?_
    · refine Zj Tryz.results53 ?_ ?_ hputs rfl
      all_goals rfl
    · exact Yg (J8 HB2 HE.out.2.2).out (Qr HG.out) H42.out.lt HE.out.1 HE.out.2.1
def Zl:Array Value:=#[.int .i64 0,.slice none 0 0,.int .i64 0,.int .i64 0,.string ⟨#[]⟩,.int .i64 0,.int .i64 0,.int .i64 0,.int .i64 0,.int .i64 0,.slice none 0 0,.string ⟨#[]⟩,.string ⟨#[]⟩,.bool false]
theorem Gr {g:Nat} {t:TypeId}:∀ (vs post:List Value) (w:World) (o:Nat) (pre:List Value),Ql w g t (pre++post).toArray→pre.length=o→post.length=vs.length→Ql (J5 w g o vs) g t (pre++vs).toArray
 | [],post,w,o,pre,h,_,hl=>by
   obtain rfl:=List.eq_nil_of_length_eq_zero hl;exact h
 | v::vs,[],_,_,_,_,_,hl=>by simp at hl
 | v::vs,p::post,w,o,pre,h,hp,hl=>by
   have h1:=h.put o v
   have e:((pre++p::post).toArray.setIfInBounds o v)=((pre++[v])++post).toArray:=by
    subst hp;simp
   rw[e]at h1;have:=Gr vs post _ (o+1) (pre++[v]) h1 (by simp[hp]) (by simpa using hl);rw[List.append_assoc,List.singleton_append]at this;exact this
theorem V3 (cs:List Value) (w:World) (g o:Nat):Below g w (J5 w g o cs):=by
 have h:=Qm cs w g o
 exact ⟨h.os,h.tape,h.output,h.size,fun b hb=>by
  by_cases h2:b<w.heap.size
  · exact h.block b h2 (fun e=>by have:=Q8 e;omega)
  · rw[Array.getElem?_eq_none (by rw[Jp];omega),Array.getElem?_eq_none (by omega)]⟩
theorem Ql.put14 {w:World} {g:Nat} {t:TypeId} (h:Ql w g t Zl) (v0 v1 v2 v3 v4 v5 v6 v7 v8 v9 v10 v11 v12 v13:Value):Ql (((((((((((((((w).setCell ⟨g,0,none⟩ v0).setCell ⟨g,1,none⟩ v1).setCell ⟨g,2,none⟩ v2).setCell ⟨g,3,none⟩ v3).setCell ⟨g,4,none⟩ v4).setCell ⟨g,5,none⟩ v5).setCell ⟨g,6,none⟩ v6).setCell ⟨g,7,none⟩ v7).setCell ⟨g,8,none⟩ v8).setCell ⟨g,9,none⟩ v9).setCell ⟨g,10,none⟩ v10).setCell ⟨g,11,none⟩ v11).setCell ⟨g,12,none⟩ v12).setCell ⟨g,13,none⟩ v13) g t #[v0,v1,v2,v3,v4,v5,v6,v7,v8,v9,v10,v11,v12,v13]:=by
 have hz:=Gr [v0,v1,v2,v3,v4,v5,v6,v7,v8,v9,v10,v11,v12,v13] Zl.toList w 0 [] h rfl rfl;simp only[J5,Nat.zero_add,Nat.reduceAdd]at hz;exact hz
theorem Ql.z14 {w:World} {g:Nat} {t:TypeId} (h:Ql w g t Zl):w.cell? ⟨g,0,none⟩=some (.int .i64 0)∧w.frozen? ⟨g,0,none⟩=false∧w.cell? ⟨g,1,none⟩=some (.slice none 0 0)∧w.frozen? ⟨g,1,none⟩=false∧w.cell? ⟨g,2,none⟩=some (.int .i64 0)∧w.frozen? ⟨g,2,none⟩=false∧w.cell? ⟨g,3,none⟩=some (.int .i64 0)∧w.frozen? ⟨g,3,none⟩=false∧w.cell? ⟨g,4,none⟩=some (.string ⟨#[]⟩)∧w.frozen? ⟨g,4,none⟩=false∧w.cell? ⟨g,5,none⟩=some (.int .i64 0)∧w.frozen? ⟨g,5,none⟩=false∧w.cell? ⟨g,6,none⟩=some (.int .i64 0)∧w.frozen? ⟨g,6,none⟩=false∧w.cell? ⟨g,7,none⟩=some (.int .i64 0)∧w.frozen? ⟨g,7,none⟩=false∧w.cell? ⟨g,8,none⟩=some (.int .i64 0)∧w.frozen? ⟨g,8,none⟩=false∧w.cell? ⟨g,9,none⟩=some (.int .i64 0)∧w.frozen? ⟨g,9,none⟩=false∧w.cell? ⟨g,10,none⟩=some (.slice none 0 0)∧w.frozen? ⟨g,10,none⟩=false∧w.cell? ⟨g,11,none⟩=some (.string ⟨#[]⟩)∧w.frozen? ⟨g,11,none⟩=false∧w.cell? ⟨g,12,none⟩=some (.string ⟨#[]⟩)∧w.frozen? ⟨g,12,none⟩=false∧w.cell? ⟨g,13,none⟩=some (.bool false)∧w.frozen? ⟨g,13,none⟩=false∧g<w.heap.size:=Ql.many14 h
theorem Rr:(Tryz.prog.info? 36).map (·.size)=some 14:=by kernel_rfl
theorem Q0f {w:World} {g:Nat} {t:TypeId} {cs:Array Value} (h:Ql w g t cs) (hs:cs.size=14):(loadVar 36 ⟨g,0,none⟩).run Tryz.prog w=.ok (.agg cs) w :=
 run_loadVar_row w g t _ cs (0,0) _ h Tryz.underlying36 rfl (by rw[hs];exact Rr)
theorem Ey {fn:Func} {p:Tmp} {tmps:Array Value} {w:World} {g:Nat} {t:TypeId} {cs:Array Value} (hr:fn.results=#[.cell p 36]) (hp:tmps.getD p undef=.pointer (some ⟨g,0,none⟩)) (h:Ql w g t cs) (hs:cs.size=14):(results fn tmps).run Tryz.prog w=.ok (.agg cs) w :=
 results_cell_row hr tmps w g t cs (0,0) _ hp h Tryz.underlying36 rfl (by rw[hs];exact Rr)
theorem Zq {fn:Func} {p u:Tmp} {tmps:Array Value} {w:World} {g:Nat} {t:TypeId} {cs:Array Value} {x:Value} (hr:fn.results=#[.cell p 36,.tmp u]) (hp:tmps.getD p undef=.pointer (some ⟨g,0,none⟩)) (hu:tmps.getD u undef=x) (h:Ql w g t cs) (hs:cs.size=14):(results fn tmps).run Tryz.prog w=.ok (.tuple #[.agg cs,x]) w:=by
 rw[results_cell_tmp hr,hp,hu];simp only[asAddr,Sem.run_pure,Result.andThen_ok,Q0f h hs]
def O7 (v:Value):Prop:=∃ (k:Int) (oa:Option Addr) (n cap:Nat) (k2 t:Int) (nm:ByteArray) (op e0 e1 e2 e3:Int) (ea:Option Addr) (en ec:Nat) (wd vl:ByteArray) (an:Bool),v=.agg #[.int .i64 k,.slice oa n cap,.int .i64 k2,.int .i64 t,.string nm,.int .i64 op,.int .i64 e0,.int .i64 e1,.int .i64 e2,.int .i64 e3,.slice ea en ec,.string wd,.string vl,.bool an]
theorem Vj.c14 {A:Nat→Prop} {C:Ct} {v:Value} {w:World} (h:Vj A C v w):O7 v:=by
 obtain⟨k,oa,n,cap,⟨k2,t,nm,op,e0,e1,e2,e3,ea,en,ec,wd,vl,an⟩,rfl⟩:=h.cells;exact⟨_,_,_,_,_,_,_,_,_,_,_,_,_,_,_,_,_,_,rfl⟩
def Bw (A:Nat→Prop) (r:Option Ct) (e:Ending) (w:World):Prop:=∃ (v:Value) (ok:Bool),e=.returned (.tuple #[v,.bool ok])∧ok=r.isSome∧O7 v∧∀ C,r=some C→Vj A C v w
theorem Uq {w w2:World} {g n:Nat} {Y:Option Ct} {ok:Bool} {v0 v1 v2 v3 v4 v5 v6 v7 v8 v9 v10 v11 v12 v13:Value} (hb:Below w.heap.size w w2) (hg:w.heap.size≤g) (hn:g<n) (hok:ok=Y.isSome) (h14:O7 (.agg #[v0,v1,v2,v3,v4,v5,v6,v7,v8,v9,v10,v11,v12,v13])) (hE:∀ C,Y=some C→Vj (· < n) C (.agg #[v0,v1,v2,v3,v4,v5,v6,v7,v8,v9,v10,v11,v12,v13]) w2) {W:World} (hW:W=((((((((((((((w2).setCell ⟨g,0,none⟩ v0).setCell ⟨g,1,none⟩ v1).setCell ⟨g,2,none⟩ v2).setCell ⟨g,3,none⟩ v3).setCell ⟨g,4,none⟩ v4).setCell ⟨g,5,none⟩ v5).setCell ⟨g,6,none⟩ v6).setCell ⟨g,7,none⟩ v7).setCell ⟨g,8,none⟩ v8).setCell ⟨g,9,none⟩ v9).setCell ⟨g,10,none⟩ v10).setCell ⟨g,11,none⟩ v11).setCell ⟨g,12,none⟩ v12).setCell ⟨g,13,none⟩ v13) :
  Bw (· < w.heap.size) Y (.returned (.tuple #[.agg #[v0,v1,v2,v3,v4,v5,v6,v7,v8,v9,v10,v11,v12,v13],.bool ok])) W∧Below w.heap.size w W:=by
 have hgz:=Qm [v0,v1,v2,v3,v4,v5,v6,v7,v8,v9,v10,v11,v12,v13] w2 g 0;have hbz:=hb.trans ((V3 [v0,v1,v2,v3,v4,v5,v6,v7,v8,v9,v10,v11,v12,v13] w2 g 0).mono hg);simp only[J5,Nat.zero_add,Nat.reduceAdd]at hgz hbz;subst hW;exact⟨⟨_,_,rfl,hok,h14,fun C hC=>((hE C hC).grown hgz fun q e _=>by injection e with e;show q<n;omega).anti fun b hb=>Or.inl (by have hb:b<w.heap.size:=hb;show b<n;omega)⟩,hbz⟩
theorem Ql.zput {w:World} {g:Nat} {t:TypeId} (h:Ql w g t Zl):Ql (((((((((((((((w).setCell ⟨g,0,none⟩ (.int .i64 0)).setCell ⟨g,1,none⟩ (.slice none 0 0)).setCell ⟨g,2,none⟩ (.int .i64 0)).setCell ⟨g,3,none⟩ (.int .i64 0)).setCell ⟨g,4,none⟩ (.string ⟨#[]⟩)).setCell ⟨g,5,none⟩ (.int .i64 0)).setCell ⟨g,6,none⟩ (.int .i64 0)).setCell ⟨g,7,none⟩ (.int .i64 0)).setCell ⟨g,8,none⟩ (.int .i64 0)).setCell ⟨g,9,none⟩ (.int .i64 0)).setCell ⟨g,10,none⟩ (.slice none 0 0)).setCell ⟨g,11,none⟩ (.string ⟨#[]⟩)).setCell ⟨g,12,none⟩ (.string ⟨#[]⟩)).setCell ⟨g,13,none⟩ (.bool false)) g t #[.int .i64 0,.slice none 0 0,.int .i64 0,.int .i64 0,.string ⟨#[]⟩,.int .i64 0,.int .i64 0,.int .i64 0,.int .i64 0,.int .i64 0,.slice none 0 0,.string ⟨#[]⟩,.string ⟨#[]⟩,.bool false]:=h.put14 (.int .i64 0) (.slice none 0 0) (.int .i64 0) (.int .i64 0) (.string ⟨#[]⟩) (.int .i64 0) (.int .i64 0) (.int .i64 0) (.int .i64 0) (.int .i64 0) (.slice none 0 0) (.string ⟨#[]⟩) (.string ⟨#[]⟩) (.bool false)
theorem Jr {w w2:World} {g:Nat} {Y:Option Ct} (hb:Below w.heap.size w w2) (hg:w.heap.size≤g) (hY:Y=none) {W:World} (hW:W=((((((((((((((w2).setCell ⟨g,0,none⟩ (.int .i64 0)).setCell ⟨g,1,none⟩ (.slice none 0 0)).setCell ⟨g,2,none⟩ (.int .i64 0)).setCell ⟨g,3,none⟩ (.int .i64 0)).setCell ⟨g,4,none⟩ (.string ⟨#[]⟩)).setCell ⟨g,5,none⟩ (.int .i64 0)).setCell ⟨g,6,none⟩ (.int .i64 0)).setCell ⟨g,7,none⟩ (.int .i64 0)).setCell ⟨g,8,none⟩ (.int .i64 0)).setCell ⟨g,9,none⟩ (.int .i64 0)).setCell ⟨g,10,none⟩ (.slice none 0 0)).setCell ⟨g,11,none⟩ (.string ⟨#[]⟩)).setCell ⟨g,12,none⟩ (.string ⟨#[]⟩)).setCell ⟨g,13,none⟩ (.bool false)) :
  Bw (· < w.heap.size) Y (.returned (.tuple #[.agg #[.int .i64 0,.slice none 0 0,.int .i64 0,.int .i64 0,.string ⟨#[]⟩,.int .i64 0,.int .i64 0,.int .i64 0,.int .i64 0,.int .i64 0,.slice none 0 0,.string ⟨#[]⟩,.string ⟨#[]⟩,.bool false],.bool false])) W∧Below w.heap.size w W :=
 Uq hb hg (Nat.lt_succ_self g) (by rw[hY];rfl) ⟨_,_,_,_,_,_,_,_,_,_,_,_,_,_,_,_,_,_,rfl⟩ (fun C hC=>by rw[hY]at hC;cases hC) hW
theorem Bh {A:Nat→Prop} {w:World} {E:Et} {vk vn vd vu:Int} {voa:Option Addr} {vL vc:Nat} (n:List UInt8) (op:Int) (h:Jk A E (.agg #[.int .i64 vk,.int .i64 vn,.int .i64 vd,.int .i64 vu,.slice voa vL vc]) w) (ho:Wj op) :
  Vj A (Vx n op E) (.agg #[.int .i64 4,.slice none 0 0,.int .i64 4,.int .i64 0,.string ⟨n.toArray⟩,.int .i64 op,.int .i64 vk,.int .i64 vn,.int .i64 vd,.int .i64 vu,.slice voa vL vc,.string ⟨#[]⟩,.string ⟨#[]⟩,.bool false]) w:=by
 obtain⟨x,hh,hv,hc,hs⟩:=h;have hl:=Q0g (A:=A) (w:=w) 4 0 ⟨n.toArray⟩ op ⟨#[]⟩ ⟨#[]⟩ false (Z1 _ (by decide)) (Z1 _ (by decide)) ho hc hs
 have e:cv (.mk 4 none 0 0 0 [] ⟨4,0,⟨n.toArray⟩,op,x,⟨#[]⟩,⟨#[]⟩,false⟩)=.agg #[.int .i64 4,.slice none 0 0,.int .i64 4,.int .i64 0,.string ⟨n.toArray⟩,.int .i64 op,.int .i64 vk,.int .i64 vn,.int .i64 vd,.int .i64 vu,.slice voa vL vc,.string ⟨#[]⟩,.string ⟨#[]⟩,.bool false]:=by
  obtain⟨a,b,c,d,oa,g,o,cap,kids⟩:=x;rw[Vr]at hv;simp only[Value.agg.injEq,Array.mk.injEq,List.cons.injEq,Value.int.injEq,Value.slice.injEq,true_and,and_true]at hv;obtain⟨rfl,rfl,rfl,rfl,rfl,rfl,rfl⟩:=hv;rfl
 rw[e]at hl;exact hl
theorem Bs (A:Nat→Prop) (w:World) (k:Int) (n wd:List UInt8) (hk:0≤k∧k≤8) :
  Vj A (O3 { lt0 with kind:=k,name:=n,word:=wd }) (.agg #[.int .i64 4,.slice none 0 0,.int .i64 k,.int .i64 0,.string ⟨n.toArray⟩,.int .i64 0,.int .i64 0,.int .i64 0,.int .i64 0,.int .i64 0,.slice none 0 0,.string ⟨wd.toArray⟩,.string ⟨#[]⟩,.bool false]) w :=
 Q0g (A:=A) (w:=w) (x:=.mk 0 0 0 0 none 0 0 0 []) (hx:=1) k 0 ⟨n.toArray⟩ 0 ⟨wd.toArray⟩ ⟨#[]⟩ false (Z1 _ hk) (Z1 _ (by decide)) (Z1 _ (by decide)) rfl (Zy.leaf (Z1 _ (by decide)) (by unfold U2;decide) (Z1 _ (by decide)))
theorem Gb (k t op e0 e1 e2 e3:Int) (nm wd vl:ByteArray) (ea:Option Addr) (en ec:Nat) (an:Bool) (w:World) :
  Calls Tryz.prog 18 #[.agg #[.int .i64 k,.int .i64 t,.string nm,.int .i64 op,.int .i64 e0,.int .i64 e1,.int .i64 e2,.int .i64 e3,.slice ea en ec,.string wd,.string vl,.bool an]] w fun e w' =>
   e=.returned (.agg #[.int .i64 4,.slice none 0 0,.int .i64 k,.int .i64 t,.string nm,.int .i64 op,.int .i64 e0,.int .i64 e1,.int .i64 e2,.int .i64 e3,.slice ea en ec,.string wd,.string vl,.bool an])∧Below w.heap.size w w':=by
 have hb:=Ql.new2 w (.cells #[.int .i64 k,.int .i64 t,.string nm,.int .i64 op,.int .i64 e0,.int .i64 e1,.int .i64 e2,.int .i64 e3,.slice ea en ec,.string wd,.string vl,.bool an] 34) 36 #[.int .i64 4,.slice none 0 0,.int .i64 k,.int .i64 t,.string nm,.int .i64 op,.int .i64 e0,.int .i64 e1,.int .i64 e2,.int .i64 e3,.slice ea en ec,.string wd,.string vl,.bool an];have HB:=Q1 hb;clear hb
 go_enter Tryz.func18,Tryz.ntmps18
 go_wp2_with fail;exact bodyPost_ret (Ey Tryz.results18 rfl HB.out rfl) rfl ⟨rfl,(Q7 w _).alloc (by simp) _⟩
theorem Fj (op:Int) (w:World) (ho:0≤op∧op≤6):Calls Tryz.prog 57 #[.int .i64 op] w fun e w'=>e=.returned (.int .i64 (6-op))∧w=w':=by
 go_enter Tryz.func57,Tryz.ntmps57
 go_wp2_with fail;go_ret;exact⟨rfl,rfl⟩
theorem Na (h:Nat) (l:List Vl) (oa:Option Addr) (cap b o:Nat) (w:World) (hs:Zw w h oa cap b o l) (n:List UInt8) (op:Int) (ho:Wj op) :
  Calls Tryz.prog 56 #[.string ⟨n.toArray⟩,.int .i64 op,.slice oa l.length cap] w fun e w'=>Bw (· < w.heap.size) (Q54 h n op (l.map Vl.c)) e w'∧Below w.heap.size w w':=by
 obtain⟨Y,hY⟩:∃ Y,Q54 h n op (l.map Vl.c)=Y:=⟨_,rfl⟩;rw[hY];unfold Q54 at hY;obtain⟨h6,hb6⟩:=Z2 w 36 Zl
 have hw1:(w.alloc (.cells Zl 36)).heap.size=w.heap.size+1:=by simp
 have hp:=Hy h l oa cap b o _ (hs.below hb6) n;obtain⟨N,hN⟩:∃ N,l.length=N:=⟨_,rfl⟩;obtain⟨L,hL⟩:∃ L,l.map Vl.c=L:=⟨_,rfl⟩;rw[hN,hL]at hp;rw[hL]at hY;rw[hN];obtain⟨g,hg⟩:∃ g,w.heap.size=g:=⟨_,rfl⟩;have HG:=Q1 hg;rw[hg]at h6 hw1;have HP:=Q1 hp;have H6:=Q1 h6;have HB6:=Q1 hb6;have HW1:=Q1 hw1;have HY:=Q1 hY;have HO:=Q1 ho;clear hs h6 hb6 hw1 hN hL hY hp ho;simp only[Zl]at HP HB6 HW1 H6;have HR:=Q1 (Wv n)
 go_enter Tryz.func56,Tryz.ntmps56
 go_upto_region 1 with fail
 try simp only[hg]
 clear hg;generalize w.alloc _=w1 at *;obtain⟨r,hr⟩:∃ r,V5 n=r:=⟨_,rfl⟩;rw[hr]at HR HY;clear hr;obtain⟨c0,fc0,c1,fc1,c2,fc2,c3,fc3,c4,fc4,c5,fc5,c6,fc6,c7,fc7,c8,fc8,c9,fc9,c10,fc10,c11,fc11,c12,fc12,c13,fc13,lc⟩:=Ql.z14 (H6.out)
 cases r with
 | false =>
   obtain rfl:none=Y:=HY.out;go_wp2_with fail
   ((with_reducible refine(HR.out _).mono ?_);rintro e w2 ⟨rfl,rfl⟩)
   go_wp2_with fail;refine bodyPost_ret (v:=.tuple #[.agg #[.int .i64 0,.slice none 0 0,.int .i64 0,.int .i64 0,.string ⟨#[]⟩,.int .i64 0,.int .i64 0,.int .i64 0,.int .i64 0,.int .i64 0,.slice none 0 0,.string ⟨#[]⟩,.string ⟨#[]⟩,.bool false],.bool false]) ?_ rfl ?_
   · exact Zq Tryz.results56 rfl rfl (Ql.zput (H6.out)) rfl
   · exact Jr (HB6.out) (Qr HG.out) (rfl) rfl
 | true =>
   have HY2:=Q1 (show (R9 h n L).map (Vx n op)=Y from HY.out);go_wp2_with fail
   ((with_reducible refine(HR.out _).mono ?_);rintro e w2 ⟨rfl,rfl⟩)
   go_wp2_with fail
   ((with_reducible refine HP.out.mono ?_);rintro e w2 ⟨⟨v,ok,rfl,hok,⟨vk,vn,vd,vu,voa,vL,vc,rfl⟩,hE⟩,hb2⟩)
   have HE:=Q1 (Q3 hok (Q3 hE hb2));have h62:=H6.out.below hb2 H6.out.lt;clear hok hE hb2;clear c0 fc0 c1 fc1 c2 fc2 c3 fc3 c4 fc4 c5 fc5 c6 fc6 c7 fc7 c8 fc8 c9 fc9 c10 fc10 c11 fc11 c12 fc12 c13 fc13 lc
   go_upto_region 4 with fail
   obtain⟨h8,hb3⟩:=Z2 w2 32 #[.int .i64 vk,.int .i64 vn,.int .i64 vd,.int .i64 vu,.slice voa vL vc];have h63:=h62.below hb3 h62.lt;have HB3:=J8 (J8 HB6 HE.out.2.2) hb3;have HE2:=Q1 (Q3 HE.out.1 fun E hE=>(HE.out.2.1 E hE).below hb3)
   have hg8:w2.heap.size≠g:=by have:=h62.lt;omega
   clear h62 hb3 HE HP;generalize w2.heap.size=g8 at *;generalize w2.alloc _=w3 at *;obtain⟨d0,e0,d1,e1,d2,e2,d3,e3,d4,e4,l8⟩:=Ql.five h8;have H63:=Q1 h63;clear h8 h63;go_wp2_with fail
   ((with_reducible refine(Gb 4 0 op vk vn vd vu _ _ _ voa vL vc false _).mono ?_);rintro e w4 ⟨rfl,hb4⟩)
   have H64:=Q1 (H63.out.below hb4 H63.out.lt);have HE3:=Q1 (Q3 HE2.out.1 fun E hE=>(HE2.out.2 E hE).below hb4);have HB4:=J8 HB3 hb4;clear d0 e0 d1 e1 d2 e2 d3 e3 d4 e4 l8 hb4 H63 HE2 HB3;obtain⟨c0,fc0,c1,fc1,c2,fc2,c3,fc3,c4,fc4,c5,fc5,c6,fc6,c7,fc7,c8,fc8,c9,fc9,c10,fc10,c11,fc11,c12,fc12,c13,fc13,lc⟩:=Ql.z14 (H64.out);go_wp2_with fail;refine bodyPost_ret (v:=.tuple #[.agg #[.int .i64 4,.slice none 0 0,.int .i64 4,.int .i64 0,.string ⟨n.toArray⟩,.int .i64 op,.int .i64 vk,.int .i64 vn,.int .i64 vd,.int .i64 vu,.slice voa vL vc,.string ⟨#[]⟩,.string ⟨#[]⟩,.bool false],.bool ok]) ?_ rfl ?_
   · exact Zq Tryz.results56 rfl rfl (H64.out.put14 _ _ _ _ _ _ _ _ _ _ _ _ _ _) rfl
   · exact Uq HB4.out (Qr HG.out) H6.out.lt (by rw[HE3.out.1,← HY2.out];cases R9 h n L<;>rfl) ⟨_,_,_,_,_,_,_,_,_,_,_,_,_,_,_,_,_,_,rfl⟩ (fun C hC=>by rw[← HY2.out]at hC;obtain⟨E,hE,rfl⟩:=Option.map_eq_some_iff.1 hC;exact Bh n op (HE3.out.2 E hE) HO.out) rfl
def Yq (v:Vt) (wide:Bool):Option (Int×Nat):=if Zr Oc v then some (3,1) else if Zr ltS v then (if wide then some (2,2) else some (1,1)) else if Zr gtS v then (if wide then some (4,2) else some (5,1)) else none
def Xj (l:List Vt) (i:Nat):Bool:=(l[i]?.map (Zr Oc)).getD false
theorem S7 (i:Nat) (v:Vt) (r:List Vt):Un i (v::r)=match Yq v (Xj r 0) with
  | some (op,n)=>(op,i,i+n)::Un (i+n) (r.drop (n-1))
  | none=>Un (i+1) r:=by
 unfold Yq
 match r with
 | []=>cases h0:Zr Oc v<;>cases h1:Zr ltS v<;>cases h2:Zr gtS v<;>simp[Un,Yq,Xj,h0,h1,h2]
 | x::r=>cases h0:Zr Oc v<;>cases h1:Zr ltS v<;>cases h2:Zr gtS v<;>cases h3:Zr Oc x<;>simp[Un,Yq,Xj,h0,h1,h2,h3]
theorem Hl {v:Vt} {wide:Bool} {op:Int} {n:Nat} (h:Yq v wide=some (op,n)):1≤n∧n≤2∧1≤op∧op≤5∧(n=2→wide=true):=by
 unfold Yq at h
 cases wide<;>cases h0:Zr Oc v<;>cases h1:Zr ltS v<;>cases h2:Zr gtS v<;>simp[h0,h1,h2]at h<;>(obtain⟨rfl,rfl⟩:=h;simp)
theorem Q46 {L:List Vt} {i:Nat} {v:Vt} (h:L[i]?=some v):Un i (L.drop i)=match Yq v (Xj L (i+1)) with
  | some (op,n)=>(op,i,i+n)::Un (i+n) (L.drop (i+n))
  | none=>Un (i+1) (L.drop (i+1)):=by
 have hd:L.drop i=v::L.drop (i+1):=by
  obtain⟨hi,rfl⟩:=Qn.1 h;exact Qv hi
 have hw:Xj (L.drop (i+1)) 0=Xj L (i+1):=by unfold Xj;rw[List.getElem?_drop,Nat.add_zero]
 rw[hd,S7,hw]
 cases hs:Yq v (Xj L (i+1)) with
 | none=>rfl
 | some x =>
   obtain⟨op,n⟩:=x;have:=Hl hs;simp only[List.drop_drop];rw[show i+1+(n-1)=i+n by omega]
def Ib (x:Int×Nat×Nat):List Value:=[.int .i64 x.1,.int .i64 (x.2.1:Int),.int .i64 (x.2.2:Int)]
theorem Q8g:El 89 92 (.agg #[.int .i64 0,.int .i64 0,.int .i64 0]) 3 24:=⟨Tryz.underlying89,by kernel_rfl,rfl,by decide⟩
theorem S6 {w w':World} {base:Nat} {e:TypeId} {size:Nat} {v:Value} {n:Nat} {xs:List Value} (h:w.ownsRow base e size v n xs) (hb:Below w.heap.size w w'):w'.ownsRow base e size v n xs :=
 h.kept (Qc hb none) (by cases v.ownBlock<;>simp)
theorem Ku (h:Nat) (l:List Vl) (oa:Option Addr) (cap bb o:Nat) (w:World) (hs:Zw w h oa cap bb o l) :
  Calls Tryz.prog 55 #[.slice oa l.length cap] w fun e w'=>(∃ v,e=.returned v∧w'.ownsRow w.heap.size 92 3 v (Un 0 (l.map Vl.c)).length ((Un 0 (l.map Vl.c)).flatMap Ib))∧Below w.heap.size w w':=by
 obtain⟨N,hN⟩:∃ N,l.length=N:=⟨_,rfl⟩;obtain⟨L,hL⟩:∃ L,l.map Vl.c=L:=⟨_,rfl⟩;rw[hN,hL];have hsm:=hs.small;have hcl:=hs.sl.le;have hcm:=hs.sl.max;unfold maxLen at hcm;rw[hN]at hsm hcl;have HS:=Q1 hs;have HL:=Q1 (Q3 hN hL);clear hs hN hL
 go_enter Tryz.func55,Tryz.ntmps55
 go_wp2_with fail
 go_loopg [3,4] N (fun q s3 s4 wr=>∃ (i:Nat) (D:List (Int×Nat×Nat)),s4=.int .i64 i∧Hid (Below w.heap.size w wr)∧Hid (wr.ownsRow w.heap.size 92 3 s3 D.length (D.flatMap Ib))∧Hid (Un 0 L=D++Un i (L.drop i))∧D.length≤i∧i≤N∧N-i≤q)
 case atStart=>exact⟨0,[],rfl,Q1 (Below.refl _ _),Q1 (World.ownsRow_nil _ _ _ _),Q1 rfl,Q6 _,Qs _,Q6 _⟩
 case round =>
  obtain⟨i,D,rfl,hB,hO,hD,hDi,hiN,hq⟩:=hrel
  by_cases hi:i<N
  · have gi:decide ((i:Int)<(N:Int))=true:=by simpa using hi
    have gin:decide (i<N)=true:=by simpa using hi
    have ij0:(0:Int)≤(i:Int):=Int.natCast_nonneg _
    have ijN:(i:Int)<(N:Int):=by omega
    have hi63:(i:Int)+2≤9223372036854775807:=by omega
    have hil:i<l.length:=by rw[HL.out.1];exact hi
    have hli:l[i]?=some l[i]:=Q9 hil;obtain⟨x,hx⟩:∃ x,l[i]=x:=⟨_,rfl⟩;rw[hx]at hli
    have hLi:L[i]?=some x.c:=by rw[← HL.out.2,Z5,hli];rfl
    go_upto_region 6 with fail
    obtain⟨h5,hb5⟩:=Z2 wr 92 #[.int .i64 0,.int .i64 (i:Int),.int .i64 ((i:Int)+1)];have hvs:=(HS.out.below hB.out).below hb5;have hlies:=hvs.sl.lies (by omega);have hbr:=((HS.out.below hB.out).sl.lies (by omega)).2;have HB5:=Q1 hb5;generalize hg5:wr.heap.size=g5 at *;have HG5:=Q1 hg5;clear hg5 hb5;generalize wr.alloc _=w5 at *;obtain⟨wd,hwd⟩:∃ b,Xj L (i+1)=b:=⟨_,rfl⟩;have hst:=Q46 hLi;rw[hwd]at hst;obtain⟨⟨tk,tt,⟨tn,td⟩,ti,tid⟩,koa,kb,ko,kcap,kids⟩:=x;rw[Vl.c_mk]at hst
    have hE:=fun w=>Kz 61 tk tn td tt ti tid koa kids.length kcap w
    have hT:=fun w=>Kz 60 tk tn td tt ti tid koa kids.length kcap w
    have hG:=fun w=>Kz 62 tk tn td tt ti tid koa kids.length kcap w
    obtain⟨e0,he0⟩:∃ b,(tk==9&&tt==[61])=b:=⟨_,rfl⟩;obtain⟨e1,he1⟩:∃ b,(tk==9&&tt==[60])=b:=⟨_,rfl⟩;obtain⟨e2,he2⟩:∃ b,(tk==9&&tt==[62])=b:=⟨_,rfl⟩;rw[he0]at hE;rw[he1]at hT;rw[he2]at hG
    have hso:Yq (.mk ⟨tk,tt,(tn,td),ti,tid⟩ (kids.map Vl.c)) wd=if e0 then some (3,1) else if e1 then (if wd then some (2,2) else some (1,1)) else if e2 then (if wd then some (4,2) else some (5,1)) else none:=by
     rw[← he0,← he1,← he2];rfl
    obtain⟨so,hso2⟩:∃ s,Yq (.mk ⟨tk,tt,(tn,td),ti,tid⟩ (kids.map Vl.c)) wd=s:=⟨_,rfl⟩
    have hle:∀ op n,so=some (op,n)→1≤n∧n≤2∧1≤op∧op≤5∧(n=2→wd=true):=fun op n e=>Hl (hso2.trans e)
    rw[hso2]at hst hso;obtain⟨f0,f1,f2,f3,f4,f5,f6⟩:=hvs.row hli;generalize kids.length=K at *;have HV:=Q1 hvs;have HE:=Q1 hE;have HT:=Q1 hT;have HG:=Q1 hG;have HST:=Q1 (Q3 hst (Q3 hso hle));have HWD:=Q1 hwd;have hlt5:=h5.lt;have H5:=Q1 h5;clear hvs hli hil hx hLi hwd hst hE hT hG he0 he1 he2 hso hso2 hle h5;obtain⟨rfl,hbl⟩:=hlies
    go_cut [6] from 17 to 29 (fun s wx=>s=.bool wd∧Hid (Below w5.heap.size w5 wx))
    case first =>
     by_cases hi1:i+1<N
     · have gi1:decide ((i:Int)+1<(N:Int))=true:=by simp;omega
       have hil:i+1<l.length:=by rw[HL.out.1];exact hi1
       have hli:l[i+1]?=some l[i+1]:=Q9 hil;obtain⟨x,hx⟩:∃ x,l[i+1]=x:=⟨_,rfl⟩;rw[hx]at hli
       have hLi:L[i+1]?=some x.c:=by rw[← HL.out.2,Z5,hli];rfl
       obtain⟨⟨xk,xt,⟨xn,xd⟩,xi,xid⟩,xoa,xb,xo,xcap,kids⟩:=x;obtain⟨y0,y1,y2,y3,y4,y5,y6⟩:=HV.out.row hli
       have hw:(xk==9&&xt==[61])=wd:=by rw[← HWD.out];unfold Xj;rw[hLi,Vl.c_mk];rfl
       have hS:=fun w=>Kz 61 xk xn xd xt xi xid xoa kids.length xcap w
       rw[hw]at hS;have HSS:=Q1 hS;generalize kids.length=K2 at *;clear hli hil hx hLi hw hS f0 f1 f2 f3 f4 f5 f6;go_wp2_with fail
       ((with_reducible refine(HSS.out _).mono ?_);rintro e w6 ⟨rfl,hb6⟩)
       have HB6:=Q1 hb6;clear hb6;go_wp2_with fail;go_meet;exact⟨rfl,HB6⟩
     · have gi1:decide ((i:Int)+1<(N:Int))=false:=by simp;omega
       obtain rfl:false=wd:=by
        rw[← HWD.out];unfold Xj;rw[Zf (by rw[← HL.out.2,Qj,HL.out.1];omega)];rfl
       go_wp2_with fail;go_meet;exact⟨rfl,Q1 (Below.refl _ _)⟩
    case rest =>
     obtain⟨rfl,hb6⟩:=hcut;obtain⟨m,rfl⟩:=Qf hb6.out;clear hb6;have c0:w5.cell? ⟨g5,0,none⟩=some (.int .i64 0):=(H5.out).cell 0;have fc0:=(H5.out).frozen 0;have c1:w5.cell? ⟨g5,1,none⟩=some (.int .i64 (i:Int)):=(H5.out).cell 1;have fc1:=(H5.out).frozen 1;have c2:w5.cell? ⟨g5,2,none⟩=some (.int .i64 ((i:Int)+1)):=(H5.out).cell 2;have fc2:=(H5.out).frozen 2;have lc:=(H5.out).lt
     have gne:g5≠bb:=by omega
     go_upto_block 2 with fail
     go_cut [] from 30 to 76 (fun wx=>∃ (op:Int) (n:Nat) (tz:Int),so=some (op,n)∧tz=(i:Int)+n∧Hid (Below g5 wr wx)∧Hid (Ql wx g5 92 #[.int .i64 op,.int .i64 (i:Int),.int .i64 tz]))
     case first =>
      cases e0 with
      | true =>
        go_wp2_with fail
        ((with_reducible refine((HE.out _)).mono ?_);rintro e w' ⟨rfl,hbw⟩)
        obtain⟨m2,rfl⟩:=Qf hbw;clear hbw;go_wp2_with fail;go_meet;exact⟨3,1,_,HST.out.2.1.trans rfl,rfl,Q1 ((HB5.out.trans ((Qk _).mono (Zg hlt5))).setCell (Q6 _) _),Q1 ((H5.out.grow _).put 0 (.int .i64 3))⟩
      | false =>
        cases e1 with
        | true =>
          cases wd with
          | true =>
            go_wp2_with fail
            ((with_reducible refine((HE.out _)).mono ?_);rintro e w' ⟨rfl,hbw⟩)
            obtain⟨m2,rfl⟩:=Qf hbw;clear hbw;go_wp2_with fail
            ((with_reducible refine((HT.out _)).mono ?_);rintro e w' ⟨rfl,hbw⟩)
            obtain⟨m3,rfl⟩:=Qf hbw;clear hbw;go_wp2_with fail;go_meet;exact⟨2,2,_,HST.out.2.1.trans rfl,rfl,Q1 (((HB5.out.trans ((Qk _).mono (Zg hlt5))).setCell (Q6 _) _).setCell (Q6 _) _),Q1 (((H5.out.grow _).put 0 (.int .i64 2)).put 2 (.int .i64 ((i:Int)+2)))⟩
          | false =>
            go_wp2_with fail
            ((with_reducible refine((HE.out _)).mono ?_);rintro e w' ⟨rfl,hbw⟩)
            obtain⟨m2,rfl⟩:=Qf hbw;clear hbw;go_wp2_with fail
            ((with_reducible refine((HT.out _)).mono ?_);rintro e w' ⟨rfl,hbw⟩)
            obtain⟨m3,rfl⟩:=Qf hbw;clear hbw;go_wp2_with fail
            ((with_reducible refine((HT.out _)).mono ?_);rintro e w' ⟨rfl,hbw⟩)
            obtain⟨m4,rfl⟩:=Qf hbw;clear hbw;go_wp2_with fail;go_meet;exact⟨1,1,_,HST.out.2.1.trans rfl,rfl,Q1 ((HB5.out.trans ((Qk _).mono (Zg hlt5))).setCell (Q6 _) _),Q1 ((H5.out.grow _).put 0 (.int .i64 1))⟩
        | false =>
          cases e2 with
          | true =>
            cases wd with
            | true =>
              go_wp2_with fail
              ((with_reducible refine((HE.out _)).mono ?_);rintro e w' ⟨rfl,hbw⟩)
              obtain⟨m2,rfl⟩:=Qf hbw;clear hbw;go_wp2_with fail
              ((with_reducible refine((HT.out _)).mono ?_);rintro e w' ⟨rfl,hbw⟩)
              obtain⟨m3,rfl⟩:=Qf hbw;clear hbw;go_wp2_with fail
              ((with_reducible refine((HT.out _)).mono ?_);rintro e w' ⟨rfl,hbw⟩)
              obtain⟨m4,rfl⟩:=Qf hbw;clear hbw;go_wp2_with fail
              ((with_reducible refine((HG.out _)).mono ?_);rintro e w' ⟨rfl,hbw⟩)
              obtain⟨m5,rfl⟩:=Qf hbw;clear hbw;go_wp2_with fail;go_meet;exact⟨4,2,_,HST.out.2.1.trans rfl,rfl,Q1 (((HB5.out.trans ((Qk _).mono (Zg hlt5))).setCell (Q6 _) _).setCell (Q6 _) _),Q1 (((H5.out.grow _).put 0 (.int .i64 4)).put 2 (.int .i64 ((i:Int)+2)))⟩
            | false =>
              go_wp2_with fail
              ((with_reducible refine((HE.out _)).mono ?_);rintro e w' ⟨rfl,hbw⟩)
              obtain⟨m2,rfl⟩:=Qf hbw;clear hbw;go_wp2_with fail
              ((with_reducible refine((HT.out _)).mono ?_);rintro e w' ⟨rfl,hbw⟩)
              obtain⟨m3,rfl⟩:=Qf hbw;clear hbw;go_wp2_with fail
              ((with_reducible refine((HT.out _)).mono ?_);rintro e w' ⟨rfl,hbw⟩)
              obtain⟨m4,rfl⟩:=Qf hbw;clear hbw;go_wp2_with fail
              ((with_reducible refine((HG.out _)).mono ?_);rintro e w' ⟨rfl,hbw⟩)
              obtain⟨m5,rfl⟩:=Qf hbw;clear hbw;go_wp2_with fail
              ((with_reducible refine((HG.out _)).mono ?_);rintro e w' ⟨rfl,hbw⟩)
              obtain⟨m6,rfl⟩:=Qf hbw;clear hbw;go_wp2_with fail;go_meet;exact⟨5,1,_,HST.out.2.1.trans rfl,rfl,Q1 ((HB5.out.trans ((Qk _).mono (Zg hlt5))).setCell (Q6 _) _),Q1 ((H5.out.grow _).put 0 (.int .i64 5))⟩
          | false =>
            go_wp2_with fail
            ((with_reducible refine((HE.out _)).mono ?_);rintro e w' ⟨rfl,hbw⟩)
            obtain⟨m2,rfl⟩:=Qf hbw;clear hbw;go_wp2_with fail
            ((with_reducible refine((HT.out _)).mono ?_);rintro e w' ⟨rfl,hbw⟩)
            obtain⟨m3,rfl⟩:=Qf hbw;clear hbw;go_wp2_with fail
            ((with_reducible refine((HT.out _)).mono ?_);rintro e w' ⟨rfl,hbw⟩)
            obtain⟨m4,rfl⟩:=Qf hbw;clear hbw;go_wp2_with fail
            ((with_reducible refine((HG.out _)).mono ?_);rintro e w' ⟨rfl,hbw⟩)
            obtain⟨m5,rfl⟩:=Qf hbw;clear hbw;go_wp2_with fail
            ((with_reducible refine((HG.out _)).mono ?_);rintro e w' ⟨rfl,hbw⟩)
            obtain⟨m6,rfl⟩:=Qf hbw;clear hbw;go_wp2_with fail
            go_roundg (N-(i+1))
            case measure=>omega
            case rel =>
             have hbz:=(HB5.out.trans ((Qk (((((m.trans m2).trans m3).trans m4).trans m5).trans m6)).mono (Zg hlt5))).mono (by have:=HG5.out;omega:wr.heap.size≤g5);exact⟨i+1,D,by go_num,Q1 (hB.out.trans (hbz.mono hB.out.size)),Q1 (S6 hO.out hbz),Q1 (by rw[hD.out,HST.out.1,HST.out.2.1];rfl),by omega,hi,Q6 _⟩
     case rest =>
      obtain⟨op,n,tz,hso,rfl,hB6,h5⟩:=hcut;obtain⟨hn1,hn2,ho1,ho2,hwide⟩:=HST.out.2.2 op n hso
      have hin:i+n≤N:=by
       by_cases h2:n=2
       · have hw:=hwide h2
         have hlt:i+1<N:=Classical.byContradiction fun hc=>by
          rw[← HWD.out,Xj,Zf (by rw[← HL.out.2,Qj,HL.out.1];omega)]at hw
          cases hw
         omega
       · omega
      have hbz:=hB6.out.mono (by have:=HG5.out;omega:wr.heap.size≤g5);have HO6:=Q1 (S6 hO.out hbz);have HB7:=Q1 (hB.out.trans (hbz.mono hB.out.size));have hbs:=HB7.out.size
      have hne:∀ k,u3.ownBlock=some k→k≠g5:=fun k hk=>by have:=(hO.out.lt k hk).2;have:=HG5.out;omega
      have HNE:=Q1 hne
      have hst:Un 0 L=(D++[(op,i,i+n)])++Un (i+n) (L.drop (i+n)):=by
       rw[hD.out,HST.out.1,hso,List.append_assoc];rfl
      have HSN:=Q1 hst;have q0:wc.cell? ⟨g5,0,none⟩=some (.int .i64 op):=(h5.out).cell 0;have fq0:=(h5.out).frozen 0;have q1:wc.cell? ⟨g5,1,none⟩=some (.int .i64 (i:Int)):=(h5.out).cell 1;have fq1:=(h5.out).frozen 1;have q2:wc.cell? ⟨g5,2,none⟩=some (.int .i64 ((i:Int)+(n:Int))):=(h5.out).cell 2;have fq2:=(h5.out).frozen 2;have lq:=(h5.out).lt;clear f0 f1 f2 f3 f4 f5 f6 c0 fc0 c1 fc1 c2 fc2 lc HE HT HG HST HWD H5 HV HB5 hlt5 hne hst hbz hB6 hO hD hwide hso
      go_wp2_with (at_builtin;refine J4 Q8g rfl _ _ rfl rfl (HO6.out.alloc _) (by simp;omega) (Ql.new wc _ _) 1 rfl rfl (by simp[Value.oneCell']) (by omega) (by omega) ?_;intro gg cap3 w3 ho3 hg3 hat hvb;have h53:Ql w3 g5 92 #[.int .i64 op,.int .i64 (i:Int),.int .i64 ((i:Int)+(n:Int))]:=(hg3.block g5 (by simp;omega) (fun e=>HNE.out g5 e.symm rfl)).trans (h5.out.old _);have r2:w3.cell? ⟨g5,2,none⟩=some (.int .i64 ((i:Int)+(n:Int))):=h53.cell 2;have H3:=Q1 (Q3 ho3 (Q3 hg3 hvb));clear ho3 hg3 hat hvb)
      go_roundg (N-(i+n))
      case measure=>omega
      case rel =>
       obtain⟨ho3,hg3,hvb⟩:=H3.out;refine⟨i+n,D++[(op,i,i+n)],by go_num,Q1 (Qu (HB7.out.alloc hbs _) hg3 fun k hk=>(hvb k hk).1),Q1 ?_,HSN,by simp;omega,hin,Q6 _⟩;rw[Qd,List.flatMap_append,Zd];unfold Ib;simp only[Int.natCast_add];exact ho3
  · obtain rfl:i=N:=by omega
    have gi:decide ((i:Int)<(i:Int))=false:=by simp
    have gin:decide (i<i)=false:=by simp
    have hDe:Un 0 L=D:=by
     rw[hD.out,List.drop_of_length_le (by rw[← HL.out.2,Qj,HL.out.1];exact Q6 _)];exact List.append_nil D
    have HDE:=Q1 hDe;clear hDe;go_wp2_with fail;go_ret;exact⟨⟨_,rfl,by rw[HDE.out];exact hO.out⟩,hB.out⟩
end Go.Proofs.YtnanffmhbjdpaaaGreatDoor
