/- Of my texts: MedC, MedD, MedE, MedF, CnL, AwC, MedG. -/
import Derived.Test.YtnbkbenkhkinoaaGreatDoorM04
import Derived.Test.YtnbkbenkhkinoaaGreatDoorM28
import Derived.Test.YtnbkbenkhkinoaaGreatDoorM30
import Derived.Test.YtnbkbenkhkinoaaGreatDoorM31
import Derived.Test.YtnbkbenkhkinoaaGreatDoorM32
import Derived.Test.YtnbkbenkhkinoaaGreatDoorM33
import Derived.Test.YtnbkbenkhkinoaaGreatDoorM34
namespace Go.Proofs.YtnbkbenkhkinoaaGreatDoor
set_option linter.unusedVariables false
set_option linter.unusedSimpArgs false
open Go.RowKit
theorem ibyte_is (a c:UInt8):Lib.indexByte (⟨#[a]⟩:ByteArray).data.toList (c.toNat:Int).toNat.toUInt8=(if a==c then 0 else -1:Int):=by
 rw[show (c.toNat:Int).toNat.toUInt8=c by simp]
 by_cases h:a=c<;>simp[Lib.indexByte,h]
set_option maxRecDepth 100000 in
theorem ibyte_any (a c:UInt8) (w:World):Calls Tryz.prog 246 #[.string ⟨#[a]⟩,.int .u8 (c.toNat:Int)] w fun e w'=>e=.returned (.int .i64 (if a==c then 0 else -1))∧w=w':=by
 have e:=ibyte_is a c;generalize (if a==c then 0 else -1:Int)=r at *
 go_enter Tryz.func246,Tryz.ntmps246
 go_wp2_with fail;rw[run_callFunc_extern Tryz.func256 (by kernel_rfl) (by kernel_rfl) (by kernel_rfl) (e:=Extern.BytealgIndexByte.indexByte) (by kernel_rfl),Lib.run_indexByteString,e];clear e;simp only[Result.andThen];rw[Oper.upon_value];go_wp2_with fail;go_ret;exact⟨rfl,rfl⟩
set_option maxHeartbeats 1000000 in
theorem sindex_any (a c:UInt8) (w:World):Calls Tryz.prog 230 #[.string ⟨#[a]⟩,.string ⟨#[c]⟩] w fun e w'=>e=.returned (.int .i64 (if a==c then 0 else -1))∧w=w':=by
 have H:=Lib.hid (ibyte_any a c)
 by_cases h:a=c
 · subst h;clear H
   have e:(if a==a then 0 else -1:Int)=0:=by simp
   rw[e];clear e
   go_enter Tryz.func230,Tryz.ntmps230
   go_wp2_with fail;go_ret;exact⟨rfl,rfl⟩
 · have e:(if a==c then 0 else -1:Int)=-1:=by simp[h]
   rw[e]at H ⊢;have g:(c==a)=false:=beq_eq_false_iff_ne.2 (Ne.symm h);clear e h
   go_enter Tryz.func230,Tryz.ntmps230
   go_wp2_with fail
   ((with_reducible refine(H.out _).mono ?_);rintro e w' ⟨rfl,rfl⟩)
   go_wp2_with fail;go_ret;exact⟨rfl,rfl⟩
theorem index_any (a c:UInt8) (w:World):Calls Tryz.prog 207 #[.string ⟨#[a]⟩,.string ⟨#[c]⟩] w fun e w'=>e=.returned (.int .i64 (if a==c then 0 else -1))∧w=w':=by
 have H:=Lib.hid (sindex_any a c);generalize (if a==c then 0 else -1:Int)=r at *
 go_enter Tryz.func207,Tryz.ntmps207
 go_wp2_with fail
 ((with_reducible refine(H.out _).mono ?_);rintro e w' ⟨rfl,rfl⟩)
 go_wp2_with fail;go_ret;exact⟨rfl,rfl⟩
theorem contains_any (a c:UInt8) (w:World):Calls Tryz.prog 183 #[.string ⟨#[a]⟩,.string ⟨#[c]⟩] w fun e w'=>e=.returned (.bool (a==c))∧w=w':=by
 have H:=Lib.hid (index_any a c)
 have e:∀ r,(if a==c then 0 else -1:Int)=r→decide (0≤r)=(a==c):=fun r h=>by subst h;cases a==c<;>rfl
 obtain⟨r,hr⟩:∃ r,(if a==c then 0 else -1:Int)=r:=⟨_,rfl⟩;rw[hr]at H;have E:=Lib.hid (e r hr);clear e hr
 go_enter Tryz.func183,Tryz.ntmps183
 go_wp2_with fail
 ((with_reducible refine(H.out _).mono ?_);rintro e w' ⟨rfl,rfl⟩)
 go_wp2_with fail;go_ret;exact⟨ret_bool E.out,rfl⟩
theorem signM_any (a:UInt8) (tk tn td:Int) (tt:List UInt8) (ti tid:Bool) (koa:Option Addr) (K kcap:Nat) (w:World) :
  Calls Tryz.prog 171 #[.agg #[.int .i64 tk,.string ⟨tt.toArray⟩,.int .i64 tn,.int .i64 td,.bool ti,.bool tid,.slice koa K kcap],.string ⟨#[a]⟩] w fun e w'=>e=.returned (.bool (tk==9&&tt==[a]))∧Below w.heap.size w w':=by
 by_cases hk:tk=9
 · subst hk
   by_cases hl:tt.length=1
   · obtain⟨c,rfl⟩:=List.length_eq_one_iff.1 hl;have HC:=Lib.hid (contains_any a c)
     have e:([c]==[a])=(a==c):=by rw[Bool.eq_iff_iff];simp;exact eq_comm
     rw[e];clear e hl
     go_enter Tryz.func171,Tryz.ntmps171
     go_wp2_with fail
     ((with_reducible refine(HC.out _).mono ?_);rintro e w' ⟨rfl,rfl⟩)
     go_wp2_with fail;go_ret;exact⟨rfl,below_box _ _⟩
   · have e:(tt==[a])=false:=by rw[beq_eq_false_iff_ne];rintro rfl;exact hl rfl
     have g0:((tt.length:Int)==1)=false:=by rw[beq_eq_false_iff_ne];omega
     rw[e];clear e hl
     go_enter Tryz.func171,Tryz.ntmps171
     go_wp2_with fail;go_ret;exact⟨rfl,below_box _ _⟩
 · have gk:(tk==9)=false:=beq_eq_false_iff_ne.2 hk
   go_enter Tryz.func171,Tryz.ntmps171
   go_wp2_with fail;go_ret;exact⟨by rw[gk];rfl,below_box _ _⟩
theorem slashM_any (tk tn td:Int) (tt:List UInt8) (ti tid:Bool) (koa:Option Addr) (K kcap:Nat) (w:World) :
  Calls Tryz.prog 170 #[.agg #[.int .i64 tk,.string ⟨tt.toArray⟩,.int .i64 tn,.int .i64 td,.bool ti,.bool tid,.slice koa K kcap]] w fun e w'=>e=.returned (.bool (tk==9&&tt==[47]))∧Below w.heap.size w w':=by
 have hs:=signM_any 47 tk tn td tt ti tid koa K kcap;generalize (tk==9&&tt==[47])=r at *;have HS:=Lib.hid hs;clear hs
 go_enter Tryz.func170,Tryz.ntmps170
 go_wp2_with fail
 ((with_reducible refine(HS.out _).mono ?_);rintro e w' ⟨rfl,hb⟩)
 have HB:=Lib.hid (below_far (below_box w _) (grownBy_of_below hb none) fun _ e=>by cases e);go_wp2_with fail;go_ret;exact⟨rfl,HB.out⟩
theorem colonM_any (tk tn td:Int) (tt:List UInt8) (ti tid:Bool) (koa:Option Addr) (K kcap:Nat) (w:World) :
  Calls Tryz.prog 129 #[.agg #[.int .i64 tk,.string ⟨tt.toArray⟩,.int .i64 tn,.int .i64 td,.bool ti,.bool tid,.slice koa K kcap]] w fun e w'=>e=.returned (.bool (tk==16))∧Below w.heap.size w w':=by
 go_enter Tryz.func129,Tryz.ntmps129
 go_wp2_with fail;go_ret;exact⟨rfl,below_box _ _⟩
theorem find_at {α:Type} {p:α→Bool} {L:List α} {i:Nat} {X:α} (h1:∀ v∈L.take i,p v=false) (h2:L[i]?=some X) (h3:p X=true):L.findIdx? p=some i:=by
 obtain⟨hi,rfl⟩:=List.getElem?_eq_some_iff.1 h2;refine List.findIdx?_eq_some_iff_getElem.2 ⟨hi,h3,fun j hj=>?_⟩;simp[h1 L[j] (List.mem_take_iff_getElem.2 ⟨j,by omega,rfl⟩)]
theorem take_one {α:Type} {p:α→Bool} {L:List α} {i:Nat} {X:α} (h2:L[i]?=some X) (h1:∀ v∈L.take i,p v=false) (h3:p X=false):∀ v∈L.take (i+1),p v=false:=fun v hv=>by
 rw[List.take_add_one,h2]at hv
 rcases List.mem_append.1 hv with hv|hv
 · exact h1 v hv
 · obtain rfl:=List.mem_singleton.1 hv;exact h3
def placeI:Option Nat→Int
 | none=>-1
 | some i=>i
set_option maxHeartbeats 2000000 in
theorem place_any (g:Nat) (p:Vt→Bool) (eg:∀ args w,(callFunc g args).run Tryz.prog w=.ok (.enter g args) w)
  (hp:∀ tk tn td tt ti tid koa K kcap k w,Calls Tryz.prog g #[.agg #[.int .i64 tk,.string ⟨tt.toArray⟩,.int .i64 tn,.int .i64 td,.bool ti,.bool tid,.slice koa K kcap]] w fun e w'=>e=.returned (.bool (p (.mk ⟨tk,tt,(tn,td),ti,tid⟩ k)))∧Below w.heap.size w w')
  (h:Nat) (l:List Vl) (oa:Option Addr) (cap b o:Nat) (w:World) (hs:VsIn w h oa cap b o l) :
  Calls Tryz.prog 128 #[.slice oa l.length cap,.func (.func g) #[] #[]] w fun e w'=>e=.returned (.int .i64 (placeI ((l.map Vl.c).findIdx? p)))∧Below w.heap.size w w':=by
 obtain⟨N,hN⟩:∃ N,l.length=N:=⟨_,rfl⟩;obtain⟨L,hL⟩:∃ L,l.map Vl.c=L:=⟨_,rfl⟩;rw[hN,hL];have hcl:=hs.sl.le;have hcm:=hs.sl.max;unfold maxLen at hcm;rw[hN]at hcl;have HS:=Lib.hid hs;have HL:=Lib.hid (And.intro hN hL);have HP:=Lib.hid hp;clear hs hN hL hp
 go_enter Tryz.func128,Tryz.ntmps128
 go_wp2_with fail
 go_loopg [5,8] N (fun q s5 s8 wr=>∃ (i:Nat),s8=.int .i64 i∧Hid (Below w.heap.size w wr)∧Hid (∀ v∈L.take i,p v=false)∧i≤N∧N-i≤q)
 case atStart=>exact⟨0,rfl,Lib.hid (Below.refl _ _),Lib.hid (fun v h=>by cases h),Nat.zero_le _,Nat.le_refl _⟩
 case round =>
  obtain⟨i,rfl,hB,hD,hiN,hq⟩:=hrel
  by_cases hi:i<N
  · have gi:decide ((i:Int)<(N:Int))=true:=by simpa using hi
    have gin:decide (i<N)=true:=by simpa using hi
    have ij0:(0:Int)≤(i:Int):=Int.natCast_nonneg _
    have ijN:(i:Int)<(N:Int):=by omega
    have hil:i<l.length:=by rw[HL.out.1];exact hi
    have hli:l[i]?=some l[i]:=List.getElem?_eq_getElem hil;obtain⟨x,hx⟩:∃ x,l[i]=x:=⟨_,rfl⟩;rw[hx]at hli
    have hLi:L[i]?=some x.c:=by rw[← HL.out.2,List.getElem?_map,hli];rfl
    have hvs:=HS.out.below hB.out;obtain⟨rfl,hbl⟩:=hvs.sl.lies (by omega);obtain⟨⟨tk,tt,⟨tn,td⟩,ti,tid⟩,koa,kb,ko,kcap,kids⟩:=x;obtain⟨f0,f1,f2,f3,f4,f5,f6⟩:=hvs.row hli;rw[Vl.c_mk]at hLi;have HC:=Lib.hid (HP.out tk tn td tt ti tid koa kids.length kcap (kids.map Vl.c));generalize (Vt.mk _ _)=X at *;obtain⟨c,hc⟩:∃ c,p X=c:=⟨_,rfl⟩;rw[hc]at HC;have HI:=Lib.hid (And.intro hLi hc);clear hvs hli hil hx hLi hc;generalize kids.length=K at *
    cases c with
    | true =>
      have hr:L.findIdx? p=some i:=find_at hD.out HI.out.1 HI.out.2;have HR:=Lib.hid hr;clear hr;go_wp2_with (go_at_fn g;refine(HC.out _).mono ?_;rintro e w2 ⟨rfl,hb2⟩);have HB:=bfH hB hb2;go_ret;exact⟨by rw[HR.out];rfl,HB.out⟩
    | false =>
      go_wp2_with (go_at_fn g;refine(HC.out _).mono ?_;rintro e w2 ⟨rfl,hb2⟩);have HB:=bfH hB hb2
      go_roundg (N-(i+1))
      case measure=>omega
      case rel=>exact⟨i+1,by go_num,HB,Lib.hid (take_one HI.out.1 hD.out HI.out.2),hi,Nat.le_refl _⟩
  · obtain rfl:i=N:=by omega
    have gi:decide ((i:Int)<(i:Int))=false:=by simp
    have gin:decide (i<i)=false:=by simp
    have hr:L.findIdx? p=none:=by
     rw[List.findIdx?_eq_none_iff];intro v hv;refine hD.out v ?_;rwa [List.take_of_length_le];rw[← HL.out.2,List.length_map,HL.out.1];exact Nat.le_refl _
    have HR:=Lib.hid hr;clear hr;go_wp2_with fail;go_ret;exact⟨by rw[HR.out];rfl,hB.out⟩
set_option maxHeartbeats 1000000 in
theorem strat_any (D:List (List UInt8)) (x:List UInt8) (v:Value) (w:World) (hz:Zs w v D) (hm:D.length≤8) :
  Calls Tryz.prog 172 #[v,.string ⟨x.toArray⟩] w fun e w'=>e=.returned (.int .i64 (placeI (D.findIdx? (x==·))))∧w=w':=by
 obtain⟨oa,cap,rfl,hc⟩:=hz;obtain⟨N,hN⟩:∃ N,D.length=N:=⟨_,rfl⟩;rw[hN]at hm ⊢;have HD:=Lib.hid (And.intro hN hc);clear hN hc
 go_enter Tryz.func172,Tryz.ntmps172
 go_wp2_with fail
 go_loopg [5,8] N (fun q s5 s8 wr=>∃ (i:Nat),s8=.int .i64 i∧wr=w∧Hid (∀ v∈D.take i,(x==v)=false)∧i≤N∧N-i≤q)
 case atStart=>exact⟨0,rfl,rfl,Lib.hid (fun v h=>by cases h),Nat.zero_le _,Nat.le_refl _⟩
 case round =>
  obtain⟨i,rfl,rfl,hD,hiN,hq⟩:=hrel
  by_cases hi:i<N
  · have gi:decide ((i:Int)<(N:Int))=true:=by simpa using hi
    have gin:decide (i<N)=true:=by simpa using hi
    have ij0:(0:Int)≤(i:Int):=Int.natCast_nonneg _
    have ijN:(i:Int)<(N:Int):=by omega
    have hil:i<D.length:=by rw[HD.out.1];exact hi
    have hli:D[i]?=some D[i]:=List.getElem?_eq_getElem hil;obtain⟨b,rfl,hcell⟩:=HD.out.2 (by rintro rfl;simp at hil);have f0:=hcell i _ hli;obtain⟨y,hy⟩:∃ y,D[i]=y:=⟨_,rfl⟩;rw[hy]at f0 hli;have HI:=Lib.hid hli;clear hli hy hil hcell
    by_cases hxy:x=y
    · have hr:D.findIdx? (x==·)=some i:=find_at hD.out HI.out (by simp[hxy])
      have g0:(x==y)=true:=by simp[hxy]
      have HR:=Lib.hid hr;clear hr hxy;go_wp2_with fail;go_ret;exact⟨by rw[HR.out];rfl,rfl⟩
    · have g0:(x==y)=false:=by simpa using hxy
      have HT:=Lib.hid (take_one (p:=(x==·)) HI.out hD.out g0);clear hxy;go_wp2_with fail
      go_roundg (N-(i+1))
      case measure=>omega
      case rel=>exact⟨i+1,by go_num,rfl,HT,hi,Nat.le_refl _⟩
  · obtain rfl:i=N:=by omega
    have gi:decide ((i:Int)<(i:Int))=false:=by simp
    have gin:decide (i<i)=false:=by simp
    have hr:D.findIdx? (x==·)=none:=by
     rw[List.findIdx?_eq_none_iff];intro v hv;refine hD.out v ?_;rwa [List.take_of_length_le];rw[HD.out.1];exact Nat.le_refl _
    have HR:=Lib.hid hr;clear hr;go_wp2_with fail;go_ret;exact⟨by rw[HR.out];rfl,rfl⟩
theorem among_any (D:List (List UInt8)) (x:List UInt8) (v:Value) (w:World) (hz:Zs w v D) (hm:D.length≤8) :
  Calls Tryz.prog 132 #[v,.string ⟨x.toArray⟩] w fun e w'=>e=.returned (.bool (decide (x∈D)))∧w=w':=by
 have H:=Lib.hid (strat_any D x v w hz hm)
 have e:decide (0≤placeI (D.findIdx? (x==·)))=decide (x∈D):=by
  cases h:D.findIdx? (x==·) with
  | none =>
    rw[List.findIdx?_eq_none_iff]at h
    have:x ∉ D:=fun hx=>by simpa using h x hx
    simp[placeI,this]
  | some i =>
    have:x∈D:=by
     obtain⟨hi,he,_⟩:=List.findIdx?_eq_some_iff_getElem.1 h
     have e:x=D[i]:=by simpa using he
     rw[e];exact List.getElem_mem hi
    simp[placeI,this]
 have E:=Lib.hid e;clear e hz;generalize placeI _=r at *
 go_enter Tryz.func132,Tryz.ntmps132
 go_wp2_with fail
 ((with_reducible refine H.out.mono ?_);rintro e w' ⟨rfl,rfl⟩)
 go_wp2_with fail;go_ret;exact⟨ret_bool E.out,rfl⟩
theorem parse_err (h:Nat) (l:List Vt):((parseF wholeP h l).1=none→(parseF wholeP h l).2≠0)∧∀ e,(parseF wholeP h l).1=some e→(parseF wholeP h l).2=0:=by
 unfold parseF;split
 · exact⟨fun _=>by simp,fun e h=>by cases h⟩
 · split
   · split
     · exact⟨fun _=>by simp,fun e h=>by cases h⟩
     · exact⟨fun h=>(by cases h),fun _ _=>rfl⟩
   · exact⟨fun _=>by simp,fun e h=>by cases h⟩
set_option maxHeartbeats 2000000 in
theorem ofM_any (h:Nat) (l:List Vl) (oa:Option Addr) (cap b o:Nat) (w:World) (hs:VsIn w h oa cap b o l) (k:Int) (hk:k≠0) :
  Calls Tryz.prog 169 #[.slice oa l.length cap,.int .i64 k] w fun e w'=>retE (· < w.heap.size) (ofH h k (l.map Vl.c)) e w'∧Below w.heap.size w w':=by
 obtain⟨Y,hY⟩:∃ Y,ofH h k (l.map Vl.c)=Y:=⟨_,rfl⟩;rw[hY];unfold ofH at hY;obtain⟨h4,hb4⟩:=box_new w 31 #[.int .i64 0,.int .i64 0,.int .i64 0,.int .i64 0,.slice none 0 0];have HP:=Lib.hid (cparse_any h l oa cap b o _ (hs.below hb4));obtain⟨X,hX⟩:∃ X,parseF wholeP h (l.map Vl.c)=X:=⟨_,rfl⟩;rw[hX]at HP hY;obtain⟨N,hN⟩:∃ N,l.length=N:=⟨_,rfl⟩;rw[hN]at HP ⊢;have H4:=Lib.hid h4;have HB4:=Lib.hid hb4;have HY:=Lib.hid hY;clear hs h4 hb4 hY hN
 go_enter Tryz.func169,Tryz.ntmps169
 go_upto_region 1 with fail
 obtain⟨g4,hg4⟩:∃ g,w.heap.size=g:=⟨_,rfl⟩
 have hw1:(w.alloc (.cells #[.int .i64 0,.int .i64 0,.int .i64 0,.int .i64 0,.slice none 0 0] 31)).heap.size=w.heap.size+1:=by simp
 have HW1:=Lib.hid hw1;have HG:=Lib.hid hg4;rw[hg4]at H4;clear hw1;simp only[hg4];clear hg4;generalize w.alloc _=w1 at *;go_wp2_with fail
 ((with_reducible refine HP.out.mono ?_);rintro e w2 ⟨⟨v,rfl,x,hh,rfl,hxc,hxs⟩,hb2⟩)
 have HK:=Lib.hid (fun w3 hb=>cKind_any hh x w3 (hxs.here.below hh (w':=w3) hb));have hkx:=kindOf_T x;rw[hxc]at hkx;have HE:=Lib.hid (show isEx (· < w1.heap.size) (X.1.getD zeroEt) (xv x) w2 from ⟨x,hh,rfl,hxc,hxs⟩);have h4:=H4.out.below hb2 H4.out.lt;have HB2:=bfH HB4 hb2;clear hxs hxc hb2 HP H4 HB4;obtain⟨vk,vn,vd,vu,voa,vb,vo,vcap,kids⟩:=x;obtain⟨K,hK⟩:∃ K,kids.length=K:=⟨_,rfl⟩;simp only[xv_mk,hK]at HK HE ⊢;generalize kindOf _=kk at *;clear hK
 have hw2:w2.heap.size≠g4:=by have:=h4.lt;omega
 have hx:=parse_err h (l.map Vl.c);rw[hX]at hx;clear hX
 go_upto_region 2 with fail
 obtain⟨h6,hb3⟩:=box_new w2 31 #[.int .i64 vk,.int .i64 vn,.int .i64 vd,.int .i64 vu,.slice voa K vcap];have H4:=Lib.hid (h4.below hb3 h4.lt);have HB3:=bfH HB2 hb3;have HE3:=Lib.hid (HE.out.below hb3);have HK3:=Lib.hid (HK.out _ hb3);clear h4 hb3 HB2 HE HK hw2;generalize w2.heap.size=g6 at *;generalize w2.alloc _=w3 at *;obtain⟨X1,X2⟩:=X;simp only at HY HE3 hkx hx ⊢
 cases X1 with
 | none =>
   have hx2:=hx.1 rfl
   have g0:(X2 != 0)=true:=by simpa using hx2
   obtain rfl:none=Y:=HY.out;obtain⟨c0,f0,c1,f1,c2,f2,c3,f3,c4,f4,l4⟩:=Blk.five H4.out;clear hx hx2 HK3;go_wp2_with fail;have hputs:=(H4.out).put5 (.int .i64 0) (.int .i64 0) (.int .i64 0) (.int .i64 0) (.slice none 0 0);refine bodyPost_ret (v:=.tuple #[.agg #[.int .i64 0,.int .i64 0,.int .i64 0,.int .i64 0,.slice none 0 0],.bool false]) ?_ rfl ?_
   · refine ret_ex2 Tryz.results169 ?_ ?_ hputs rfl
     all_goals rfl
   · exact⟨⟨_,_,rfl,rfl,⟨_,_,_,_,_,_,_,rfl⟩,fun E hE=>by cases hE⟩,below_put5 HB3.out (Nat.le_of_eq HG.out) _ _ _ _ _⟩
 | some E =>
   obtain rfl:=hx.2 E rfl;obtain⟨c0,f0,c1,f1,c2,f2,c3,f3,c4,f4,l4⟩:=Blk.five h6;have H6:=Lib.hid h6;clear hx h6;simp only[Option.getD_some]at HE3 hkx;go_wp2_with fail
   ((with_reducible refine HK3.out.mono ?_);rintro e w4 ⟨rfl,hb4⟩)
   have H44:=Lib.hid (H4.out.below hb4 H4.out.lt);have h64:=H6.out.below hb4 H6.out.lt;have HB4:=bfH HB3 hb4;have HE4:=Lib.hid (HE3.out.below hb4);clear hb4 H4 H6 HB3 HE3 HK3 c0 f0 c1 f1 c2 f2 c3 f3 c4 f4 l4;obtain⟨c0,f0,c1,f1,c2,f2,c3,f3,c4,f4,l4⟩:=Blk.five h64;obtain⟨d0,e0,d1,e1,d2,e2,d3,e3,d4,e4,l5⟩:=Blk.five H44.out;obtain⟨kk1,kk2⟩:=kk
   have hk1:Y=if kk1=k then some E else none:=by rw[← HY.out,← hkx]
   have HY2:=Lib.hid hk1;clear hk1 hkx HY h64;go_wp2_with fail;have hgz:=grownBy_puts [.int .i64 vk,.int .i64 vn,.int .i64 vd,.int .i64 vu,.slice voa K vcap] w4 g4 0;simp only[puts,Nat.zero_add,Nat.reduceAdd]at hgz
   have hee:=(HE4.out.grown hgz (fun q e _=>by injection e with e;have:=HW1.out;have:=HG.out;show q<w1.heap.size;omega)).anti (A':=(· < w.heap.size)) fun b hb=>Or.inl (by have:=HW1.out;have hb:b<w.heap.size:=hb;show b<w1.heap.size;omega)
   have hputs:=(H44.out).put5 (.int .i64 vk) (.int .i64 vn) (.int .i64 vd) (.int .i64 vu) (.slice voa K vcap);refine bodyPost_ret (v:=.tuple #[.agg #[.int .i64 vk,.int .i64 vn,.int .i64 vd,.int .i64 vu,.slice voa K vcap],.bool (kk1==k)]) ?_ rfl ?_
   · refine ret_ex2 Tryz.results169 ?_ ?_ hputs rfl
     all_goals rfl
   · exact⟨⟨_,_,rfl,by rw[HY2.out];by_cases hk:kk1=k<;>simp[hk],⟨_,_,_,_,_,_,_,rfl⟩,fun E' hE=>by rw[HY2.out]at hE;split at hE;(obtain rfl:=Option.some.inj hE;exact hee);cases hE⟩,below_put5 HB4.out (Nat.le_of_eq HG.out) _ _ _ _ _⟩
theorem elemVals:Tryz.prog.elem 86=104:=by kernel_rfl
theorem slice_hi {w:World} {h:Nat} {oa:Option Addr} {cap b o:Nat} {l:List Vl} (hs:VsIn w h oa cap b o l) {N i:Nat} (hN:l.length=N) (hi:i≤N) :
  ∃ oa' cap' o',(∀ (z:Int) w,z=i→(Instr.slice 86 (.slice oa N cap) none (some (.int .i64 z)) none).run Tryz.prog w=.ok (.slice oa' (l.take i).length cap') w)∧∀ w,VsIn w h oa cap b o l→VsIn w h oa' cap' b o' (l.take i):=by
 subst hN;have hc:=hs.sl.le;refine⟨if cap=0 then oa else oa.map (·.add (0*7)),cap-0,o+0*7,fun z w hz=>?_,fun w hs=>?_⟩
 · subst hz;rw[run_slice_h w 86 oa l.length cap (by rw[elemVals];exact Tryz.underlying86) .i64 i (by omega) (by omega),elemVals,Tryz.sizeOf104];simp[Result.andThen,sliced,Nat.min_eq_left hi]
 · have:=hs.part (a:=0) (c:=i) (Nat.zero_le _) hi;rwa [List.drop_zero]at this
theorem slice_lo {w:World} {h:Nat} {oa:Option Addr} {cap b o:Nat} {l:List Vl} (hs:VsIn w h oa cap b o l) {N i:Nat} (hN:l.length=N) (hi:i≤N) :
  ∃ oa' cap' o',(∀ (z:Int) w,z=i→(Instr.slice 86 (.slice oa N cap) (some (.int .i64 z)) none none).run Tryz.prog w=.ok (.slice oa' (l.drop i).length cap') w)∧∀ w,VsIn w h oa cap b o l→VsIn w h oa' cap' b o' (l.drop i):=by
 subst hN;have hc:=hs.sl.le;refine⟨if cap=i then oa else oa.map (·.add (i*7)),cap-i,o+i*7,fun z w hz=>?_,fun w hs=>?_⟩
 · subst hz;rw[run_slice_l w 86 oa l.length cap (by rw[elemVals];exact Tryz.underlying86) .i64 i (by omega) (by omega),elemVals,Tryz.sizeOf104];simp[Result.andThen,sliced]
 · have:=hs.part (a:=i) (c:=l.length) hi (Nat.le_refl _);rwa [List.take_length]at this
theorem kid_ex {w:World} {B hh:Nat} {k:Int} (xs:List Ex) (V:Array Value) (hV:V.toList=xs.flatMap xcells) (hk:I64 k) (hl:0<xs.length∧xs.length≤8) (hB:B≤w.heap.size) (hx:Safe (· < B) w fun w=>∀ x∈xs,ExIn w hh x) :
  Safe (· < B) (w.alloc (.cells V 31)) fun w'=>ExIn w' (hh+1) (.mk k 0 0 0 (some ⟨w.heap.size,0,none⟩) w.heap.size 0 xs.length xs):=by
 have hs:V.size=xs.length*5:=by rw[← Array.length_toList,hV,flat_length xcells_length]
 obtain⟨oa,cap,g,hv,hsl,_⟩:=sl_of_own (owns_fresh (base:=0) (n:=xs.length) (size:=5) (Blk.new w 31 V) (Nat.zero_le _) hs (by unfold maxLen;omega))
 injection hv with e1 _ e3
 subst e1 e3;have e4:=(hsl.lies hl.1).1
 injection e4 with e4
 injection e4 with e4
 subst e4;rw[hV]at hsl;refine ExIn.made hk (by unfold Is64;decide) (i64_small _ (by decide)) (by omega) hsl (fun _ hb=>?_) (hx.alloc _);have hb:w.heap.size<B:=hb;omega
theorem ratio_ex {w:World} {g n:Nat} {a b:Et} {ak an ad au bk bn bd bu:Int} {aoa boa:Option Addr} {aL ac bL bc:Nat} (cs:List Value) (hA:isEx (· < n) a (.agg #[.int .i64 ak,.int .i64 an,.int .i64 ad,.int .i64 au,.slice aoa aL ac]) w)
  (hB:isEx (· < n) b (.agg #[.int .i64 bk,.int .i64 bn,.int .i64 bd,.int .i64 bu,.slice boa bL bc]) w) (hg:g<n) (hn:n≤w.heap.size) :
  isEx (· < n) (ratioE a b) (.agg #[.int .i64 4,.int .i64 0,.int .i64 0,.int .i64 0,.slice (some ⟨w.heap.size+1,0,none⟩) 2 2]) (((puts w g 0 cs).alloc (.cells #[.int .i64 bk,.int .i64 bn,.int .i64 bd,.int .i64 bu,.slice boa bL bc] 31)).alloc
   (.cells #[.int .i64 ak,.int .i64 an,.int .i64 ad,.int .i64 au,.slice aoa aL ac,.int .i64 5,.int .i64 0,.int .i64 0,.int .i64 0,.slice (some ⟨w.heap.size,0,none⟩) 1 1] 31)):=by
 obtain⟨xa,ha,hva,rfl,hsa⟩:=hA;obtain⟨xb,hb,hvb,rfl,hsb⟩:=hB;have hs:=puts_size cs w g 0;have hpu:=grownBy_puts cs w g 0
 have hk:∀ k,some g=some k→k<w.heap.size→k<n:=fun k e _=>by injection e with e;omega
 have sa:=hsa.grown hpu hk;have sb:=hsb.grown hpu hk;generalize puts w g 0 cs=W at *
 have ea:xcells xa=[.int .i64 ak,.int .i64 an,.int .i64 ad,.int .i64 au,.slice aoa aL ac]:=by injection hva with e;exact(congrArg Array.toList e).symm
 have eb:xcells xb=[.int .i64 bk,.int .i64 bn,.int .i64 bd,.int .i64 bu,.slice boa bL bc]:=by injection hvb with e;exact(congrArg Array.toList e).symm
 have si:=kid_ex (w:=W) (B:=n) (hh:=hb) (k:=5) [xb] #[.int .i64 bk,.int .i64 bn,.int .i64 bd,.int .i64 bu,.slice boa bL bc] (by simp[eb]) (i64_small _ (by decide)) (by simp) (by omega) (sb.mono fun w hw x hx=>by obtain rfl:=List.mem_singleton.1 hx;exact hw)
 have hs2:(W.alloc (.cells #[.int .i64 bk,.int .i64 bn,.int .i64 bd,.int .i64 bu,.slice boa bL bc] 31)).heap.size=w.heap.size+1:=by simp[hs]
 have sa2:=sa.alloc (.cells #[.int .i64 bk,.int .i64 bn,.int .i64 bd,.int .i64 bu,.slice boa bL bc] 31);generalize W.alloc _=W2 at *
 have sp:=kid_ex (w:=W2) (B:=n) (hh:=ha+(hb+1)) (k:=4) [xa,.mk 5 0 0 0 (some ⟨W.heap.size,0,none⟩) W.heap.size 0 1 [xb]] #[.int .i64 ak,.int .i64 an,.int .i64 ad,.int .i64 au,.slice aoa aL ac,.int .i64 5,.int .i64 0,.int .i64 0,.int .i64 0,.slice (some ⟨w.heap.size,0,none⟩) 1 1]
  (by rw[hs];simp[ea];rfl) (i64_small _ (by decide)) (by simp) (by omega) ((sa2.and si).mono fun w hw x hx=>by
    rcases List.mem_cons.1 hx with rfl|hx
    · exact ExIn.mono _ _ (by omega) hw.1
    · obtain rfl:=List.mem_singleton.1 hx
      exact ExIn.mono _ _ (by omega) hw.2)
 refine⟨_,_,?_,?_,sp⟩
 · rw[xv_mk,hs2];rfl
 · simp[Ex.c_mk,ratioE]
theorem tail_ex {w w2:World} {g n:Nat} {Y:Option Et} {vk vn vd vu:Int} {voa:Option Addr} {K vc:Nat} {ok:Bool} (hb:Below w.heap.size w w2) (hg:w.heap.size≤g) (hn:g<n) (hok:ok=Y.isSome) (hE:∀ E,Y=some E→isEx (· < n) E (.agg #[.int .i64 vk,.int .i64 vn,.int .i64 vd,.int .i64 vu,.slice voa K vc]) w2) :
  retE (· < w.heap.size) Y (.returned (.tuple #[.agg #[.int .i64 vk,.int .i64 vn,.int .i64 vd,.int .i64 vu,.slice voa K vc],.bool ok])) (((((w2.setCell ⟨g,0,none⟩ (.int .i64 vk)).setCell ⟨g,1,none⟩ (.int .i64 vn)).setCell ⟨g,2,none⟩ (.int .i64 vd)).setCell ⟨g,3,none⟩ (.int .i64 vu)).setCell ⟨g,4,none⟩ (.slice voa K vc)) ∧
   Below w.heap.size w (((((w2.setCell ⟨g,0,none⟩ (.int .i64 vk)).setCell ⟨g,1,none⟩ (.int .i64 vn)).setCell ⟨g,2,none⟩ (.int .i64 vd)).setCell ⟨g,3,none⟩ (.int .i64 vu)).setCell ⟨g,4,none⟩ (.slice voa K vc)):=by
 have hgz:=grownBy_puts [.int .i64 vk,.int .i64 vn,.int .i64 vd,.int .i64 vu,.slice voa K vc] w2 g 0;simp only[puts,Nat.zero_add,Nat.reduceAdd]at hgz;exact⟨⟨_,_,rfl,hok,⟨_,_,_,_,_,_,_,rfl⟩,fun E hE'=>((hE E hE').grown hgz fun q e _=>by injection e with e;show q<n;omega).anti fun b hb=>Or.inl (by have hb:b<w.heap.size:=hb;show b<n;omega)⟩,below_put5 hb hg _ _ _ _ _⟩
theorem tail_ratio {w w6:World} {g n:Nat} {Y X1 X2:Option Et} {ak an ad au bk bn bd bu:Int} {aoa boa:Option Addr} {aL ac bL bc:Nat} {ok1 ok2:Bool} (okk:Bool) (hb:Below w.heap.size w w6) (hg:w.heap.size≤g) (hgn:g<n) (hn:n≤w6.heap.size)
  (hY:(match X1,X2 with
    | some a,some b=>some (ratioE a b)
    | _,_=>none)=Y) (h1:ok1=X1.isSome∧ok2=X2.isSome) (hA:∀ E,X1=some E→isEx (· < n) E (.agg #[.int .i64 ak,.int .i64 an,.int .i64 ad,.int .i64 au,.slice aoa aL ac]) w6)
  (hB:∀ E,X2=some E→isEx (· < n) E (.agg #[.int .i64 bk,.int .i64 bn,.int .i64 bd,.int .i64 bu,.slice boa bL bc]) w6) (hk:okk=(ok1&&ok2)) {W:World} (hW:W=((puts w6 g 0 [.int .i64 4,.int .i64 0,.int .i64 0,.int .i64 0,.slice (some ⟨w6.heap.size+1,0,none⟩) 2 2]).alloc (.cells #[.int .i64 bk,.int .i64 bn,.int .i64 bd,.int .i64 bu,.slice boa bL bc] 31)).alloc
    (.cells #[.int .i64 ak,.int .i64 an,.int .i64 ad,.int .i64 au,.slice aoa aL ac,.int .i64 5,.int .i64 0,.int .i64 0,.int .i64 0,.slice (some ⟨w6.heap.size,0,none⟩) 1 1] 31)) :
  retE (· < w.heap.size) Y (.returned (.tuple #[.agg #[.int .i64 4,.int .i64 0,.int .i64 0,.int .i64 0,.slice (some ⟨w6.heap.size+1,0,none⟩) 2 2],.bool okk])) W∧Below w.heap.size w W:=by
 subst hW;refine⟨⟨_,_,rfl,?_,⟨_,_,_,_,_,_,_,rfl⟩,fun E hE=>?_⟩,?_⟩
 · rw[hk,h1.1,h1.2,← hY]
   cases X1<;>cases X2<;>rfl
 · rw[← hY]at hE
   cases X1 with
   | none=>cases hE
   | some a=>cases X2 with
     | none=>cases hE
     | some b =>
       obtain rfl:=Option.some.inj hE
       exact(ratio_ex _ (hA a rfl) (hB b rfl) hgn hn).anti fun b hb=>Or.inl (by have hb:b<w.heap.size:=hb;show b<n;omega)
 · have h:=below_put5 hb hg (.int .i64 4) (.int .i64 0) (.int .i64 0) (.int .i64 0) (.slice (some ⟨w6.heap.size+1,0,none⟩) 2 2);simp only[puts,Nat.zero_add,Nat.reduceAdd];exact(h.alloc h.size _).alloc (h.alloc h.size _).size _
set_option maxRecDepth 20000 in
set_option maxHeartbeats 4000000 in
theorem valueM_any (h:Nat) (l:List Vl) (oa:Option Addr) (cap b o:Nat) (w:World) (hs:VsIn w h oa cap b o l) (n:List UInt8) :
  Calls Tryz.prog 131 #[.string ⟨n.toArray⟩,.slice oa l.length cap] w fun e w'=>retE (· < w.heap.size) (valH h n (l.map Vl.c)) e w'∧Below w.heap.size w w':=by
 obtain⟨Y,hY⟩:∃ Y,valH h n (l.map Vl.c)=Y:=⟨_,rfl⟩;rw[hY];unfold valH at hY;obtain⟨h4,hb4⟩:=box_new w 31 #[.int .i64 0,.int .i64 0,.int .i64 0,.int .i64 0,.slice none 0 0];have hs1:=hs.below hb4
 have hw1:(w.alloc (.cells #[.int .i64 0,.int .i64 0,.int .i64 0,.int .i64 0,.slice none 0 0] 31)).heap.size=w.heap.size+1:=by simp
 obtain⟨N,hN⟩:∃ N,l.length=N:=⟨_,rfl⟩;obtain⟨L,hL⟩:∃ L,l.map Vl.c=L:=⟨_,rfl⟩;have HN:=Lib.hid (And.intro hN hL);rw[hL]at hY;rw[hN];obtain⟨g4,hg4⟩:∃ g,w.heap.size=g:=⟨_,rfl⟩;have HG:=Lib.hid hg4;rw[hg4]at h4 hw1;have H4:=Lib.hid h4;have HB4:=Lib.hid hb4;have HW1:=Lib.hid hw1;have HS:=Lib.hid hs1;have HY:=Lib.hid hY;clear hs hs1 h4 hb4 hw1 hN hL hY
 go_enter Tryz.func131,Tryz.ntmps131
 go_upto_region 1 with fail
 try simp only[hg4]
 clear hg4;generalize w.alloc _=w1 at *
 by_cases hc:n=colorS
 · have q0:(n==[99,111,108,111,114])=true:=by rw[hc];rfl
   have hY:=HY.out;rw[if_pos hc]at hY;have hp:=ofM_any h l oa cap b o w1 HS.out 1 (by decide);rw[HN.out.2,HN.out.1,hY]at hp;have HP:=Lib.hid hp;clear hY hp hc;go_wp2_with fail
   ((with_reducible refine HP.out.mono ?_);rintro e w2 ⟨⟨v,ok,rfl,hok,⟨vk,vn,vd,vu,voa,vL,vc,rfl⟩,hE⟩,hb2⟩)
   have h42:=H4.out.below hb2 H4.out.lt;have H42:=Lib.hid h42;have HE:=Lib.hid (And.intro hok (And.intro hE hb2));obtain⟨c0,f0,c1,f1,c2,f2,c3,f3,c4,f4,l4⟩:=Blk.five h42;clear h42 hok hE hb2;go_wp2_with fail;have hputs:=(H42.out).put5 (.int .i64 vk) (.int .i64 vn) (.int .i64 vd) (.int .i64 vu) (.slice voa vL vc);refine bodyPost_ret (v:=.tuple #[.agg #[.int .i64 vk,.int .i64 vn,.int .i64 vd,.int .i64 vu,.slice voa vL vc],.bool ok]) ?_ rfl ?_
   · refine ret_ex2 Tryz.results131 ?_ ?_ hputs rfl
     all_goals rfl
   · exact tail_ex (bfH HB4 HE.out.2.2).out (Nat.le_of_eq HG.out) H4.out.lt HE.out.1 HE.out.2.1
 have q0:(n==[99,111,108,111,114])=false:=beq_eq_false_iff_ne.2 hc;have HC:=Lib.hid hc;clear hc
 by_cases hr:n=ratioS
 · have q1:(n==[97,115,112,101,99,116,45,114,97,116,105,111])=true:=by rw[hr];rfl
   have hY:=HY.out;rw[if_neg HC.out,if_pos hr]at hY;have hp:=place_any 170 (delimV slashS) (enters_of Tryz.func170 (by kernel_rfl) rfl) (fun tk tn td tt ti tid koa K kcap k w=>slashM_any tk tn td tt ti tid koa K kcap w) h l oa cap b o w1 HS.out;unfold fracH at hY;obtain⟨P,hP⟩:∃ P,L.findIdx? (delimV slashS)=P:=⟨_,rfl⟩;rw[HN.out.2,HN.out.1,hP]at hp;rw[hP]at hY;have HP:=Lib.hid hp;have HPP:=Lib.hid hP;clear hp hr hP
   cases P with
   | none =>
     simp only[placeI]at HP;have HY2:=Lib.hid (show ofH h 1 L=Y from hY);clear hY;go_wp2_with fail
     ((with_reducible refine HP.out.mono ?_);rintro e w2 ⟨rfl,hb2⟩)
     have HB2:=bfH HB4 hb2;have H42:=Lib.hid (H4.out.below hb2 H4.out.lt);have hp:=ofM_any h l oa cap b o w2 (HS.out.below hb2) 1 (by decide);rw[HN.out.2,HN.out.1,HY2.out]at hp;have HP2:=Lib.hid hp;clear hp hb2;go_wp2_with fail
     ((with_reducible refine HP2.out.mono ?_);rintro e w3 ⟨⟨v,ok,rfl,hok,⟨vk,vn,vd,vu,voa,vL,vc,rfl⟩,hE⟩,hb3⟩)
     have h43:=H42.out.below hb3 H42.out.lt;have H43:=Lib.hid h43;have HE:=Lib.hid (And.intro hok (And.intro hE hb3));obtain⟨c0,f0,c1,f1,c2,f2,c3,f3,c4,f4,l4⟩:=Blk.five h43;clear h43 hok hE hb3;go_wp2_with fail;have hputs:=(H43.out).put5 (.int .i64 vk) (.int .i64 vn) (.int .i64 vd) (.int .i64 vu) (.slice voa vL vc);refine bodyPost_ret (v:=.tuple #[.agg #[.int .i64 vk,.int .i64 vn,.int .i64 vd,.int .i64 vu,.slice voa vL vc],.bool ok]) ?_ rfl ?_
     · refine ret_ex2 Tryz.results131 ?_ ?_ hputs rfl
       all_goals rfl
     · exact tail_ex (bfH HB2 HE.out.2.2).out (Nat.le_of_eq HG.out) H42.out.lt HE.out.1 HE.out.2.1
   | some i =>
     simp only[placeI]at HP
     have hiN:i<N:=by
      have:=(List.findIdx?_eq_some_iff_getElem.1 HPP.out).1;rw[← HN.out.2,List.length_map,HN.out.1]at this;exact this
     have ij0:(0:Int)≤(i:Int):=Int.natCast_nonneg _
     have gi:decide ((i:Int)<0)=false:=by simp
     have hi63:(i:Int)+1≤9223372036854775807:=by
      have h1:=HS.out.sl.le;have h2:=HS.out.sl.max;rw[HN.out.1]at h1;unfold maxLen at h2;omega
     obtain⟨oa1,cap1,o1,hr1,hv1⟩:=slice_hi HS.out HN.out.1 (Nat.le_of_lt hiN);obtain⟨oa2,cap2,o2,hr2,hv2⟩:=slice_lo HS.out HN.out.1 (Nat.succ_le_of_lt hiN)
     have hm1:(l.take i).map Vl.c=L.take i:=by rw[← HN.out.2,List.map_take]
     have hm2:(l.drop (i+1)).map Vl.c=L.drop (i+1):=by rw[← HN.out.2,List.map_drop]
     generalize l.take i=D1 at *;generalize l.drop (i+1)=D2 at *
     have hr2:=fun w=>hr2 ((i:Int)+1) w (by omega)
     have hr1:=fun w=>hr1 (i:Int) w rfl
     have HV:=Lib.hid (And.intro hv1 (And.intro hv2 (And.intro hm1 hm2)))
     have HY2:=Lib.hid (show (match ofH h 1 (L.take i),ofH h 1 (L.drop (i+1)) with
      | some a,some b=>some (ratioE a b)
      | _,_=>none)=Y from hY)
     obtain⟨X1,hX1⟩:∃ X,ofH h 1 (L.take i)=X:=⟨_,rfl⟩;obtain⟨X2,hX2⟩:∃ X,ofH h 1 (L.drop (i+1))=X:=⟨_,rfl⟩;rw[hX1,hX2]at HY2;have HX:=Lib.hid (And.intro hX1 hX2);clear hY hv1 hv2 hm1 hm2 hX1 hX2;go_wp2_with fail
     ((with_reducible refine HP.out.mono ?_);rintro e w2 ⟨rfl,hb2⟩)
     have HB2:=bfH HB4 hb2;have H42:=Lib.hid (H4.out.below hb2 H4.out.lt);have hp:=ofM_any h D1 oa1 cap1 b o1 w2 (HV.out.1 _ (HS.out.below hb2)) 1 (by decide);rw[HV.out.2.2.1,HX.out.1]at hp;have HP2:=Lib.hid hp;have HS2:=Lib.hid (HS.out.below hb2);have hw2:=hb2.size;clear hp hb2;go_wp2_with fail
     ((with_reducible refine HP2.out.mono ?_);rintro e w3 ⟨⟨v,ok1,rfl,hok1,⟨ak,an,ad,au,aoa,aL,ac,rfl⟩,hE1⟩,hb3⟩)
     have HE1:=Lib.hid (And.intro hok1 hE1);have h43:=H42.out.below hb3 H42.out.lt;have HB3:=bfH HB2 hb3
     have hp:=fun w4 (hb4:Below w3.heap.size w3 w4)=>ofM_any h D2 oa2 cap2 b o2 w4 (HV.out.2.1 _ ((HS2.out.below hb3).below hb4)) 1 (by decide)
     rw[HV.out.2.2.2,HX.out.2]at hp;have HP3:=Lib.hid hp;have hw3:=hb3.size;clear hp hb3 hok1 hE1
     go_upto_region 9 with fail
     obtain⟨h7,hb4⟩:=box_new w3 31 #[.int .i64 ak,.int .i64 an,.int .i64 ad,.int .i64 au,.slice aoa aL ac];have HP4:=Lib.hid (HP3.out _ hb4);have H44:=Lib.hid (h43.below hb4 h43.lt);have HB5:=bfH HB3 hb4;have HE2:=Lib.hid (And.intro HE1.out.1 fun E hE=>((HE1.out.2 E hE).below hb4));have hw4:=hb4.size;clear h43 hb4 HP3 HB3 HE1;generalize w3.heap.size=g7 at *;generalize w3.alloc _=w4 at *;have H7:=Lib.hid h7;clear h7;go_wp2_with fail
     ((with_reducible refine HP4.out.mono ?_);rintro e w5 ⟨⟨v,ok2,rfl,hok2,⟨bk,bn,bd,bu,boa,bL,bc,rfl⟩,hE2⟩,hb5⟩)
     have H75:=Lib.hid (H7.out.below hb5 H7.out.lt);have h45:=H44.out.below hb5 H44.out.lt;have HE3:=Lib.hid (And.intro HE2.out.1 (And.intro (fun E hE=>((HE2.out.2 E hE).below hb5)) (And.intro hok2 hE2)));have HB6:=bfH HB5 hb5;clear hb5 hok2 hE2 HE2 HP4 H7 H44 HB5
     go_upto_region 10 with fail
     obtain⟨h9,hb6⟩:=box_new w5 31 #[.int .i64 bk,.int .i64 bn,.int .i64 bd,.int .i64 bu,.slice boa bL bc];have h46:=h45.below hb6 h45.lt;have h76:=H75.out.below hb6 H75.out.lt;have HB7:=bfH HB6 hb6
     have HE4:=Lib.hid (show (ok1=X1.isSome∧ok2=X2.isSome)∧(∀ E,X1=some E→isEx (· < w1.heap.size) E (.agg #[.int .i64 ak,.int .i64 an,.int .i64 ad,.int .i64 au,.slice aoa aL ac]) _)∧∀ E,X2=some E→isEx (· < w1.heap.size) E (.agg #[.int .i64 bk,.int .i64 bn,.int .i64 bd,.int .i64 bu,.slice boa bL bc]) _ from
      ⟨⟨HE3.out.1,HE3.out.2.2.1⟩,fun E hE=>((HE3.out.2.1 E hE).below hb6).anti fun b hb=>Or.inl (Nat.lt_of_lt_of_le hb hw2),fun E hE=>((HE3.out.2.2.2 E hE).below hb6).anti fun b hb=>Or.inl (Nat.lt_of_lt_of_le hb (by omega))⟩)
     have hw6:=hb6.size
     have hg79:g7≠w5.heap.size:=by have:=H75.out.lt;omega
     clear h45 hb6 H75 HB6 HE3;have H46:=Lib.hid h46;generalize w5.heap.size=g9 at *;generalize w5.alloc _=w6 at *;obtain⟨c0,f0,c1,f1,c2,f2,c3,f3,c4,f4,l4⟩:=Blk.five h46;obtain⟨d0,e0,d1,e1,d2,e2,d3,e3,d4,e4,l7⟩:=Blk.five h76;obtain⟨x0,y0,x1,y1,x2,y2,x3,y3,x4,y4,l9⟩:=Blk.five h9;clear h46 h76 h9;have HF:=Lib.hid (fun okk hk W=>tail_ratio (W:=W) okk HB7.out (Nat.le_of_eq HG.out) H4.out.lt (show w1.heap.size≤w6.heap.size by omega) HY2.out HE4.out.1 HE4.out.2.1 HE4.out.2.2 hk)
     cases ok1
     · go_wp2_with fail;have hputs:=((H46.out.put5 (.int .i64 4) (.int .i64 0) (.int .i64 0) (.int .i64 0) (.slice (some ⟨w6.heap.size+1,0,none⟩) 2 2)).old (.cells #[.int .i64 bk,.int .i64 bn,.int .i64 bd,.int .i64 bu,.slice boa bL bc] 31)).old (.cells #[.int .i64 ak,.int .i64 an,.int .i64 ad,.int .i64 au,.slice aoa aL ac,.int .i64 5,.int .i64 0,.int .i64 0,.int .i64 0,.slice (some ⟨w6.heap.size,0,none⟩) 1 1] 31);refine bodyPost_ret (v:=.tuple #[.agg #[.int .i64 4,.int .i64 0,.int .i64 0,.int .i64 0,.slice (some ⟨w6.heap.size+1,0,none⟩) 2 2],.bool false]) ?_ rfl ?_
       · refine ret_ex2 Tryz.results131 ?_ ?_ hputs rfl
         all_goals rfl
       · exact HF.out _ rfl _ (by simp only[puts,Nat.zero_add,Nat.reduceAdd])
     · go_wp2_with fail;have hputs:=((H46.out.put5 (.int .i64 4) (.int .i64 0) (.int .i64 0) (.int .i64 0) (.slice (some ⟨w6.heap.size+1,0,none⟩) 2 2)).old (.cells #[.int .i64 bk,.int .i64 bn,.int .i64 bd,.int .i64 bu,.slice boa bL bc] 31)).old (.cells #[.int .i64 ak,.int .i64 an,.int .i64 ad,.int .i64 au,.slice aoa aL ac,.int .i64 5,.int .i64 0,.int .i64 0,.int .i64 0,.slice (some ⟨w6.heap.size,0,none⟩) 1 1] 31);refine bodyPost_ret (v:=.tuple #[.agg #[.int .i64 4,.int .i64 0,.int .i64 0,.int .i64 0,.slice (some ⟨w6.heap.size+1,0,none⟩) 2 2],.bool ok2]) ?_ rfl ?_
       · refine ret_ex2 Tryz.results131 ?_ ?_ hputs rfl
         all_goals rfl
       · exact HF.out _ rfl _ (by simp only[puts,Nat.zero_add,Nat.reduceAdd])
 have q1:(n==[97,115,112,101,99,116,45,114,97,116,105,111])=false:=beq_eq_false_iff_ne.2 hr;have hY:=HY.out;rw[if_neg HC.out,if_neg hr]at hY;obtain⟨z,hz⟩:∃ z,zeroN L=z:=⟨_,rfl⟩;rw[hz]at hY;have HY2:=Lib.hid hY;have hso:=solidM_any h l oa cap b o w1 HS.out;rw[HN.out.2,HN.out.1]at hso;have HSO:=Lib.hid hso;have HZ:=Lib.hid hz;clear hY hr hz hso;go_wp2_with fail
 ((with_reducible refine HSO.out.mono ?_);rintro e w2 ⟨⟨oa2,cap2,b2,D,rfl,hd,hc⟩,hb2⟩)
 have hz2:(match D.map Vl.c with
  | [v]=>v.tok.kind==10&&v.tok.num==(0,1)
  | _=>false)=z:=by rw[hc,← HZ.out];unfold zeroN;rfl
 have HB2:=bfH HB4 hb2;have H42:=Lib.hid (H4.out.below hb2 H4.out.lt);have hp:=ofM_any h l oa cap b o w2 (HS.out.below hb2) 2 (by decide);rw[HN.out.2,HN.out.1]at hp;have HP:=Lib.hid hp;have HD:=Lib.hid hd;have HZ2:=Lib.hid hz2;obtain⟨M,hM⟩:∃ M,D.length=M:=⟨_,rfl⟩;rw[hM];have HM:=Lib.hid hM;clear hp hc hz2 hb2 HSO HZ hd hM
 go_upto_region 12 with fail
 go_cut [75] from 56 to 75 (fun s wx=>s=.bool z∧wx=w2)
 case first =>
  by_cases hN:M=1
  · subst hN;obtain⟨x,rfl⟩:=List.length_eq_one_iff.1 HM.out;obtain⟨⟨tk,tt,⟨tn,td⟩,ti,tid⟩,koa,kb,ko,kcap,kids⟩:=x;have hd:=HD.out;obtain⟨f0,f1,f2,f3,f4,f5,f6⟩:=hd.row (i:=0) rfl;obtain⟨rfl,hbl⟩:=hd.sl.lies (by simp)
    have hz:(tk==10&&(tn,td)==(0,1))=z:=by rw[← HZ2.out];simp only[List.map_cons,List.map_nil,Vl.c_mk];rfl
    simp only[Nat.zero_mul,Nat.add_zero,Nat.zero_add]at f0 f1 f2 f3 f4 f5 f6;have hcp:=hd.sl.le;rw[HM.out]at hcp;clear hd HD HZ2 HM f4 f5 f6 f1
    by_cases hk:tk=10
    · subst hk;have HZ3:=Lib.hid (show ((tn,td)==(0,1))=z from hz);clear hz;go_wp2_with fail
      all_goals go_meet
      all_goals exact⟨by rw[← HZ3.out];simp[*],rfl⟩
    · have gk:(tk==10)=false:=beq_eq_false_iff_ne.2 hk;rw[gk]at hz;obtain rfl:false=z:=hz;go_wp2_with fail;go_meet;exact⟨rfl,rfl⟩
  · obtain rfl:false=z:=by
     rw[← HZ2.out]
     match D,(show D.length≠1 by rw[HM.out];exact hN) with
     | [],_=>rfl
     | [_],h=>exact absurd rfl h
     | _::_::_,_=>rfl
    have gk:((M:Int)==(1:Int))=false:=by rw[beq_eq_false_iff_ne];omega
    clear HM HD HZ2;go_wp2_with fail;go_meet;exact⟨rfl,rfl⟩
 case rest =>
  obtain⟨rfl,rfl⟩:=hcut
  cases z with
  | true =>
    obtain rfl:some zeroPx=Y:=HY2.out;obtain⟨c0,f0,c1,f1,c2,f2,c3,f3,c4,f4,l4⟩:=Blk.five H42.out;go_wp2_with fail;have hputs:=(H42.out).put5 (.int .i64 1) (.int .i64 0) (.int .i64 1) (.int .i64 1) (.slice none 0 0);refine bodyPost_ret (v:=.tuple #[.agg #[.int .i64 1,.int .i64 0,.int .i64 1,.int .i64 1,.slice none 0 0],.bool true]) ?_ rfl ?_
    · refine ret_ex2 Tryz.results131 ?_ ?_ hputs rfl
      all_goals rfl
    · exact tail_ex HB2.out (Nat.le_of_eq HG.out) H4.out.lt rfl fun E hE=>by obtain rfl:=Option.some.inj hE;exact⟨.mk 1 0 1 1 none 0 0 0 [],1,rfl,rfl,ExIn.leaf (i64_small _ (by decide)) (by unfold Is64;decide) (i64_small _ (by decide))⟩
  | false =>
    have hY3:ofH h 2 L=Y:=HY2.out;have hp:=HP.out;rw[hY3]at hp;have HP2:=Lib.hid hp;clear hp hY3 HP;go_wp2_with fail
    ((with_reducible refine HP2.out.mono ?_);rintro e w3 ⟨⟨v,ok,rfl,hok,⟨vk,vn,vd,vu,voa,vL,vc,rfl⟩,hE⟩,hb3⟩)
    have h43:=H42.out.below hb3 H42.out.lt;have H43:=Lib.hid h43;have HE:=Lib.hid (And.intro hok (And.intro hE hb3));obtain⟨c0,f0,c1,f1,c2,f2,c3,f3,c4,f4,l4⟩:=Blk.five h43;clear h43 hok hE hb3;go_wp2_with fail;have hputs:=(H43.out).put5 (.int .i64 vk) (.int .i64 vn) (.int .i64 vd) (.int .i64 vu) (.slice voa vL vc);refine bodyPost_ret (v:=.tuple #[.agg #[.int .i64 vk,.int .i64 vn,.int .i64 vd,.int .i64 vu,.slice voa vL vc],.bool ok]) ?_ rfl ?_
    · refine ret_ex2 Tryz.results131 ?_ ?_ hputs rfl
      all_goals rfl
    · exact tail_ex (bfH HB2 HE.out.2.2).out (Nat.le_of_eq HG.out) H42.out.lt HE.out.1 HE.out.2.1
def zero14:Array Value:=#[.int .i64 0,.slice none 0 0,.int .i64 0,.int .i64 0,.string ⟨#[]⟩,.int .i64 0,.int .i64 0,.int .i64 0,.int .i64 0,.int .i64 0,.slice none 0 0,.string ⟨#[]⟩,.string ⟨#[]⟩,.bool false]
theorem blk_puts {g:Nat} {t:TypeId}:∀ (vs post:List Value) (w:World) (o:Nat) (pre:List Value),Blk w g t (pre++post).toArray→pre.length=o→post.length=vs.length→Blk (puts w g o vs) g t (pre++vs).toArray
 | [],post,w,o,pre,h,_,hl=>by
   obtain rfl:=List.eq_nil_of_length_eq_zero hl;exact h
 | v::vs,[],_,_,_,_,_,hl=>by simp at hl
 | v::vs,p::post,w,o,pre,h,hp,hl=>by
   have h1:=h.put o v
   have e:((pre++p::post).toArray.setIfInBounds o v)=((pre++[v])++post).toArray:=by
    subst hp;simp
   rw[e]at h1;have:=blk_puts vs post _ (o+1) (pre++[v]) h1 (by simp[hp]) (by simpa using hl);rw[List.append_assoc,List.singleton_append]at this;exact this
theorem below_puts (cs:List Value) (w:World) (g o:Nat):Below g w (puts w g o cs):=by
 have h:=grownBy_puts cs w g o
 exact ⟨h.os,h.tape,h.output,h.size,fun b hb=>by
  by_cases h2:b<w.heap.size
  · exact h.block b h2 (fun e=>by have:=Option.some.inj e;omega)
  · rw[Array.getElem?_eq_none (by rw[puts_size];omega),Array.getElem?_eq_none (by omega)]⟩
theorem Blk.put14 {w:World} {g:Nat} {t:TypeId} (h:Blk w g t zero14) (v0 v1 v2 v3 v4 v5 v6 v7 v8 v9 v10 v11 v12 v13:Value):Blk (((((((((((((((w).setCell ⟨g,0,none⟩ v0).setCell ⟨g,1,none⟩ v1).setCell ⟨g,2,none⟩ v2).setCell ⟨g,3,none⟩ v3).setCell ⟨g,4,none⟩ v4).setCell ⟨g,5,none⟩ v5).setCell ⟨g,6,none⟩ v6).setCell ⟨g,7,none⟩ v7).setCell ⟨g,8,none⟩ v8).setCell ⟨g,9,none⟩ v9).setCell ⟨g,10,none⟩ v10).setCell ⟨g,11,none⟩ v11).setCell ⟨g,12,none⟩ v12).setCell ⟨g,13,none⟩ v13) g t #[v0,v1,v2,v3,v4,v5,v6,v7,v8,v9,v10,v11,v12,v13]:=by
 have hz:=blk_puts [v0,v1,v2,v3,v4,v5,v6,v7,v8,v9,v10,v11,v12,v13] zero14.toList w 0 [] h rfl rfl;simp only[puts,Nat.zero_add,Nat.reduceAdd]at hz;exact hz
theorem Blk.z14 {w:World} {g:Nat} {t:TypeId} (h:Blk w g t zero14):w.cell? ⟨g,0,none⟩=some (.int .i64 0)∧w.frozen? ⟨g,0,none⟩=false∧w.cell? ⟨g,1,none⟩=some (.slice none 0 0)∧w.frozen? ⟨g,1,none⟩=false∧w.cell? ⟨g,2,none⟩=some (.int .i64 0)∧w.frozen? ⟨g,2,none⟩=false∧w.cell? ⟨g,3,none⟩=some (.int .i64 0)∧w.frozen? ⟨g,3,none⟩=false∧w.cell? ⟨g,4,none⟩=some (.string ⟨#[]⟩)∧w.frozen? ⟨g,4,none⟩=false∧w.cell? ⟨g,5,none⟩=some (.int .i64 0)∧w.frozen? ⟨g,5,none⟩=false∧w.cell? ⟨g,6,none⟩=some (.int .i64 0)∧w.frozen? ⟨g,6,none⟩=false∧w.cell? ⟨g,7,none⟩=some (.int .i64 0)∧w.frozen? ⟨g,7,none⟩=false∧w.cell? ⟨g,8,none⟩=some (.int .i64 0)∧w.frozen? ⟨g,8,none⟩=false∧w.cell? ⟨g,9,none⟩=some (.int .i64 0)∧w.frozen? ⟨g,9,none⟩=false∧w.cell? ⟨g,10,none⟩=some (.slice none 0 0)∧w.frozen? ⟨g,10,none⟩=false∧w.cell? ⟨g,11,none⟩=some (.string ⟨#[]⟩)∧w.frozen? ⟨g,11,none⟩=false∧w.cell? ⟨g,12,none⟩=some (.string ⟨#[]⟩)∧w.frozen? ⟨g,12,none⟩=false∧w.cell? ⟨g,13,none⟩=some (.bool false)∧w.frozen? ⟨g,13,none⟩=false∧g<w.heap.size:=Blk.many14 h
theorem sizeCond:(Tryz.prog.info? 35).map (·.size)=some 14:=by kernel_rfl
theorem load_cd {w:World} {g:Nat} {t:TypeId} {cs:Array Value} (h:Blk w g t cs) (hs:cs.size=14):(loadVar 35 ⟨g,0,none⟩).run Tryz.prog w=.ok (.agg cs) w :=
 run_loadVar_row w g t _ cs (0,0) _ h Tryz.underlying35 rfl (by rw[hs];exact sizeCond)
theorem ret_cd {fn:Func} {p:Tmp} {tmps:Array Value} {w:World} {g:Nat} {t:TypeId} {cs:Array Value} (hr:fn.results=#[.cell p 35]) (hp:tmps.getD p undef=.pointer (some ⟨g,0,none⟩)) (h:Blk w g t cs) (hs:cs.size=14):(results fn tmps).run Tryz.prog w=.ok (.agg cs) w :=
 results_cell_row hr tmps w g t cs (0,0) _ hp h Tryz.underlying35 rfl (by rw[hs];exact sizeCond)
theorem ret_cd2 {fn:Func} {p u:Tmp} {tmps:Array Value} {w:World} {g:Nat} {t:TypeId} {cs:Array Value} {x:Value} (hr:fn.results=#[.cell p 35,.tmp u]) (hp:tmps.getD p undef=.pointer (some ⟨g,0,none⟩)) (hu:tmps.getD u undef=x) (h:Blk w g t cs) (hs:cs.size=14):(results fn tmps).run Tryz.prog w=.ok (.tuple #[.agg cs,x]) w:=by
 rw[results_cell_tmp hr,hp,hu];simp only[asAddr,Sem.run_pure,Result.andThen_ok,load_cd h hs]
def isC14 (v:Value):Prop:=∃ (k:Int) (oa:Option Addr) (n cap:Nat) (k2 t:Int) (nm:ByteArray) (op e0 e1 e2 e3:Int) (ea:Option Addr) (en ec:Nat) (wd vl:ByteArray) (an:Bool),v=.agg #[.int .i64 k,.slice oa n cap,.int .i64 k2,.int .i64 t,.string nm,.int .i64 op,.int .i64 e0,.int .i64 e1,.int .i64 e2,.int .i64 e3,.slice ea en ec,.string wd,.string vl,.bool an]
def retC (A:Nat→Prop) (r:Option Ct) (e:Ending) (w:World):Prop:=∃ (v:Value) (ok:Bool),e=.returned (.tuple #[v,.bool ok])∧ok=r.isSome∧isC14 v∧∀ C,r=some C→isCd A C v w
theorem tail_cd {w w2:World} {g n:Nat} {Y:Option Ct} {ok:Bool} {v0 v1 v2 v3 v4 v5 v6 v7 v8 v9 v10 v11 v12 v13:Value} (hb:Below w.heap.size w w2) (hg:w.heap.size≤g) (hn:g<n) (hok:ok=Y.isSome) (h14:isC14 (.agg #[v0,v1,v2,v3,v4,v5,v6,v7,v8,v9,v10,v11,v12,v13])) (hE:∀ C,Y=some C→isCd (· < n) C (.agg #[v0,v1,v2,v3,v4,v5,v6,v7,v8,v9,v10,v11,v12,v13]) w2) {W:World} (hW:W=((((((((((((((w2).setCell ⟨g,0,none⟩ v0).setCell ⟨g,1,none⟩ v1).setCell ⟨g,2,none⟩ v2).setCell ⟨g,3,none⟩ v3).setCell ⟨g,4,none⟩ v4).setCell ⟨g,5,none⟩ v5).setCell ⟨g,6,none⟩ v6).setCell ⟨g,7,none⟩ v7).setCell ⟨g,8,none⟩ v8).setCell ⟨g,9,none⟩ v9).setCell ⟨g,10,none⟩ v10).setCell ⟨g,11,none⟩ v11).setCell ⟨g,12,none⟩ v12).setCell ⟨g,13,none⟩ v13) :
  retC (· < w.heap.size) Y (.returned (.tuple #[.agg #[v0,v1,v2,v3,v4,v5,v6,v7,v8,v9,v10,v11,v12,v13],.bool ok])) W∧Below w.heap.size w W:=by
 have hgz:=grownBy_puts [v0,v1,v2,v3,v4,v5,v6,v7,v8,v9,v10,v11,v12,v13] w2 g 0;have hbz:=hb.trans ((below_puts [v0,v1,v2,v3,v4,v5,v6,v7,v8,v9,v10,v11,v12,v13] w2 g 0).mono hg);simp only[puts,Nat.zero_add,Nat.reduceAdd]at hgz hbz;subst hW;exact⟨⟨_,_,rfl,hok,h14,fun C hC=>((hE C hC).grown hgz fun q e _=>by injection e with e;show q<n;omega).anti fun b hb=>Or.inl (by have hb:b<w.heap.size:=hb;show b<n;omega)⟩,hbz⟩
theorem Blk.zput {w:World} {g:Nat} {t:TypeId} (h:Blk w g t zero14):Blk (((((((((((((((w).setCell ⟨g,0,none⟩ (.int .i64 0)).setCell ⟨g,1,none⟩ (.slice none 0 0)).setCell ⟨g,2,none⟩ (.int .i64 0)).setCell ⟨g,3,none⟩ (.int .i64 0)).setCell ⟨g,4,none⟩ (.string ⟨#[]⟩)).setCell ⟨g,5,none⟩ (.int .i64 0)).setCell ⟨g,6,none⟩ (.int .i64 0)).setCell ⟨g,7,none⟩ (.int .i64 0)).setCell ⟨g,8,none⟩ (.int .i64 0)).setCell ⟨g,9,none⟩ (.int .i64 0)).setCell ⟨g,10,none⟩ (.slice none 0 0)).setCell ⟨g,11,none⟩ (.string ⟨#[]⟩)).setCell ⟨g,12,none⟩ (.string ⟨#[]⟩)).setCell ⟨g,13,none⟩ (.bool false)) g t #[.int .i64 0,.slice none 0 0,.int .i64 0,.int .i64 0,.string ⟨#[]⟩,.int .i64 0,.int .i64 0,.int .i64 0,.int .i64 0,.int .i64 0,.slice none 0 0,.string ⟨#[]⟩,.string ⟨#[]⟩,.bool false]:=h.put14 (.int .i64 0) (.slice none 0 0) (.int .i64 0) (.int .i64 0) (.string ⟨#[]⟩) (.int .i64 0) (.int .i64 0) (.int .i64 0) (.int .i64 0) (.int .i64 0) (.slice none 0 0) (.string ⟨#[]⟩) (.string ⟨#[]⟩) (.bool false)
theorem none_cd {w w2:World} {g:Nat} {Y:Option Ct} (hb:Below w.heap.size w w2) (hg:w.heap.size≤g) (hY:Y=none) {W:World} (hW:W=((((((((((((((w2).setCell ⟨g,0,none⟩ (.int .i64 0)).setCell ⟨g,1,none⟩ (.slice none 0 0)).setCell ⟨g,2,none⟩ (.int .i64 0)).setCell ⟨g,3,none⟩ (.int .i64 0)).setCell ⟨g,4,none⟩ (.string ⟨#[]⟩)).setCell ⟨g,5,none⟩ (.int .i64 0)).setCell ⟨g,6,none⟩ (.int .i64 0)).setCell ⟨g,7,none⟩ (.int .i64 0)).setCell ⟨g,8,none⟩ (.int .i64 0)).setCell ⟨g,9,none⟩ (.int .i64 0)).setCell ⟨g,10,none⟩ (.slice none 0 0)).setCell ⟨g,11,none⟩ (.string ⟨#[]⟩)).setCell ⟨g,12,none⟩ (.string ⟨#[]⟩)).setCell ⟨g,13,none⟩ (.bool false)) :
  retC (· < w.heap.size) Y (.returned (.tuple #[.agg #[.int .i64 0,.slice none 0 0,.int .i64 0,.int .i64 0,.string ⟨#[]⟩,.int .i64 0,.int .i64 0,.int .i64 0,.int .i64 0,.int .i64 0,.slice none 0 0,.string ⟨#[]⟩,.string ⟨#[]⟩,.bool false],.bool false])) W∧Below w.heap.size w W :=
 tail_cd hb hg (Nat.lt_succ_self g) (by rw[hY];rfl) ⟨_,_,_,_,_,_,_,_,_,_,_,_,_,_,_,_,_,_,rfl⟩ (fun C hC=>by rw[hY]at hC;cases hC) hW
theorem cmp_cd {A:Nat→Prop} {w:World} {E:Et} {vk vn vd vu:Int} {voa:Option Addr} {vL vc:Nat} (n:List UInt8) (op:Int) (h:isEx A E (.agg #[.int .i64 vk,.int .i64 vn,.int .i64 vd,.int .i64 vu,.slice voa vL vc]) w) (ho:I64 op) :
  isCd A (cmpC n op E) (.agg #[.int .i64 4,.slice none 0 0,.int .i64 4,.int .i64 0,.string ⟨n.toArray⟩,.int .i64 op,.int .i64 vk,.int .i64 vn,.int .i64 vd,.int .i64 vu,.slice voa vL vc,.string ⟨#[]⟩,.string ⟨#[]⟩,.bool false]) w:=by
 obtain⟨x,hh,hv,hc,hs⟩:=h;have hl:=leaf_cd (A:=A) (w:=w) 4 0 ⟨n.toArray⟩ op ⟨#[]⟩ ⟨#[]⟩ false (i64_small _ (by decide)) (i64_small _ (by decide)) ho hc hs
 have e:cv (.mk 4 none 0 0 0 [] ⟨4,0,⟨n.toArray⟩,op,x,⟨#[]⟩,⟨#[]⟩,false⟩)=.agg #[.int .i64 4,.slice none 0 0,.int .i64 4,.int .i64 0,.string ⟨n.toArray⟩,.int .i64 op,.int .i64 vk,.int .i64 vn,.int .i64 vd,.int .i64 vu,.slice voa vL vc,.string ⟨#[]⟩,.string ⟨#[]⟩,.bool false]:=by
  obtain⟨a,b,c,d,oa,g,o,cap,kids⟩:=x;rw[xv_mk]at hv;simp only[Value.agg.injEq,Array.mk.injEq,List.cons.injEq,Value.int.injEq,Value.slice.injEq,true_and,and_true]at hv;obtain⟨rfl,rfl,rfl,rfl,rfl,rfl,rfl⟩:=hv;rfl
 rw[e]at hl;exact hl
theorem word_cd (A:Nat→Prop) (w:World) (k:Int) (n wd:List UInt8) (hk:0≤k∧k≤8) :
  isCd A (leafC { lt0 with kind:=k,name:=n,word:=wd }) (.agg #[.int .i64 4,.slice none 0 0,.int .i64 k,.int .i64 0,.string ⟨n.toArray⟩,.int .i64 0,.int .i64 0,.int .i64 0,.int .i64 0,.int .i64 0,.slice none 0 0,.string ⟨wd.toArray⟩,.string ⟨#[]⟩,.bool false]) w :=
 leaf_cd (A:=A) (w:=w) (x:=.mk 0 0 0 0 none 0 0 0 []) (hx:=1) k 0 ⟨n.toArray⟩ 0 ⟨wd.toArray⟩ ⟨#[]⟩ false (i64_small _ hk) (i64_small _ (by decide)) (i64_small _ (by decide)) rfl (ExIn.leaf (i64_small _ (by decide)) (by unfold Is64;decide) (i64_small _ (by decide)))
set_option maxHeartbeats 1000000 in
theorem leafM_any (k t op e0 e1 e2 e3:Int) (nm wd vl:ByteArray) (ea:Option Addr) (en ec:Nat) (an:Bool) (w:World) :
  Calls Tryz.prog 98 #[.agg #[.int .i64 k,.int .i64 t,.string nm,.int .i64 op,.int .i64 e0,.int .i64 e1,.int .i64 e2,.int .i64 e3,.slice ea en ec,.string wd,.string vl,.bool an]] w fun e w' =>
   e=.returned (.agg #[.int .i64 4,.slice none 0 0,.int .i64 k,.int .i64 t,.string nm,.int .i64 op,.int .i64 e0,.int .i64 e1,.int .i64 e2,.int .i64 e3,.slice ea en ec,.string wd,.string vl,.bool an])∧Below w.heap.size w w':=by
 have hb:=Blk.new2 w (.cells #[.int .i64 k,.int .i64 t,.string nm,.int .i64 op,.int .i64 e0,.int .i64 e1,.int .i64 e2,.int .i64 e3,.slice ea en ec,.string wd,.string vl,.bool an] 33) 35 #[.int .i64 4,.slice none 0 0,.int .i64 k,.int .i64 t,.string nm,.int .i64 op,.int .i64 e0,.int .i64 e1,.int .i64 e2,.int .i64 e3,.slice ea en ec,.string wd,.string vl,.bool an];have HB:=Lib.hid hb;clear hb
 go_enter Tryz.func98,Tryz.ntmps98
 go_wp2_with fail;exact bodyPost_ret (ret_cd Tryz.results98 rfl HB.out rfl) rfl ⟨rfl,(below_box w _).alloc (by simp) _⟩
theorem turnedM_any (op:Int) (w:World) (ho:0≤op∧op≤6):Calls Tryz.prog 135 #[.int .i64 op] w fun e w'=>e=.returned (.int .i64 (6-op))∧w=w':=by
 go_enter Tryz.func135,Tryz.ntmps135
 go_wp2_with fail;go_ret;exact⟨rfl,rfl⟩
theorem Blk.lf12 {w:World} {g:Nat} {t:TypeId} {a0 a1 a2 a3 a4 a5 a6 a7 a8 a9 a10 a11:Value} (h:Blk w g t #[a0,a1,a2,a3,a4,a5,a6,a7,a8,a9,a10,a11]):w.cell? ⟨g,0,none⟩=some a0∧w.cell? ⟨g,1,none⟩=some a1∧w.cell? ⟨g,2,none⟩=some a2∧w.cell? ⟨g,3,none⟩=some a3∧w.cell? ⟨g,4,none⟩=some a4∧w.cell? ⟨g,5,none⟩=some a5∧w.cell? ⟨g,6,none⟩=some a6∧w.cell? ⟨g,7,none⟩=some a7∧w.cell? ⟨g,8,none⟩=some a8∧w.cell? ⟨g,9,none⟩=some a9∧w.cell? ⟨g,10,none⟩=some a10∧w.cell? ⟨g,11,none⟩=some a11∧w.frozen? ⟨g,4,none⟩=false∧w.frozen? ⟨g,5,none⟩=false∧w.frozen? ⟨g,6,none⟩=false∧w.frozen? ⟨g,7,none⟩=false∧w.frozen? ⟨g,8,none⟩=false∧g<w.heap.size :=
 ⟨h.cell 0,h.cell 1,h.cell 2,h.cell 3,h.cell 4,h.cell 5,h.cell 6,h.cell 7,h.cell 8,h.cell 9,h.cell 10,h.cell 11,h.frozen 4,h.frozen 5,h.frozen 6,h.frozen 7,h.frozen 8,h.lt⟩
theorem elLeaf:El 96 33 (.agg #[.int .i64 0,.int .i64 0,.string ⟨#[]⟩,.int .i64 0,.int .i64 0,.int .i64 0,.int .i64 0,.int .i64 0,.slice none 0 0,.string ⟨#[]⟩,.string ⟨#[]⟩,.bool false]) 12 136:=⟨Tryz.underlying96,by kernel_rfl,rfl,by decide⟩
def keyL (l:Lf):Int×ByteArray:=(l.kind,l.name)
structure Lw (w0:World) (gO gW:Nat) (wr:World) (v:Value) (ms:List Lf):Prop where
 below:Below w0.heap.size w0 wr
 out:Blk wr gO 96 #[v]
 wlk:Blk wr gW 124 #[.func (.func 61) #[] #[.pointer (some ⟨gO,0,none⟩),.pointer (some ⟨gW,0,none⟩)]]
 own:wr.ownsRow (gW+1) 33 12 v ms.length (ms.flatMap lcells)
 hO:w0.heap.size≤gO
 hW:gO<gW
section
variable {w0 wr w':World} {gO gW:Nat} {v:Value} {ms:List Lf} {row:Option Nat}
theorem Lw.grown (h:Lw w0 gO gW wr v ms) (hg:wr.grownBy w' row) (hr:∀ k,row=some k→w0.heap.size≤k∧k≠gO∧k≠gW∧v.ownBlock≠some k):Lw w0 gO gW w' v ms :=
 ⟨below_far h.below hg (fun k e=>(hr k e).1),blk_grownBy h.out hg (fun e=>(hr gO e.symm).2.1 rfl),blk_grownBy h.wlk hg (fun e=>(hr gW e.symm).2.2.1 rfl),
   h.own.kept hg (by
    cases hv:v.ownBlock with
    | none=>exact .inl rfl
    | some k=>exact .inr (fun e=>(hr k (by first|exact e|exact e.symm)).2.2.2 hv)),h.hO,h.hW⟩
theorem Lw.next (h:Lw w0 gO gW wr v ms) (hb:Below wr.heap.size wr w'):Lw w0 gO gW w' v ms:=h.grown (grownBy_of_below hb none) (fun _ e=>by cases e)
theorem Lw.lts (h:Lw w0 gO gW wr v ms):gO<wr.heap.size∧gW<wr.heap.size∧∀ k,v.ownBlock=some k→gW<k∧k<wr.heap.size:=⟨h.out.lt,h.wlk.lt,fun k e=>by have:=h.own.lt k e;omega⟩
theorem Lw.push (h:Lw w0 gO gW wr v ms) {m:Lf} {g cap:Nat} (hg:wr.grownBy w' v.ownBlock) (ho:w'.ownsRow (gW+1) 33 12 (.slice (some ⟨g,0,none⟩) (ms.length+1) cap) (ms.length+1) (ms.flatMap lcells++lcells m)) :
  Lw w0 gO gW (w'.setCell ⟨gO,0,none⟩ (.slice (some ⟨g,0,none⟩) (ms.length+1) cap)) (.slice (some ⟨g,0,none⟩) (ms.length+1) cap) (ms++[m]):=by
 have hv:=h.lts.2.2;have hO:=h.hO;have hW:=h.hW;refine⟨?_,?_,?_,?_,hO,hW⟩
 · exact(below_far h.below hg (fun k e=>by have:=hv k e;omega)).setCell (p:=⟨gO,0,none⟩) hO _
 · exact((blk_grownBy h.out hg (fun e=>by have:=hv gO e.symm;omega)).put 0 _).to rfl
 · exact(blk_grownBy h.wlk hg (fun e=>by have:=hv gW e.symm;omega)).far (p:=⟨gO,0,none⟩) (by simp;omega) _
 · have:=owns_set ho (p:=⟨gO,0,none⟩) (show gO<gW+1 by omega) (.slice (some ⟨g,0,none⟩) (ms.length+1) cap);rw[List.length_append,List.flatMap_append,List.length_singleton,List.flatMap_cons,List.flatMap_nil,List.append_nil];exact this
end
theorem mayC_nokids {f:Nat} {oa:Option Addr} {b o cap:Nat} {kids:List Cd} {lf:Lf} (h:mayC f (.mk 4 oa b o cap kids lf)=true):kids.length=0:=by
 cases f with
 | zero=>cases h
 | succ f =>
   rw[mayC_leaf]at h;simp only[Bool.and_eq_true,decide_eq_true_eq]at h;simpa using h.1
set_option maxRecDepth 20000 in
set_option maxHeartbeats 8000000 in
theorem walkL_any (w0:World) (gO gW:Nat):∀ (h f:Nat) (e:Cd) (wr:World) (v:Value) (ms:List Lf),CdIn w0 h e→mayC f e=true→Lw w0 gO gW wr v ms→ms.length+(leavesC h e).length≤1048576 →
  Calls Tryz.prog 61 #[cv e,.pointer (some ⟨gO,0,none⟩),.pointer (some ⟨gW,0,none⟩)] wr fun x w'=>x=.returned (.tuple #[])∧∃ v' ns,Lw w0 gO gW w' v' (ms++ns)∧ns.map keyL=(leavesC h e).map keyL:=by
 intro h
 induction h with
 | zero=>exact fun _ _ _ _ _ h=>h.elim
 | succ h ih =>
   intro f e wr v ms hx hm hL hbk;obtain⟨c,oa,b,o,cap,kids,lf⟩:=e;obtain⟨h1,h2,h4,h5,h6,h7,h8⟩:=hx;have hsm:kids.length≤9223372036854775807:=Nat.le_trans (Nat.le_trans h4 h5) (by decide);have HIH:=Lib.hid ih;clear ih
   by_cases hk:c=4
   · subst hk;rw[leavesC_leaf]at hbk ⊢;have hK0:=mayC_nokids hm;clear hm h7 h8 HIH h1 hsm h4 h5 h6;obtain⟨lk,lt,nm,op,ex,wd,vl,an⟩:=lf
     have hE:=fun wx hb=>expr_any h ex wx (h2.2.2.2.below h (w':=wx) hb)
     obtain⟨k',n,d,u,oa',b',o',cap',kids'⟩:=ex;simp only[xv_mk]at hE;have HE:=Lib.hid hE;rw[cv_mk,hK0];have hmL:ms.length+1≤1048576:=hbk;clear hE h2 hK0 hbk;generalize kids'.length=L' at *;obtain⟨hB1,hb1⟩:=box_new wr 35 #[.int .i64 4,.slice oa 0 cap,.int .i64 lk,.int .i64 lt,.string nm,.int .i64 op,.int .i64 k',.int .i64 n,.int .i64 d,.int .i64 u,.slice oa' L' cap',.string wd,.string vl,.bool an];have HL:=Lib.hid (hL.next hb1);have HB1:=Lib.hid hB1;have hlts:=hL.lts;have HG:=Lib.hid hlts;obtain⟨g,hg⟩:∃ g,wr.heap.size=g:=⟨_,rfl⟩;rw[hg]at HB1 HG;clear hL hb1 hB1 hlts
     go_enter Tryz.func61,Tryz.ntmps61
     go_upto_region 1 with fail
     try simp only[hg]
     clear hg;generalize World.alloc wr _=w1 at *;obtain⟨c0,fc0,c1,fc1,c2,fc2,c3,fc3,c4,fc4,c5,fc5,c6,fc6,c7,fc7,c8,fc8,c9,fc9,c10,fc10,c11,fc11,c12,fc12,c13,fc13,lc⟩:=Blk.many14 (HB1.out)
     go_upto_region 3 with fail
     obtain⟨hB2,hb2⟩:=box_new w1 33 #[.int .i64 lk,.int .i64 lt,.string nm,.int .i64 op,.int .i64 k',.int .i64 n,.int .i64 d,.int .i64 u,.slice oa' L' cap',.string wd,.string vl,.bool an];have HL2:=Lib.hid (HL.out.next hb2);have HB12:=Lib.hid (HB1.out.below hb2 lc);have hgl:=lc;have hnv:=HL.out.lts;have HNV:=Lib.hid hnv;clear c0 c1 c2 c3 c4 c5 c6 c7 c8 c9 c10 c11 c12 c13 fc0 fc1 fc2 fc3 fc4 fc5 fc6 fc7 fc8 fc9 fc10 fc11 fc12 fc13 lc HL HB1 hb2 hnv;obtain⟨g2,hg2⟩:∃ g2,w1.heap.size=g2:=⟨_,rfl⟩;rw[hg2]at hB2 HNV hgl;simp only[hg2];clear hg2;generalize World.alloc w1 _=w2 at *;have HB2:=Lib.hid hB2;obtain⟨c0,c1,c2,c3,c4,c5,c6,c7,c8,c9,c10,c11,f4,f5,f6,f7,f8,lc⟩:=hB2.lf12;clear hB2;go_wp2_with fail
     ((with_reducible refine(HE.out _ HL2.out.below).mono ?_);rintro e w3 ⟨⟨yk,yn,yd,yu,ya,yl,yc,rfl⟩,hb3⟩)
     have HL3:=Lib.hid (HL2.out.next hb3);have HB3:=Lib.hid (HB2.out.below hb3 lc);have HB13:=Lib.hid (HB12.out.below hb3 HB12.out.lt);clear c0 c1 c2 c3 c4 c5 c6 c7 c8 c9 c10 c11 f4 f5 f6 f7 f8 HL2 HB2 HB12 HE hb3;obtain⟨c0,c1,c2,c3,c4,c5,c6,c7,c8,c9,c10,c11,f4,f5,f6,f7,f8,lc⟩:=HB3.out.lf12
     go_upto_region 4 with fail
     have hB4:=(((((HB3.out.put 4 (.int .i64 yk)).put 5 (.int .i64 yn)).put 6 (.int .i64 yd)).put 7 (.int .i64 yu)).put 8 (.slice ya yl yc)).to (cs':=#[.int .i64 lk,.int .i64 lt,.string nm,.int .i64 op,.int .i64 yk,.int .i64 yn,.int .i64 yd,.int .i64 yu,.slice ya yl yc,.string wd,.string vl,.bool an]) rfl;have hg4:=grownBy_puts [.int .i64 yk,.int .i64 yn,.int .i64 yd,.int .i64 yu,.slice ya yl yc] w3 g2 4;simp only[puts,Nat.reduceAdd]at hg4
     have HL4:=Lib.hid (HL3.out.grown hg4 (fun k e=>by
      obtain rfl:=Option.some.inj e;obtain⟨q1,q2,q3⟩:=HNV.out;have:=HL3.out.hO
      exact⟨by omega,by omega,by omega,fun e2=>by have:=q3 _ e2;omega⟩))
     have HB14:=Lib.hid (blk_grownBy HB13.out hg4 (by simp;omega));clear c0 c1 c2 c3 c4 c5 c6 c7 c8 c9 c10 c11 f4 f5 f6 f7 f8 lc HL3 HB3 HB13 hg4;have HB4:=Lib.hid hB4;clear hB4;generalize World.setCell _ ⟨g2,8,none⟩ _=w4 at *;obtain⟨c0,c1,c2,c3,c4,c5,c6,c7,c8,c9,c10,c11,f4,f5,f6,f7,f8,lc⟩:=HB4.out.lf12;have cO:=HL4.out.out.cell 0;have hbase:gW+1≤w4.heap.size:=HL4.out.lts.2.1
     go_upto_region 5 with (at_builtin;refine wpList_put elLeaf rfl _ _ rfl rfl HL4.out.own hbase 1 1 #[.int .i64 lk,.int .i64 lt,.string nm,.int .i64 op,.int .i64 yk,.int .i64 yn,.int .i64 yd,.int .i64 yu,.slice ya yl yc,.string wd,.string vl,.bool an] _ rfl rfl (by simp[Value.oneCell']) (by omega) (by omega) (by omega) ?_;intro gg cap2 w5 hR2 hg2 hr2;have hO5:=blk_grownBy HL4.out.out hg2 (fun e=>by have:=(HL4.out.lts.2.2 gO e.symm).1;have:=HL4.out.hW;omega);have H5:=Lib.hid (And.intro hR2 hg2);clear hR2 hg2 hr2;have cO5:=hO5.cell 0;have fO5:=hO5.frozen 0;have lO5:=hO5.lt;clear hO5)
     have hP:=HL4.out.push (m:=⟨lk,lt,nm,op,.mk yk yn yd yu ya 0 0 yc (List.replicate yl zeroX),wd,vl,an⟩) H5.out.2 (by have:=H5.out.1;simpa[lcells,xcells,List.length_replicate] using this);have hB6:=(blk_grownBy HB14.out H5.out.2 (fun e=>by have:=(HG.out.2.2 g e.symm).2;omega)).far (p:=⟨gO,0,none⟩) (by have:=HG.out.1;simp;omega) (.slice (some ⟨gg,0,none⟩) (ms.length+1) cap2);have HP:=Lib.hid hP;clear hP c0 c1 c2 c3 c4 c5 c6 c7 c8 c9 c10 c11 f4 f5 f6 f7 f8 lc cO cO5 fO5 lO5 hbase H5 HL4 HB4 HB14 hgl;generalize World.setCell w5 _ _=w6 at *;obtain⟨y0,fy0,y1,fy1,y2,fy2,y3,fy3,y4,fy4,y5,fy5,y6,fy6,y7,fy7,y8,fy8,y9,fy9,y10,fy10,y11,fy11,y12,fy12,y13,fy13,ly⟩:=Blk.many14 (hB6);clear hB6;go_wp2_with fail
     go_loopg [23] 0 (fun q s wx=>s=.int .i64 0∧wx=w6)
     case atStart=>exact⟨rfl,rfl⟩
     case round =>
      obtain⟨rfl,rfl⟩:=hrel;go_wp2_with fail
      go_end0
      exact⟨rfl,_,_,HP.out,rfl⟩
   · rw[leavesC_more _ hk]at hbk ⊢;obtain⟨hc,f',hmk⟩:=mayC_parts hk hm
     have gk:(c==4)=false:=by simpa using hk
     have HBK:=Lib.hid hbk;clear hm h1 h2 hc hbk;obtain⟨lk,lt,nm,op,⟨k',n,d,u,oa',b',o',cap',kids'⟩,wd,vl,an⟩:=lf;rw[cv_mk];obtain⟨hB1,hb1⟩:=box_new wr 35 #[.int .i64 c,.slice oa kids.length cap,.int .i64 lk,.int .i64 lt,.string nm,.int .i64 op,.int .i64 k',.int .i64 n,.int .i64 d,.int .i64 u,.slice oa' kids'.length cap',.string wd,.string vl,.bool an];have HL:=Lib.hid (hL.next hb1);have HB1:=Lib.hid hB1;obtain⟨g,hg⟩:∃ g,wr.heap.size=g:=⟨_,rfl⟩;rw[hg]at HB1;clear hL hb1 hB1
     go_enter Tryz.func61,Tryz.ntmps61
     go_upto_region 1 with fail
     try simp only[hg]
     clear hg;generalize World.alloc wr _=w1 at *;obtain⟨y0,fy0,y1,fy1,y2,fy2,y3,fy3,y4,fy4,y5,fy5,y6,fy6,y7,fy7,y8,fy8,y9,fy9,y10,fy10,y11,fy11,y12,fy12,y13,fy13,ly⟩:=Blk.many14 (HB1.out);go_wp2_with fail
     go_loopg [23] kids.length (fun q s wx=>∃ (i:Nat) (v':Value) (ns:List Lf),s=.int .i64 i∧Hid (Lw w0 gO gW wx v' (ms++ns))∧Hid (ns.map keyL=((kids.take i).flatMap (leavesC h)).map keyL)∧i≤kids.length∧kids.length-i≤q)
     case atStart=>exact⟨0,v,[],rfl,Lib.hid (by rw[List.append_nil];exact HL.out),Lib.hid rfl,Nat.zero_le _,Nat.le_refl _⟩
     case round =>
      clear y0 y1 y2 y3 y4 y5 y6 y7 y8 y9 y10 y11 y12 y13 fy0 fy1 fy2 fy3 fy4 fy5 fy6 fy7 fy8 fy9 fy10 fy11 fy12 fy13 ly HL HB1;obtain⟨i,v',ns,rfl,hl,hk3,hle,hq⟩:=hrel
      by_cases hi:i<kids.length
      · have gi:decide ((i:Int)<kids.length)=true:=by simpa using hi
        have hr:kids[i]?=some kids[i]:=List.getElem?_eq_getElem hi;have hx:=h8 i _ hr;have hmx:=hmk i _ hr;have htf:=take_flat (leavesC h) hr;have hle2:=take_flat_le kids (i+1) (leavesC h)
        have hnl:ns.length=((kids.take i).flatMap (leavesC h)).length:=by have:=congrArg List.length hk3.out;simpa only[List.length_map] using this
        rw[htf,List.length_append]at hle2;obtain⟨rfl,hbl⟩:=h7 (by omega);generalize kids[i]=x at *
        have hX:=fun wx hL'=>HIH.out f' x wx v' (ms++ns) hx.2 hmx hL' (by rw[List.length_append];have:=HBK.out;omega)
        have HTF:=Lib.hid htf;clear htf hle2 hnl hmx hr;obtain⟨LX,hLX⟩:∃ LX,leavesC h x=LX:=⟨_,rfl⟩;rw[hLX]at hX HTF;clear hLX;obtain⟨xc,xoa,xb,xo,xcap,xkids,⟨xlk,xlt,xnm,xop,⟨xk,xn,xd,xu,xoa',xb',xo',xcap',xkids'⟩,xwd,xvl,xan⟩⟩:=x
        obtain⟨f0,f1,f2,f3,f4,f5,f6,f7,f8,f9,f10,f11,f12,f13⟩:=row14 (w:=wr) (b:=b) (o:=o+i*14) fun j u hu=>(hl.out.below.cell (p:=⟨b,o+i*14+j,none⟩) hbl).trans (hx.1 j u hu)
        simp only[cv_mk]at hX;have HX:=Lib.hid hX;clear hx hX h8 h7 hmk;generalize xkids.length=xL at *;generalize xkids'.length=xL' at *
        go_upto_region 8 with fail
        obtain⟨hB3,hb3⟩:=box_new wr 35 #[.int .i64 xc,.slice xoa xL xcap,.int .i64 xlk,.int .i64 xlt,.string xnm,.int .i64 xop,.int .i64 xk,.int .i64 xn,.int .i64 xd,.int .i64 xu,.slice xoa' xL' xcap',.string xwd,.string xvl,.bool xan];have HL3:=Lib.hid (hl.out.next hb3);clear f0 f1 f2 f3 f4 f5 f6 f7 f8 f9 f10 f11 f12 f13 hb3 hl;generalize wr.heap.size=g3 at *;generalize World.alloc wr _=wv at *;obtain⟨y0,fy0,y1,fy1,y2,fy2,y3,fy3,y4,fy4,y5,fy5,y6,fy6,y7,fy7,y8,fy8,y9,fy9,y10,fy10,y11,fy11,y12,fy12,y13,fy13,ly⟩:=Blk.many14 (hB3);have cW:=HL3.out.wlk.cell 0;have lW:=HL3.out.wlk.lt;clear hB3;go_wp2_with fail
        ((with_reducible refine(HX.out _ HL3.out).mono ?_);rintro e w' ⟨rfl,v2,ns2,hl2,hk2⟩)
        have HL4:=Lib.hid (And.intro hl2 hk2);clear hl2 hk2 HX HL3 y0 y1 y2 y3 y4 y5 y6 y7 y8 y9 y10 y11 y12 y13 fy0 fy1 fy2 fy3 fy4 fy5 fy6 fy7 fy8 fy9 fy10 fy11 fy12 fy13 ly cW lW;go_wp2_with fail
        go_roundg (kids.length-(i+1))
        case measure=>omega
        case rel=>exact⟨i+1,v2,ns++ns2,by go_num,Lib.hid (by rw[← List.append_assoc];exact HL4.out.1),Lib.hid (by rw[List.map_append,hk3.out,HL4.out.2,HTF.out,List.map_append]),hi,Nat.le_refl _⟩
      · obtain rfl:i=kids.length:=by omega
        have gi:decide ((kids.length:Int)<kids.length)=false:=by simp
        have HL4:=Lib.hid (And.intro hl.out hk3.out);clear hl hk3 HIH h8 h7 hmk;go_wp2_with fail
        go_end0
        exact⟨rfl,v',ns,HL4.out.1,by rw[HL4.out.2,List.take_of_length_le (Nat.le_refl _)]⟩
theorem below_p14 {B:Nat} {w0 w:World} {g:Nat} (h:Below B w0 w) (hg:B≤g) (v0 v1 v2 v3 v4 v5 v6 v7 v8 v9 v10 v11 v12 v13:Value):Below B w0 (((((((((((((((w).setCell ⟨g,0,none⟩ v0).setCell ⟨g,1,none⟩ v1).setCell ⟨g,2,none⟩ v2).setCell ⟨g,3,none⟩ v3).setCell ⟨g,4,none⟩ v4).setCell ⟨g,5,none⟩ v5).setCell ⟨g,6,none⟩ v6).setCell ⟨g,7,none⟩ v7).setCell ⟨g,8,none⟩ v8).setCell ⟨g,9,none⟩ v9).setCell ⟨g,10,none⟩ v10).setCell ⟨g,11,none⟩ v11).setCell ⟨g,12,none⟩ v12).setCell ⟨g,13,none⟩ v13):=by
 have hz:=h.trans ((below_puts [v0,v1,v2,v3,v4,v5,v6,v7,v8,v9,v10,v11,v12,v13] w g 0).mono hg);simp only[puts,Nat.zero_add,Nat.reduceAdd]at hz;exact hz
def z5:Array Value:=#[.int .i64 0,.int .i64 0,.int .i64 0,.int .i64 0,.slice none 0 0]
set_option maxRecDepth 20000 in
set_option maxHeartbeats 4000000 in
theorem exprL_any (k n d u:Int) (oa:Option Addr) (cap:Nat) (w:World):Calls Tryz.prog 62 #[.agg #[.int .i64 k,.int .i64 n,.int .i64 d,.int .i64 u,.slice oa 0 cap]] w fun e w'=>e=.returned (.agg #[.int .i64 k,.int .i64 n,.int .i64 d,.int .i64 u,.slice none 0 0])∧Below w.heap.size w w':=by
 have h1:=(Blk.new w 31 #[.int .i64 k,.int .i64 n,.int .i64 d,.int .i64 u,.slice oa 0 cap]).old (.cells z5 31);have h2:=Blk.new2 w (.cells #[.int .i64 k,.int .i64 n,.int .i64 d,.int .i64 u,.slice oa 0 cap] 31) 31 z5;have hb:=(below_box w (.cells #[.int .i64 k,.int .i64 n,.int .i64 d,.int .i64 u,.slice oa 0 cap] 31)).alloc (by simp) (.cells z5 31);have H:=Lib.hid (And.intro h1 (And.intro h2 hb));clear h1 h2 hb;simp only[z5]at H
 go_enter Tryz.func62,Tryz.ntmps62
 go_upto_region 1 with fail
 obtain⟨g,hg⟩:∃ g,w.heap.size=g:=⟨_,rfl⟩;rw[hg]at H;simp only[hg];have HG:=Lib.hid hg;clear hg;generalize World.alloc (World.alloc w _) _=wa at *;obtain⟨ca0,fca0,ca1,fca1,ca2,fca2,ca3,fca3,ca4,fca4,lca⟩:=Blk.five (H.out.1)
 go_upto_region 3 with fail
 have h1:=H.out.1.put 4 (.slice none 0 0);simp only[List.setIfInBounds_toArray,List.set_cons_succ,List.set_cons_zero]at h1;have h2:=H.out.2.1.far (p:=⟨g,4,none⟩) (by simp) (.slice none 0 0);have HB:=Lib.hid (show Below w.heap.size w (wa.setCell ⟨g,4,none⟩ (.slice none 0 0)) from by have:=H.out.2.2;rw[HG.out];exact this.setCell (p:=⟨g,4,none⟩) (Nat.le_refl _) _);have H2:=Lib.hid h2;clear ca0 ca1 ca2 ca3 ca4 fca0 fca1 fca2 fca3 fca4 lca H;generalize World.setCell _ _ _=wb at *;obtain⟨ca0,fca0,ca1,fca1,ca2,fca2,ca3,fca3,ca4,fca4,lca⟩:=Blk.five (h1);obtain⟨cb0,fcb0,cb1,fcb1,cb2,fcb2,cb3,fcb3,cb4,fcb4,lcb⟩:=Blk.five (h2);clear h1 h2;go_wp2_with fail
 go_loopg [11] 0 (fun q s wr=>s=.int .i64 0∧wr=wb)
 case atStart=>exact⟨rfl,rfl⟩
 case round =>
  obtain⟨rfl,rfl⟩:=hrel;go_wp2_with fail;have hputs:=(H2.out).put5 (.int .i64 k) (.int .i64 n) (.int .i64 d) (.int .i64 u) (.slice none 0 0);refine bodyPost_ret (v:=.agg #[.int .i64 k,.int .i64 n,.int .i64 d,.int .i64 u,.slice none 0 0]) ?_ rfl ?_
  · refine ret_ex Tryz.results62 ?_ hputs rfl
    all_goals rfl
  · exact⟨rfl,below_put5 HB.out (by rw[HG.out];exact Nat.le_succ g) _ _ _ _ _⟩
set_option maxRecDepth 20000 in
set_option maxHeartbeats 8000000 in
theorem copiedL_any (k k2 t op e0 e1 e2 e3:Int) (oa ea:Option Addr) (cap ec:Nat) (nm wd vl:ByteArray) (an:Bool) (w:World):Calls Tryz.prog 202 #[.agg #[.int .i64 k,.slice oa 0 cap,.int .i64 k2,.int .i64 t,.string nm,.int .i64 op,.int .i64 e0,.int .i64 e1,.int .i64 e2,.int .i64 e3,.slice ea 0 ec,.string wd,.string vl,.bool an]] w fun e w'=>e=.returned (.agg #[.int .i64 k,.slice none 0 0,.int .i64 k2,.int .i64 t,.string nm,.int .i64 op,.int .i64 e0,.int .i64 e1,.int .i64 e2,.int .i64 e3,.slice none 0 0,.string wd,.string vl,.bool an])∧Below w.heap.size w w':=by
 have h1:=(Blk.new w 35 #[.int .i64 k,.slice oa 0 cap,.int .i64 k2,.int .i64 t,.string nm,.int .i64 op,.int .i64 e0,.int .i64 e1,.int .i64 e2,.int .i64 e3,.slice ea 0 ec,.string wd,.string vl,.bool an]).old (.cells zero14 35);have h2:=Blk.new2 w (.cells #[.int .i64 k,.slice oa 0 cap,.int .i64 k2,.int .i64 t,.string nm,.int .i64 op,.int .i64 e0,.int .i64 e1,.int .i64 e2,.int .i64 e3,.slice ea 0 ec,.string wd,.string vl,.bool an] 35) 35 zero14;have hb:=(below_box w (.cells #[.int .i64 k,.slice oa 0 cap,.int .i64 k2,.int .i64 t,.string nm,.int .i64 op,.int .i64 e0,.int .i64 e1,.int .i64 e2,.int .i64 e3,.slice ea 0 ec,.string wd,.string vl,.bool an] 35)).alloc (by simp) (.cells zero14 35);have H:=Lib.hid (And.intro h1 (And.intro h2 hb));clear h1 h2 hb;simp only[zero14]at H
 go_enter Tryz.func202,Tryz.ntmps202
 go_upto_region 1 with fail
 obtain⟨g,hg⟩:∃ g,w.heap.size=g:=⟨_,rfl⟩;rw[hg]at H;simp only[hg];have HG:=Lib.hid hg;clear hg;generalize World.alloc (World.alloc w _) _=wa at *;obtain⟨ca0,fca0,ca1,fca1,ca2,fca2,ca3,fca3,ca4,fca4,ca5,fca5,ca6,fca6,ca7,fca7,ca8,fca8,ca9,fca9,ca10,fca10,ca11,fca11,ca12,fca12,ca13,fca13,lca⟩:=Blk.many14 (H.out.1)
 go_upto_region 3 with fail
 have h1:=H.out.1.put 1 (.slice none 0 0);simp only[List.setIfInBounds_toArray,List.set_cons_succ,List.set_cons_zero]at h1;have H1:=Lib.hid h1;have H2:=Lib.hid (H.out.2.1.far (p:=⟨g,1,none⟩) (by simp) (.slice none 0 0));have HB:=Lib.hid (show Below w.heap.size w (wa.setCell ⟨g,1,none⟩ (.slice none 0 0)) from by have:=H.out.2.2;rw[HG.out];exact this.setCell (p:=⟨g,1,none⟩) (Nat.le_refl _) _);clear ca0 fca0 ca1 fca1 ca2 fca2 ca3 fca3 ca4 fca4 ca5 fca5 ca6 fca6 ca7 fca7 ca8 fca8 ca9 fca9 ca10 fca10 ca11 fca11 ca12 fca12 ca13 fca13 lca H h1;generalize World.setCell _ _ _=wb at *;obtain⟨ca0,fca0,ca1,fca1,ca2,fca2,ca3,fca3,ca4,fca4,ca5,fca5,ca6,fca6,ca7,fca7,ca8,fca8,ca9,fca9,ca10,fca10,ca11,fca11,ca12,fca12,ca13,fca13,lca⟩:=Blk.many14 (H1.out);go_wp2_with fail
 go_loopg [11] 0 (fun q s wr=>s=.int .i64 0∧wr=wb)
 case atStart=>exact⟨rfl,rfl⟩
 case round =>
  obtain⟨rfl,rfl⟩:=hrel;go_wp2_with fail
  ((with_reducible refine(exprL_any _ _ _ _ _ _ _).mono ?_);rintro e wc ⟨rfl,hbc⟩)
  have h1:=H1.out.below hbc lca;have H3:=Lib.hid h1;have H4:=Lib.hid (H2.out.below hbc H2.out.lt);have HC:=bfH HB hbc;clear ca0 fca0 ca1 fca1 ca2 fca2 ca3 fca3 ca4 fca4 ca5 fca5 ca6 fca6 ca7 fca7 ca8 fca8 ca9 fca9 ca10 fca10 ca11 fca11 ca12 fca12 ca13 fca13 lca H1 H2 HB hbc h1;obtain⟨ca0,fca0,ca1,fca1,ca2,fca2,ca3,fca3,ca4,fca4,ca5,fca5,ca6,fca6,ca7,fca7,ca8,fca8,ca9,fca9,ca10,fca10,ca11,fca11,ca12,fca12,ca13,fca13,lca⟩:=Blk.many14 (H3.out)
  go_upto_region 9 with fail
  have h1:=((((H3.out.put 6 (.int .i64 e0)).put 7 (.int .i64 e1)).put 8 (.int .i64 e2)).put 9 (.int .i64 e3)).put 10 (.slice none 0 0);have h2:=H4.out.keeps (grownBy_puts [.int .i64 e0,.int .i64 e1,.int .i64 e2,.int .i64 e3,.slice none 0 0] wc g 6) (fun e=>by have:=Option.some.inj e;omega);have hb:=HC.out.trans ((below_puts [.int .i64 e0,.int .i64 e1,.int .i64 e2,.int .i64 e3,.slice none 0 0] wc g 6).mono (by rw[HG.out];exact Nat.le_refl _));simp only[List.setIfInBounds_toArray,List.set_cons_succ,List.set_cons_zero]at h1;simp only[puts,Nat.zero_add,Nat.reduceAdd]at h2 hb;have H5:=Lib.hid h2;have H6:=Lib.hid hb;clear ca0 fca0 ca1 fca1 ca2 fca2 ca3 fca3 ca4 fca4 ca5 fca5 ca6 fca6 ca7 fca7 ca8 fca8 ca9 fca9 ca10 fca10 ca11 fca11 ca12 fca12 ca13 fca13 lca H3 H4 HC h2 hb;generalize World.setCell _ ⟨g,10,none⟩ _=wz at *
  obtain⟨ca0,fca0,ca1,fca1,ca2,fca2,ca3,fca3,ca4,fca4,ca5,fca5,ca6,fca6,ca7,fca7,ca8,fca8,ca9,fca9,ca10,fca10,ca11,fca11,ca12,fca12,ca13,fca13,lca⟩:=Blk.many14 (h1);obtain⟨cb0,fcb0,cb1,fcb1,cb2,fcb2,cb3,fcb3,cb4,fcb4,cb5,fcb5,cb6,fcb6,cb7,fcb7,cb8,fcb8,cb9,fcb9,cb10,fcb10,cb11,fcb11,cb12,fcb12,cb13,fcb13,lcb⟩:=Blk.z14 (H5.out);clear h1;go_wp2_with fail;refine bodyPost_ret (v:=.agg #[.int .i64 k,.slice none 0 0,.int .i64 k2,.int .i64 t,.string nm,.int .i64 op,.int .i64 e0,.int .i64 e1,.int .i64 e2,.int .i64 e3,.slice none 0 0,.string wd,.string vl,.bool an]) ?_ rfl ?_
  · refine ret_cd Tryz.results202 ?_ (H5.out.put14 _ _ _ _ _ _ _ _ _ _ _ _ _ _) rfl;rfl
  · have hbz:=H6.out.trans ((below_puts [.int .i64 k,.slice none 0 0,.int .i64 k2,.int .i64 t,.string nm,.int .i64 op,.int .i64 e0,.int .i64 e1,.int .i64 e2,.int .i64 e3,.slice none 0 0,.string wd,.string vl,.bool an] wz (g+1) 0).mono (by rw[HG.out];exact Nat.le_succ g));simp only[puts,Nat.zero_add,Nat.reduceAdd]at hbz;exact⟨rfl,hbz⟩
set_option maxRecDepth 20000 in
set_option maxHeartbeats 2000000 in
theorem comparedM_any (h:Nat) (l:List Vl) (oa:Option Addr) (cap b o:Nat) (w:World) (hs:VsIn w h oa cap b o l) (n:List UInt8) (op:Int) (ho:I64 op) :
  Calls Tryz.prog 134 #[.string ⟨n.toArray⟩,.int .i64 op,.slice oa l.length cap] w fun e w'=>retC (· < w.heap.size) (cmpH h n op (l.map Vl.c)) e w'∧Below w.heap.size w w':=by
 obtain⟨Y,hY⟩:∃ Y,cmpH h n op (l.map Vl.c)=Y:=⟨_,rfl⟩;rw[hY];unfold cmpH at hY;obtain⟨h6,hb6⟩:=box_new w 35 zero14
 have hw1:(w.alloc (.cells zero14 35)).heap.size=w.heap.size+1:=by simp
 have hp:=valueM_any h l oa cap b o _ (hs.below hb6) n;obtain⟨N,hN⟩:∃ N,l.length=N:=⟨_,rfl⟩;obtain⟨L,hL⟩:∃ L,l.map Vl.c=L:=⟨_,rfl⟩;rw[hN,hL]at hp;rw[hL]at hY;rw[hN];obtain⟨g,hg⟩:∃ g,w.heap.size=g:=⟨_,rfl⟩;have HG:=Lib.hid hg;rw[hg]at h6 hw1;have HP:=Lib.hid hp;have H6:=Lib.hid h6;have HB6:=Lib.hid hb6;have HW1:=Lib.hid hw1;have HY:=Lib.hid hY;have HO:=Lib.hid ho;clear hs h6 hb6 hw1 hN hL hY hp ho;simp only[zero14]at HP HB6 HW1 H6;have HR:=Lib.hid (rangedM_any n)
 go_enter Tryz.func134,Tryz.ntmps134
 go_upto_region 1 with fail
 try simp only[hg]
 clear hg;generalize w.alloc _=w1 at *;obtain⟨r,hr⟩:∃ r,rangedN n=r:=⟨_,rfl⟩;rw[hr]at HR HY;clear hr;obtain⟨c0,fc0,c1,fc1,c2,fc2,c3,fc3,c4,fc4,c5,fc5,c6,fc6,c7,fc7,c8,fc8,c9,fc9,c10,fc10,c11,fc11,c12,fc12,c13,fc13,lc⟩:=Blk.z14 (H6.out)
 cases r with
 | false =>
   obtain rfl:none=Y:=HY.out;go_wp2_with fail
   ((with_reducible refine(HR.out _).mono ?_);rintro e w2 ⟨rfl,rfl⟩)
   go_wp2_with fail;refine bodyPost_ret (v:=.tuple #[.agg #[.int .i64 0,.slice none 0 0,.int .i64 0,.int .i64 0,.string ⟨#[]⟩,.int .i64 0,.int .i64 0,.int .i64 0,.int .i64 0,.int .i64 0,.slice none 0 0,.string ⟨#[]⟩,.string ⟨#[]⟩,.bool false],.bool false]) ?_ rfl ?_
   · exact ret_cd2 Tryz.results134 rfl rfl (Blk.zput (H6.out)) rfl
   · exact none_cd (HB6.out) (Nat.le_of_eq HG.out) (rfl) rfl
 | true =>
   have HY2:=Lib.hid (show (valH h n L).map (cmpC n op)=Y from HY.out);go_wp2_with fail
   ((with_reducible refine(HR.out _).mono ?_);rintro e w2 ⟨rfl,rfl⟩)
   go_wp2_with fail
   ((with_reducible refine HP.out.mono ?_);rintro e w2 ⟨⟨v,ok,rfl,hok,⟨vk,vn,vd,vu,voa,vL,vc,rfl⟩,hE⟩,hb2⟩)
   have HE:=Lib.hid (And.intro hok (And.intro hE hb2));have h62:=H6.out.below hb2 H6.out.lt;clear hok hE hb2;clear c0 fc0 c1 fc1 c2 fc2 c3 fc3 c4 fc4 c5 fc5 c6 fc6 c7 fc7 c8 fc8 c9 fc9 c10 fc10 c11 fc11 c12 fc12 c13 fc13 lc
   go_upto_region 4 with fail
   obtain⟨h8,hb3⟩:=box_new w2 31 #[.int .i64 vk,.int .i64 vn,.int .i64 vd,.int .i64 vu,.slice voa vL vc];have h63:=h62.below hb3 h62.lt;have HB3:=bfH (bfH HB6 HE.out.2.2) hb3;have HE2:=Lib.hid (And.intro HE.out.1 fun E hE=>(HE.out.2.1 E hE).below hb3)
   have hg8:w2.heap.size≠g:=by have:=h62.lt;omega
   clear h62 hb3 HE HP;generalize w2.heap.size=g8 at *;generalize w2.alloc _=w3 at *;obtain⟨d0,e0,d1,e1,d2,e2,d3,e3,d4,e4,l8⟩:=Blk.five h8;have H63:=Lib.hid h63;clear h8 h63;go_wp2_with fail
   ((with_reducible refine(leafM_any 4 0 op vk vn vd vu _ _ _ voa vL vc false _).mono ?_);rintro e w4 ⟨rfl,hb4⟩)
   have H64:=Lib.hid (H63.out.below hb4 H63.out.lt);have HE3:=Lib.hid (And.intro HE2.out.1 fun E hE=>(HE2.out.2 E hE).below hb4);have HB4:=bfH HB3 hb4;clear d0 e0 d1 e1 d2 e2 d3 e3 d4 e4 l8 hb4 H63 HE2 HB3;obtain⟨c0,fc0,c1,fc1,c2,fc2,c3,fc3,c4,fc4,c5,fc5,c6,fc6,c7,fc7,c8,fc8,c9,fc9,c10,fc10,c11,fc11,c12,fc12,c13,fc13,lc⟩:=Blk.z14 (H64.out);go_wp2_with fail;refine bodyPost_ret (v:=.tuple #[.agg #[.int .i64 4,.slice none 0 0,.int .i64 4,.int .i64 0,.string ⟨n.toArray⟩,.int .i64 op,.int .i64 vk,.int .i64 vn,.int .i64 vd,.int .i64 vu,.slice voa vL vc,.string ⟨#[]⟩,.string ⟨#[]⟩,.bool false],.bool ok]) ?_ rfl ?_
   · exact ret_cd2 Tryz.results134 rfl rfl (H64.out.put14 _ _ _ _ _ _ _ _ _ _ _ _ _ _) rfl
   · exact tail_cd HB4.out (Nat.le_of_eq HG.out) H6.out.lt (by rw[HE3.out.1,← HY2.out];cases valH h n L<;>rfl) ⟨_,_,_,_,_,_,_,_,_,_,_,_,_,_,_,_,_,_,rfl⟩ (fun C hC=>by rw[← HY2.out]at hC;obtain⟨E,hE,rfl⟩:=Option.map_eq_some_iff.1 hC;exact cmp_cd n op (HE3.out.2 E hE) HO.out) rfl
end Go.Proofs.YtnbkbenkhkinoaaGreatDoor
