/- Of my texts: MedB, AwA, AwB. -/
import Derived.Test.YtnbkbenkhkinoaaGreatDoorM15
import Derived.Test.YtnbkbenkhkinoaaGreatDoorM21
import Derived.Test.YtnbkbenkhkinoaaGreatDoorM23
import Derived.Test.YtnbkbenkhkinoaaGreatDoorM29
import Derived.Test.YtnbkbenkhkinoaaGreatDoorM30
import Derived.Test.YtnbkbenkhkinoaaGreatDoorM31
import Derived.Shelf.Strings.Search1
namespace Go.Proofs.YtnbkbenkhkinoaaGreatDoor
set_option linter.unusedVariables false
set_option linter.unusedSimpArgs false
open Go.RowKit
theorem box_new (w:World) (t:TypeId) (cs:Array Value):Blk (w.alloc (.cells cs t)) w.heap.size t cs∧Below w.heap.size w (w.alloc (.cells cs t)):=⟨Blk.new w t cs,below_box w (.cells cs t)⟩
theorem bfH {w0 w w':World} (h:Hid (Below w0.heap.size w0 w)) (hb:Below w.heap.size w w'):Hid (Below w0.heap.size w0 w'):=Lib.hid (below_far h.out (grownBy_of_below hb none) fun _ e=>by cases e)
theorem tk_of_in {w:World} {h:Nat} {t:Tk} {oa:Option Addr} {b o cap:Nat} {kids:List Vl} (hx:VlIn w h (.mk t oa b o cap kids)):Tk64 t:=by
 obtain _ | h:=h
 · exact hx.elim
 · exact hx.1
theorem knownM_any (n:List UInt8) (box:Bool) (w:World):Calls Tryz.prog 96 #[.string ⟨n.toArray⟩,.bool box] w fun e w'=>e=.returned (.string ⟨(knownN n box).toArray⟩)∧Below w.heap.size w w':=by
 obtain⟨R,hR⟩:∃ R,knownN n box=R:=⟨_,rfl⟩;rw[hR];unfold knownN at hR
 cases box with
 | false =>
   have HA:=Lib.hid (rangedM_any n);have HW:=Lib.hid (words_any n);simp only[Bool.false_eq_true,if_false]at hR
   cases hr:rangedN n with
   | true =>
     rw[hr,Bool.true_or,if_pos rfl]at hR;rw[hr]at HA;subst hR;clear hr HW
     go_enter Tryz.func96,Tryz.ntmps96
     go_wp2_with fail
     ((with_reducible refine(HA.out _).mono ?_);rintro e w' ⟨rfl,rfl⟩)
     go_wp2_with fail;go_ret;exact⟨rfl,Below.refl _ _⟩
   | false =>
     rw[hr,Bool.false_or]at hR;rw[hr]at HA;generalize wordsN n=D at *;have HR:=Lib.hid hR;clear hr hR
     go_enter Tryz.func96,Tryz.ntmps96
     go_wp2_with fail
     ((with_reducible refine(HA.out _).mono ?_);rintro e w' ⟨rfl,rfl⟩)
     go_wp2_with fail
     ((with_reducible refine(HW.out _).mono ?_);rintro e w' ⟨⟨v,rfl,oa,cap,rfl,_⟩,hb⟩)
     have HB:=Lib.hid hb;clear hb;obtain⟨N,hN⟩:∃ N,D.length=N:=⟨_,rfl⟩;rw[hN];have HN:=Lib.hid hN;clear hN
     by_cases h0:0<N
     · have hR2:n=R:=by have:=HR.out;rwa [HN.out,if_pos (by simpa using h0)]at this
       subst hR2
       have g0:decide ((0:Int)<(N:Int))=true:=by simpa using h0
       go_wp2_with fail;go_ret;exact⟨rfl,HB.out⟩
     · have hR2:[]=R:=by have:=HR.out;rwa [HN.out,if_neg (by simpa using h0)]at this
       subst hR2
       have g0:decide ((0:Int)<(N:Int))=false:=by simpa using h0
       go_wp2_with fail;go_ret;exact⟨rfl,HB.out⟩
 | true =>
   simp only[if_true]at hR
   by_cases h0:n=inlineS
   · rw[if_pos h0]at hR
     have q0:(n==[105,110,108,105,110,101,45,115,105,122,101])=true:=by rw[h0];rfl
     subst hR;clear h0
     go_enter Tryz.func96,Tryz.ntmps96
     go_wp2_with fail;go_ret;exact⟨rfl,Below.refl _ _⟩
   have q0:(n==[105,110,108,105,110,101,45,115,105,122,101])=false:=beq_eq_false_iff_ne.2 h0;rw[if_neg h0]at hR
   by_cases h1:n=blockS
   · rw[if_pos h1]at hR
     have q1:(n==[98,108,111,99,107,45,115,105,122,101])=true:=by rw[h1];rfl
     subst hR;clear h1
     go_enter Tryz.func96,Tryz.ntmps96
     go_wp2_with fail;go_ret;exact⟨rfl,Below.refl _ _⟩
   have q1:(n==[98,108,111,99,107,45,115,105,122,101])=false:=beq_eq_false_iff_ne.2 h1;rw[if_neg h1]at hR
   by_cases h2:n=widthS
   · rw[if_pos (by simp[h2])]at hR
     have q2:(n==[119,105,100,116,104])=true:=by rw[h2];rfl
     subst hR;clear h2
     go_enter Tryz.func96,Tryz.ntmps96
     go_wp2_with fail;go_ret;exact⟨rfl,Below.refl _ _⟩
   have q2:(n==[119,105,100,116,104])=false:=beq_eq_false_iff_ne.2 h2
   by_cases h3:n=heightS
   · rw[if_pos (by simp[h3])]at hR
     have q3:(n==[104,101,105,103,104,116])=true:=by rw[h3];rfl
     subst hR;clear h3
     go_enter Tryz.func96,Tryz.ntmps96
     go_wp2_with fail;go_ret;exact⟨rfl,Below.refl _ _⟩
   have q3:(n==[104,101,105,103,104,116])=false:=beq_eq_false_iff_ne.2 h3
   by_cases h4:n=ratioS
   · rw[if_pos (by simp[h4])]at hR
     have q4:(n==[97,115,112,101,99,116,45,114,97,116,105,111])=true:=by rw[h4];rfl
     subst hR;clear h4
     go_enter Tryz.func96,Tryz.ntmps96
     go_wp2_with fail;go_ret;exact⟨rfl,Below.refl _ _⟩
   have q4:(n==[97,115,112,101,99,116,45,114,97,116,105,111])=false:=beq_eq_false_iff_ne.2 h4
   by_cases h5:n=orientS
   · rw[if_pos (by simp[h5])]at hR
     have q5:(n==[111,114,105,101,110,116,97,116,105,111,110])=true:=by rw[h5];rfl
     subst hR;clear h5
     go_enter Tryz.func96,Tryz.ntmps96
     go_wp2_with fail;go_ret;exact⟨rfl,Below.refl _ _⟩
   have q5:(n==[111,114,105,101,110,116,97,116,105,111,110])=false:=beq_eq_false_iff_ne.2 h5;rw[if_neg (by simp[h2,h3,h4,h5])]at hR;subst hR
   go_enter Tryz.func96,Tryz.ntmps96
   go_wp2_with fail;go_ret;exact⟨rfl,Below.refl _ _⟩
theorem blankM_any (tk tn td:Int) (tt:List UInt8) (ti tid:Bool) (koa:Option Addr) (K kcap:Nat) (w:World) :
  Calls Tryz.prog 167 #[.agg #[.int .i64 tk,.string ⟨tt.toArray⟩,.int .i64 tn,.int .i64 td,.bool ti,.bool tid,.slice koa K kcap]] w fun e w'=>e=.returned (.bool (tk==13))∧Below w.heap.size w w':=by
 go_enter Tryz.func167,Tryz.ntmps167
 go_wp2_with fail;go_ret;exact⟨rfl,below_box _ _⟩
set_option maxRecDepth 20000 in
set_option maxHeartbeats 4000000 in
theorem solidM_any (h:Nat) (l:List Vl) (oa:Option Addr) (cap bb o:Nat) (w:World) (hs:VsIn w h oa cap bb o l) :
  Calls Tryz.prog 126 #[.slice oa l.length cap] w fun e w'=>(∃ oa' cap' b' D,e=.returned (.slice oa' (D:List Vl).length cap')∧VsIn w' h oa' cap' b' 0 D∧D.map Vl.c=nbs (l.map Vl.c))∧Below w.heap.size w w':=by
 obtain⟨N,hN⟩:∃ N,l.length=N:=⟨_,rfl⟩;obtain⟨L,hL⟩:∃ L,l.map Vl.c=L:=⟨_,rfl⟩;rw[hN,hL];have hsm:=hs.small;have hcl:=hs.sl.le;have hcm:=hs.sl.max;unfold maxLen at hcm;rw[hN]at hsm hcl;have hb0:=Below.refl w.heap.size w;have HS:=Lib.hid hs;have HL:=Lib.hid (And.intro hN hL);clear hs hN hL
 go_enter Tryz.func126,Tryz.ntmps126
 go_wp2_with fail
 go_loopg [3,8] N (fun q s3 s8 wr=>∃ (i:Nat) (D:List Vl),s8=.int .i64 i∧Hid (Below w.heap.size w wr)∧Hid (wr.ownsRow w.heap.size 104 7 s3 D.length (D.flatMap vcells))∧Hid (D.map Vl.c=nbs (L.take i))∧Hid (∀ x∈D,x∈l)∧D.length≤i∧i≤N∧N-i≤q)
 case atStart=>exact⟨0,[],rfl,Lib.hid hb0,Lib.hid (World.ownsRow_nil _ _ _ _),Lib.hid rfl,Lib.hid (fun x hx=>by cases hx),Nat.le_refl _,Nat.zero_le _,Nat.le_refl _⟩
 case round =>
  obtain⟨i,D,rfl,hB,hO,hD,hE,hDi,hiN,hq⟩:=hrel
  by_cases hi:i<N
  · have gi:decide ((i:Int)<(N:Int))=true:=by simpa using hi
    have gin:decide (i<N)=true:=by simpa using hi
    have ij0:(0:Int)≤(i:Int):=Int.natCast_nonneg _
    have ijN:(i:Int)<(N:Int):=by omega
    have hil:i<l.length:=by rw[HL.out.1];exact hi
    have hli:l[i]?=some l[i]:=List.getElem?_eq_getElem hil;obtain⟨x,hx⟩:∃ x,l[i]=x:=⟨_,rfl⟩;rw[hx]at hli
    have hLi:nbs (L.take (i+1))=nbs (L.take i)++nbs [x.c]:=by
     unfold nbs;rw[← List.filter_append,← HL.out.2,List.take_add_one,List.getElem?_map,hli];rfl
    have hxl:=List.mem_of_getElem? hli;have hvs:=HS.out.below hB.out;obtain⟨rfl,hbl⟩:=hvs.sl.lies (by omega);obtain⟨⟨tk,tt,⟨tn,td⟩,ti,tid⟩,koa,kb,ko,kcap,kids⟩:=x;obtain⟨f0,f1,f2,f3,f4,f5,f6⟩:=hvs.row hli;obtain⟨K,hK⟩:∃ K,kids.length=K:=⟨_,rfl⟩;rw[hK]at f6
    have hvc:vcells (.mk ⟨tk,tt,(tn,td),ti,tid⟩ koa kb ko kcap kids)=[.int .i64 tk,.string ⟨tt.toArray⟩,.int .i64 tn,.int .i64 td,.bool ti,.bool tid,.slice koa K kcap]:=by rw[← hK];rfl
    have HXL:=Lib.hid (And.intro hxl (And.intro hvc hLi));clear hvs hli hil hx hxl hvc hLi hK
    go_upto_region 5 with fail
    obtain⟨h8,hbx⟩:=box_new wr 104 #[.int .i64 tk,.string ⟨tt.toArray⟩,.int .i64 tn,.int .i64 td,.bool ti,.bool tid,.slice koa K kcap];have HB2:=Lib.hid (hB.out.trans (hbx.mono hB.out.size));have HO2:=Lib.hid (hO.out.alloc (.cells #[.int .i64 tk,.string ⟨tt.toArray⟩,.int .i64 tn,.int .i64 td,.bool ti,.bool tid,.slice koa K kcap] 104));clear hB hO hbx f0 f1 f2 f3 f4 f5 f6;generalize wr.heap.size=g8 at *;generalize World.alloc wr _=wv at *;obtain⟨cv0,fcv0,cv1,fcv1,cv2,fcv2,cv3,fcv3,cv4,fcv4,cv5,fcv5,cv6,fcv6,lcv⟩:=Blk.seven (h8);go_wp2_with fail
    ((with_reducible refine(blankM_any tk tn td tt ti tid koa K kcap _).mono ?_);rintro e w3 ⟨rfl,hb3⟩)
    have h9:=h8.below hb3 lcv;obtain⟨m,rfl⟩:=grow_mk hb3;have HB3:=Lib.hid (below_grow HB2.out m);have HO3:=Lib.hid (owns_grow HO2.out m);clear cv0 cv1 cv2 cv3 cv4 cv5 cv6 fcv0 fcv1 fcv2 fcv3 fcv4 fcv5 fcv6 lcv h8 hb3 HB2 HO2;generalize grow wv m=wx at *;obtain⟨cv0,fcv0,cv1,fcv1,cv2,fcv2,cv3,fcv3,cv4,fcv4,cv5,fcv5,cv6,fcv6,lcv⟩:=Blk.seven (h9);clear h9
    by_cases h13:tk=13
    · subst h13;go_wp2_with fail
      go_roundg (N-(i+1))
      case measure=>omega
      case rel =>
       refine⟨i+1,D,by go_num,HB3,HO3,Lib.hid ?_,hE,by omega,hi,Nat.le_refl _⟩;rw[HXL.out.2.2,hD.out,Vl.c_mk];show _=_++[];rw[List.append_nil]
    · have gk:(tk==13)=false:=beq_eq_false_iff_ne.2 h13;have hbs:=HB3.out.size;go_wp2_with (at_builtin;refine wpList_add elVal rfl _ _ rfl rfl (HO3.out.alloc _) (by simp;omega) (Blk.new wx _ _) 1 rfl rfl (by simp[Value.oneCell']) (by omega) (by omega) ?_;intro gg cap3 w3 ho3 hg3 hat hvb;have H3:=Lib.hid (And.intro ho3 (And.intro hg3 hvb));clear ho3 hg3 hat hvb)
      go_roundg (N-(i+1))
      case measure=>omega
      case rel =>
       obtain⟨ho3,hg3,hvb⟩:=H3.out;refine⟨i+1,D++[.mk ⟨tk,tt,(tn,td),ti,tid⟩ koa kb ko kcap kids],by go_num,Lib.hid (below_far (HB3.out.alloc hbs _) hg3 fun k hk=>(hvb k hk).1),Lib.hid ?_,Lib.hid ?_,Lib.hid ?_,by simp;omega,hi,Nat.le_refl _⟩
       · rw[List.length_append,List.flatMap_append,List.flatMap_singleton,HXL.out.2.1];exact ho3
       · rw[HXL.out.2.2,List.map_append,hD.out,List.map_cons,List.map_nil]
         congr 1
         unfold nbs;rw[List.filter_cons_of_pos]
         · rfl
         · rw[Vl.c_mk];simpa[spV] using h13
       · intro y hy
         rcases List.mem_append.1 hy with hy|hy
         · exact hE.out y hy
         · obtain rfl:=List.mem_singleton.1 hy;exact HXL.out.1
  · obtain rfl:i=N:=by omega
    have gi:decide ((i:Int)<(i:Int))=false:=by simp
    have gin:decide (i<i)=false:=by simp
    obtain⟨voa,vcap,vg,rfl,hsl,hpos⟩:=sl_of_own hO.out
    have hDL:D.map Vl.c=nbs L:=by
     rw[hD.out,List.take_of_length_le];rw[← HL.out.2,List.length_map,HL.out.1];exact Nat.le_refl _
    have hvs:=HS.out.below hB.out
    have HV:=Lib.hid (show VsIn wr h voa vcap vg 0 D from ⟨by omega,hsl,fun j y hy=>by
     obtain⟨j2,hj2,e⟩:=List.getElem_of_mem (hE.out y (List.mem_of_getElem? hy))
     exact hvs.each j2 y (by rw[List.getElem?_eq_getElem hj2,e])⟩)
    have HDL:=Lib.hid hDL;clear hsl hpos hvs hDL hO hD hE;go_wp2_with fail;go_ret;exact⟨⟨voa,vcap,vg,D,rfl,HV.out,HDL.out⟩,hB.out⟩
set_option maxHeartbeats 2000000 in
theorem aloneM_any (h:Nat) (l:List Vl) (oa:Option Addr) (cap b o:Nat) (w:World) (hs:VsIn w h oa cap b o l) :
  Calls Tryz.prog 97 #[.slice oa l.length cap] w fun e w'=>e=.returned (.string ⟨(aloneN (l.map Vl.c)).toArray⟩)∧Below w.heap.size w w':=by
 have HA:=Lib.hid (solidM_any h l oa cap b o w hs);obtain⟨R,hR⟩:∃ R,aloneN (l.map Vl.c)=R:=⟨_,rfl⟩;have HR:=Lib.hid hR;rw[hR];clear hs hR
 go_enter Tryz.func97,Tryz.ntmps97
 go_wp2_with fail
 ((with_reducible refine HA.out.mono ?_);rintro e w1 ⟨⟨oa1,cap1,b1,D,rfl,hd,hc⟩,hb⟩)
 have HB:=Lib.hid hb
 have hR2:aloneN (l.map Vl.c)=match D.map Vl.c with
  | [v]=>wordV v
  | _=>[]:=by unfold aloneN;rw[hc];rfl
 rw[HR.out]at hR2;clear hb HA HR hc
 by_cases hN:D.length=1
 · obtain⟨x,rfl⟩:∃ x,D=[x]:=List.length_eq_one_iff.1 hN;obtain⟨⟨tk,tt,⟨tn,td⟩,ti,tid⟩,koa,kb,ko,kcap,kids⟩:=x;obtain⟨f0,f1,f2,f3,f4,f5,f6⟩:=hd.row (i:=0) rfl;obtain⟨rfl,hbl⟩:=hd.sl.lies (by simp);have htl:=(tk_of_in (hd.each 0 _ rfl)).2.2;have HSM:=Lib.hid (fun w=>smallM_any tt w htl);simp only[List.map_cons,List.map_nil,Vl.c_mk]at hR2;simp only[Nat.zero_mul,Nat.add_zero,Nat.zero_add]at f0 f1 f2 f3 f4 f5 f6;rw[hN];have hcp:=hd.sl.le;rw[hN]at hcp;clear hd hN f2 f3 f4 f5 f6 htl
   by_cases hk:tk=1
   · have hR3:R=lowS tt:=by rw[hR2];unfold wordV;exact if_pos hk
     subst hR3 hk;clear hR2;go_wp2_with fail
     ((with_reducible refine(HSM.out _).mono ?_);rintro e w2 ⟨rfl,hb2⟩)
     have HB2:=bfH HB hb2;clear hb2;go_wp2_with fail;go_ret;exact⟨rfl,HB2.out⟩
   · have hR3:R=[]:=by rw[hR2];unfold wordV;exact if_neg hk
     have gk:(tk != (1:Int))=true:=by simpa using hk
     subst hR3;clear hR2;go_wp2_with fail;go_ret;exact⟨rfl,HB.out⟩
 · have hR3:R=[]:=by
    rw[hR2]
    match D,hN with
    | [],_=>rfl
    | [_],h=>exact absurd rfl h
    | _::_::_,_=>rfl
   obtain⟨N,hNe⟩:∃ N,D.length=N:=⟨_,rfl⟩;rw[hNe]at hN ⊢
   have gk:((N:Int) != (1:Int))=true:=by rw[bne_iff_ne];omega
   subst hR3;clear hR2 hd hNe;go_wp2_with fail;go_ret;exact⟨rfl,HB.out⟩
theorem Blk.keeps {w w':World} {g:Nat} {t:TypeId} {cs:Array Value} {row:Option Nat} (h:Blk w g t cs) (hg:w.grownBy w' row) (hr:row≠some g):Blk w' g t cs:=(hg.block g h.lt (fun e=>hr e.symm)).trans h
def lfT (t:Tk):Vt:=.mk t []
set_option maxRecDepth 20000 in
set_option maxHeartbeats 8000000 in
theorem rflat_leaf (h:Nat) (l:List Vl) (Y:List Tk) (oa:Option Addr) (cap b o:Nat) (w:World) (hs:VsIn w h oa cap b o l) (hY:l.map Vl.c=Y.map lfT) (hk:∀ t∈Y,closeF t.kind=0) (hz:l.length≤1000000) :
  Calls Tryz.prog 72 #[.slice oa l.length cap] w fun e w'=>∃ v,e=.returned v∧Rw w w' 102 6 v Y.length (toksV Y):=by
 have hcl:=hs.sl.le;have hcm:=hs.sl.max;unfold maxLen at hcm
 have hYl:Y.length≤1000000:=by
  have:=congrArg List.length hY;rw[List.length_map,List.length_map]at this;omega
 obtain⟨hBS,hBB⟩:=box_new w 177 #[.slice oa l.length cap,.int .i64 0];have HB0:=Lib.hid hBB;have HS0:=Lib.hid hBS;have HS:=Lib.hid (And.intro hs (And.intro hY hk));clear hs hY hk hBS hBB;obtain⟨g,hg⟩:∃ g,w.heap.size=g:=⟨_,rfl⟩;rw[hg]at HS0;have HG:=Lib.hid hg;have hgl:=HS0.out.lt
 go_enter Tryz.func72,Tryz.ntmps72
 go_upto_block 0 with fail
 clear hg;generalize World.alloc w _=w0 at *;go_wp2_with fail
 go_loopg [3,4] 1000001 (fun q s3 s4 wr=>∃ (m:Nat) (pl:List Vl) (Q T:List Tk) (poa:Option Addr) (pcap pb po:Nat) (ov:Value),ov=s3∧s4=.slice (some ⟨g,0,none⟩) m 1∧m≤1∧(m=0→Q=[])∧Q.length+m≤q∧Hid (pl.map Vl.c=Q.map lfT∧T++Q=Y)∧Hid (VsIn w h poa pcap pb po pl)∧Hid (Blk wr g 177 #[.slice poa pl.length pcap,.int .i64 0]) ∧
  Hid (Below w.heap.size w wr)∧Hid (wr.ownsRow w.heap.size 102 6 ov T.length (toksV T)))
 case atStart=>exact⟨1,l,Y,[],oa,cap,b,o,_,rfl,rfl,Nat.le_refl _,fun h=>absurd h (by decide),by omega,Lib.hid ⟨HS.out.2.1,rfl⟩,Lib.hid HS.out.1,HS0,HB0,Lib.hid (World.ownsRow_nil _ _ _ _)⟩
 case round =>
  obtain⟨m,pl,Q,T,poa,pcap,pb,po,ov,rfl,rfl,hm,hmq,hq,hE,hV,hS,hb,hO⟩:=hrel;obtain⟨n,hn⟩:∃ n,pl.length=n:=⟨_,rfl⟩;rw[hn]at hS
  rcases m with _ | _ | m
  · have hT:T=Y:=by have:=hE.out.2;rw[hmq rfl,List.append_nil]at this;exact this
    have HT:=Lib.hid hT;clear hT hn;go_wp2_with fail;go_ret;exact⟨_,rfl,hb.out,by rw[← HT.out];exact hO.out⟩
  · have cs0:wr.cell? ⟨g,0,none⟩=some (.slice poa n pcap):=(hS.out).cell 0;have fcs0:=(hS.out).frozen 0;have cs1:wr.cell? ⟨g,1,none⟩=some (.int .i64 0):=(hS.out).cell 1;have fcs1:=(hS.out).frozen 1;have lcs:=(hS.out).lt
    rcases Q with _ | ⟨t,Q⟩
    · have h0:pl=[]:=by have:=hE.out.1;simpa using this
      subst h0;obtain rfl:0=n:=hn;go_wp2_with fail
      go_roundg 0
      case measure=>simp at hq;omega
      case rel=>exact⟨0,[],[],T,poa,pcap,pb,po,ov,rfl,rfl,by omega,fun _=>rfl,Nat.le_refl _,hE,hV,hS,hb,hO⟩
    · obtain ⟨x,r,rfl⟩:∃ x r,pl=x::r:=by
       cases pl with
       | nil=>have:=hE.out.1;simp at this
       | cons x r=>exact⟨x,r,rfl⟩
      obtain⟨k,hk⟩:∃ k,r.length=k:=⟨_,rfl⟩
      obtain rfl:k+1=n:=by rw[← hn,List.length_cons,hk]
      have hxc:=hE.out.1;rw[List.map_cons,List.map_cons]at hxc;obtain⟨hx1,hx2⟩:=List.cons.inj hxc;obtain⟨t2,koa,kb,ko,kcap,kids⟩:=x;rw[Vl.c_mk]at hx1;unfold lfT at hx1
      injection hx1 with ht hki
      subst ht;obtain rfl:kids=[]:=List.map_eq_nil_iff.1 hki;obtain⟨tk,tt,⟨tn,td⟩,ti,tid⟩:=t2
      have hTQ:(T++[(⟨tk,tt,(tn,td),ti,tid⟩:Tk)])++Q=Y:=by rw[List.append_assoc];exact hE.out.2
      have hck:closeF tk=0:=HS.out.2.2 ⟨tk,tt,(tn,td),ti,tid⟩ (by rw[← hTQ];simp)
      have hTl:T.length≤1000000:=by
       have:=congrArg List.length hTQ;simp only[List.length_append]at this;omega
      have hpv:=hV.out;have hcap1:=hpv.sl.le;rw[hn]at hcap1;have hcapm:=hpv.sl.max;unfold maxLen at hcapm;obtain⟨f0,f1,f2,f3,f4,f5,f6⟩:=(hpv.below hb.out).row (i:=0) rfl;simp only[Nat.zero_mul,Nat.add_zero,Nat.zero_add,List.length_nil]at f0 f1 f2 f3 f4 f5 f6;have hpart:=hpv.part (a:=1) (c:=(Vl.mk ⟨tk,tt,(tn,td),ti,tid⟩ koa kb ko kcap []::r).length) (by rw[hn];omega) (Nat.le_refl _);rw[List.take_length,List.drop_one,List.tail_cons,Nat.one_mul]at hpart;obtain⟨hpoa,hpbl⟩:=hpv.sl.lies (by rw[hn];omega);subst hpoa;have HPART:=Lib.hid hpart;have HX:=Lib.hid (And.intro hx2 (And.intro hTQ hck))
      have gz:(((k+1:Nat):Int)==0)=false:=by simp;omega
      have gz2:((k:Int)+1==0)=false:=by simp;omega
      clear hpart hx2 hTQ hck hxc hki hE hV hpv hn
      go_upto_region 10 with fail
      obtain⟨h9,hb3⟩:=box_new wr 104 #[.int .i64 tk,.string ⟨tt.toArray⟩,.int .i64 tn,.int .i64 td,.bool ti,.bool tid,.slice koa 0 kcap];have HB3:=bfH hb hb3;have HO3:=Lib.hid (hO.out.alloc (.cells #[.int .i64 tk,.string ⟨tt.toArray⟩,.int .i64 tn,.int .i64 td,.bool ti,.bool tid,.slice koa 0 kcap] 104));have HS3:=Lib.hid (hS.out.below hb3 hS.out.lt);have HOV:=Lib.hid (show ∀ k,ov.ownBlock=some k→w.heap.size≤k∧k<wr.heap.size from fun k e=>hO.out.lt k e);have hg6:=hS.out.lt;clear hb3 f0 f1 f2 f3 f4 f5 f6 cs0 fcs0 cs1 fcs1 lcs hb hO hS;generalize wr.heap.size=g6 at *;generalize wr.alloc _=w3 at *;have H9:=Lib.hid h9;have hw3:=h9.lt;obtain⟨cg0,fcg0,cg1,fcg1,cg2,fcg2,cg3,fcg3,cg4,fcg4,cg5,fcg5,cg6,fcg6,lcg⟩:=Blk.seven (h9);have cs0:w3.cell? ⟨g,0,none⟩=some (.slice (some ⟨pb,po,none⟩) (k+1) pcap):=(HS3.out).cell 0;have fcs0:=(HS3.out).frozen 0
      have cs1:w3.cell? ⟨g,1,none⟩=some (.int .i64 0):=(HS3.out).cell 1;have fcs1:=(HS3.out).frozen 1;have lcs:=(HS3.out).lt;clear h9
      go_cut [] from 49 to 56 (fun wx=>∃ oa',wx=w3.setCell ⟨g,0,none⟩ (.slice oa' k (pcap-1))∧oa'=if pcap=1 then some ⟨pb,po,none⟩ else (some (⟨pb,po,none⟩:Addr)).map (·.add 7))
      case first =>
       go_wp2_with fail
       all_goals
        first
         | (have e:pcap=1:=by assumption
            subst e;go_meet
            exact⟨_,rfl,by rw[if_pos rfl]⟩)
         | (have e:¬ pcap=1:=by assumption
            go_meet
            exact⟨_,rfl,by rw[if_neg e];rfl⟩)
      obtain⟨oa',e,hoa'⟩:=hcut;subst e;rw[← hoa']at HPART;have hset:=grownBy_set w3 ⟨g,0,none⟩ (.slice oa' k (pcap-1));have HB4:=Lib.hid (below_far HB3.out hset (fun q e=>by have e:g=q:=Option.some.inj e;rw[← e,HG.out];exact Nat.le_refl _));have HO4:=Lib.hid (HO3.out.kept hset (.inr (blk_apart HS3.out HO3.out (by decide))));have HS4:=Lib.hid (show Blk (w3.setCell ⟨g,0,none⟩ (.slice oa' k (pcap-1))) g 177 #[.slice oa' k (pcap-1),.int .i64 0] from HS3.out.put 0 _);have H94:=Lib.hid (H9.out.far (p:=⟨g,0,none⟩) (by simp;omega) (.slice oa' k (pcap-1)));clear hset hw3 cg0 cg1 cg2 cg3 cg4 cg5 cg6 fcg0 fcg1 fcg2 fcg3 fcg4 fcg5 fcg6 lcg cs0 fcs0 cs1 fcs1 lcs H9 HB3 HO3 HS3;generalize w3.setCell _ _=w4 at *;have hww4:=HB4.out.size;obtain⟨cg0,fcg0,cg1,fcg1,cg2,fcg2,cg3,fcg3,cg4,fcg4,cg5,fcg5,cg6,fcg6,lcg⟩:=Blk.seven (H94.out)
      go_upto_region 12 with (at_builtin;refine wpList_add elTok rfl _ _ rfl rfl (HO4.out.alloc _) (by simp;omega) (Blk.new w4 _ _) 1 rfl rfl (by simp[Value.oneCell']) (by omega) (by omega) ?_;intro gg cap3 wA hoA hgA hatA hvbA;have HA:=Lib.hid (And.intro hoA (And.intro hgA (And.intro hatA hvbA)));clear hoA hgA hatA hvbA)
      have hgc:=grownBy_trans (World.grownBy_alloc w4 _ _) HA.out.2.1;have HBA:=Lib.hid (below_far HB4.out hgc (fun k e=>(HOV.out k e).1));have HSA:=Lib.hid (HS4.out.keeps hgc (blk_apart HS4.out HO4.out (by decide)));have H9A:=Lib.hid (H94.out.keeps hgc (blk_apart H94.out HO4.out (by decide)))
      have HOA:=Lib.hid (show wA.ownsRow w.heap.size 102 6 (.slice (some ⟨gg,0,none⟩) (T.length+1) cap3) (T++[(⟨tk,tt,(tn,td),ti,tid⟩:Tk)]).length (toksV (T++[(⟨tk,tt,(tn,td),ti,tid⟩:Tk)])) from by
       rw[List.length_append,List.length_singleton,show toksV (T++[(⟨tk,tt,(tn,td),ti,tid⟩:Tk)])=toksV T++[.int .i64 tk,.string ⟨tt.toArray⟩,.int .i64 tn,.int .i64 td,.bool ti,.bool tid] by simp[toksV,tkcells]]
       exact HA.out.1)
      clear hgc HA HS4 HO4 HB4 H94 HOV cg0 cg1 cg2 cg3 cg4 cg5 cg6 fcg0 fcg1 fcg2 fcg3 fcg4 fcg5 fcg6 lcg;obtain⟨cg0,fcg0,cg1,fcg1,cg2,fcg2,cg3,fcg3,cg4,fcg4,cg5,fcg5,cg6,fcg6,lcg⟩:=Blk.seven (H9A.out);have HCL:=Lib.hid (rcloser_any tk wA);rw[HX.out.2.2]at HCL;go_wp2_with fail
      ((with_reducible refine HCL.out.mono ?_);rintro e wz ⟨rfl,rfl⟩)
      go_wp2_with fail
      go_roundg (Q.length+1)
      case measure=>simp at hq;omega
      case rel=>exact⟨1,r,Q,_,oa',pcap-1,pb,po+7,_,rfl,rfl,Nat.le_refl _,fun h=>absurd h (by decide),Nat.le_refl _,Lib.hid ⟨HX.out.1,HX.out.2.1⟩,HPART,by rw[hk];exact HSA,HBA,HOA⟩
  · omega
def tvcells (t:Tk):List Value:=[.int .i64 t.kind,.string ⟨t.text.toArray⟩,.int .i64 t.num.1,.int .i64 t.num.2,.bool t.int,.bool t.id,.slice none 0 0]
theorem tvcells_length (t:Tk):(tvcells t).length=7:=rfl
structure Sv (B gS gO gs:Nat) (w:World) (v:Value) (L:List Tk):Prop where
 bs:Blk w gS 273 #[.slice (some ⟨gs,0,none⟩) 1 1]
 bo:Blk w gO 110 #[.slice none 0 0]
 bv:Blk w gs 86 #[v]
 row:w.ownsRow B 104 7 v L.length (L.flatMap tvcells)
 ne1:gs≠gS
 ne2:gs≠gO
 le:B≤gs
theorem Sv.below {B gS gO gs:Nat} {w w':World} {v:Value} {L:List Tk} (h:Sv B gS gO gs w v L) (hb:Below w.heap.size w w'):Sv B gS gO gs w' v L :=
 ⟨h.bs.below hb h.bs.lt,h.bo.below hb h.bo.lt,h.bv.below hb h.bv.lt,owns_belowW h.row hb,h.ne1,h.ne2,h.le⟩
theorem Sv.put {B gS gO gs gg:Nat} {w w3 w5:World} {v v':Value} {L:List Tk} {t:Tk} {xs3:List Value} (h:Sv B gS gO gs w v L) (hB:B≤w.heap.size) (g1:w.grownBy w3 v.ownBlock) (g2:(w3.setCell ⟨gs,0,none⟩ v').grownBy w5 (some gg)) (hg:v'.ownBlock=some gg)
  (hr3:w3.ownsRow B 104 7 v' (L.length+1) xs3) (hr:w5.ownsRow B 104 7 v' (L.length+1) (L.flatMap tvcells++tvcells t)) :
  Sv B gS gO gs w5 v' (L++[t])∧Below B w w5:=by
 have b3:=h.bs.keeps g1 (blk_apart h.bs h.row (by decide));have o3:=h.bo.keeps g1 (blk_apart h.bo h.row (by decide));have v3:=h.bv.keeps g1 (blk_apart h.bv h.row (by decide));have gv:=grownBy_set w3 ⟨gs,0,none⟩ v';have n1:=blk_apart b3 hr3 (by decide);have n2:=blk_apart o3 hr3 (by decide);have n3:=blk_apart v3 hr3 (by decide);rw[hg]at n1 n2 n3;refine⟨⟨(b3.keeps gv fun e=>h.ne1 (Option.some.inj e)).keeps g2 n1,(o3.keeps gv fun e=>h.ne2 (Option.some.inj e)).keeps g2 n2,(show Blk (w3.setCell ⟨gs,0,none⟩ v') gs 86 #[v'] from v3.put 0 v').keeps g2 n3,?_,h.ne1,h.ne2,h.le⟩,?_⟩
 · rw[List.length_append,List.flatMap_append,List.flatMap_singleton];exact hr
 · have b1:Below B w w3:=Below.grown (Below.refl B w) g1 hB (fun k hk=>(h.row.lt k hk).1);have b2:Below B w (w3.setCell ⟨gs,0,none⟩ v'):=b1.setCell h.le _;exact b2.trans (Below.grown (Below.refl B _) g2 (Nat.le_trans hB b2.size) (fun k hk=>by rw[← hg]at hk;exact(hr3.lt k hk).1))
set_option maxRecDepth 20000 in
set_option maxHeartbeats 8000000 in
theorem rvalues_leaf (Y:List Tk) (oa:Option Addr) (cap b o:Nat) (w:World) (hs:Sl w oa Y.length cap b o 6 (toksV Y)) (hk:∀ t∈Y,closeF t.kind=0) (hm:Y.length≤1000000) :
  Calls Tryz.prog 201 #[.slice oa Y.length cap] w fun e w'=>∃ v,e=.returned v∧w'.ownsRow w.heap.size 104 7 v Y.length (Y.flatMap tvcells)∧Below w.heap.size w w':=by
 obtain⟨N,hN⟩:∃ N,Y.length=N:=⟨_,rfl⟩;rw[hN]at hm ⊢;obtain⟨B,hB⟩:∃ B,w.heap.size=B:=⟨_,rfl⟩;simp only[hB];have hcl:=hs.le;have hcm:=hs.max;unfold maxLen at hcm;rw[hN]at hcl;have HS:=Lib.hid (And.intro hs hk);have HN:=Lib.hid hN;have HB:=Lib.hid hB;clear hs hk hN hB
 go_enter Tryz.func201,Tryz.ntmps201
 go_upto_region 4 with fail
 have hb0:Below B w (((w.alloc (.cells #[.slice none 0 0] 86)).alloc (.cells #[.slice (some ⟨w.heap.size,0,none⟩) 1 1] 273)).alloc (.cells #[.slice none 0 0] 110)) :=
  (((Below.refl B w).alloc (by rw[HB.out];exact Nat.le_refl _) _).alloc (by simp;have:=HB.out;omega) _).alloc (by simp;have:=HB.out;omega) _
 have hz:Sv B (w.heap.size+1) (w.heap.size+1+1) w.heap.size (((w.alloc (.cells #[.slice none 0 0] 86)).alloc (.cells #[.slice (some ⟨w.heap.size,0,none⟩) 1 1] 273)).alloc (.cells #[.slice none 0 0] 110)) (.slice none 0 0) [] :=
  ⟨(Blk.new2 w _ _ _).old _,by have:=Blk.new ((w.alloc (.cells #[.slice none 0 0] 86)).alloc (.cells #[.slice (some ⟨w.heap.size,0,none⟩) 1 1] 273)) 110 #[.slice none 0 0];simpa using this,((Blk.new w _ _).old _).old _,World.ownsRow_nil _ _ _ _,by omega,by omega,by rw[HB.out];exact Nat.le_refl _⟩
 have HK0:=Lib.hid hz;have HB0:=Lib.hid hb0;clear hz hb0;obtain⟨gS,hgS⟩:∃ gS,w.heap.size+1=gS:=⟨_,rfl⟩;rw[hgS]at HK0 ⊢;obtain⟨gO,hgO⟩:∃ gO,gS+1=gO:=⟨_,rfl⟩;rw[hgO]at HK0 ⊢;clear hgS hgO;generalize w.heap.size=gs at HK0 HB0 ⊢;generalize World.alloc _ _=w0 at *;go_wp2_with fail
 go_loopg [13] N (fun q s wr=>∃ (i:Nat) (v:Value),s=.int .i64 i∧Hid (Sv B gS gO gs wr v (Y.take i))∧Hid (Below B w wr)∧i≤N∧N-i≤q)
 case atStart=>exact⟨0,_,rfl,HK0,HB0,Nat.zero_le _,by omega⟩
 case round =>
  clear HK0 HB0;obtain⟨i,v,rfl,hK,hb,hiN,hq⟩:=hrel
  by_cases hi:i<N
  · have gi:decide ((i:Int)<(N:Int))=true:=by simpa using hi
    have gin:decide (i<N)=true:=by simpa using hi
    have hil:i<Y.length:=by rw[HN.out];exact hi
    have hli:Y[i]?=some Y[i]:=List.getElem?_eq_getElem hil;have hs2:=HS.out.1.below (by rw[HB.out];exact hb.out);obtain⟨rfl,hbl⟩:=hs2.lies (by omega);have htake:Y.take (i+1)=Y.take i++[Y[i]]:=List.take_succ_eq_append_getElem hil;obtain⟨t,ht⟩:∃ t,Y[i]=t:=⟨_,rfl⟩;rw[ht]at hli htake;have hck:=HS.out.2 t (List.mem_of_getElem? hli)
    have hcell:∀ j v,(tkcells t)[j]?=some v→wr.cell? ⟨b,o+(i*6+j),none⟩=some v:=fun j v hv=>hs2.cell _ _ (flat_at (f:=tkcells) (sz:=6) (fun _=>rfl) Y i t j v hli hv)
    obtain⟨tk,tt,⟨tn,td⟩,ti,tid⟩:=t;have f0:wr.cell? ⟨b,o+i*6,none⟩=some (.int .i64 tk):=hcell 0 _ rfl;have f1:wr.cell? ⟨b,o+i*6+1,none⟩=some (.string ⟨tt.toArray⟩):=hcell 1 _ rfl;have f2:wr.cell? ⟨b,o+i*6+2,none⟩=some (.int .i64 tn):=hcell 2 _ rfl;have f3:wr.cell? ⟨b,o+i*6+3,none⟩=some (.int .i64 td):=hcell 3 _ rfl;have f4:wr.cell? ⟨b,o+i*6+4,none⟩=some (.bool ti):=hcell 4 _ rfl;have f5:wr.cell? ⟨b,o+i*6+5,none⟩=some (.bool tid):=hcell 5 _ rfl;have HT:=Lib.hid (And.intro htake (And.intro (show closeF tk=0 from hck) (show (Y.take i).length=i by rw[List.length_take];omega)));clear hcell htake hck hs2 hli hil ht
    go_upto_region 7 with fail
    obtain⟨hbx,hbb⟩:=box_new wr 102 #[.int .i64 tk,.string ⟨tt.toArray⟩,.int .i64 tn,.int .i64 td,.bool ti,.bool tid]
    have hwB:B≤wr.heap.size:=by have:=hb.out.size;rw[HB.out]at this;exact this
    have hb1:=Lib.hid (hb.out.trans (hbb.mono hwB));have hK1:=Lib.hid (hK.out.below hbb)
    have hwB1:B≤(wr.alloc (.cells #[.int .i64 tk,.string ⟨tt.toArray⟩,.int .i64 tn,.int .i64 td,.bool ti,.bool tid] 102)).heap.size:=by simp;omega
    clear f0 f1 f2 f3 f4 f5 hb hK hbb hwB;generalize wr.heap.size=g5 at *;generalize wr.alloc _=w1 at *;have cb0:w1.cell? ⟨g5,0,none⟩=some (.int .i64 tk):=(hbx).cell 0;have fcb0:=(hbx).frozen 0;have cb1:w1.cell? ⟨g5,1,none⟩=some (.string ⟨tt.toArray⟩):=(hbx).cell 1;have fcb1:=(hbx).frozen 1;have cb2:w1.cell? ⟨g5,2,none⟩=some (.int .i64 tn):=(hbx).cell 2;have fcb2:=(hbx).frozen 2;have cb3:w1.cell? ⟨g5,3,none⟩=some (.int .i64 td):=(hbx).cell 3;have fcb3:=(hbx).frozen 3;have cb4:w1.cell? ⟨g5,4,none⟩=some (.bool ti):=(hbx).cell 4;have fcb4:=(hbx).frozen 4;have cb5:w1.cell? ⟨g5,5,none⟩=some (.bool tid):=(hbx).cell 5;have fcb5:=(hbx).frozen 5;have lcb:=(hbx).lt;have cs0:w1.cell? ⟨gS,0,none⟩=some (.slice (some ⟨gs,0,none⟩) 1 1):=(hK1.out.bs).cell 0;have fcs0:=(hK1.out.bs).frozen 0;have lcs:=(hK1.out.bs).lt;have co0:w1.cell? ⟨gO,0,none⟩=some (.slice none 0 0):=(hK1.out.bo).cell 0
    have fco0:=(hK1.out.bo).frozen 0;have lco:=(hK1.out.bo).lt;have HBX:=Lib.hid hbx;clear hbx;have HCL:=Lib.hid (rcloser_any tk w1);rw[HT.out.2.1]at HCL;go_wp2_with fail
    ((with_reducible refine HCL.out.mono ?_);rintro e wz ⟨rfl,rfl⟩)
    clear HCL
    go_upto_region 15 with fail
    go_cut [55] (fun s wx=>s=.bool false∧Hid (Below wz.heap.size wz wx))
    case first =>
     refine wp_region_grow (by kernel_rfl) (by kernel_rfl) ?_
     repeat (go_big_quiet_step ((first | (fail))))
     refine wpQuiet_nil ?_;rintro _ ⟨m1,rfl⟩;go_wp2_with fail;go_meet
     case rel=>exact⟨rfl,Lib.hid (grow_below m1)⟩
    obtain⟨rfl,hbv⟩:=hcut
    go_upto_region 8 with fail
    generalize wc=wp at *
    go_cut [20] (fun s wx=>∃ b:Bool,s=.bool b∧Hid (Below wp.heap.size wp wx))
    case first =>
     go_region
     all_goals
      go_wp2_with fail;go_meet
      case rel=>exact⟨_,rfl,Lib.hid (Below.drew (below_box _ _))⟩
    case rest =>
     obtain⟨bb,rfl,hbw0⟩:=hcut;have hbw:=Lib.hid (hbv.out.trans (hbw0.out.mono hbv.out.size));clear hbw0 hbv;have hp2:=hK1.out.below hbw.out;have hb3:=Lib.hid (hb1.out.trans (Below.mono hbw.out hwB1));have hbx:=HBX.out.below hbw.out HBX.out.lt;have hBw:B≤wc.heap.size:=Nat.le_trans hwB1 hbw.out.size;clear hbw hb1 hK1 hwB1 HBX cb0 cb1 cb2 cb3 cb4 cb5 fcb0 fcb1 fcb2 fcb3 fcb4 fcb5 lcb cs0 fcs0 lcs co0 fco0 lco;have hcP:wc.cell? ⟨gs,0,none⟩=some v:=hp2.bv.cell 0;have hfP:=hp2.bv.frozen 0;have hgsl:=hp2.bv.lt;have hneP:=blk_apart hp2.bv hp2.row (by decide);have hneS:=blk_apart hp2.bs hp2.row (by decide);have hkP:=hp2.row;rw[HT.out.2.2]at hkP;obtain⟨poa,pc,pg,rfl,_,_⟩:=sl_of_own hkP;have HP:=Lib.hid hp2;have HKP:=Lib.hid hkP;have cb0:wc.cell? ⟨g5,0,none⟩=some (.int .i64 tk):=(hbx).cell 0;have fcb0:=(hbx).frozen 0;have cb1:wc.cell? ⟨g5,1,none⟩=some (.string ⟨tt.toArray⟩):=(hbx).cell 1
     have fcb1:=(hbx).frozen 1;have cb2:wc.cell? ⟨g5,2,none⟩=some (.int .i64 tn):=(hbx).cell 2;have fcb2:=(hbx).frozen 2;have cb3:wc.cell? ⟨g5,3,none⟩=some (.int .i64 td):=(hbx).cell 3;have fcb3:=(hbx).frozen 3;have cb4:wc.cell? ⟨g5,4,none⟩=some (.bool ti):=(hbx).cell 4;have fcb4:=(hbx).frozen 4;have cb5:wc.cell? ⟨g5,5,none⟩=some (.bool tid):=(hbx).cell 5;have fcb5:=(hbx).frozen 5;have lcb:=(hbx).lt;have cs0:wc.cell? ⟨gS,0,none⟩=some (.slice (some ⟨gs,0,none⟩) 1 1):=(hp2.bs).cell 0;have fcs0:=(hp2.bs).frozen 0;have lcs:=(hp2.bs).lt;clear hp2 hkP hbx
     have hln:((Y.take i).flatMap tvcells).length=i*7:=by rw[flat_length tvcells_length,HT.out.2.2]
     have HLN:=Lib.hid hln;clear hln
     cases bb with
     | true =>
       go_wp2_with fail;refine wp_region_phase 8 [Loose.claim 5 26 (.agg #[.int .i64 tk,.string ⟨tt.toArray⟩,.int .i64 tn,.int .i64 td,.bool ti,.bool tid,.slice none 0 0]),Loose.claim 6 27 (.int .i64 i),Loose.rowL 7 28 104 1 zero7 wc.heap.size] (by kernel_rfl) (by kernel_rfl) (by kernel_rfl) rfl (by kernel_rfl) (by kernel_rfl) (by kernel_rfl) (by kernel_rfl) ?_;simp only[List.take_succ_cons,List.take_zero,headL,hushL,List.find?,Loose.claim_i,Loose.cells_i,Loose.rowL_i,Loose.claim_hush,Loose.cells_hush,Loose.rowL_hush,Loose.val_i,Loose.rowS_i,Loose.val_hush,Loose.rowS_hush,Loose.fw_i,Loose.fw_hush,Loose.rw_i,Loose.rw_hush,Nat.reduceBEq,Nat.reduceAdd]
       repeat (go_big_quiet_step (fail))
       refine wpQuiet_nil ⟨fun V m=>?_,fun V m=>?_⟩
       · simp only[List.take_succ_cons,List.take_zero,obs_cons,obs_nil,List.getElem?_cons_zero,List.getElem?_cons_succ,fill_nil,fill_claim,fill_cells,fill_rowL,Loose.claim_i,Loose.cells_i,Loose.rowL_i,Act.put,List.setIfInBounds_toArray,List.set_cons_zero,List.set_cons_succ,fill_val,fill_rowS,Loose.val_i,Loose.rowS_i,fill_fw,Loose.fw_i,fill_rw,Loose.rw_i];refine⟨fun _=>?_,fun _=>?_,fun _=>?_,trivial⟩
         · go_wp2_with fail;exact post_claim rfl (Below.refl _ _)
         · go_wp2_with fail;exact post_claim rfl (Below.refl _ _)
         · go_wp2_with fail;exact post_rowL rfl (grow_size m)
       · simp only[laws_nil,laws_claim,laws_cells,laws_rowL,laws_val,laws_rowS,laws_fw,laws_rw,dist_nil,dist_claim,dist_cells,dist_rowL,dist_val,dist_rowS,dist_fw,dist_rw,dist1_nil,dist1_claim,dist1_cells,dist1_rowL,dist1_val,dist1_fw,dist1_cells_rowL,dist1_rowL_cells,List.length_cons,List.length_nil,Nat.reduceAdd,Nat.reduceSub,and_true,fill_nil,fill_claim,fill_cells,fill_rowL,Loose.claim_i,Loose.cells_i,Loose.rowL_i,Act.put,List.setIfInBounds_toArray,List.set_cons_zero,List.set_cons_succ,fill_val,fill_rowS,Loose.val_i,Loose.rowS_i,fill_fw,Loose.fw_i,fill_rw,Loose.rw_i];rintro⟨gb,hv10,hgb,hbk⟩ _;rw[hv10];clear hv10;have hgm:=grow_below m;generalize grow wc m=wd at *;refine wpAny_ready (rs:=[8]) (by kernel_rfl) (by simp) ?_;refine AllReady.cons rfl (fun K hK=>?_) AllReady.nil
         refine step_add elVal (by rfl) _ _ (by rfl) (by rfl) (owns_belowW HKP.out hgm) (by have:=hgm.size;omega) hbk 1 (by rfl) (by rfl) (by simp[zero7,Value.oneCell']) (by omega) (by omega) ?_;intro gg cap3 w3 ho3 hg3 hat;refine hK _ _ ?_;clear hK K;change wpAny _ _ _ _ _ _ (Act.put _ (some 29) _) _
         try simp only[Act.put,List.setIfInBounds_toArray,List.set_cons_zero,List.set_cons_succ]
         refine wpAny_take (i:=9) (v:=?vv9) rfl (by kernel_rfl) (by kernel_rfl) (by kernel_rfl) (fun _ _ _ h=>h) (Or.inl ⟨by rfl,?hy9⟩) ?_
         case hy9=>(intro w;go_simp;try with_reducible rfl)
         change wpAny _ _ _ _ _ _ (Act.put _ (some 30) _) _
         try simp only[Act.put,List.setIfInBounds_toArray,List.set_cons_zero,List.set_cons_succ]
         have q1:w3.cell? ⟨gs,0,none⟩=some (.slice poa i pc):=(hg3.cell_far _ (by have:=hgm.size;simp;omega) (Ne.symm hneP)).trans ((hgm.cell hgsl).trans hcP);have q2:w3.frozen? ⟨gs,0,none⟩=false:=(hg3.frozen_far _ (by have:=hgm.size;simp;omega) (Ne.symm hneP)).trans ((hgm.frozen hgsl).trans hfP);refine wpAny_ready (rs:=[10]) (by kernel_rfl) (by simp) ?_;refine AllReady.cons rfl (fun K hK=>?_) AllReady.nil
         go_simp
         refine hK _ _ ?_;clear hK K;refine wpAny_done (by kernel_rfl) ?_ _
         have hgne:gg≠gs:=fun e=>by
          have:=blk_apart ((HP.out.bv.below hgm hgsl).keeps hg3 hneP) ho3 (by decide);exact this (by rw[← e];rfl)
         have ho4:=ho3.kept (grownBy_set w3 ⟨gs,0,none⟩ (.slice (some ⟨gg,0,none⟩) (i+1) cap3)) (.inr fun e=>hgne (Option.some.inj e))
         have z:∀ j u,zero7.toList[j]?=some u→(w3.setCell ⟨gs,0,none⟩ (.slice (some ⟨gg,0,none⟩) (i+1) cap3)).cell? ⟨gg,i*7+j,none⟩=some u:=fun j u hu=>owns_cell ho4 (by rw[List.getElem?_append_right (by have:=HLN.out;omega),HLN.out,show i*7+j-i*7=j by omega];exact hu)
         obtain⟨z0,z1,z2,z3,z4,z5,z6⟩:=row7 z;have y0:=owns_frozen ho4 (i*7);have y1:=owns_frozen ho4 (i*7+1);have y2:=owns_frozen ho4 (i*7+2);have y3:=owns_frozen ho4 (i*7+3);have y4:=owns_frozen ho4 (i*7+4);have y5:=owns_frozen ho4 (i*7+5);have y6:=owns_frozen ho4 (i*7+6);have hcap3:=owns_cap ho3
         have HZ:=Lib.hid (show Sv B gS gO gs (puts (w3.setCell ⟨gs,0,none⟩ (.slice (some ⟨gg,0,none⟩) (i+1) cap3)) gg (i*7) [.int .i64 tk,.string ⟨tt.toArray⟩,.int .i64 tn,.int .i64 td,.bool ti,.bool tid,.slice none 0 0]) (.slice (some ⟨gg,0,none⟩) (i+1) cap3) (Y.take i++[⟨tk,tt,(tn,td),ti,tid⟩])∧Below B wc (puts (w3.setCell ⟨gs,0,none⟩ (.slice (some ⟨gg,0,none⟩) (i+1) cap3)) gg (i*7) [.int .i64 tk,.string ⟨tt.toArray⟩,.int .i64 tn,.int .i64 td,.bool ti,.bool tid,.slice none 0 0]) from
          Sv.put HP.out hBw (grownBy_trans (grownBy_of_below hgm _) hg3) (grownBy_puts _ _ gg _) rfl (by rw[HT.out.2.2];exact ho3) (by rw[HT.out.2.2];exact owns_puts [.int .i64 tk,.string ⟨tt.toArray⟩,.int .i64 tn,.int .i64 td,.bool ti,.bool tid,.slice none 0 0] (i*7) _ _ _ ho4 HLN.out rfl (by simp;omega)))
         clear z ho3 ho4 hg3 hgm hat q1 q2 cb0 cb1 cb2 cb3 cb4 cb5 fcb0 fcb1 fcb2 fcb3 fcb4 fcb5 lcb hcP hfP hbk cs0 fcs0 lcs;generalize w3.setCell _ _=w4 at *;go_wp2_with fail;clear z0 z1 z2 z3 z4 z5 z6 y0 y1 y2 y3 y4 y5 y6;simp only[puts]at HZ;generalize World.setCell _ _ _=w5 at *
         go_roundg (N-(i+1))
         case measure=>omega
         case rel=>exact⟨i+1,_,by go_num,by rw[HT.out.1];exact Lib.hid HZ.out.1,Lib.hid (hb3.out.trans HZ.out.2),hi,Nat.le_refl _⟩
     | false =>
       go_wp2_with fail
       go_region_law
        ((refine step_add elVal (by rfl) _ _ (by rfl) (by rfl) ((HKP.out.alloc _).drew) (by have:=hBw;simp;omega) (B:=wc.heap.size) (cs:=#[.int .i64 tk,.string ⟨tt.toArray⟩,.int .i64 tn,.int .i64 td,.bool ti,.bool tid,.slice none 0 0]) (tc:=104) (Blk.new wc _ _) 1 (by rfl) (by rfl) (by simp[Value.oneCell']) (by omega) (by omega) ?_;intro gg cap3 w3 ho3 hg3 hat;have q1:w3.cell? ⟨gs,0,none⟩=some (.slice poa i pc):=(hg3.cell_far _ (by simp;omega) (Ne.symm hneP)).trans ((Below.cell (B:=wc.heap.size) (Below.drew (below_box wc _)) hgsl).trans hcP);have q2:w3.frozen? ⟨gs,0,none⟩=false:=(hg3.frozen_far _ (by simp;omega) (Ne.symm hneP)).trans ((Below.frozen (B:=wc.heap.size) (Below.drew (below_box wc _)) hgsl).trans hfP);have qS:w3.cell? ⟨gS,0,none⟩=some (.slice (some ⟨gs,0,none⟩) 1 1):=(hg3.cell_far _ (by simp;omega) (Ne.symm hneS)).trans ((Below.cell (B:=wc.heap.size) (Below.drew (below_box wc _)) lcs).trans cs0)))
       all_goals
        have hgm:Below wc.heap.size wc (wc.alloc (.cells #[.int .i64 tk,.string ⟨tt.toArray⟩,.int .i64 tn,.int .i64 td,.bool ti,.bool tid,.slice none 0 0] 104)).drew:=Below.drew (below_box wc _)
        have hgne:gg≠gs:=fun e=>by
         have:=blk_apart ((HP.out.bv.below hgm hgsl).keeps hg3 hneP) ho3 (by decide);exact this (by rw[← e];rfl)
        have ho4:=ho3.kept (grownBy_set w3 ⟨gs,0,none⟩ (.slice (some ⟨gg,0,none⟩) (i+1) cap3)) (.inr fun e=>hgne (Option.some.inj e));have HZ:=Lib.hid (Sv.put (t:=⟨tk,tt,(tn,td),ti,tid⟩) HP.out hBw (grownBy_trans (grownBy_of_below hgm _) hg3) (grownBy_refl _ (some gg)) rfl (by rw[HT.out.2.2];exact ho3) (by rw[HT.out.2.2];exact ho4));clear ho3 ho4 hg3 hat hgm q1 q2 qS cb0 cb1 cb2 cb3 cb4 cb5 fcb0 fcb1 fcb2 fcb3 fcb4 fcb5 lcb hcP hfP cs0 fcs0 lcs;generalize w3.setCell _ _=w4 at *;go_wp2_with fail
        go_roundg (N-(i+1))
        case measure=>omega
        case rel=>exact⟨i+1,_,by go_num,by rw[HT.out.1];exact Lib.hid HZ.out.1,Lib.hid (hb3.out.trans HZ.out.2),hi,Nat.le_refl _⟩
  · obtain rfl:i=N:=by omega
    have gi:decide ((i:Int)<(i:Int))=false:=by simp
    have gin:decide (i<i)=false:=by simp
    have hY:Y.take i=Y:=by rw[← HN.out,List.take_length]
    rw[hY]at hK;have cs0:wr.cell? ⟨gS,0,none⟩=some (.slice (some ⟨gs,0,none⟩) 1 1):=(hK.out.bs).cell 0;have fcs0:=(hK.out.bs).frozen 0;have lcs:=(hK.out.bs).lt;have co0:wr.cell? ⟨gO,0,none⟩=some (.slice none 0 0):=(hK.out.bo).cell 0;have fco0:=(hK.out.bo).frozen 0;have lco:=(hK.out.bo).lt;have cv0:wr.cell? ⟨gs,0,none⟩=some (v):=(hK.out.bv).cell 0;have fcv0:=(hK.out.bv).frozen 0;have lcv:=(hK.out.bv).lt;have hrow:=hK.out.row;rw[HN.out]at hrow;have HR:=Lib.hid hrow;clear hrow hY hK;go_wp2_with fail
    go_loopg [] 0 (fun q wx=>wx=wr)
    case atStart=>rfl
    case round =>
     subst hrel;go_wp2_with fail;go_ret;exact⟨_,rfl,HR.out,hb.out⟩
end Go.Proofs.YtnbkbenkhkinoaaGreatDoor
