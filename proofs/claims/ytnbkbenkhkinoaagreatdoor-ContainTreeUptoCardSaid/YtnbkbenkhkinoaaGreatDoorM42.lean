/- Of my texts: TyG, TyH. -/
import Derived.Test.YtnbkbenkhkinoaaGreatDoorM15
import Derived.Test.YtnbkbenkhkinoaaGreatDoorM33
import Derived.Test.YtnbkbenkhkinoaaGreatDoorM34
namespace Go.Proofs.YtnbkbenkhkinoaaGreatDoor
set_option linter.unusedVariables false
set_option linter.unusedSimpArgs false
open Go.RowKit Go.Lib
def cnTk:List Tk:=[cbt,csp,⟨21,[],(0,0),false,false⟩]++cnK++[⟨22,[],(0,0),false,false⟩]
theorem cnTk_values:valuesF cnTk=[.mk cbt [],.mk csp [],cnV]:=by rfl
theorem cnT_plain:plainB cnT:=by unfold plainB cnT;decide
def plC:List Nat:=[0,1,2,3,8,9,10,11,15,16]
section
variable {w:World} {B:Nat} {oa:Option Addr} {cap b o:Nat}
theorem nameC (i e:Nat) (hie:i≤e) (hem:e<16) (h:((List.range e).all fun j=>decide (j<i)||letterI (aF (runeF cnT) j))=true) (hE:letterI (aF (runeF cnT) e)=false) (hE2:escI (aF (runeF cnT) e) (aF (runeF cnT) (e+1))=false):NameIs B oa cap b o (runeF cnT) i (midB cnT i e) e :=
 fun _ hr=>nameS_any hr cnT_plain (by decide) e hie hem (fun j h1 h2=>by
  have:=List.all_eq_true.1 h j (List.mem_range.2 h2);rw[Bool.or_eq_true,decide_eq_true_eq]at this
  exact this.resolve_left (by omega)) hE hE2
theorem cnStep (n:Nat) (hn:n<9):∃ (p q:Nat) (c d e:Int) (J:Nat) (t:Tk),plC[n]?=some p∧plC[n+1]?=some q∧cnTk[n]?=some t∧p<16∧q≤16∧aF (runeF cnT) p=c∧aF (runeF cnT) (p+1)=d∧aF (runeF cnT) (p+2)=e∧c≠47∧c≠-1∧Ny B oa cap b o (runeF cnT) p c d e J t q:=by
 have hw:∀ (i e:Nat) (s:List UInt8),NameIs B oa cap b o (runeF cnT) i s e→aF (runeF cnT) e≠40→∀ w,RAt w B oa cap b o (runeF cnT) i→Calls Tryz.prog 155 #[.pointer (some ⟨B,0,none⟩)] w fun x w'=>x=.returned (tv (tok0 1 s))∧Moved w w' B oa cap b o (runeF cnT) e:=fun _ _ _ h1 h2 _ h=>wordS_any h h1 h2
 have hs:n=0∨n=1∨n=2∨n=3∨n=4∨n=5∨n=6∨n=7∨n=8:=by omega
 rcases hs with rfl|rfl|rfl|rfl|rfl|rfl|rfl|rfl|rfl
 · exact⟨0,1,_,_,_,9,_,rfl,rfl,rfl,by decide,by decide,rfl,rfl,rfl,by decide,by decide,.inr (.inr (.inr (.inr (.inl ⟨.inl (by decide),rfl,hw 0 1 [98] (nameC 0 1 (by decide) (by decide) (by decide) (by decide) (by decide)) (by decide)⟩))))⟩
 · exact⟨1,2,_,_,_,9,_,rfl,rfl,rfl,by decide,by decide,rfl,rfl,rfl,by decide,by decide,.inr (.inr (.inl ⟨by decide,rfl,rfl,by decide⟩))⟩
 · exact⟨2,3,_,_,_,0,_,rfl,rfl,rfl,by decide,by decide,rfl,rfl,rfl,by decide,by decide,.inl ⟨by decide,rfl,rfl,rfl⟩⟩
 · exact⟨3,8,_,_,_,9,_,rfl,rfl,rfl,by decide,by decide,rfl,rfl,rfl,by decide,by decide,.inr (.inr (.inr (.inr (.inl ⟨.inr (by decide),rfl,hw 3 8 [119,105,100,116,104] (nameC 3 8 (by decide) (by decide) (by decide) (by decide) (by decide)) (by decide)⟩))))⟩
 · exact⟨8,9,_,_,_,9,_,rfl,rfl,rfl,by decide,by decide,rfl,rfl,rfl,by decide,by decide,.inr (.inr (.inl ⟨by decide,rfl,rfl,by decide⟩))⟩
 · exact⟨9,10,_,_,_,9,_,rfl,rfl,rfl,by decide,by decide,rfl,rfl,rfl,by decide,by decide,.inr (.inr (.inr (.inr (.inr ⟨by decide,rfl,rfl,rfl⟩))))⟩
 · exact⟨10,11,_,_,_,9,_,rfl,rfl,rfl,by decide,by decide,rfl,rfl,rfl,by decide,by decide,.inr (.inr (.inl ⟨by decide,rfl,rfl,by decide⟩))⟩
 · exact⟨11,15,_,_,_,9,_,rfl,rfl,rfl,by decide,by decide,rfl,rfl,rfl,by decide,by decide,.inr (.inr (.inr (.inl ⟨by decide,rfl,fun _ h=>figureE_any h (by decide) (by decide) (by decide) (by decide) (by decide) (by decide) (nameC 13 15 (by decide) (by decide) (by decide) (by decide) (by decide))⟩)))⟩
 · exact⟨15,16,_,_,_,1,_,rfl,rfl,rfl,by decide,by decide,rfl,rfl,rfl,by decide,by decide,.inr (.inl ⟨by decide,rfl,rfl,rfl⟩)⟩
end
set_option maxRecDepth 20000 in
set_option maxHeartbeats 8000000 in
theorem tokensC_any (oa:Option Addr) (cap b o:Nat) (w:World) (hs:Sl w oa 16 cap b o 1 (runesV (runeF cnT))) (hK:Kd w) :
  Calls Tryz.prog 75 #[.slice oa 16 cap] w fun e w'=>(∃ v,e=.returned v∧Rw w w' 102 6 v cnTk.length (toksV cnTk)):=by
 obtain⟨B,hB⟩:∃ B,w.heap.size=B:=⟨_,rfl⟩
 have hKB:0≠B:=by have:=hK.1;omega
 have hbB:b≠B:=by have:=(hs.lies (by decide)).2;omega
 have HS:=Lib.hid hs;have HK:=Lib.hid hK;clear hs hK
 go_enter Tryz.func75,Tryz.ntmps75
 go_upto_region 3 with fail
 have hblk:=Blk.new w 182 #[.slice oa 16 cap,.int .i64 0];rw[hB]at hblk;have hbw:Below w.heap.size w (w.alloc (.cells #[.slice oa 16 cap,.int .i64 0] 182)):=(Below.refl _ _).alloc (Nat.le_refl _) _;have HR:=Lib.hid (show RAt (w.alloc (.cells #[.slice oa 16 cap,.int .i64 0] 182)) B oa cap b o (runeF cnT) 0 from ⟨hblk,HS.out.below hbw,hbB,by unfold I32;decide,by omega,by decide⟩);have HK1:=Lib.hid (HK.out.below hbw);have HBW:=Lib.hid hbw;clear hblk hbw HS HK;generalize w.alloc _=w1 at *;have hB1:=HR.out.blk.lt;have HM:=Lib.hid (Moved.start HR.out);have hw1:=HBW.out.size
 go_loopg [3] 9 (fun q s3 wr=>∃ (n p:Nat) (v:Value),v=s3∧n≤9∧Hid (plC[n]?=some p)∧Hid (Moved w1 wr B oa cap b o (runeF cnT) p)∧Hid (wr.ownsRow w1.heap.size 102 6 v n (toksV (cnTk.take n)))∧9-n≤q)
 case atStart=>exact⟨0,0,_,rfl,by omega,Lib.hid rfl,HM,Lib.hid (World.ownsRow_nil _ _ _ _),by omega⟩
 case round =>
  clear HM;obtain⟨n,p,v,rfl,hn,hP,hM,hO,hq⟩:=hrel
  by_cases hlt:n<9
  · obtain⟨p',r,c,d,e,J,t,h1,h2,h3,h4,h5,h6,h7,h8,h9,h10,h11⟩:=cnStep (B:=B) (oa:=oa) (cap:=cap) (b:=b) (o:=o) n hlt;obtain rfl:p=p':=Option.some.inj (hP.out.symm.trans h1);have HX1:=Lib.hid (remarkS_any hM.out.rd (by rw[h6];exact h9));have HN:=Lib.hid (fun wx (hx:RAt wx B oa cap b o (runeF cnT) p) (hk:Kd wx)=>nextC_any hx h4 hk hKB h6 h7 h8 h11);have HQ:=Lib.hid h2
    have hst:toksV (cnTk.take (n+1))=toksV (cnTk.take n)++tkcells t:=by
     rw[List.take_add_one,h3];unfold toksV;rw[List.flatMap_append];simp
    have HT:=Lib.hid hst;have H6:=Lib.hid h6
    have gc:(c==-1)=false:=by simpa using h10
    clear h1 h2 h3 h6 h7 h8 h9 h10 h11 hst;go_wp2_with fail
    ((with_reducible refine HX1.out.mono ?_);rintro e w2 ⟨rfl,hmv⟩)
    have HM2:=Lib.hid (hM.out.next hmv);have HO2:=Lib.hid (owns_moved hO.out hmv.gb hB1);clear hM hO hmv HX1;have hA:=at0_any HM2.out.rd;rw[H6.out]at hA;have HA:=Lib.hid hA;clear hA H6;go_wp2_with fail;go_wp2_with fail
    ((with_reducible refine(HA.out).mono ?_);rintro e w' ⟨rfl,hbw⟩)
    obtain⟨m,rfl⟩:=grow_mk hbw;clear hbw;have HM3:=Lib.hid (HM2.out.grow m);have HO3:=Lib.hid (owns_grow HO2.out m);clear HM2 HO2 HA;generalize grow _ m=w3 at *;have hx:=HN.out _ HM3.out.rd (HK1.out.grown HM3.out.gb (by simpa using hKB));obtain⟨uk,ut,⟨un,ud⟩,ui,uid⟩:=t;simp only[tv]at hx;have HX2:=Lib.hid hx;clear hx HN;go_wp2_with fail
    ((with_reducible refine HX2.out.mono ?_);rintro e w4 ⟨rfl,hmv⟩)
    have HM4:=Lib.hid (HM3.out.next hmv);have HO4:=Lib.hid (owns_moved HO3.out hmv.gb hB1);have hsz4:=HM4.out.gb.size;clear hmv HM3 HO3 HX2;go_wp2_with (at_builtin;refine wpList_put elTok rfl _ _ rfl rfl HO4.out (by omega) 1 1 #[.int .i64 uk,.string ⟨ut.toArray⟩,.int .i64 un,.int .i64 ud,.bool ui,.bool uid] _ rfl rfl (by simp[Value.oneCell']) (by omega) (by omega) (by omega) ?_;intro g2 cap2 w5 hR2 hg2 hr2;have HM5:=Lib.hid (HM4.out.push HR.out hg2 hr2);have HO5:=Lib.hid hR2;clear hR2 hg2 hr2 HM4 HO4)
    go_roundg (gk-1)
    case measure=>omega
    case rel=>exact⟨n+1,r,_,rfl,by omega,HQ,HM5,Lib.hid (by have:=HO5.out;rw[HT.out];simpa[tkcells] using this),by omega⟩
  · obtain rfl:n=9:=by omega
    obtain rfl:p=16:=by have:=hP.out;exact(Option.some.inj this).symm
    have HX1:=Lib.hid (remarkS_any hM.out.rd (by decide));go_wp2_with fail
    ((with_reducible refine HX1.out.mono ?_);rintro e w2 ⟨rfl,hmv⟩)
    have HM2:=Lib.hid (hM.out.next hmv);have HO2:=Lib.hid (owns_moved hO.out hmv.gb hB1);clear hM hO hmv HX1;have HA:=Lib.hid (show Calls Tryz.prog 107 #[.pointer (some ⟨B,0,none⟩),.int .i64 0] w2 fun e w'=>e=.returned (.int .i32 (-1))∧Below w2.heap.size w2 w' from at0_any HM2.out.rd);go_wp2_with fail;go_wp2_with fail
    ((with_reducible refine(HA.out).mono ?_);rintro e w' ⟨rfl,hbw⟩)
    obtain⟨m,rfl⟩:=grow_mk hbw;clear hbw;have HM3:=Lib.hid (HM2.out.grow m);have HO3:=Lib.hid (owns_grow HO2.out m);go_wp2_with fail;go_ret;exact⟨_,rfl,below_far HBW.out HM3.out.gb (fun k hk=>by cases hk;omega),owns_low HO3.out hw1⟩
set_option maxHeartbeats 4000000 in
theorem ofC_any (w:World) (hK:Kd w) (h64:∀ t∈cnTk,Tk64 t) :
  Calls Tryz.prog 31 #[.string ⟨cnT.toArray⟩] w fun e w'=>(∃ v,e=.returned v∧∃ h,isVs (· < w.heap.size) h (valuesF cnTk) v w')∧Below w.heap.size w w':=by
 obtain⟨cap,w1,hrun,hb1,hsl⟩:=conv_bytes cnT w (by unfold maxLen;decide);have HD:=Lib.hid (decodeS_any cnT _ cap w.heap.size 0 w1 hsl cnT_plain (by decide) (by decide));have HT:=Lib.hid (fun oa c b o w hs hk=>tokensC_any oa c b o w hs hk);have HV:=Lib.hid (fun oa c b o w hs=>values_any cnTk oa c b o w hs h64 (by decide));have HB1:=Lib.hid hb1;have HK:=Lib.hid (hK.below hb1)
 have hbytes:Calls Tryz.prog 52 #[.slice (some ⟨w.heap.size,0,none⟩) cnT.length cap] w1 fun e w'=>(∃ v,e=.returned v∧Rw w1 w' 102 6 v cnTk.length (toksV cnTk)):=by
  clear hb1 hsl hrun HV HB1 h64 hK
  go_enter Tryz.func52,Tryz.ntmps52
  go_wp2_with fail
  ((with_reducible refine HD.out.mono ?_);rintro e w2 ⟨v,rfl,hR⟩)
  obtain⟨ya,yc,yb,rfl,hsl,_⟩:=hR.sl;have hbw:=hR.below;have HT:=Lib.hid (show Calls Tryz.prog 75 #[.slice ya cnT.length yc] w2 _ from HT.out ya yc yb 0 w2 hsl (HK.out.below hbw));clear hR hsl HD;go_wp2_with fail
  ((with_reducible refine HT.out.mono ?_);rintro e w3 ⟨v,rfl,hR⟩)
  go_wp2_with fail;go_ret;exact⟨_,rfl,hR.base hbw⟩
 have HB:=Lib.hid hbytes;clear hb1 hsl hK hbytes HD HT h64;generalize cnTk=T at *
 go_enter Tryz.func31,Tryz.ntmps31
 go_wp2_with fail
 ((with_reducible refine HB.out.mono ?_);rintro e w2 ⟨v,rfl,hR⟩)
 obtain⟨ya,yc,yb,rfl,hsl,_⟩:=hR.sl;have HB2:=Lib.hid (below_far HB1.out (grownBy_of_below hR.below none) (fun _ e=>by cases e));have HV2:=Lib.hid (HV.out ya yc yb 0 w2 hsl);clear hR hsl HB HV;go_wp2_with fail
 ((with_reducible refine HV2.out.mono ?_);rintro e w3 ⟨⟨v,rfl,h,hv⟩,hb3⟩)
 have HBF:=Lib.hid (below_far HB2.out (grownBy_of_below hb3 none) (fun _ e=>by cases e));have HVV:=Lib.hid (hv.anti (A':=(· < w.heap.size)) fun b hb=>Or.inl (by have:=HB2.out.size;have hb:b<w.heap.size:=hb;show b<w2.heap.size;omega));clear hv hb3 HV2;go_wp2_with fail;go_ret;exact⟨⟨_,rfl,h,HVV.out⟩,HBF.out⟩
end Go.Proofs.YtnbkbenkhkinoaaGreatDoor
