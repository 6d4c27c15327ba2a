/- Of my texts: TxG, TxH. -/
import Derived.Test.YtnanffmhbjdpaaaGreatDoorM00
import Derived.Test.YtnanffmhbjdpaaaGreatDoorM12
import Derived.Test.YtnanffmhbjdpaaaGreatDoorM22
import Derived.Test.YtnanffmhbjdpaaaGreatDoorM27
namespace Go.Proofs.YtnanffmhbjdpaaaGreatDoor
set_option maxHeartbeats 8000000
set_option maxRecDepth 20000
set_option linter.unusedVariables false
set_option linter.unusedSimpArgs false
open Go.RowKit Go.Lib
def Bk:List Tk:=[He,tsp,Cw,tsp,⟨21,[],(0,0),false,false⟩]++awK++[⟨22,[],(0,0),false,false⟩]
theorem Ah:Hk Bk=[.mk He [],.mk tsp [],.mk Cw [],.mk tsp [],An]:=by rfl
theorem Oq:Y5 Hi:=by unfold Y5 Hi;decide
def plA:List Nat:=[0,6,7,10,11,12,21,22,23,28,29]
section
variable {w:World} {B:Nat} {oa:Option Addr} {cap b o:Nat}
theorem Q0d (i e:Nat) (hie:i≤e) (hem:e<29) (h:((List.range e).all fun j=>decide (j<i)||Dy (aF (J7 Hi) j))=true) (hE:Dy (aF (J7 Hi) e)=false) (hE2:Su (aF (J7 Hi) e) (aF (J7 Hi) (e+1))=false):Ff B oa cap b o (J7 Hi) i (Hf Hi i e) e :=
 fun _ hr=>Q22 hr Oq (by decide) e hie hem (fun j h1 h2=>by
  have:=List.all_eq_true.1 h j (List.mem_range.2 h2);rw[Za,decide_eq_true_eq]at this
  exact this.resolve_left (by omega)) hE hE2
theorem Q7w (n:Nat) (hn:n<10):∃ (p q:Nat) (c d e:Int) (J:Nat) (t:Tk),plA[n]?=some p∧plA[n+1]?=some q∧Bk[n]?=some t∧p<29∧q≤29∧aF (J7 Hi) p=c∧aF (J7 Hi) (p+1)=d∧aF (J7 Hi) (p+2)=e∧c≠47∧c≠-1∧Nx B oa cap b o (J7 Hi) p c d e J t q:=by
 have hw:∀ (i e:Nat) (s:List UInt8),Ff B oa cap b o (J7 Hi) i s e→aF (J7 Hi) e≠40→∀ w,Gx w B oa cap b o (J7 Hi) i→Calls Tryz.prog 124 #[.pointer (some ⟨B,0,none⟩)] w fun x w'=>x=.returned (tv (L6 1 s))∧Jb w w' B oa cap b o (J7 Hi) e:=fun _ _ _ h1 h2 _ h=>Q0t h h1 h2
 have hs:n=0∨n=1∨n=2∨n=3∨n=4∨n=5∨n=6∨n=7∨n=8∨n=9:=by omega
 rcases hs with rfl|rfl|rfl|rfl|rfl|rfl|rfl|rfl|rfl|rfl
 · exact⟨0,6,_,_,_,9,_,rfl,rfl,rfl,by decide,by decide,rfl,rfl,rfl,by decide,by decide,.inr (.inr (.inr (.inr (.inr ⟨.inl (by decide),rfl,hw 0 6 P0 (Q0d 0 6 (by decide) (by decide) (by decide) (by decide) (by decide)) (by decide)⟩))))⟩
 · exact⟨6,7,_,_,_,9,_,rfl,rfl,rfl,by decide,by decide,rfl,rfl,rfl,by decide,by decide,.inr (.inr (.inr (.inl ⟨by decide,rfl,rfl,by decide⟩)))⟩
 · exact⟨7,10,_,_,_,9,_,rfl,rfl,rfl,by decide,by decide,rfl,rfl,rfl,by decide,by decide,.inr (.inr (.inr (.inr (.inr ⟨.inr (.inl (by decide)),rfl,hw 7 10 [97,110,100] (Q0d 7 10 (by decide) (by decide) (by decide) (by decide) (by decide)) (by decide)⟩))))⟩
 · exact⟨10,11,_,_,_,9,_,rfl,rfl,rfl,by decide,by decide,rfl,rfl,rfl,by decide,by decide,.inr (.inr (.inr (.inl ⟨by decide,rfl,rfl,by decide⟩)))⟩
 · exact⟨11,12,_,_,_,0,_,rfl,rfl,rfl,by decide,by decide,rfl,rfl,rfl,by decide,by decide,.inl ⟨by decide,rfl,rfl,rfl⟩⟩
 · exact⟨12,21,_,_,_,9,_,rfl,rfl,rfl,by decide,by decide,rfl,rfl,rfl,by decide,by decide,.inr (.inr (.inr (.inr (.inr ⟨.inr (.inr (by decide)),rfl,hw 12 21 [109,105,110,45,119,105,100,116,104] (Q0d 12 21 (by decide) (by decide) (by decide) (by decide) (by decide)) (by decide)⟩))))⟩
 · exact⟨21,22,_,_,_,7,_,rfl,rfl,rfl,by decide,by decide,rfl,rfl,rfl,by decide,by decide,.inr (.inr (.inl ⟨by decide,rfl,rfl,rfl⟩))⟩
 · exact⟨22,23,_,_,_,9,_,rfl,rfl,rfl,by decide,by decide,rfl,rfl,rfl,by decide,by decide,.inr (.inr (.inr (.inl ⟨by decide,rfl,rfl,by decide⟩)))⟩
 · exact⟨23,28,_,_,_,9,_,rfl,rfl,rfl,by decide,by decide,rfl,rfl,rfl,by decide,by decide,.inr (.inr (.inr (.inr (.inl ⟨by decide,rfl,fun _ h=>St h (by decide) (by decide) (by decide) (by decide) (by decide) (by decide) (Q0d 26 28 (by decide) (by decide) (by decide) (by decide) (by decide))⟩))))⟩
 · exact⟨28,29,_,_,_,1,_,rfl,rfl,rfl,by decide,by decide,rfl,rfl,rfl,by decide,by decide,.inr (.inl ⟨by decide,rfl,rfl,rfl⟩)⟩
end
theorem Rm (oa:Option Addr) (cap b o:Nat) (w:World) (hs:Sl w oa 29 cap b o 1 (Vo (J7 Hi))) (hK:Kd w) :
  Calls Tryz.prog 42 #[.slice oa 29 cap] w fun e w'=>(∃ v,e=.returned v∧Rw w w' 25 6 v Bk.length (Kh Bk)):=by
 obtain⟨B,hB⟩:∃ B,w.heap.size=B:=⟨_,rfl⟩
 have hKB:0≠B:=by have:=hK.1;omega
 have hbB:b≠B:=by have:=(hs.lies (by decide)).2;omega
 have HS:=Q1 hs;have HK:=Q1 hK;clear hs hK
 go_enter Tryz.func42,Tryz.ntmps42
 go_upto_region 3 with fail
 have hblk:=Ql.new w 112 #[.slice oa 29 cap,.int .i64 0];rw[hB]at hblk;have hbw:Below w.heap.size w (w.alloc (.cells #[.slice oa 29 cap,.int .i64 0] 112)):=(Below.refl _ _).alloc (Q6 _) _;have HR:=Q1 (show Gx (w.alloc (.cells #[.slice oa 29 cap,.int .i64 0] 112)) B oa cap b o (J7 Hi) 0 from ⟨hblk,HS.out.below hbw,hbB,by unfold I32;decide,by omega,by decide⟩);have HK1:=Q1 (HK.out.below hbw);have HBW:=Q1 hbw;clear hblk hbw HS HK;generalize w.alloc _=w1 at *;have hB1:=HR.out.blk.lt;have HM:=Q1 (Jb.start HR.out);have hw1:=HBW.out.size
 go_loopg [3] 10 (fun q s3 wr=>∃ (n p:Nat) (v:Value),v=s3∧n≤10∧Hid (plA[n]?=some p)∧Hid (Jb w1 wr B oa cap b o (J7 Hi) p)∧Hid (wr.ownsRow w1.heap.size 25 6 v n (Kh (Bk.take n)))∧10-n≤q)
 case atStart=>exact⟨0,0,_,rfl,by omega,Q1 rfl,HM,Q1 (World.ownsRow_nil _ _ _ _),by omega⟩
 case round =>
  clear HM;obtain⟨n,p,v,rfl,hn,hP,hM,hO,hq⟩:=hrel
  by_cases hlt:n<10
  · obtain⟨p',r,c,d,e,J,t,h1,h2,h3,h4,h5,h6,h7,h8,h9,h10,h11⟩:=Q7w (B:=B) (oa:=oa) (cap:=cap) (b:=b) (o:=o) n hlt;obtain rfl:p=p':=Q8 (hP.out.symm.trans h1);have HX1:=Q1 (Fl hM.out.rd (by rw[h6];exact h9));have HN:=Q1 (fun wx (hx:Gx wx B oa cap b o (J7 Hi) p) (hk:Kd wx)=>Q20 hx h4 hk hKB h6 h7 h8 h11);have HQ:=Q1 h2
    have hst:Kh (Bk.take (n+1))=Kh (Bk.take n)++U1 t:=by
     rw[List.take_add_one,h3];unfold Kh;rw[List.flatMap_append];simp
    have HT:=Q1 hst;have H6:=Q1 h6
    have gc:(c==-1)=false:=by simpa using h10
    clear h1 h2 h3 h6 h7 h8 h9 h10 h11 hst;go_wp2_with fail
    ((with_reducible refine HX1.out.mono ?_);rintro e w2 ⟨rfl,hmv⟩)
    have HM2:=Q1 (hM.out.next hmv);have HO2:=Q1 (V9 hO.out hmv.gb hB1);clear hM hO hmv HX1;have hA:=Xg HM2.out.rd;rw[H6.out]at hA;have HA:=Q1 hA;clear hA H6;go_wp2_with fail;go_wp2_with fail
    ((with_reducible refine(HA.out).mono ?_);rintro e w' ⟨rfl,hbw⟩)
    obtain⟨m,rfl⟩:=Qf hbw;clear hbw;have HM3:=Q1 (HM2.out.grow m);have HO3:=Q1 (G5 HO2.out m);clear HM2 HO2 HA;generalize grow _ m=w3 at *;have hx:=HN.out _ HM3.out.rd (HK1.out.grown HM3.out.gb (by simpa using hKB));obtain⟨uk,ut,⟨un,ud⟩,ui,uid⟩:=t;simp only[tv]at hx;have HX2:=Q1 hx;clear hx HN;go_wp2_with fail
    ((with_reducible refine HX2.out.mono ?_);rintro e w4 ⟨rfl,hmv⟩)
    have HM4:=Q1 (HM3.out.next hmv);have HO4:=Q1 (V9 HO3.out hmv.gb hB1);have hsz4:=HM4.out.gb.size;clear hmv HM3 HO3 HX2;go_wp2_with (at_builtin;refine Hq Q6v rfl _ _ rfl rfl HO4.out (by omega) 1 1 #[.int .i64 uk,.string ⟨ut.toArray⟩,.int .i64 un,.int .i64 ud,.bool ui,.bool uid] _ rfl rfl (by simp[Value.oneCell']) (by omega) (by omega) (by omega) ?_;intro g2 cap2 w5 hR2 hg2 hr2;have HM5:=Q1 (HM4.out.push HR.out hg2 hr2);have HO5:=Q1 hR2;clear hR2 hg2 hr2 HM4 HO4)
    go_roundg (gk-1)
    case measure=>omega
    case rel=>exact⟨n+1,r,_,rfl,by omega,HQ,HM5,Q1 (by have:=HO5.out;rw[HT.out];simpa[U1] using this),by omega⟩
  · obtain rfl:n=10:=by omega
    obtain rfl:p=29:=by have:=hP.out;exact(Q8 this).symm
    have HX1:=Q1 (Fl hM.out.rd (by decide));go_wp2_with fail
    ((with_reducible refine HX1.out.mono ?_);rintro e w2 ⟨rfl,hmv⟩)
    have HM2:=Q1 (hM.out.next hmv);have HO2:=Q1 (V9 hO.out hmv.gb hB1);clear hM hO hmv HX1;have HA:=Q1 (show Calls Tryz.prog 83 #[.pointer (some ⟨B,0,none⟩),.int .i64 0] w2 fun e w'=>e=.returned (.int .i32 (-1))∧Below w2.heap.size w2 w' from Xg HM2.out.rd);go_wp2_with fail;go_wp2_with fail
    ((with_reducible refine(HA.out).mono ?_);rintro e w' ⟨rfl,hbw⟩)
    obtain⟨m,rfl⟩:=Qf hbw;clear hbw;have HM3:=Q1 (HM2.out.grow m);have HO3:=Q1 (G5 HO2.out m);go_wp2_with fail;go_ret;exact⟨_,rfl,Qu HBW.out HM3.out.gb (fun k hk=>by cases hk;omega),Q44 HO3.out hw1⟩
theorem Q61 (w:World) (hK:Kd w) (h64:∀ t∈Bk,Bo t) :
  Calls Tryz.prog 31 #[.string ⟨Hi.toArray⟩] w fun e w'=>(∃ v,e=.returned v∧∃ h,Us (· < w.heap.size) h (Hk Bk) v w')∧Below w.heap.size w w':=by
 obtain⟨cap,w1,hrun,hb1,hsl⟩:=Ti Hi w (by unfold maxLen;decide);have HD:=Q1 (Sz Hi _ cap w.heap.size 0 w1 hsl Oq (by decide) (by decide));have HT:=Q1 (fun oa c b o w hs hk=>Rm oa c b o w hs hk);have HV:=Q1 (fun oa c b o w hs=>Ar Bk oa c b o w hs h64 (by decide));have HB1:=Q1 hb1;have HK:=Q1 (hK.below hb1)
 have hbytes:Calls Tryz.prog 13 #[.slice (some ⟨w.heap.size,0,none⟩) Hi.length cap] w1 fun e w'=>(∃ v,e=.returned v∧Rw w1 w' 25 6 v Bk.length (Kh Bk)):=by
  clear hb1 hsl hrun HV HB1 h64 hK
  go_enter Tryz.func13,Tryz.ntmps13
  go_wp2_with fail
  ((with_reducible refine HD.out.mono ?_);rintro e w2 ⟨v,rfl,hR⟩)
  obtain⟨ya,yc,yb,rfl,hsl,_⟩:=hR.sl;have hbw:=hR.below;have HT:=Q1 (show Calls Tryz.prog 42 #[.slice ya Hi.length yc] w2 _ from HT.out ya yc yb 0 w2 hsl (HK.out.below hbw));clear hR hsl HD;go_wp2_with fail
  ((with_reducible refine HT.out.mono ?_);rintro e w3 ⟨v,rfl,hR⟩)
  go_wp2_with fail;go_ret;exact⟨_,rfl,hR.base hbw⟩
 have HB:=Q1 hbytes;clear hb1 hsl hK hbytes HD HT h64;generalize Bk=T at *
 go_enter Tryz.func31,Tryz.ntmps31
 go_wp2_with fail
 ((with_reducible refine HB.out.mono ?_);rintro e w2 ⟨v,rfl,hR⟩)
 obtain⟨ya,yc,yb,rfl,hsl,_⟩:=hR.sl;have HB2:=Q1 (Qu HB1.out (Qc hR.below none) (fun _ e=>by cases e));have HV2:=Q1 (HV.out ya yc yb 0 w2 hsl);clear hR hsl HB HV;go_wp2_with fail
 ((with_reducible refine HV2.out.mono ?_);rintro e w3 ⟨⟨v,rfl,h,hv⟩,hb3⟩)
 have HBF:=Q1 (Qu HB2.out (Qc hb3 none) (fun _ e=>by cases e));have HVV:=Q1 (hv.anti (A':=(· < w.heap.size)) fun b hb=>Or.inl (by have:=HB2.out.size;have hb:b<w.heap.size:=hb;show b<w2.heap.size;omega));clear hv hb3 HV2;go_wp2_with fail;go_ret;exact⟨⟨_,rfl,h,HVV.out⟩,HBF.out⟩
end Go.Proofs.YtnanffmhbjdpaaaGreatDoor
