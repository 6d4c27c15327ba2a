/- Of my texts: DtM. -/
import Derived.Test.YtnbkbenkhkinoaaGreatDoorM04
import Derived.Test.YtnbkbenkhkinoaaGreatDoorM08
import Derived.Test.YtnbkbenkhkinoaaGreatDoorM26
import Derived.Test.YtnbkbenkhkinoaaGreatDoorM36
import Derived.Test.YtnbkbenkhkinoaaGreatDoorM37
namespace Go.Proofs.YtnbkbenkhkinoaaGreatDoor
set_option linter.unusedVariables false
set_option linter.unusedSimpArgs false
open Go.RowKit Go.Maps
def Nu (tB mb:Nat) (ms:List Me):Prop:=mb<tB∧∀ (i:Nat) (e:Me),ms[i]?=some e→tB<e.g∧∀ p,e.ks.oa=some p→tB<p.block
theorem Like.snoc {ms els:List Me} {e f:Me} {i:Nat} (h:Like ms (els.take i)) (hf:els[i]?=some f) (he:sh e=sh f):Like (ms++[e]) (els.take (i+1)):=by
 have h:ms.map sh=(els.take i).map sh:=h;show (ms++[e]).map sh=(els.take (i+1)).map sh;rw[List.take_add_one,hf,List.map_append,List.map_append,h];simp[he]
theorem Par.take {els:List Me} (h:Par els) (n:Nat):Par (els.take n):=fun i e he=>by
 rw[List.getElem?_take]at he;split at he
 · exact h i e he
 · cases he
section
variable {κ:Nat→Int} {w w3:World} {tB mb:Nat} {rt nx:Int} {ms:List Me} {e:Me}
theorem Nu.vb (hn:Nu tB mb ms) (h:Vw κ w tB mb rt nx ms):VB tB mb w.heap.size ms:=by
 have ht:=h.tree.lt;have h0:=hn.1;refine⟨⟨ht,by omega,by omega⟩,fun i e he=>?_⟩;obtain⟨h1,h2⟩:=hn.2 i e he;exact⟨(h.el i e he).1.lt,by omega,fun p hp=>⟨(h.el i e he).2.lt hp,by have:=h2 p hp;omega⟩⟩
theorem Vw.nxt (h:Vw κ w tB mb rt nx ms) (hb:VB tB mb w.heap.size ms) (x:Int):Vw κ (w.setCell ⟨tB,2,none⟩ (.int .i64 x)) tB mb rt x ms:=by
 obtain⟨D,hD,hm⟩:=h.map;have hg:=grownBy_set w ⟨tB,2,none⟩ (.int .i64 x);refine⟨(h.tree.put 2 _).to rfl,⟨D,hD,hm.kept hg (fun e=>hb.lt.2.2 (Option.some.inj e).symm)⟩,fun i e he=>?_,h.par,h.small,h.bnd,h.inj⟩;have h1:=hb.el i e he;exact⟨(hg.block e.g (h.el i e he).1.lt (fun e2=>h1.2.1 (Option.some.inj e2))).trans (h.el i e he).1,(h.el i e he).2.old fun p hp hl=>hg.block _ hl (fun e2=>(h1.2.2 p hp).2 (Option.some.inj e2))⟩
theorem Vw.snoc (h:Vw κ w tB mb rt nx ms) (hn:Nu tB mb ms) (hE:Blk w e.g 57 (kcells κ ms.length e).toArray) (hK:KV w e.ks.oa e.ks.n e.ks.cap (e.ks.l.map κ)) (hlo:tB<e.g∧∀ p,e.ks.oa=some p→tB<p.block)
  (hg:w.grownBy w3 (some mb)) (hm:∃ D,MapK κ D (ms.map Me.g++[e.g])∧w3.ownsMap Tryz.prog 3 ptrE mb (ms.length+1) D) (hpar:Par (ms++[e])) (hsm:ms.length+1≤41) (hb:∀ i,i<ms.length+1→0≤κ i∧κ i≤1000000) :
  Vw κ w3 tB mb rt nx (ms++[e])∧Nu tB mb (ms++[e]):=by
 obtain⟨D,hD,hm⟩:=hm
 have hlen:(ms++[e]).length=ms.length+1:=by rw[List.length_append,List.length_singleton]
 have hne:∀ k,tB<k→some k≠some mb:=fun k hk e=>by have:=Option.some.inj e;have:=hn.1;omega
 refine⟨⟨(hg.block tB h.tree.lt (fun e=>by have:=Option.some.inj e;have:=hn.1;omega)).trans h.tree,⟨D,by rw[List.map_append];exact hD,by rw[hlen];exact hm⟩,fun i f hf=>?_,hpar,by rw[hlen];exact hsm,by rw[hlen];exact hb,h.inj⟩,hn.1,fun i f hf=>?_⟩
 · rcases snoc_at hf with hf|⟨rfl,rfl⟩
   · obtain⟨h1,h2⟩:=h.el i f hf;obtain⟨h3,h4⟩:=hn.2 i f hf;exact⟨(hg.block _ h1.lt (hne _ h3)).trans h1,h2.old fun p hp hl=>hg.block _ hl (hne _ (h4 p hp))⟩
   · exact⟨(hg.block _ hE.lt (hne _ hlo.1)).trans hE,hK.old fun p hp hl=>hg.block _ hl (hne _ (hlo.2 p hp))⟩
 · rcases snoc_at hf with hf|⟨rfl,rfl⟩
   · exact hn.2 i f hf
   · exact hlo
end
set_option maxRecDepth 20000 in
set_option maxHeartbeats 16000000 in
theorem load_any {κ:Nat→Int} {w:World} {W b cap:Nat} {R:List Er} {els:List Me} (hL:Lr w W b R) (hR:R.length=els.length) (hI:IsK κ els R) (hG:Good els) (hel:∀ (i:Nat) (e:Me),els[i]?=some e→e.tag.length≤9223372036854775807∧Bx64 e.bx) (hsm:els.length≤41)
  (hc:els.length≤cap∧cap≤maxLen) (hb:∀ i,i<els.length→0≤κ i∧κ i≤1000000) (hmono:∀ i j,i<j→κ i < κ j) :
  Calls Tryz.prog 15 #[.slice (some ⟨b,0,none⟩) els.length cap] w fun x w'=>(∃ (tB mb:Nat) (nx:Int) (ms:List Me),x=.returned (.tuple #[.pointer (some ⟨tB,0,none⟩),.int .i64 0])∧Vw κ w' tB mb (κ 0) nx ms∧Like ms els)∧Below w.heap.size w w':=by
 have hinj:∀ i j,κ i=κ j→i=j:=fun i j e=>by
  rcases Nat.lt_trichotomy i j with h|h|h
  · have:=hmono i j h;omega
  · exact h
  · have:=hmono j i h;omega
 have hpos:=hG.pos;have HMM:=@run_makeMap Tryz.prog;have HL:=Lib.hid hL;have HI:=Lib.hid (And.intro hR hI);have HG:=Lib.hid hG;have HEL:=Lib.hid hel;have HBN:=Lib.hid hb;have HMO:=Lib.hid (And.intro hmono hinj);have HC:=Lib.hid hc;obtain⟨N,hN⟩:∃ N,els.length=N:=⟨_,rfl⟩;rw[hN]at hpos hsm ⊢;have HN:=Lib.hid hN
 have gN0:((N:Int)==0)=false:=by simp;omega
 have gN1:decide ((256:Int)<(N:Int))=false:=by simp;omega
 have hbm:=below_box w (.map #[] 0);have hmk:=World.ownsMap_made w Tryz.prog 3 ptrE;obtain⟨ht,hb2⟩:=box_new' (w.alloc (.map #[] 0)) 78 #[.map (some w.heap.size),.int .i64 0,.int .i64 0];have hmk2:=hmk.kept (grownBy_of_below hb2 none) (fun e=>by cases e)
 have hs1:(w.alloc (.map #[] 0)).heap.size=w.heap.size+1:=by simp
 rw[hs1]at ht;obtain⟨mb,hmb⟩:∃ mb,w.heap.size=mb:=⟨_,rfl⟩;rw[hmb]at hmk2 ht;have HV0:=Lib.hid (show Vw κ _ (mb+1) mb 0 0 [] from ⟨ht,⟨_,MapK.nil κ,hmk2⟩,fun i e he=>by simp at he,fun i e he=>by simp at he,Nat.zero_le _,fun i hi=>absurd hi (Nat.not_lt_zero _),hinj⟩);have HB0:=Lib.hid (show Below w.heap.size w _ from (bfH' (Lib.hid hbm) hb2).out);have HMB:=Lib.hid hmb;clear hL hR hI hG hel hb hmono hinj hc hN hbm hmk ht hb2 hmk2 hs1
 go_enter Tryz.func15,Tryz.ntmps15
 go_upto_region 6 with fail
 try simp only[hmb]
 rw[hmb]at HB0;clear hmb;generalize World.alloc (World.alloc w _) _=wa at *;rw[← HMB.out]at HB0
 go_upto_block 0 with fail
 go_cut [5] (fun s5 wx=>∃ (ms:List Me),s5=.int .i64 (κ (N-1))∧Hid (Below w.heap.size w wx)∧Hid (Vw κ wx (mb+1) mb 0 0 ms∧Nu (mb+1) mb ms)∧Hid (Like ms els))
 case first =>
  go_wp2_with fail
  go_loopg [5,22] N (fun q s5 s22 wr=>∃ (i:Nat) (ms:List Me) (last:Int),s5=.int .i64 last∧s22=.int .i64 (i:Int)∧Hid (last=if i=0 then -1 else κ (i-1))∧Hid (Below w.heap.size w wr)∧Hid (Vw κ wr (mb+1) mb 0 0 ms∧Nu (mb+1) mb ms)∧Hid (ms.length=i∧Like ms (els.take i))∧i≤N∧N-i≤q)
  case atStart=>exact⟨0,[],-1,rfl,rfl,Lib.hid rfl,HB0,Lib.hid ⟨HV0.out,Nat.lt_succ_self _,fun i e he=>by simp at he⟩,Lib.hid ⟨rfl,by rw[List.take_zero];rfl⟩,Nat.zero_le _,Nat.le_refl _⟩
  case round =>
   clear HV0 HB0;obtain⟨i,ms,last,rfl,rfl,HLA,HB,HV,HLK,hiN,hq⟩:=hrel
   by_cases hi:i<N
   · have gi:decide ((i:Int)<(N:Int))=true:=by simpa using hi
     have gin:decide (i<N)=true:=by simpa using hi
     have hil:i<els.length:=by rw[HN.out];exact hi
     obtain⟨⟨pa,tg,⟨bt,bn,⟨wn,wd⟩,⟨hn,hd⟩⟩,ge,⟨kn,kc,ka,kb,kl⟩⟩,hf⟩:∃ f,els[i]?=some f:=⟨_,List.getElem?_eq_getElem hil⟩;obtain⟨r,hr⟩:∃ r,R[i]?=some r:=⟨_,List.getElem?_eq_getElem (by rw[HI.out.1];exact hil)⟩;obtain⟨i1,i2,i3,i4,i5⟩:=HI.out.2 i _ r hf hr;obtain⟨g1,g2,g3,g4⟩:=HG.out.el i _ hf;obtain⟨q1,q2⟩:=HEL.out i _ hf;have hbn:=HBN.out i hil;have hLr:=HL.out.below HB.out;have hkv:=(hLr.ak.kv i r hr).1
     have hw:=fun wx=>wrong_any (κ i) (piK κ pa) last tg r.a r.m r.c bt bn wn wd hn hd wx hbn.1 (by omega) (by
      rw[HLA.out];split
      · omega
      · exact HMO.out.1 _ _ (by omega)) g1 q1 g2 q2
     obtain⟨rid,rpa,rtg,rbx,ra,rm,rc,rl⟩:=r;simp only at i1 i2 i3 i4 i5;subst i1 i2 i3 i4 i5;simp only at hw;obtain⟨c0,c1,c2,c3,c4,c5,c6,c7,c8,c9,c10⟩:=hLr.el11 hr;have lb:=hLr.lt;have hpc:=hf;have HX:=Lib.hid (And.intro hf hbn);have HW:=Lib.hid hw;have HKV:=Lib.hid hkv;have hcc:=HC.out
     have gic:i<cap:=by omega
     clear hf hr hw hkv hLr g1 g2 g3 g4 q1 q2 hbn hpc hil hcc
     go_upto_region 10 with fail
     obtain⟨h7,hb7⟩:=box_new' wr 57 #[.int .i64 (κ i),.int .i64 (piK κ pa),.string ⟨rtg.toArray⟩,.slice ra rm rc,.slice none 0 0,.int .i64 bt,.string ⟨bn.toArray⟩,.int .i64 wn,.int .i64 wd,.int .i64 hn,.int .i64 hd];obtain⟨g7,hg7⟩:∃ g7,wr.heap.size=g7:=⟨_,rfl⟩;have HV7:=Lib.hid (And.intro (HV.out.1.below hb7) HV.out.2);have HB7:=bfH' HB hb7;have htl:=HV.out.1.tree.lt;have HK7:=Lib.hid (HKV.out.below hb7);rw[hg7]at h7 htl;have H7:=Lib.hid h7
     try simp only[hg7]
     clear c0 c1 c2 c3 c4 c5 c6 c7 c8 c9 c10 lb hb7 h7 HKV hg7 HV HB;generalize World.alloc wr _=w7 at *;obtain⟨z0,fz0,z1,fz1,z2,fz2,z3,fz3,z4,fz4,z5,fz5,z6,fz6,z7,fz7,z8,fz8,z9,fz9,z10,fz10,lz⟩:=H7.out.el11;go_wp2_with fail
     ((with_reducible refine(HW.out _).mono ?_);rintro e w8 ⟨rfl,hb8⟩)
     have HV8:=Lib.hid (And.intro (HV7.out.1.below hb8) HV7.out.2);have HB8:=bfH' HB7 hb8;have HK8:=Lib.hid (HK7.out.below hb8);have H8:=Lib.hid (H7.out.below hb8 H7.out.lt);clear z0 fz0 z1 fz1 z2 fz2 z3 fz3 z4 fz4 z5 fz5 z6 fz6 z7 fz7 z8 fz8 z9 fz9 z10 fz10 lz hb8 HV7 HB7 HK7 H7 HW;obtain⟨z0,fz0,z1,fz1,z2,fz2,z3,fz3,z4,fz4,z5,fz5,z6,fz6,z7,fz7,z8,fz8,z9,fz9,z10,fz10,lz⟩:=H8.out.el11;have HCP:=Lib.hid (copiedE_any (κ i) (piK κ pa) ⟨rtg.toArray⟩ ra rm rc bt ⟨bn.toArray⟩ wn wd hn hd _ w8 HK8.out);go_wp2_with fail
     ((with_reducible refine HCP.out.mono ?_);rintro e w9 ⟨⟨a1,n1,c1',rfl,hkv,-,hfar⟩,hbb⟩)
     have HV9:=Lib.hid (And.intro (HV8.out.1.below hbb) HV8.out.2);have HB9:=bfH' HB8 hbb;have H9:=Lib.hid (H8.out.below hbb H8.out.lt);have HKV:=Lib.hid (And.intro hkv fun p hp=>Nat.lt_of_lt_of_le (Nat.lt_of_lt_of_le htl (Nat.le_of_lt H8.out.lt)) (hfar p hp));clear z0 fz0 z1 fz1 z2 fz2 z3 fz3 z4 fz4 z5 fz5 z6 fz6 z7 fz7 z8 fz8 z9 fz9 z10 fz10 lz hkv hfar hbb HV8 HB8 HK8 H8 HCP
     go_upto_region 15 with fail
     obtain⟨h10,hb10⟩:=box_new' w9 57 #[.int .i64 (κ i),.int .i64 (piK κ pa),.string ⟨rtg.toArray⟩,.slice a1 n1 c1',.slice none 0 0,.int .i64 bt,.string ⟨bn.toArray⟩,.int .i64 wn,.int .i64 wd,.int .i64 hn,.int .i64 hd];obtain⟨g9,hg9⟩:∃ g9,w9.heap.size=g9:=⟨_,rfl⟩;have HV10:=Lib.hid (And.intro (HV9.out.1.below hb10) HV9.out.2);have HB10:=bfH' HB9 hb10;have H10:=Lib.hid (H9.out.below hb10 H9.out.lt);have HK10:=Lib.hid (And.intro (HKV.out.1.below hb10) HKV.out.2)
     have htl9:mb+1<g9:=by have:=HV9.out.1.tree.lt;omega
     rw[hg9]at h10;have HE:=Lib.hid h10
     try simp only[hg9]
     clear hb10 h10 hg9 HV9 HB9 HKV H9;generalize World.alloc w9 _=wx at *;have HL7:=Lib.hid (show Below wx.heap.size wx wx.drew from (Below.refl _ _).drew);have k0:=HV10.out.1.tree.cell 0;have k7:=H10.out.cell 0;have lt1:=HV10.out.1.tree.lt;have lt7:=H10.out.lt;refine wp_region_held_drew (S:=(fun wy=>wy.cell? ⟨mb+1,0,none⟩=some (.map (some mb))∧wy.cell? ⟨g7,0,none⟩=some (.int .i64 (κ i)))) (by kernel_rfl) (by (try dsimp only);go_keep) (fun hHeld=>?_);generalize wx.drew=w11 at *;refine wpAnyH_take (i:=0) (v:=?hvv0_1) rfl (by kernel_rfl) (by kernel_rfl) (by kernel_rfl) (fun _ _ _ h=>h) (Or.inl ⟨by rfl,?hhy0_1⟩) (by assumption) ?_
     case hhy0_1=>(intro w hSw;(try dsimp only at hSw);go_simp;try with_reducible rfl)
     change wpAnyH _ _ _ _ _ _ _ (Act.put _ (some 36) _) _
     try simp only[Act.put,List.setIfInBounds_toArray,List.set_cons_zero,List.set_cons_succ]
     refine wpAnyH_take (i:=1) (v:=?hvv1_2) rfl (by kernel_rfl) (by kernel_rfl) (by kernel_rfl) (fun _ _ _ h=>h) (Or.inl ⟨by rfl,?hhy1_2⟩) (by assumption) ?_
     case hhy1_2=>(intro w hSw;(try dsimp only at hSw);go_simp;try with_reducible rfl)
     change wpAnyH _ _ _ _ _ _ _ (Act.put _ (some 37) _) _
     try simp only[Act.put,List.setIfInBounds_toArray,List.set_cons_zero,List.set_cons_succ]
     refine wpAnyH_take (i:=2) (v:=?hvv2_3) rfl (by kernel_rfl) (by kernel_rfl) (by kernel_rfl) (fun _ _ _ h=>h) (Or.inl ⟨by rfl,?hhy2_3⟩) (by assumption) ?_
     case hhy2_3=>(intro w hSw;(try dsimp only at hSw);go_simp;try with_reducible rfl)
     change wpAnyH _ _ _ _ _ _ _ (Act.put _ (some 38) _) _
     try simp only[Act.put,List.setIfInBounds_toArray,List.set_cons_zero,List.set_cons_succ]
     refine wpAnyH_take (i:=3) (v:=?hvv3_4) rfl (by kernel_rfl) (by kernel_rfl) (by kernel_rfl) (fun _ _ _ h=>h) (Or.inl ⟨by rfl,?hhy3_4⟩) (by assumption) ?_
     case hhy3_4=>(intro w hSw;(try dsimp only at hSw);go_simp;try with_reducible rfl)
     change wpAnyH _ _ _ _ _ _ _ (Act.put _ (some 39) _) _
     try simp only[Act.put,List.setIfInBounds_toArray,List.set_cons_zero,List.set_cons_succ]
     refine wpAnyH_take (i:=4) (v:=?hvv4_5) rfl (by kernel_rfl) (by kernel_rfl) (by kernel_rfl) (fun _ _ _ h=>h) (Or.inl ⟨by rfl,?hhy4_5⟩) (by assumption) ?_
     case hhy4_5=>(intro w hSw;(try dsimp only at hSw);go_simp;try with_reducible rfl)
     change wpAnyH _ _ _ _ _ _ _ (Act.put _ (some 40) _) _
     try simp only[Act.put,List.setIfInBounds_toArray,List.set_cons_zero,List.set_cons_succ]
     refine wpAnyH_take (i:=5) (v:=?hvv5_6) rfl (by kernel_rfl) (by kernel_rfl) (by kernel_rfl) (fun _ _ _ h=>h) (Or.inl ⟨by rfl,?hhy5_6⟩) (by assumption) ?_
     case hhy5_6=>(intro w hSw;(try dsimp only at hSw);go_simp;try with_reducible rfl)
     change wpAnyH _ _ _ _ _ _ _ (Act.put _ (some 41) _) _
     try simp only[Act.put,List.setIfInBounds_toArray,List.set_cons_zero,List.set_cons_succ]
     have HV11:=Lib.hid (And.intro (HV10.out.1.below HL7.out) HV10.out.2);have HB11:=bfH' HB10 HL7.out;have HE11:=Lib.hid (HE.out.below HL7.out HE.out.lt);have H11:=Lib.hid (H10.out.below HL7.out H10.out.lt);have HK11:=Lib.hid (And.intro (HK10.out.1.below HL7.out) HK10.out.2);obtain⟨D,hD,hm⟩:=HV11.out.1.map;have hml:=HLK.out.1;have hbn:=HX.out.2;obtain⟨w12,hrun,hown,hg12⟩:=hm.update keyInt Tryz.underlying75 (by unfold maxLen;omega) (key:=.int .i64 (κ i)) (keyOf64 (by omega) (by omega)) (val:=.pointer (some ⟨g9,0,none⟩)) rfl;clear HV10 HB10 HE H10 HK10 HL7 k0 k7 lt1 lt7 hbn;refine wpAnyH_ready (rs:=[6]) (by kernel_rfl) (by simp) ?_;refine AllReadyH.cons rfl (fun K hK=>?_) AllReadyH.nil
     go_simp
     have hT12:=blk_grownBy HV11.out.1.tree hg12 (fun e=>by have:=Option.some.inj e;omega);have hE12:=blk_grownBy H11.out hg12 (fun e=>by have:=Option.some.inj e;omega);refine hK.out _ _ ⟨hT12.cell 0,hE12.cell 0⟩ (fun hHeld=>?_);clear hK K hHeld hT12 hE12;refine wpAnyH_done (by kernel_rfl) ?_ _;have hlk:=Like.snoc (e:=⟨pa,rtg,⟨bt,bn,(wn,wd),(hn,hd)⟩,g9,⟨n1,c1',a1,0,kl⟩⟩) HLK.out.2 HX.out.1 rfl;have hsn:=HV11.out.1.snoc HV11.out.2 (e:=⟨pa,rtg,⟨bt,bn,(wn,wd),(hn,hd)⟩,g9,⟨n1,c1',a1,0,kl⟩⟩) (by rw[hml];exact HE11.out) HK11.out.1 ⟨htl9,HK11.out.2⟩ hg12 ⟨_,by have:=hD.snoc HMO.out.2 g9;rw[List.length_map,hml]at this;exact this,hown⟩ (Like.par hlk (Par.take HG.out.par _)) (by omega) (fun k hk=>HBN.out k (by rw[HN.out];omega));have HS:=Lib.hid hsn
     have HLS:=Lib.hid (And.intro (show (ms++[(⟨pa,rtg,⟨bt,bn,(wn,wd),(hn,hd)⟩,g9,⟨n1,c1',a1,0,kl⟩⟩:Me)]).length=i+1 by rw[List.length_append,hml];rfl) hlk);have HB12:=Lib.hid (below_far HB11.out hg12 (fun k e=>by obtain rfl:=Option.some.inj e;exact Nat.le_of_eq HMB.out));clear hsn hlk hD hm hown hg12 hrun HV11 HB11 HE11 H11 HK11;go_wp2_with fail
     go_roundg (N-(i+1))
     case measure=>omega
     case rel=>exact⟨i+1,_,_,rfl,by go_num,Lib.hid (by rw[if_neg (by omega),Nat.add_sub_cancel]),HB12,HS,HLS,hi,Nat.le_refl _⟩
   · obtain rfl:i=N:=by omega
     have gi:decide ((i:Int)<(i:Int))=false:=by simp
     have gin:decide (i<i)=false:=by simp
     have hlast:last=κ (i-1):=by rw[HLA.out,if_neg (by omega)]
     subst hlast;have HLF:=Lib.hid (show Like ms els by have:=HLK.out.2;rwa [List.take_of_length_le (by rw[HN.out];exact Nat.le_refl _)]at this);clear HLA HLK;go_wp2_with fail;go_meet;exact⟨ms,rfl,HB,HV,HLF⟩
 case rest =>
  clear HV0 HB0;obtain⟨ms,rfl,HB,HV,HLF⟩:=hcut;have hbn:=HBN.out (N-1) (by rw[HN.out];omega);have hv1:=HV.out.1;have t0:wc.cell? ⟨mb+1,0,none⟩=some (.map (some mb)):=(hv1.tree).cell 0;have ft0:=(hv1.tree).frozen 0;have t1:wc.cell? ⟨mb+1,1,none⟩=some (.int .i64 0):=(hv1.tree).cell 1;have ft1:=(hv1.tree).frozen 1;have t2:wc.cell? ⟨mb+1,2,none⟩=some (.int .i64 0):=(hv1.tree).cell 2;have ft2:=(hv1.tree).frozen 2;have lt:=(hv1.tree).lt;clear hv1
  go_upto_region 18 with fail
  have hvb:=HV.out.2.vb HV.out.1;have HV2:=Lib.hid (HV.out.1.nxt hvb (κ (N-1)+1));have HB2:=Lib.hid (below_far HB.out (grownBy_set wc ⟨mb+1,2,none⟩ (.int .i64 (κ (N-1)+1))) (fun k e=>by obtain rfl:=Option.some.inj e;have:=HMB.out;show w.heap.size≤mb+1;omega));have HNu:=Lib.hid HV.out.2;clear t0 ft0 t1 ft1 t2 ft2 lt hvb HV HB hbn;generalize World.setCell wc _ _=w2 at *;generalize κ (N-1)+1=nx at *;have HGm:=Lib.hid (Like.good HLF.out HG.out);have HJ:=Lib.hid (joined_any HV2.out (HNu.out.vb HV2.out) HGm.out);go_wp2_with fail
  ((with_reducible refine HJ.out.mono ?_);rintro e w3 ⟨rfl,hv3,hg3⟩)
  have HB3:=Lib.hid (below_far HB2.out hg3 (fun k e=>by obtain rfl:=Option.some.inj e;have:=HMB.out;show w.heap.size≤mb+1;omega));have HV3:=Lib.hid hv3;obtain⟨D,hD,hm⟩:=hv3.map;have HM:=Lib.hid hD;have hlm:=(HLF.out.len).trans HN.out
  have hszD:Maps.size D≤N:=by rw[hD.size,List.length_map];exact Nat.le_of_eq hlm
  rw[hlm]at hm;obtain⟨W3,hW3⟩:∃ W3,w3.heap.size=W3:=⟨_,rfl⟩;have HVB:=Lib.hid (HNu.out.vb hv3);have t0:w3.cell? ⟨mb+1,0,none⟩=some (.map (some mb)):=(hv3.tree).cell 0;have ft0:=(hv3.tree).frozen 0;have t1:w3.cell? ⟨mb+1,1,none⟩=some (.int .i64 (κ 0)):=(hv3.tree).cell 1;have ft1:=(hv3.tree).frozen 1;have t2:w3.cell? ⟨mb+1,2,none⟩=some (.int .i64 nx):=(hv3.tree).cell 2;have ft2:=(hv3.tree).frozen 2;have lt:=(hv3.tree).lt;rw[hW3]at HVB;clear hv3 hg3 hD HJ HV2 HB2;go_wp2_with (at_range;refine wpList_range_own _ rfl _ 75 rfl 3 76 keyInt Tryz.underlying75 ptrE mb N D rfl hm ?_;intro w0 hrg0 hg0 hs0)
  go_frame
  try simp only[hW3]
  clear t0 ft0 t1 ft1 t2 ft2 lt hm;rw[hW3]at hrg0 hs0;have HR0:=Lib.hid hrg0;have HV4:=Lib.hid (HV3.out.below (below_of_grownBy hg0));have HB4:=bfH' HB3 (below_of_grownBy hg0);have HW3:=Lib.hid (show w.heap.size≤W3 by rw[← hW3];exact HB3.out.size);clear hrg0 hg0 hs0 hW3 HV3 HB3
  go_loopg [] N (fun q wr=>∃ (left:Lit→Bool) (cnt:Nat),Hid (wr.ranges Tryz.prog 3 ptrE mb W3 N D left cnt)∧Hid (Vw κ wr (mb+1) mb (κ 0) nx ms)∧Hid (Below w.heap.size w wr)∧cnt≤q)
  case atStart=>exact⟨_,_,HR0,HV4,HB4,hszD⟩
  case round =>
   clear HR0 HV4 HB4;obtain⟨left,cnt,hrg,hvw,hbw,hq⟩:=hrel;go_wp2_with (at_next;refine vnext (κ:=κ) HM.out rfl _ rfl mb W3 N left cnt rfl hrg.out ?_ ?_)
   · intro hc0 hl0;clear hrg hl0;go_wp2_with fail;exact bodyPost_ret (v:=.tuple #[.pointer (some ⟨mb+1,0,none⟩),.int .i64 0]) (by simp[results,Tryz.results15,go_sem]) rfl ⟨⟨_,_,_,_,rfl,hvw.out,HLF.out⟩,hbw.out⟩
   · intro i g1 w1 cnt1 e he hge hli hrg1 hlt hg1 hs1 hen;subst hge;have HV1:=Lib.hid (hvw.out.far HVB.out hg1 (Nat.le_refl _));have HB1:=Lib.hid (below_far hbw.out hg1 (fun k e=>by obtain rfl:=Option.some.inj e;exact HW3.out));have HRG1:=Lib.hid hrg1;have HDP:=Lib.hid (vdepth HV1.out he);have HD32:=Lib.hid (HGm.out.el i e he).2.2.1;clear hli hrg1 hg1 hs1 hrg hvw hbw he;generalize e.g=ge at *;go_wp2_with fail
     ((with_reducible refine HDP.out.mono ?_);rintro e' w' ⟨⟨d,rfl,hd0,hd1,hdd⟩,rfl⟩)
     have k32:decide ((32:Int)<d)=false:=by
      have:=HD32.out;simp;omega
     clear hdd hd0 hd1;go_wp2_with fail
     go_roundg cnt1
     case measure=>omega
     case rel=>exact⟨_,_,HRG1,HV1,HB1,Nat.le_refl _⟩
end Go.Proofs.YtnbkbenkhkinoaaGreatDoor
