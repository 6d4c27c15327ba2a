/- Of my texts: KindC, TurnM, CalcB, CalcC, Values. -/
import Derived.Test.YtnbkbenkhkinoaaGreatDoorM04
import Derived.Test.YtnbkbenkhkinoaaGreatDoorM17
import Derived.Test.YtnbkbenkhkinoaaGreatDoorM30
namespace Go.Proofs.YtnbkbenkhkinoaaGreatDoor
set_option linter.unusedVariables false
set_option linter.unusedSimpArgs false
open Go.RowKit
theorem kind_ways (k:Int) (L c:Nat) :
  (c = 0∧kindFin k L c=1)∨(c≠0∧k=4∧c=1∧kindFin k L c=2)∨(c≠0∧k=4∧c≠1∧kindFin k L c=0)∨(c≠0∧k=5∧kindFin k L c=0) ∨
    (c≠0∧k≠4∧k≠5∧c=L∧kindFin k L c=2)∨(c≠0∧k≠4∧k≠5∧c≠L∧kindFin k L c=0):=by
 unfold kindFin
 by_cases h0:c=0
 · exact Or.inl ⟨h0,if_pos h0⟩
 rw[if_neg h0]
 by_cases h4:k=4
 · by_cases h1:c=1
   · exact Or.inr (Or.inl ⟨h0,h4,h1,if_pos (Or.inl ⟨h4,h1⟩)⟩)
   · exact Or.inr (Or.inr (Or.inl ⟨h0,h4,h1,if_neg (by omega)⟩))
 · by_cases h5:k=5
   · exact Or.inr (Or.inr (Or.inr (Or.inl ⟨h0,h5,if_neg (by omega)⟩)))
   · by_cases hL:c=L
     · exact Or.inr (Or.inr (Or.inr (Or.inr (Or.inl ⟨h0,h4,h5,hL,if_pos (Or.inr ⟨h4,h5,hL⟩)⟩))))
     · exact Or.inr (Or.inr (Or.inr (Or.inr (Or.inr ⟨h0,h4,h5,hL,if_neg (by omega)⟩))))
theorem ret_kind {a b:Int} (h:a=b):(Ending.returned (.int .i64 a))=.returned (.int .i64 b):=by rw[h]
set_option maxRecDepth 20000 in
set_option maxHeartbeats 8000000 in
theorem ckind_any:∀ (h:Nat) (e:Ex) (w:World),ExIn w h e →
  Calls Tryz.prog 227 #[xv e] w fun x w'=>x=.returned (.int .i64 (kindE e.c))∧Below w.heap.size w w':=by
 intro h
 induction h with
 | zero=>exact fun _ _ h=>h.elim
 | succ h ih =>
   intro e w hx;obtain⟨k,n,d,u,oa,b,o,cap,kids⟩:=e;obtain⟨h1,h2,h3,h4,h5,h6,h7,h8⟩:=hx;have hsm:kids.length≤9223372036854775807:=Nat.le_trans (Nat.le_trans h4 h5) (by decide);have HIH:=Lib.hid ih;obtain⟨K,hK⟩:∃ K,kindE (Ex.mk k n d u oa b o cap kids).c=K:=⟨_,rfl⟩;have hK2:=hK;rw[Ex.c_mk,kindE_mk,List.map_map,List.length_map]at hK2;clear ih h1 h2 h3 h6;rw[xv_mk,hK];clear hK
   by_cases hk1:k=1
   · subst hk1;rw[if_pos rfl]at hK2
     by_cases hu:u=0
     · subst hu;rw[if_pos rfl]at hK2;have HK:=Lib.hid hK2;clear hK2 h7 h8 HIH
       go_enter Tryz.func227,Tryz.ntmps227
       go_wp2_with fail;go_ret;exact⟨ret_kind HK.out,below_box _ _⟩
     · rw[if_neg hu]at hK2
       have gu:(u==0)=false:=by simpa using hu
       have HK:=Lib.hid hK2;clear hK2 h7 h8 HIH
       go_enter Tryz.func227,Tryz.ntmps227
       go_wp2_with fail;go_ret;exact⟨ret_kind HK.out,below_box _ _⟩
   rw[if_neg hk1]at hK2
   have gk1:(k==1)=false:=by simpa using hk1
   have HK:=Lib.hid hK2;obtain⟨L,hL⟩:∃ L,kids.length=L:=⟨_,rfl⟩;rw[hL]at hsm h4 h7 HK ⊢;have HL:=Lib.hid hL;clear hK2 hk1 hL;have hY0:K=kindG k L 0 ((kids.drop 0).map (kindE ∘ Ex.c)):=HK.out.symm;have HY0:=Lib.hid hY0;clear hY0
   go_enter Tryz.func227,Tryz.ntmps227
   go_wp2_with fail
   go_loopg [3,15] L (fun kk s3 s15 wr=>∃ (i c:Nat),s3=.int .i64 c∧s15=.int .i64 i∧Hid (Gk w wr 31 #[.int .i64 k,.int .i64 n,.int .i64 d,.int .i64 u,.slice oa L cap])∧i≤L∧c≤i∧Hid (K=kindG k L c ((kids.drop i).map (kindE ∘ Ex.c)))∧L-i≤kk)
   case atStart=>exact⟨0,0,rfl,rfl,Lib.hid ⟨below_box _ _,Blk.new _ _ _⟩,Nat.zero_le _,Nat.le_refl _,HY0,by omega⟩
   case round =>
    obtain⟨i,c,rfl,rfl,hg,hle,hci,hY,hk2⟩:=hrel;have hbel:=Lib.hid hg.out.below
    by_cases hi:i<L
    · have gi:decide ((i:Int)<(L:Int))=true:=by simpa using hi
      have gin:decide (i<L)=true:=by simpa using hi
      have hil:i<kids.length:=by rw[HL.out];exact hi
      have hr:kids[i]?=some kids[i]:=List.getElem?_eq_getElem hil;have hx:=h8 i _ hr;have hdr:kids.drop i=kids[i]::kids.drop (i+1):=List.drop_eq_getElem_cons hil;obtain⟨rfl,hbl⟩:=h7 (by omega);generalize kids[i]=x at *;obtain⟨M,hM⟩:∃ M,kindE x.c=M:=⟨_,rfl⟩;have hM3:=kindE_in x.c;rw[hM]at hM3
      have hX:=fun wx hb=>HIH.out x wx (hx.2.below (w':=wx) _ hb)
      rw[hM]at hX;have hlaw:=hY.out;rw[hdr,List.map_cons,kindG,Function.comp_apply,hM]at hlaw;obtain⟨k',n',d',u',oa',b',o',cap',kids'⟩:=x;obtain⟨K',hK'⟩:∃ K',kids'.length=K':=⟨_,rfl⟩;simp only[xv_mk,hK']at hX;have HX:=Lib.hid hX;have f0:wr.cell? ⟨b,o+i*5,none⟩=some (.int .i64 k'):=(hbel.out.cell hbl).trans (hx.1 0 _ rfl);have f1:wr.cell? ⟨b,o+i*5+1,none⟩=some (.int .i64 n'):=(hbel.out.cell hbl).trans (hx.1 1 _ rfl);have f2:wr.cell? ⟨b,o+i*5+2,none⟩=some (.int .i64 d'):=(hbel.out.cell hbl).trans (hx.1 2 _ rfl);have f3:wr.cell? ⟨b,o+i*5+3,none⟩=some (.int .i64 u'):=(hbel.out.cell hbl).trans (hx.1 3 _ rfl)
      have f4:wr.cell? ⟨b,o+i*5+4,none⟩=some (.slice oa' K' cap'):=by rw[← hK'];exact(hbel.out.cell hbl).trans (hx.1 4 _ rfl)
      have HLW:=Lib.hid hlaw;clear hx hlaw hY hr hdr hil h8 h7 hX hM hK'
      rcases hM3 with rfl|rfl|rfl
      · go_wp2_with fail
        ((with_reducible refine(HX.out _ (hbel.out.alloc hbel.out.size _)).mono ?_);rintro e w' ⟨rfl,hbw⟩)
        obtain⟨m,rfl⟩:=grow_mk hbw;clear hbw;have hK0:=Lib.hid (show K=0 from HLW.out);go_wp2_with fail;go_ret;exact⟨ret_kind hK0.out.symm,below_grow (hbel.out.alloc hbel.out.size _) m⟩
      · go_wp2_with fail
        ((with_reducible refine(HX.out _ (hbel.out.alloc hbel.out.size _)).mono ?_);rintro e w' ⟨rfl,hbw⟩)
        obtain⟨m,rfl⟩:=grow_mk hbw;clear hbw;go_wp2_with fail
        go_roundg (L-(i+1))
        case measure=>omega
        case rel=>exact⟨i+1,c,rfl,by go_num,Lib.hid ⟨below_grow (hbel.out.alloc hbel.out.size _) m,(hg.out.box.old _).grow m⟩,hi,by omega,Lib.hid HLW.out,Nat.le_refl _⟩
      · go_wp2_with fail
        ((with_reducible refine(HX.out _ (hbel.out.alloc hbel.out.size _)).mono ?_);rintro e w' ⟨rfl,hbw⟩)
        obtain⟨m,rfl⟩:=grow_mk hbw;clear hbw;go_wp2_with fail
        go_roundg (L-(i+1))
        case measure=>omega
        case rel=>exact⟨i+1,c+1,by go_num,by go_num,Lib.hid ⟨below_grow (hbel.out.alloc hbel.out.size _) m,(hg.out.box.old _).grow m⟩,hi,by omega,Lib.hid HLW.out,Nat.le_refl _⟩
    · obtain rfl:i=L:=by omega
      have gi:decide ((i:Int)<(i:Int))=false:=by simp
      have gin:decide (i<i)=false:=by simp
      have hKf:K=kindFin k i c:=by
       rw[hY.out,List.drop_eq_nil_of_le (by rw[HL.out];exact Nat.le_refl _)];rfl
      have hbox:=hg.out.box;have cb0:wr.cell? ⟨w.heap.size,0,none⟩=some (.int .i64 k):=(hbox).cell 0;have fcb0:=(hbox).frozen 0;have cb1:wr.cell? ⟨w.heap.size,1,none⟩=some (.int .i64 n):=(hbox).cell 1;have fcb1:=(hbox).frozen 1;have cb2:wr.cell? ⟨w.heap.size,2,none⟩=some (.int .i64 d):=(hbox).cell 2;have fcb2:=(hbox).frozen 2;have cb3:wr.cell? ⟨w.heap.size,3,none⟩=some (.int .i64 u):=(hbox).cell 3;have fcb3:=(hbox).frozen 3;have cb4:wr.cell? ⟨w.heap.size,4,none⟩=some (.slice oa i cap):=(hbox).cell 4;have fcb4:=(hbox).frozen 4;have lcb:=(hbox).lt;have ways:=kind_ways k i c;rw[← hKf]at ways;clear hKf hbox hY hg HK HY0 h8 h7 HIH
      rcases ways with ⟨e0,hK⟩ | ⟨e0,rfl,e1,hK⟩ | ⟨e0,rfl,e1,hK⟩ | ⟨e0,rfl,hK⟩ | ⟨e0,e4,e5,eL,hK⟩ | ⟨e0,e4,e5,eL,hK⟩
      · subst e0;have HK:=Lib.hid hK;clear hK;go_wp2_with fail;go_ret;exact⟨ret_kind HK.out.symm,hbel.out⟩
      · subst e1;have HK:=Lib.hid hK;clear hK;go_wp2_with fail;go_ret;exact⟨ret_kind HK.out.symm,hbel.out⟩
      · have g0:((c:Int)==0)=false:=by simp;omega
        have g1:((c:Int)==1)=false:=by simp;omega
        have HK:=Lib.hid hK;clear hK e0 e1;go_wp2_with fail;go_ret;exact⟨ret_kind HK.out.symm,hbel.out⟩
      · have g0:((c:Int)==0)=false:=by simp;omega
        have HK:=Lib.hid hK;clear hK e0;go_wp2_with fail;go_ret;exact⟨ret_kind HK.out.symm,hbel.out⟩
      · have g0:((c:Int)==0)=false:=by simp;omega
        have g4:(k==4)=false:=by simpa using e4
        have g4n:(k != 4)=true:=by simpa using e4
        have g5:(k==5)=false:=by simpa using e5
        have g5n:(k != 5)=true:=by simpa using e5
        have gL:((c:Int)==(i:Int))=true:=by simp;omega
        have HK:=Lib.hid hK;clear hK e0 e4 e5 eL;go_wp2_with fail;go_ret;exact⟨ret_kind HK.out.symm,hbel.out⟩
      · have g0:((c:Int)==0)=false:=by simp;omega
        have g4:(k==4)=false:=by simpa using e4
        have g4n:(k != 4)=true:=by simpa using e4
        have g5:(k==5)=false:=by simpa using e5
        have g5n:(k != 5)=true:=by simpa using e5
        have gL:((c:Int)==(i:Int))=false:=by simp;omega
        have HK:=Lib.hid hK;clear hK e0 e4 e5 eL;go_wp2_with fail;go_ret;exact⟨ret_kind HK.out.symm,hbel.out⟩
def kindOf (e:Ex):Int×Int:=if mayE 340 e=false then (0,1) else if kindE e.c=0 then (0,4) else (kindE e.c,0)
set_option maxHeartbeats 2000000 in
theorem cKind_any (h:Nat) (e:Ex) (w:World) (hx:ExIn w h e) :
  Calls Tryz.prog 204 #[xv e] w fun x w'=>x=.returned (.tuple #[.int .i64 (kindOf e).1,.int .i64 (kindOf e).2])∧Below w.heap.size w w':=by
 have hC:=fun wx hb=>cMay_any h e wx (hx.below h (w':=wx) hb)
 have hD:=fun wx hb=>ckind_any h e wx (hx.below h (w':=wx) hb)
 unfold kindOf;have hM3:=kindE_in e.c;generalize mayE 340 e=M at *;generalize kindE e.c=K at *;obtain⟨k,n,d,u,oa,b,o,cap,kids⟩:=e;simp only[xv_mk]at hC hD ⊢;have HC:=Lib.hid hC;have HD:=Lib.hid hD;clear hC hD hx
 cases M with
 | false =>
   go_enter Tryz.func204,Tryz.ntmps204
   go_wp2_with fail
   ((with_reducible refine(HC.out _ (below_box _ _)).mono ?_);rintro e w' ⟨rfl,hbw⟩)
   obtain⟨m,rfl⟩:=grow_mk hbw;clear hbw;go_wp2_with fail
   go_ret2
   exact⟨rfl,below_grow (below_box _ _) m⟩
 | true =>
   rcases hM3 with rfl|rfl|rfl
   all_goals
    go_enter Tryz.func204,Tryz.ntmps204
    go_wp2_with fail
    ((with_reducible refine(HC.out _ (below_box _ _)).mono ?_);rintro e w' ⟨rfl,hbw⟩)
    obtain⟨m,rfl⟩:=grow_mk hbw;clear hbw;go_wp2_with fail
    ((with_reducible refine(HD.out _ (below_grow (below_box _ _) m)).mono ?_);rintro e w' ⟨rfl,hbw⟩)
    obtain⟨m2,rfl⟩:=grow_mk hbw;clear hbw;go_wp2_with fail
    go_ret2
    exact⟨rfl,below_grow (below_box _ _) _⟩
end Go.Proofs.YtnbkbenkhkinoaaGreatDoor
namespace Go.Proofs.YtnbkbenkhkinoaaGreatDoor
set_option linter.unusedVariables false
set_option linter.unusedSimpArgs false
def mayT:Nat→Et→Bool
 | 0,_=>false
 | f + 1,.mk k n d u kids=>if k=1 then decide (kids.length=0)&&mayB (n,d)&&decide (0≤u)&&decide (u≤7)
    else (decide (n=0)&&decide (d=0))&&decide (u=0)&&arity k kids.length&&kids.all (mayT f)
theorem mayE_T:∀ (f:Nat) (e:Ex),mayE f e=mayT f e.c
 | 0,_=>rfl
 | f+1,.mk k n d u oa b o cap kids=>by
   rw[Ex.c_mk];unfold mayE mayT;rw[List.length_map,List.all_map]
   congr 2
   apply List.all_congr rfl
   exact fun x=>mayE_T f x
def kindOfT (e:Et):Int×Int:=if mayT 340 e=false then (0,1) else if kindE e=0 then (0,4) else (kindE e,0)
theorem kindOf_T (e:Ex):kindOf e=kindOfT e.c:=by
 unfold kindOf kindOfT;rw[mayE_T]
end Go.Proofs.YtnbkbenkhkinoaaGreatDoor
namespace Go.Proofs.YtnbkbenkhkinoaaGreatDoor
set_option linter.unusedVariables false
set_option linter.unusedSimpArgs false
open Go.RowKit
structure Rd (A:Nat→Prop) (w:World) (R h:Nat) (oa:Option Addr) (cap b o:Nat) (l:List Vl) (i:Nat):Prop where
 blk:Blk w R 297 #[.slice oa l.length cap,.int .i64 i]
 vs:Safe A w fun w=>VsIn w h oa cap b o l
 pos:i≤l.length
 me:A R
structure Mv (w w':World) (R:Nat) (oa:Option Addr) (L cap j:Nat):Prop where
 gb:w.grownBy w' (some R)
 blk:Blk w' R 297 #[.slice oa L cap,.int .i64 j]
section
variable {A:Nat→Prop} {w w' w2:World} {R h:Nat} {oa:Option Addr} {cap b o:Nat} {l:List Vl} {i j:Nat}
theorem Rd.mv (hr:Rd A w R h oa cap b o l i) (hm:Mv w w' R oa l.length cap j) (hj:j≤l.length):Rd A w' R h oa cap b o l j:=⟨hm.blk,hr.vs.grown hm.gb (fun k e _=>by injection e with e;rw[← e];exact hr.me),hj,hr.me⟩
theorem Rd.below (hr:Rd A w R h oa cap b o l i) (hb:Below w.heap.size w w'):Rd A w' R h oa cap b o l i:=⟨hr.blk.below hb hr.blk.lt,hr.vs.below hb,hr.pos,hr.me⟩
theorem Rd.grown {row:Option Nat} (hr:Rd A w R h oa cap b o l i) (hg:w.grownBy w' row) (hA:∀ k,row=some k→A k∨w.heap.size≤k) (hR:row≠some R):Rd A w' R h oa cap b o l i :=
 ⟨(hg.block R hr.blk.lt (Ne.symm hR)).trans hr.blk,hr.vs.grown hg (fun k e hk=>(hA k e).resolve_right (by omega)),hr.pos,hr.me⟩
theorem Rd.only (hr:Rd A w R h oa cap b o l i):Rd (·=R) w R h oa cap b o l i:=⟨hr.blk,hr.vs.anti fun b hb _=>by rw[hb];exact hr.me,hr.pos,rfl⟩
theorem Rd.set (hr:Rd A w R h oa cap b o l i) {j:Nat} (hj:j≤l.length):Rd A (w.setCell ⟨R,1,none⟩ (.int .i64 j)) R h oa cap b o l j:=⟨hr.blk.put 1 _,hr.vs.set hr.me _,hj,hr.me⟩
theorem Mv.refl (hr:Rd A w R h oa cap b o l i):Mv w w R oa l.length cap i:=⟨grownBy_refl _ _,hr.blk⟩
theorem Mv.trans {L:Nat} (h1:Mv w w' R oa L cap i) (h2:Mv w' w2 R oa L cap j):Mv w w2 R oa L cap j:=⟨grownBy_trans h1.gb h2.gb,h2.blk⟩
theorem Mv.set {L:Nat} (h1:Mv w w' R oa L cap i) (j:Nat):Mv w (w'.setCell ⟨R,1,none⟩ (.int .i64 j)) R oa L cap j:=⟨grownBy_trans h1.gb (grownBy_set w' ⟨R,1,none⟩ _),h1.blk.put 1 _⟩
theorem Mv.below {L:Nat} (h1:Mv w w' R oa L cap i) (hb:Below w'.heap.size w' w2):Mv w w2 R oa L cap i:=⟨grownBy_trans h1.gb (grownBy_of_below hb _),h1.blk.below hb h1.blk.lt⟩
theorem Mv.keeps {g:Nat} {t:TypeId} {cs:Array Value} {L:Nat} (h1:Mv w w' R oa L cap i) (hb:Blk w g t cs) (hg:g≠R):Blk w' g t cs:=(h1.gb.block g hb.lt (by simpa using hg)).trans hb
end
theorem blank_step {m:List Vt} {i:Nat} {v:Vt} (h:m[i]?=some v) (hs:spV v=true):blankP m i=blankP m (i+1):=by
 obtain⟨hl,he⟩:=List.getElem?_eq_some_iff.1 h;unfold blankP;rw[List.drop_eq_getElem_cons hl,he,List.takeWhile_cons_of_pos hs,List.length_cons];omega
theorem blank_here {m:List Vt} {i:Nat} {v:Vt} (h:m[i]?=some v) (hs:spV v=false):blankP m i=i:=by
 obtain⟨hl,he⟩:=List.getElem?_eq_some_iff.1 h;unfold blankP;rw[List.drop_eq_getElem_cons hl,he,List.takeWhile_cons_of_neg (by simp[hs])];rfl
theorem blank_past {m:List Vt} {i:Nat} (h:m.length≤i):blankP m i=i:=by
 unfold blankP;rw[List.drop_eq_nil_of_le h];rfl
set_option maxRecDepth 20000 in
set_option maxHeartbeats 4000000 in
theorem cblanks_any (R g4 h:Nat) (oa:Option Addr) (cap b o:Nat) (l:List Vl) (i:Nat) (w:World) (hr:Rd (·=R) w R h oa cap b o l i) (h4:Blk w g4 295 #[.pointer (some ⟨R,0,none⟩)]) (hne:g4≠R) :
  Calls Tryz.prog 265 #[.pointer (some ⟨g4,0,none⟩)] w fun e w'=>e=.returned (.bool (decide (i<blankP (l.map Vl.c) i)))∧Mv w w' R oa l.length cap (blankP (l.map Vl.c) i):=by
 obtain⟨XL,hXL⟩:∃ XL,l.map Vl.c=XL:=⟨_,rfl⟩;obtain⟨N,hN⟩:∃ N,l.length=N:=⟨_,rfl⟩
 have hNX:XL.length=N:=by rw[← hXL,List.length_map,hN]
 rw[hXL,hN];have hsm:=hr.vs.here.small;have hcl:=hr.vs.here.sl.le;have hcm:=hr.vs.here.sl.max;have hiN:=hr.pos;unfold maxLen at hcm;rw[hN]at hsm hcl hiN;have HN:=Lib.hid (And.intro hN (And.intro hXL hNX));have HR:=Lib.hid hr;have H4:=Lib.hid h4;have k0:=hr.blk.cell 0;have k1:=hr.blk.cell 1;have kl:=hr.blk.lt;have m0:=h4.cell 0;have ml:=h4.lt;simp only[List.getElem?_toArray,List.getElem?_cons_zero,List.getElem?_cons_succ]at k0 k1 m0;rw[hN]at k0;clear hr h4 hN hXL hNX
 go_enter Tryz.func265,Tryz.ntmps265
 go_upto_block 0 with fail
 clear k0 k1 m0 kl ml
 go_cut [] (fun wx=>Hid (Mv w wx R oa N cap (blankP XL i))∧Hid (Blk wx g4 295 #[.pointer (some ⟨R,0,none⟩)]))
 case first =>
  go_wp2_with fail
  go_loopg [] N (fun q wr=>∃ (j:Nat),Hid (Mv w wr R oa N cap j)∧Hid (Blk wr g4 295 #[.pointer (some ⟨R,0,none⟩)])∧i≤j∧j≤N∧Hid (blankP XL i=blankP XL j)∧N-j≤q)
  case atStart =>
   exact⟨i,Lib.hid (by have:=Mv.refl HR.out;rw[HN.out.1]at this;exact this),H4,Nat.le_refl _,hiN,Lib.hid rfl,by omega⟩
  case round =>
   obtain⟨j,hm,hbx,hij,hjN,hbl,hq⟩:=hrel;have hmm:=hm.out;rw[← HN.out.1]at hmm;have hr2:=HR.out.mv hmm (by rw[HN.out.1];exact hjN);have k0:=hr2.blk.cell 0;have k1:=hr2.blk.cell 1;have q1:=hr2.blk.frozen 1;have kl:=hr2.blk.lt;have m0:=hbx.out.cell 0;have ml:=hbx.out.lt;simp only[List.getElem?_toArray,List.getElem?_cons_zero,List.getElem?_cons_succ]at k0 k1 m0;rw[HN.out.1]at k0;have ij0:(0:Int)≤(j:Int):=Int.natCast_nonneg _
   by_cases hj:j<N
   · have gj:decide ((j:Int)<(N:Int))=true:=by simpa using hj
     have gjn:decide (j<N)=true:=by simpa using hj
     have ijN:(j:Int)<(N:Int):=by omega
     have hil:j<l.length:=by rw[HN.out.1];exact hj
     have hli:l[j]?=some l[j]:=List.getElem?_eq_getElem hil;have hvs:=hr2.vs.here;obtain⟨rfl,hbl2⟩:=hvs.sl.lies (by omega);obtain⟨x,hx⟩:∃ x,l[j]=x:=⟨_,rfl⟩;rw[hx]at hli
     have hxl:XL[j]?=some x.c:=by rw[← HN.out.2.1,List.getElem?_map,hli];rfl
     obtain⟨t,koa,kb,ko,kcap,kids⟩:=x;have f0:=hvs.cell hli (j:=0) rfl;rw[Nat.add_zero]at f0;obtain⟨tk,tt,⟨tn,td⟩,ti,tid⟩:=t;rw[Vl.c_mk]at hxl;have HXL:=Lib.hid hxl;clear hvs hli hil hx hxl hmm hr2
     by_cases hk:tk=13
     · subst hk;have hst:=blank_step HXL.out rfl;have HST:=Lib.hid hst;clear hst;go_wp2_with fail;refine wp_region_grow (by kernel_rfl) (by kernel_rfl) ?_
       repeat (go_big_quiet_step (fail))
       refine wpQuiet_nil ?_;rintro _ ⟨m,rfl⟩;have hm2:=Lib.hid (Mv.below hm.out (grow_below m));have hbx2:=Lib.hid (hbx.out.grow m);clear k0 k1 q1 kl m0 ml f0 hm hbx;generalize grow _ m=wq at *;have k0:=hm2.out.blk.cell 0;have k1:=hm2.out.blk.cell 1;have q1:=hm2.out.blk.frozen 1;have kl:=hm2.out.blk.lt;have m0:=hbx2.out.cell 0;have ml:=hbx2.out.lt;simp only[List.getElem?_toArray,List.getElem?_cons_zero,List.getElem?_cons_succ]at k0 k1 m0;go_wp2_with fail
       go_roundg (N-(j+1))
       case measure=>omega
       case rel=>exact⟨j+1,Lib.hid (by have:=hm2.out.set (j+1);simpa using this),Lib.hid (hbx2.out.far (p:=⟨R,1,none⟩) hne _),by omega,hj,Lib.hid (by rw[hbl.out,HST.out]),Nat.le_refl _⟩
     · have gk:(tk==(13:Int))=false:=by simpa using hk
       have hst:blankP XL j=j:=blank_here HXL.out (by simpa[spV] using hk);have HST:=Lib.hid hst;clear hst hk;go_wp2_with fail;refine wp_region_grow (by kernel_rfl) (by kernel_rfl) ?_
       repeat (go_big_quiet_step (fail))
       refine wpQuiet_nil ?_;rintro _ ⟨m,rfl⟩;have hm2:=Lib.hid (Mv.below hm.out (grow_below m));have hbx2:=Lib.hid (hbx.out.grow m);clear k0 k1 q1 kl m0 ml f0 hm hbx;generalize grow _ m=wq at *;go_wp2_with fail;go_meet
       case rel=>exact⟨Lib.hid (by rw[hbl.out,HST.out];exact hm2.out),hbx2⟩
   · have gj:decide ((j:Int)<(N:Int))=false:=by simpa using hj
     have gjn:decide (j<N)=false:=by simpa using hj
     have hst:blankP XL j=j:=blank_past (by rw[HN.out.2.2];omega);have HST:=Lib.hid hst;clear hst hmm hr2;go_wp2_with fail;refine wp_region_grow (by kernel_rfl) (by kernel_rfl) ?_
     repeat (go_big_quiet_step (fail))
     refine wpQuiet_nil ?_;rintro _ ⟨m,rfl⟩;have hm2:=Lib.hid (Mv.below hm.out (grow_below m));have hbx2:=Lib.hid (hbx.out.grow m);clear k0 k1 q1 kl m0 ml hm hbx;generalize grow _ m=wq at *;go_wp2_with fail;go_meet
     case rel=>exact⟨Lib.hid (by rw[hbl.out,HST.out];exact hm2.out),hbx2⟩
 case rest =>
  obtain⟨hm,hbx⟩:=hcut;obtain⟨J,hJ⟩:∃ J,blankP XL i=J:=⟨_,rfl⟩;rw[hJ]at hm;have k0:=hm.out.blk.cell 0;have k1:=hm.out.blk.cell 1;have kl:=hm.out.blk.lt;have m0:=hbx.out.cell 0;have ml:=hbx.out.lt;simp only[List.getElem?_toArray,List.getElem?_cons_zero,List.getElem?_cons_succ]at k0 k1 m0;go_wp2_with fail;go_ret;exact⟨by rw[hJ];simp,by rw[hJ];exact hm.out⟩
set_option maxRecDepth 20000 in
set_option maxHeartbeats 8000000 in
theorem csign_any (R h:Nat) (oa:Option Addr) (cap b o:Nat) (l:List Vl) (i:Nat) (s1 s2:List UInt8) (apart:Bool) (w:World) (hr:Rd (·=R) w R h oa cap b o l i) :
  Calls Tryz.prog 262 #[.pointer (some ⟨R,0,none⟩),.string ⟨s1.toArray⟩,.string ⟨s2.toArray⟩,.bool apart] w fun e w'=>e=.returned (.string ⟨(signP (l.map Vl.c) s1 s2 apart i).1.toArray⟩)∧Mv w w' R oa l.length cap (signP (l.map Vl.c) s1 s2 apart i).2:=by
 obtain⟨XL,hXL⟩:∃ XL,l.map Vl.c=XL:=⟨_,rfl⟩;obtain⟨N,hN⟩:∃ N,l.length=N:=⟨_,rfl⟩
 have hNX:XL.length=N:=by rw[← hXL,List.length_map,hN]
 have hsm:=hr.vs.here.small;have hcl:=hr.vs.here.sl.le;have hcm:=hr.vs.here.sl.max;have hiN:=hr.pos;unfold maxLen at hcm;rw[hN]at hsm hcl hiN;obtain⟨j,hj⟩:∃ j,blankP XL i=j:=⟨_,rfl⟩;have hij:=blank_le XL i;have hjN:=blank_len XL (i:=i) (by rw[hNX];exact hiN);rw[hj]at hij hjN;rw[hNX]at hjN;obtain⟨SS,hSS⟩:∃ SS,signP XL s1 s2 apart i=SS:=⟨_,rfl⟩;have hS1:=hSS;unfold signP at hS1;rw[hj]at hS1;rw[hXL,hN,hSS];have HN:=Lib.hid (And.intro hN (And.intro hXL hNX));have hRlt:=hr.blk.lt
 -- the box of the reader
 have hb0:=below_box w (.cells #[.pointer (some ⟨R,0,none⟩)] 295);have h4:=Blk.new w 295 #[.pointer (some ⟨R,0,none⟩)];have HR:=Lib.hid hr;have HR1:=Lib.hid (hr.below hb0);have HB0:=Lib.hid hb0;have H4:=Lib.hid h4;have HJ:=Lib.hid hj;clear hr hb0 h4 hN hXL hNX hj hSS
 go_enter Tryz.func262,Tryz.ntmps262
 go_upto_region 1 with fail
 obtain⟨g4,hg4⟩:∃ g4,w.heap.size=g4:=⟨_,rfl⟩;have HG:=Lib.hid hg4;rw[hg4]at H4 hRlt;simp only[hg4];clear hg4;generalize w.alloc _=w1 at *;have k0:=HR1.out.blk.cell 0;have k1:=HR1.out.blk.cell 1;have kl:=HR1.out.blk.lt;have m0:=H4.out.cell 0;have ml:=H4.out.lt;simp only[List.getElem?_toArray,List.getElem?_cons_zero,List.getElem?_cons_succ]at k0 k1 m0;rw[HN.out.1]at k0
 have hne:g4≠R:=by omega
 have hbl:=cblanks_any R g4 h oa cap b o l i w1 HR1.out H4.out hne;rw[HN.out.1,HN.out.2.1,HJ.out]at hbl;have HBL:=Lib.hid hbl;clear hbl
 go_upto_region 3 with fail
 go_wp2_with fail
 ((with_reducible refine(HBL.out).mono ?_);rintro e w' ⟨rfl,hmv⟩)
 have hmv':=hmv;rw[← HN.out.1]at hmv';have HR2:=Lib.hid (HR1.out.mv hmv' (by rw[HN.out.1];exact hjN));have H42:=Lib.hid (hmv.keeps H4.out hne);have HM:=Lib.hid hmv;clear hmv hmv' k0 k1 kl m0 ml HBL H4;have k0:=HM.out.blk.cell 0;have k1:=HM.out.blk.cell 1;have q1:=HM.out.blk.frozen 1;have kl:=HM.out.blk.lt;have m0:=H42.out.cell 0;have ml:=H42.out.lt;simp only[List.getElem?_toArray,List.getElem?_cons_zero,List.getElem?_cons_succ]at k0 k1 m0;have ij0:(0:Int)≤(j:Int):=Int.natCast_nonneg _
 by_cases hj:j<N
 · have gj:decide ((j:Int)<(N:Int))=true:=by simpa using hj
   have gjn:decide (j<N)=true:=by simpa using hj
   have ijN:(j:Int)<(N:Int):=by omega
   have hil:j<l.length:=by rw[HN.out.1];exact hj
   have hli:l[j]?=some l[j]:=List.getElem?_eq_getElem hil;have hvs:=HR2.out.vs.here;obtain⟨rfl,hbl2⟩:=hvs.sl.lies (by omega);obtain⟨x,hx⟩:∃ x,l[j]=x:=⟨_,rfl⟩;rw[hx]at hli
   have hxl:XL[j]?=some x.c:=by rw[← HN.out.2.1,List.getElem?_map,hli];rfl
   obtain⟨t,koa,kb,ko,kcap,kids⟩:=x;have f0:=hvs.cell hli (j:=0) rfl;have f1:=hvs.cell hli (j:=1) rfl;rw[Nat.add_zero]at f0;obtain⟨tk,tt,⟨tn,td⟩,ti,tid⟩:=t;rw[Vl.c_mk]at hxl;rw[hxl]at hS1;simp only at hS1;clear hvs hli hil hx hxl
   by_cases hk:tk=9
   · subst hk;obtain⟨k,hk2⟩:∃ k,blankP XL (j+1)=k:=⟨_,rfl⟩;have hjk:=blank_le XL (j+1);have hkN:=blank_len XL (i:=j+1) (by rw[HN.out.2.2];omega);rw[hk2]at hjk hkN hS1;rw[HN.out.2.2]at hkN;have HK2:=Lib.hid hk2;have HS1:=Lib.hid hS1;clear hk2 hS1;go_wp2_with fail;refine wp_region_grow (by kernel_rfl) (by kernel_rfl) ?_
     repeat (go_big_quiet_step (fail))
     refine wpQuiet_nil ?_;rintro _ ⟨m,rfl⟩;have hm2:=Lib.hid (Mv.below HM.out (grow_below m));have hb2:=Lib.hid (H42.out.grow m);have hr2:=Lib.hid (HR2.out.below (grow_below m));have hf1:=Lib.hid (((grow_below m).cell (p:=⟨b,o+j*7+1,none⟩) hbl2).trans f1);have hf2:=Lib.hid (Nat.lt_of_lt_of_le hbl2 (grow_size m));clear k0 k1 q1 kl m0 ml HM H42 f0 f1 HR2 hbl2;generalize grow _ m=wq at *;have k0:=hm2.out.blk.cell 0;have k1:=hm2.out.blk.cell 1;have q1:=hm2.out.blk.frozen 1;have kl:=hm2.out.blk.lt;have m0:=hb2.out.cell 0;have ml:=hb2.out.lt;simp only[List.getElem?_toArray,List.getElem?_cons_zero,List.getElem?_cons_succ]at k0 k1 m0;have f1:=hf1.out;have hbl2:=hf2.out;go_wp2_with fail;refine wp_region_grow (by kernel_rfl) (by kernel_rfl) ?_
     repeat (go_big_quiet_step (fail))
     refine wpQuiet_nil ?_;rintro _ ⟨m2,rfl⟩;have hm3:=Lib.hid (Mv.below hm2.out (grow_below m2));have hb3:=Lib.hid (hb2.out.grow m2);have hr3:=Lib.hid (hr2.out.below (grow_below m2));clear k0 k1 q1 kl m0 ml hm2 hb2 hf1 hf2 f1 hbl2 hr2;generalize grow _ m2=wq2 at *;have k0:=hm3.out.blk.cell 0;have k1:=hm3.out.blk.cell 1;have q1:=hm3.out.blk.frozen 1;have kl:=hm3.out.blk.lt;have m0:=hb3.out.cell 0;have ml:=hb3.out.lt;simp only[List.getElem?_toArray,List.getElem?_cons_zero,List.getElem?_cons_succ]at k0 k1 m0
     go_upto_region 7 with fail
     have hm4:=Lib.hid (show Mv w1 (wq2.setCell ⟨R,1,none⟩ (.int .i64 ((j+1:Nat):Int))) R (some ⟨b,o,none⟩) N cap (j+1) from hm3.out.set (j+1));have hb4:=Lib.hid (show Blk (wq2.setCell ⟨R,1,none⟩ (.int .i64 ((j+1:Nat):Int))) g4 295 #[.pointer (some ⟨R,0,none⟩)] from hb3.out.far (p:=⟨R,1,none⟩) hne _);have hr4:=Lib.hid (show Rd (·=R) (wq2.setCell ⟨R,1,none⟩ (.int .i64 ((j+1:Nat):Int))) R h (some ⟨b,o,none⟩) cap b o l (j+1) from hr3.out.set (by rw[HN.out.1];omega));rw[show ((j+1:Nat):Int)=(j:Int)+1 by omega]at hm4 hb4 hr4;clear k0 k1 q1 kl m0 ml hm3 hb3 hr3;generalize wq2.setCell _ _=wq3 at *;have hbl:=cblanks_any R g4 h _ cap b o l (j+1) wq3 hr4.out hb4.out hne;rw[HN.out.1,HN.out.2.1,HK2.out]at hbl;have HBL:=Lib.hid hbl;clear hbl;go_wp2_with fail
     ((with_reducible refine(HBL.out).mono ?_);rintro e w' ⟨rfl,hmv⟩)
     have hm5:=Lib.hid (hm4.out.trans hmv);have hb5:=Lib.hid (hmv.keeps hb4.out hne);clear hmv hm4 hb4 hr4 HBL;have k0:=hm5.out.blk.cell 0;have k1:=hm5.out.blk.cell 1;have q1:=hm5.out.blk.frozen 1;have kl:=hm5.out.blk.lt;have m0:=hb5.out.cell 0;have ml:=hb5.out.lt;simp only[List.getElem?_toArray,List.getElem?_cons_zero,List.getElem?_cons_succ]at k0 k1 m0;have hSf:(9:Int)=9:=rfl
     by_cases hT:(tt=s1∨tt=s2)∧(apart=false∨(i<j∧j+1<k))
     · have HS:=Lib.hid (show SS=(tt,k) by rw[← HS1.out,if_pos ⟨trivial,hT⟩])
       have ways:((tt==s1)=true∨(tt==s1)=false∧(tt==s2)=true)∧(apart=false∨apart=true∧decide (i<j)=true∧decide (j+1<k)=true):=by
        refine⟨?_,?_⟩
        · by_cases h1:tt=s1
          · exact Or.inl (by simp[h1])
          · exact Or.inr ⟨by simp[h1],by rcases hT.1 with h|h<;>first|exact absurd h h1 | simp[h]⟩
        · rcases hT.2 with h|⟨h1,h2⟩
          · exact Or.inl h
          · cases apart
            · exact Or.inl rfl
            · exact Or.inr ⟨rfl,by simpa using h1,by simpa using h2⟩
       clear hT HS1;obtain⟨wa,wb⟩:=ways
       rcases wa with a1 | ⟨a1,a2⟩<;>rcases wb with rfl|⟨rfl,b1,b2⟩
       all_goals
        go_wp2_with fail;go_ret;refine⟨by rw[HS.out];rfl,?_⟩;rw[HS.out];exact⟨grownBy_trans (grownBy_of_below HB0.out _) hm5.out.gb,hm5.out.blk⟩
     · have HS:=Lib.hid (show SS=([],i) by rw[← HS1.out,if_neg (fun e=>hT e.2)])
       have ways:((tt==s1)=false∧(tt==s2)=false)∨(((tt==s1)=true∨(tt==s1)=false∧(tt==s2)=true)∧apart=true∧(decide (i<j)=false∨decide (i<j)=true∧decide (j+1<k)=false)):=by
        by_cases h1:tt=s1∨tt=s2
        · refine Or.inr ⟨?_,?_⟩
          · by_cases h2:tt=s1
            · exact Or.inl (by simp[h2])
            · exact Or.inr ⟨by simp[h2],by rcases h1 with h|h<;>first|exact absurd h h2 | simp[h]⟩
          · cases apart
            · exact absurd ⟨h1,Or.inl rfl⟩ hT
            · refine⟨rfl,?_⟩
              by_cases h3:i<j
              · refine Or.inr ⟨by simpa using h3,?_⟩;simp only[decide_eq_false_iff_not]
                exact fun h4=>hT ⟨h1,Or.inr ⟨h3,h4⟩⟩
              · exact Or.inl (by simpa using h3)
        · exact Or.inl ⟨by simpa using fun e=>h1 (Or.inl e),by simpa using fun e=>h1 (Or.inr e)⟩
       clear hT HS1
       rcases ways with ⟨a1,a2⟩ | ⟨a1 | ⟨a1,a2⟩,rfl,b1 | ⟨b1,b2⟩⟩
       all_goals
        go_wp2_with fail;go_ret;refine⟨by rw[HS.out];rfl,?_⟩;rw[HS.out];exact⟨grownBy_trans (grownBy_of_below HB0.out _) (grownBy_trans hm5.out.gb (grownBy_set _ ⟨R,1,none⟩ _)),by have:=hm5.out.blk.put 1 (.int .i64 i);simpa using this⟩
   · have gk:(tk==(9:Int))=false:=by simpa using hk
     rw[if_neg (fun e=>hk e.1)]at hS1;have HS:=Lib.hid hS1.symm;clear hk hS1;go_wp2_with fail;refine wp_region_grow (by kernel_rfl) (by kernel_rfl) ?_
     repeat (go_big_quiet_step (fail))
     refine wpQuiet_nil ?_;rintro _ ⟨m,rfl⟩;have hm2:=Lib.hid (Mv.below HM.out (grow_below m));have hb2:=Lib.hid (H42.out.grow m);clear k0 k1 q1 kl m0 ml HM H42 f0 f1 hbl2;generalize grow _ m=wq at *;have k0:=hm2.out.blk.cell 0;have k1:=hm2.out.blk.cell 1;have q1:=hm2.out.blk.frozen 1;have kl:=hm2.out.blk.lt;have m0:=hb2.out.cell 0;have ml:=hb2.out.lt;simp only[List.getElem?_toArray,List.getElem?_cons_zero,List.getElem?_cons_succ]at k0 k1 m0;go_wp2_with fail;go_ret;refine⟨by rw[HS.out];rfl,?_⟩;rw[HS.out];exact⟨grownBy_trans (grownBy_of_below HB0.out _) (grownBy_trans hm2.out.gb (grownBy_set _ ⟨R,1,none⟩ _)),by have:=hm2.out.blk.put 1 (.int .i64 i);simpa using this⟩
 · have gj:decide ((j:Int)<(N:Int))=false:=by simpa using hj
   have gjn:decide (j<N)=false:=by simpa using hj
   rw[List.getElem?_eq_none (by rw[HN.out.2.2];omega)]at hS1;have HS:=Lib.hid hS1.symm;clear hS1;go_wp2_with fail;refine wp_region_grow (by kernel_rfl) (by kernel_rfl) ?_
   repeat (go_big_quiet_step (fail))
   refine wpQuiet_nil ?_;rintro _ ⟨m,rfl⟩;have hm2:=Lib.hid (Mv.below HM.out (grow_below m));have hb2:=Lib.hid (H42.out.grow m);clear k0 k1 q1 kl m0 ml HM H42;generalize grow _ m=wq at *;have k0:=hm2.out.blk.cell 0;have k1:=hm2.out.blk.cell 1;have q1:=hm2.out.blk.frozen 1;have kl:=hm2.out.blk.lt;have m0:=hb2.out.cell 0;have ml:=hb2.out.lt;simp only[List.getElem?_toArray,List.getElem?_cons_zero,List.getElem?_cons_succ]at k0 k1 m0;go_wp2_with fail;go_ret;refine⟨by rw[HS.out];rfl,?_⟩;rw[HS.out];exact⟨grownBy_trans (grownBy_of_below HB0.out _) (grownBy_trans hm2.out.gb (grownBy_set _ ⟨R,1,none⟩ _)),by have:=hm2.out.blk.put 1 (.int .i64 i);simpa using this⟩
def WholeAt (h:Nat):Prop:=∀ (l:List Vl) (oa:Option Addr) (cap b o:Nat) (w:World),VsIn w h oa cap b o l →
 Calls Tryz.prog 244 #[.slice oa l.length cap] w fun e w'=>retE (· < w.heap.size) (wholeP (opF wholeP h) (l.map Vl.c)) e w'∧Below w.heap.size w w'
def ExprAt (h:Nat):Prop:=∀ (v:Vl) (w:World),VlIn w h v →
 Calls Tryz.prog 226 #[vv v] w fun e w'=>retE (· < w.heap.size) (exF wholeP h v.c) e w'∧Below w.heap.size w w'
def OperAt (h:Nat):Prop:=∀ (R:Nat) (oa:Option Addr) (cap b o:Nat) (l:List Vl) (i:Nat) (w:World),Rd (·=R) w R h oa cap b o l i →
 Calls Tryz.prog 264 #[.pointer (some ⟨R,0,none⟩)] w fun e w'=>retE (· < w.heap.size) (opAt (opF wholeP h) (l.map Vl.c) i) e w'∧∃ j,Mv w w' R oa l.length cap j∧j≤l.length∧(i<l.length→j=i+1)
theorem mv_far {w w0 w':World} {R L cap j:Nat} {oa:Option Addr} (hb:Below w.heap.size w w0) (h:Mv w0 w' R oa L cap j):Mv w w' R oa L cap j:=⟨grownBy_trans (grownBy_of_below hb _) h.gb,h.blk⟩
theorem Mv.far {w w' w2:World} {R L cap i:Nat} {oa:Option Addr} {row:Option Nat} (h1:Mv w w' R oa L cap i) (hg:w'.grownBy w2 row) (hr:∀ k,row=some k→w.heap.size≤k) (hR:R<w.heap.size):Mv w w2 R oa L cap i :=
 ⟨grownBy_far h1.gb hg hr,(hg.block R h1.blk.lt (fun e=>by have:=hr R e.symm;omega)).trans h1.blk⟩
theorem Blk.put7 {w:World} {g:Nat} {t:TypeId} {a0 a1 a2 a3 a4 a5 a6:Value} (h:Blk w g t #[a0,a1,a2,a3,a4,a5,a6]) (x0 x1 x2 x3 x4 x5 x6:Value) :
  Blk (((((((w.setCell ⟨g,0,none⟩ x0).setCell ⟨g,1,none⟩ x1).setCell ⟨g,2,none⟩ x2).setCell ⟨g,3,none⟩ x3).setCell ⟨g,4,none⟩ x4).setCell ⟨g,5,none⟩ x5).setCell ⟨g,6,none⟩ x6) g t #[x0,x1,x2,x3,x4,x5,x6]:=by
 have h1:=((((((h.put 0 x0).put 1 x1).put 2 x2).put 3 x3).put 4 x4).put 5 x5).put 6 x6;simpa using h1
theorem zeroX_ret (A:Nat→Prop) (w:World):retE A none (.returned (.tuple #[.agg #[.int .i64 0,.int .i64 0,.int .i64 0,.int .i64 0,.slice none 0 0],.bool false])) w:=⟨_,_,rfl,rfl,⟨0,0,0,0,none,0,0,rfl⟩,fun E h=>by cases h⟩
set_option maxRecDepth 20000 in
set_option maxHeartbeats 8000000 in
theorem oper_step (h:Nat) (hW:∀ h',h=h'+1→WholeAt h') (hX:ExprAt h):OperAt h:=by
 intro R oa cap b o l i w hr;obtain⟨XL,hXL⟩:∃ XL,l.map Vl.c=XL:=⟨_,rfl⟩;obtain⟨N,hN⟩:∃ N,l.length=N:=⟨_,rfl⟩
 have hNX:XL.length=N:=by rw[← hXL,List.length_map,hN]
 have hsm:=hr.vs.here.small;have hcl:=hr.vs.here.sl.le;have hcm:=hr.vs.here.sl.max;have hiN:=hr.pos;unfold maxLen at hcm;rw[hN]at hsm hcl hiN;rw[hXL,hN];obtain⟨Y,hY⟩:∃ Y,opAt (opF wholeP h) XL i=Y:=⟨_,rfl⟩;rw[hY];have HN:=Lib.hid (And.intro hN (And.intro hXL hNX));have HWX:=Lib.hid (And.intro hW hX);have HR:=Lib.hid hr;have HY:=Lib.hid hY
 -- the result's variable
 have hb0:=below_box w (.cells #[.int .i64 0,.int .i64 0,.int .i64 0,.int .i64 0,.slice none 0 0] 31);have h2:=Blk.new w 31 #[.int .i64 0,.int .i64 0,.int .i64 0,.int .i64 0,.slice none 0 0];have HR1:=Lib.hid (hr.below hb0);have HB0:=Lib.hid hb0;have H2:=Lib.hid h2;have hRlt:=hr.blk.lt;clear hr hb0 h2 hN hXL hNX hW hX hY
 go_enter Tryz.func264,Tryz.ntmps264
 go_upto_region 1 with fail
 obtain⟨g2,hg2⟩:∃ g2,w.heap.size=g2:=⟨_,rfl⟩;have HG:=Lib.hid hg2;rw[hg2]at H2 hRlt;simp only[hg2];clear hg2;generalize w.alloc _=w1 at *;have k0:=HR1.out.blk.cell 0;have k1:=HR1.out.blk.cell 1;have kl:=HR1.out.blk.lt;simp only[List.getElem?_toArray,List.getElem?_cons_zero,List.getElem?_cons_succ]at k0 k1;rw[HN.out.1]at k0
 have hne:g2≠R:=by omega
 refine wp_region_grow (by kernel_rfl) (by kernel_rfl) ?_
 repeat (go_big_quiet_step (fail))
 refine wpQuiet_nil ?_;rintro _ ⟨m,rfl⟩;have hr2:=Lib.hid (HR1.out.below (grow_below m));have hb2:=Lib.hid (below_grow HB0.out m);have h22:=Lib.hid (H2.out.grow m);clear k0 k1 kl HR1 HB0 H2;generalize grow _ m=w2 at *
 by_cases hi:i<N
 · have gi:decide ((N:Int)≤(i:Int))=false:=by simp;omega
   have gin:decide (N≤i)=false:=by simp;omega
   have ij0:(0:Int)≤(i:Int):=Int.natCast_nonneg _
   have ijN:(i:Int)<(N:Int):=by omega
   have hil:i<l.length:=by rw[HN.out.1];exact hi
   have hli:l[i]?=some l[i]:=List.getElem?_eq_getElem hil;have hvs:=hr2.out.vs.here;obtain⟨rfl,hbl2⟩:=hvs.sl.lies (by omega);obtain⟨x,hx⟩:∃ x,l[i]=x:=⟨_,rfl⟩;rw[hx]at hli
   have hxl:XL[i]?=some x.c:=by rw[← HN.out.2.1,List.getElem?_map,hli];rfl
   have hYx:opF wholeP h x.c=Y:=by
    have:=HY.out;unfold opAt at this;rw[hxl]at this;exact this
   have hvx:=hvs.each i x hli
   obtain ⟨h,rfl⟩:∃ h',h=h'+1:=by
    cases h with
    | zero=>exact hvx.elim
    | succ h=>exact⟨h,rfl⟩
   have HVX:=Lib.hid (hr2.out.vs.mono fun _ hw=>hw.each i x hli);have HXP:=Lib.hid (fun wz (hz:VlIn wz (h+1) x)=>HWX.out.2 x wz hz);obtain⟨t,koa,kb,ko,kcap,kids⟩:=x;have HWP:=Lib.hid (fun wz (hz:VsIn wz h koa kcap kb ko kids)=>HWX.out.1 h rfl kids koa kcap kb ko wz hz);obtain⟨K,hK⟩:∃ K,kids.length=K:=⟨_,rfl⟩;have f0:=hvs.cell hli (j:=0) rfl;have f1:=hvs.cell hli (j:=1) rfl;have f2:=hvs.cell hli (j:=2) rfl;have f3:=hvs.cell hli (j:=3) rfl;have f4:=hvs.cell hli (j:=4) rfl;have f5:=hvs.cell hli (j:=5) rfl;have f6:=hvs.cell hli (j:=6) rfl;rw[Nat.add_zero]at f0;rw[hK]at f6;obtain⟨tk,tt,⟨tn,td⟩,ti,tid⟩:=t;have hYx2:=hYx;rw[Vl.c_mk,opF]at hYx2;have HYX:=Lib.hid (And.intro hYx2 hK);clear hvs hli hil hx hxl hvx hYx hYx2 hK HWX HY;have k0:=hr2.out.blk.cell 0;have k1:=hr2.out.blk.cell 1;have kl:=hr2.out.blk.lt;simp only[List.getElem?_toArray,List.getElem?_cons_zero,List.getElem?_cons_succ]at k0 k1
   rw[HN.out.1]at k0;go_wp2_with fail;refine wp_region_loose 11 [Loose.claim 1 17 (.pointer (some ⟨R,0,none⟩)),Loose.claim 5 21 (.pointer (some ⟨R,0,none⟩)),Loose.cells 10 4 104 #[.int .i64 0,.string ⟨#[]⟩,.int .i64 0,.int .i64 0,.bool false,.bool false,.slice none 0 0] w2.heap.size] (by kernel_rfl) rfl (by kernel_rfl) (by kernel_rfl) (by kernel_rfl) (by kernel_rfl) ?_;simp only[headL,hushL,List.find?,Loose.claim_i,Loose.cells_i,Loose.rowL_i,Loose.claim_hush,Loose.cells_hush,Loose.rowL_hush,Nat.reduceBEq,Nat.reduceAdd]
   repeat (go_big_quiet_step (fail))
   refine wpQuiet_nil ⟨fun V m2=>?_,fun V m2=>?_⟩
   · simp only[obs_cons,obs_nil,List.getElem?_cons_zero,List.getElem?_cons_succ,fill_nil,fill_claim,fill_cells,fill_rowL,Loose.claim_i,Loose.cells_i,Loose.rowL_i,Act.put,List.setIfInBounds_toArray,List.set_cons_zero,List.set_cons_succ];refine⟨fun _=>?_,fun _=>?_,fun _=>?_,trivial⟩
     · go_wp2_with fail;exact post_claim rfl (Below.refl _ _)
     · go_wp2_with fail;exact post_claim rfl (Below.refl _ _)
     · go_wp2_with fail;exact post_cells rfl (grow_size m2)
   · simp only[laws_nil,laws_claim,laws_cells,laws_rowL,dist_nil,dist_claim,dist_cells,dist_rowL,dist1_nil,dist1_claim,dist1_cells,dist1_rowL,dist1_cells_rowL,dist1_rowL_cells,List.drop_succ_cons,List.drop_zero,and_true,fill_nil,fill_claim,fill_cells,fill_rowL,Loose.claim_i,Loose.cells_i,Loose.rowL_i,Act.put,List.setIfInBounds_toArray,List.set_cons_zero,List.set_cons_succ];rintro⟨g4,hv10,hg4,hbk⟩ _;rw[hv10];clear hv10;have hbw0:=grow_below m2;have hR2:=hr2.out.blk.lt;have hg22:=h22.out.lt;generalize grow w2 m2=w3 at *;have cb0:w3.cell? ⟨g4,0,none⟩=some (.int .i64 0):=(hbk).cell 0;have fcb0:=(hbk).frozen 0;have cb1:w3.cell? ⟨g4,1,none⟩=some (.string ⟨#[]⟩):=(hbk).cell 1;have fcb1:=(hbk).frozen 1;have cb2:w3.cell? ⟨g4,2,none⟩=some (.int .i64 0):=(hbk).cell 2;have fcb2:=(hbk).frozen 2;have cb3:w3.cell? ⟨g4,3,none⟩=some (.int .i64 0):=(hbk).cell 3;have fcb3:=(hbk).frozen 3
     have cb4:w3.cell? ⟨g4,4,none⟩=some (.bool false):=(hbk).cell 4;have fcb4:=(hbk).frozen 4;have cb5:w3.cell? ⟨g4,5,none⟩=some (.bool false):=(hbk).cell 5;have fcb5:=(hbk).frozen 5;have cb6:w3.cell? ⟨g4,6,none⟩=some (.slice none 0 0):=(hbk).cell 6;have fcb6:=(hbk).frozen 6;have lcb:=(hbk).lt
     go_upto_region 4 with fail
     have hbw:=Lib.hid (show Below w2.heap.size w2 (((((((w3.setCell ⟨g4,0,none⟩ (.int .i64 tk)).setCell ⟨g4,1,none⟩ (.string ⟨tt.toArray⟩)).setCell ⟨g4,2,none⟩ (.int .i64 tn)).setCell ⟨g4,3,none⟩ (.int .i64 td)).setCell ⟨g4,4,none⟩ (.bool ti)).setCell ⟨g4,5,none⟩ (.bool tid)).setCell ⟨g4,6,none⟩ (.slice koa K kcap)) from
      ((((((hbw0.setCell (p:=⟨g4,0,none⟩) hg4 _).setCell (p:=⟨g4,1,none⟩) hg4 _).setCell (p:=⟨g4,2,none⟩) hg4 _).setCell (p:=⟨g4,3,none⟩) hg4 _).setCell (p:=⟨g4,4,none⟩) hg4 _).setCell (p:=⟨g4,5,none⟩) hg4 _).setCell (p:=⟨g4,6,none⟩) hg4 _)
     have hbx:=Lib.hid (hbk.put7 (.int .i64 tk) (.string ⟨tt.toArray⟩) (.int .i64 tn) (.int .i64 td) (.bool ti) (.bool tid) (.slice koa K kcap));clear cb0 cb1 cb2 cb3 cb4 cb5 cb6 fcb0 fcb1 fcb2 fcb3 fcb4 fcb5 fcb6 lcb hbk hbw0 f0 f1 f2 f3 f4 f5 f6 k0 k1 kl;generalize World.setCell _ _ _=w4 at *;have hr4:=Lib.hid (hr2.out.below hbw.out);have h24:=Lib.hid (h22.out.below hbw.out h22.out.lt);have hm4:=Lib.hid (mv_far hb2.out (by have:=(Mv.refl hr2.out).below hbw.out;rw[HN.out.1]at this;exact this));have hv4:=Lib.hid (HVX.out.below hbw.out);have k0:=hr4.out.blk.cell 0;have k1:=hr4.out.blk.cell 1;have q1:=hr4.out.blk.frozen 1;have kl:=hr4.out.blk.lt;simp only[List.getElem?_toArray,List.getElem?_cons_zero,List.getElem?_cons_succ]at k0 k1
     go_upto_region 5 with fail
     have hRw:R<w.heap.size:=by have:=HG.out;omega
     have hm5:=Lib.hid (show Mv w (w4.setCell ⟨R,1,none⟩ (.int .i64 ((i+1:Nat):Int))) R (some ⟨b,o,none⟩) N cap (i+1) from hm4.out.set (i+1));have h25:=Lib.hid (show Blk (w4.setCell ⟨R,1,none⟩ (.int .i64 ((i+1:Nat):Int))) g2 31 #[.int .i64 0,.int .i64 0,.int .i64 0,.int .i64 0,.slice none 0 0] from h24.out.far (p:=⟨R,1,none⟩) hne _);have hb5:=Lib.hid (show Blk (w4.setCell ⟨R,1,none⟩ (.int .i64 ((i+1:Nat):Int))) g4 104 #[.int .i64 tk,.string ⟨tt.toArray⟩,.int .i64 tn,.int .i64 td,.bool ti,.bool tid,.slice koa K kcap] from hbx.out.far (p:=⟨R,1,none⟩) (by simp;omega) _);have hv5:=Lib.hid (show Safe (·=R) (w4.setCell ⟨R,1,none⟩ (.int .i64 ((i+1:Nat):Int))) (fun w=>VlIn w (h+1) (.mk ⟨tk,tt,(tn,td),ti,tid⟩ koa kb ko kcap kids)) from hv4.out.set (p:=⟨R,1,none⟩) rfl _);rw[show ((i+1:Nat):Int)=(i:Int)+1 by omega]at hm5 h25 hb5 hv5;clear k0 k1 q1 kl hm4 h24 hbx hv4 hr4
     generalize World.setCell _ _ _=w5 at *;have cb0:w5.cell? ⟨g4,0,none⟩=some (.int .i64 tk):=(hb5.out).cell 0;have fcb0:=(hb5.out).frozen 0;have cb1:w5.cell? ⟨g4,1,none⟩=some (.string ⟨tt.toArray⟩):=(hb5.out).cell 1;have fcb1:=(hb5.out).frozen 1;have cb2:w5.cell? ⟨g4,2,none⟩=some (.int .i64 tn):=(hb5.out).cell 2;have fcb2:=(hb5.out).frozen 2;have cb3:w5.cell? ⟨g4,3,none⟩=some (.int .i64 td):=(hb5.out).cell 3;have fcb3:=(hb5.out).frozen 3;have cb4:w5.cell? ⟨g4,4,none⟩=some (.bool ti):=(hb5.out).cell 4;have fcb4:=(hb5.out).frozen 4;have cb5:w5.cell? ⟨g4,5,none⟩=some (.bool tid):=(hb5.out).cell 5;have fcb5:=(hb5.out).frozen 5;have cb6:w5.cell? ⟨g4,6,none⟩=some (.slice koa K kcap):=(hb5.out).cell 6;have fcb6:=(hb5.out).frozen 6;have lcb:=(hb5.out).lt;have hlt2:=h25.out.lt
     have HFIN:=Lib.hid (show ∀ (v:Value) (ok:Bool) (w6 w7:World),ok=Y.isSome→isE5 v→(∀ E,Y=some E→isEx (· < w5.heap.size) E v w6)→Below w5.heap.size w5 w6→w6.grownBy w7 (some g2)→retE (· < w.heap.size) Y (.returned (.tuple #[v,.bool ok])) w7∧∃ j,Mv w w7 R (some ⟨b,o,none⟩) N cap j∧j≤N∧(i<N→j=i+1) from
      fun v ok w6 w7 h1 h2 h3 h4 h5=>⟨⟨v,ok,rfl,h1,h2,fun E hE=>((h3 E hE).grown h5 (fun k e _=>by injection e with e;omega)).anti fun b hb=>Or.inl (by have:=hm5.out.gb.size;omega)⟩,
       i+1,(hm5.out.below h4).far h5 (fun k e=>by injection e with e;have:=HG.out;omega) hRw,hi,fun _=>rfl⟩)
     by_cases hk:tk=21
     · have hYk:wholeP (opF wholeP h) (kids.map Vl.c)=Y:=by
        have:=HYX.out.1;rw[if_pos hk]at this;exact this
       have hwc:=HWP.out w5 hv5.out.here.kids;rw[HYX.out.2,hYk]at hwc;have HC:=Lib.hid hwc;subst hk;clear hwc hYk;go_wp2_with fail
       ((with_reducible refine HC.out.mono ?_);rintro e w6 ⟨⟨v,ok,rfl,hok,h5,hE⟩,hbb⟩)
       obtain⟨vk,vn,vd,vu,voa,vL,vc,rfl⟩:=h5;have h26:=h25.out.below hbb h25.out.lt;have cc0:w6.cell? ⟨g2,0,none⟩=some (.int .i64 0):=(h26).cell 0;have fcc0:=(h26).frozen 0;have cc1:w6.cell? ⟨g2,1,none⟩=some (.int .i64 0):=(h26).cell 1;have fcc1:=(h26).frozen 1;have cc2:w6.cell? ⟨g2,2,none⟩=some (.int .i64 0):=(h26).cell 2;have fcc2:=(h26).frozen 2;have cc3:w6.cell? ⟨g2,3,none⟩=some (.int .i64 0):=(h26).cell 3;have fcc3:=(h26).frozen 3;have cc4:w6.cell? ⟨g2,4,none⟩=some (.slice none 0 0):=(h26).cell 4;have fcc4:=(h26).frozen 4;have lcc:=(h26).lt;have HE:=Lib.hid (And.intro hok (And.intro hE hbb));have H26:=Lib.hid h26;clear h26 hok hE hbb cb0 cb1 cb2 cb3 cb4 cb5 cb6 fcb0 fcb1 fcb2 fcb3 fcb4 fcb5 fcb6 lcb;go_wp2_with fail;have hputs:=(H26.out).put5 (.int .i64 vk) (.int .i64 vn) (.int .i64 vd) (.int .i64 vu) (.slice voa vL vc)
       refine bodyPost_ret (v:=.tuple #[.agg #[.int .i64 vk,.int .i64 vn,.int .i64 vd,.int .i64 vu,.slice voa vL vc],.bool ok]) ?_ rfl ?_
       · refine ret_ex2 Tryz.results264 ?_ ?_ hputs rfl
         all_goals rfl
       · exact HFIN.out _ _ w6 _ HE.out.1 ⟨_,_,_,_,_,_,_,rfl⟩ HE.out.2.1 HE.out.2.2 (grownBy_puts [.int .i64 vk,.int .i64 vn,.int .i64 vd,.int .i64 vu,.slice voa vL vc] w6 g2 0)
     · have gk:(tk==(21:Int))=false:=by simpa using hk
       have hYk:exF wholeP (h+1) (Vl.mk ⟨tk,tt,(tn,td),ti,tid⟩ koa kb ko kcap kids).c=Y:=by
        have:=HYX.out.1;rw[if_neg hk]at this;rw[Vl.c_mk,exF];exact this
       have hwc:=HXP.out w5 hv5.out.here;rw[hYk]at hwc
       have hvv:vv (Vl.mk ⟨tk,tt,(tn,td),ti,tid⟩ koa kb ko kcap kids)=.agg #[.int .i64 tk,.string ⟨tt.toArray⟩,.int .i64 tn,.int .i64 td,.bool ti,.bool tid,.slice koa K kcap]:=by rw[← HYX.out.2];rfl
       rw[hvv]at hwc;have HC:=Lib.hid hwc;clear hwc hYk hvv hk;go_wp2_with fail
       ((with_reducible refine HC.out.mono ?_);rintro e w6 ⟨⟨v,ok,rfl,hok,h5,hE⟩,hbb⟩)
       obtain⟨vk,vn,vd,vu,voa,vL,vc,rfl⟩:=h5;have h26:=h25.out.below hbb h25.out.lt;have cc0:w6.cell? ⟨g2,0,none⟩=some (.int .i64 0):=(h26).cell 0;have fcc0:=(h26).frozen 0;have cc1:w6.cell? ⟨g2,1,none⟩=some (.int .i64 0):=(h26).cell 1;have fcc1:=(h26).frozen 1;have cc2:w6.cell? ⟨g2,2,none⟩=some (.int .i64 0):=(h26).cell 2;have fcc2:=(h26).frozen 2;have cc3:w6.cell? ⟨g2,3,none⟩=some (.int .i64 0):=(h26).cell 3;have fcc3:=(h26).frozen 3;have cc4:w6.cell? ⟨g2,4,none⟩=some (.slice none 0 0):=(h26).cell 4;have fcc4:=(h26).frozen 4;have lcc:=(h26).lt;have HE:=Lib.hid (And.intro hok (And.intro hE hbb));have H26:=Lib.hid h26;clear h26 hok hE hbb cb0 cb1 cb2 cb3 cb4 cb5 cb6 fcb0 fcb1 fcb2 fcb3 fcb4 fcb5 fcb6 lcb;go_wp2_with fail;have hputs:=(H26.out).put5 (.int .i64 vk) (.int .i64 vn) (.int .i64 vd) (.int .i64 vu) (.slice voa vL vc)
       refine bodyPost_ret (v:=.tuple #[.agg #[.int .i64 vk,.int .i64 vn,.int .i64 vd,.int .i64 vu,.slice voa vL vc],.bool ok]) ?_ rfl ?_
       · refine ret_ex2 Tryz.results264 ?_ ?_ hputs rfl
         all_goals rfl
       · exact HFIN.out _ _ w6 _ HE.out.1 ⟨_,_,_,_,_,_,_,rfl⟩ HE.out.2.1 HE.out.2.2 (grownBy_puts [.int .i64 vk,.int .i64 vn,.int .i64 vd,.int .i64 vu,.slice voa vL vc] w6 g2 0)
 · have gi:decide ((N:Int)≤(i:Int))=true:=by simp;omega
   have gin:decide (N≤i)=true:=by simp;omega
   have hY0:Y=none:=by
    rw[← HY.out];unfold opAt;rw[List.getElem?_eq_none (by rw[HN.out.2.2];omega)]
   subst hY0;have c0:=h22.out.cell 0;have hmv:=Lib.hid (mv_far hb2.out (by have:=Mv.refl hr2.out;rw[HN.out.1]at this;exact this));have c0:=h22.out.cell 0;have c1:=h22.out.cell 1;have c2:=h22.out.cell 2;have c3:=h22.out.cell 3;have c4:=h22.out.cell 4;have d0:=h22.out.frozen 0;have d1:=h22.out.frozen 1;have d2:=h22.out.frozen 2;have d3:=h22.out.frozen 3;have d4:=h22.out.frozen 4;have dl:=h22.out.lt;simp only[List.getElem?_toArray,List.getElem?_cons_zero,List.getElem?_cons_succ]at c0 c1 c2 c3 c4;go_wp2_with fail;have hputs:=(h22.out).put5 (.int .i64 0) (.int .i64 0) (.int .i64 0) (.int .i64 0) (.slice none 0 0);refine bodyPost_ret (v:=.tuple #[.agg #[.int .i64 0,.int .i64 0,.int .i64 0,.int .i64 0,.slice none 0 0],.bool false]) ?_ rfl ?_
   · refine ret_ex2 Tryz.results264 ?_ ?_ hputs rfl
     all_goals rfl
   · exact⟨zeroX_ret _ _,i,hmv.out.far (grownBy_puts [.int .i64 0,.int .i64 0,.int .i64 0,.int .i64 0,.slice none 0 0] w2 g2 0) (fun k e=>by have:=HG.out;injection e with e;omega) (by have:=HG.out;omega),hiN,fun h=>absurd h hi⟩
theorem owns_fresh {w:World} {base g n size:Nat} {e:TypeId} {cs:Array Value} (h:Blk w g e cs) (hb:base≤g) (hs:cs.size=n*size) (hn:n≤maxLen):w.ownsRow base e size (.slice (some ⟨g,0,none⟩) n n) n cs.toList :=
 ⟨by simpa using hs,Or.inr ⟨g,n,cs,rfl,hb,h,Nat.le_refl _,hn,hs,by rw[List.take_of_length_le (by simp[hs])]⟩⟩
theorem skC_top (R:List Fm) (f:Fm):skC (R++[f])=(f.t,f.kids.map Vl.c)::skC R:=by
 unfold skC;rw[List.map_append,List.reverse_append];rfl
theorem skC_nil {R:List Fm}:skC R=[]↔R=[]:=by
 unfold skC;constructor
 · intro h;have:=congrArg List.length h;simpa using this
 · rintro rfl;rfl
theorem skC_length (R:List Fm):(skC R).length=R.length:=by unfold skC;simp
theorem shutF_sk (R:List Fm) (p f:Fm):shutF (skC (R++[p]++[f]))=(p.t,p.kids.map Vl.c++[.mk f.t (f.kids.map Vl.c)])::skC R:=by
 rw[skC_top,skC_top];rfl
theorem Sk.begin {w:World} {g:Nat} (h:Blk w g 137 zero7) (B:Nat) (hB:B≤g):Sk B w (.slice (some ⟨g,0,none⟩) 1 1) [⟨zeroTk,.slice none 0 0,[]⟩] 0:=by
 refine⟨owns_fresh (n:=1) h hB rfl (by decide),fun x hx=>?_,List.pairwise_singleton _ _,fun x hx=>?_,fun x hx=>?_,0,fun w' _ _ x hx k hk=>?_⟩
 all_goals obtain rfl:=List.mem_singleton.1 hx
 · exact World.ownsRow_nil _ _ _ _
 · exact⟨by unfold I64 zeroTk;decide,by unfold Is64 zeroTk;decide,Nat.zero_le _⟩
 · exact Nat.le_refl _
 · cases hk
theorem stepV_cons (t0:Tk) (k0:List Vt) (r:List (Tk×List Vt)) (t:Tk):stepV ((t0,k0)::r) t=if r≠[]∧t.kind=closeF t0.kind then shutF ((t0,k0)::r) else if closeF t.kind≠0 then (t,[])::(t0,k0)::r else (t0,k0++[.mk t []])::r:=rfl
theorem closer_same (k:Int) (w:World):Calls Tryz.prog 73 #[.int .i64 k] w fun e w'=>e=.returned (.int .i64 (closeF k))∧w=w':=(closer_any k w).mono fun _ _ ⟨h1,h2⟩=>⟨h1,h2.symm⟩
theorem last_of {S:List Fm} (h:S≠[]):∃ R f,S=R++[f]:=⟨S.dropLast,S.getLast h,(List.dropLast_concat_getLast h).symm⟩
set_option maxRecDepth 20000 in
set_option maxHeartbeats 8000000 in
theorem values_any (l:List Tk) (oa:Option Addr) (cap b o:Nat) (w:World) (hs:Sl w oa l.length cap b o 6 (toksV l)) (h64:∀ t∈l,Tk64 t) (hm:l.length≤274877906944) :
  Calls Tryz.prog 51 #[.slice oa l.length cap] w fun e w'=>(∃ v,e=.returned v∧∃ h,isVs (· < w.heap.size) h (valuesF l) v w')∧Below w.heap.size w w':=by
 obtain⟨X,hX⟩:∃ X,l.foldl stepV [(zeroTk,[])]=X:=⟨_,rfl⟩;obtain⟨Y,hY⟩:∃ Y,valuesF l=Y:=⟨_,rfl⟩
 have hXY:Y=match closeV X.length X with
  | (_,k)::_=>k
  | []=>[]:=by rw[← hY,← hX];rfl
 rw[hY];obtain⟨N,hN⟩:∃ N,l.length=N:=⟨_,rfl⟩;rw[hN]at hm ⊢;obtain⟨B,hB⟩:∃ B,w.heap.size=B:=⟨_,rfl⟩;simp only[hB];have hcl:=hs.le;have hcm:=hs.max;unfold maxLen at hcm;rw[hN]at hcl;have HS:=Lib.hid hs;have HX:=Lib.hid hX;have HXY:=Lib.hid hXY;have HN:=Lib.hid hN;have H64:=Lib.hid h64;have HB:=Lib.hid hB;clear hs hX hXY hY hN h64 hB
 go_enter Tryz.func51,Tryz.ntmps51
 go_upto_region 2 with fail
 have HK0:=Lib.hid (show Sk B (w.alloc (.cells #[.int .i64 0,.string ⟨#[]⟩,.int .i64 0,.int .i64 0,.bool false,.bool false,.slice none 0 0] 137)) (.slice (some ⟨w.heap.size,0,none⟩) 1 1) [⟨zeroTk,.slice none 0 0,[]⟩] 0 from Sk.begin (Blk.new w 137 zero7) B (by rw[HB.out];exact Nat.le_refl _));have HB0:=Lib.hid (show Below B w (w.alloc (.cells #[.int .i64 0,.string ⟨#[]⟩,.int .i64 0,.int .i64 0,.bool false,.bool false,.slice none 0 0] 137)) by rw[← HB.out];exact below_box _ _);generalize w.heap.size=g0 at HK0 ⊢;generalize w.alloc _=w0 at *
 go_upto_block 0 with fail
 go_cut [3] (fun s wx=>∃ (S:List Fm) (gs c L:Nat),s=.slice (some ⟨gs,0,none⟩) L c∧Hid (S.length=L∧S≠[]∧L≤N+1)∧Hid (Sk B wx (.slice (some ⟨gs,0,none⟩) L c) S N)∧Hid (skC S=X)∧Hid (Below B w wx))
 case first =>
  go_wp2_with fail
  go_loopg [3,11] N (fun q s3 s wr=>∃ (i:Nat) (S:List Fm) (gs c L:Nat),s=.int .i64 i∧s3=.slice (some ⟨gs,0,none⟩) L c∧Hid (S.length=L∧S≠[]∧L≤i+1)∧Hid (Sk B wr (.slice (some ⟨gs,0,none⟩) L c) S i)∧Hid (skC S=(l.take i).foldl stepV [(zeroTk,[])])∧Hid (Below B w wr)∧i≤N∧N-i≤q)
  case atStart=>exact⟨0,_,g0,1,1,rfl,rfl,Lib.hid ⟨rfl,by simp,Nat.le_refl _⟩,HK0,Lib.hid rfl,HB0,Nat.zero_le _,by omega⟩
  case round =>
   clear HK0 HB0;obtain⟨i,S,gs,c,L,rfl,rfl,hL,hK,hC,hb,hiN,hq⟩:=hrel
   by_cases hi:i<N
   · have gi:decide ((i:Int)<(N:Int))=true:=by simpa using hi
     have gin:decide (i<N)=true:=by simpa using hi
     have hil:i<l.length:=by rw[HN.out];exact hi
     have hli:l[i]?=some l[i]:=List.getElem?_eq_getElem hil;have hs2:=HS.out.below (by rw[HB.out];exact hb.out);obtain⟨rfl,hbl⟩:=hs2.lies (by omega);have ht64:=H64.out _ (List.mem_of_getElem? hli)
     have hfold:(l.take (i+1)).foldl stepV [(zeroTk,[])]=stepV (skC S) l[i]:=by rw[List.take_succ_eq_append_getElem hil,List.foldl_append,← hC.out];rfl
     obtain⟨t,ht⟩:∃ t,l[i]=t:=⟨_,rfl⟩;rw[ht]at hli ht64 hfold
     have hcell:∀ j v,(tkcells t)[j]?=some v→wr.cell? ⟨b,o+(i*6+j),none⟩=some v:=fun j v hv=>hs2.cell _ _ (flat_at (f:=tkcells) (sz:=6) (fun _=>rfl) l i t j v hli hv)
     obtain⟨tk,tt,⟨tn,td⟩,ti,tid⟩:=t;have f0:wr.cell? ⟨b,o+i*6,none⟩=some (.int .i64 tk):=hcell 0 _ rfl;have f1:wr.cell? ⟨b,o+i*6+1,none⟩=some (.string ⟨tt.toArray⟩):=hcell 1 _ rfl;have f2:wr.cell? ⟨b,o+i*6+2,none⟩=some (.int .i64 tn):=hcell 2 _ rfl;have f3:wr.cell? ⟨b,o+i*6+3,none⟩=some (.int .i64 td):=hcell 3 _ rfl;have f4:wr.cell? ⟨b,o+i*6+4,none⟩=some (.bool ti):=hcell 4 _ rfl;have f5:wr.cell? ⟨b,o+i*6+5,none⟩=some (.bool tid):=hcell 5 _ rfl;have HF:=Lib.hid hfold;have HT:=Lib.hid ht64;obtain⟨hL1,hL2,hL3⟩:=hL.out;obtain⟨R,f,rfl⟩:=last_of hL2;obtain⟨n,hn⟩:∃ n,R.length=n:=⟨_,rfl⟩
     have hLn:n+1=L:=by rw[← hL1,List.length_append,hn];rfl
     have iL:(L:Int)-1=(n:Int):=by omega
     have HL:=Lib.hid (And.intro hn (And.intro hLn hL3))
     have hL4:L≤1099511627777:=by omega
     clear hcell hfold ht64 hs2 hli hil ht hL hL1 hL2 hL3 hn hC
     go_upto_region 6 with fail
     have hbx:=Blk.new wr 102 #[.int .i64 tk,.string ⟨tt.toArray⟩,.int .i64 tn,.int .i64 td,.bool ti,.bool tid];have hb1:=Lib.hid (Below.alloc hb.out (by have:=hb.out.size;rw[← HB.out];exact this) (.cells #[.int .i64 tk,.string ⟨tt.toArray⟩,.int .i64 tn,.int .i64 td,.bool ti,.bool tid] 102));have hK1:=Lib.hid (hK.out.below (below_box wr (.cells #[.int .i64 tk,.string ⟨tt.toArray⟩,.int .i64 tn,.int .i64 td,.bool ti,.bool tid] 102)));clear f0 f1 f2 f3 f4 f5 hb hK;generalize wr.heap.size=g5 at *;generalize wr.alloc _=w1 at *;have cb0:w1.cell? ⟨g5,0,none⟩=some (.int .i64 tk):=(hbx).cell 0;have fcb0:=(hbx).frozen 0;have cb1:w1.cell? ⟨g5,1,none⟩=some (.string ⟨tt.toArray⟩):=(hbx).cell 1;have fcb1:=(hbx).frozen 1;have cb2:w1.cell? ⟨g5,2,none⟩=some (.int .i64 tn):=(hbx).cell 2;have fcb2:=(hbx).frozen 2;have cb3:w1.cell? ⟨g5,3,none⟩=some (.int .i64 td):=(hbx).cell 3;have fcb3:=(hbx).frozen 3
     have cb4:w1.cell? ⟨g5,4,none⟩=some (.bool ti):=(hbx).cell 4;have fcb4:=(hbx).frozen 4;have cb5:w1.cell? ⟨g5,5,none⟩=some (.bool tid):=(hbx).cell 5;have fcb5:=(hbx).frozen 5;have lcb:=(hbx).lt;have HBX:=Lib.hid hbx;clear hbx;have hrow:=hK1.out.row;rw[List.length_append,List.length_singleton,HL.out.1,HL.out.2.1,List.flatMap_append,List.flatMap_singleton]at hrow;obtain⟨fk,hfk⟩:∃ fk,f.t.kind=fk:=⟨_,rfl⟩
     have hRl:(R.flatMap fmcells).length=n*7:=by rw[flat_length fmcells_length,HL.out.1]
     have hc0:w1.cell? ⟨gs,n*7,none⟩=some (.int .i64 fk):=owns_cell hrow (by rw[List.getElem?_append_right (by omega),hRl,Nat.sub_self,← hfk];rfl);have iN0:(0:Int)≤(n:Int):=Int.natCast_nonneg _
     have iNn:(n:Int)<(L:Int):=by omega
     have iNn2:n<L:=by omega
     have hgsl:gs<w1.heap.size:=(hrow.lt gs rfl).2;have HFK:=Lib.hid hfk;have HRL:=Lib.hid hRl;clear hrow hfk hRl
     go_cut [31] (fun s wx=>s=.bool (decide (0<n)&&(tk==closeF fk))∧Hid (Below w1.heap.size w1 wx))
     case first =>
      by_cases h0:0<n
      · have g1:decide ((0:Int)<(n:Int))=true:=by simpa using h0
        have g2:decide (0<n)=true:=by simpa using h0
        refine wp_region_grow (by kernel_rfl) (by kernel_rfl) ?_
        repeat (go_big_quiet_step ((first | (go_at_call 73;with_reducible exact calls_grow_same (closer_same fk _)))))
        refine wpQuiet_nil ?_;rintro _ ⟨m,rfl⟩;go_wp2_with fail;go_meet
        case rel=>exact⟨by simp[g2],Lib.hid (grow_below m)⟩
      · have g1:decide ((0:Int)<(n:Int))=false:=by simp;omega
        have g2:decide (0<n)=false:=by simp;omega
        refine wp_region_grow (by kernel_rfl) (by kernel_rfl) ?_
        repeat (go_big_quiet_step ((first | (go_at_call 73;with_reducible exact calls_grow_same (closer_same fk _)))))
        refine wpQuiet_nil ?_;rintro _ ⟨m,rfl⟩;go_wp2_with fail;go_meet
        case rel=>exact⟨by simp[g2],Lib.hid (grow_below m)⟩
     case rest =>
      obtain⟨rfl,hbw⟩:=hcut;have hK2:=Lib.hid (hK1.out.below hbw.out);have hb2:=Lib.hid (hb1.out.trans (Below.mono hbw.out (by have:=hb1.out.size;have:=HB.out;omega)));have hbx:=HBX.out.below hbw.out HBX.out.lt
      have hwB:B≤wc.heap.size:=by have:=hb2.out.size;have:=HB.out;omega
      clear hbw hb1 hK1 HBX cb0 cb1 cb2 cb3 cb4 cb5 fcb0 fcb1 fcb2 fcb3 fcb4 fcb5 lcb hc0 hgsl
      by_cases hA:0<n∧tk=closeF fk
      · -- the innermost is closed
        have g6:(decide (0<n)&&(tk==closeF fk))=true:=by simp[hA.1,hA.2]
        obtain⟨R,p,rfl⟩:=last_of (S:=R) (fun e=>by have:=HL.out.1;rw[e]at this;simp at this;omega);obtain⟨n',hn'⟩:∃ n',R.length=n':=⟨_,rfl⟩
        have hnn:n'+1=n:=by rw[← HL.out.1,List.length_append,hn'];rfl
        have hLL:n'+2=L:=by have:=HL.out.2.1;omega
        have hsh:=shut_any B i n' R p f gs c wc hn' (by rw[hLL];exact hK2.out) hwB (by omega);rw[hnn,hLL]at hsh;have HSH:=Lib.hid hsh;have HA:=Lib.hid hA;clear hsh hA hnn hLL hbx;rw[g6];clear g6;go_wp2_with fail
        ((with_reducible refine HSH.out.mono ?_);rintro e w2 ⟨rfl,⟨v',kd,hsk,hkc⟩,hbb⟩)
        have H2:=Lib.hid (And.intro hsk (And.intro hkc hbb));clear hsk hkc hbb HSH;go_wp2_with fail
        go_roundg (N-(i+1))
        case measure=>omega
        case rel =>
         obtain⟨hsk,hkc,hbb⟩:=H2.out;refine⟨i+1,_,gs,c,n,by go_num,rfl,Lib.hid ⟨by rw[List.length_append,← HL.out.1,List.length_append];rfl,by simp,by have:=HL.out;omega⟩,Lib.hid hsk,Lib.hid ?_,Lib.hid (hb2.out.trans hbb),hi,Nat.le_refl _⟩;rw[HF.out,skC_top,skC_top,skC_top];rw[stepV_cons,if_pos ⟨by simp,by rw[HFK.out];exact HA.out.2⟩];simp only[shutF,List.map_append,List.map_cons,List.map_nil,hkc]
      · have g6:(decide (0<n)&&(tk==closeF fk))=false:=by
         apply Bool.eq_false_iff.2
         intro h;simp only[Bool.and_eq_true,decide_eq_true_eq,beq_iff_eq]at h;exact hA h
        have hnot:¬ (skC R≠[]∧tk=closeF f.t.kind):=fun h=>hA ⟨by
         rcases Nat.eq_zero_or_pos n with h0 | h0
         · have hr:R=[]:=List.eq_nil_of_length_eq_zero (by rw[HL.out.1,h0]);exact absurd (skC_nil.2 hr) h.1
         · exact h0,by rw[← HFK.out];exact h.2⟩
        have HNOT:=Lib.hid hnot;rw[g6];clear g6 hA hnot;have cd0:wc.cell? ⟨g5,0,none⟩=some (.int .i64 tk):=(hbx).cell 0;have fcd0:=(hbx).frozen 0;have cd1:wc.cell? ⟨g5,1,none⟩=some (.string ⟨tt.toArray⟩):=(hbx).cell 1;have fcd1:=(hbx).frozen 1;have cd2:wc.cell? ⟨g5,2,none⟩=some (.int .i64 tn):=(hbx).cell 2;have fcd2:=(hbx).frozen 2;have cd3:wc.cell? ⟨g5,3,none⟩=some (.int .i64 td):=(hbx).cell 3;have fcd3:=(hbx).frozen 3;have cd4:wc.cell? ⟨g5,4,none⟩=some (.bool ti):=(hbx).cell 4;have fcd4:=(hbx).frozen 4;have cd5:wc.cell? ⟨g5,5,none⟩=some (.bool tid):=(hbx).cell 5;have fcd5:=(hbx).frozen 5;have lcd:=(hbx).lt
        by_cases hO:closeF tk=0
        · -- a value that opens nothing
          have gO:(closeF tk != 0)=false:=by simp[hO]
          have HO:=Lib.hid hO;clear hO;go_wp2_with fail;go_wp2_with fail
          ((with_reducible refine(closer_same tk _).mono ?_);rintro e w' ⟨rfl,rfl⟩)
          have hk2:=hK2.out;rw[← HL.out.2.1]at hk2;have hfm:f∈R++[f]:=List.mem_append_right _ (List.mem_singleton.2 rfl);have hkP:=hk2.kid f hfm;have hlP:=hk2.len f hfm;have hrowP:=hk2.row;rw[List.length_append,List.length_singleton,HL.out.1,List.flatMap_append,List.flatMap_singleton]at hrowP;have hRl:=HRL.out;have hcP:wc.cell? ⟨gs,n*7+6,none⟩=some f.v:=owns_cell hrowP (by rw[List.getElem?_append_right (by omega),hRl,show n*7+6-n*7=6 by omega];rfl);have hfP:wc.frozen? ⟨gs,n*7+6,none⟩=false:=owns_frozen hrowP _;have hgsl:=(hrowP.lt gs rfl).2
          have hneP:f.v.ownBlock≠some gs:=fun e=>owns_apart hkP hrowP (by decide) e rfl
          obtain⟨ft,fv,fkids⟩:=f;simp only at hkP hlP hcP hneP;obtain⟨poa,pc,pg,rfl,_,_⟩:=sl_of_own hkP;obtain⟨k,hk⟩:∃ k,fkids.length=k:=⟨_,rfl⟩;rw[hk]at hkP hlP hcP hneP;have HKP:=Lib.hid hkP;have HKK:=Lib.hid hk;have HK2:=Lib.hid hk2
          have hkk:k≤1099511627776:=by omega
          have hk1:(k:Int)<(k:Int)+1:=by omega
          have hwr:IntKind.i64.wrap (n:Int)=(n:Int):=by rw[IntKind.wrap_i64];omega
          clear hkP hk hk2 hrowP hfm hK2 hRl cd0 cd1 cd2 cd3 cd4 cd5 fcd0 fcd1 fcd2 fcd3 fcd4 fcd5 lcd;have cd0:=hbx.cell 0;have cd1:=hbx.cell 1;have cd2:=hbx.cell 2;have cd3:=hbx.cell 3;have cd4:=hbx.cell 4;have cd5:=hbx.cell 5;have lcd:=hbx.lt;simp only[List.getElem?_toArray,List.getElem?_cons_zero,List.getElem?_cons_succ]at cd0 cd1 cd2 cd3 cd4 cd5;go_wp2_with fail;refine wp_region_phase 9 [Loose.claim 6 49 (.agg #[.int .i64 tk,.string ⟨tt.toArray⟩,.int .i64 tn,.int .i64 td,.bool ti,.bool tid,.slice none 0 0]),Loose.claim 7 50 (.int .i64 k),Loose.rowL 8 51 104 1 #[.int .i64 0,.string ⟨#[]⟩,.int .i64 0,.int .i64 0,.bool false,.bool false,.slice none 0 0] wc.heap.size] (by kernel_rfl) (by kernel_rfl) (by kernel_rfl) rfl (by kernel_rfl) (by kernel_rfl) (by kernel_rfl) (by kernel_rfl) ?_
          simp only[List.take_succ_cons,List.take_zero,headL,hushL,List.find?,Loose.claim_i,Loose.cells_i,Loose.rowL_i,Loose.claim_hush,Loose.cells_hush,Loose.rowL_hush,Loose.val_i,Loose.rowS_i,Loose.val_hush,Loose.rowS_hush,Loose.fw_i,Loose.fw_hush,Loose.rw_i,Loose.rw_hush,Nat.reduceBEq,Nat.reduceAdd]
          repeat (go_big_quiet_step (fail))
          refine wpQuiet_nil ⟨fun V m=>?_,fun V m=>?_⟩
          · simp only[List.take_succ_cons,List.take_zero,obs_cons,obs_nil,List.getElem?_cons_zero,List.getElem?_cons_succ,fill_nil,fill_claim,fill_cells,fill_rowL,Loose.claim_i,Loose.cells_i,Loose.rowL_i,Act.put,List.setIfInBounds_toArray,List.set_cons_zero,List.set_cons_succ,fill_val,fill_rowS,Loose.val_i,Loose.rowS_i,fill_fw,Loose.fw_i,fill_rw,Loose.rw_i];refine⟨fun _=>?_,fun _=>?_,fun _=>?_,trivial⟩
            · go_wp2_with fail;exact post_claim rfl (Below.refl _ _)
            · go_wp2_with fail;exact post_claim rfl (Below.refl _ _)
            · go_wp2_with fail;exact post_rowL rfl (grow_size m)
          · simp only[laws_nil,laws_claim,laws_cells,laws_rowL,laws_val,laws_rowS,laws_fw,laws_rw,dist_nil,dist_claim,dist_cells,dist_rowL,dist_val,dist_rowS,dist_fw,dist_rw,dist1_nil,dist1_claim,dist1_cells,dist1_rowL,dist1_val,dist1_fw,dist1_cells_rowL,dist1_rowL_cells,List.length_cons,List.length_nil,Nat.reduceAdd,Nat.reduceSub,and_true,fill_nil,fill_claim,fill_cells,fill_rowL,Loose.claim_i,Loose.cells_i,Loose.rowL_i,Act.put,List.setIfInBounds_toArray,List.set_cons_zero,List.set_cons_succ,fill_val,fill_rowS,Loose.val_i,Loose.rowS_i,fill_fw,Loose.fw_i,fill_rw,Loose.rw_i];rintro⟨gb,hv8,hgb,hbk⟩ _;rw[hv8];clear hv8;have hgm:=grow_below m;generalize grow wc m=wd at *;refine wpAny_ready (rs:=[9]) (by kernel_rfl) (by simp) ?_;refine AllReady.cons rfl (fun K hK=>?_) AllReady.nil
            refine step_add elVal (by rfl) _ _ (by rfl) (by rfl) (owns_belowW HKP.out hgm) (by have:=hgm.size;omega) hbk 1 (by rfl) (by rfl) (by simp[Value.oneCell']) (by omega) (by omega) ?_;intro gg cap3 w3 ho3 hg3 hat;refine hK _ _ ?_;clear hK K;change wpAny _ _ _ _ _ _ (Act.put _ (some 52) _) _
            try simp only[Act.put,List.setIfInBounds_toArray,List.set_cons_zero,List.set_cons_succ]
            refine wpAny_take (i:=10) (v:=?vv10) rfl (by kernel_rfl) (by kernel_rfl) (by kernel_rfl) (fun _ _ _ h=>h) (Or.inl ⟨by rfl,?hy10⟩) ?_
            case hy10=>(intro w;go_simp;try with_reducible rfl)
            change wpAny _ _ _ _ _ _ (Act.put _ (some 53) _) _
            try simp only[Act.put,List.setIfInBounds_toArray,List.set_cons_zero,List.set_cons_succ]
            refine wpAny_take (i:=12) (v:=?vv12) rfl (by kernel_rfl) (by kernel_rfl) (by kernel_rfl) (fun _ _ _ h=>h) (Or.inl ⟨by rfl,?hy12⟩) ?_
            case hy12=>(intro w;go_simp;try with_reducible rfl)
            change wpAny _ _ _ _ _ _ (Act.put _ (some 54) _) _
            try simp only[Act.put,List.setIfInBounds_toArray,List.set_cons_zero,List.set_cons_succ]
            refine wpAny_take (i:=13) (v:=?vv13) rfl (by kernel_rfl) (by kernel_rfl) (by kernel_rfl) (fun _ _ _ h=>h) (Or.inl ⟨by rfl,?hy13⟩) ?_
            case hy13=>(intro w;go_simp;try with_reducible rfl)
            change wpAny _ _ _ _ _ _ (Act.put _ (some 55) _) _
            try simp only[Act.put,List.setIfInBounds_toArray,List.set_cons_zero,List.set_cons_succ]
            have hk2:=HK2.out;have hkk':=HKK.out
            have hg3':wd.grownBy w3 (Value.slice poa fkids.length pc).ownBlock:=by rw[HKK.out];exact hg3
            have hfr:=hk2.frames HL.out.1 hgm hg3'
            have hgne:gg≠gs:=fun e=>owns_apart ho3 hfr (by decide) rfl (by rw[e];rfl)
            have hgne':gs≠gg:=Ne.symm hgne;have q1:w3.cell? ⟨gs,n*7+6,none⟩=some (.slice poa k pc):=(hg3.cell_far _ (by have:=hgm.size;simp;omega) (Ne.symm hneP)).trans ((hgm.cell hgsl).trans hcP);have q2:w3.frozen? ⟨gs,n*7+6,none⟩=false:=(hg3.frozen_far _ (by have:=hgm.size;simp;omega) (Ne.symm hneP)).trans ((hgm.frozen hgsl).trans hfP)
            have hln:(fkids.flatMap vcells).length=k*7:=by rw[flat_length vcells_length,HKK.out]
            have z:∀ j u,(#[.int .i64 0,.string ⟨#[]⟩,.int .i64 0,.int .i64 0,.bool false,.bool false,.slice none 0 0]:Array Value).toList[j]?=some u→w3.cell? ⟨gg,k*7+j,none⟩=some u:=fun j u hu=>owns_cell ho3 (by rw[List.getElem?_append_right (by omega),hln,show k*7+j-k*7=j by omega];exact hu)
            have z0:=z 0 _ rfl;have z1:=z 1 _ rfl;have z2:=z 2 _ rfl;have z3:=z 3 _ rfl;have z4:=z 4 _ rfl;have z5:=z 5 _ rfl;have z6:=z 6 _ rfl;simp only[Nat.add_zero]at z0;have y0:=owns_frozen ho3 (k*7);have y1:=owns_frozen ho3 (k*7+1);have y2:=owns_frozen ho3 (k*7+2);have y3:=owns_frozen ho3 (k*7+3);have y4:=owns_frozen ho3 (k*7+4);have y5:=owns_frozen ho3 (k*7+5);have y6:=owns_frozen ho3 (k*7+6);have lgg:=(ho3.lt gg rfl).2;have lgs:=(hfr.lt gs rfl).2;have hcap3:=owns_cap ho3;have H3:=Lib.hid (And.intro hgm (And.intro hg3' (And.intro hat (And.intro ho3 (And.intro hfr hgne)))));clear z hk2 hkk' hg3' hfr ho3 hg3 hgm hat hcP hfP hbk cd0 cd1 cd2 cd3 cd4 cd5 lcd hbx hgne;refine wpAny_ready (rs:=[11,14]) (by kernel_rfl) (by simp) ?_;refine AllReady.cons rfl (fun K hK=>?_) (AllReady.cons rfl (fun K hK=>?_) AllReady.nil)
            · go_simp
              refine hK _ _ ?_;clear hK K;refine wpAny_ready (rs:=[14]) (by kernel_rfl) (by simp) ?_;refine AllReady.cons rfl (fun K hK=>?_) AllReady.nil
              go_simp
              refine hK _ _ ?_;clear hK K;refine wpAny_done (by kernel_rfl) ?_ _;obtain⟨hgm,hg3,hat,ho3,hfr,hgne⟩:=H3.out;have hk:=HKK.out;subst hk;have hG1:=grownBy_puts [.int .i64 tk,.string ⟨tt.toArray⟩,.int .i64 tn,.int .i64 td,.bool ti,.bool tid,.slice none 0 0] w3 gg (fkids.length*7);have hkid:=owns_puts [.int .i64 tk,.string ⟨tt.toArray⟩,.int .i64 tn,.int .i64 td,.bool ti,.bool tid,.slice none 0 0] (fkids.length*7) w3 _ _ ho3 (flat_length vcells_length _) rfl (by simp;omega);have hfr4:=hfr.kept hG1 (.inr fun e=>hgne (Option.some.inj e).symm);have hfr5:=frames_put hfr4 HL.out.1 (.slice (some ⟨gg,0,none⟩) (fkids.length+1) cap3);have hG2:=grownBy_set (puts w3 gg (fkids.length*7) [.int .i64 tk,.string ⟨tt.toArray⟩,.int .i64 tn,.int .i64 td,.bool ti,.bool tid,.slice none 0 0]) ⟨gs,n*7+6,none⟩ (.slice (some ⟨gg,0,none⟩) (fkids.length+1) cap3)
              have hkid5:=hkid.kept hG2 (.inr fun e=>hgne (Option.some.inj e));have HPUT:=Lib.hid (Sk.put (k:=.mk ⟨tk,tt,(tn,td),ti,tid⟩ none 0 0 0 []) HK2.out HL.out.1 ⟨1,fun w' _ _=>⟨HT.out,by simp,⟨rfl,Nat.le_refl _,Nat.zero_le _,fun h=>absurd h (by simp),fun j v h=>by simp at h⟩,fun i x h=>by simp at h⟩⟩ hgm hg3 hat rfl hwB hG1 hG2 (Or.inr rfl) (Or.inl rfl) hfr5 hkid5);clear hG1 hG2 hfr4 hfr5 hgm hg3 hat ho3 hfr hgne hkid hkid5 q1 q2 z0 z1 z2 z3 z4 z5 z6 y0 y1 y2 y3 y4 y5 y6;simp only[puts]at HPUT;generalize World.setCell _ _ _=w5 at *;go_wp2_with fail
              go_roundg (N-(i+1))
              case measure=>omega
              case rel =>
               refine⟨i+1,R++[⟨ft,.slice (some ⟨gg,0,none⟩) (fkids.length+1) cap3,fkids++[.mk ⟨tk,tt,(tn,td),ti,tid⟩ none 0 0 0 []]⟩],gs,c,L,by go_num,rfl,Lib.hid ⟨by rw[List.length_append,List.length_singleton,HL.out.1,HL.out.2.1],by simp,by have:=HL.out;omega⟩,Lib.hid (by rw[← HL.out.2.1];exact HPUT.out.1),Lib.hid ?_,Lib.hid (hb2.out.trans HPUT.out.2),hi,Nat.le_refl _⟩;rw[HF.out,skC_top,skC_top,stepV_cons,if_neg HNOT.out,if_neg (by rw[HO.out];simp),List.map_append];rfl
            · go_simp
              refine hK _ _ ?_;clear hK K;refine wpAny_ready (rs:=[11]) (by kernel_rfl) (by simp) ?_;refine AllReady.cons rfl (fun K hK=>?_) AllReady.nil
              go_simp
              refine hK _ _ ?_;clear hK K;refine wpAny_done (by kernel_rfl) ?_ _;obtain⟨hgm,hg3,hat,ho3,hfr,hgne⟩:=H3.out;have hk:=HKK.out;subst hk;have hG1:=grownBy_set w3 ⟨gs,n*7+6,none⟩ (.slice (some ⟨gg,0,none⟩) (fkids.length+1) cap3);have hfr4:=frames_put hfr HL.out.1 (.slice (some ⟨gg,0,none⟩) (fkids.length+1) cap3);have ho4:=ho3.kept hG1 (.inr fun e=>hgne (Option.some.inj e));have hG2:=grownBy_puts [.int .i64 tk,.string ⟨tt.toArray⟩,.int .i64 tn,.int .i64 td,.bool ti,.bool tid,.slice none 0 0] (w3.setCell ⟨gs,n*7+6,none⟩ (.slice (some ⟨gg,0,none⟩) (fkids.length+1) cap3)) gg (fkids.length*7);have hkid5:=owns_puts [.int .i64 tk,.string ⟨tt.toArray⟩,.int .i64 tn,.int .i64 td,.bool ti,.bool tid,.slice none 0 0] (fkids.length*7) (w3.setCell ⟨gs,n*7+6,none⟩ (.slice (some ⟨gg,0,none⟩) (fkids.length+1) cap3)) _ _ ho4 (flat_length vcells_length _) rfl (by simp;omega)
              have hfr5:=hfr4.kept hG2 (.inr fun e=>hgne (Option.some.inj e).symm);have HPUT:=Lib.hid (Sk.put (k:=.mk ⟨tk,tt,(tn,td),ti,tid⟩ none 0 0 0 []) HK2.out HL.out.1 ⟨1,fun w' _ _=>⟨HT.out,by simp,⟨rfl,Nat.le_refl _,Nat.zero_le _,fun h=>absurd h (by simp),fun j v h=>by simp at h⟩,fun i x h=>by simp at h⟩⟩ hgm hg3 hat rfl hwB hG1 hG2 (Or.inl rfl) (Or.inr rfl) hfr5 hkid5);clear hG1 hG2 hfr4 hfr5 hgm hg3 hat ho3 hfr hgne ho4 hkid5 q1 q2 z0 z1 z2 z3 z4 z5 z6 y0 y1 y2 y3 y4 y5 y6;simp only[puts]at HPUT;generalize World.setCell _ _ _=w5 at *;go_wp2_with fail
              go_roundg (N-(i+1))
              case measure=>omega
              case rel =>
               refine⟨i+1,R++[⟨ft,.slice (some ⟨gg,0,none⟩) (fkids.length+1) cap3,fkids++[.mk ⟨tk,tt,(tn,td),ti,tid⟩ none 0 0 0 []]⟩],gs,c,L,by go_num,rfl,Lib.hid ⟨by rw[List.length_append,List.length_singleton,HL.out.1,HL.out.2.1],by simp,by have:=HL.out;omega⟩,Lib.hid (by rw[← HL.out.2.1];exact HPUT.out.1),Lib.hid ?_,Lib.hid (hb2.out.trans HPUT.out.2),hi,Nat.le_refl _⟩;rw[HF.out,skC_top,skC_top,stepV_cons,if_neg HNOT.out,if_neg (by rw[HO.out];simp),List.map_append];rfl
        · have gO:(closeF tk != 0)=true:=by simpa using hO
          have HO:=Lib.hid hO;clear hO;go_wp2_with fail;go_wp2_with fail
          ((with_reducible refine(closer_same tk _).mono ?_);rintro e w' ⟨rfl,rfl⟩)
          have hk2:=hK2.out;have hrowP:=hk2.row;rw[List.length_append,List.length_singleton,HL.out.1,HL.out.2.1]at hrowP;have HK2:=Lib.hid hk2;have HRW:=Lib.hid hrowP;clear hk2 hrowP hK2;go_wp2_with (at_builtin;refine wpList_add elFrame rfl _ _ rfl rfl (HRW.out.alloc _) (by simp;omega) (Blk.new wc _ _) 1 rfl rfl (by simp[Value.oneCell']) (by omega) (by omega) ?_;intro gg cap3 w3 ho3 hg3 hat hvb;have H3:=Lib.hid (And.intro ho3 (And.intro hg3 (And.intro hat hvb)));clear ho3 hg3 hat hvb)
          go_roundg (N-(i+1))
          case measure=>omega
          case rel =>
           obtain⟨ho3,hg3,hat,hvb⟩:=H3.out
           have hl1:(R++[f]).length=L:=by rw[List.length_append,List.length_singleton,HL.out.1,HL.out.2.1]
           have hgc:=grownBy_trans (World.grownBy_alloc wc _ _) hg3;have hop:=HK2.out.open (t:=⟨tk,tt,(tn,td),ti,tid⟩) (vs':=.slice (some ⟨gg,0,none⟩) (L+1) cap3) (gg:=gg) HT.out rfl (hat.imp id fun e=>by rw[e];simp) hgc (by rw[hl1];exact ho3);refine⟨i+1,_,gg,cap3,L+1,by go_num,rfl,Lib.hid ⟨by rw[List.length_append,hl1];rfl,by simp,by have:=HL.out;omega⟩,Lib.hid (hop.mono (by omega)),Lib.hid ?_,Lib.hid (hb2.out.trans (Below.grown (Below.refl B wc) hgc hwB (fun k hk=>(HRW.out.lt k hk).1))),hi,Nat.le_refl _⟩;rw[HF.out,skC_top,skC_top,stepV_cons,if_neg HNOT.out,if_pos HO.out];rfl
   · obtain rfl:i=N:=by omega
     have gi:decide ((i:Int)<(i:Int))=false:=by simp
     have gin:decide (i<i)=false:=by simp
     go_wp2_with fail;go_meet
     case rel=>exact⟨S,gs,c,L,rfl,hL,hK,Lib.hid (by rw[hC.out,← HX.out,← HN.out,List.take_length]),hb⟩
 case rest =>
  obtain⟨S,gs,c,L,rfl,hL,hK,hC,hb⟩:=hcut;obtain⟨hL1,hL2,hL3⟩:=hL.out
  have HZ:=Lib.hid (show Y=match closeV L (skC S) with
   | (_,k)::_=>k
   | []=>[] by rw[HXY.out,hC.out,← hL1,← skC_length,hC.out])
  have HL0:=Lib.hid hL1;have HS0:=Lib.hid hL2;clear hL hL1 hL2 hC HK0 HB0 HXY HX
  go_upto_block 2 with fail
  go_cut [3] (fun s wx=>∃ (f:Fm) (gs c:Nat),s=.slice (some ⟨gs,0,none⟩) 1 c∧Hid (∃ K,K≤N+N+2∧Sk B wx (.slice (some ⟨gs,0,none⟩) 1 c) [f] K)∧Hid (Y=f.kids.map Vl.c)∧Hid (Below B w wx))
  case first =>
   go_wp2_with fail
   go_loopg [3] L (fun q s3 wr=>∃ (S:List Fm) (gs c M:Nat),s3=.slice (some ⟨gs,0,none⟩) M c∧Hid (S.length=M∧S≠[])∧Hid (Sk B wr (.slice (some ⟨gs,0,none⟩) M c) S (N+L-M))∧Hid (∃ m,M≤m+1∧Y=match closeV m (skC S) with
    | (_,k)::_=>k
    | []=>[])∧Hid (Below B w wr)∧M≤L∧M≤q)
   case atStart=>exact⟨S,gs,c,L,rfl,Lib.hid ⟨HL0.out,HS0.out⟩,Lib.hid (hK.out.mono (by omega)),Lib.hid ⟨L,by omega,HZ.out⟩,hb,Nat.le_refl _,Nat.le_refl _⟩
   case round =>
    clear HZ HL0 HS0 hK hb;obtain⟨S,gs,c,M,rfl,hM,hK,hZ,hb,hML,hq⟩:=hrel
    by_cases h2:2≤M
    · have g1:decide ((1:Int)<(M:Int))=true:=by simp;omega
      have g1n:decide (1<M)=true:=by simp;omega
      obtain⟨R0,f,rfl⟩:=last_of hM.out.2;obtain⟨R,p,rfl⟩:=last_of (S:=R0) (fun e=>by have:=hM.out.1;rw[e]at this;simp at this;omega);obtain⟨n',hn'⟩:∃ n',R.length=n':=⟨_,rfl⟩
      have hMM:n'+2=M:=by have:=hM.out.1;simp at this;omega
      have hsh:=shut_any B (N+L-M) n' R p f gs c wr hn' (by rw[hMM];exact hK.out) (by have:=hb.out.size;have:=HB.out;omega) (by omega);rw[hMM]at hsh;have HSH:=Lib.hid hsh;clear hsh;go_wp2_with fail
      ((with_reducible refine HSH.out.mono ?_);rintro e w2 ⟨rfl,⟨v',kd,hsk,hkc⟩,hbb⟩)
      have H2:=Lib.hid (And.intro hsk (And.intro hkc hbb));clear hsk hkc hbb HSH;go_wp2_with fail
      go_roundg (M-1)
      case measure=>omega
      case rel =>
       obtain⟨hsk,hkc,hbb⟩:=H2.out;obtain⟨m,hm,hY⟩:=hZ.out;obtain⟨m,rfl⟩:∃ m',m=m'+1:=⟨m-1,by omega⟩;refine⟨R++[⟨p.t,v',p.kids++[kd]⟩],gs,c,n'+1,rfl,Lib.hid ⟨by rw[List.length_append,hn'];rfl,by simp⟩,Lib.hid (hsk.mono (by omega)),Lib.hid ⟨m,by omega,?_⟩,Lib.hid (hb.out.trans hbb),by omega,by omega⟩;rw[hY,closeV,if_pos (by rw[skC_length];simp),shutF_sk,skC_top,← hkc,List.map_append];rfl
    · have g1:decide ((1:Int)<(M:Int))=false:=by simp;omega
      have g1n:decide (1<M)=false:=by simp;omega
      obtain⟨R0,f,rfl⟩:=last_of hM.out.2;have hR0:R0=[]:=List.eq_nil_of_length_eq_zero (by have:=hM.out.1;simp at this;omega);subst hR0
      obtain rfl:M=1:=by have:=hM.out.1;simp at this;omega
      go_wp2_with fail;go_meet
      case rel =>
       obtain⟨m,hm,hY⟩:=hZ.out;refine⟨f,gs,c,rfl,Lib.hid ⟨_,by omega,hK.out⟩,Lib.hid ?_,hb⟩;rw[hY]
       cases m with
       | zero=>rfl
       | succ m=>rw[closeV,if_neg (by rw[skC_length];simp)];rfl
  case rest =>
   obtain⟨f,gs,c,rfl,hK,hY,hb⟩:=hcut;obtain⟨K,hKl,hk⟩:=hK.out;have hrow:=hk.row;have hcell:wc.cell? ⟨gs,6,none⟩=some f.v:=owns_cell hrow rfl;have hkf:=hk.kid f (List.mem_singleton.2 rfl);have hlf:=hk.len f (List.mem_singleton.2 rfl);obtain⟨h0,hsf⟩:=hk.safe
   have hne:=fun e=>owns_apart hkf hrow (by decide) e (g:=gs) rfl
   obtain⟨ft,fv,fkids⟩:=f;simp only at hkf hlf hcell hsf hne;obtain⟨poa,pc,pg,rfl,hsl,hpos⟩:=sl_of_own hkf;have HV:=Lib.hid (show isVs (· < B) h0 Y (.slice poa fkids.length pc) wc from ⟨poa,pc,pg,0,fkids,rfl,hY.out.symm,VsIn.made (by omega) hsl (fun h e=>by have:=hpos h;omega) ((hsf.anti fun b hb _=>Or.inl hb).mono fun _ hw x hx=>hw _ (List.mem_singleton.2 rfl) x hx)⟩);clear hrow hkf hsf hk hK hsl hpos hne;generalize fkids.length=k at *;go_wp2_with fail;go_ret;exact⟨⟨_,rfl,h0,HV.out⟩,hb.out⟩
end Go.Proofs.YtnbkbenkhkinoaaGreatDoor
