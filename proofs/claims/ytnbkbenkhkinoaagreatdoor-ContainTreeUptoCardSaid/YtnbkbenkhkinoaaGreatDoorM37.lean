/- Of my texts: DtJ. -/
import Derived.Test.YtnbkbenkhkinoaaGreatDoorM04
import Derived.Test.YtnbkbenkhkinoaaGreatDoorM25
import Derived.Test.YtnbkbenkhkinoaaGreatDoorM36
import Derived.Maps.RangeWalk
namespace Go.Proofs.YtnbkbenkhkinoaaGreatDoor
set_option linter.unusedVariables false
set_option linter.unusedSimpArgs false
open Go.RowKit Go.Maps
def ptrV:Option Nat→Value
 | none=>.pointer none
 | some g=>.pointer (some ⟨g,0,none⟩)
theorem ptrE_shape {v:Value} {y:Dt×List MemPlace} (h:ptrE v=some y):∃ c,v=ptrV c:=by
 unfold ptrE at h;split at h
 · exact⟨none,rfl⟩
 · rename_i g
   exact⟨some g,rfl⟩
 · cases h
theorem MapK.has_at {κ:Nat→Int} {D:Dt} {gs:List Nat} (h:MapK κ D gs) {i:Nat} (hi:i<gs.length):Maps.has D (.int .i64 (κ i))=true:=has_true_of_atKey (y:=.lit (.int .i64 ((gs[i]:Int)+1))) fun z=>h.at_ i _ (List.getElem?_eq_getElem hi) z
theorem vnext {κ:Nat→Int} {w:World} {ops:Array Oper} {rest:List Oper} {o:Oper} {a:Act} {Q:Exit→Act→World→Prop} {gs:List Nat} {D:Dt} (hD:MapK κ D gs) (hg:o.guard=none) (it:Operand) (hop:o.op=Op.next it false) (b r n:Nat) (left:Lit→Bool) (cnt:Nat)
  (hit:a.eval it=.pointer (some ⟨r,0,none⟩)) (h:w.ranges Tryz.prog 3 ptrE b r n D left cnt)
  (hDone:cnt=0→(∀ kl,left kl=false)→wpList Tryz.prog ops Q rest (a.put o.dst (.tuple #[.bool false])) w)
  (hMore:∀ (i g:Nat) (w':World) (cnt':Nat),gs[i]?=some g→left (.int .i64 (κ i))=true→w'.ranges Tryz.prog 3 ptrE b r n D (fun z=>left z&&!z.sameKey (.int .i64 (κ i))) cnt'→cnt'<cnt →
    w.grownBy w' (some r)→w'.heap.size=w.heap.size→(Instr.entry (.pointer (some ⟨r,0,none⟩))).run Tryz.prog w'=.ok (.tuple #[.int .i64 (κ i),.pointer (some ⟨g,0,none⟩)]) w'→wpList Tryz.prog ops Q rest (a.put o.dst (.tuple #[.bool true,.int .i64 (κ i),.pointer (some ⟨g,0,none⟩)])) w') :
  wpList Tryz.prog ops Q (o::rest) a w:=by
 refine wpList_next_ranges w hg it hop 3 keyInt ptrE (Value.int .i64) ptrV (fun key kl hk=>by obtain⟨x,hx,-⟩:=Maps.keyOf_int_inv Tryz.underlying3 hk;exact⟨x,hx⟩) (fun v y hv=>ptrE_shape hv) b r n D left cnt hit h hDone ?_;intro x c kl y w' cnt' hkey hlk hv hat hrg hlt hgr hsz hen;obtain⟨x',e1,rfl,-⟩:=Maps.keyOf_int_inv Tryz.underlying3 hkey
 obtain rfl:x=x':=by simpa using e1
 have hh:Maps.has D (.int .i64 x)=true:=has_true_of_atKey hat;obtain⟨i,hi,rfl⟩:=hD.has x hh;have hg0:=hD.at_ i _ (List.getElem?_eq_getElem hi) (.lit (.int .i64 0));rw[hat]at hg0;obtain⟨y1,y2⟩:=y;simp only at hg0;subst hg0;have hc:=ptrE_some hv;rw[hc]at hen ⊢;exact hMore i _ w' cnt' (List.getElem?_eq_getElem hi) hlk hrg hlt hgr hsz hen
structure VB (tB mb W:Nat) (els:List Me):Prop where
 lt:tB<W∧mb<W∧tB≠mb
 el:∀ (i:Nat) (e:Me),els[i]?=some e→e.g<W∧e.g≠tB∧∀ p,e.ks.oa=some p→p.block<W∧p.block≠tB
section
variable {κ:Nat→Int} {w w':World} {tB mb W k:Nat} {rt nx:Int} {els:List Me}
theorem Vw.far (h:Vw κ w tB mb rt nx els) (hb:VB tB mb W els) (hg:w.grownBy w' (some k)) (hk:W≤k):Vw κ w' tB mb rt nx els:=by
 obtain⟨D,hD,hm⟩:=h.map;have hl:=hb.lt;refine⟨(hg.block tB h.tree.lt (fun e=>by have:=Option.some.inj e;omega)).trans h.tree,⟨D,hD,hm.kept hg (fun e=>by have:=Option.some.inj e;omega)⟩,fun i e he=>?_,h.par,h.small,h.bnd,h.inj⟩;have h1:=hb.el i e he;exact⟨(hg.block e.g (h.el i e he).1.lt (fun e2=>by have:=Option.some.inj e2;omega)).trans (h.el i e he).1,(h.el i e he).2.old fun p hp hl=>hg.block _ hl (fun e2=>by have:=Option.some.inj e2;have:=(h1.2.2 p hp).1;omega)⟩
theorem Vw.root (h:Vw κ w tB mb rt nx els) (hb:VB tB mb W els) (x:Int):Vw κ (w.setCell ⟨tB,1,none⟩ (.int .i64 x)) tB mb x nx els:=by
 obtain⟨D,hD,hm⟩:=h.map;have hg:=grownBy_set w ⟨tB,1,none⟩ (.int .i64 x);refine⟨(h.tree.put 1 _).to rfl,⟨D,hD,hm.kept hg (fun e=>hb.lt.2.2 (Option.some.inj e).symm)⟩,fun i e he=>?_,h.par,h.small,h.bnd,h.inj⟩;have h1:=hb.el i e he;exact⟨(hg.block e.g (h.el i e he).1.lt (fun e2=>h1.2.1 (Option.some.inj e2))).trans (h.el i e he).1,(h.el i e he).2.old fun p hp hl=>hg.block _ hl (fun e2=>(h1.2.2 p hp).2 (Option.some.inj e2))⟩
end
def kidSum (els:List Me) (V:Nat→Bool):Nat:=((List.range els.length).map fun j=>if V j=true then (kidsF els j).length else 0).sum
theorem kidSum_step (els:List Me) {V V':Nat→Bool} {i:Nat} (hi:i<els.length) (h0:V i=false) (hV:∀ j,V' j=(V j||decide (j=i))):kidSum els V'=kidSum els V+(kidsF els i).length:=by
 unfold kidSum;have h:=sum_add (f:=fun j=>if V j=true then (kidsF els j).length else 0) (g:=isN i) (kidsF els i).length (List.range els.length);rw[sum_isN,if_pos hi,Nat.mul_one]at h;rw[← h]
 refine sum_eq fun j _=>?_
 rw[hV];unfold isN
 by_cases hj:j=i
 · subst hj;rw[h0];simp
 · simp[hj]
theorem kidSum_all (els:List Me) {V:Nat→Bool} (h:∀ j,j<els.length→V j=true):kidSum els V=((List.range els.length).map fun j=>(kidsF els j).length).sum :=
 sum_eq fun j hj=>by rw[if_pos (h j (List.mem_range.1 hj))]
theorem kidSum_none (els:List Me) {V:Nat→Bool} (h:∀ j,j<els.length→V j=false):kidSum els V=0:=by
 unfold kidSum;rw[sum_eq (g:=fun _=>0) (fun j hj=>by rw[h j (List.mem_range.1 hj)];rfl)]
 induction List.range els.length with
 | nil=>rfl
 | cons x l ih=>rw[List.map_cons,List.sum_cons,ih]
theorem sum_le' {f g:Nat→Nat}:∀ l:List Nat,(∀ k∈l,f k≤g k)→(l.map f).sum≤(l.map g).sum
 | [],_=>Nat.le_refl _
 | x::l,h=>by
   rw[List.map_cons,List.map_cons,List.sum_cons,List.sum_cons];exact Nat.add_le_add (h x (List.mem_cons_self ..)) (sum_le' l fun k hk=>h k (List.mem_cons_of_mem _ hk))
theorem kidSum_le {els:List Me} (h:Good els) (V:Nat→Bool):kidSum els V+1≤els.length:=by
 have h1:=sum_le' (f:=fun j=>if V j=true then (kidsF els j).length else 0) (g:=fun j=>(kidsF els j).length) (List.range els.length) (fun k _=>by
  split
  · exact Nat.le_refl _
  · exact Nat.zero_le _)
 have:=h.sum;unfold kidSum;omega
theorem left_at {κ:Nat→Int} (hi:∀ i j,κ i=κ j→i=j) (left:Lit→Bool) (i j:Nat):(left (.int .i64 (κ j))&&!(Lit.int .i64 (κ j)).sameKey (.int .i64 (κ i)))=(left (.int .i64 (κ j))&&!decide (j=i)):=by
 congr 2
 by_cases h:j=i
 · subst h;simp[Lit.sameKey]
 · have:¬ κ j=κ i:=fun e=>h (hi _ _ e)
   simp[Lit.sameKey,h,this]
def isSl (N:Nat) (v:Value):Prop:=∃ (oa:Option Addr) (cap:Nat),v=.slice oa N cap
set_option maxRecDepth 20000 in
set_option maxHeartbeats 16000000 in
theorem joined_any {κ:Nat→Int} {w:World} {tB mb:Nat} {rt nx:Int} {els:List Me} (h:Vw κ w tB mb rt nx els) (hB:VB tB mb w.heap.size els) (hG:Good els) :
  Calls Tryz.prog 33 #[.pointer (some ⟨tB,0,none⟩)] w fun x w'=>x=.returned (.bool true)∧Vw κ w' tB mb (κ 0) nx els∧w.grownBy w' (some tB):=by
 obtain⟨D,hD,hm⟩:=h.map;have hsm:=h.small
 have hSZ:Maps.size D=els.length:=by rw[hD.size,List.length_map]
 have hV0:∀ j,j<els.length→Maps.has D (.int .i64 (κ j))=true:=fun j hj=>hD.has_at (by rw[List.length_map];exact hj)
 obtain⟨W,hW⟩:∃ W,w.heap.size=W:=⟨_,rfl⟩;have HM:=Lib.hid (And.intro hD hSZ);have HV:=Lib.hid h;have HB:=Lib.hid hB;have HG:=Lib.hid hG;have HZ:=Lib.hid hV0;have HW:=Lib.hid hW;have HMM:=@run_makeMap Tryz.prog;rw[hW]at HB;have t0:w.cell? ⟨tB,0,none⟩=some (.map (some mb)):=(h.tree).cell 0;have ft0:=(h.tree).frozen 0;have t1:w.cell? ⟨tB,1,none⟩=some (.int .i64 rt):=(h.tree).cell 1;have ft1:=(h.tree).frozen 1;have t2:w.cell? ⟨tB,2,none⟩=some (.int .i64 nx):=(h.tree).cell 2;have ft2:=(h.tree).frozen 2;have lt:=(h.tree).lt;clear h hB hG hD hSZ hV0
 go_enter Tryz.func33,Tryz.ntmps33
 go_wp2_with (at_range;refine wpList_range_own _ rfl _ 75 rfl 3 76 keyInt Tryz.underlying75 ptrE mb els.length D rfl hm ?_;intro w0 hrg0 hg0 hs0)
 go_frame
 try simp only[hW]
 clear t0 ft0 t1 ft1 t2 ft2 lt hm;rw[hW]at hrg0 hs0;have HR0:=Lib.hid hrg0;have HG0:=Lib.hid (And.intro hg0 hs0);have hszD:Maps.size D≤els.length:=Nat.le_of_eq HM.out.2;clear hrg0 hg0 hs0 hW
 go_loopg [3,4] els.length (fun q s3 s4 wr=>∃ (left:Lit→Bool) (cnt:Nat),s3=.int .i64 (if left (.int .i64 (κ 0))=true then 0 else 1)∧s4=.int .i64 (kidSum els (fun j=>!left (.int .i64 (κ j))):Nat)∧Hid (wr.ranges Tryz.prog 3 ptrE mb W els.length D left cnt)∧Hid (Vw κ wr tB mb (if left (.int .i64 (κ 0))=true then rt else κ 0) nx els)∧Hid (w.grownBy wr (some tB))∧cnt≤q)
 case atStart =>
  refine⟨_,_,?_,?_,HR0,?_,Lib.hid (grownBy_of_below (below_of_grownBy HG0.out.1) _),hszD⟩
  · rw[if_pos (HZ.out 0 HG.out.pos)]
  · rw[kidSum_none els (fun j hj=>by rw[HZ.out j hj];rfl)];rfl
  · rw[if_pos (HZ.out 0 HG.out.pos)];exact Lib.hid (HV.out.below (below_of_grownBy HG0.out.1))
 case round =>
  clear HR0;obtain⟨left,cnt,rfl,rfl,hrg,hvw,hgw,hq⟩:=hrel;have hks:=kidSum_le HG.out (fun j=>!left (.int .i64 (κ j)));obtain⟨r3,hr3⟩:∃ r3:Int,(if left (.int .i64 (κ 0))=true then 0 else 1)=r3:=⟨_,rfl⟩;obtain⟨rr,hrr⟩:∃ rr:Int,(if left (.int .i64 (κ 0))=true then rt else κ 0)=rr:=⟨_,rfl⟩;obtain⟨k4,hk4⟩:∃ k4:Nat,kidSum els (fun j=>!left (.int .i64 (κ j)))=k4:=⟨_,rfl⟩;rw[hk4]at hks;simp only[hr3,hk4];rw[hrr]at hvw;have HR3:=Lib.hid hr3;have HRR:=Lib.hid hrr;have HK4:=Lib.hid hk4;clear hr3 hrr hk4;go_wp2_with (at_next;refine vnext (κ:=κ) HM.out.1 rfl _ rfl mb W els.length left cnt rfl hrg.out ?_ ?_)
  · intro hc0 hl0;have h3:=HR3.out;have h4:=HRR.out;rw[hl0]at h3 h4;have h3:(1:Int)=r3:=h3;have h4:κ 0=rr:=h4;subst h3 h4
    have hk1:k4+1=els.length:=by
     rw[← HK4.out,kidSum_all els (fun j _=>by rw[hl0];rfl)];exact HG.out.sum
    have HO:=Lib.hid (fun wx (hb:Below wr.heap.size wr wx)=>order_any (hvw.out.below hb) HG.out)
    have hlen:=fun(m:Ext wr) (ty:TypeId)=>(by
     rw[← HM.out.2]
     exact((hrg.out.owns).kept (grownBy_of_below (grow_below m) none) (fun e=>by cases e)).len Tryz.underlying75 ty:(Builtin.len_ #[75] ty #[.map (some mb)]).run Tryz.prog (grow wr m)=.ok (.int .i64 (els.length:Int)) (grow wr m))
    have t0:=hvw.out.tree.cell 0;have lt:=hvw.out.tree.lt;obtain⟨N,hN⟩:∃ N,els.length=N:=⟨_,rfl⟩;rw[hN]at hlen hk1 hsm HO
    have kq:((k4:Int)==(N:Int)-1)=true:=by simp;omega
    have hpN:1≤N:=by omega
    clear hl0 hN hk1 hc0;go_wp2_with fail;refine wp_region_loose 24 [Loose.claim 5 94 (.pointer (some ⟨tB,0,none⟩)),Loose.claim 8 97 (.int .i64 (N:Int)),Loose.val 14 103 (isSl N),Loose.claim 15 104 (.int .i64 (N:Int)),Loose.claim 17 106 (.pointer (some ⟨tB,0,none⟩)),Loose.claim 20 109 (.int .i64 (N:Int))] (by kernel_rfl) rfl (by kernel_rfl) (by kernel_rfl) (by kernel_rfl) (by kernel_rfl) ?_;simp only[headL,hushL,List.find?,Loose.claim_i,Loose.cells_i,Loose.rowL_i,Loose.claim_hush,Loose.cells_hush,Loose.rowL_hush,Loose.val_i,Loose.rowS_i,Loose.val_hush,Loose.rowS_hush,Nat.reduceBEq,Nat.reduceAdd]
    repeat (go_big_quiet_step (fail))
    refine wpQuiet_nil ⟨fun V m=>?_,fun V m=>?_⟩
    · simp only[obs_cons,obs_nil,List.getElem?_cons_zero,List.getElem?_cons_succ,fill_nil,fill_claim,fill_cells,fill_rowL,Loose.claim_i,Loose.cells_i,Loose.rowL_i,Act.put,List.setIfInBounds_toArray,List.set_cons_zero,List.set_cons_succ,fill_val,fill_rowS,Loose.val_i,Loose.rowS_i];refine⟨fun _=>⟨by simp[Region.wanted,yielded],?_⟩,fun _=>⟨by simp[Region.wanted,yielded],?_⟩,fun _=>⟨by simp[Region.wanted,yielded],?_⟩,fun hw=>⟨by simp[Region.wanted,yielded],?_⟩,fun _=>⟨by simp[Region.wanted,yielded],?_⟩,fun _=>⟨by simp[Region.wanted,yielded],?_⟩,trivial⟩
      · go_wp2_with fail;exact post_claim rfl (Below.refl _ _)
      · go_wp2_with fail;exact post_claim rfl (Below.refl _ _)
      · go_wp2_with fail
        ((with_reducible refine(HO.out _ (grow_below m)).mono ?_);rintro e w' ⟨⟨oa,cap,b,rfl,-⟩,hbw⟩)
        go_wp2_with fail;exact post_val rfl ⟨_,_,rfl⟩ hbw
      · obtain⟨_,_,h3,_⟩:=hw;obtain⟨oa,cap,hv⟩:=h3 (by kernel_rfl);change V 14=_ at hv;rw[hv];clear hv h3;go_wp2_with fail;exact post_claim rfl (Below.refl _ _)
      · go_wp2_with fail;exact post_claim rfl (Below.refl _ _)
      · go_wp2_with fail;exact post_claim rfl (Below.refl _ _)
    · simp only[laws_nil,laws_claim,laws_cells,laws_rowL,laws_val,laws_rowS,dist_nil,dist_claim,dist_cells,dist_rowL,dist_val,dist_rowS,dist1_nil,dist1_claim,dist1_cells,dist1_rowL,dist1_val,dist1_cells_rowL,dist1_rowL_cells,List.drop_succ_cons,List.drop_zero,and_true,fill_nil,fill_claim,fill_cells,fill_rowL,Loose.claim_i,Loose.cells_i,Loose.rowL_i,Act.put,List.setIfInBounds_toArray,List.set_cons_zero,List.set_cons_succ,fill_val,fill_rowS,Loose.val_i,Loose.rowS_i];rintro _ _;have HR:=Lib.hid (And.intro (hvw.out.below (grow_below m)) (grownBy_trans hgw.out (grownBy_of_below (grow_below m) _)));clear t0 lt hlen HO hrg hvw hgw;generalize grow wr m=we at *;go_wp2_with fail;go_ret;exact⟨rfl,HR.out.1,HR.out.2⟩
  · intro i g1 w1 cnt1 e he hge hli hrg1 hlt hg1 hs1 hen;subst hge;have hil:i<els.length:=(List.getElem?_eq_some_iff.1 he).1;have hV1:=hvw.out.far HB.out hg1 (Nat.le_refl _);have HV1:=Lib.hid hV1;have HGW1:=Lib.hid (grownBy_far hgw.out hg1 (fun k e=>by obtain rfl:=Option.some.inj e;exact Nat.le_of_eq HW.out));have HRG1:=Lib.hid hrg1;have HLI:=Lib.hid hli;have HE:=Lib.hid he;have hpar:=HG.out.par i e he;obtain⟨hE,-⟩:=hV1.el i e he;obtain⟨pa,tg,⟨bt,bn,⟨wn,wd⟩,⟨hn,hd⟩⟩,ge,⟨kn,kc,ka,kb,kl⟩⟩:=e;have e1:w1.cell? ⟨ge,1,none⟩=some (.int .i64 (piK κ pa)):=hE.cell 1;have el:ge<w1.heap.size:=hE.lt;simp only at hen hpar;have t0:w1.cell? ⟨tB,0,none⟩=some (.map (some mb)):=(hV1.tree).cell 0;have ft0:=(hV1.tree).frozen 0;have t1:w1.cell? ⟨tB,1,none⟩=some (.int .i64 rr):=(hV1.tree).cell 1;have ft1:=(hV1.tree).frozen 1;have t2:w1.cell? ⟨tB,2,none⟩=some (.int .i64 nx):=(hV1.tree).cell 2
    have ft2:=(hV1.tree).frozen 2;have lt:=(hV1.tree).lt;clear hV1 hg1 hs1 hrg1 hli he hE hrg hvw hgw
    rcases hpar with ⟨hi0,hp⟩ | ⟨hi0,hp0,hp1⟩
    case' inl =>
     subst hp;rw[piK_neg]at e1;have h3:=HR3.out;rw[if_pos (by have:=HLI.out;rwa [hi0]at this)]at h3;subst h3;have HI0:=Lib.hid hi0;clear hi0
     go_upto_region 10 with fail
     have HV2:=Lib.hid (HV1.out.root HB.out (κ i));have HGW2:=Lib.hid (grownBy_trans HGW1.out (grownBy_set w1 ⟨tB,1,none⟩ (.int .i64 (κ i))));have hbl:=HB.out.lt;have HRG2:=Lib.hid (HRG1.out.kept (grownBy_set w1 ⟨tB,1,none⟩ (.int .i64 (κ i))) (fun e=>hbl.2.2 (Option.some.inj e).symm) (fun e=>by have:=Option.some.inj e;simp only at this;omega))
     have hf0:(left (.int .i64 (κ 0))&&!(Lit.int .i64 (κ 0)).sameKey (.int .i64 (κ i)))=false:=by rw[HI0.out];simp[Lit.sameKey]
     have HF:=Lib.hid (show ((1:Int)=if (left (.int .i64 (κ 0))&&!(Lit.int .i64 (κ 0)).sameKey (.int .i64 (κ i)))=true then 0 else 1)∧(κ i=if (left (.int .i64 (κ 0))&&!(Lit.int .i64 (κ 0)).sameKey (.int .i64 (κ i)))=true then rt else κ 0) from ⟨by rw[hf0];rfl,by rw[hf0,HI0.out];rfl⟩);clear hf0 hbl t0 ft0 t1 ft1 t2 ft2 lt e1 el HV1 HGW1 HRG1;generalize World.setCell w1 _ _=w2 at *
    case' inr =>
     obtain⟨p,rfl⟩:∃ p:Nat,pa=(p:Int):=⟨pa.toNat,by omega⟩
     have hpl:p<els.length:=by omega
     obtain⟨f,hf⟩:∃ f,els[p]?=some f:=⟨_,List.getElem?_eq_getElem hpl⟩
     have hLK:=fun m:Ext w1=>(HV1.out.below (grow_below m)).look hf
     generalize f.g=fg at hLK;have hbd:=(HV1.out.bnd p hpl).1;rw[piK_nat]at e1
     have k1:(κ p==(-1:Int))=false:=by simp;omega
     clear hbd hf hpl
     go_upto_region 8 with fail
     refine wp_region_grow (by kernel_rfl) (by kernel_rfl) ?_
     repeat (go_big_quiet_step (fail))
     refine wpQuiet_nil ?_;rintro _ ⟨m,rfl⟩;have HV2:=Lib.hid (HV1.out.below (grow_below m));have HGW2:=Lib.hid (grownBy_trans HGW1.out (grownBy_of_below (grow_below m) _));have HRG2:=Lib.hid (HRG1.out.kept (grownBy_of_below (grow_below m) none) (fun e=>by cases e) (fun e=>by cases e))
     have hf0:(left (.int .i64 (κ 0))&&!(Lit.int .i64 (κ 0)).sameKey (.int .i64 (κ i)))=left (.int .i64 (κ 0)):=by
      rw[left_at HV1.out.inj left i 0,decide_eq_false (by omega)];simp
     have HF:=Lib.hid (show (r3=if (left (.int .i64 (κ 0))&&!(Lit.int .i64 (κ 0)).sameKey (.int .i64 (κ i)))=true then 0 else 1)∧(rr=if (left (.int .i64 (κ 0))&&!(Lit.int .i64 (κ 0)).sameKey (.int .i64 (κ i)))=true then rt else κ 0) from ⟨by rw[hf0];exact HR3.out.symm,by rw[hf0];exact HRR.out.symm⟩);clear hf0 t0 ft0 t1 ft1 t2 ft2 lt e1 el HV1 HGW1 HRG1 hLK;generalize grow w1 m=w2 at *
     go_upto_region 10 with fail
    all_goals
     have HV2b:=Lib.hid (HV2.out.below (below_box w2 (.map #[] 0)));have hb2:=HB.out.lt;have hWs:W<w2.heap.size:=HRG2.out.lt;have HGW3:=Lib.hid (grownBy_trans HGW2.out (World.grownBy_alloc w2 (.map #[] 0) _));have HRG3:=Lib.hid (HRG2.out.alloc (.map #[] 0));have hmd:=World.ownsMap_made (H:=Unit) w2 Tryz.prog 3 (plainElem Tryz.prog 3);have e3:w2.cell? ⟨ge,3,none⟩=some (.slice ka kn kc):=(HV2.out.el _ _ HE.out).1.cell 3;have el:ge<w2.heap.size:=(HV2.out.el _ _ HE.out).1.lt;have hkv:=(HV2.out.el _ _ HE.out).2
     have hkl:kl.length=kn:=by
      rcases hkv with ⟨-,h1,-,h2⟩ | ⟨b,cur,-,-,-,h1,-⟩
      · have h1:kn=0:=h1;have h2:kl.map κ=[]:=h2;rw[h1,List.map_eq_nil_iff.1 h2];rfl
      · rw[List.length_map]at h1;exact h1
     have hkn1:kn≤1000:=by
      rcases hkv with ⟨-,h1,-,-⟩ | ⟨b,cur,-,-,h1,-⟩
      · have h1:kn=0:=h1;omega
      · exact h1
     have HKL:=Lib.hid hkl;have HMD:=Lib.hid hmd;clear hkv hkl hmd HGW2 HRG2 hb2;go_wp2_with fail;obtain⟨gm,hgm⟩:∃ gm,w2.heap.size=gm:=⟨_,rfl⟩;rw[hgm]at HMD hWs
     try simp only[hgm]
     clear e3 el hgm HV2;generalize World.alloc w2 _=w3 at *
     go_loopg [47] kn (fun q s47 wx=>∃ (j:Nat) (E:DataW Unit),s47=.int .i64 (j:Int)∧Hid (w3.grownBy wx (some gm))∧Hid (wx.ownsMap Tryz.prog 3 (plainElem Tryz.prog 3) gm j E)∧Hid (Tidy E∧∀ y:Int,Maps.has E (.int .i64 y)=true→∃ x,x∈kl.take j∧y=κ x)∧j≤kn∧kn-j≤q)
     case atStart=>exact⟨0,.map [],rfl,Lib.hid (grownBy_of_below (Below.refl _ _) _),HMD,Lib.hid ⟨tidy_empty,fun y hy=>by simp[Maps.has]at hy⟩,Nat.zero_le _,Nat.le_refl _⟩
     case round =>
      clear HMD;obtain⟨j,E,rfl,hgr,hE,hT,hjn,hqj⟩:=hrel;have HVr:=Lib.hid (HV2b.out.far HB.out hgr.out (Nat.le_of_lt hWs))
      by_cases hj:j<kn
      · have gj:decide ((j:Int)<(kn:Int))=true:=by simpa using hj
        have gjn:decide (j<kn)=true:=by simpa using hj
        have hjl:j<kl.length:=by rw[HKL.out];exact hj
        obtain⟨k,hk⟩:∃ k,kl[j]?=some k:=⟨_,List.getElem?_eq_getElem hjl⟩
        have hkm:k∈kidsF els i:=by rw[kidsF_at HE.out];exact List.mem_of_getElem? hk
        obtain⟨f,hf,hfp⟩:=(HG.out.kid i k).1 hkm;have hup:=HG.out.up hkm;have hbk:=HVr.out.bnd k hup.2
        have hnk:k ∉ kl.take j:=fun hm2=>by
         have hnd:=(HG.out.el i _ HE.out).2.2.2
         have e1:kl=kl.take j++k::kl.drop (j+1):=by
          have:=(List.take_append_drop j kl).symm;rw[List.drop_eq_getElem_cons hjl]at this;rw[List.getElem?_eq_getElem hjl]at hk;rwa [Option.some.inj hk]at this
         have hnd:kl.Nodup:=hnd;rw[e1,List.nodup_append]at hnd;exact hnd.2.2 k hm2 k (List.mem_cons_self ..) rfl
        have hno:Maps.has E (.int .i64 (κ k))=false:=by
         cases hc:Maps.has E (.int .i64 (κ k)) with
         | false=>rfl
         | true =>
           obtain⟨x,hx,hxe⟩:=hT.out.2 _ hc;exact absurd (by rwa [HVr.out.inj _ _ hxe]) hnk
        obtain⟨c,hrun,hat,-⟩:=hE.out.lookup_int keyInt Tryz.underlying115 Tryz.underlying3 (Tryz.zeroValue3 wr) (key:=.int .i64 (κ k)) (keyOf64 (by omega) (by omega));rw[atKey_of_not_has hno]at hat
        obtain rfl:(0:Int)=c:=by simpa using hat
        have hkv:=(HVr.out.el _ _ HE.out).2
        rcases hkv with ⟨-,h1,-,-⟩ | ⟨b,cur,rfl,-,-,-,hBk,hcur⟩
        · have h1:kn=0:=h1;omega
        have hcj:wr.cell? ⟨b,j,none⟩=some (.int .i64 (κ k)):=by
         rw[hBk.cell j,← Array.getElem?_toList]
         have h2:(cur.toList.take kn)[j]?=some (.int .i64 (κ k)):=by
          rw[show cur.toList.take kn=_ from hcur,List.getElem?_map,List.getElem?_map,hk];rfl
         rwa [List.getElem?_take_of_lt hj]at h2
        have hbl:=hBk.lt;have hEo:=hE.out;have HFF:=Lib.hid (And.intro hf hfp);have HK:=Lib.hid hk;clear hk hkm hf hfp hup hnk hat hjl hno hBk hcur
        go_upto_region 15 with (at_mapUpdate;refine wpList_mapUpdate_own _ rfl _ _ _ 115 rfl 3 3 keyInt Tryz.underlying115 _ gm j E rfl hEo (by unfold maxLen;omega) _ _ _ rfl rfl (keyOf64 (by omega) (by omega)) _ [] (plainElem_int Tryz.underlying3 (by decide)) ?_;intro w5 hE5 hg5;go_frame)
        have HVr5:=Lib.hid (HVr.out.far HB.out hg5 (Nat.le_of_lt hWs));have hLK:=HVr5.out.look HFF.out.1;have hEf:=(HVr5.out.el k f HFF.out.1).1
        have f1:w5.cell? ⟨f.g,1,none⟩=some (.int .i64 (κ i)):=by
         have h1:=hEf.cell 1;rw[show (kcells κ k f).toArray[1]?=some (.int .i64 (piK κ f.parent)) from rfl,HFF.out.2,piK_nat]at h1;exact h1
        have fl:=hEf.lt;obtain⟨c5,hrun5,hat5,-⟩:=hE5.lookup_int keyInt Tryz.underlying115 Tryz.underlying3 (Tryz.zeroValue3 w5) (key:=.int .i64 (κ k)) (keyOf64 (by omega) (by omega));rw[atKey_put_same hT.out.1.isMap (key64 _)]at hat5
        obtain rfl:(1:Int)=c5:=by simpa using hat5
        have t0:=HVr5.out.tree.cell 0;have lt:=HVr5.out.tree.lt;have HG5:=Lib.hid (grownBy_trans hgr.out hg5);have HE5:=Lib.hid hE5;generalize f.g=fg at *;clear hrun hcj hbl hEo hg5 hE5 hEf hat5 hE hgr HVr;go_wp2_with fail
        go_roundg (kn-(j+1))
        case measure=>omega
        case rel =>
         refine⟨j+1,_,by go_num,HG5,HE5,Lib.hid ⟨hT.out.1.put (key64 _) _,fun y hy=>?_⟩,hj,Nat.le_refl _⟩
         by_cases hye:y=κ k
         · exact⟨k,by rw[List.take_add_one,HK.out];simp,hye⟩
         · rw[has_put_other (by simpa using hye)]at hy;obtain⟨x,hx,hxe⟩:=hT.out.2 y hy;exact⟨x,by rw[List.take_add_one];exact List.mem_append_left _ hx,hxe⟩
      · obtain rfl:j=kn:=by omega
        have gj:decide ((j:Int)<(j:Int))=false:=by simp
        have gjn:decide (j<j)=false:=by simp
        have e3:wr.cell? ⟨ge,3,none⟩=some (.slice ka j kc):=(HVr.out.el _ _ HE.out).1.cell 3;have el:ge<wr.heap.size:=(HVr.out.el _ _ HE.out).1.lt;go_wp2_with fail
        go_roundg cnt1
        case measure=>omega
        case rel =>
         have hbl:=HB.out.lt;have hw0:=HW.out
         have hks2:kidSum els (fun q=>!(left (.int .i64 (κ q))&&!(Lit.int .i64 (κ q)).sameKey (.int .i64 (κ i))))=k4+j:=by
          rw [kidSum_step els (V:=fun q=>!left (.int .i64 (κ q))) hil (by rw[HLI.out];rfl) (fun q=>by
           rw[left_at HVr.out.inj left i q]
           cases left (.int .i64 (κ q))<;>by_cases hqi:q=i<;>simp[hqi]),HK4.out,kidsF_at HE.out]
          show k4+kl.length=k4+j;rw[HKL.out]
         refine⟨fun z=>left z&&!z.sameKey (.int .i64 (κ i)),cnt1,?_,?_,Lib.hid (HRG3.out.kept hgr.out (fun e=>by have:=Option.some.inj e;omega) (fun e=>by have:=Option.some.inj e;omega)),?_,Lib.hid (grownBy_far HGW3.out hgr.out (fun k e=>by obtain rfl:=Option.some.inj e;omega)),Nat.le_refl _⟩
         · show Value.int .i64 _=Value.int .i64 (if (left (.int .i64 (κ 0))&&!(Lit.int .i64 (κ 0)).sameKey (.int .i64 (κ i)))=true then 0 else 1);rw[← HF.out.1]
         · show Value.int .i64 _=Value.int .i64 ((kidSum els (fun q=>!(left (.int .i64 (κ q))&&!(Lit.int .i64 (κ q)).sameKey (.int .i64 (κ i)))):Nat):Int);rw[hks2];go_num
         · show Hid (Vw κ wr tB mb (if (left (.int .i64 (κ 0))&&!(Lit.int .i64 (κ 0)).sameKey (.int .i64 (κ i)))=true then rt else κ 0) nx els);rw[← HF.out.2];exact HVr
end Go.Proofs.YtnbkbenkhkinoaaGreatDoor
