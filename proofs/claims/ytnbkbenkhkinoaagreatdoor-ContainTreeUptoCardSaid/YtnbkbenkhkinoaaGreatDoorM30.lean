/- Of my texts: Shut, Split, Unit, CalcA, KindM, FeatM, MedA, CdG. -/
import Derived.Test.YtnbkbenkhkinoaaGreatDoorM04
import Derived.Test.YtnbkbenkhkinoaaGreatDoorM14
import Derived.Test.YtnbkbenkhkinoaaGreatDoorM17
import Derived.Test.YtnbkbenkhkinoaaGreatDoorM20
import Derived.Test.YtnbkbenkhkinoaaGreatDoorM21
import Derived.Test.YtnbkbenkhkinoaaGreatDoorM22
import Derived.Test.YtnbkbenkhkinoaaGreatDoorM23
import Derived.Test.YtnbkbenkhkinoaaGreatDoorM29
namespace Go.Proofs.YtnbkbenkhkinoaaGreatDoor
set_option linter.unusedVariables false
set_option linter.unusedSimpArgs false
open Go.RowKit
theorem step_add {ops:Array Oper} {o:Oper} {a:Act} {K:Act→World→Prop} {Q:Exit→Act→World→Prop} {E0:Prop} {base:Nat} {w:World} {t e:TypeId} {z:Value} {size bytes:Nat} (E:El t e z size bytes)
  (hgd:o.guard=none) (s x:Operand) (ho:o.op=.call { callee:=.builtin .append,args:=#[s,x],argTypes:=#[t,t] }) {v:Value} {n:Nat} {xs:List Value} (hs:a.eval s=v)
  (hown:w.ownsRow base e size v n xs) (hbase:base≤w.heap.size) {B:Nat} {cs:Array Value} {tc:TypeId} (hB:Blk w B tc cs) (c:Nat) (hx:a.eval x=.slice (some ⟨B,0,none⟩) 1 c) (hl:cs.toList.length=size) (h1:∀ u∈cs.toList,u.oneCell'=true)
  (hbytes:(n+1)*bytes≤140737488355328) (h63:n+1≤140737488355328)
  (h:∀ g cap w',w'.ownsRow base e size (.slice (some ⟨g,0,none⟩) (n+1) cap) (n+1) (xs++cs.toList)→w.grownBy w' v.ownBlock→(v.ownBlock=some g∨w.heap.size≤g)→K (a.put o.dst (.slice (some ⟨g,0,none⟩) (n+1) cap)) w') :
  if Region.wanted o (yielded ops a.tmps)=true then Oper.wp Tryz.prog o a w K Q else E0:=by
 obtain⟨i0,hi0,hz0,hz1,hz2⟩:=info_parts E.info
 refine step_append_lies _ hgd s x t ho base e i0 z size bytes E.under hi0 hz0 hz1 hz2 E.zs E.pos v n xs hs hown ⟨B,0,none⟩ 1 c cs.toList hx (by rw[hl,Nat.one_mul])
  (World.news_of_block (cs:=cs) (t:=tc) (fr:=(0,0)) hB) h1 (by omega) (Nat.le_trans h63 (by decide)) hbytes hbase _ rfl fun g cap w' ho2 hg hat _=>?_
 exact h g cap w' ho2 hg (hat.imp id fun e=>by omega)
theorem elFrame:El 138 137 (.agg #[.int .i64 0,.string ⟨#[]⟩,.int .i64 0,.int .i64 0,.bool false,.bool false,.slice none 0 0]) 7 72:=⟨Tryz.underlying138,by kernel_rfl,rfl,by decide⟩
def zero7:Array Value:=#[.int .i64 0,.string ⟨#[]⟩,.int .i64 0,.int .i64 0,.bool false,.bool false,.slice none 0 0]
theorem owns_belowW {w w':World} {base:Nat} {e:TypeId} {size:Nat} {v:Value} {n:Nat} {xs:List Value} (h:w.ownsRow base e size v n xs) (hb:Below w.heap.size w w'):w'.ownsRow base e size v n xs :=
 h.kept (grownBy_of_below hb none) (by cases v.ownBlock<;>simp)
theorem Sk.frames {B K gs N cap:Nat} {R:List Fm} {f:Fm} {wc wd w3:World} (h:Sk B wc (.slice (some ⟨gs,0,none⟩) (N+1) cap) (R++[f]) K) (hN:R.length=N) (hgm:Below wc.heap.size wc wd) (hg3:wd.grownBy w3 f.v.ownBlock) :
  w3.ownsRow B 137 7 (.slice (some ⟨gs,0,none⟩) (N+1) cap) (N+1) (R.flatMap fmcells++fmcells f):=by
 have h1:=h.row;rw[List.length_append,List.length_singleton,hN,List.flatMap_append,List.flatMap_singleton]at h1;refine(owns_belowW h1 hgm).kept hg3 (.inr fun e=>?_);exact owns_apart (h.kid f (List.mem_append_right _ (List.mem_singleton.2 rfl))) h1 (by decide) e.symm rfl
theorem frames_put {B gs N cap:Nat} {R:List Fm} {f:Fm} {w3:World} (h:w3.ownsRow B 137 7 (.slice (some ⟨gs,0,none⟩) (N+1) cap) (N+1) (R.flatMap fmcells++fmcells f)) (hN:R.length=N) (v':Value) :
  (w3.setCell ⟨gs,N*7+6,none⟩ v').ownsRow B 137 7 (.slice (some ⟨gs,0,none⟩) (N+1) cap) (N+1) (R.flatMap fmcells++(tkcells f.t++[v'])):=by
 have h2:=owns_setAt h (i:=N*7+6) (by omega) v'
 have e:(R.flatMap fmcells).length=N*7:=by rw[flat_length fmcells_length,hN]
 rw[List.set_append,if_neg (by omega),e,show N*7+6-N*7=6 by omega]at h2;exact h2
theorem Sk.put {B K gs cap N gg x y:Nat} {R:List Fm} {f:Fm} {k:Vl} {v':Value} {wc wd w3 w4 w':World} (h:Sk B wc (.slice (some ⟨gs,0,none⟩) (N+1) cap) (R++[f]) K) (hN:R.length=N)
  (hk:∃ h,Safe (skA B (.slice (some ⟨gs,0,none⟩) (N+1) cap) (R++[f])) wc fun w=>VlIn w h k)
  (hgm:Below wc.heap.size wc wd) (hg3:wd.grownBy w3 f.v.ownBlock) (hat:f.v.ownBlock=some gg∨wd.heap.size≤gg) (hv':v'.ownBlock=some gg) (hB:B≤wc.heap.size)
  (h4:w3.grownBy w4 (some x)) (h5:w4.grownBy w' (some y)) (hx:x=gs∨x=gg) (hy:y=gs∨y=gg)
  (hrow:w'.ownsRow B 137 7 (.slice (some ⟨gs,0,none⟩) (N+1) cap) (N+1) (R.flatMap fmcells++(tkcells f.t++[v'])))
  (hkid:w'.ownsRow B 104 7 v' (f.kids.length+1) (f.kids.flatMap vcells++vcells k)) :
  Sk B w' (.slice (some ⟨gs,0,none⟩) (N+1) cap) (R++[⟨f.t,v',f.kids++[k]⟩]) (K+1)∧Below B wc w':=by
 have s1:=hgm.size;have s2:=hg3.size;have s3:=h4.size;have s4:=h5.size;have hgs:B≤gs:=(hrow.lt gs rfl).1
 have hgg:B≤gg:=by
  rcases hat with h1 | h1
  · exact((h.kid f (List.mem_append_right _ (List.mem_singleton.2 rfl))).lt gg h1).1
  · omega
 have hfk:=(h.kid f (List.mem_append_right _ (List.mem_singleton.2 rfl))).lt;refine⟨h.kidPut hk hv' (hat.imp id fun e=>by omega) (by omega) (fun b hb h1 h2=>?_) (by rw[hN];exact hrow) hkid,⟨?_,?_,?_,by omega,fun b hb=>?_⟩⟩
 · have e1:b≠gs:=fun e=>h1 (by rw[e];rfl)
   have e2:b≠gg:=fun e=>by
    rcases hat with h3 | h3
    · exact h2 (by rw[h3,e])
    · omega
   have e3:some b≠some x:=fun e=>by injection e with e;rcases hx with rfl|rfl<;>contradiction
   have e4:some b≠some y:=fun e=>by injection e with e;rcases hy with rfl|rfl<;>contradiction
   exact(h5.block b (by omega) e4).trans ((h4.block b (by omega) e3).trans ((hg3.block b (by omega) (fun e=>h2 e.symm)).trans (hgm.block b hb)))
 · exact h5.os.trans (h4.os.trans (hg3.os.trans hgm.os))
 · exact h5.tape.trans (h4.tape.trans (hg3.tape.trans hgm.tape))
 · exact h5.output.trans (h4.output.trans (hg3.output.trans hgm.output))
 · have e3:some b≠some x:=fun e=>by injection e with e;omega
   have e4:some b≠some y:=fun e=>by injection e with e;omega
   have e5:some b≠f.v.ownBlock:=fun e=>by have:=(hfk b e.symm).1;omega
   exact(h5.block b (by omega) e4).trans ((h4.block b (by omega) e3).trans ((hg3.block b (by omega) e5).trans (hgm.block b (by omega))))
set_option maxRecDepth 20000 in
set_option maxHeartbeats 8000000 in
theorem shut_any (B K N:Nat) (R:List Fm) (p f:Fm) (gs cap:Nat) (w:World) (hN:R.length=N) (h:Sk B w (.slice (some ⟨gs,0,none⟩) (N+2) cap) (R++[p]++[f]) K) (hB:B≤w.heap.size) (hK:(K+1)*72≤140737488355328) :
  Calls Tryz.prog 74 #[.slice (some ⟨gs,0,none⟩) (N+2) cap] w fun e w'=>e=.returned (.slice (some ⟨gs,0,none⟩) (N+1) cap) ∧
   (∃ v' k,Sk B w' (.slice (some ⟨gs,0,none⟩) (N+1) cap) (R++[⟨p.t,v',p.kids++[k]⟩]) (K+1)∧k.c=.mk f.t (f.kids.map Vl.c))∧Below B w w':=by
 have hlen:(R++[p]).length=N+1:=by rw[List.length_append,hN];rfl
 have hrow:=h.row;rw[List.length_append,hlen,List.length_singleton]at hrow;obtain⟨hcap,hcm⟩:=owns_cap hrow;unfold maxLen at hcm;have hgl:=owns_lt hrow
 -- the frame's cells
 have hcellF:∀ j v,(fmcells f)[j]?=some v→w.cell? ⟨gs,(N+1)*7+j,none⟩=some v:=fun j v hv=>owns_cell hrow (flat_at fmcells_length _ (N+1) f j v (by rw[List.getElem?_append_right (by omega),hlen,Nat.sub_self];rfl) hv)
 obtain⟨hpop,foa,fc,fg,fh,hfv,hfs⟩:=Sk.pop (R:=R++[p]) (cap:=cap) (gs:=gs) (f:=f) (by rw[hlen];exact h) (by omega);rw[hlen]at hpop hfs;obtain⟨⟨fk,ft,⟨fn,fd⟩,fi,fid⟩,fv,fkids⟩:=f;simp only at hfv hfs ⊢;subst hfv;have c0:=hcellF 0 _ rfl;have c1:=hcellF 1 _ rfl;have c2:=hcellF 2 _ rfl;have c3:=hcellF 3 _ rfl;have c4:=hcellF 4 _ rfl;have c5:=hcellF 5 _ rfl;have c6:=hcellF 6 _ rfl;clear hcellF h hrow;have hrowP:=hpop.row;rw[hlen]at hrowP;have hcellP:w.cell? ⟨gs,N*7+6,none⟩=some p.v:=owns_cell hrowP (flat_at fmcells_length _ N p 6 p.v (by rw[List.getElem?_append_right (by omega),hN,Nat.sub_self];rfl) rfl);obtain⟨n,hn⟩:∃ n,N+1=n:=⟨_,rfl⟩;obtain⟨M,hM⟩:∃ M,N+2=M:=⟨_,rfl⟩
 have iM:(M:Int)-1=(n:Int):=by omega
 have iN:(n:Int)-1=(N:Int):=by omega
 rw[hn]at c0 c1 c2 c3 c4 c5 c6 hpop hfs ⊢;rw[hM]at hcap ⊢;rw[Nat.add_zero]at c0;obtain⟨kl,hkl⟩:∃ kl,fkids.length=kl:=⟨_,rfl⟩
 have c6':w.cell? ⟨gs,n*7+6,none⟩=some (.slice foa kl fc):=by rw[← hkl];exact c6
 clear c6;have HPOP:=Lib.hid hpop;have HFS:=Lib.hid hfs;have HKL:=Lib.hid hkl;have HM:=Lib.hid (And.intro hN (And.intro hn (And.intro hM hlen)));clear hpop hfs hcellP hkl hN hn hM hlen hrowP
 go_enter Tryz.func74,Tryz.ntmps74
 go_upto_region 4 with fail
 have hbx:=Blk.new w 137 #[.int .i64 fk,.string ⟨ft.toArray⟩,.int .i64 fn,.int .i64 fd,.bool fi,.bool fid,.slice foa kl fc];have hb1:=Lib.hid (Below.mono (below_box w (.cells #[.int .i64 fk,.string ⟨ft.toArray⟩,.int .i64 fn,.int .i64 fd,.bool fi,.bool fid,.slice foa kl fc] 137)) hB);have hp1:=Lib.hid (HPOP.out.below (below_box w (.cells #[.int .i64 fk,.string ⟨ft.toArray⟩,.int .i64 fn,.int .i64 fd,.bool fi,.bool fid,.slice foa kl fc] 137)));have hs1:=Lib.hid (HFS.out.alloc (.cells #[.int .i64 fk,.string ⟨ft.toArray⟩,.int .i64 fn,.int .i64 fd,.bool fi,.bool fid,.slice foa kl fc] 137));clear c0 c1 c2 c3 c4 c5 c6' HPOP HFS;obtain⟨g4,hg4⟩:∃ g4,w.heap.size=g4:=⟨_,rfl⟩;rw[hg4]at hbx hB;simp only[hg4];generalize w.alloc _=w1 at *;have HBX:=Lib.hid hbx;have hl4:=hbx.lt;clear hbx
 go_cut [16] (fun s wx=>∃ b:Bool,s=.bool b∧Hid (Below w1.heap.size w1 wx))
 case first =>
  go_region
  all_goals
   go_wp2_with fail;go_meet
   case rel=>exact⟨_,rfl,Lib.hid (Below.drew (below_box _ _))⟩
 case rest =>
  obtain⟨bb,rfl,hbw⟩:=hcut;have hp2:=hp1.out.below hbw.out;have hs2:=Lib.hid (hs1.out.below hbw.out);have hb2:=Lib.hid (hb1.out.trans (Below.mono hbw.out (by omega)));have hbx:=HBX.out.below hbw.out HBX.out.lt;clear hp1 hs1 HBX;have hsz:=hb2.out.size;have hrowP:=hp2.row;have hm:=HM.out;rw[hm.2.2.2,hm.2.1]at hrowP;have hpm:p∈R++[p]:=List.mem_append_right _ (List.mem_singleton.2 rfl);have hkP:=hp2.kid p hpm;have hlP:=hp2.len p hpm;have hcP:wc.cell? ⟨gs,N*7+6,none⟩=some p.v:=owns_cell hrowP (flat_at fmcells_length _ N p 6 p.v (by rw[List.getElem?_append_right (by omega),hm.1,Nat.sub_self];rfl) rfl);have hfP:wc.frozen? ⟨gs,N*7+6,none⟩=false:=owns_frozen hrowP _;have hgsl:=(owns_lt hrowP).2;have hne4:p.v.ownBlock≠some g4:=blk_apart hbx hkP (by decide)
  have hneS:g4≠gs:=by omega
  have iN0:(0:Int)≤(N:Int):=Int.natCast_nonneg _
  have iNn:(N:Int)<(n:Int):=by omega
  have iNn2:N<n:=by omega
  have iwr:IntKind.i64.wrap (N:Int)=(N:Int):=by rw[IntKind.wrap_i64];omega
  have hneP:p.v.ownBlock≠some gs:=fun e=>owns_apart hkP hrowP (by decide) e rfl
  have hpvl:=hkP.lt;obtain⟨pt,pv,pkids⟩:=p;simp only at hkP hlP hcP hne4 hneP hpvl ⊢;obtain⟨poa,pc,pg,rfl,_,_⟩:=sl_of_own hkP;obtain⟨k,hk⟩:∃ k,pkids.length=k:=⟨_,rfl⟩;rw[hk]at hkP hlP hcP hne4 hneP hpvl;have HKP:=Lib.hid hkP;have HK:=Lib.hid hk;have HP2:=Lib.hid hp2;have HRP:=Lib.hid hrowP;have HVL:=Lib.hid hpvl
  have hbase:B≤wc.heap.size+1:=by omega
  have cb0:wc.cell? ⟨g4,0,none⟩=some (.int .i64 fk):=(hbx).cell 0;have fcb0:=(hbx).frozen 0;have cb1:wc.cell? ⟨g4,1,none⟩=some (.string ⟨ft.toArray⟩):=(hbx).cell 1;have fcb1:=(hbx).frozen 1;have cb2:wc.cell? ⟨g4,2,none⟩=some (.int .i64 fn):=(hbx).cell 2;have fcb2:=(hbx).frozen 2;have cb3:wc.cell? ⟨g4,3,none⟩=some (.int .i64 fd):=(hbx).cell 3;have fcb3:=(hbx).frozen 3;have cb4:wc.cell? ⟨g4,4,none⟩=some (.bool fi):=(hbx).cell 4;have fcb4:=(hbx).frozen 4;have cb5:wc.cell? ⟨g4,5,none⟩=some (.bool fid):=(hbx).cell 5;have fcb5:=(hbx).frozen 5;have cb6:wc.cell? ⟨g4,6,none⟩=some (.slice foa kl fc):=(hbx).cell 6;have fcb6:=(hbx).frozen 6;have lcb:=(hbx).lt;clear hp2 hrowP hm hpm hkP hk hbx hbw hpvl
  cases bb with
  | true =>
    go_wp2_with fail;refine wp_region_phase 16 [Loose.claim 13 30 (.agg #[.int .i64 fk,.string ⟨ft.toArray⟩,.int .i64 fn,.int .i64 fd,.bool fi,.bool fid,.slice foa kl fc]),Loose.claim 14 31 (.int .i64 k),Loose.rowL 15 32 104 1 zero7 wc.heap.size] (by kernel_rfl) (by kernel_rfl) (by kernel_rfl) rfl (by kernel_rfl) (by kernel_rfl) (by kernel_rfl) (by kernel_rfl) ?_;simp only[List.take_succ_cons,List.take_zero,headL,hushL,List.find?,Loose.claim_i,Loose.cells_i,Loose.rowL_i,Loose.claim_hush,Loose.cells_hush,Loose.rowL_hush,Loose.val_i,Loose.rowS_i,Loose.val_hush,Loose.rowS_hush,Loose.fw_i,Loose.fw_hush,Loose.rw_i,Loose.rw_hush,Nat.reduceBEq,Nat.reduceAdd]
    repeat (go_big_quiet_step (fail))
    refine wpQuiet_nil ⟨fun V m=>?_,fun V m=>?_⟩
    · simp only[List.take_succ_cons,List.take_zero,obs_cons,obs_nil,List.getElem?_cons_zero,List.getElem?_cons_succ,fill_nil,fill_claim,fill_cells,fill_rowL,Loose.claim_i,Loose.cells_i,Loose.rowL_i,Act.put,List.setIfInBounds_toArray,List.set_cons_zero,List.set_cons_succ,fill_val,fill_rowS,Loose.val_i,Loose.rowS_i,fill_fw,Loose.fw_i,fill_rw,Loose.rw_i];refine⟨fun _=>?_,fun _=>?_,fun _=>?_,trivial⟩
      · go_wp2_with fail;exact post_claim rfl (Below.refl _ _)
      · go_wp2_with fail;exact post_claim rfl (Below.refl _ _)
      · go_wp2_with fail;exact post_rowL rfl (grow_size m)
    · simp only[laws_nil,laws_claim,laws_cells,laws_rowL,laws_val,laws_rowS,laws_fw,laws_rw,dist_nil,dist_claim,dist_cells,dist_rowL,dist_val,dist_rowS,dist_fw,dist_rw,dist1_nil,dist1_claim,dist1_cells,dist1_rowL,dist1_val,dist1_fw,dist1_cells_rowL,dist1_rowL_cells,List.length_cons,List.length_nil,Nat.reduceAdd,Nat.reduceSub,and_true,fill_nil,fill_claim,fill_cells,fill_rowL,Loose.claim_i,Loose.cells_i,Loose.rowL_i,Act.put,List.setIfInBounds_toArray,List.set_cons_zero,List.set_cons_succ,fill_val,fill_rowS,Loose.val_i,Loose.rowS_i,fill_fw,Loose.fw_i,fill_rw,Loose.rw_i];rintro⟨gb,hv15,hgb,hbk⟩ _;rw[hv15];clear hv15;have hgm:=grow_below m;generalize grow wc m=wd at *;refine wpAny_ready (rs:=[16]) (by kernel_rfl) (by simp) ?_;refine AllReady.cons rfl (fun K hK=>?_) AllReady.nil
      refine step_add elVal (by rfl) _ _ (by rfl) (by rfl) (owns_belowW HKP.out hgm) (by have:=hgm.size;omega) hbk 1 (by rfl) (by rfl) (by simp[zero7,Value.oneCell']) (by omega) (by omega) ?_;intro gg cap3 w3 ho3 hg3 hat;refine hK _ _ ?_;clear hK K;change wpAny _ _ _ _ _ _ (Act.put _ (some 33) _) _
      try simp only[Act.put,List.setIfInBounds_toArray,List.set_cons_zero,List.set_cons_succ]
      refine wpAny_take (i:=17) (v:=?vv17) rfl (by kernel_rfl) (by kernel_rfl) (by kernel_rfl) (fun _ _ _ h=>h) (Or.inl ⟨by rfl,?hy17⟩) ?_
      case hy17=>(intro w;go_simp;try with_reducible rfl)
      change wpAny _ _ _ _ _ _ (Act.put _ (some 34) _) _
      try simp only[Act.put,List.setIfInBounds_toArray,List.set_cons_zero,List.set_cons_succ]
      refine wpAny_take (i:=18) (v:=?vv18) rfl (by kernel_rfl) (by kernel_rfl) (by kernel_rfl) (fun _ _ _ h=>h) (Or.inl ⟨by rfl,?hy18⟩) ?_
      case hy18=>(intro w;go_simp;try with_reducible rfl)
      change wpAny _ _ _ _ _ _ (Act.put _ (some 35) _) _
      try simp only[Act.put,List.setIfInBounds_toArray,List.set_cons_zero,List.set_cons_succ]
      have q1:w3.cell? ⟨gs,N*7+6,none⟩=some (.slice poa k pc):=(hg3.cell_far _ (by have:=hgm.size;simp;omega) (Ne.symm hneP)).trans ((hgm.cell hgsl).trans hcP);have q2:w3.frozen? ⟨gs,N*7+6,none⟩=false:=(hg3.frozen_far _ (by have:=hgm.size;simp;omega) (Ne.symm hneP)).trans ((hgm.frozen hgsl).trans hfP);refine wpAny_ready (rs:=[19]) (by kernel_rfl) (by simp) ?_;refine AllReady.cons rfl (fun K hK=>?_) AllReady.nil
      go_simp
      refine hK _ _ ?_;clear hK K;refine wpAny_done (by kernel_rfl) ?_ _;have hp3:=HP2.out;rw[← HM.out.2.1]at hp3
      have hg3':wd.grownBy w3 (Value.slice poa pkids.length pc).ownBlock:=by rw[HK.out];exact hg3
      have hfr:=hp3.frames HM.out.1 hgm hg3';have hfr2:=frames_put hfr HM.out.1 (.slice (some ⟨gg,0,none⟩) (k+1) cap3)
      have hgne:gg≠gs:=fun e=>owns_apart ho3 hfr (by decide) rfl (by rw[e];rfl)
      have ho4:=ho3.kept (grownBy_set w3 ⟨gs,N*7+6,none⟩ (.slice (some ⟨gg,0,none⟩) (k+1) cap3)) (.inr fun e=>hgne (Option.some.inj e))
      have hln:(pkids.flatMap vcells).length=k*7:=by rw[flat_length vcells_length,HK.out]
      have z:∀ j u,zero7.toList[j]?=some u→(w3.setCell ⟨gs,N*7+6,none⟩ (.slice (some ⟨gg,0,none⟩) (k+1) cap3)).cell? ⟨gg,k*7+j,none⟩=some u:=fun j u hu=>owns_cell ho4 (by rw[List.getElem?_append_right (by omega),hln,show k*7+j-k*7=j by omega];exact hu)
      have z0:=z 0 _ rfl;have z1:=z 1 _ rfl;have z2:=z 2 _ rfl;have z3:=z 3 _ rfl;have z4:=z 4 _ rfl;have z5:=z 5 _ rfl;have z6:=z 6 _ rfl;simp only[Nat.add_zero]at z0;have y0:=owns_frozen ho4 (k*7);have y1:=owns_frozen ho4 (k*7+1);have y2:=owns_frozen ho4 (k*7+2);have y3:=owns_frozen ho4 (k*7+3);have y4:=owns_frozen ho4 (k*7+4);have y5:=owns_frozen ho4 (k*7+5);have y6:=owns_frozen ho4 (k*7+6);have hcap3:=owns_cap ho3;have H4:=Lib.hid (grownBy_set w3 ⟨gs,N*7+6,none⟩ (.slice (some ⟨gg,0,none⟩) (k+1) cap3));have H3:=Lib.hid (And.intro hgm (And.intro hg3 (And.intro hat (And.intro ho4 (And.intro hfr2 hgne)))));clear z hg3' hp3 hfr hfr2 ho3 ho4 hg3 hgm hat q1 q2 cb0 cb1 cb2 cb3 cb4 cb5 cb6 fcb0 fcb1 fcb2 fcb3 fcb4 fcb5 fcb6 lcb hcP hfP hbk;generalize w3.setCell _ _=w4 at *;go_wp2_with fail;go_ret;obtain⟨hN,hn,_,_⟩:=HM.out;subst hn;obtain⟨hgm,hg3,hat,ho4,hfr,hgne⟩:=H3.out;have hkl:=HKL.out
      have hk:=HK.out;subst hkl hk;have hG:=grownBy_puts [.int .i64 fk,.string ⟨ft.toArray⟩,.int .i64 fn,.int .i64 fd,.bool fi,.bool fid,.slice foa fkids.length fc] w4 gg (pkids.length*7);have hkid:=owns_puts [.int .i64 fk,.string ⟨ft.toArray⟩,.int .i64 fn,.int .i64 fd,.bool fi,.bool fid,.slice foa fkids.length fc] (pkids.length*7) w4 _ _ ho4 (flat_length vcells_length _) rfl (by simp;omega);have hput:=Sk.put (k:=.mk ⟨fk,ft,(fn,fd),fi,fid⟩ foa fg 0 fc fkids) HP2.out hN ⟨fh,hs2.out⟩ hgm hg3 hat rfl (by omega) H4.out hG (Or.inl rfl) (Or.inr rfl) (hfr.kept hG (.inr fun e=>hgne (Option.some.inj e).symm)) hkid;exact⟨rfl,⟨_,_,hput.1,Vl.c_mk _ _ _ _ _ _⟩,hb2.out.trans hput.2⟩
  | false =>
    go_wp2_with fail
    go_region_law
     ((refine step_add elVal (by rfl) _ _ (by rfl) (by rfl) ((HKP.out.alloc _).drew) (by simpa using hbase) (B:=wc.heap.size) (cs:=#[.int .i64 fk,.string ⟨ft.toArray⟩,.int .i64 fn,.int .i64 fd,.bool fi,.bool fid,.slice foa kl fc]) (tc:=104) (Blk.new wc _ _) 1 (by rfl) (by rfl) (by simp[Value.oneCell']) (by omega) (by omega) ?_;intro gg cap3 w3 ho3 hg3 hat;have q1:w3.cell? ⟨gs,N*7+6,none⟩=some (.slice poa k pc):=(hg3.cell_far _ (by simp;omega) (Ne.symm hneP)).trans ((Below.cell (B:=wc.heap.size) (Below.drew (below_box wc _)) hgsl).trans hcP);have q2:w3.frozen? ⟨gs,N*7+6,none⟩=false:=(hg3.frozen_far _ (by simp;omega) (Ne.symm hneP)).trans ((Below.frozen (B:=wc.heap.size) (Below.drew (below_box wc _)) hgsl).trans hfP)))
    all_goals
     have hgm:Below wc.heap.size wc (wc.alloc (.cells #[.int .i64 fk,.string ⟨ft.toArray⟩,.int .i64 fn,.int .i64 fd,.bool fi,.bool fid,.slice foa kl fc] 104)).drew:=Below.drew (below_box wc _);obtain⟨hN,hn,_,_⟩:=HM.out;subst hn;have hkl:=HKL.out;have hk:=HK.out;subst hkl hk;have hfr:=HP2.out.frames hN hgm hg3;have hfr2:=frames_put hfr hN (.slice (some ⟨gg,0,none⟩) (pkids.length+1) cap3)
     have hgne:gg≠gs:=fun e=>owns_apart ho3 hfr (by decide) rfl (by rw[e];rfl)
     have hG:=grownBy_set w3 ⟨gs,N*7+6,none⟩ (.slice (some ⟨gg,0,none⟩) (pkids.length+1) cap3);have ho4:=ho3.kept hG (.inr fun e=>hgne (Option.some.inj e));have HPUT:=Lib.hid (Sk.put (k:=.mk ⟨fk,ft,(fn,fd),fi,fid⟩ foa fg 0 fc fkids) HP2.out hN ⟨fh,hs2.out⟩ hgm hg3 hat rfl (by omega) hG (grownBy_refl _ (some gg)) (Or.inl rfl) (Or.inr rfl) hfr2 ho4);clear hfr hfr2 ho3 ho4 hG hg3 hat hgm q1 q2 cb0 cb1 cb2 cb3 cb4 cb5 cb6 fcb0 fcb1 fcb2 fcb3 fcb4 fcb5 fcb6 lcb hcP hfP;generalize w3.setCell _ _=w4 at *;go_wp2_with fail;go_ret;exact⟨rfl,⟨_,_,HPUT.out.1,Vl.c_mk _ _ _ _ _ _⟩,hb2.out.trans HPUT.out.2⟩
theorem elVs:El 273 86 (.slice none 0 0) 1 24:=⟨Tryz.underlying273,by kernel_rfl,rfl,by decide⟩
def isPs (A A2:Nat→Prop) (h:Nat) (P:List (List Vt)) (v:Value) (w:World):Prop:=∃ (oa:Option Addr) (cap b:Nat) (D:List Value),v=.slice oa D.length cap∧D.length=P.length∧Safe A2 w (fun w=>Sl w oa D.length cap b 0 1 D)∧∀ (i:Nat) (s:Value) (X:List Vt),D[i]?=some s→P[i]?=some X→isVs A h X s w
theorem isVs.grown {A:Nat→Prop} {h:Nat} {X:List Vt} {v:Value} {w w':World} {row:Option Nat} (hv:isVs A h X v w) (hg:w.grownBy w' row) (hr:∀ k,row=some k→k<w.heap.size→A k):isVs A h X v w':=by
 obtain⟨oa,cap,b,o,l,hv,hc,hs⟩:=hv;exact⟨oa,cap,b,o,l,hv,hc,hs.grown hg hr⟩
theorem isVs.slice {A:Nat→Prop} {h:Nat} {X:List Vt} {v:Value} {w:World} (hv:isVs A h X v w):∃ oa n cap,v=.slice oa n cap:=by
 obtain⟨oa,cap,b,o,l,hv,_⟩:=hv;exact⟨oa,_,cap,hv⟩
theorem commaV_c (t:Tk) (k:List Vt):commaV (.mk t k)=(t.kind==18):=rfl
theorem splitG_comma {cur:List Vt} {x:Vt} {r:List Vt} (h:commaV x=true):splitG cur (x::r)=trimV cur::splitG [] r:=by rw[splitG,if_pos h]
theorem splitG_other {cur:List Vt} {x:Vt} {r:List Vt} (h:commaV x=false):splitG cur (x::r)=splitG (cur++[x]) r:=by rw[splitG,if_neg (by simp[h])]
theorem splitG_len:∀ (r cur:List Vt),(splitG cur r).length≤r.length+1
 | [],_=>Nat.le_refl _
 | x::r,cur=>by
   have h1:=splitG_len r [];have h2:=splitG_len r (cur++[x]);rw[splitG];split
   · simp only[List.length_cons];omega
   · simp only[List.length_cons];omega
set_option maxRecDepth 20000 in
set_option maxHeartbeats 8000000 in
theorem rsplit_any (h:Nat) (l:List Vl) (oa:Option Addr) (cap b o:Nat) (w:World) (hs:VsIn w h oa cap b o l) :
  Calls Tryz.prog 245 #[.slice oa l.length cap] w fun e w'=>(∃ v,e=.returned v∧isPs (· < w.heap.size) (· < w.heap.size) h (splitV (l.map Vl.c)) v w')∧Below w.heap.size w w':=by
 obtain⟨XL,hXL⟩:∃ XL,l.map Vl.c=XL:=⟨_,rfl⟩;obtain⟨Y,hY⟩:∃ Y,splitV XL=Y:=⟨_,rfl⟩;rw[hXL,hY];obtain⟨N,hN⟩:∃ N,l.length=N:=⟨_,rfl⟩
 have hNX:XL.length=N:=by rw[← hXL,List.length_map,hN]
 have hsm:=hs.small;have hcm:=hs.sl.max;have hcl:=hs.sl.le;unfold maxLen at hcm;rw[hN]at hsm hcl
 have hYl:Y.length≤N+1:=by rw[← hY,← hNX];exact splitG_len XL []
 have HS:=Lib.hid hs;have HN:=Lib.hid (And.intro hN (And.intro hXL (And.intro hNX hY)))
 have HT:=Lib.hid (fun(a c:Nat) (hac:a≤c) (hc:c≤l.length) (wx:World) (hb:Below w.heap.size w wx) =>
  (show (∃ (oa':Option Addr) (c':Nat),oa'=(if cap=a then oa else oa.map (·.add (a*7)))∧c'=cap-a∧Calls Tryz.prog 47 #[.slice oa' (c-a) c'] wx fun e w'=>(∃ v,e=.returned v∧isVs (· < wx.heap.size) h (trimV ((XL.take c).drop a)) v w')∧Below wx.heap.size wx w') from by
    obtain⟨oa',ho⟩:∃ oa',oa'=(if cap=a then oa else oa.map (·.add (a*7))):=⟨_,rfl⟩;obtain⟨c',hc'⟩:∃ c',c'=cap-a:=⟨_,rfl⟩;refine⟨oa',c',ho,hc',?_⟩;subst ho hc';generalize hoa':(if cap=a then oa else oa.map (·.add (a*7)))=oa';obtain⟨c',hc'⟩:∃ c',cap-a=c':=⟨_,rfl⟩
    have hlen:((l.take c).drop a).length=c-a:=by rw[List.length_drop,List.length_take];omega
    have hmap:((l.take c).drop a).map Vl.c=(XL.take c).drop a:=by rw[List.map_drop,List.map_take,hXL]
    rw[← hlen,← hmap,hc'];subst hoa' hc'
    exact rtrim_any h ((l.take c).drop a) _ _ b (o+a*7) wx ((hs.below hb).part hac hc)))
 clear hs hN hXL hNX hY;rw[HN.out.1]
 go_enter Tryz.func245,Tryz.ntmps245
 go_upto_block 0 with fail
 go_cut [3,4] (fun s3 s4 wx=>∃ (a:Nat) (v:Value) (D:List Value) (P:List (List Vt)),s4=.int .i64 a∧v=s3∧a≤N∧Hid (Below w.heap.size w wx)∧Hid (wx.ownsRow w.heap.size 86 1 v D.length D)∧Hid (D.length=P.length∧P++[trimV (XL.drop a)]=Y)∧Hid (∀ (i:Nat) (s:Value) (X:List Vt),D[i]?=some s→P[i]?=some X→isVs (fun b=>b<w.heap.size∨v.ownBlock=some b) h X s wx))
 case first =>
  go_wp2_with fail
  go_loopg [3,4,9] N (fun q s3 s4 s wr=>∃ (i a:Nat) (v:Value) (D:List Value) (P:List (List Vt)),s=.int .i64 i∧s4=.int .i64 a∧v=s3∧a≤i∧i≤N∧Hid (Below w.heap.size w wr)∧Hid (wr.ownsRow w.heap.size 86 1 v D.length D)∧Hid (D.length=P.length∧P++splitG ((XL.take i).drop a) (XL.drop i)=Y)∧Hid (∀ (i:Nat) (s:Value) (X:List Vt),D[i]?=some s→P[i]?=some X→isVs (fun b=>b<w.heap.size∨v.ownBlock=some b) h X s wr)∧D.length≤i∧N-i≤q)
  case atStart=>exact⟨0,0,_,[],[],rfl,rfl,rfl,Nat.le_refl _,Nat.zero_le _,Lib.hid (Below.refl _ _),Lib.hid (World.ownsRow_nil _ _ _ _),Lib.hid ⟨rfl,HN.out.2.2.2⟩,Lib.hid (fun i s X h1 _=>by cases h1),Nat.le_refl _,by omega⟩
  case round =>
   obtain⟨i,a,v,D,P,rfl,rfl,rfl,hai,hiN,hb,hO,hP,hV,hDi,hq⟩:=hrel
   by_cases hi:i<N
   · have gi:decide ((i:Int)<(N:Int))=true:=by simpa using hi
     have gin:decide (i<N)=true:=by simpa using hi
     have hil:i<l.length:=by rw[HN.out.1];exact hi
     have hli:l[i]?=some l[i]:=List.getElem?_eq_getElem hil;have hs2:=HS.out.below hb.out;obtain⟨rfl,hbl⟩:=hs2.sl.lies (by omega);obtain⟨x,hx⟩:∃ x,l[i]=x:=⟨_,rfl⟩;rw[hx]at hli
     have hxl:i<XL.length:=by rw[HN.out.2.2.1];exact hi
     have hxi:XL[i]=x.c:=by
      have:XL[i]?=some x.c:=by rw[← HN.out.2.1,List.getElem?_map,hli];rfl
      exact Option.some.inj ((List.getElem?_eq_getElem hxl).symm.trans this)
     have hdr:XL.drop i=x.c::XL.drop (i+1):=by rw[List.drop_eq_getElem_cons hxl,hxi]
     have htk:(XL.take (i+1)).drop a=(XL.take i).drop a++[x.c]:=by rw[List.take_succ_eq_append_getElem hxl,hxi,List.drop_append_of_le_length (by rw[List.length_take];omega)]
     obtain⟨t,koa,kb,ko,kcap,kids⟩:=x;obtain⟨K,hK⟩:∃ K,kids.length=K:=⟨_,rfl⟩;have f0:=hs2.cell hli (j:=0) rfl;have f1:=hs2.cell hli (j:=1) rfl;have f2:=hs2.cell hli (j:=2) rfl;have f3:=hs2.cell hli (j:=3) rfl;have f4:=hs2.cell hli (j:=4) rfl;have f5:=hs2.cell hli (j:=5) rfl;have f6:=hs2.cell hli (j:=6) rfl;rw[Nat.add_zero]at f0;rw[hK]at f6;obtain⟨tk,tt,⟨tn,td⟩,ti,tid⟩:=t;rw[Vl.c_mk]at hdr htk;have HD:=Lib.hid (And.intro hdr htk);clear hs2 hli hil hx hxi hxl hdr htk hK
     go_upto_region 6 with fail
     have hb1:=Lib.hid (hb.out.alloc hb.out.size (.cells #[.int .i64 tk,.string ⟨tt.toArray⟩,.int .i64 tn,.int .i64 td,.bool ti,.bool tid,.slice koa K kcap] 104));have hbx:=Blk.new wr 104 #[.int .i64 tk,.string ⟨tt.toArray⟩,.int .i64 tn,.int .i64 td,.bool ti,.bool tid,.slice koa K kcap];have hO1:=Lib.hid (hO.out.alloc (.cells #[.int .i64 tk,.string ⟨tt.toArray⟩,.int .i64 tn,.int .i64 td,.bool ti,.bool tid,.slice koa K kcap] 104));have hV1:=Lib.hid (fun i s X h1 h2=>isVs_stays _ _ _ s _ _ (hV.out i s X h1 h2) (below_box wr (.cells #[.int .i64 tk,.string ⟨tt.toArray⟩,.int .i64 tn,.int .i64 td,.bool ti,.bool tid,.slice koa K kcap] 104)));clear f0 f1 f2 f3 f4 f5 f6 hb hO hV;generalize wr.heap.size=g6 at *;generalize wr.alloc _=w1 at *;have cb0:w1.cell? ⟨g6,0,none⟩=some (.int .i64 tk):=(hbx).cell 0;have fcb0:=(hbx).frozen 0
     have cb1:w1.cell? ⟨g6,1,none⟩=some (.string ⟨tt.toArray⟩):=(hbx).cell 1;have fcb1:=(hbx).frozen 1;have cb2:w1.cell? ⟨g6,2,none⟩=some (.int .i64 tn):=(hbx).cell 2;have fcb2:=(hbx).frozen 2;have cb3:w1.cell? ⟨g6,3,none⟩=some (.int .i64 td):=(hbx).cell 3;have fcb3:=(hbx).frozen 3;have cb4:w1.cell? ⟨g6,4,none⟩=some (.bool ti):=(hbx).cell 4;have fcb4:=(hbx).frozen 4;have cb5:w1.cell? ⟨g6,5,none⟩=some (.bool tid):=(hbx).cell 5;have fcb5:=(hbx).frozen 5;have cb6:w1.cell? ⟨g6,6,none⟩=some (.slice koa K kcap):=(hbx).cell 6;have fcb6:=(hbx).frozen 6;have lcb:=(hbx).lt;clear hbx
     by_cases hk:tk=18
     · have hcomma:commaV (.mk ⟨tk,tt,(tn,td),ti,tid⟩ (kids.map Vl.c))=true:=by rw[commaV_c];simpa using hk
       have HC:=Lib.hid hcomma;clear hcomma;subst hk
       have iai:(a:Int)≤(i:Int):=by omega
       have iic:(i:Int)≤(cap:Int):=by omega
       obtain⟨oa',c',hoa',hc',hcall⟩:=HT.out a i hai (by rw[HN.out.1];omega) w1 hb1.out;obtain⟨M,hM⟩:∃ M,i-a=M:=⟨_,rfl⟩;rw[hM]at hcall;rw[if_neg (by omega),Option.map_some,Addr.add_lit]at hoa';subst hoa' hc';have HCALL:=Lib.hid hcall;have HO1:=hO1;clear hcall;go_wp2_with fail
       ((with_reducible refine HCALL.out.mono ?_);rintro e w2 ⟨⟨s,rfl,hvs⟩,hbb⟩)
       obtain⟨soa,sn,scap,rfl⟩:=hvs.slice;have HV2:=Lib.hid hvs;have HB2:=Lib.hid hbb;have hO2:=Lib.hid (owns_belowW hO1.out hbb);have hV2:=Lib.hid (fun i s X h1 h2=>isVs_stays _ _ _ s _ _ (hV1.out i s X h1 h2) hbb);have HVL:=Lib.hid (fun k hk=>(hO1.out.lt k hk));have hw2:=(hb1.out.trans (Below.mono hbb hb1.out.size)).size;clear hvs hbb HCALL hV1 cb0 cb1 cb2 cb3 cb4 cb5 cb6 fcb0 fcb1 fcb2 fcb3 fcb4 fcb5 fcb6 lcb;go_wp2_with (at_builtin;refine wpList_add elVs rfl _ _ rfl rfl (hO2.out.alloc _) (by simp;omega) (Blk.new w2 _ _) 1 rfl rfl (by simp[Value.oneCell']) (by omega) (by omega) ?_;intro gg cap3 w3 ho3 hg3 hat hvb;have H3:=Lib.hid (And.intro ho3 (And.intro hg3 hat));clear ho3 hg3 hat hvb)
       go_roundg (N-(i+1))
       case measure=>omega
       case rel =>
        obtain⟨ho3,hg3,hat⟩:=H3.out;have hgc:=grownBy_trans (World.grownBy_alloc w2 _ _) hg3;refine⟨i+1,i+1,_,D++[.slice soa sn scap],P++[trimV ((XL.take i).drop a)],by go_num,by go_num,rfl,Nat.le_refl _,hi,Lib.hid ?_,Lib.hid ?_,Lib.hid ⟨by rw[List.length_append,List.length_append,hP.out.1];rfl,?_⟩,Lib.hid ?_,by rw[List.length_append,List.length_singleton];omega,Nat.le_refl _⟩
        · exact(hb1.out.trans (Below.mono HB2.out hb1.out.size)).grown hgc hw2 (fun k hk=>(HVL.out k hk).1)
        · rw[List.length_append,List.length_singleton];simpa using ho3
        · have hp:=hP.out.2;rw[HD.out.1,splitG_comma HC.out]at hp;have e:(XL.take (i+1)).drop (i+1)=[]:=List.drop_eq_nil_of_le (by rw[List.length_take];omega);rw[← hp,List.append_assoc,e];rfl
        · intro j s X h1 h2
          have hggw:∀ b,b=gg→v.ownBlock=some b∨w2.heap.size≤b:=fun b e=>by
           subst e
           exact hat.imp id fun e=>by rw[e];simp
          have hA:∀ b,(b<w.heap.size∨b=gg)→(b<w.heap.size∨v.ownBlock=some b)∨w2.heap.size≤b:=fun b hb=>by
           rcases hb with hb|hb
           · exact Or.inl (Or.inl hb)
           · exact(hggw b hb).imp Or.inr id
          rcases Nat.lt_or_ge j D.length with hj|hj
          · rw[List.getElem?_append_left hj]at h1;rw[List.getElem?_append_left (by rw[← hP.out.1];exact hj)]at h2;have hv0:=hV2.out j s X h1 h2;have hv1:=isVs.anti (A':=fun b=>(b<w.heap.size∨v.ownBlock=some b)∨w2.heap.size≤b) hv0 (fun b hb=>hb)
            refine(hv1.grown hgc fun k hk _=>Or.inl (Or.inr hk)).anti fun b hb=>?_
            refine Or.inl (hA b (hb.imp id fun e=>(Option.some.inj e).symm))
          · have hjD:j=D.length:=by
             have:=(List.getElem?_eq_some_iff.1 h1).1;rw[List.length_append,List.length_singleton]at this;omega
            subst hjD;rw[List.getElem?_append_right (Nat.le_refl _),Nat.sub_self]at h1;rw[hP.out.1,List.getElem?_append_right (Nat.le_refl _),Nat.sub_self]at h2;obtain rfl:=Option.some.inj h1;obtain rfl:=Option.some.inj h2
            have hv1:=isVs.anti (A':=fun b=>(b<w.heap.size∨v.ownBlock=some b∨b=gg)) HV2.out (fun b hb=>by
             rcases hb with hb|hb|hb
             · exact Or.inl (Nat.lt_of_lt_of_le hb hb1.out.size)
             · exact Or.inl (HVL.out b hb).2
             · rcases hggw b hb with h3 | h3
               · exact Or.inl (HVL.out b h3).2
               · exact Or.inr h3)
            refine(hv1.grown hgc fun k hk _=>Or.inr (Or.inl hk)).anti fun b hb=>?_
            rcases hb with hb|hb
            · exact Or.inl (Or.inl hb)
            · exact Or.inl (Or.inr (Or.inr (Option.some.inj hb).symm))
     · have hcomma:commaV (.mk ⟨tk,tt,(tn,td),ti,tid⟩ (kids.map Vl.c))=false:=by rw[commaV_c];simpa using hk
       have HC:=Lib.hid hcomma
       have gk:(tk==(18:Int))=false:=by simpa using hk
       clear hcomma hk;go_wp2_with fail
       go_roundg (N-(i+1))
       case measure=>omega
       case rel=>exact⟨i+1,a,v,D,P,by go_num,rfl,rfl,by omega,hi,hb1,hO1,Lib.hid ⟨hP.out.1,by rw[← hP.out.2,HD.out.1,HD.out.2,splitG_other HC.out]⟩,hV1,by omega,Nat.le_refl _⟩
   · obtain rfl:i=N:=by omega
     have gi:decide ((i:Int)<(i:Int))=false:=by simp
     have gin:decide (i<i)=false:=by simp
     go_wp2_with fail;go_meet
     case rel=>exact⟨a,v,D,P,rfl,rfl,hai,hb,hO,Lib.hid ⟨hP.out.1,by rw[← hP.out.2,List.drop_eq_nil_of_le (show XL.length≤i by rw[HN.out.2.2.1];exact Nat.le_refl _),List.take_of_length_le (by rw[HN.out.2.2.1];exact Nat.le_refl _)];rfl⟩,hV⟩
 case rest =>
  obtain⟨a,v,D,P,rfl,rfl,haN,hb,hO,hP,hV⟩:=hcut;obtain⟨oa',c',hoa',hc',hcall⟩:=HT.out a N haN (by rw[HN.out.1];exact Nat.le_refl _) wc hb.out
  have hPl:D.length≤N:=by
   have h1:=congrArg List.length hP.out.2;rw[List.length_append,List.length_singleton]at h1;have:=hP.out.1;omega
  have hXd:(XL.take N).drop a=XL.drop a:=by rw[List.take_of_length_le (by rw[HN.out.2.2.1];exact Nat.le_refl _)]
  rw[hXd]at hcall
  have iai:(a:Int)≤(N:Int):=by omega
  have iaN:a≤N:=haN
  have iic:(N:Int)≤(cap:Int):=by omega
  have hDX:=Lib.hid (show ∀ s X (DD:List Value),DD=D++[s]→X=trimV (XL.drop a)→∀ (wz:World),(∀ (i:Nat) (s:Value) (X:List Vt),D[i]?=some s→P[i]?=some X→isVs (· < w.heap.size) h X s wz)→isVs (· < w.heap.size) h X s wz→∀ (i:Nat) (s:Value) (X:List Vt),DD[i]?=some s→Y[i]?=some X→isVs (· < w.heap.size) h X s wz from by
   rintro s X DD rfl rfl wz k1 k2 j s' X' h1 h2;rw[← hP.out.2]at h2
   rcases Nat.lt_or_ge j D.length with hj|hj
   · rw[List.getElem?_append_left hj]at h1;rw[List.getElem?_append_left (by rw[← hP.out.1];exact hj)]at h2;exact k1 j s' X' h1 h2
   · have hjD:j=D.length:=by
      have:=(List.getElem?_eq_some_iff.1 h1).1;rw[List.length_append,List.length_singleton]at this;omega
     subst hjD;rw[List.getElem?_append_right (Nat.le_refl _),Nat.sub_self]at h1;rw[hP.out.1,List.getElem?_append_right (Nat.le_refl _),Nat.sub_self]at h2;obtain rfl:=Option.some.inj h1;obtain rfl:=Option.some.inj h2
     exact k2)
  have hYD:Y.length=D.length+1:=by rw[← hP.out.2,List.length_append,List.length_singleton,hP.out.1]
  obtain⟨M,hM⟩:∃ M,N-a=M:=⟨_,rfl⟩;rw[hM]at hcall;clear hXd;go_wp2_with fail
  all_goals
   first
    | (have e:cap=a:=by assumption
       rw[if_pos e]at hoa'
       have hc0:c'=0:=by omega
       rw[hoa',hc0]at hcall)
    | (have e:¬ cap=a:=by assumption
       rw[if_neg e]at hoa'
       rw[hoa',hc']at hcall)
   ((with_reducible refine hcall.mono ?_);rintro e w2 ⟨⟨s,rfl,hvs⟩,hbb⟩)
   obtain⟨soa,sn,scap,rfl⟩:=hvs.slice;have HV2:=Lib.hid hvs;have HB2:=Lib.hid hbb;have hO2:=Lib.hid (owns_belowW hO.out hbb);have hV2:=Lib.hid (fun i s X h1 h2=>isVs_stays _ _ _ s _ _ (hV.out i s X h1 h2) hbb);have HVL:=Lib.hid (fun k hk=>(hO.out.lt k hk));have hw2:=(hb.out.trans (Below.mono hbb hb.out.size)).size;have HBS:=Lib.hid hb.out.size;clear hvs hbb hcall hV hoa' hc';go_wp2_with (at_builtin;refine wpList_add elVs rfl _ _ rfl rfl (hO2.out.alloc _) (by simp;omega) (Blk.new w2 _ _) 1 rfl rfl (by simp[Value.oneCell']) (by omega) (by omega) ?_;intro gg cap3 w3 ho3 hg3 hat hvb;have H3:=Lib.hid (And.intro ho3 (And.intro hg3 hat));clear ho3 hg3 hat hvb);go_ret;obtain⟨ho3,hg3,hat⟩:=H3.out;have hgc:=grownBy_trans (World.grownBy_alloc w2 _ _) hg3;have hggB:=(ho3.lt gg rfl).1
   refine⟨⟨_,rfl,some ⟨gg,0,none⟩,cap3,gg,D++[.slice soa sn scap],by rw[List.length_append,List.length_singleton];rfl,by rw[List.length_append,List.length_singleton,hYD],?_,hDX.out _ _ _ rfl rfl w3 (fun j s X h1 h2=>?_) ?_⟩,(hb.out.trans (Below.mono HB2.out hb.out.size)).grown hgc hw2 (fun k hk=>(HVL.out k hk).1)⟩
   · obtain⟨oa2,cap2,g2,hv2,hsl,hpos⟩:=sl_of_own ho3
     injection hv2 with e1 _ e2
     subst e1 e2
     have hsl2:Sl w3 (some ⟨gg,0,none⟩) (D++[Value.slice soa sn scap]).length cap3 gg 0 1 (D++[.slice soa sn scap]):=by
      obtain⟨e3,_⟩:=hsl.lies (Nat.succ_pos _)
      injection e3 with e3
      injection e3 with e3
      subst e3;rw[List.length_append,List.length_singleton];simpa using hsl
     exact hsl2.safe (fun _ h=>by omega)
   · have hv1:=isVs.anti (A':=fun b=>(b<w.heap.size∨v.ownBlock=some b)∨w2.heap.size≤b) (hV2.out j s X h1 h2) (fun b hb=>hb)
     exact(hv1.grown hgc fun k hk _=>Or.inl (Or.inr hk)).anti fun b hb=>Or.inl (Or.inl (Or.inl hb))
   · have hv1:=isVs.anti (A':=fun b=>(b<w.heap.size∨v.ownBlock=some b)) HV2.out (fun b hb=>by
      rcases hb with hb|hb
      · exact Or.inl (Nat.lt_of_lt_of_le hb HBS.out)
      · exact Or.inl (HVL.out b hb).2)
     exact(hv1.grown hgc fun k hk _=>Or.inr hk).anti fun b hb=>Or.inl (Or.inl hb)
set_option maxRecDepth 20000 in
set_option maxHeartbeats 4000000 in
theorem csmall_any (m:List UInt8) (w:World) (hm:m.length≤9223372036854775807) :
  Calls Tryz.prog 243 #[.string ⟨m.toArray⟩] w fun e w'=>e=.returned (.string ⟨(lowS m).toArray⟩)∧Below w.heap.size w w':=by
 obtain⟨cap,w1,hrun,hb1,hbl⟩:=bytes_made m w;obtain⟨N,hN⟩:∃ N,m.length=N:=⟨_,rfl⟩;rw[hN]at hrun hm;have HN:=Lib.hid hN;obtain⟨g,hg⟩:∃ g,w.heap.size=g:=⟨_,rfl⟩;rw[hg]at hrun hb1 hbl ⊢;have HB0:=Lib.hid hb1;have HBL:=Lib.hid hbl;clear hN hb1 hbl hg
 go_enter Tryz.func243,Tryz.ntmps243
 go_wp2_with fail
 go_loopg [10] N (fun q s10 wr=>∃ (i:Nat),s10=.int .i64 i∧Hid (Below g w wr)∧Hid (Bl wr g (lowG m i))∧i≤N∧N-i≤q)
 case atStart=>exact⟨0,rfl,HB0,HBL,Nat.zero_le _,by omega⟩
 case round =>
  clear HB0 HBL hrun;obtain⟨i,rfl,hb,hbl,hiN,hq⟩:=hrel
  by_cases hi:i<N
  · have gi:decide ((i:Int)<(N:Int))=true:=by simpa using hi
    have gin:decide (i<N)=true:=by simpa using hi
    have him:i<m.length:=by rw[HN.out];exact hi
    have hcell:=hbl.out.cell i _ (lowG_at him);have hfree:=hbl.out.free i (by rw[lowG_len];exact him);have hlt:=hbl.out.lt;have hst:=lowG_step him;obtain⟨c,hc⟩:∃ c,m[i]=c:=⟨_,rfl⟩;rw[hc]at hcell hst;have hc256:=UInt8.toNat_lt c;have hset:=hbl.out.set (i:=i) (by rw[lowG_len];exact him) (lowB c);rw[← hst]at hset
    by_cases hup:65≤c.toNat∧c.toNat≤90
    · rw[lowB_up hup]at hset;obtain⟨n,hn⟩:∃ n,c.toNat=n:=⟨_,rfl⟩;rw[hn]at hcell hset hup hc256
      have g1:decide ((65:Int)≤(n:Int))=true:=by simp;omega
      have e97:(n:Int)+97-65=(n:Int)+32:=by omega
      have g2:decide ((n:Int)≤(90:Int))=true:=by simp;omega
      have HS:=Lib.hid hset;clear hset hst hc hn hbl;go_wp2_with fail
      go_roundg (N-(i+1))
      case measure=>omega
      case rel=>exact⟨i+1,by go_num,Lib.hid (hb.out.setCell (by simp) _),Lib.hid (by have:=HS.out;simpa using this),hi,Nat.le_refl _⟩
    · have hsame:lowG m (i+1)=lowG m i:=by
       rw[hst,lowB_same hup]
       refine List.ext_getElem? fun j=>?_
       by_cases hj:i=j
       · subst hj;rw[List.getElem?_set_self (by rw[lowG_len];exact him),lowG_at him,hc]
       · rw[List.getElem?_set_ne hj]
      obtain⟨n,hn⟩:∃ n,c.toNat=n:=⟨_,rfl⟩;rw[hn]at hcell hup hc256
      have ways:decide ((65:Int)≤(n:Int))=false∨decide ((65:Int)≤(n:Int))=true∧decide ((n:Int)≤(90:Int))=false:=by
       by_cases h:65≤n
       · exact Or.inr ⟨by simp;omega,by simp;omega⟩
       · exact Or.inl (by simp;omega)
      have HBL2:=Lib.hid (show Bl wr g (lowG m (i+1)) by rw[hsame];exact hbl.out);clear hset hst hc hn hbl hsame
      rcases ways with g1 | ⟨g1,g2⟩
      all_goals
       go_wp2_with fail
       go_roundg (N-(i+1))
       case measure=>omega
       case rel=>exact⟨i+1,by go_num,hb,HBL2,hi,Nat.le_refl _⟩
  · obtain rfl:i=N:=by omega
    have gi:decide ((i:Int)<(i:Int))=false:=by simp
    have gin:decide (i<i)=false:=by simp
    have htx:=hbl.out.text cap;rw[lowG_len,HN.out]at htx
    have hall:lowG m i=lowS m:=by rw[← HN.out,lowG_all]
    rw[hall]at htx;clear hbl hall;go_wp2_with fail;go_ret;exact⟨rfl,hb.out⟩
theorem unitF_le (s:List UInt8):unitF s≤7:=by
 unfold unitF unitsS;simp only[unitG]
 repeat (first|split|omega)
def unitsV:Array Value:=#[.string ⟨#[112,120]⟩,.string ⟨#[101,109]⟩,.string ⟨#[114,101,109]⟩,.string ⟨#[118,119]⟩,.string ⟨#[118,104]⟩,.string ⟨#[99,113,119]⟩,.string ⟨#[99,113,104]⟩]
theorem unitsV_at {i:Nat} (h:i<7):unitsV.toList[i]?=some (.string ⟨(unitsS[i]'(by simpa[unitsS] using h)).toArray⟩):=by
 match i,h with
 | 0,_=>rfl
 | 1,_=>rfl
 | 2,_=>rfl
 | 3,_=>rfl
 | 4,_=>rfl
 | 5,_=>rfl
 | 6,_=>rfl
set_option maxHeartbeats 1000000 in
theorem unitNames_any (w:World):Calls Tryz.prog 254 #[] w fun e w'=>e=.returned (.slice (some ⟨w.heap.size,0,none⟩) 7 7)∧w'=w.alloc (.cells unitsV 9):=by
 go_enter Tryz.func254,Tryz.ntmps254
 go_wp2_with fail;go_ret;exact⟨rfl,rfl⟩
set_option maxRecDepth 20000 in
set_option maxHeartbeats 4000000 in
theorem cunit_any (s:List UInt8) (w:World) (hs:s.length≤9223372036854775807) :
  Calls Tryz.prog 242 #[.string ⟨s.toArray⟩] w fun e w'=>e=.returned (.int .i64 (unitF s))∧Below w.heap.size w w':=by
 have HSM:=Lib.hid (fun w=>csmall_any s w hs);obtain⟨X,hX⟩:∃ X,lowS s=X:=⟨_,rfl⟩
 have hU:unitF s=unitG X (unitsS.drop 0) 1:=by unfold unitF;rw[hX];rfl
 obtain⟨U,hU2⟩:∃ U,unitF s=U:=⟨_,rfl⟩;rw[hU2]at hU ⊢;rw[hX]at HSM;have HU:=Lib.hid hU;clear hU hU2 hX hs
 go_enter Tryz.func242,Tryz.ntmps242
 go_wp2_with fail
 ((with_reducible refine(unitNames_any w).mono ?_);rintro e w' ⟨rfl,rfl⟩)
 have hbx:Blk (w.alloc (.cells unitsV 9)) w.heap.size 9 unitsV:=Blk.new _ _ _;have hb0:=Lib.hid (below_box w (.cells unitsV 9));have HBX:=Lib.hid hbx;clear hbx;obtain⟨g,hg⟩:∃ g,w.heap.size=g:=⟨_,rfl⟩;have HG:=Lib.hid hg;rw[hg]at HBX hb0;simp only[hg];clear hg;generalize w.alloc _=w0 at *;go_wp2_with fail
 go_loopg [7] 7 (fun q s7 wr=>∃ (i:Nat),s7=.int .i64 i∧i≤7∧Hid (Below w0.heap.size w0 wr)∧Hid (U=unitG X (unitsS.drop i) (i+1))∧7-i≤q)
 case atStart=>exact⟨0,rfl,by omega,Lib.hid (Below.refl _ _),HU,by omega⟩
 case round =>
  obtain⟨i,rfl,hi7,hb,hu,hq⟩:=hrel
  by_cases hi:i<7
  · have gi:decide ((i:Int)<(7:Int))=true:=by simp;omega
    have gin:decide (i<7)=true:=by simpa using hi
    have hiu:i<unitsS.length:=hi;have hbr:=HBX.out.below hb.out HBX.out.lt
    have hc:wr.cell? ⟨g,i,none⟩=some (.string ⟨(unitsS[i]).toArray⟩):=by rw[hbr.cell i];simpa using unitsV_at hi
    have hlt:=hbr.lt;have hu2:=hu.out;rw[List.drop_eq_getElem_cons hiu,unitG]at hu2;obtain⟨n,hn⟩:∃ n,unitsS[i]=n:=⟨_,rfl⟩;rw[hn]at hc hu2;have HU2:=Lib.hid hu2;clear hu hu2 hn hbr hiu;go_wp2_with fail;go_wp2_with fail
    ((with_reducible refine(HSM.out _).mono ?_);rintro e w' ⟨rfl,hbw⟩)
    obtain⟨m,rfl⟩:=grow_mk hbw;clear hbw
    by_cases he:X=n
    · have g1:(n==X)=true:=by rw[he];simp
      have hUe:=HU2.out;rw[if_pos he]at hUe;have HUE:=Lib.hid hUe;clear HU2 he hUe;go_wp2_with fail;go_ret;exact⟨by rw[HUE.out];go_num,by rw[HG.out];exact hb0.out.trans (Below.mono (below_grow hb.out m) (by have:=hb0.out.size;have:=HG.out;omega))⟩
    · have g1:(n==X)=false:=by simpa using Ne.symm he
      have hUe:=HU2.out;rw[if_neg he]at hUe;have HUE:=Lib.hid hUe;clear HU2 he hUe;go_wp2_with fail
      go_roundg (7-(i+1))
      case measure=>omega
      case rel=>exact⟨i+1,by go_num,hi,Lib.hid (below_grow hb.out m),HUE,Nat.le_refl _⟩
  · obtain rfl:i=7:=by omega
    have gi:decide ((7:Int)<(7:Int))=false:=by simp
    go_wp2_with fail;go_ret;exact⟨by rw[hu.out];rfl,by rw[HG.out];exact hb0.out.trans (Below.mono hb.out (by have:=hb0.out.size;have:=HG.out;omega))⟩
mutual
def Ex.c:Ex→Et
 | .mk k n d u _ _ _ _ kids=>.mk k n d u (Ex.cs kids)
def Ex.cs:List Ex→List Et
 | []=>[]
 | x::r=>x.c::Ex.cs r
end
theorem Ex.cs_map:∀ l:List Ex,Ex.cs l=l.map Ex.c
 | []=>rfl
 | x::r=>by rw[Ex.cs,Ex.cs_map r];rfl
theorem Ex.c_mk (k n d u:Int) (oa:Option Addr) (b o cap:Nat) (kids:List Ex):(Ex.mk k n d u oa b o cap kids).c=.mk k n d u (kids.map Ex.c):=by rw[Ex.c,Ex.cs_map]
theorem xcells_length (x:Ex):(xcells x).length=5:=by cases x;rfl
theorem ExIn.of_sl {w:World} {h:Nat} {k n d u:Int} {oa:Option Addr} {b cap:Nat} {l:List Ex} (hk:I64 k) (hn:Is64 (n,d)) (hu:I64 u) (hl:l.length*56≤140737488355328) (hs:Sl w oa l.length cap b 0 5 (l.flatMap xcells)) (he:∀ x∈l,ExIn w h x):ExIn w (h+1) (.mk k n d u oa b 0 cap l) :=
 ⟨hk,hn,hu,hs.le,hs.max,hl,hs.lies,fun i x hi=>⟨fun j v hv=>by
   have:=hs.cell _ _ (flat_at xcells_length l i x j v hi hv);rw[show 0+i*5+j=0+(i*5+j) by omega]
   exact this,he x (List.mem_of_getElem? hi)⟩⟩
theorem ExIn.made {A:Nat→Prop} {w:World} {h:Nat} {k n d u:Int} {oa:Option Addr} {b cap:Nat} {l:List Ex} (hk:I64 k) (hn:Is64 (n,d)) (hu:I64 u) (hl:l.length*56≤140737488355328) (hs:Sl w oa l.length cap b 0 5 (l.flatMap xcells)) (hA:0<l.length→¬ A b)
 (he:Safe A w fun w=>∀ x∈l,ExIn w h x):Safe A w fun w=>ExIn w (h+1) (.mk k n d u oa b 0 cap l):=fun w' g1 g2=>.of_sl hk hn hu hl ((hs.safe hA) w' g1 g2) (he w' g1 g2)
theorem ExIn.leaf {A:Nat→Prop} {w:World} {k n d u:Int} (hk:I64 k) (hn:Is64 (n,d)) (hu:I64 u):Safe A w fun w=>ExIn w 1 (.mk k n d u none 0 0 0 []):=fun w' _ _ =>
 .of_sl (h:=0) hk hn hu (by simp) ⟨rfl,Nat.le_refl _,Nat.zero_le _,fun h=>absurd h (by simp),fun j v h=>by simp at h⟩ (fun x hx=>by cases hx)
def isEx (A:Nat→Prop) (E:Et) (v:Value) (w:World):Prop:=∃ (x:Ex) (h:Nat),v=xv x∧x.c=E∧Safe A w fun w=>ExIn w h x
def isE5 (v:Value):Prop:=∃ (k n d u:Int) (oa:Option Addr) (L cap:Nat),v=.agg #[.int .i64 k,.int .i64 n,.int .i64 d,.int .i64 u,.slice oa L cap]
theorem isE5_xv (x:Ex):isE5 (xv x):=by obtain⟨k,n,d,u,oa,b,o,cap,kids⟩:=x;exact⟨k,n,d,u,oa,kids.length,cap,rfl⟩
theorem isEx.e5 {A:Nat→Prop} {E:Et} {v:Value} {w:World} (h:isEx A E v w):isE5 v:=by obtain⟨x,_,rfl,_⟩:=h;exact isE5_xv x
theorem isEx.anti {A A':Nat→Prop} {E:Et} {v:Value} {w:World} (h:isEx A E v w) (hA:∀ b,A' b→A b∨w.heap.size≤b):isEx A' E v w:=by
 obtain⟨x,hh,hv,hc,hs⟩:=h;exact⟨x,hh,hv,hc,hs.wide hA⟩
theorem isEx.grown {A:Nat→Prop} {E:Et} {v:Value} {w w':World} {row:Option Nat} (h:isEx A E v w) (hg:w.grownBy w' row) (hr:∀ k,row=some k→k<w.heap.size→A k):isEx A E v w':=by
 obtain⟨x,hh,hv,hc,hs⟩:=h;exact⟨x,hh,hv,hc,hs.grown hg hr⟩
theorem isEx.below {A:Nat→Prop} {E:Et} {v:Value} {w w':World} (h:isEx A E v w) (hb:Below w.heap.size w w'):isEx A E v w':=h.grown (grownBy_of_below hb none) (fun _ e=>by cases e)
def retE (A:Nat→Prop) (r:Option Et) (e:Ending) (w:World):Prop:=∃ (v:Value) (ok:Bool),e=.returned (.tuple #[v,.bool ok])∧ok=r.isSome∧isE5 v∧∀ E,r=some E→isEx A E v w
theorem Blk.put5 {w:World} {g:Nat} {t:TypeId} {a0 a1 a2 a3 a4:Value} (h:Blk w g t #[a0,a1,a2,a3,a4]) (x0 x1 x2 x3 x4:Value) :
 Blk (((((w.setCell ⟨g,0,none⟩ x0).setCell ⟨g,1,none⟩ x1).setCell ⟨g,2,none⟩ x2).setCell ⟨g,3,none⟩ x3).setCell ⟨g,4,none⟩ x4) g t #[x0,x1,x2,x3,x4]:=((((h.put 0 x0).put 1 x1).put 2 x2).put 3 x3).put 4 x4
theorem below_put5 {B:Nat} {w0 w:World} (h:Below B w0 w) {g:Nat} (hg:B≤g) (x0 x1 x2 x3 x4:Value) :
 Below B w0 (((((w.setCell ⟨g,0,none⟩ x0).setCell ⟨g,1,none⟩ x1).setCell ⟨g,2,none⟩ x2).setCell ⟨g,3,none⟩ x3).setCell ⟨g,4,none⟩ x4):=((((h.setCell hg x0).setCell hg x1).setCell hg x2).setCell hg x3).setCell hg x4
theorem sizeExpr:(Tryz.prog.info? 31).map (·.size)=some 5:=by kernel_rfl
theorem load_ex {w:World} {g:Nat} {t:TypeId} {cs:Array Value} (h:Blk w g t cs) (hs:cs.size=5):(loadVar 31 ⟨g,0,none⟩).run Tryz.prog w=.ok (.agg cs) w :=
 run_loadVar_row w g t _ cs (0,0) _ h Tryz.underlying31 rfl (by rw[hs];exact sizeExpr)
theorem ret_ex {fn:Func} {p:Tmp} {tmps:Array Value} {w:World} {g:Nat} {t:TypeId} {cs:Array Value} (hr:fn.results=#[.cell p 31]) (hp:tmps.getD p undef=.pointer (some ⟨g,0,none⟩)) (h:Blk w g t cs) (hs:cs.size=5):(results fn tmps).run Tryz.prog w=.ok (.agg cs) w :=
 results_cell_row hr tmps w g t cs (0,0) _ hp h Tryz.underlying31 rfl (by rw[hs];exact sizeExpr)
theorem ret_ex2 {fn:Func} {p u:Tmp} {tmps:Array Value} {w:World} {g:Nat} {t:TypeId} {cs:Array Value} {x:Value} (hr:fn.results=#[.cell p 31,.tmp u]) (hp:tmps.getD p undef=.pointer (some ⟨g,0,none⟩)) (hu:tmps.getD u undef=x) (h:Blk w g t cs) (hs:cs.size=5):(results fn tmps).run Tryz.prog w=.ok (.tuple #[.agg cs,x]) w:=by
 rw[results_cell_tmp hr,hp,hu];simp only[asAddr,Sem.run_pure,Result.andThen_ok,load_ex h hs]
theorem i64_small (k:Int) (h:0≤k∧k≤8):I64 k:=by unfold I64;omega
set_option maxHeartbeats 2000000 in
theorem cnumber_any (r:Rt) (u:Int) (w:World) (h64:Is64 r) :
  Calls Tryz.prog 241 #[rv r,.int .i64 u] w fun e w'=>e=.returned (.agg #[.int .i64 1,.int .i64 (cleanR r).1,.int .i64 (cleanR r).2,.int .i64 u,.slice none 0 0])∧Below w.heap.size w w':=by
 have hm:=fun w=>may_any r w h64
 unfold cleanR;obtain⟨n,d⟩:=r;obtain⟨B,hB⟩:∃ B,mayB (n,d)=B:=⟨_,rfl⟩;rw[hB]at hm ⊢;have HM:=Lib.hid hm;clear hm hB h64
 go_enter Tryz.func241,Tryz.ntmps241
 go_wp2_with fail
 ((with_reducible refine(HM.out _).mono ?_);rintro e w' ⟨rfl,hbw⟩)
 obtain⟨m,rfl⟩:=grow_mk hbw;clear hbw;have hb:=Lib.hid (below_grow ((below_box w (.cells #[.int .i64 n,.int .i64 d] 28)).alloc (by simp) (.cells #[.int .i64 0,.int .i64 0,.int .i64 0,.int .i64 0,.slice none 0 0] 31)) m);have h0:=((Blk.new w 28 #[.int .i64 n,.int .i64 d]).old (.cells #[.int .i64 0,.int .i64 0,.int .i64 0,.int .i64 0,.slice none 0 0] 31)).grow m;have h1:=(Blk.new2 w (.cells #[.int .i64 n,.int .i64 d] 28) 31 #[.int .i64 0,.int .i64 0,.int .i64 0,.int .i64 0,.slice none 0 0]).grow m;generalize grow _ m=wa at *;clear m;have ca0:wa.cell? ⟨w.heap.size,0,none⟩=some (.int .i64 n):=(h0).cell 0;have fca0:=(h0).frozen 0;have ca1:wa.cell? ⟨w.heap.size,1,none⟩=some (.int .i64 d):=(h0).cell 1;have fca1:=(h0).frozen 1;have lca:=(h0).lt;have cb0:wa.cell? ⟨w.heap.size+1,0,none⟩=some (.int .i64 0):=(h1).cell 0;have fcb0:=(h1).frozen 0
 have cb1:wa.cell? ⟨w.heap.size+1,1,none⟩=some (.int .i64 0):=(h1).cell 1;have fcb1:=(h1).frozen 1;have cb2:wa.cell? ⟨w.heap.size+1,2,none⟩=some (.int .i64 0):=(h1).cell 2;have fcb2:=(h1).frozen 2;have cb3:wa.cell? ⟨w.heap.size+1,3,none⟩=some (.int .i64 0):=(h1).cell 3;have fcb3:=(h1).frozen 3;have cb4:wa.cell? ⟨w.heap.size+1,4,none⟩=some (.slice none 0 0):=(h1).cell 4;have fcb4:=(h1).frozen 4;have lcb:=(h1).lt;clear h0;have H1:=Lib.hid h1;clear h1
 cases B with
 | true =>
   go_wp2_with fail;have hputs:=(H1.out).put5 (.int .i64 1) (.int .i64 n) (.int .i64 d) (.int .i64 u) (.slice none 0 0);refine bodyPost_ret (v:=.agg #[.int .i64 1,.int .i64 n,.int .i64 d,.int .i64 u,.slice none 0 0]) ?_ rfl ?_
   · refine ret_ex Tryz.results241 ?_ hputs rfl
     all_goals rfl
   · exact⟨rfl,below_put5 hb.out (by simp) _ _ _ _ _⟩
 | false =>
   go_wp2_with fail;have H2:=H1.out.far2 (g':=w.heap.size) (by simp) 0 1 (.int .i64 0) (.int .i64 0);have hputs:=(H2).put5 (.int .i64 1) (.int .i64 0) (.int .i64 0) (.int .i64 u) (.slice none 0 0);refine bodyPost_ret (v:=.agg #[.int .i64 1,.int .i64 0,.int .i64 0,.int .i64 u,.slice none 0 0]) ?_ rfl ?_
   · refine ret_ex Tryz.results241 ?_ hputs rfl
     all_goals rfl
   · exact⟨rfl,below_put5 ((hb.out.setCell (p:=⟨w.heap.size,0,none⟩) (Nat.le_refl _) _).setCell (p:=⟨w.heap.size,1,none⟩) (Nat.le_refl _) _) (by simp) _ _ _ _ _⟩
set_option maxRecDepth 20000 in
set_option maxHeartbeats 4000000 in
theorem csingle_any (A:Nat→Prop) (h:Nat) (k:Int) (oa:Option Addr) (b o cap:Nat) (kids:List Ex) (w:World) (hx:Safe A w fun w=>ExIn w (h+1) (.mk k 0 0 0 oa b o cap kids)) :
  Calls Tryz.prog 263 #[.agg #[.int .i64 k,.int .i64 0,.int .i64 0,.int .i64 0,.slice oa kids.length cap]] w fun e w'=>(∃ v,e=.returned v∧isEx A (single k (kids.map Ex.c)) v w')∧Below w.heap.size w w':=by
 have hin:=hx.here;obtain⟨h1,h2,h3,h4,h5,h6,h7,h8⟩:=hin;have hsm:kids.length≤9223372036854775807:=Nat.le_trans (Nat.le_trans h4 h5) (by decide);have HX:=Lib.hid hx;obtain⟨L,hL⟩:∃ L,kids.length=L:=⟨_,rfl⟩;rw[hL]at hsm ⊢;have HL:=Lib.hid hL
 by_cases h1:L=1
 · subst h1;obtain⟨x,rfl⟩:∃ x,kids=[x]:=List.length_eq_one_iff.1 HL.out;obtain⟨h81,h82⟩:=h8 0 x rfl;obtain⟨rfl,hbl⟩:=h7 (by simp)
   have HE:=Lib.hid (show isEx A x.c (xv x) w from ⟨x,h,rfl,rfl,hx.mono fun w' hw=>by
    obtain⟨_,_,_,_,_,_,_,g8⟩:=hw
    exact(g8 0 x rfl).2⟩)
   obtain⟨k',n',d',u',oa',b',o',cap',kids'⟩:=x;have f0:w.cell? ⟨b,o,none⟩=some (.int .i64 k'):=h81 0 _ rfl;have f1:w.cell? ⟨b,o+1,none⟩=some (.int .i64 n'):=h81 1 _ rfl;have f2:w.cell? ⟨b,o+2,none⟩=some (.int .i64 d'):=h81 2 _ rfl;have f3:w.cell? ⟨b,o+3,none⟩=some (.int .i64 u'):=h81 3 _ rfl;have f4:w.cell? ⟨b,o+4,none⟩=some (.slice oa' kids'.length cap'):=h81 4 _ rfl;clear h81 h82 h8 h7 hL HL hx HX;obtain⟨K',hK'⟩:∃ K',kids'.length=K':=⟨_,rfl⟩;have HE2:=Lib.hid (show isEx A (Ex.mk k' n' d' u' oa' b' o' cap' kids').c (.agg #[.int .i64 k',.int .i64 n',.int .i64 d',.int .i64 u',.slice oa' K' cap']) w by rw[← hK'];exact HE.out);rw[hK']at f4;clear HE hK'
   go_enter Tryz.func263,Tryz.ntmps263
   go_wp2_with fail;have hbb:=(below_box w (.cells #[.int .i64 k,.int .i64 0,.int .i64 0,.int .i64 0,.slice (some ⟨b,o,none⟩) 1 cap] 31)).alloc (by simp) (.cells #[.int .i64 k',.int .i64 n',.int .i64 d',.int .i64 u',.slice oa' K' cap'] 31);have hputs:=Blk.new2 w (.cells #[.int .i64 k,.int .i64 0,.int .i64 0,.int .i64 0,.slice (some ⟨b,o,none⟩) 1 cap] 31) 31 #[.int .i64 k',.int .i64 n',.int .i64 d',.int .i64 u',.slice oa' K' cap'];refine bodyPost_ret (v:=.agg #[.int .i64 k',.int .i64 n',.int .i64 d',.int .i64 u',.slice oa' K' cap']) ?_ rfl ?_
   · refine ret_ex Tryz.results263 ?_ hputs rfl
     all_goals rfl
   · exact⟨⟨_,rfl,HE2.out.below hbb⟩,hbb⟩
 · have g1:((L:Int)==1)=false:=by simp;omega
   have hbb:=(below_box w (.cells #[.int .i64 k,.int .i64 0,.int .i64 0,.int .i64 0,.slice oa L cap] 31)).alloc (by simp) (.cells #[.int .i64 k,.int .i64 0,.int .i64 0,.int .i64 0,.slice oa L cap] 31);have hb1:=Blk.new2 w (.cells #[.int .i64 k,.int .i64 0,.int .i64 0,.int .i64 0,.slice oa L cap] 31) 31 #[.int .i64 k,.int .i64 0,.int .i64 0,.int .i64 0,.slice oa L cap]
   have hs:single k (kids.map Ex.c)=(Ex.mk k 0 0 0 oa b o cap kids).c:=by
    rw[Ex.c_mk]
    match kids,HL.out with
    | [],_=>rfl
    | [x],e=>exact absurd e.symm h1
    | x::y::r,_=>rfl
   have HE:=Lib.hid (show isEx A (single k (kids.map Ex.c)) (.agg #[.int .i64 k,.int .i64 0,.int .i64 0,.int .i64 0,.slice oa L cap]) w from ⟨_,_,by rw[← HL.out];rfl,hs.symm,hx⟩);have HB1:=Lib.hid hb1;have HBB:=Lib.hid hbb;clear hb1 hbb hs hx HX h7 h8 hL h1
   go_enter Tryz.func263,Tryz.ntmps263
   go_wp2_with fail;have hputs:=HB1.out;refine bodyPost_ret (v:=.agg #[.int .i64 k,.int .i64 0,.int .i64 0,.int .i64 0,.slice oa L cap]) ?_ rfl ?_
   · refine ret_ex Tryz.results263 ?_ hputs rfl
     all_goals rfl
   · exact⟨⟨_,rfl,HE.out.below HBB.out⟩,HBB.out⟩
end Go.Proofs.YtnbkbenkhkinoaaGreatDoor
namespace Go.Proofs.YtnbkbenkhkinoaaGreatDoor
set_option linter.unusedVariables false
set_option linter.unusedSimpArgs false
def kindFin (k:Int) (n c:Nat):Int:=if c=0 then 1 else if (k=4∧c=1)∨(k≠4∧k≠5∧c=n) then 2 else 0
def kindG (k:Int) (n:Nat):Nat→List Int→Int
 | c,[]=>kindFin k n c
 | c,x::r=>if x=0 then 0 else kindG k n (if x=2 then c+1 else c) r
mutual
def kindE:Et→Int
 | .mk k _ _ u kids=>if k=1 then (if u=0 then 1 else 2) else kindG k (kindsE kids).length 0 (kindsE kids)
def kindsE:List Et→List Int
 | []=>[]
 | x::r=>kindE x::kindsE r
end
theorem kindsE_map:∀ l:List Et,kindsE l=l.map kindE
 | []=>rfl
 | x::r=>by rw[kindsE,kindsE_map r];rfl
theorem kindE_mk (k n d u:Int) (kids:List Et):kindE (.mk k n d u kids)=if k=1 then (if u=0 then 1 else 2) else kindG k kids.length 0 (kids.map kindE):=by
 rw[kindE,kindsE_map,List.length_map]
theorem kindFin_in (k:Int) (n c:Nat):kindFin k n c=0∨kindFin k n c=1∨kindFin k n c=2:=by
 unfold kindFin;split
 · exact Or.inr (Or.inl rfl)
 · split
   · exact Or.inr (Or.inr rfl)
   · exact Or.inl rfl
theorem kindG_in (k:Int) (n:Nat):∀ (l:List Int) (c:Nat),kindG k n c l=0∨kindG k n c l=1∨kindG k n c l=2
 | [],c=>kindFin_in k n c
 | x::r,c=>by
   rw[kindG];split
   · exact Or.inl rfl
   · exact kindG_in k n r _
theorem kindE_in (e:Et):kindE e=0∨kindE e=1∨kindE e=2:=by
 obtain⟨k,n,d,u,kids⟩:=e;rw[kindE_mk];split
 · split<;>simp
 · exact kindG_in _ _ _ _
def widthS:List UInt8:=[119,105,100,116,104]
def heightS:List UInt8:=[104,101,105,103,104,116]
def ratioS:List UInt8:=[97,115,112,101,99,116,45,114,97,116,105,111]
def colorS:List UInt8:=[99,111,108,111,114]
def inlineS:List UInt8:=[105,110,108,105,110,101,45,115,105,122,101]
def blockS:List UInt8:=[98,108,111,99,107,45,115,105,122,101]
def hoverS:List UInt8:=[104,111,118,101,114]
def orientS:List UInt8:=[111,114,105,101,110,116,97,116,105,111,110]
def pointerS:List UInt8:=[112,111,105,110,116,101,114]
def schemeS:List UInt8:=[112,114,101,102,101,114,115,45,99,111,108,111,114,45,115,99,104,101,109,101]
def motionS:List UInt8:=[112,114,101,102,101,114,115,45,114,101,100,117,99,101,100,45,109,111,116,105,111,110]
def noneS:List UInt8:=[110,111,110,101]
def portraitS:List UInt8:=[112,111,114,116,114,97,105,116]
def landscapeS:List UInt8:=[108,97,110,100,115,99,97,112,101]
def coarseS:List UInt8:=[99,111,97,114,115,101]
def fineS:List UInt8:=[102,105,110,101]
def lightS:List UInt8:=[108,105,103,104,116]
def darkS:List UInt8:=[100,97,114,107]
def nopreS:List UInt8:=[110,111,45,112,114,101,102,101,114,101,110,99,101]
def reduceS:List UInt8:=[114,101,100,117,99,101]
def minDashS:List UInt8:=[109,105,110,45]
def maxDashS:List UInt8:=[109,97,120,45]
def ltS:List UInt8:=[60]
def gtS:List UInt8:=[62]
def eqS:List UInt8:=[61]
def wordsN (n:List UInt8):List (List UInt8) :=
 if n=hoverS then [noneS,hoverS] else if n=orientS then [portraitS,landscapeS] else if n=pointerS then [noneS,coarseS,fineS]
 else if n=schemeS then [lightS,darkS] else if n=motionS then [nopreS,reduceS] else []
def rangedN (n:List UInt8):Bool:=n==widthS||n==heightS||n==ratioS||n==colorS
def knownN (n:List UInt8) (box:Bool):List UInt8 :=
 if box then (if n=inlineS then widthS else if n=blockS then heightS else if n=widthS∨n=heightS∨n=ratioS∨n=orientS then n else [])
 else if rangedN n||decide (0<(wordsN n).length) then n else []
def aloneN (l:List Vt):List UInt8:=match nbs l with
 | [v]=>wordV v
 | _=>[]
def delimV (s:List UInt8) (v:Vt):Bool:=v.tok.kind==9&&v.tok.text==s
def colonV (v:Vt):Bool:=v.tok.kind==16
def ratioE (a b:Et):Et:=.mk 4 0 0 0 [a,.mk 5 0 0 0 [b]]
def zeroPx:Et:=.mk 1 0 1 1 []
def zeroN (l:List Vt):Bool:=match nbs l with
 | [v]=>v.tok.kind==10&&v.tok.num==(0,1)
 | _=>false
section
variable (ex:Vt→Option Et)
def readN (l:List Vt):Option Et:=oneN ex (nbs l)
def ofN (k:Int) (l:List Vt):Option Et:=match readN ex l with
 | some e=>if kindE e=k then some e else none
 | none=>none
def fracN (l:List Vt):Option Et:=match l.findIdx? (delimV slashS) with
 | none=>ofN ex 1 l
 | some i=>match ofN ex 1 (l.take i),ofN ex 1 (l.drop (i+1)) with
   | some a,some b=>some (ratioE a b)
   | _,_=>none
def valueN (n:List UInt8) (l:List Vt):Option Et :=
 if n=colorS then ofN ex 1 l else if n=ratioS then fracN ex l else if zeroN l then some zeroPx else ofN ex 2 l
def opsG:Nat→List Vt→List (Int×Nat×Nat)
 | _,[]=>[]
 | i,[v]=>if delimV eqS v then [(3,i,i+1)] else if delimV ltS v then [(1,i,i+1)] else if delimV gtS v then [(5,i,i+1)] else []
 | i,v::x::r =>
   if delimV eqS v then (3,i,i+1)::opsG (i+1) (x::r)
   else if delimV ltS v then (if delimV eqS x then (2,i,i+2)::opsG (i+2) r else (1,i,i+1)::opsG (i+1) (x::r))
   else if delimV gtS v then (if delimV eqS x then (4,i,i+2)::opsG (i+2) r else (5,i,i+1)::opsG (i+1) (x::r))
   else opsG (i+1) (x::r)
def comparedN (n:List UInt8) (op:Int) (l:List Vt):Option Ct:=if rangedN n then (valueN ex n l).map (cmpC n op) else none
def ptail (n:List UInt8) (op:Int) (l:List Vt) (box:Bool):Option Ct :=
 let m:=knownN n box
 if rangedN m then (valueN ex m l).map (cmpC m op)
 else if m≠[]∧op=3 then (if aloneN l≠[]∧aloneN l∈wordsN m then some (nameWordC m (aloneN l)) else none) else none
def pwordN (n:List UInt8) (l:List Vt) (box:Bool):Option Ct :=
 if minDashS <+: n then ptail ex (n.drop 4) 4 l box else if maxDashS <+: n then ptail ex (n.drop 4) 2 l box else ptail ex n 3 l box
def plainN (l:List Vt) (box:Bool):Option Ct:=match l.findIdx? colonV with
 | none=>none
 | some i=>pwordN ex (aloneN (l.take i)) (l.drop (i+1)) box
def upN (a b:Int):Bool:=(a==1||a==2)&&(b==1||b==2)
def downN (a b:Int):Bool:=(a==5||a==4)&&(b==5||b==4)
def betweenN (l:List Vt) (box:Bool):Option Ct:=match opsG 0 l with
 | [(op,f,t)]=>(match comparedN ex (knownN (aloneN (l.take f)) box) op (l.drop t) with
   | some c=>some c
   | none=>comparedN ex (knownN (aloneN (l.drop t)) box) (6-op) (l.take f))
 | [(op,f,t),(op2,f2,t2)] =>
   (match comparedN ex (knownN (aloneN ((l.take f2).drop t)) box) (6-op) (l.take f),comparedN ex (knownN (aloneN ((l.take f2).drop t)) box) op2 (l.drop t2) with
   | some a,some b=>if upN op op2||downN op op2 then some (.mk 1 [a,b] lt0) else none
   | _,_=>none)
 | _=>none
def featN (v:Vt) (box:Bool):Option Ct:=match v with
 | .mk t k=>if t.kind≠21∨mayV 64 [.mk t k]=false then none
   else if knownN (aloneN (trimV k)) box≠[] then some (boolC (knownN (aloneN (trimV k)) box))
   else match plainN ex (trimV k) box with
    | some c=>some c
    | none=>betweenN ex (trimV k) box
end
section
variable (ex:Vt→Option Et)
end
section
variable (ex:Vt→Option Et)
end
theorem nbs_cons {a:Vt} (r:List Vt) (h:spV a=false):nbs (a::r)=a::nbs r:=by
 unfold nbs;rw[List.filter_cons_of_pos (by simp[h])]
section
variable (ex:Vt→Option Et)
end
section
variable (ex:Vt→Option Et)
end
end Go.Proofs.YtnbkbenkhkinoaaGreatDoor
namespace Go.Proofs.YtnbkbenkhkinoaaGreatDoor
set_option linter.unusedVariables false
set_option linter.unusedSimpArgs false
open Go.RowKit
set_option maxRecDepth 20000 in
set_option maxHeartbeats 4000000 in
theorem smallM_any (m:List UInt8) (w:World) (hm:m.length≤9223372036854775807) :
  Calls Tryz.prog 127 #[.string ⟨m.toArray⟩] w fun e w'=>e=.returned (.string ⟨(lowS m).toArray⟩)∧Below w.heap.size w w':=by
 obtain⟨cap,w1,hrun,hb1,hbl⟩:=bytes_made m w;obtain⟨N,hN⟩:∃ N,m.length=N:=⟨_,rfl⟩;rw[hN]at hrun hm;have HN:=Lib.hid hN;obtain⟨g,hg⟩:∃ g,w.heap.size=g:=⟨_,rfl⟩;rw[hg]at hrun hb1 hbl ⊢;have HB0:=Lib.hid hb1;have HBL:=Lib.hid hbl;clear hN hb1 hbl hg
 go_enter Tryz.func127,Tryz.ntmps127
 go_wp2_with fail
 go_loopg [10] N (fun q s10 wr=>∃ (i:Nat),s10=.int .i64 i∧Hid (Below g w wr)∧Hid (Bl wr g (lowG m i))∧i≤N∧N-i≤q)
 case atStart=>exact⟨0,rfl,HB0,HBL,Nat.zero_le _,by omega⟩
 case round =>
  clear HB0 HBL hrun;obtain⟨i,rfl,hb,hbl,hiN,hq⟩:=hrel
  by_cases hi:i<N
  · have gi:decide ((i:Int)<(N:Int))=true:=by simpa using hi
    have gin:decide (i<N)=true:=by simpa using hi
    have him:i<m.length:=by rw[HN.out];exact hi
    have hcell:=hbl.out.cell i _ (lowG_at him);have hfree:=hbl.out.free i (by rw[lowG_len];exact him);have hlt:=hbl.out.lt;have hst:=lowG_step him;obtain⟨c,hc⟩:∃ c,m[i]=c:=⟨_,rfl⟩;rw[hc]at hcell hst;have hc256:=UInt8.toNat_lt c;have hset:=hbl.out.set (i:=i) (by rw[lowG_len];exact him) (lowB c);rw[← hst]at hset
    by_cases hup:65≤c.toNat∧c.toNat≤90
    · rw[lowB_up hup]at hset;obtain⟨n,hn⟩:∃ n,c.toNat=n:=⟨_,rfl⟩;rw[hn]at hcell hset hup hc256
      have g1:decide ((65:Int)≤(n:Int))=true:=by simp;omega
      have e97:(n:Int)+97-65=(n:Int)+32:=by omega
      have g2:decide ((n:Int)≤(90:Int))=true:=by simp;omega
      have HS:=Lib.hid hset;clear hset hst hc hn hbl;go_wp2_with fail
      go_roundg (N-(i+1))
      case measure=>omega
      case rel=>exact⟨i+1,by go_num,Lib.hid (hb.out.setCell (by simp) _),Lib.hid (by have:=HS.out;simpa using this),hi,Nat.le_refl _⟩
    · have hsame:lowG m (i+1)=lowG m i:=by
       rw[hst,lowB_same hup]
       refine List.ext_getElem? fun j=>?_
       by_cases hj:i=j
       · subst hj;rw[List.getElem?_set_self (by rw[lowG_len];exact him),lowG_at him,hc]
       · rw[List.getElem?_set_ne hj]
      obtain⟨n,hn⟩:∃ n,c.toNat=n:=⟨_,rfl⟩;rw[hn]at hcell hup hc256
      have ways:decide ((65:Int)≤(n:Int))=false∨decide ((65:Int)≤(n:Int))=true∧decide ((n:Int)≤(90:Int))=false:=by
       by_cases h:65≤n
       · exact Or.inr ⟨by simp;omega,by simp;omega⟩
       · exact Or.inl (by simp;omega)
      have HBL2:=Lib.hid (show Bl wr g (lowG m (i+1)) by rw[hsame];exact hbl.out);clear hset hst hc hn hbl hsame
      rcases ways with g1 | ⟨g1,g2⟩
      all_goals
       go_wp2_with fail
       go_roundg (N-(i+1))
       case measure=>omega
       case rel=>exact⟨i+1,by go_num,hb,HBL2,hi,Nat.le_refl _⟩
  · obtain rfl:i=N:=by omega
    have gi:decide ((i:Int)<(i:Int))=false:=by simp
    have gin:decide (i<i)=false:=by simp
    have htx:=hbl.out.text cap;rw[lowG_len,HN.out]at htx
    have hall:lowG m i=lowS m:=by rw[← HN.out,lowG_all]
    rw[hall]at htx;clear hbl hall;go_wp2_with fail;go_ret;exact⟨rfl,hb.out⟩
theorem VsIn.row {w:World} {h:Nat} {oa:Option Addr} {cap b o:Nat} {l:List Vl} (hs:VsIn w h oa cap b o l) {i:Nat} {tk tn td:Int} {tt:List UInt8} {ti tid:Bool} {koa:Option Addr} {kb ko kcap:Nat} {kids:List Vl} (hi:l[i]?=some (.mk ⟨tk,tt,(tn,td),ti,tid⟩ koa kb ko kcap kids)) :
  w.cell? ⟨b,o+i*7,none⟩=some (.int .i64 tk)∧w.cell? ⟨b,o+i*7+1,none⟩=some (.string ⟨tt.toArray⟩)∧w.cell? ⟨b,o+i*7+2,none⟩=some (.int .i64 tn)∧w.cell? ⟨b,o+i*7+3,none⟩=some (.int .i64 td)∧w.cell? ⟨b,o+i*7+4,none⟩=some (.bool ti)∧w.cell? ⟨b,o+i*7+5,none⟩=some (.bool tid)∧w.cell? ⟨b,o+i*7+6,none⟩=some (.slice koa kids.length kcap) :=
 row7 fun _ _ hv=>hs.cell hi hv
theorem rangedM_any (n:List UInt8) (w:World):Calls Tryz.prog 124 #[.string ⟨n.toArray⟩] w fun e w'=>e=.returned (.bool (rangedN n))∧w=w':=by
 have e:rangedN n=(n==[119,105,100,116,104]||n==[104,101,105,103,104,116]||n==[97,115,112,101,99,116,45,114,97,116,105,111]||n==[99,111,108,111,114]):=rfl;rw[e];clear e;obtain⟨c0,q0⟩:∃ c,(n==[119,105,100,116,104])=c:=⟨_,rfl⟩;obtain⟨c1,q1⟩:∃ c,(n==[104,101,105,103,104,116])=c:=⟨_,rfl⟩;obtain⟨c2,q2⟩:∃ c,(n==[97,115,112,101,99,116,45,114,97,116,105,111])=c:=⟨_,rfl⟩;obtain⟨c3,q3⟩:∃ c,(n==[99,111,108,111,114])=c:=⟨_,rfl⟩;rw[q0,q1,q2,q3]
 cases c0<;>cases c1<;>cases c2<;>cases c3
 all_goals
  go_enter Tryz.func124,Tryz.ntmps124
  go_wp2_with fail;go_ret;exact⟨rfl,rfl⟩
def Zs (w:World) (v:Value) (D:List (List UInt8)):Prop:=∃ oa cap,v=.slice oa D.length cap∧(D≠[]→∃ b,oa=some ⟨b,0,none⟩∧∀ j x,D[j]?=some x→w.cell? ⟨b,j,none⟩=some (.string ⟨x.toArray⟩))
def strs (D:List (List UInt8)):List Value:=D.map fun x=>.string ⟨x.toArray⟩
theorem zs_new (w:World) (t:TypeId) (D:List (List UInt8)):Zs (w.alloc (.cells (strs D).toArray t)) (.slice (some ⟨w.heap.size,0,none⟩) D.length D.length) D :=
 ⟨_,_,rfl,fun _=>⟨_,rfl,fun j x hj=>by rw[(Blk.new w t (strs D).toArray).cell j];simp[strs,hj]⟩⟩
set_option maxHeartbeats 2000000 in
theorem words_any (n:List UInt8) (w:World):Calls Tryz.prog 125 #[.string ⟨n.toArray⟩] w fun e w'=>(∃ v,e=.returned v∧Zs w' v (wordsN n))∧Below w.heap.size w w':=by
 obtain⟨D,hD⟩:∃ D,wordsN n=D:=⟨_,rfl⟩;rw[hD];unfold wordsN at hD
 by_cases h0:n=hoverS
 · rw[if_pos h0]at hD
   have q0:(n==[104,111,118,101,114])=true:=by rw[h0];rfl
   subst hD;clear h0
   go_enter Tryz.func125,Tryz.ntmps125
   go_wp2_with fail;go_ret;exact⟨⟨.slice (some ⟨w.heap.size,0,none⟩) 2 2,rfl,zs_new w 9 [noneS,hoverS]⟩,below_box _ _⟩
 rw[if_neg h0]at hD;have q0:(n==[104,111,118,101,114])=false:=beq_eq_false_iff_ne.2 h0
 by_cases h1:n=orientS
 · rw[if_pos h1]at hD
   have q1:(n==[111,114,105,101,110,116,97,116,105,111,110])=true:=by rw[h1];rfl
   subst hD;clear h1
   go_enter Tryz.func125,Tryz.ntmps125
   go_wp2_with fail;go_ret;exact⟨⟨.slice (some ⟨w.heap.size,0,none⟩) 2 2,rfl,zs_new w 9 [portraitS,landscapeS]⟩,below_box _ _⟩
 rw[if_neg h1]at hD;have q1:(n==[111,114,105,101,110,116,97,116,105,111,110])=false:=beq_eq_false_iff_ne.2 h1
 by_cases h2:n=pointerS
 · rw[if_pos h2]at hD
   have q2:(n==[112,111,105,110,116,101,114])=true:=by rw[h2];rfl
   subst hD;clear h2
   go_enter Tryz.func125,Tryz.ntmps125
   go_wp2_with fail;go_ret;exact⟨⟨.slice (some ⟨w.heap.size,0,none⟩) 3 3,rfl,zs_new w 9 [noneS,coarseS,fineS]⟩,below_box _ _⟩
 rw[if_neg h2]at hD;have q2:(n==[112,111,105,110,116,101,114])=false:=beq_eq_false_iff_ne.2 h2
 by_cases h3:n=schemeS
 · rw[if_pos h3]at hD
   have q3:(n==[112,114,101,102,101,114,115,45,99,111,108,111,114,45,115,99,104,101,109,101])=true:=by rw[h3];rfl
   subst hD;clear h3
   go_enter Tryz.func125,Tryz.ntmps125
   go_wp2_with fail;go_ret;exact⟨⟨.slice (some ⟨w.heap.size,0,none⟩) 2 2,rfl,zs_new w 9 [lightS,darkS]⟩,below_box _ _⟩
 rw[if_neg h3]at hD;have q3:(n==[112,114,101,102,101,114,115,45,99,111,108,111,114,45,115,99,104,101,109,101])=false:=beq_eq_false_iff_ne.2 h3
 by_cases h4:n=motionS
 · rw[if_pos h4]at hD
   have q4:(n==[112,114,101,102,101,114,115,45,114,101,100,117,99,101,100,45,109,111,116,105,111,110])=true:=by rw[h4];rfl
   subst hD;clear h4
   go_enter Tryz.func125,Tryz.ntmps125
   go_wp2_with fail;go_ret;exact⟨⟨.slice (some ⟨w.heap.size,0,none⟩) 2 2,rfl,zs_new w 9 [nopreS,reduceS]⟩,below_box _ _⟩
 rw[if_neg h4]at hD;have q4:(n==[112,114,101,102,101,114,115,45,114,101,100,117,99,101,100,45,109,111,116,105,111,110])=false:=beq_eq_false_iff_ne.2 h4;subst hD
 go_enter Tryz.func125,Tryz.ntmps125
 go_wp2_with fail;go_ret;exact⟨⟨_,rfl,none,0,rfl,fun h=>absurd rfl h⟩,Below.refl _ _⟩
def Lf.t (l:Lf):Lt:=⟨l.kind,l.truth,l.name.data.toList,l.op,l.ex.c,l.word.data.toList,l.value.data.toList,l.any⟩
mutual
def Cd.t:Cd→Ct
 | .mk k _ _ _ _ kids leaf=>.mk k (Cd.ts kids) leaf.t
def Cd.ts:List Cd→List Ct
 | []=>[]
 | x::r=>x.t::Cd.ts r
end
theorem Cd.ts_map:∀ l:List Cd,Cd.ts l=l.map Cd.t
 | []=>rfl
 | x::r=>by rw[Cd.ts,Cd.ts_map r];rfl
theorem Cd.t_mk (k:Int) (oa:Option Addr) (b o cap:Nat) (kids:List Cd) (leaf:Lf):(Cd.mk k oa b o cap kids leaf).t=.mk k (kids.map Cd.t) leaf.t:=by rw[Cd.t,Cd.ts_map]
theorem ccells_len (x:Cd):(ccells x).length=14:=by
 obtain⟨k,oa,b,o,cap,kids,⟨k2,t,n,op,⟨a0,a1,a2,a3,a4,a5,a6,a7,a8⟩,w,v,a⟩⟩:=x;rfl
theorem cd_up:∀ (h h':Nat) {w:World} {e:Cd},h≤h'→CdIn w h e→CdIn w h' e:=CdIn.mono
theorem LfIn.mk {w:World} {h:Nat} {l:Lf} (h1:I64 l.kind) (h2:I64 l.truth) (h3:I64 l.op) (hx:ExIn w h l.ex):LfIn w h l:=⟨h1,h2,h3,hx⟩
theorem cdin_made {A:Nat→Prop} {w:World} {h:Nat} {k:Int} {L:Lf} {oa:Option Addr} {b cap:Nat} {l:List Cd} (hk:I64 k) (hl:l.length*8≤140737488355328) (hs:Sl w oa l.length cap b 0 14 (l.flatMap ccells)) (hA:0<l.length→¬ A b)
  (hL:Safe A w fun w=>LfIn w h L) (he:Safe A w fun w=>∀ x∈l,CdIn w h x):Safe A w fun w=>CdIn w (h+1) (.mk k oa b 0 cap l L):=fun w' g1 g2=>by
 have hs':=(hs.safe hA) w' g1 g2;have he':=he w' g1 g2;refine⟨hk,hL w' g1 g2,hs'.le,hs'.max,hl,hs'.lies,fun i x hi=>⟨fun j v hv=>?_,he' x (List.mem_of_getElem? hi)⟩⟩;have:=hs'.cell _ _ (flat_at ccells_len l i x j v hi hv);rw[show 0+i*14+j=0+(i*14+j) by omega];exact this
def isCd (A:Nat→Prop) (C:Ct) (v:Value) (w:World):Prop:=∃ (x:Cd) (h:Nat),v=cv x∧x.t=C∧Safe A w fun w=>CdIn w h x
theorem isCd.anti {A A':Nat→Prop} {C:Ct} {v:Value} {w:World} (h:isCd A C v w) (hA:∀ b,A' b→A b∨w.heap.size≤b):isCd A' C v w:=by
 obtain⟨x,hh,hv,hc,hs⟩:=h;exact⟨x,hh,hv,hc,hs.wide hA⟩
theorem isCd.grown {A:Nat→Prop} {C:Ct} {v:Value} {w w':World} {row:Option Nat} (h:isCd A C v w) (hg:w.grownBy w' row) (hr:∀ k,row=some k→k<w.heap.size→A k):isCd A C v w':=by
 obtain⟨x,hh,hv,hc,hs⟩:=h;exact⟨x,hh,hv,hc,hs.grown hg hr⟩
theorem isCd.below {A:Nat→Prop} {C:Ct} {v:Value} {w w':World} (h:isCd A C v w) (hb:Below w.heap.size w w'):isCd A C v w':=h.grown (grownBy_of_below hb none) (fun _ e=>by cases e)
structure L12 where
 k:Int
 t:Int
 n:ByteArray
 op:Int
 e0:Int
 e1:Int
 e2:Int
 e3:Int
 ea:Option Addr
 en:Nat
 ec:Nat
 w:ByteArray
 v:ByteArray
 a:Bool
def lcell12 (L:L12):List Value:=[.int .i64 L.k,.int .i64 L.t,.string L.n,.int .i64 L.op,.int .i64 L.e0,.int .i64 L.e1,.int .i64 L.e2,.int .i64 L.e3,.slice L.ea L.en L.ec,.string L.w,.string L.v,.bool L.a]
theorem lcells_12 (l:Lf):∃ L:L12,lcells l=lcell12 L:=by
 obtain⟨k2,t,n,op,⟨a0,a1,a2,a3,a4,a5,a6,a7,a8⟩,w,v,a⟩:=l;exact⟨⟨k2,t,n,op,a0,a1,a2,a3,a4,a8.length,a7,w,v,a⟩,rfl⟩
theorem isCd.cells {A:Nat→Prop} {C:Ct} {v:Value} {w:World} (h:isCd A C v w):∃ (k:Int) (oa:Option Addr) (n cap:Nat) (L:L12),v=.agg (.int .i64 k::.slice oa n cap::lcell12 L).toArray:=by
 obtain⟨⟨k,oa,b,o,cap,kids,lf⟩,hh,rfl,hc,hs⟩:=h;obtain⟨L,hL⟩:=lcells_12 lf;refine⟨k,oa,kids.length,cap,L,?_⟩;rw[← hL];rfl
theorem leaf_cd {A:Nat→Prop} {w:World} {E:Et} {x:Ex} {hx:Nat} (k t:Int) (n:ByteArray) (op:Int) (wd vl:ByteArray) (an:Bool) (h1:I64 k) (h2:I64 t) (h3:I64 op) (hc:x.c=E) (hs:Safe A w fun w=>ExIn w hx x) :
  isCd A (leafC ⟨k,t,n.data.toList,op,E,wd.data.toList,vl.data.toList,an⟩) (cv (.mk 4 none 0 0 0 [] ⟨k,t,n,op,x,wd,vl,an⟩)) w :=
 ⟨.mk 4 none 0 0 0 [] ⟨k,t,n,op,x,wd,vl,an⟩,hx+1,rfl,by rw[Cd.t_mk];unfold Lf.t;simp only[hc];rfl,
   cdin_made (i64_small _ (by decide)) (by simp) ⟨rfl,Nat.le_refl _,Nat.zero_le _,fun h=>absurd h (by simp),fun j v h=>by simp at h⟩ (fun h=>absurd h (by simp))
    (hs.mono fun w h=>LfIn.mk h1 h2 h3 h) (fun _ _ _ x hx=>by cases hx)⟩
theorem zero_cd (A:Nat→Prop) (w:World):isCd A zeroCt (cv (.mk 0 none 0 0 0 [] zeroLf)) w:=by
 refine⟨.mk 0 none 0 0 0 [] zeroLf,2,rfl,by rw[Cd.t_mk];rfl,?_⟩;refine cdin_made (h:=1) (i64_small _ (by decide)) (by simp) ⟨rfl,Nat.le_refl _,Nat.zero_le _,fun h=>absurd h (by simp),fun j v h=>by simp at h⟩ (fun h=>absurd h (by simp)) ?_ (fun _ _ _ x hx=>by cases hx)
 exact(ExIn.leaf (A:=A) (k:=0) (n:=0) (d:=0) (u:=0) (i64_small _ (by decide)) (by unfold Is64;decide) (i64_small _ (by decide))).mono fun w h=>LfIn.mk (i64_small _ (by decide)) (i64_small _ (by decide)) (i64_small _ (by decide)) h
end Go.Proofs.YtnbkbenkhkinoaaGreatDoor
