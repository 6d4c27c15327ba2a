/- Of my texts: Values, CdG, CnP. -/
import Derived.Test.YtchhhhaeiiildaaGreatDoorM05
import Derived.Test.YtchhhhaeiiildaaGreatDoorM22
import Derived.Test.YtchhhhaeiiildaaGreatDoorM23
import Derived.Test.YtchhhhaeiiildaaGreatDoorM24
import Derived.Test.YtchhhhaeiiildaaGreatDoorM25
import Derived.Test.YtchhhhaeiiildaaGreatDoorM26
namespace Go.Proofs.YtchhhhaeiiildaaGreatDoor
set_option linter.unusedVariables false
set_option linter.unusedSimpArgs false
open Go.RowKit
theorem owns_fresh {w:World} {base g n size:Nat} {e:TypeId} {cs:Array Value} (h:Blk w g e cs) (hb:base≤g) (hs:cs.size=n*size) (hn:n≤maxLen):w.ownsRow base e size (.slice (some ⟨g,0,none⟩) n n) n cs.toList :=
 ⟨by simpa using hs,Or.inr ⟨g,n,cs,rfl,hb,h,Nat.le_refl _,hn,hs,by rw[List.take_of_length_le (by simp[hs])]⟩⟩
theorem skC_top (R:List Fm) (f:Fm):skC (R++[f])=(f.t,f.kids.map Vl.c)::skC R:=by
 unfold skC;rw[List.map_append,List.reverse_append];rfl
theorem skC_nil {R:List Fm}:skC R=[]↔R=[]:=by
 unfold skC;constructor
 · intro h;have:=congrArg List.length h;simpa using this
 · rintro rfl;rfl
theorem skC_length (R:List Fm):(skC R).length=R.length:=by unfold skC;simp
theorem shutF_sk (R:List Fm) (p f:Fm):shutF (skC (R++[p]++[f]))=(p.t,p.kids.map Vl.c++[.mk f.t (f.kids.map Vl.c)])::skC R:=by
 rw[skC_top,skC_top];rfl
theorem Sk.begin {w:World} {g:Nat} (h:Blk w g 74 zero7) (B:Nat) (hB:B≤g):Sk B w (.slice (some ⟨g,0,none⟩) 1 1) [⟨zeroTk,.slice none 0 0,[]⟩] 0:=by
 refine⟨owns_fresh (n:=1) h hB rfl (by decide),fun x hx=>?_,List.pairwise_singleton _ _,fun x hx=>?_,fun x hx=>?_,0,fun w' _ _ x hx k hk=>?_⟩
 all_goals obtain rfl:=List.mem_singleton.1 hx
 · exact World.ownsRow_nil _ _ _ _
 · exact⟨by unfold I64 zeroTk;decide,by unfold Is64 zeroTk;decide,Nat.zero_le _⟩
 · exact Nat.le_refl _
 · cases hk
theorem stepV_cons (t0:Tk) (k0:List Vt) (r:List (Tk×List Vt)) (t:Tk):stepV ((t0,k0)::r) t=if r≠[]∧t.kind=closeF t0.kind then shutF ((t0,k0)::r) else if closeF t.kind≠0 then (t,[])::(t0,k0)::r else (t0,k0++[.mk t []])::r:=rfl
theorem closer_same (k:Int) (w:World):Calls Tryz.prog 34 #[.int .i64 k] w fun e w'=>e=.returned (.int .i64 (closeF k))∧w=w':=(closer_any k w).mono fun _ _ ⟨h1,h2⟩=>⟨h1,h2.symm⟩
theorem last_of {S:List Fm} (h:S≠[]):∃ R f,S=R++[f]:=⟨S.dropLast,S.getLast h,(List.dropLast_concat_getLast h).symm⟩
set_option maxRecDepth 20000 in
set_option maxHeartbeats 8000000 in
theorem values_any (l:List Tk) (oa:Option Addr) (cap b o:Nat) (w:World) (hs:Sl w oa l.length cap b o 6 (toksV l)) (h64:∀ t∈l,Tk64 t) (hm:l.length≤274877906944) :
  Calls Tryz.prog 22 #[.slice oa l.length cap] w fun e w'=>(∃ v,e=.returned v∧∃ h,isVs (· < w.heap.size) h (valuesF l) v w')∧Below w.heap.size w w':=by
 obtain⟨X,hX⟩:∃ X,l.foldl stepV [(zeroTk,[])]=X:=⟨_,rfl⟩;obtain⟨Y,hY⟩:∃ Y,valuesF l=Y:=⟨_,rfl⟩
 have hXY:Y=match closeV X.length X with
  | (_,k)::_=>k
  | []=>[]:=by rw[← hY,← hX];rfl
 rw[hY];obtain⟨N,hN⟩:∃ N,l.length=N:=⟨_,rfl⟩;rw[hN]at hm ⊢;obtain⟨B,hB⟩:∃ B,w.heap.size=B:=⟨_,rfl⟩;simp only[hB];have hcl:=hs.le;have hcm:=hs.max;unfold maxLen at hcm;rw[hN]at hcl;have HS:=Lib.hid hs;have HX:=Lib.hid hX;have HXY:=Lib.hid hXY;have HN:=Lib.hid hN;have H64:=Lib.hid h64;have HB:=Lib.hid hB;clear hs hX hXY hY hN h64 hB
 go_enter Tryz.func22,Tryz.ntmps22
 go_upto_region 2 with fail
 have HK0:=Lib.hid (show Sk B (w.alloc (.cells #[.int .i64 0,.string ⟨#[]⟩,.int .i64 0,.int .i64 0,.bool false,.bool false,.slice none 0 0] 74)) (.slice (some ⟨w.heap.size,0,none⟩) 1 1) [⟨zeroTk,.slice none 0 0,[]⟩] 0 from Sk.begin (Blk.new w 74 zero7) B (by rw[HB.out];exact Nat.le_refl _));have HB0:=Lib.hid (show Below B w (w.alloc (.cells #[.int .i64 0,.string ⟨#[]⟩,.int .i64 0,.int .i64 0,.bool false,.bool false,.slice none 0 0] 74)) by rw[← HB.out];exact below_box _ _);generalize w.heap.size=g0 at HK0 ⊢;generalize w.alloc _=w0 at *
 go_upto_block 0 with fail
 go_cut [3] (fun s wx=>∃ (S:List Fm) (gs c L:Nat),s=.slice (some ⟨gs,0,none⟩) L c∧Hid (S.length=L∧S≠[]∧L≤N+1)∧Hid (Sk B wx (.slice (some ⟨gs,0,none⟩) L c) S N)∧Hid (skC S=X)∧Hid (Below B w wx))
 case first =>
  go_wp2_with fail
  go_loopg [3,11] N (fun q s3 s wr=>∃ (i:Nat) (S:List Fm) (gs c L:Nat),s=.int .i64 i∧s3=.slice (some ⟨gs,0,none⟩) L c∧Hid (S.length=L∧S≠[]∧L≤i+1)∧Hid (Sk B wr (.slice (some ⟨gs,0,none⟩) L c) S i)∧Hid (skC S=(l.take i).foldl stepV [(zeroTk,[])])∧Hid (Below B w wr)∧i≤N∧N-i≤q)
  case atStart=>exact⟨0,_,g0,1,1,rfl,rfl,Lib.hid ⟨rfl,by simp,Nat.le_refl _⟩,HK0,Lib.hid rfl,HB0,Nat.zero_le _,by omega⟩
  case round =>
   clear HK0 HB0;obtain⟨i,S,gs,c,L,rfl,rfl,hL,hK,hC,hb,hiN,hq⟩:=hrel
   by_cases hi:i<N
   · have gi:decide ((i:Int)<(N:Int))=true:=by simpa using hi
     have gin:decide (i<N)=true:=by simpa using hi
     have hil:i<l.length:=by rw[HN.out];exact hi
     have hli:l[i]?=some l[i]:=List.getElem?_eq_getElem hil;have hs2:=HS.out.below (by rw[HB.out];exact hb.out);obtain⟨rfl,hbl⟩:=hs2.lies (by omega);have ht64:=H64.out _ (List.mem_of_getElem? hli)
     have hfold:(l.take (i+1)).foldl stepV [(zeroTk,[])]=stepV (skC S) l[i]:=by rw[List.take_succ_eq_append_getElem hil,List.foldl_append,← hC.out];rfl
     obtain⟨t,ht⟩:∃ t,l[i]=t:=⟨_,rfl⟩;rw[ht]at hli ht64 hfold
     have hcell:∀ j v,(tkcells t)[j]?=some v→wr.cell? ⟨b,o+(i*6+j),none⟩=some v:=fun j v hv=>hs2.cell _ _ (flat_at (f:=tkcells) (sz:=6) (fun _=>rfl) l i t j v hli hv)
     obtain⟨tk,tt,⟨tn,td⟩,ti,tid⟩:=t;have f0:wr.cell? ⟨b,o+i*6,none⟩=some (.int .i64 tk):=hcell 0 _ rfl;have f1:wr.cell? ⟨b,o+i*6+1,none⟩=some (.string ⟨tt.toArray⟩):=hcell 1 _ rfl;have f2:wr.cell? ⟨b,o+i*6+2,none⟩=some (.int .i64 tn):=hcell 2 _ rfl;have f3:wr.cell? ⟨b,o+i*6+3,none⟩=some (.int .i64 td):=hcell 3 _ rfl;have f4:wr.cell? ⟨b,o+i*6+4,none⟩=some (.bool ti):=hcell 4 _ rfl;have f5:wr.cell? ⟨b,o+i*6+5,none⟩=some (.bool tid):=hcell 5 _ rfl;have HF:=Lib.hid hfold;have HT:=Lib.hid ht64;obtain⟨hL1,hL2,hL3⟩:=hL.out;obtain⟨R,f,rfl⟩:=last_of hL2;obtain⟨n,hn⟩:∃ n,R.length=n:=⟨_,rfl⟩
     have hLn:n+1=L:=by rw[← hL1,List.length_append,hn];rfl
     have iL:(L:Int)-1=(n:Int):=by omega
     have HL:=Lib.hid (And.intro hn (And.intro hLn hL3))
     have hL4:L≤1099511627777:=by omega
     clear hcell hfold ht64 hs2 hli hil ht hL hL1 hL2 hL3 hn hC
     go_upto_region 6 with fail
     have hbx:=Blk.new wr 50 #[.int .i64 tk,.string ⟨tt.toArray⟩,.int .i64 tn,.int .i64 td,.bool ti,.bool tid];have hb1:=Lib.hid (Below.alloc hb.out (by have:=hb.out.size;rw[← HB.out];exact this) (.cells #[.int .i64 tk,.string ⟨tt.toArray⟩,.int .i64 tn,.int .i64 td,.bool ti,.bool tid] 50));have hK1:=Lib.hid (hK.out.below (below_box wr (.cells #[.int .i64 tk,.string ⟨tt.toArray⟩,.int .i64 tn,.int .i64 td,.bool ti,.bool tid] 50)));clear f0 f1 f2 f3 f4 f5 hb hK;generalize wr.heap.size=g5 at *;generalize wr.alloc _=w1 at *;have cb0:w1.cell? ⟨g5,0,none⟩=some (.int .i64 tk):=(hbx).cell 0;have fcb0:=(hbx).frozen 0;have cb1:w1.cell? ⟨g5,1,none⟩=some (.string ⟨tt.toArray⟩):=(hbx).cell 1;have fcb1:=(hbx).frozen 1;have cb2:w1.cell? ⟨g5,2,none⟩=some (.int .i64 tn):=(hbx).cell 2;have fcb2:=(hbx).frozen 2;have cb3:w1.cell? ⟨g5,3,none⟩=some (.int .i64 td):=(hbx).cell 3;have fcb3:=(hbx).frozen 3
     have cb4:w1.cell? ⟨g5,4,none⟩=some (.bool ti):=(hbx).cell 4;have fcb4:=(hbx).frozen 4;have cb5:w1.cell? ⟨g5,5,none⟩=some (.bool tid):=(hbx).cell 5;have fcb5:=(hbx).frozen 5;have lcb:=(hbx).lt;have HBX:=Lib.hid hbx;clear hbx;have hrow:=hK1.out.row;rw[List.length_append,List.length_singleton,HL.out.1,HL.out.2.1,List.flatMap_append,List.flatMap_singleton]at hrow;obtain⟨fk,hfk⟩:∃ fk,f.t.kind=fk:=⟨_,rfl⟩
     have hRl:(R.flatMap fmcells).length=n*7:=by rw[flat_length fmcells_length,HL.out.1]
     have hc0:w1.cell? ⟨gs,n*7,none⟩=some (.int .i64 fk):=owns_cell hrow (by rw[List.getElem?_append_right (by omega),hRl,Nat.sub_self,← hfk];rfl);have iN0:(0:Int)≤(n:Int):=Int.natCast_nonneg _
     have iNn:(n:Int)<(L:Int):=by omega
     have iNn2:n<L:=by omega
     have hgsl:gs<w1.heap.size:=(hrow.lt gs rfl).2;have HFK:=Lib.hid hfk;have HRL:=Lib.hid hRl;clear hrow hfk hRl
     go_cut [31] (fun s wx=>s=.bool (decide (0<n)&&(tk==closeF fk))∧Hid (Below w1.heap.size w1 wx))
     case first =>
      by_cases h0:0<n
      · have g1:decide ((0:Int)<(n:Int))=true:=by simpa using h0
        have g2:decide (0<n)=true:=by simpa using h0
        refine wp_region_grow (by kernel_rfl) (by kernel_rfl) ?_
        repeat (go_big_quiet_step ((first | (go_at_call 34;with_reducible exact calls_grow_same (closer_same fk _)))))
        refine wpQuiet_nil ?_;rintro _ ⟨m,rfl⟩;go_wp2_with fail;go_meet
        case rel=>exact⟨by simp[g2],Lib.hid (grow_below m)⟩
      · have g1:decide ((0:Int)<(n:Int))=false:=by simp;omega
        have g2:decide (0<n)=false:=by simp;omega
        refine wp_region_grow (by kernel_rfl) (by kernel_rfl) ?_
        repeat (go_big_quiet_step ((first | (go_at_call 34;with_reducible exact calls_grow_same (closer_same fk _)))))
        refine wpQuiet_nil ?_;rintro _ ⟨m,rfl⟩;go_wp2_with fail;go_meet
        case rel=>exact⟨by simp[g2],Lib.hid (grow_below m)⟩
     case rest =>
      obtain⟨rfl,hbw⟩:=hcut;have hK2:=Lib.hid (hK1.out.below hbw.out);have hb2:=Lib.hid (hb1.out.trans (Below.mono hbw.out (by have:=hb1.out.size;have:=HB.out;omega)));have hbx:=HBX.out.below hbw.out HBX.out.lt
      have hwB:B≤wc.heap.size:=by have:=hb2.out.size;have:=HB.out;omega
      clear hbw hb1 hK1 HBX cb0 cb1 cb2 cb3 cb4 cb5 fcb0 fcb1 fcb2 fcb3 fcb4 fcb5 lcb hc0 hgsl
      by_cases hA:0<n∧tk=closeF fk
      · -- the innermost is closed
        have g6:(decide (0<n)&&(tk==closeF fk))=true:=by simp[hA.1,hA.2]
        obtain⟨R,p,rfl⟩:=last_of (S:=R) (fun e=>by have:=HL.out.1;rw[e]at this;simp at this;omega);obtain⟨n',hn'⟩:∃ n',R.length=n':=⟨_,rfl⟩
        have hnn:n'+1=n:=by rw[← HL.out.1,List.length_append,hn'];rfl
        have hLL:n'+2=L:=by have:=HL.out.2.1;omega
        have hsh:=shut_any B i n' R p f gs c wc hn' (by rw[hLL];exact hK2.out) hwB (by omega);rw[hnn,hLL]at hsh;have HSH:=Lib.hid hsh;have HA:=Lib.hid hA;clear hsh hA hnn hLL hbx;rw[g6];clear g6;go_wp2_with fail
        ((with_reducible refine HSH.out.mono ?_);rintro e w2 ⟨rfl,⟨v',kd,hsk,hkc⟩,hbb⟩)
        have H2:=Lib.hid (And.intro hsk (And.intro hkc hbb));clear hsk hkc hbb HSH;go_wp2_with fail
        go_roundg (N-(i+1))
        case measure=>omega
        case rel =>
         obtain⟨hsk,hkc,hbb⟩:=H2.out;refine⟨i+1,_,gs,c,n,by go_num,rfl,Lib.hid ⟨by rw[List.length_append,← HL.out.1,List.length_append];rfl,by simp,by have:=HL.out;omega⟩,Lib.hid hsk,Lib.hid ?_,Lib.hid (hb2.out.trans hbb),hi,Nat.le_refl _⟩;rw[HF.out,skC_top,skC_top,skC_top];rw[stepV_cons,if_pos ⟨by simp,by rw[HFK.out];exact HA.out.2⟩];simp only[shutF,List.map_append,List.map_cons,List.map_nil,hkc]
      · have g6:(decide (0<n)&&(tk==closeF fk))=false:=by
         apply Bool.eq_false_iff.2
         intro h;simp only[Bool.and_eq_true,decide_eq_true_eq,beq_iff_eq]at h;exact hA h
        have hnot:¬ (skC R≠[]∧tk=closeF f.t.kind):=fun h=>hA ⟨by
         rcases Nat.eq_zero_or_pos n with h0 | h0
         · have hr:R=[]:=List.eq_nil_of_length_eq_zero (by rw[HL.out.1,h0]);exact absurd (skC_nil.2 hr) h.1
         · exact h0,by rw[← HFK.out];exact h.2⟩
        have HNOT:=Lib.hid hnot;rw[g6];clear g6 hA hnot;have cd0:wc.cell? ⟨g5,0,none⟩=some (.int .i64 tk):=(hbx).cell 0;have fcd0:=(hbx).frozen 0;have cd1:wc.cell? ⟨g5,1,none⟩=some (.string ⟨tt.toArray⟩):=(hbx).cell 1;have fcd1:=(hbx).frozen 1;have cd2:wc.cell? ⟨g5,2,none⟩=some (.int .i64 tn):=(hbx).cell 2;have fcd2:=(hbx).frozen 2;have cd3:wc.cell? ⟨g5,3,none⟩=some (.int .i64 td):=(hbx).cell 3;have fcd3:=(hbx).frozen 3;have cd4:wc.cell? ⟨g5,4,none⟩=some (.bool ti):=(hbx).cell 4;have fcd4:=(hbx).frozen 4;have cd5:wc.cell? ⟨g5,5,none⟩=some (.bool tid):=(hbx).cell 5;have fcd5:=(hbx).frozen 5;have lcd:=(hbx).lt
        by_cases hO:closeF tk=0
        · -- a value that opens nothing
          have gO:(closeF tk != 0)=false:=by simp[hO]
          have HO:=Lib.hid hO;clear hO;go_wp2_with fail;go_wp2_with fail
          ((with_reducible refine(closer_same tk _).mono ?_);rintro e w' ⟨rfl,rfl⟩)
          have hk2:=hK2.out;rw[← HL.out.2.1]at hk2;have hfm:f∈R++[f]:=List.mem_append_right _ (List.mem_singleton.2 rfl);have hkP:=hk2.kid f hfm;have hlP:=hk2.len f hfm;have hrowP:=hk2.row;rw[List.length_append,List.length_singleton,HL.out.1,List.flatMap_append,List.flatMap_singleton]at hrowP;have hRl:=HRL.out;have hcP:wc.cell? ⟨gs,n*7+6,none⟩=some f.v:=owns_cell hrowP (by rw[List.getElem?_append_right (by omega),hRl,show n*7+6-n*7=6 by omega];rfl);have hfP:wc.frozen? ⟨gs,n*7+6,none⟩=false:=owns_frozen hrowP _;have hgsl:=(hrowP.lt gs rfl).2
          have hneP:f.v.ownBlock≠some gs:=fun e=>owns_apart hkP hrowP (by decide) e rfl
          obtain⟨ft,fv,fkids⟩:=f;simp only at hkP hlP hcP hneP;obtain⟨poa,pc,pg,rfl,_,_⟩:=sl_of_own hkP;obtain⟨k,hk⟩:∃ k,fkids.length=k:=⟨_,rfl⟩;rw[hk]at hkP hlP hcP hneP;have HKP:=Lib.hid hkP;have HKK:=Lib.hid hk;have HK2:=Lib.hid hk2
          have hkk:k≤1099511627776:=by omega
          have hk1:(k:Int)<(k:Int)+1:=by omega
          have hwr:IntKind.i64.wrap (n:Int)=(n:Int):=by rw[IntKind.wrap_i64];omega
          clear hkP hk hk2 hrowP hfm hK2 hRl cd0 cd1 cd2 cd3 cd4 cd5 fcd0 fcd1 fcd2 fcd3 fcd4 fcd5 lcd;have cd0:=hbx.cell 0;have cd1:=hbx.cell 1;have cd2:=hbx.cell 2;have cd3:=hbx.cell 3;have cd4:=hbx.cell 4;have cd5:=hbx.cell 5;have lcd:=hbx.lt;simp only[List.getElem?_toArray,List.getElem?_cons_zero,List.getElem?_cons_succ]at cd0 cd1 cd2 cd3 cd4 cd5;go_wp2_with fail;refine wp_region_phase 9 [Loose.claim 6 49 (.agg #[.int .i64 tk,.string ⟨tt.toArray⟩,.int .i64 tn,.int .i64 td,.bool ti,.bool tid,.slice none 0 0]),Loose.claim 7 50 (.int .i64 k),Loose.rowL 8 51 52 1 #[.int .i64 0,.string ⟨#[]⟩,.int .i64 0,.int .i64 0,.bool false,.bool false,.slice none 0 0] wc.heap.size] (by kernel_rfl) (by kernel_rfl) (by kernel_rfl) rfl (by kernel_rfl) (by kernel_rfl) (by kernel_rfl) (by kernel_rfl) ?_
          simp only[List.take_succ_cons,List.take_zero,headL,hushL,List.find?,Loose.claim_i,Loose.cells_i,Loose.rowL_i,Loose.claim_hush,Loose.cells_hush,Loose.rowL_hush,Loose.val_i,Loose.rowS_i,Loose.val_hush,Loose.rowS_hush,Loose.fw_i,Loose.fw_hush,Loose.rw_i,Loose.rw_hush,Nat.reduceBEq,Nat.reduceAdd]
          repeat (go_big_quiet_step (fail))
          refine wpQuiet_nil ⟨fun V m=>?_,fun V m=>?_⟩
          · simp only[List.take_succ_cons,List.take_zero,obs_cons,obs_nil,List.getElem?_cons_zero,List.getElem?_cons_succ,fill_nil,fill_claim,fill_cells,fill_rowL,Loose.claim_i,Loose.cells_i,Loose.rowL_i,Act.put,List.setIfInBounds_toArray,List.set_cons_zero,List.set_cons_succ,fill_val,fill_rowS,Loose.val_i,Loose.rowS_i,fill_fw,Loose.fw_i,fill_rw,Loose.rw_i];refine⟨fun _=>?_,fun _=>?_,fun _=>?_,trivial⟩
            · go_wp2_with fail;exact post_claim rfl (Below.refl _ _)
            · go_wp2_with fail;exact post_claim rfl (Below.refl _ _)
            · go_wp2_with fail;exact post_rowL rfl (grow_size m)
          · simp only[laws_nil,laws_claim,laws_cells,laws_rowL,laws_val,laws_rowS,laws_fw,laws_rw,dist_nil,dist_claim,dist_cells,dist_rowL,dist_val,dist_rowS,dist_fw,dist_rw,dist1_nil,dist1_claim,dist1_cells,dist1_rowL,dist1_val,dist1_fw,dist1_cells_rowL,dist1_rowL_cells,List.length_cons,List.length_nil,Nat.reduceAdd,Nat.reduceSub,and_true,fill_nil,fill_claim,fill_cells,fill_rowL,Loose.claim_i,Loose.cells_i,Loose.rowL_i,Act.put,List.setIfInBounds_toArray,List.set_cons_zero,List.set_cons_succ,fill_val,fill_rowS,Loose.val_i,Loose.rowS_i,fill_fw,Loose.fw_i,fill_rw,Loose.rw_i];rintro⟨gb,hv8,hgb,hbk⟩ _;rw[hv8];clear hv8;have hgm:=grow_below m;generalize grow wc m=wd at *;refine wpAny_ready (rs:=[9]) (by kernel_rfl) (by simp) ?_;refine AllReady.cons rfl (fun K hK=>?_) AllReady.nil
            refine step_add elVal (by rfl) _ _ (by rfl) (by rfl) (owns_belowW HKP.out hgm) (by have:=hgm.size;omega) hbk 1 (by rfl) (by rfl) (by simp[Value.oneCell']) (by omega) (by omega) ?_;intro gg cap3 w3 ho3 hg3 hat;refine hK _ _ ?_;clear hK K;change wpAny _ _ _ _ _ _ (Act.put _ (some 52) _) _
            try simp only[Act.put,List.setIfInBounds_toArray,List.set_cons_zero,List.set_cons_succ]
            refine wpAny_take (i:=10) (v:=?vv10) rfl (by kernel_rfl) (by kernel_rfl) (by kernel_rfl) (fun _ _ _ h=>h) (Or.inl ⟨by rfl,?hy10⟩) ?_
            case hy10=>(intro w;go_simp;try with_reducible rfl)
            change wpAny _ _ _ _ _ _ (Act.put _ (some 53) _) _
            try simp only[Act.put,List.setIfInBounds_toArray,List.set_cons_zero,List.set_cons_succ]
            refine wpAny_take (i:=12) (v:=?vv12) rfl (by kernel_rfl) (by kernel_rfl) (by kernel_rfl) (fun _ _ _ h=>h) (Or.inl ⟨by rfl,?hy12⟩) ?_
            case hy12=>(intro w;go_simp;try with_reducible rfl)
            change wpAny _ _ _ _ _ _ (Act.put _ (some 54) _) _
            try simp only[Act.put,List.setIfInBounds_toArray,List.set_cons_zero,List.set_cons_succ]
            refine wpAny_take (i:=13) (v:=?vv13) rfl (by kernel_rfl) (by kernel_rfl) (by kernel_rfl) (fun _ _ _ h=>h) (Or.inl ⟨by rfl,?hy13⟩) ?_
            case hy13=>(intro w;go_simp;try with_reducible rfl)
            change wpAny _ _ _ _ _ _ (Act.put _ (some 55) _) _
            try simp only[Act.put,List.setIfInBounds_toArray,List.set_cons_zero,List.set_cons_succ]
            have hk2:=HK2.out;have hkk':=HKK.out
            have hg3':wd.grownBy w3 (Value.slice poa fkids.length pc).ownBlock:=by rw[HKK.out];exact hg3
            have hfr:=hk2.frames HL.out.1 hgm hg3'
            have hgne:gg≠gs:=fun e=>owns_apart ho3 hfr (by decide) rfl (by rw[e];rfl)
            have hgne':gs≠gg:=Ne.symm hgne;have q1:w3.cell? ⟨gs,n*7+6,none⟩=some (.slice poa k pc):=(hg3.cell_far _ (by have:=hgm.size;simp;omega) (Ne.symm hneP)).trans ((hgm.cell hgsl).trans hcP);have q2:w3.frozen? ⟨gs,n*7+6,none⟩=false:=(hg3.frozen_far _ (by have:=hgm.size;simp;omega) (Ne.symm hneP)).trans ((hgm.frozen hgsl).trans hfP)
            have hln:(fkids.flatMap vcells).length=k*7:=by rw[flat_length vcells_length,HKK.out]
            have z:∀ j u,(#[.int .i64 0,.string ⟨#[]⟩,.int .i64 0,.int .i64 0,.bool false,.bool false,.slice none 0 0]:Array Value).toList[j]?=some u→w3.cell? ⟨gg,k*7+j,none⟩=some u:=fun j u hu=>owns_cell ho3 (by rw[List.getElem?_append_right (by omega),hln,show k*7+j-k*7=j by omega];exact hu)
            have z0:=z 0 _ rfl;have z1:=z 1 _ rfl;have z2:=z 2 _ rfl;have z3:=z 3 _ rfl;have z4:=z 4 _ rfl;have z5:=z 5 _ rfl;have z6:=z 6 _ rfl;simp only[Nat.add_zero]at z0;have y0:=owns_frozen ho3 (k*7);have y1:=owns_frozen ho3 (k*7+1);have y2:=owns_frozen ho3 (k*7+2);have y3:=owns_frozen ho3 (k*7+3);have y4:=owns_frozen ho3 (k*7+4);have y5:=owns_frozen ho3 (k*7+5);have y6:=owns_frozen ho3 (k*7+6);have lgg:=(ho3.lt gg rfl).2;have lgs:=(hfr.lt gs rfl).2;have hcap3:=owns_cap ho3;have H3:=Lib.hid (And.intro hgm (And.intro hg3' (And.intro hat (And.intro ho3 (And.intro hfr hgne)))));clear z hk2 hkk' hg3' hfr ho3 hg3 hgm hat hcP hfP hbk cd0 cd1 cd2 cd3 cd4 cd5 lcd hbx hgne;refine wpAny_ready (rs:=[11,14]) (by kernel_rfl) (by simp) ?_;refine AllReady.cons rfl (fun K hK=>?_) (AllReady.cons rfl (fun K hK=>?_) AllReady.nil)
            · go_simp
              refine hK _ _ ?_;clear hK K;refine wpAny_ready (rs:=[14]) (by kernel_rfl) (by simp) ?_;refine AllReady.cons rfl (fun K hK=>?_) AllReady.nil
              go_simp
              refine hK _ _ ?_;clear hK K;refine wpAny_done (by kernel_rfl) ?_ _;obtain⟨hgm,hg3,hat,ho3,hfr,hgne⟩:=H3.out;have hk:=HKK.out;subst hk;have hG1:=grownBy_puts [.int .i64 tk,.string ⟨tt.toArray⟩,.int .i64 tn,.int .i64 td,.bool ti,.bool tid,.slice none 0 0] w3 gg (fkids.length*7);have hkid:=owns_puts [.int .i64 tk,.string ⟨tt.toArray⟩,.int .i64 tn,.int .i64 td,.bool ti,.bool tid,.slice none 0 0] (fkids.length*7) w3 _ _ ho3 (flat_length vcells_length _) rfl (by simp;omega);have hfr4:=hfr.kept hG1 (.inr fun e=>hgne (Option.some.inj e).symm);have hfr5:=frames_put hfr4 HL.out.1 (.slice (some ⟨gg,0,none⟩) (fkids.length+1) cap3);have hG2:=grownBy_set (puts w3 gg (fkids.length*7) [.int .i64 tk,.string ⟨tt.toArray⟩,.int .i64 tn,.int .i64 td,.bool ti,.bool tid,.slice none 0 0]) ⟨gs,n*7+6,none⟩ (.slice (some ⟨gg,0,none⟩) (fkids.length+1) cap3)
              have hkid5:=hkid.kept hG2 (.inr fun e=>hgne (Option.some.inj e));have HPUT:=Lib.hid (Sk.put (k:=.mk ⟨tk,tt,(tn,td),ti,tid⟩ none 0 0 0 []) HK2.out HL.out.1 ⟨1,fun w' _ _=>⟨HT.out,by simp,⟨rfl,Nat.le_refl _,Nat.zero_le _,fun h=>absurd h (by simp),fun j v h=>by simp at h⟩,fun i x h=>by simp at h⟩⟩ hgm hg3 hat rfl hwB hG1 hG2 (Or.inr rfl) (Or.inl rfl) hfr5 hkid5);clear hG1 hG2 hfr4 hfr5 hgm hg3 hat ho3 hfr hgne hkid hkid5 q1 q2 z0 z1 z2 z3 z4 z5 z6 y0 y1 y2 y3 y4 y5 y6;simp only[puts]at HPUT;generalize World.setCell _ _ _=w5 at *;go_wp2_with fail
              go_roundg (N-(i+1))
              case measure=>omega
              case rel =>
               refine⟨i+1,R++[⟨ft,.slice (some ⟨gg,0,none⟩) (fkids.length+1) cap3,fkids++[.mk ⟨tk,tt,(tn,td),ti,tid⟩ none 0 0 0 []]⟩],gs,c,L,by go_num,rfl,Lib.hid ⟨by rw[List.length_append,List.length_singleton,HL.out.1,HL.out.2.1],by simp,by have:=HL.out;omega⟩,Lib.hid (by rw[← HL.out.2.1];exact HPUT.out.1),Lib.hid ?_,Lib.hid (hb2.out.trans HPUT.out.2),hi,Nat.le_refl _⟩;rw[HF.out,skC_top,skC_top,stepV_cons,if_neg HNOT.out,if_neg (by rw[HO.out];simp),List.map_append];rfl
            · go_simp
              refine hK _ _ ?_;clear hK K;refine wpAny_ready (rs:=[11]) (by kernel_rfl) (by simp) ?_;refine AllReady.cons rfl (fun K hK=>?_) AllReady.nil
              go_simp
              refine hK _ _ ?_;clear hK K;refine wpAny_done (by kernel_rfl) ?_ _;obtain⟨hgm,hg3,hat,ho3,hfr,hgne⟩:=H3.out;have hk:=HKK.out;subst hk;have hG1:=grownBy_set w3 ⟨gs,n*7+6,none⟩ (.slice (some ⟨gg,0,none⟩) (fkids.length+1) cap3);have hfr4:=frames_put hfr HL.out.1 (.slice (some ⟨gg,0,none⟩) (fkids.length+1) cap3);have ho4:=ho3.kept hG1 (.inr fun e=>hgne (Option.some.inj e));have hG2:=grownBy_puts [.int .i64 tk,.string ⟨tt.toArray⟩,.int .i64 tn,.int .i64 td,.bool ti,.bool tid,.slice none 0 0] (w3.setCell ⟨gs,n*7+6,none⟩ (.slice (some ⟨gg,0,none⟩) (fkids.length+1) cap3)) gg (fkids.length*7);have hkid5:=owns_puts [.int .i64 tk,.string ⟨tt.toArray⟩,.int .i64 tn,.int .i64 td,.bool ti,.bool tid,.slice none 0 0] (fkids.length*7) (w3.setCell ⟨gs,n*7+6,none⟩ (.slice (some ⟨gg,0,none⟩) (fkids.length+1) cap3)) _ _ ho4 (flat_length vcells_length _) rfl (by simp;omega)
              have hfr5:=hfr4.kept hG2 (.inr fun e=>hgne (Option.some.inj e).symm);have HPUT:=Lib.hid (Sk.put (k:=.mk ⟨tk,tt,(tn,td),ti,tid⟩ none 0 0 0 []) HK2.out HL.out.1 ⟨1,fun w' _ _=>⟨HT.out,by simp,⟨rfl,Nat.le_refl _,Nat.zero_le _,fun h=>absurd h (by simp),fun j v h=>by simp at h⟩,fun i x h=>by simp at h⟩⟩ hgm hg3 hat rfl hwB hG1 hG2 (Or.inl rfl) (Or.inr rfl) hfr5 hkid5);clear hG1 hG2 hfr4 hfr5 hgm hg3 hat ho3 hfr hgne ho4 hkid5 q1 q2 z0 z1 z2 z3 z4 z5 z6 y0 y1 y2 y3 y4 y5 y6;simp only[puts]at HPUT;generalize World.setCell _ _ _=w5 at *;go_wp2_with fail
              go_roundg (N-(i+1))
              case measure=>omega
              case rel =>
               refine⟨i+1,R++[⟨ft,.slice (some ⟨gg,0,none⟩) (fkids.length+1) cap3,fkids++[.mk ⟨tk,tt,(tn,td),ti,tid⟩ none 0 0 0 []]⟩],gs,c,L,by go_num,rfl,Lib.hid ⟨by rw[List.length_append,List.length_singleton,HL.out.1,HL.out.2.1],by simp,by have:=HL.out;omega⟩,Lib.hid (by rw[← HL.out.2.1];exact HPUT.out.1),Lib.hid ?_,Lib.hid (hb2.out.trans HPUT.out.2),hi,Nat.le_refl _⟩;rw[HF.out,skC_top,skC_top,stepV_cons,if_neg HNOT.out,if_neg (by rw[HO.out];simp),List.map_append];rfl
        · have gO:(closeF tk != 0)=true:=by simpa using hO
          have HO:=Lib.hid hO;clear hO;go_wp2_with fail;go_wp2_with fail
          ((with_reducible refine(closer_same tk _).mono ?_);rintro e w' ⟨rfl,rfl⟩)
          have hk2:=hK2.out;have hrowP:=hk2.row;rw[List.length_append,List.length_singleton,HL.out.1,HL.out.2.1]at hrowP;have HK2:=Lib.hid hk2;have HRW:=Lib.hid hrowP;clear hk2 hrowP hK2;go_wp2_with (at_builtin;refine wpList_add elFrame rfl _ _ rfl rfl (HRW.out.alloc _) (by simp;omega) (Blk.new wc _ _) 1 rfl rfl (by simp[Value.oneCell']) (by omega) (by omega) ?_;intro gg cap3 w3 ho3 hg3 hat hvb;have H3:=Lib.hid (And.intro ho3 (And.intro hg3 (And.intro hat hvb)));clear ho3 hg3 hat hvb)
          go_roundg (N-(i+1))
          case measure=>omega
          case rel =>
           obtain⟨ho3,hg3,hat,hvb⟩:=H3.out
           have hl1:(R++[f]).length=L:=by rw[List.length_append,List.length_singleton,HL.out.1,HL.out.2.1]
           have hgc:=grownBy_trans (World.grownBy_alloc wc _ _) hg3;have hop:=HK2.out.open (t:=⟨tk,tt,(tn,td),ti,tid⟩) (vs':=.slice (some ⟨gg,0,none⟩) (L+1) cap3) (gg:=gg) HT.out rfl (hat.imp id fun e=>by rw[e];simp) hgc (by rw[hl1];exact ho3);refine⟨i+1,_,gg,cap3,L+1,by go_num,rfl,Lib.hid ⟨by rw[List.length_append,hl1];rfl,by simp,by have:=HL.out;omega⟩,Lib.hid (hop.mono (by omega)),Lib.hid ?_,Lib.hid (hb2.out.trans (Below.grown (Below.refl B wc) hgc hwB (fun k hk=>(HRW.out.lt k hk).1))),hi,Nat.le_refl _⟩;rw[HF.out,skC_top,skC_top,stepV_cons,if_neg HNOT.out,if_pos HO.out];rfl
   · obtain rfl:i=N:=by omega
     have gi:decide ((i:Int)<(i:Int))=false:=by simp
     have gin:decide (i<i)=false:=by simp
     go_wp2_with fail;go_meet
     case rel=>exact⟨S,gs,c,L,rfl,hL,hK,Lib.hid (by rw[hC.out,← HX.out,← HN.out,List.take_length]),hb⟩
 case rest =>
  obtain⟨S,gs,c,L,rfl,hL,hK,hC,hb⟩:=hcut;obtain⟨hL1,hL2,hL3⟩:=hL.out
  have HZ:=Lib.hid (show Y=match closeV L (skC S) with
   | (_,k)::_=>k
   | []=>[] by rw[HXY.out,hC.out,← hL1,← skC_length,hC.out])
  have HL0:=Lib.hid hL1;have HS0:=Lib.hid hL2;clear hL hL1 hL2 hC HK0 HB0 HXY HX
  go_upto_block 2 with fail
  go_cut [3] (fun s wx=>∃ (f:Fm) (gs c:Nat),s=.slice (some ⟨gs,0,none⟩) 1 c∧Hid (∃ K,K≤N+N+2∧Sk B wx (.slice (some ⟨gs,0,none⟩) 1 c) [f] K)∧Hid (Y=f.kids.map Vl.c)∧Hid (Below B w wx))
  case first =>
   go_wp2_with fail
   go_loopg [3] L (fun q s3 wr=>∃ (S:List Fm) (gs c M:Nat),s3=.slice (some ⟨gs,0,none⟩) M c∧Hid (S.length=M∧S≠[])∧Hid (Sk B wr (.slice (some ⟨gs,0,none⟩) M c) S (N+L-M))∧Hid (∃ m,M≤m+1∧Y=match closeV m (skC S) with
    | (_,k)::_=>k
    | []=>[])∧Hid (Below B w wr)∧M≤L∧M≤q)
   case atStart=>exact⟨S,gs,c,L,rfl,Lib.hid ⟨HL0.out,HS0.out⟩,Lib.hid (hK.out.mono (by omega)),Lib.hid ⟨L,by omega,HZ.out⟩,hb,Nat.le_refl _,Nat.le_refl _⟩
   case round =>
    clear HZ HL0 HS0 hK hb;obtain⟨S,gs,c,M,rfl,hM,hK,hZ,hb,hML,hq⟩:=hrel
    by_cases h2:2≤M
    · have g1:decide ((1:Int)<(M:Int))=true:=by simp;omega
      have g1n:decide (1<M)=true:=by simp;omega
      obtain⟨R0,f,rfl⟩:=last_of hM.out.2;obtain⟨R,p,rfl⟩:=last_of (S:=R0) (fun e=>by have:=hM.out.1;rw[e]at this;simp at this;omega);obtain⟨n',hn'⟩:∃ n',R.length=n':=⟨_,rfl⟩
      have hMM:n'+2=M:=by have:=hM.out.1;simp at this;omega
      have hsh:=shut_any B (N+L-M) n' R p f gs c wr hn' (by rw[hMM];exact hK.out) (by have:=hb.out.size;have:=HB.out;omega) (by omega);rw[hMM]at hsh;have HSH:=Lib.hid hsh;clear hsh;go_wp2_with fail
      ((with_reducible refine HSH.out.mono ?_);rintro e w2 ⟨rfl,⟨v',kd,hsk,hkc⟩,hbb⟩)
      have H2:=Lib.hid (And.intro hsk (And.intro hkc hbb));clear hsk hkc hbb HSH;go_wp2_with fail
      go_roundg (M-1)
      case measure=>omega
      case rel =>
       obtain⟨hsk,hkc,hbb⟩:=H2.out;obtain⟨m,hm,hY⟩:=hZ.out;obtain⟨m,rfl⟩:∃ m',m=m'+1:=⟨m-1,by omega⟩;refine⟨R++[⟨p.t,v',p.kids++[kd]⟩],gs,c,n'+1,rfl,Lib.hid ⟨by rw[List.length_append,hn'];rfl,by simp⟩,Lib.hid (hsk.mono (by omega)),Lib.hid ⟨m,by omega,?_⟩,Lib.hid (hb.out.trans hbb),by omega,by omega⟩;rw[hY,closeV,if_pos (by rw[skC_length];simp),shutF_sk,skC_top,← hkc,List.map_append];rfl
    · have g1:decide ((1:Int)<(M:Int))=false:=by simp;omega
      have g1n:decide (1<M)=false:=by simp;omega
      obtain⟨R0,f,rfl⟩:=last_of hM.out.2;have hR0:R0=[]:=List.eq_nil_of_length_eq_zero (by have:=hM.out.1;simp at this;omega);subst hR0
      obtain rfl:M=1:=by have:=hM.out.1;simp at this;omega
      go_wp2_with fail;go_meet
      case rel =>
       obtain⟨m,hm,hY⟩:=hZ.out;refine⟨f,gs,c,rfl,Lib.hid ⟨_,by omega,hK.out⟩,Lib.hid ?_,hb⟩;rw[hY]
       cases m with
       | zero=>rfl
       | succ m=>rw[closeV,if_neg (by rw[skC_length];simp)];rfl
  case rest =>
   obtain⟨f,gs,c,rfl,hK,hY,hb⟩:=hcut;obtain⟨K,hKl,hk⟩:=hK.out;have hrow:=hk.row;have hcell:wc.cell? ⟨gs,6,none⟩=some f.v:=owns_cell hrow rfl;have hkf:=hk.kid f (List.mem_singleton.2 rfl);have hlf:=hk.len f (List.mem_singleton.2 rfl);obtain⟨h0,hsf⟩:=hk.safe
   have hne:=fun e=>owns_apart hkf hrow (by decide) e (g:=gs) rfl
   obtain⟨ft,fv,fkids⟩:=f;simp only at hkf hlf hcell hsf hne;obtain⟨poa,pc,pg,rfl,hsl,hpos⟩:=sl_of_own hkf;have HV:=Lib.hid (show isVs (· < B) h0 Y (.slice poa fkids.length pc) wc from ⟨poa,pc,pg,0,fkids,rfl,hY.out.symm,VsIn.made (by omega) hsl (fun h e=>by have:=hpos h;omega) ((hsf.anti fun b hb _=>Or.inl hb).mono fun _ hw x hx=>hw _ (List.mem_singleton.2 rfl) x hx)⟩);clear hrow hkf hsf hk hK hsl hpos hne;generalize fkids.length=k at *;go_wp2_with fail;go_ret;exact⟨⟨_,rfl,h0,HV.out⟩,hb.out⟩
def Lf.t (l:Lf):Lt:=⟨l.kind,l.truth,l.name.data.toList,l.op,l.ex.c,l.word.data.toList,l.value.data.toList,l.any⟩
mutual
def Cd.t:Cd→Ct
 | .mk k _ _ _ _ kids leaf=>.mk k (Cd.ts kids) leaf.t
def Cd.ts:List Cd→List Ct
 | []=>[]
 | x::r=>x.t::Cd.ts r
end
theorem Cd.ts_map:∀ l:List Cd,Cd.ts l=l.map Cd.t
 | []=>rfl
 | x::r=>by rw[Cd.ts,Cd.ts_map r];rfl
theorem Cd.t_mk (k:Int) (oa:Option Addr) (b o cap:Nat) (kids:List Cd) (leaf:Lf):(Cd.mk k oa b o cap kids leaf).t=.mk k (kids.map Cd.t) leaf.t:=by rw[Cd.t,Cd.ts_map]
theorem ccells_len (x:Cd):(ccells x).length=14:=by
 obtain⟨k,oa,b,o,cap,kids,⟨k2,t,n,op,⟨a0,a1,a2,a3,a4,a5,a6,a7,a8⟩,w,v,a⟩⟩:=x;rfl
theorem cd_up:∀ (h h':Nat) {w:World} {e:Cd},h≤h'→CdIn w h e→CdIn w h' e:=CdIn.mono
theorem LfIn.mk {w:World} {h:Nat} {l:Lf} (h1:I64 l.kind) (h2:I64 l.truth) (h3:I64 l.op) (hx:ExIn w h l.ex):LfIn w h l:=⟨h1,h2,h3,hx⟩
theorem cdin_made {A:Nat→Prop} {w:World} {h:Nat} {k:Int} {L:Lf} {oa:Option Addr} {b cap:Nat} {l:List Cd} (hk:I64 k) (hl:l.length*8≤140737488355328) (hs:Sl w oa l.length cap b 0 14 (l.flatMap ccells)) (hA:0<l.length→¬ A b)
  (hL:Safe A w fun w=>LfIn w h L) (he:Safe A w fun w=>∀ x∈l,CdIn w h x):Safe A w fun w=>CdIn w (h+1) (.mk k oa b 0 cap l L):=fun w' g1 g2=>by
 have hs':=(hs.safe hA) w' g1 g2;have he':=he w' g1 g2;refine⟨hk,hL w' g1 g2,hs'.le,hs'.max,hl,hs'.lies,fun i x hi=>⟨fun j v hv=>?_,he' x (List.mem_of_getElem? hi)⟩⟩;have:=hs'.cell _ _ (flat_at ccells_len l i x j v hi hv);rw[show 0+i*14+j=0+(i*14+j) by omega];exact this
def isCd (A:Nat→Prop) (C:Ct) (v:Value) (w:World):Prop:=∃ (x:Cd) (h:Nat),v=cv x∧x.t=C∧Safe A w fun w=>CdIn w h x
theorem isCd.anti {A A':Nat→Prop} {C:Ct} {v:Value} {w:World} (h:isCd A C v w) (hA:∀ b,A' b→A b∨w.heap.size≤b):isCd A' C v w:=by
 obtain⟨x,hh,hv,hc,hs⟩:=h;exact⟨x,hh,hv,hc,hs.wide hA⟩
theorem isCd.grown {A:Nat→Prop} {C:Ct} {v:Value} {w w':World} {row:Option Nat} (h:isCd A C v w) (hg:w.grownBy w' row) (hr:∀ k,row=some k→k<w.heap.size→A k):isCd A C v w':=by
 obtain⟨x,hh,hv,hc,hs⟩:=h;exact⟨x,hh,hv,hc,hs.grown hg hr⟩
theorem isCd.below {A:Nat→Prop} {C:Ct} {v:Value} {w w':World} (h:isCd A C v w) (hb:Below w.heap.size w w'):isCd A C v w':=h.grown (grownBy_of_below hb none) (fun _ e=>by cases e)
structure L12 where
 k:Int
 t:Int
 n:ByteArray
 op:Int
 e0:Int
 e1:Int
 e2:Int
 e3:Int
 ea:Option Addr
 en:Nat
 ec:Nat
 w:ByteArray
 v:ByteArray
 a:Bool
def lcell12 (L:L12):List Value:=[.int .i64 L.k,.int .i64 L.t,.string L.n,.int .i64 L.op,.int .i64 L.e0,.int .i64 L.e1,.int .i64 L.e2,.int .i64 L.e3,.slice L.ea L.en L.ec,.string L.w,.string L.v,.bool L.a]
theorem lcells_12 (l:Lf):∃ L:L12,lcells l=lcell12 L:=by
 obtain⟨k2,t,n,op,⟨a0,a1,a2,a3,a4,a5,a6,a7,a8⟩,w,v,a⟩:=l;exact⟨⟨k2,t,n,op,a0,a1,a2,a3,a4,a8.length,a7,w,v,a⟩,rfl⟩
theorem isCd.cells {A:Nat→Prop} {C:Ct} {v:Value} {w:World} (h:isCd A C v w):∃ (k:Int) (oa:Option Addr) (n cap:Nat) (L:L12),v=.agg (.int .i64 k::.slice oa n cap::lcell12 L).toArray:=by
 obtain⟨⟨k,oa,b,o,cap,kids,lf⟩,hh,rfl,hc,hs⟩:=h;obtain⟨L,hL⟩:=lcells_12 lf;refine⟨k,oa,kids.length,cap,L,?_⟩;rw[← hL];rfl
theorem leaf_cd {A:Nat→Prop} {w:World} {E:Et} {x:Ex} {hx:Nat} (k t:Int) (n:ByteArray) (op:Int) (wd vl:ByteArray) (an:Bool) (h1:I64 k) (h2:I64 t) (h3:I64 op) (hc:x.c=E) (hs:Safe A w fun w=>ExIn w hx x) :
  isCd A (leafC ⟨k,t,n.data.toList,op,E,wd.data.toList,vl.data.toList,an⟩) (cv (.mk 4 none 0 0 0 [] ⟨k,t,n,op,x,wd,vl,an⟩)) w :=
 ⟨.mk 4 none 0 0 0 [] ⟨k,t,n,op,x,wd,vl,an⟩,hx+1,rfl,by rw[Cd.t_mk];unfold Lf.t;simp only[hc];rfl,
   cdin_made (i64_small _ (by decide)) (by simp) ⟨rfl,Nat.le_refl _,Nat.zero_le _,fun h=>absurd h (by simp),fun j v h=>by simp at h⟩ (fun h=>absurd h (by simp))
    (hs.mono fun w h=>LfIn.mk h1 h2 h3 h) (fun _ _ _ x hx=>by cases hx)⟩
theorem zero_cd (A:Nat→Prop) (w:World):isCd A zeroCt (cv (.mk 0 none 0 0 0 [] zeroLf)) w:=by
 refine⟨.mk 0 none 0 0 0 [] zeroLf,2,rfl,by rw[Cd.t_mk];rfl,?_⟩;refine cdin_made (h:=1) (i64_small _ (by decide)) (by simp) ⟨rfl,Nat.le_refl _,Nat.zero_le _,fun h=>absurd h (by simp),fun j v h=>by simp at h⟩ (fun h=>absurd h (by simp)) ?_ (fun _ _ _ x hx=>by cases hx)
 exact(ExIn.leaf (A:=A) (k:=0) (n:=0) (d:=0) (u:=0) (i64_small _ (by decide)) (by unfold Is64;decide) (i64_small _ (by decide))).mono fun w h=>LfIn.mk (i64_small _ (by decide)) (i64_small _ (by decide)) (i64_small _ (by decide)) h
end Go.Proofs.YtchhhhaeiiildaaGreatDoor
namespace Go.Proofs.YtchhhhaeiiildaaGreatDoor
set_option linter.unusedVariables false
set_option linter.unusedSimpArgs false
def cnT:List UInt8:=[98,32,40,119,105,100,116,104,32,62,32,49,48,101,109,41]
def cnK:List Tk:=[⟨1,[119,105,100,116,104],(0,0),false,false⟩,⟨13,[],(0,0),false,false⟩,⟨9,[62],(0,0),false,false⟩,⟨13,[],(0,0),false,false⟩,⟨12,[101,109],(10,1),true,false⟩]
def cnV:Vt:=.mk ⟨21,[],(0,0),false,false⟩ (cnK.map fun t=>.mk t [])
def csp:Tk:=⟨13,[],(0,0),false,false⟩
def cbt:Tk:=⟨1,[98],(0,0),false,false⟩
theorem cn_tokens:bytesF cnT=[cbt,csp,⟨21,[],(0,0),false,false⟩]++cnK++[⟨22,[],(0,0),false,false⟩]:=by decide +kernel
theorem cn_values:valuesF (bytesF cnT)=[.mk cbt [],.mk csp [],cnV]:=by
 rw[cn_tokens];rfl
theorem cn_may1:mayV 64 [cnV]=true:=by
 simp[cnV,cnK,mayV,closeF]
theorem cn_may2:mayV 64 [.mk csp [],cnV]=true:=by
 simp[cnV,cnK,mayV,closeF,csp]
theorem cn_may:mayV 64 [.mk cbt [],.mk csp [],cnV]=true:=by
 simp[cnV,cnK,mayV,closeF,cbt,csp]
theorem cn_feat:featN (exH 1) cnV true=some (cmpC widthS 5 (.mk 1 10 1 2 [])):=by
 have h:=cn_may1;unfold cnV at h ⊢;unfold featN
 dsimp only
 rw[h,if_neg (by decide),if_neg (by decide +kernel)]
 have e:plainN (exH 1) (trimV (cnK.map fun t=>.mk t [])) true=none:=by kernel_rfl
 rw[e];show betweenN (exH 1) (trimV (cnK.map fun t=>Vt.mk t [])) true=some (cmpC widthS 5 (.mk 1 10 1 2 []))
 kernel_rfl
end Go.Proofs.YtchhhhaeiiildaaGreatDoor
