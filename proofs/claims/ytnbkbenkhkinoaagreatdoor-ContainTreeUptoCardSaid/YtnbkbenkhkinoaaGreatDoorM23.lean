/- Of my texts: Copied, Stack, DmB. -/
import Derived.Test.YtnbkbenkhkinoaaGreatDoorM08
import Derived.Test.YtnbkbenkhkinoaaGreatDoorM21
import Derived.Test.YtnbkbenkhkinoaaGreatDoorM22
import Derived.Laws.ResultCell
import Derived.Deep.AppendLies
namespace Go.Proofs.YtnbkbenkhkinoaaGreatDoor
set_option linter.unusedVariables false
set_option linter.unusedSimpArgs false
open Go.RowKit
theorem spL_c (v:Vl):spV v.c=spL v:=by
 obtain⟨t,oa,b,o,cap,kids⟩:=v;rw[Vl.c_mk];rfl
theorem drop_c:∀ l:List Vl,(l.map Vl.c).dropWhile spV=(l.dropWhile spL).map Vl.c
 | []=>rfl
 | x::r=>by
   rw[List.map_cons]
   cases h:spL x with
   | true=>rw[List.dropWhile_cons_of_pos (by rw[spL_c];exact h),List.dropWhile_cons_of_pos h,drop_c r]
   | false=>rw[List.dropWhile_cons_of_neg (by rw[spL_c,h];simp),List.dropWhile_cons_of_neg (by simp[h])];rfl
theorem trim_c (l:List Vl):(trimL l).map Vl.c=trimV (l.map Vl.c):=by
 unfold trimL trimV frontV backL frontL;rw[List.map_reverse,← drop_c,List.map_reverse,drop_c]
theorem elVal:El 86 104 (.agg #[.int .i64 0,.string ⟨#[]⟩,.int .i64 0,.int .i64 0,.bool false,.bool false,.slice none 0 0]) 7 72:=⟨Tryz.underlying86,by kernel_rfl,rfl,by decide⟩
def isVs (A:Nat→Prop) (h:Nat) (X:List Vt) (v:Value) (w:World):Prop:=∃ (oa:Option Addr) (cap b o:Nat) (l:List Vl),v=.slice oa l.length cap∧l.map Vl.c=X∧Safe A w fun w=>VsIn w h oa cap b o l
theorem isVs_stays (A:Nat→Prop) (h:Nat) (X:List Vt):∀ v w1 w2,isVs A h X v w1→Below w1.heap.size w1 w2→isVs A h X v w2:=fun _ _ _ ⟨oa,cap,b,o,l,hv,hc,hs⟩ hb=>⟨oa,cap,b,o,l,hv,hc,hs.below hb⟩
theorem isVs.anti {A A':Nat→Prop} {h:Nat} {X:List Vt} {v:Value} {w:World} (hv:isVs A h X v w) (hA:∀ b,A' b→A b∨w.heap.size≤b):isVs A' h X v w:=by
 obtain⟨oa,cap,b,o,l,hv,hc,hs⟩:=hv;exact⟨oa,cap,b,o,l,hv,hc,hs.wide hA⟩
def isV1 (A:Nat→Prop) (h:Nat) (t:Tk) (X:List Vt) (v:Value) (w:World):Prop:=∃ s,isVs A h X s w∧v=.agg (tkcells t++[s]).toArray
theorem isV1_stays (A:Nat→Prop) (h:Nat) (t:Tk) (X:List Vt):∀ v w1 w2,isV1 A h t X v w1→Below w1.heap.size w1 w2→isV1 A h t X v w2:=fun _ _ _ ⟨s,hv,e⟩ hb=>⟨s,isVs_stays A h X s _ _ hv hb,e⟩
def isVc (A:Nat→Prop) (h:Nat) (t:Tk) (X:List Vt) (cs:Array Value) (w:World):Prop:=∃ s,isVs A h X s w∧cs=(tkcells t++[s]).toArray
theorem isVc_stays (A:Nat→Prop) (h:Nat) (t:Tk) (X:List Vt):∀ v w1 w2,isVc A h t X v w1→Below w1.heap.size w1 w2→isVc A h t X v w2:=fun _ _ _ ⟨s,hv,e⟩ hb=>⟨s,isVs_stays A h X s _ _ hv hb,e⟩
set_option maxRecDepth 20000 in
set_option maxHeartbeats 4000000 in
theorem copied_any:∀ (h:Nat) (l:List Vl) (oa:Option Addr) (cap b o:Nat) (w:World),VsIn w h oa cap b o l →
  Calls Tryz.prog 66 #[.slice oa l.length cap] w fun e w'=>(∃ v,e=.returned v∧isVs (· < w.heap.size) h (l.map Vl.c) v w')∧Below w.heap.size w w':=by
 intro h
 induction h with
 | zero =>
   intro l oa cap b o w hs
   have hl:l=[]:=by
    cases l with
    | nil=>rfl
    | cons x r=>exact(hs.each 0 x rfl).elim
   subst hl
   go_enter Tryz.func66,Tryz.ntmps66
   go_wp2_with fail
   go_loopg [3,8] 0 (fun q s3 s wr=>s3=.slice none 0 0∧s=.int .i64 0∧wr=w)
   case atStart=>exact⟨rfl,rfl,rfl⟩
   case round =>
    obtain⟨rfl,rfl,rfl⟩:=hrel;go_wp2_with fail;go_ret;exact⟨⟨_,rfl,none,0,0,0,[],rfl,rfl,VsIn.made (by simp) ⟨rfl,Nat.le_refl _,Nat.zero_le _,fun h=>absurd h (by simp),fun j v h=>by simp at h⟩ (fun h=>absurd h (by simp)) (fun w' _ _ x hx=>by cases hx)⟩,Below.refl _ _⟩
 | succ h ih =>
   intro l oa cap b o w hs;obtain⟨N,hN⟩:∃ N,l.length=N:=⟨_,rfl⟩;rw[hN];have hsm:=hs.small;have hcm:=hs.sl.max;have hcl:=hs.sl.le;unfold maxLen at hcm;rw[hN]at hsm hcl;have HS:=Lib.hid hs;have HN:=Lib.hid hN;have HIH:=Lib.hid ih;clear hs hN ih
   go_enter Tryz.func66,Tryz.ntmps66
   go_wp2_with fail
   go_loopg [3,8] N (fun q s3 s wr=>∃ (i:Nat) (v:Value) (D:List Vl),s=.int .i64 i∧v=s3∧Hid (Below w.heap.size w wr)∧Hid (wr.ownsRow w.heap.size 104 7 v i (D.flatMap vcells))∧Hid (D.length=i∧D.map Vl.c=(l.take i).map Vl.c)∧Hid (Safe (fun b=>b<w.heap.size∨v.ownBlock=some b) wr fun w=>∀ x∈D,VlIn w (h+1) x)∧i≤N∧N-i≤q)
   case atStart=>exact⟨0,_,[],rfl,rfl,Lib.hid (Below.refl _ _),Lib.hid (World.ownsRow_nil _ _ _ _),Lib.hid ⟨rfl,rfl⟩,Lib.hid (fun w' _ _ x hx=>by cases hx),Nat.zero_le _,by omega⟩
   case round =>
    obtain⟨i,v,D,rfl,rfl,hb,hO,hD,hS,hiN,hq⟩:=hrel
    by_cases hi:i<N
    · have gi:decide ((i:Int)<(N:Int))=true:=by simpa using hi
      have gin:decide (i<N)=true:=by simpa using hi
      have hil:i<l.length:=by rw[HN.out];exact hi
      have hli:l[i]?=some l[i]:=List.getElem?_eq_getElem hil;have hs2:=HS.out.below hb.out;obtain⟨rfl,hbl⟩:=hs2.sl.lies (by omega);have hkid:=HS.out.each i _ hli
      have htk:(l.take (i+1)).map Vl.c=(l.take i).map Vl.c++[l[i].c]:=by rw[List.take_succ_eq_append_getElem hil,List.map_append];rfl
      obtain⟨x,hx⟩:∃ x,l[i]=x:=⟨_,rfl⟩;rw[hx]at hli hkid htk;obtain⟨t,koa,kb,ko,kcap,kids⟩:=x;have f0:=hs2.cell hli (j:=0) rfl;have f1:=hs2.cell hli (j:=1) rfl;have f2:=hs2.cell hli (j:=2) rfl;have f3:=hs2.cell hli (j:=3) rfl;have f4:=hs2.cell hli (j:=4) rfl;have f5:=hs2.cell hli (j:=5) rfl;have f6:=hs2.cell hli (j:=6) rfl;rw[Nat.add_zero]at f0;have HX:=Lib.hid (fun wx hb=>HIH.out kids koa kcap kb ko wx (VsIn.below (w':=wx) hkid.kids hb));have HT64:=Lib.hid hkid.1;rw[Vl.c_mk]at htk;have HTK:=Lib.hid htk;obtain⟨tk,tt,⟨tn,td⟩,ti,tid⟩:=t;obtain⟨KX,hKX⟩:∃ X,kids.map Vl.c=X:=⟨_,rfl⟩;have hx2:=HX.out;have htk2:=HTK.out;rw[hKX]at hx2 htk2;have HX:=Lib.hid hx2;have HTK:=Lib.hid htk2;clear hs2 hli hx hkid htk hx2 htk2 hKX;generalize kids.length=K at *
      go_upto_region 5 with fail
      have hbv:=Lib.hid (hb.out.alloc hb.out.size (.cells #[.int .i64 tk,.string ⟨tt.toArray⟩,.int .i64 tn,.int .i64 td,.bool ti,.bool tid,.slice koa K kcap] 104));have hkd:=Blk.new wr 104 #[.int .i64 tk,.string ⟨tt.toArray⟩,.int .i64 tn,.int .i64 td,.bool ti,.bool tid,.slice koa K kcap];have hOv:=Lib.hid (hO.out.alloc (.cells #[.int .i64 tk,.string ⟨tt.toArray⟩,.int .i64 tn,.int .i64 td,.bool ti,.bool tid,.slice koa K kcap] 104));have hSv:=Lib.hid (hS.out.alloc (.cells #[.int .i64 tk,.string ⟨tt.toArray⟩,.int .i64 tn,.int .i64 td,.bool ti,.bool tid,.slice koa K kcap] 104));clear f0 f1 f2 f3 f4 f5 f6 hb hO hS;generalize hgg:wr.heap.size=g at *;generalize wr.alloc _=wv at *;have hwv:=hbv.out.size;have ck0:wv.cell? ⟨g,0,none⟩=some (.int .i64 tk):=(hkd).cell 0;have fck0:=(hkd).frozen 0;have ck1:wv.cell? ⟨g,1,none⟩=some (.string ⟨tt.toArray⟩):=(hkd).cell 1;have fck1:=(hkd).frozen 1
      have ck2:wv.cell? ⟨g,2,none⟩=some (.int .i64 tn):=(hkd).cell 2;have fck2:=(hkd).frozen 2;have ck3:wv.cell? ⟨g,3,none⟩=some (.int .i64 td):=(hkd).cell 3;have fck3:=(hkd).frozen 3;have ck4:wv.cell? ⟨g,4,none⟩=some (.bool ti):=(hkd).cell 4;have fck4:=(hkd).frozen 4;have ck5:wv.cell? ⟨g,5,none⟩=some (.bool tid):=(hkd).cell 5;have fck5:=(hkd).frozen 5;have ck6:wv.cell? ⟨g,6,none⟩=some (.slice koa K kcap):=(hkd).cell 6;have fck6:=(hkd).frozen 6;have lck:=(hkd).lt;refine wp_region_loose 8 [Loose.fw 5 17 (isVs (· < wv.heap.size) h KX) (isVs_stays _ _ _),Loose.fw 6 18 (isV1 (· < wv.heap.size) h ⟨tk,tt,(tn,td),ti,tid⟩ KX) (isV1_stays _ _ _ _),Loose.rw 7 19 104 1 wv.heap.size (isVc (· < wv.heap.size) h ⟨tk,tt,(tn,td),ti,tid⟩ KX) (isVc_stays _ _ _ _)] (by kernel_rfl) rfl (by kernel_rfl) (by kernel_rfl) (by kernel_rfl) (by kernel_rfl) ?_
      simp only[headL,hushL,List.find?,Loose.claim_i,Loose.cells_i,Loose.rowL_i,Loose.claim_hush,Loose.cells_hush,Loose.rowL_hush,Loose.val_i,Loose.rowS_i,Loose.val_hush,Loose.rowS_hush,Loose.fw_i,Loose.fw_hush,Loose.rw_i,Loose.rw_hush,Nat.reduceBEq,Nat.reduceAdd]
      repeat (go_big_quiet_step (fail))
      refine wpQuiet_nil ⟨fun V m=>?_,fun V m=>?_⟩
      · simp only[obs_cons,obs_nil,List.getElem?_cons_zero,List.getElem?_cons_succ,fill_nil,fill_claim,fill_cells,fill_rowL,Loose.claim_i,Loose.cells_i,Loose.rowL_i,Act.put,List.setIfInBounds_toArray,List.set_cons_zero,List.set_cons_succ,fill_val,fill_rowS,Loose.val_i,Loose.rowS_i,fill_fw,Loose.fw_i,fill_rw,Loose.rw_i];refine⟨fun _=>?_,fun hw=>?_,fun hw=>?_,trivial⟩
        · go_wp2_with fail
          ((with_reducible refine(HX.out _ (below_grow hbv.out m)).mono ?_);rintro e w2 ⟨⟨v5,rfl,hv5⟩,hbw⟩)
          have HV5:=Lib.hid hv5;clear hv5;go_wp2_with fail;exact post_fw rfl (HV5.out.anti fun b hb=>Or.inl (Nat.lt_of_lt_of_le hb (grow_size m))) hbw
        · obtain⟨h5,_⟩:=hw;obtain⟨oa2,cap2,b2,o2,l2,hv,hc2,hs2⟩:=h5 (by kernel_rfl);have H5:=Lib.hid (And.intro hc2 hs2);change V 5=_ at hv;rw[hv];clear hv h5 hc2 hs2;go_wp2_with fail;exact post_fw rfl ⟨_,⟨oa2,cap2,b2,o2,l2,rfl,H5.out.1,H5.out.2⟩,rfl⟩ (Below.refl _ _)
        · obtain⟨_,h6,_⟩:=hw;obtain⟨s,⟨oa2,cap2,b2,o2,l2,rfl,hc2,hs2⟩,hv⟩:=h6 (by kernel_rfl);have H5:=Lib.hid (And.intro hc2 hs2);change V 6=_ at hv;rw[hv];clear hv h6 hc2 hs2;simp only[tkcells,List.cons_append,List.nil_append];go_wp2_with fail;exact post_rw rfl (grow_size m) ⟨_,⟨oa2,cap2,b2,o2,l2,rfl,H5.out.1,H5.out.2⟩,rfl⟩
      · simp only[laws_nil,laws_claim,laws_cells,laws_rowL,laws_val,laws_rowS,laws_fw,laws_rw,dist_nil,dist_claim,dist_cells,dist_rowL,dist_val,dist_rowS,dist_fw,dist_rw,dist1_nil,dist1_claim,dist1_cells,dist1_rowL,dist1_val,dist1_fw,dist1_cells_rowL,dist1_rowL_cells,List.drop_succ_cons,List.drop_zero,and_true,fill_nil,fill_claim,fill_cells,fill_rowL,Loose.claim_i,Loose.cells_i,Loose.rowL_i,Act.put,List.setIfInBounds_toArray,List.set_cons_zero,List.set_cons_succ,fill_val,fill_rowS,Loose.val_i,Loose.rowS_i,fill_fw,Loose.fw_i,fill_rw,Loose.rw_i];rintro⟨_,_,gb,cs,hv7,hgb,⟨s,⟨oa2,cap2,b2,o2,l2,rfl,hc2,hs2⟩,rfl⟩,hbk⟩ _;rw[hv7];have HC2:=Lib.hid (And.intro hc2 hs2);have hbq:=Lib.hid (below_grow hbv.out m);have hoq:=Lib.hid (owns_grow hOv.out m);have HVL:=Lib.hid (fun k hk=>(hOv.out.lt k hk).2);have hsq:=Lib.hid (hSv.out.grow m);have hgq:=grow_size m
        have hln:(D++[Vl.mk ⟨tk,tt,(tn,td),ti,tid⟩ oa2 b2 o2 cap2 l2]).length=i+1:=by rw[List.length_append,hD.out.1];rfl
        have hcn:(D++[Vl.mk ⟨tk,tt,(tn,td),ti,tid⟩ oa2 b2 o2 cap2 l2]).map Vl.c=(l.take (i+1)).map Vl.c:=by
         rw[List.map_append,hD.out.2,HTK.out];simp only[List.map_cons,List.map_nil,Vl.c_mk,hc2]
        have HDN:=Lib.hid (And.intro hln hcn);clear hv7 hc2 hs2 hbv hOv hSv hln hcn ck0 ck1 ck2 ck3 ck4 ck5 ck6 fck0 fck1 fck2 fck3 fck4 fck5 fck6 lck hkd HX;generalize grow wv m=wq at *;have hbs:=hbq.out.size;go_wp2_with (at_builtin;refine wpList_add elVal rfl _ _ rfl rfl hoq.out hbs hbk 1 rfl rfl (by simp[tkcells,Value.oneCell']) (by omega) (by omega) ?_;intro gg cap3 w3 ho3 hg3 hat hvb;have H3:=Lib.hid (And.intro ho3 (And.intro hg3 (And.intro hat hvb)));clear ho3 hg3 hat hvb);obtain⟨ho3,hg3,hat,hvb⟩:=H3.out
        have hsafe:Safe (fun b=>b<w.heap.size∨(Value.slice (some ⟨gg,0,none⟩) (i+1) cap3).ownBlock=some b) w3 fun w=>∀ x∈D++[Vl.mk ⟨tk,tt,(tn,td),ti,tid⟩ oa2 b2 o2 cap2 l2],VlIn w (h+1) x:=by
         have hA:∀ b,(b<w.heap.size∨v.ownBlock=some b∨b=gg)→(b<w.heap.size∨v.ownBlock=some b)∨wq.heap.size≤b:=fun b hb=>by
          rcases hb with hb|hb|rfl
          · exact Or.inl (Or.inl hb)
          · exact Or.inl (Or.inr hb)
          · rcases hat with hat|hat
            · exact Or.inl (Or.inr hat)
            · exact Or.inr (by omega)
         have h1:=(hsq.out.wide hA).grown hg3 (fun k hk _=>Or.inr (Or.inl hk))
         have hA2:∀ b,(b<w.heap.size∨v.ownBlock=some b∨b=gg)→(b<wv.heap.size)∨wq.heap.size≤b:=fun b hb=>by
          rcases hb with hb|hb|rfl
          · omega
          · exact Or.inl (HVL.out b hb)
          · rcases hat with hat|hat
            · exact Or.inl (HVL.out _ hat)
            · exact Or.inr (by omega)
         have h2:=((VlIn.made HT64.out HC2.out.2).wide hA2).grown hg3 (fun k hk _=>Or.inr (Or.inl hk))
         refine((h1.and h2).mono fun w' hw x hx=>?_).anti fun b hb _=>?_
         · rcases List.mem_append.1 hx with hx|hx
           · exact hw.1 x hx
           · obtain rfl:=List.mem_singleton.1 hx;exact hw.2
         · rcases hb with hb|hb
           · exact Or.inl hb
           · exact Or.inr (Or.inr (Option.some.inj hb).symm)
        go_roundg (N-(i+1))
        case measure=>omega
        case rel=>exact⟨i+1,_,D++[Vl.mk ⟨tk,tt,(tn,td),ti,tid⟩ oa2 b2 o2 cap2 l2],by go_num,rfl,Lib.hid (below_far hbq.out hg3 fun k hk=>(hvb k hk).1),Lib.hid (by have:=ho3;simpa[tkcells,vcells] using this),HDN,Lib.hid hsafe,hi,Nat.le_refl _⟩
    · obtain rfl:i=N:=by omega
      have gi:decide ((i:Int)<(i:Int))=false:=by simp
      have gin:decide (i<i)=false:=by simp
      obtain⟨voa,vcap,vg,rfl,hsl,hpos⟩:=sl_of_own hO.out;have HSL:=Lib.hid hsl;have HP:=Lib.hid hpos;clear hsl hpos;go_wp2_with fail;go_ret;refine⟨⟨_,rfl,voa,vcap,vg,0,D,by rw[hD.out.1];rfl,by rw[hD.out.2,← HN.out,List.take_length],VsIn.made (by rw[hD.out.1];exact hsm) (by rw[hD.out.1];exact HSL.out) (fun h=>by have:=HP.out (by rw[← hD.out.1];exact h);omega) (hS.out.anti fun b hb _=>Or.inl hb)⟩,hb.out⟩
set_option maxHeartbeats 1000000 in
theorem rtrim_any (h:Nat) (l:List Vl) (oa:Option Addr) (cap b o:Nat) (w:World) (hs:VsIn w h oa cap b o l) :
  Calls Tryz.prog 47 #[.slice oa l.length cap] w fun e w'=>(∃ v,e=.returned v∧isVs (· < w.heap.size) h (trimV (l.map Vl.c)) v w')∧Below w.heap.size w w':=by
 have HT:=Lib.hid (trimmed_any h l oa cap b o w hs);clear hs
 go_enter Tryz.func47,Tryz.ntmps47
 go_wp2_with fail
 ((with_reducible refine HT.out.mono ?_);rintro e w2 ⟨⟨oa',cap',o',rfl,hs⟩,hb⟩)
 have hC:=copied_any h (trimL l) oa' cap' b o' w2 hs;rw[trim_c]at hC;have HC:=Lib.hid hC;have HB:=Lib.hid hb;clear hs hC HT hb;generalize (trimL l).length=L at *;go_wp2_with fail
 ((with_reducible refine HC.out.mono ?_);rintro e w3 ⟨⟨v,rfl,hv⟩,hb2⟩)
 have HV:=Lib.hid (And.intro hv hb2);clear hv hb2;go_wp2_with fail;go_ret;exact⟨⟨_,rfl,HV.out.1.anti fun b hb=>Or.inl (Nat.lt_of_lt_of_le hb HB.out.size)⟩,HB.out.trans (HV.out.2.mono HB.out.size)⟩
def puts (w:World) (g:Nat):Nat→List Value→World
 | _,[]=>w
 | o,v::r=>puts (w.setCell ⟨g,o,none⟩ v) g (o+1) r
theorem grownBy_refl (w:World) (row:Option Nat):w.grownBy w row:=⟨rfl,rfl,rfl,Nat.le_refl _,fun _ _ _=>rfl⟩
theorem grownBy_puts:∀ (cs:List Value) (w:World) (g o:Nat),w.grownBy (puts w g o cs) (some g)
 | [],w,g,_=>grownBy_refl w _
 | v::r,w,g,o=>grownBy_trans (grownBy_set w ⟨g,o,none⟩ v) (grownBy_puts r _ g (o+1))
theorem puts_size:∀ (cs:List Value) (w:World) (g o:Nat),(puts w g o cs).heap.size=w.heap.size
 | [],_,_,_=>rfl
 | v::r,w,g,o=>(puts_size r _ g (o+1)).trans (by simp)
theorem owns_setAt {w:World} {base:Nat} {e:TypeId} {size n cap g:Nat} {xs:List Value} (h:w.ownsRow base e size (.slice (some ⟨g,0,none⟩) n cap) n xs) {i:Nat} (hi:i<n*size) (u:Value) :
  (w.setCell ⟨g,i,none⟩ u).ownsRow base e size (.slice (some ⟨g,0,none⟩) n cap) n (xs.set i u):=by
 rcases h.2 with ⟨h0,_⟩ | ⟨g',cap',cur,hv,hg,hc,h1,h2,h3,h4⟩
 · cases h0
 · obtain ⟨rfl,rfl⟩:g=g'∧cap=cap':=by
    injection hv with e1 _ e2
    injection e1 with e1
    injection e1 with e1
    exact⟨e1,e2⟩
   have hisz:i<cur.size:=by
    rw[h3];exact Nat.lt_of_lt_of_le hi (Nat.mul_le_mul_right size h1)
   refine⟨by rw[List.length_set];exact h.1,Or.inr ⟨g,cap,cur.setIfInBounds i u,rfl,hg,?_,h1,h2,by simpa using h3,?_⟩⟩
   · have hb:Blk w g e cur:=hc;exact hb.put i u
   · rw[Array.toList_setIfInBounds,List.take_set,h4]
theorem owns_puts {base:Nat} {e:TypeId} {size n cap g:Nat}:∀ (cs:List Value) (o:Nat) (w:World) (xs ys:List Value),w.ownsRow base e size (.slice (some ⟨g,0,none⟩) n cap) n (xs++ys)→xs.length=o→ys.length=cs.length→o+cs.length≤n*size →
  (puts w g o cs).ownsRow base e size (.slice (some ⟨g,0,none⟩) n cap) n (xs++cs)
 | [],o,w,xs,ys,h,_,hl,_=>by
   have:ys=[]:=List.eq_nil_of_length_eq_zero hl;subst this;exact h
 | v::r,o,w,xs,[],h,_,hl,_=>by cases hl
 | v::r,o,w,xs,y::ys,h,hx,hl,hn=>by
   have h1:=owns_setAt h (i:=o) (by simp at hn;omega) v
   have e:(xs++y::ys).set o v=(xs++[v])++ys:=by
    rw[List.set_append,if_neg (by omega),hx,Nat.sub_self,List.set_cons_zero,List.append_assoc];rfl
   rw[e]at h1;have h2:=owns_puts r (o+1) _ (xs++[v]) ys h1 (by simp[hx]) (by simpa using hl) (by simp at hn ⊢;omega);rw[List.append_assoc]at h2;exact h2
theorem owns_frozen {w:World} {base:Nat} {e:TypeId} {size n cap g:Nat} {xs:List Value} (h:w.ownsRow base e size (.slice (some ⟨g,0,none⟩) n cap) n xs) (i:Nat):w.frozen? ⟨g,i,none⟩=false:=by
 rcases h.2 with ⟨h0,_⟩ | ⟨g',cap',cur,hv,hg,hc,_⟩
 · cases h0
 · have:g=g':=by
    injection hv with e1 _ e2
    injection e1 with e1
    injection e1 with e1
   subst this;have hb:Blk w g e cur:=hc;exact hb.frozen i
theorem owns_cell {w:World} {base:Nat} {e:TypeId} {size n cap g:Nat} {xs:List Value} (h:w.ownsRow base e size (.slice (some ⟨g,0,none⟩) n cap) n xs) {i:Nat} {u:Value} (hu:xs[i]?=some u):w.cell? ⟨g,i,none⟩=some u:=by
 rcases h.2 with ⟨h0,_⟩ | ⟨g',cap',cur,hv,hg,hc,h1,h2,h3,h4⟩
 · cases h0
 · have:g=g':=by
    injection hv with e1 _ e2
    injection e1 with e1
    injection e1 with e1
   subst this;have hb:Blk w g e cur:=hc;rw[hb.cell i];have hj:=(List.getElem?_eq_some_iff.1 hu).1;rw[← h4,List.getElem?_take]at hu;split at hu
   · simpa using hu
   · cases hu
theorem owns_lt {w:World} {base:Nat} {e:TypeId} {size n cap g:Nat} {xs:List Value} (h:w.ownsRow base e size (.slice (some ⟨g,0,none⟩) n cap) n xs):base≤g∧g<w.heap.size:=h.lt g rfl
theorem owns_cap {w:World} {base:Nat} {e:TypeId} {size n cap g:Nat} {xs:List Value} (h:w.ownsRow base e size (.slice (some ⟨g,0,none⟩) n cap) n xs):n≤cap∧cap≤maxLen:=by
 rcases h.2 with ⟨h0,_⟩ | ⟨g',cap',cur,hv,hg,hc,h1,h2,h3,h4⟩
 · cases h0
 · injection hv with _ _ e2
   subst e2;exact⟨h1,h2⟩
theorem owns_take {w:World} {base:Nat} {e:TypeId} {size n cap g:Nat} {xs:List Value} (h:w.ownsRow base e size (.slice (some ⟨g,0,none⟩) n cap) n xs) {k:Nat} (hk:k≤n):w.ownsRow base e size (.slice (some ⟨g,0,none⟩) k cap) k (xs.take (k*size)):=by
 have hks:=Nat.mul_le_mul_right size hk
 rcases h.2 with ⟨h0,_⟩ | ⟨g',cap',cur,hv,hg,hc,h1,h2,h3,h4⟩
 · cases h0
 · obtain ⟨rfl,rfl⟩:g=g'∧cap=cap':=by
    injection hv with e1 _ e2
    injection e1 with e1
    injection e1 with e1
    exact⟨e1,e2⟩
   refine⟨by rw[List.length_take,h.1];omega,Or.inr ⟨g,cap,cur,rfl,hg,hc,by omega,h2,h3,?_⟩⟩;rw[← h4,List.take_take,Nat.min_eq_left hks]
theorem owns_apart {w:World} {base base':Nat} {e e':TypeId} {size size':Nat} {v v':Value} {n n':Nat} {xs xs':List Value} (h:w.ownsRow base e size v n xs) (h':w.ownsRow base' e' size' v' n' xs') (he:e≠e') {g:Nat} (hg:v.ownBlock=some g):v'.ownBlock≠some g:=by
 intro hg'
 rcases h.2 with ⟨h0,_⟩ | ⟨g1,cap1,cur1,hv,_,hc,_⟩
 · subst h0;cases hg
 · rcases h'.2 with ⟨h0,_⟩ | ⟨g2,cap2,cur2,hv',_,hc',_⟩
   · subst h0;cases hg'
   · subst hv hv';obtain rfl:=Option.some.inj hg;obtain rfl:=Option.some.inj hg';simp only at hc hc';rw[hc]at hc'
     injection hc' with hc'
     injection hc' with _ hc' _
     exact he hc'
theorem blk_apart {w:World} {base:Nat} {e t:TypeId} {size:Nat} {v:Value} {n:Nat} {xs:List Value} {B:Nat} {cs:Array Value} (hB:Blk w B t cs) (h:w.ownsRow base e size v n xs) (he:e≠t):v.ownBlock≠some B:=by
 intro hg'
 rcases h.2 with ⟨h0,_⟩ | ⟨g2,cap2,cur2,hv',_,hc',_⟩
 · subst h0;cases hg'
 · subst hv';obtain rfl:=Option.some.inj hg';unfold Blk at hB;rw[hB]at hc'
   injection hc' with hc'
   injection hc' with _ hc' _
   exact he hc'.symm
structure Fm where
 t:Tk
 v:Value
 kids:List Vl
def fmcells (f:Fm):List Value:=tkcells f.t++[f.v]
theorem fmcells_length (f:Fm):(fmcells f).length=7:=rfl
def skC (S:List Fm):List (Tk×List Vt):=(S.map fun x=>(x.t,x.kids.map Vl.c)).reverse
def skA (B:Nat) (vs:Value) (S:List Fm) (b:Nat):Prop:=b<B∨vs.ownBlock=some b∨∃ x∈S,x.v.ownBlock=some b
structure Sk (B:Nat) (w:World) (vs:Value) (S:List Fm) (K:Nat):Prop where
 row:w.ownsRow B 137 7 vs S.length (S.flatMap fmcells)
 kid:∀ x∈S,w.ownsRow B 104 7 x.v x.kids.length (x.kids.flatMap vcells)
 apart:S.Pairwise fun x y=>∀ g,x.v.ownBlock=some g→y.v.ownBlock≠some g
 t64:∀ x∈S,Tk64 x.t
 len:∀ x∈S,x.kids.length≤K
 safe:∃ h,Safe (skA B vs S) w fun w=>∀ x∈S,∀ k∈x.kids,VlIn w h k
section
variable {B K:Nat} {w w':World} {vs:Value} {S R:List Fm}
theorem Sk.grown (h:Sk B w vs S K) {row:Option Nat} (hg:w.grownBy w' row) (hr:∀ k,row=some k→(k<B∨w.heap.size≤k)):Sk B w' vs S K:=by
 have hk:∀ {e:TypeId} {size:Nat} {v:Value} {n:Nat} {xs:List Value},w.ownsRow B e size v n xs→w'.ownsRow B e size v n xs:=fun ho=>ho.kept hg (by
  cases hv:(_:Value).ownBlock with
  | none=>exact .inl rfl
  | some k=>exact .inr (fun e=>by have:=ho.lt k hv;have:=hr k e.symm;omega))
 obtain⟨h0,hs⟩:=h.safe;refine⟨hk h.row,fun x hx=>hk (h.kid x hx),h.apart,h.t64,h.len,h0,(hs.wide (A':=fun b=>skA B vs S b∨w.heap.size≤b) fun b hb=>hb).grown hg (fun k hk hl=>?_) |>.anti fun b hb _=>Or.inl hb⟩
 rcases hr k hk with h1 | h1
 · exact Or.inl (Or.inl h1)
 · exact Or.inr h1
theorem Sk.below (h:Sk B w vs S K) (hb:Below w.heap.size w w'):Sk B w' vs S K:=h.grown (grownBy_of_below hb none) (fun _ e=>by cases e)
theorem Sk.mono (h:Sk B w vs S K) {K':Nat} (hK:K≤K'):Sk B w vs S K':=⟨h.row,h.kid,h.apart,h.t64,fun x hx=>Nat.le_trans (h.len x hx) hK,h.safe⟩
theorem Sk.pop {gs cap:Nat} {f:Fm} (h:Sk B w (.slice (some ⟨gs,0,none⟩) (R.length+1) cap) (R++[f]) K) (hK:K*72≤140737488355328) :
  Sk B w (.slice (some ⟨gs,0,none⟩) R.length cap) R K∧∃ (oa:Option Addr) (c g hh:Nat),f.v=.slice oa f.kids.length c∧Safe (skA B (.slice (some ⟨gs,0,none⟩) R.length cap) R) w fun w=>VlIn w hh (.mk f.t oa g 0 c f.kids):=by
 obtain⟨h0,hs⟩:=h.safe
 have hsub:∀ x∈R,x∈R++[f]:=fun x hx=>List.mem_append_left _ hx
 have hfm:f∈R++[f]:=List.mem_append_right _ (List.mem_singleton.2 rfl)
 have hA:∀ b,skA B (.slice (some ⟨gs,0,none⟩) R.length cap) R b→skA B (.slice (some ⟨gs,0,none⟩) (R.length+1) cap) (R++[f]) b:=fun b hb=>by
  rcases hb with hb|hb|⟨x,hx,hb⟩
  · exact Or.inl hb
  · exact Or.inr (Or.inl hb)
  · exact Or.inr (Or.inr ⟨x,hsub x hx,hb⟩)
 have hap:=List.pairwise_append.1 h.apart;have hrow:=h.row;rw[List.length_append,List.length_singleton]at hrow;have hkf:=h.kid f hfm;refine⟨⟨?_,fun x hx=>h.kid x (hsub x hx),hap.1,fun x hx=>h.t64 x (hsub x hx),fun x hx=>h.len x (hsub x hx),h0,(hs.anti fun b hb _=>hA b hb).mono fun _ hw x hx=>hw x (hsub x hx)⟩,?_⟩
 · have:=owns_take hrow (k:=R.length) (by omega);rw[List.flatMap_append,List.take_append_of_le_length (by rw[flat_length fmcells_length];exact Nat.le_refl _),List.take_of_length_le (by rw[flat_length fmcells_length];exact Nat.le_refl _)]at this;exact this
 · obtain⟨oa,c,g,hv,hsl,hg⟩:=sl_of_own hkf;refine⟨oa,c,g,h0+1,hv,VlIn.made (h.t64 f hfm) (VsIn.made (by have:=h.len f hfm;omega) hsl (fun hp hb=>?_) ((hs.anti fun b hb _=>hA b hb).mono fun _ hw x hx=>hw f hfm x hx))⟩;obtain⟨hoa,hgl⟩:=hsl.lies hp
   have hfo:f.v.ownBlock=some g:=by rw[hv,hoa];rfl
   rcases hb with hb|hb|⟨x,hx,hb⟩
   · have:=hg hp;omega
   · exact owns_apart hkf hrow (by decide) hfo hb
   · exact hap.2.2 x hx f (List.mem_singleton.2 rfl) g hb hfo
theorem Sk.kidPut {f:Fm} {k:Vl} {v':Value} {gg:Nat} (h:Sk B w vs (R++[f]) K) (hk:∃ h,Safe (skA B vs (R++[f])) w fun w=>VlIn w h k)
  (hv':v'.ownBlock=some gg) (hat:f.v.ownBlock=some gg∨w.heap.size≤gg)
  (hsz:w.heap.size≤w'.heap.size) (hblk:∀ b,b<w.heap.size→vs.ownBlock≠some b→f.v.ownBlock≠some b→w'.heap[b]?=w.heap[b]?)
  (hrow:w'.ownsRow B 137 7 vs (R.length+1) (R.flatMap fmcells++(tkcells f.t++[v'])))
  (hkid:w'.ownsRow B 104 7 v' (f.kids.length+1) (f.kids.flatMap vcells++vcells k)):Sk B w' vs (R++[⟨f.t,v',f.kids++[k]⟩]) (K+1):=by
 obtain⟨h1,hs⟩:=h.safe;obtain⟨h2,hs2⟩:=hk;have hfm:f∈R++[f]:=List.mem_append_right _ (List.mem_singleton.2 rfl)
 have hsub:∀ x∈R,x∈R++[f]:=fun x hx=>List.mem_append_left _ hx
 have hap:=List.pairwise_append.1 h.apart
 have hrest:∀ x∈R,∀ g,x.v.ownBlock=some g→w'.heap[g]?=w.heap[g]?:=fun x hx g hg=>by
  refine hblk g ((h.kid x (hsub x hx)).lt g hg).2 (fun e=>?_) (fun e=>hap.2.2 x hx f (List.mem_singleton.2 rfl) g hg e);exact owns_apart (h.kid x (hsub x hx)) h.row (by decide) hg e
 have hgg:∀ b,skA B vs (R++[⟨f.t,v',f.kids++[k]⟩]) b→skA B vs (R++[f]) b∨w.heap.size≤b:=fun b hb=>by
  rcases hb with hb|hb|⟨x,hx,hb⟩
  · exact Or.inl (Or.inl hb)
  · exact Or.inl (Or.inr (Or.inl hb))
  · rcases List.mem_append.1 hx with hx|hx
    · exact Or.inl (Or.inr (Or.inr ⟨x,hsub x hx,hb⟩))
    · obtain rfl:=List.mem_singleton.1 hx;simp only[hv',Option.some.injEq]at hb;subst hb
      rcases hat with hat|hat
      · exact Or.inl (Or.inr (Or.inr ⟨f,hfm,hat⟩))
      · exact Or.inr hat
 have hboth:Safe (skA B vs (R++[⟨f.t,v',f.kids++[k]⟩])) w' fun w=>(∀ x∈R++[f],∀ k∈x.kids,VlIn w h1 k)∧VlIn w h2 k:=fun w2 g1 g2=>by
  have key:∀ b,b<w.heap.size→¬ skA B vs (R++[f]) b→w2.heap[b]?=w.heap[b]?:=fun b hb hn=>by
   refine(g2 b (by omega) fun hb2=>?_).trans (hblk b hb (fun e=>hn (Or.inr (Or.inl e))) (fun e=>hn (Or.inr (Or.inr ⟨f,hfm,e⟩))))
   rcases hgg b hb2 with h3 | h3
   · exact hn h3
   · omega
  exact⟨hs w2 (by omega) key,hs2 w2 (by omega) key⟩
 refine⟨?_,fun x hx=>?_,?_,fun x hx=>?_,fun x hx=>?_,max h1 h2,hboth.mono fun w3 hw x hx y hy=>?_⟩
 · rw[List.flatMap_append,List.length_append,List.flatMap_singleton];exact hrow
 · rcases List.mem_append.1 hx with hx|hx
   · have ho:=h.kid x (hsub x hx);refine⟨ho.1,?_⟩
     rcases ho.2 with h0 | ⟨g,cap,cur,hv,hg,hc,rest⟩
     · exact .inl h0
     · exact .inr ⟨g,cap,cur,hv,hg,(hrest x hx g (by rw[hv];rfl)).trans hc,rest⟩
   · obtain rfl:=List.mem_singleton.1 hx;simp only[List.length_append,List.length_singleton,List.flatMap_append,List.flatMap_singleton];exact hkid
 · refine List.pairwise_append.2 ⟨hap.1,List.pairwise_singleton _ _,fun x hx y hy g hg=>?_⟩;obtain rfl:=List.mem_singleton.1 hy;simp only[hv'];intro e;obtain rfl:=Option.some.inj e
   rcases hat with hat|hat
   · exact hap.2.2 x hx f (List.mem_singleton.2 rfl) _ hg hat
   · have:=((h.kid x (hsub x hx)).lt _ hg).2;omega
 · rcases List.mem_append.1 hx with hx|hx
   · exact h.t64 x (hsub x hx)
   · obtain rfl:=List.mem_singleton.1 hx;exact h.t64 f hfm
 · rcases List.mem_append.1 hx with hx|hx
   · exact Nat.le_succ_of_le (h.len x (hsub x hx))
   · obtain rfl:=List.mem_singleton.1 hx;have:=h.len f hfm;simp only[List.length_append,List.length_singleton];omega
 · rcases List.mem_append.1 hx with hx|hx
   · exact(hw.1 x (hsub x hx) y hy).mono _ _ (Nat.le_max_left _ _)
   · obtain rfl:=List.mem_singleton.1 hx
     rcases List.mem_append.1 hy with hy|hy
     · exact(hw.1 f hfm y hy).mono _ _ (Nat.le_max_left _ _)
     · obtain rfl:=List.mem_singleton.1 hy;exact hw.2.mono _ _ (Nat.le_max_right _ _)
theorem Sk.open {t:Tk} {vs':Value} {gg:Nat} (h:Sk B w vs S K) (ht:Tk64 t) (hv':vs'.ownBlock=some gg) (hat:vs.ownBlock=some gg∨w.heap.size≤gg) (hg:w.grownBy w' vs.ownBlock)
  (hrow:w'.ownsRow B 137 7 vs' (S.length+1) (S.flatMap fmcells++(tkcells t++[.slice none 0 0]))):Sk B w' vs' (S++[⟨t,.slice none 0 0,[]⟩]) K:=by
 obtain⟨h1,hs⟩:=h.safe
 have hA:∀ b,skA B vs' (S++[⟨t,.slice none 0 0,[]⟩]) b→skA B vs S b∨w.heap.size≤b:=fun b hb=>by
  rcases hb with hb|hb|⟨x,hx,hb⟩
  · exact Or.inl (Or.inl hb)
  · rw[hv']at hb;obtain rfl:=Option.some.inj hb
    rcases hat with hat|hat
    · exact Or.inl (Or.inr (Or.inl hat))
    · exact Or.inr hat
  · rcases List.mem_append.1 hx with hx|hx
    · exact Or.inl (Or.inr (Or.inr ⟨x,hx,hb⟩))
    · obtain rfl:=List.mem_singleton.1 hx
      cases hb
 refine⟨?_,fun x hx=>?_,?_,fun x hx=>?_,fun x hx=>?_,h1,?_⟩
 · rw[List.flatMap_append,List.length_append,List.flatMap_singleton];exact hrow
 · rcases List.mem_append.1 hx with hx|hx
   · refine(h.kid x hx).kept hg ?_
     cases hv:x.v.ownBlock with
     | none=>exact .inl rfl
     | some k=>exact .inr (fun e=>owns_apart (h.kid x hx) h.row (by decide) hv e.symm)
   · obtain rfl:=List.mem_singleton.1 hx;exact World.ownsRow_nil _ _ _ _
 · refine List.pairwise_append.2 ⟨h.apart,List.pairwise_singleton _ _,fun x hx y hy g hg=>?_⟩;obtain rfl:=List.mem_singleton.1 hy;intro e;cases e
 · rcases List.mem_append.1 hx with hx|hx
   · exact h.t64 x hx
   · obtain rfl:=List.mem_singleton.1 hx;exact ht
 · rcases List.mem_append.1 hx with hx|hx
   · exact h.len x hx
   · obtain rfl:=List.mem_singleton.1 hx;exact Nat.zero_le _
 · have h2:=(hs.wide (A':=fun b=>skA B vs S b∨w.heap.size≤b) fun b hb=>hb).grown hg (fun k hk _=>Or.inl (Or.inr (Or.inl hk)))
   refine(h2.anti fun b hb _=>hA b hb).mono fun _ hw x hx y hy=>?_
   rcases List.mem_append.1 hx with hx|hx
   · exact hw x hx y hy
   · obtain rfl:=List.mem_singleton.1 hx
     cases hy
end
end Go.Proofs.YtnbkbenkhkinoaaGreatDoor
namespace Go.Proofs.YtnbkbenkhkinoaaGreatDoor
set_option linter.unusedVariables false
set_option linter.unusedSimpArgs false
open Go.RowKit Go.Maps
theorem Blk.el11 {w:World} {g:Nat} {t:TypeId} {a0 a1 a2 a3 a4 a5 a6 a7 a8 a9 a10:Value} (h:Blk w g t #[a0,a1,a2,a3,a4,a5,a6,a7,a8,a9,a10]):w.cell? ⟨g,0,none⟩=some a0∧w.frozen? ⟨g,0,none⟩=false∧w.cell? ⟨g,1,none⟩=some a1∧w.frozen? ⟨g,1,none⟩=false∧w.cell? ⟨g,2,none⟩=some a2∧w.frozen? ⟨g,2,none⟩=false∧w.cell? ⟨g,3,none⟩=some a3∧w.frozen? ⟨g,3,none⟩=false∧w.cell? ⟨g,4,none⟩=some a4∧w.frozen? ⟨g,4,none⟩=false∧w.cell? ⟨g,5,none⟩=some a5∧w.frozen? ⟨g,5,none⟩=false∧w.cell? ⟨g,6,none⟩=some a6∧w.frozen? ⟨g,6,none⟩=false∧w.cell? ⟨g,7,none⟩=some a7∧w.frozen? ⟨g,7,none⟩=false∧w.cell? ⟨g,8,none⟩=some a8∧w.frozen? ⟨g,8,none⟩=false∧w.cell? ⟨g,9,none⟩=some a9∧w.frozen? ⟨g,9,none⟩=false∧w.cell? ⟨g,10,none⟩=some a10∧w.frozen? ⟨g,10,none⟩=false∧g<w.heap.size :=
 ⟨h.cell 0,h.frozen 0,h.cell 1,h.frozen 1,h.cell 2,h.frozen 2,h.cell 3,h.frozen 3,h.cell 4,h.frozen 4,h.cell 5,h.frozen 5,h.cell 6,h.frozen 6,h.cell 7,h.frozen 7,h.cell 8,h.frozen 8,h.cell 9,h.frozen 9,h.cell 10,h.frozen 10,h.lt⟩
theorem blk_putsM {g:Nat} {t:TypeId} (suf:List Value):∀ (vs post:List Value) (w:World) (o:Nat) (pre:List Value),Blk w g t (pre++post++suf).toArray→pre.length=o→post.length=vs.length→Blk (puts w g o vs) g t (pre++vs++suf).toArray
 | [],post,w,o,pre,h,_,hl=>by
   obtain rfl:=List.eq_nil_of_length_eq_zero hl;exact h
 | v::vs,[],_,_,_,_,_,hl=>by simp at hl
 | v::vs,p::post,w,o,pre,h,hp,hl=>by
   have h1:=h.put o v
   have e:((pre++p::post++suf).toArray.setIfInBounds o v)=((pre++[v])++post++suf).toArray:=by
    subst hp;simp
   rw[e]at h1;have:=blk_putsM suf vs post _ (o+1) (pre++[v]) h1 (by simp[hp]) (by simpa using hl);rw[List.append_assoc pre [v] vs,List.singleton_append]at this;exact this
theorem infoI:(Tryz.prog.info? 3).map (fun i=>(i.zero,i.size,i.bytes))=some (some (.int .i64 0),1,8):=by kernel_rfl
theorem sizeBox:(Tryz.prog.info? 55).map (·.size)=some 6:=by kernel_rfl
theorem sizeElem:(Tryz.prog.info? 57).map (·.size)=some 11:=by kernel_rfl
theorem ret_bx {fn:Func} {p:Tmp} {tmps:Array Value} {w:World} {g:Nat} {t:TypeId} {cs:Array Value} (hr:fn.results=#[.cell p 55]) (hp:tmps.getD p undef=.pointer (some ⟨g,0,none⟩)) (h:Blk w g t cs) (hs:cs.size=6):(results fn tmps).run Tryz.prog w=.ok (.agg cs) w :=
 results_cell_row hr tmps w g t cs (0,0) _ hp h Tryz.underlying55 rfl (by rw[hs];exact sizeBox)
theorem load_el {w:World} {g:Nat} {t:TypeId} {cs:Array Value} (h:Blk w g t cs) (hs:cs.size=11):(loadVar 57 ⟨g,0,none⟩).run Tryz.prog w=.ok (.agg cs) w :=
 run_loadVar_row w g t _ cs (0,0) _ h Tryz.underlying57 rfl (by rw[hs];exact sizeElem)
theorem ret_el {fn:Func} {p:Tmp} {tmps:Array Value} {w:World} {g:Nat} {t:TypeId} {cs:Array Value} (hr:fn.results=#[.cell p 57]) (hp:tmps.getD p undef=.pointer (some ⟨g,0,none⟩)) (h:Blk w g t cs) (hs:cs.size=11):(results fn tmps).run Tryz.prog w=.ok (.agg cs) w :=
 results_cell_row hr tmps w g t cs (0,0) _ hp h Tryz.underlying57 rfl (by rw[hs];exact sizeElem)
theorem ret_el2 {fn:Func} {p u:Tmp} {tmps:Array Value} {w:World} {g:Nat} {t:TypeId} {cs:Array Value} {x:Value} (hr:fn.results=#[.cell p 57,.tmp u]) (hp:tmps.getD p undef=.pointer (some ⟨g,0,none⟩)) (hu:tmps.getD u undef=x) (h:Blk w g t cs) (hs:cs.size=11):(results fn tmps).run Tryz.prog w=.ok (.tuple #[.agg cs,x]) w:=by
 rw[results_cell_tmp hr,hp,hu];simp only[asAddr,Sem.run_pure,Result.andThen_ok,load_el h hs]
set_option maxHeartbeats 4000000 in
theorem fresh_any (w:World):Calls Tryz.prog 37 #[] w fun e w'=>e=.returned (.agg #[.int .i64 0,.string ⟨#[]⟩,.int .i64 0,.int .i64 1,.int .i64 0,.int .i64 1])∧Below w.heap.size w w':=by
 obtain⟨h1,hb1⟩:=box_new' w 55 #[.int .i64 0,.string ⟨#[]⟩,.int .i64 0,.int .i64 0,.int .i64 0,.int .i64 0];obtain⟨g,hg⟩:∃ g,w.heap.size=g:=⟨_,rfl⟩;rw[hg]at h1;have H1:=Lib.hid (And.intro h1 hb1);have HG:=Lib.hid hg;clear h1 hb1
 go_enter Tryz.func37,Tryz.ntmps37
 go_upto_region 1 with fail
 try simp only[hg]
 clear hg;generalize World.alloc w _=wa at *;obtain⟨c0,fc0,c1,fc1,c2,fc2,c3,fc3,c4,fc4,c5,fc5,lc⟩:=H1.out.1.bx6;go_wp2_with fail;have hz:=blk_putsM [] [.int .i64 0,.string ⟨#[]⟩,.int .i64 0,.int .i64 1,.int .i64 0,.int .i64 1] [.int .i64 0,.string ⟨#[]⟩,.int .i64 0,.int .i64 0,.int .i64 0,.int .i64 0] wa 0 [] H1.out.1 rfl rfl;have hgz:=grownBy_puts [.int .i64 0,.string ⟨#[]⟩,.int .i64 0,.int .i64 1,.int .i64 0,.int .i64 1] wa g 0;simp only[puts,Nat.zero_add,Nat.reduceAdd]at hz hgz;refine bodyPost_ret (v:=.agg #[.int .i64 0,.string ⟨#[]⟩,.int .i64 0,.int .i64 1,.int .i64 0,.int .i64 1]) ?_ rfl ⟨rfl,?_⟩
 · exact ret_bx Tryz.results37 rfl hz rfl
 · exact below_far H1.out.2 hgz (fun k e=>by obtain rfl:=Option.some.inj e;exact Nat.le_of_eq HG.out)
def KV (w:World) (a:Option Addr) (n c:Nat) (l:List Int):Prop:=(a=none∧n=0∧c=0∧l=[])∨∃ (b:Nat) (cur:Array Value),a=some ⟨b,0,none⟩∧0<n∧n≤1000∧l.length=n∧Blk w b 3 cur∧cur.toList.take n=l.map (Value.int .i64)
theorem KV.old {w w':World} {a:Option Addr} {n c:Nat} {l:List Int} (h:KV w a n c l) (hb:∀ p,a=some p→p.block<w.heap.size→w'.heap[p.block]?=w.heap[p.block]?):KV w' a n c l:=by
 rcases h with h|⟨b,cur,h1,h2,h3,h4,h5,h6⟩
 · exact .inl h
 · exact .inr ⟨b,cur,h1,h2,h3,h4,(hb _ h1 h5.lt).trans h5,h6⟩
theorem KV.below {w w':World} {a:Option Addr} {n c:Nat} {l:List Int} (h:KV w a n c l) (hb:Below w.heap.size w w'):KV w' a n c l:=h.old fun _ _ hl=>hb.block _ hl
theorem KV.lt {w:World} {a:Option Addr} {n c:Nat} {l:List Int} (h:KV w a n c l) {p:Addr} (hp:a=some p):p.block<w.heap.size:=by
 rcases h with ⟨e,-⟩ | ⟨b,cur,e,-,-,-,h5,-⟩
 · rw[e]at hp
   cases hp
 · rw[e]at hp
   cases hp
   exact h5.lt
theorem KsIn.kv {w:World} {k:Ks} (h:KsIn w k) (hn:k.n≤1000):KV w k.oa k.n k.cap (natI k.l):=by
 have hlen:=h.len
 rcases h with ⟨h1,h2,h3,h4⟩ | ⟨h1,h2,h3,h4,L,hl,ht,hB⟩
 · exact .inl ⟨h1,h2,h3,by rw[h4];rfl⟩
 · exact .inr ⟨k.b,_,h1,h2,hn,by unfold natI;rw[List.length_map];exact hlen,hB,by rw[← ht,List.map_take]⟩
theorem kv_own {w:World} {base g n cap:Nat} {l:List Int} (h:w.ownsRow base 3 1 (.slice (some ⟨g,0,none⟩) n cap) n (l.map (Value.int .i64))) (h0:0<n) (hn:n≤1000):KV w (some ⟨g,0,none⟩) n cap l:=by
 obtain⟨hl,⟨e,-⟩ | ⟨g',cap',cur,e,-,hb,-,-,-,ht⟩⟩:=h
 · cases e
 · cases e
   exact .inr ⟨g,cur,rfl,h0,hn,by rw[List.length_map]at hl;omega,hb,by rwa [Nat.mul_one]at ht⟩
set_option maxRecDepth 20000 in
set_option maxHeartbeats 8000000 in
theorem copiedE_any (id pa:Int) (tg:ByteArray) (ka:Option Addr) (kn kc:Nat) (bt:Int) (bn:ByteArray) (wn wd hn hd:Int) (l:List Int) (w:World) (hk:KV w ka kn kc l) :
  Calls Tryz.prog 24 #[.agg #[.int .i64 id,.int .i64 pa,.string tg,.slice ka kn kc,.slice none 0 0,.int .i64 bt,.string bn,.int .i64 wn,.int .i64 wd,.int .i64 hn,.int .i64 hd]] w fun e w'=>(∃ a1 n1 c1,e=.returned (.agg #[.int .i64 id,.int .i64 pa,.string tg,.slice a1 n1 c1,.slice none 0 0,.int .i64 bt,.string bn,.int .i64 wn,.int .i64 wd,.int .i64 hn,.int .i64 hd])∧KV w' a1 n1 c1 l∧n1=kn∧∀ p,a1=some p→w.heap.size≤p.block)∧Below w.heap.size w w':=by
 have hb:=below_box w (.cells #[.int .i64 id,.int .i64 pa,.string tg,.slice ka kn kc,.slice none 0 0,.int .i64 bt,.string bn,.int .i64 wn,.int .i64 wd,.int .i64 hn,.int .i64 hd] 57);have h1:=(Blk.new w 57 #[.int .i64 id,.int .i64 pa,.string tg,.slice ka kn kc,.slice none 0 0,.int .i64 bt,.string bn,.int .i64 wn,.int .i64 wd,.int .i64 hn,.int .i64 hd]).old (.cells #[.int .i64 0,.int .i64 0,.string ⟨#[]⟩,.slice none 0 0,.slice none 0 0,.int .i64 0,.string ⟨#[]⟩,.int .i64 0,.int .i64 0,.int .i64 0,.int .i64 0] 57);have h2:=Blk.new2 w (.cells #[.int .i64 id,.int .i64 pa,.string tg,.slice ka kn kc,.slice none 0 0,.int .i64 bt,.string bn,.int .i64 wn,.int .i64 wd,.int .i64 hn,.int .i64 hd] 57) 57 #[.int .i64 0,.int .i64 0,.string ⟨#[]⟩,.slice none 0 0,.slice none 0 0,.int .i64 0,.string ⟨#[]⟩,.int .i64 0,.int .i64 0,.int .i64 0,.int .i64 0]
 have hb2:=hb.alloc (by simp) (.cells #[.int .i64 0,.int .i64 0,.string ⟨#[]⟩,.slice none 0 0,.slice none 0 0,.int .i64 0,.string ⟨#[]⟩,.int .i64 0,.int .i64 0,.int .i64 0,.int .i64 0] 57);have hk2:=hk.below hb2;have HK:=Lib.hid hk2
 have hsz:((w.alloc (.cells #[.int .i64 id,.int .i64 pa,.string tg,.slice ka kn kc,.slice none 0 0,.int .i64 bt,.string bn,.int .i64 wn,.int .i64 wd,.int .i64 hn,.int .i64 hd] 57)).alloc (.cells #[.int .i64 0,.int .i64 0,.string ⟨#[]⟩,.slice none 0 0,.slice none 0 0,.int .i64 0,.string ⟨#[]⟩,.int .i64 0,.int .i64 0,.int .i64 0,.int .i64 0] 57)).heap.size=w.heap.size+2:=by simp
 obtain⟨g,hg⟩:∃ g,w.heap.size=g:=⟨_,rfl⟩;rw[hg]at h1 h2;have H:=Lib.hid (And.intro h1 h2);have HB:=Lib.hid hb2;rw[hg]at hsz;have HSZ:=Lib.hid hsz;have HG:=Lib.hid hg;clear hb h1 h2 hb2 hk2 hk hsz
 go_enter Tryz.func24,Tryz.ntmps24
 go_upto_region 1 with fail
 try simp only[hg]
 clear hg;generalize World.alloc (World.alloc w _) _=wa at *;obtain⟨c0,fc0,c1,fc1,c2,fc2,c3,fc3,c4,fc4,c5,fc5,c6,fc6,c7,fc7,c8,fc8,c9,fc9,c10,fc10,lc⟩:=H.out.1.el11
 go_cut [5] from 3 to 6 (fun s wx=>∃ (a1:Option Addr) (n1 c1:Nat),s=.slice a1 n1 c1∧Hid (Below w.heap.size w wx)∧Hid (KV wx a1 n1 c1 l∧n1=kn∧∀ p,a1=some p→g+2≤p.block)∧Hid (Blk wx g 57 #[.int .i64 id,.int .i64 pa,.string tg,.slice a1 n1 c1,.slice none 0 0,.int .i64 bt,.string bn,.int .i64 wn,.int .i64 wd,.int .i64 hn,.int .i64 hd]∧Blk wx (g+1) 57 #[.int .i64 0,.int .i64 0,.string ⟨#[]⟩,.slice none 0 0,.slice none 0 0,.int .i64 0,.string ⟨#[]⟩,.int .i64 0,.int .i64 0,.int .i64 0,.int .i64 0]))
 case first =>
  rcases HK.out with ⟨e0,e1,e2,e3⟩ | ⟨kb,cur,e0,h0,hle,hl,hB,hcur⟩
  · subst e0 e1 e2 e3;go_wp2_with fail;go_meet;exact⟨none,0,0,rfl,Lib.hid (HB.out.setCell (p:=⟨g,3,none⟩) (Nat.le_of_eq HG.out) _),Lib.hid ⟨.inl ⟨rfl,rfl,rfl,rfl⟩,rfl,fun p hp=>by cases hp⟩,Lib.hid ⟨(H.out.1.put 3 _).to rfl,H.out.2.far (p:=⟨g,3,none⟩) (by simp) _⟩⟩
  · subst e0;have hlt:=hB.lt
    have hnews:∀ (j:Nat) (u:Value),(l.map (Value.int .i64))[j]?=some u→wa.cell? ((⟨kb,0,none⟩:Addr).add j)=some u:=fun j u hj=>by
     rw[Addr.add_lit,Nat.zero_add,hB.cell j,← Array.getElem?_toList];rw[← hcur,List.getElem?_take]at hj;split at hj
     · exact hj
     · cases hj
    have hlm:(l.map (Value.int .i64)).length=kn:=by rw[List.length_map];exact hl
    have hon:∀ v∈l.map (Value.int .i64),v.oneCell'=true:=fun v hv=>by
     obtain⟨y,-,rfl⟩:=List.mem_map.1 hv;rfl
    have HS:=HSZ;have HN:=Lib.hid (And.intro hnews (And.intro hlm hon));obtain⟨i0,hi0,hz0,hz1,hz2⟩:=info_parts infoI;clear hnews hl hlm hon hB hcur
    go_wp2_with (at_builtin;refine wpList_append_lies _ rfl _ _ _ rfl wa.heap.size 3 i0 _ 1 8 Tryz.underlying22 hi0 hz0 hz1 hz2 rfl (by omega) (.slice none 0 0) 0 [] rfl (World.ownsRow_nil _ _ _ _) ⟨kb,0,none⟩ kn kc (l.map (Value.int .i64)) rfl (by rw[HN.out.2.1,Nat.mul_one]) HN.out.1 HN.out.2.2 h0 (by unfold maxLen;omega) (by omega) (Nat.le_refl _) _ rfl ?_;intro gg cap2 w5 hown hgrow hat hlt;have hg0:Blk w5 g 57 _:=(hgrow.block g H.out.1.lt (fun e=>by cases e)).trans H.out.1;have hg1:Blk w5 (g+1) 57 _:=(hgrow.block (g+1) H.out.2.lt (fun e=>by cases e)).trans H.out.2;have HGW:=Lib.hid hgrow;have H5:=Lib.hid (And.intro hg0 hg1);have e3:=hg0.cell 3;have fe3:=hg0.frozen 3;have le3:=hg0.lt;have HO:=Lib.hid (And.intro (kv_own (by simpa using hown) (by omega) (by omega)) hat);clear hown hgrow hat hlt hg0 hg1);go_meet
    have hgg:g+2≤gg:=by
     rcases HO.out.2 with e|e
     · cases e
     · rw[e,HS.out];exact Nat.le_refl _
    refine⟨_,_,_,rfl,Lib.hid ((below_far HB.out HGW.out (fun k e=>by cases e)).setCell (p:=⟨g,3,none⟩) (Nat.le_of_eq HG.out) _),Lib.hid ⟨?_,by omega,fun p hp=>by cases hp;exact hgg⟩,Lib.hid ⟨(H5.out.1.put 3 _).to rfl,H5.out.2.far (p:=⟨g,3,none⟩) (by simp) _⟩⟩
    refine(by simpa using HO.out.1:KV w5 (some ⟨gg,0,none⟩) kn cap2 l).old fun p hp _=>?_
    cases hp
    exact Below.heap_setCell w5 ⟨g,3,none⟩ _ gg (by simp;omega)
 obtain⟨a1,n1,c1',rfl,hB2,hKV,hH2⟩:=hcut;clear c0 fc0 c1 fc1 c2 fc2 c3 fc3 c4 fc4 c5 fc5 c6 fc6 c7 fc7 c8 fc8 c9 fc9 c10 fc10 lc;clear HB H HK;obtain⟨c0,fc0,c1,fc1,c2,fc2,c3,fc3,c4,fc4,c5,fc5,c6,fc6,c7,fc7,c8,fc8,c9,fc9,c10,fc10,lc⟩:=hH2.out.1.el11;obtain⟨z0,fz0,z1,fz1,z2,fz2,z3,fz3,z4,fz4,z5,fz5,z6,fz6,z7,fz7,z8,fz8,z9,fz9,z10,fz10,lz⟩:=hH2.out.2.el11;go_wp2_with fail;have hz:=blk_putsM [] [.int .i64 id,.int .i64 pa,.string tg,.slice a1 n1 c1',.slice none 0 0,.int .i64 bt,.string bn,.int .i64 wn,.int .i64 wd,.int .i64 hn,.int .i64 hd] [.int .i64 0,.int .i64 0,.string ⟨#[]⟩,.slice none 0 0,.slice none 0 0,.int .i64 0,.string ⟨#[]⟩,.int .i64 0,.int .i64 0,.int .i64 0,.int .i64 0] (wc.setCell ⟨g,4,none⟩ (.slice none 0 0)) 0 [] (hH2.out.2.far (p:=⟨g,4,none⟩) (by simp) _) rfl rfl
 have hgz:=grownBy_puts [.int .i64 id,.int .i64 pa,.string tg,.slice a1 n1 c1',.slice none 0 0,.int .i64 bt,.string bn,.int .i64 wn,.int .i64 wd,.int .i64 hn,.int .i64 hd] (wc.setCell ⟨g,4,none⟩ (.slice none 0 0)) (g+1) 0;simp only[puts,Nat.zero_add,Nat.reduceAdd]at hz hgz;refine bodyPost_ret (v:=.agg #[.int .i64 id,.int .i64 pa,.string tg,.slice a1 n1 c1',.slice none 0 0,.int .i64 bt,.string bn,.int .i64 wn,.int .i64 wd,.int .i64 hn,.int .i64 hd]) ?_ rfl ⟨⟨a1,n1,c1',rfl,?_,hKV.out.2.1,?_⟩,?_⟩
 · exact ret_el Tryz.results24 rfl hz rfl
 · refine(hKV.out.1.old fun p hp _=>Below.heap_setCell wc ⟨g,4,none⟩ _ _ ?_).old fun p hp hl=>hgz.block _ hl fun e=>?_
   · have:=hKV.out.2.2 p hp;simp;omega
   · have:=hKV.out.2.2 p hp;have:=Option.some.inj e;omega
 · intro p hp;have:=hKV.out.2.2 p hp;have:=HG.out;omega
 · exact below_far (hB2.out.setCell (p:=⟨g,4,none⟩) (Nat.le_of_eq HG.out) _) hgz (fun k e=>by obtain rfl:=Option.some.inj e;rw[HG.out];exact Nat.le_succ g)
end Go.Proofs.YtnbkbenkhkinoaaGreatDoor
