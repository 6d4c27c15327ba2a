/- Of my texts: DtO, DtX. -/
import Derived.Test.YtnbkbenkhkinoaaGreatDoorM21
import Derived.Test.YtnbkbenkhkinoaaGreatDoorM25
import Derived.Test.YtnbkbenkhkinoaaGreatDoorM35
import Derived.Laws.EntriesVeiled
namespace Go.Proofs.YtnbkbenkhkinoaaGreatDoor
set_option linter.unusedVariables false
set_option linter.unusedSimpArgs false
open Go.RowKit Go.Maps
def preF (K:Nat→List Nat):Nat→Nat→List Nat
 | 0,_=>[]
 | f+1,i=>i::(K i).flatMap (preF K f)
theorem preF_sum (K:Nat→List Nat) (φ:Nat→Nat):∀ f i,((preF K f i).map φ).sum=wS K φ f i
 | 0,_=>rfl
 | f+1,i=>by
   have h:∀ l:List Nat,((l.flatMap (preF K f)).map φ).sum=(l.map (wS K φ f)).sum:=fun l=>by
    induction l with
    | nil=>rfl
    | cons x l ih=>rw[List.flatMap_cons,List.map_append,List.sum_append,ih,preF_sum K φ f x,List.map_cons,List.sum_cons]
   rw[preF,wS,List.map_cons,List.sum_cons,h]
theorem preF_len (K:Nat→List Nat) (f i:Nat):(preF K f i).length=wS K (fun _=>1) f i:=by
 rw[← preF_sum]
 induction preF K f i with
 | nil=>rfl
 | cons x l ih=>rw[List.length_cons,List.map_cons,List.sum_cons,ih,Nat.add_comm]
theorem preF_lt {K:Nat→List Nat} {n:Nat} (hK:∀ i k,k∈K i→k<n):∀ f i,i<n→∀ x∈preF K f i,x<n
 | 0,_,_,_,hx=>by cases hx
 | f+1,i,hi,x,hx=>by
   rcases List.mem_cons.1 hx with rfl|hx
   · exact hi
   · obtain⟨k,hk,hx⟩:=List.mem_flatMap.1 hx;exact preF_lt hK f k (hK i k hk) x hx
theorem Good.order {els:List Me} (h:Good els):(preF (kidsF els) els.length 0).length=els.length:=by
 rw[preF_len,h.all]
 induction els.length with
 | zero=>rfl
 | succ n ih=>rw[range_sum_succ,ih]
def intV (l:List Int):List Value:=l.map (Value.int .i64)
theorem elInt:El 22 3 (.int .i64 0) 1 8:=⟨Tryz.underlying22,by kernel_rfl,rfl,by decide⟩
structure Ow (w0:World) (tB gT gO gW:Nat) (wr:World) (v:Value) (xs:List Int):Prop where
 below:Below w0.heap.size w0 wr
 out:Blk wr gO 22 #[v]
 tr:Blk wr gT 38 #[.pointer (some ⟨tB,0,none⟩)]
 wlk:Blk wr gW 116 #[.func (.func 53) #[] #[.pointer (some ⟨gO,0,none⟩),.pointer (some ⟨gT,0,none⟩),.pointer (some ⟨gW,0,none⟩)]]
 own:wr.ownsRow (gW+1) 3 1 v xs.length (intV xs)
 hd:w0.heap.size≤gT∧gT<gO∧gO<gW
section
variable {w0 wr w':World} {tB gT gO gW:Nat} {v:Value} {xs:List Int}
theorem Ow.next (h:Ow w0 tB gT gO gW wr v xs) (hb:Below wr.heap.size wr w'):Ow w0 tB gT gO gW w' v xs :=
 ⟨(bfH' (Lib.hid h.below) hb).out,h.out.below hb h.out.lt,h.tr.below hb h.tr.lt,h.wlk.below hb h.wlk.lt,h.own.kept (grownBy_of_below hb none) (by cases v.ownBlock<;>simp),h.hd⟩
theorem Ow.push (h:Ow w0 tB gT gO gW wr v xs) {x:Int} {g cap:Nat} (hg:wr.grownBy w' v.ownBlock) (ho:w'.ownsRow (gW+1) 3 1 (.slice (some ⟨g,0,none⟩) (xs.length+1) cap) (xs.length+1) (intV xs++[.int .i64 x])) :
  Ow w0 tB gT gO gW (w'.setCell ⟨gO,0,none⟩ (.slice (some ⟨g,0,none⟩) (xs.length+1) cap)) (.slice (some ⟨g,0,none⟩) (xs.length+1) cap) (xs++[x]):=by
 have hv:∀ k,v.ownBlock=some k→gW<k:=fun k e=>by have:=h.own.lt k e;omega
 obtain⟨h0,h1,h2⟩:=h.hd;refine⟨?_,?_,?_,?_,?_,h.hd⟩
 · exact(below_far h.below hg (fun k e=>by have:=hv k e;omega)).setCell (p:=⟨gO,0,none⟩) (show w0.heap.size≤gO by omega) _
 · exact((blk_grownBy h.out hg (fun e=>by have:=hv gO e.symm;omega)).put 0 _).to rfl
 · exact(blk_grownBy h.tr hg (fun e=>by have:=hv gT e.symm;omega)).far (p:=⟨gO,0,none⟩) (by simp;omega) _
 · exact(blk_grownBy h.wlk hg (fun e=>by have:=hv gW e.symm;omega)).far (p:=⟨gO,0,none⟩) (by simp;omega) _
 · have:=owns_set ho (p:=⟨gO,0,none⟩) (show gO<gW+1 by omega) (.slice (some ⟨g,0,none⟩) (xs.length+1) cap);rw[List.length_append,List.length_singleton];unfold intV;rw[List.map_append];exact this
end
set_option maxRecDepth 20000 in
set_option maxHeartbeats 8000000 in
theorem walkO_any {κ:Nat→Int} {w0:World} {tB mb:Nat} {rt nx:Int} {els:List Me} (h:Vw κ w0 tB mb rt nx els) (hG:Good els) (gT gO gW:Nat):∀ (f i:Nat) (wr:World) (v:Value) (xs:List Int),i<els.length→els.length≤i+f→Ow w0 tB gT gO gW wr v xs→xs.length+(preF (kidsF els) f i).length≤els.length →
  Calls Tryz.prog 53 #[.int .i64 (κ i),.pointer (some ⟨gO,0,none⟩),.pointer (some ⟨gT,0,none⟩),.pointer (some ⟨gW,0,none⟩)] wr fun x w'=>x=.returned (.tuple #[])∧∃ v',Ow w0 tB gT gO gW w' v' (xs++(preF (kidsF els) f i).map κ):=by
 intro f
 induction f with
 | zero=>exact fun i _ _ _ h1 h2=>absurd h1 (by omega)
 | succ f ih =>
   intro i wr v xs hi hf hO hlen;have hsm:=h.small;have HIH:=Lib.hid ih;have HV:=Lib.hid h;obtain⟨e,he⟩:∃ e,els[i]?=some e:=⟨_,List.getElem?_eq_getElem hi⟩;have HE:=Lib.hid he;have HO:=Lib.hid hO;have hV:=h.below hO.below;obtain⟨D,hD,hm⟩:=hV.map
   have hSZ:Maps.size D=els.length:=by rw[hD.size,List.length_map]
   have hl:∀ (m:Ext wr) (ty:TypeId),(Builtin.len_ #[75] ty #[.map (some mb)]).run Tryz.prog (grow wr m)=.ok (.int .i64 (els.length:Int)) (grow wr m):=fun m ty=>by
    rw[← hSZ];exact(hm.kept (grownBy_of_below (grow_below m) none) (fun e=>by cases e)).len Tryz.underlying75 _
   have t0:wr.cell? ⟨tB,0,none⟩=some (.map (some mb)):=(hV.tree).cell 0;have ft0:=(hV.tree).frozen 0;have t1:wr.cell? ⟨tB,1,none⟩=some (.int .i64 rt):=(hV.tree).cell 1;have ft1:=(hV.tree).frozen 1;have t2:wr.cell? ⟨tB,2,none⟩=some (.int .i64 nx):=(hV.tree).cell 2;have ft2:=(hV.tree).frozen 2;have lt:=(hV.tree).lt;have o0:=hO.out.cell 0;have r0:=hO.tr.cell 0;have o1:=hO.out.lt;have r1:=hO.tr.lt;obtain⟨va,vc,-,rfl,-,-⟩:=sl_of_own hO.own
   have hpl:(preF (kidsF els) (f+1) i).length=((kidsF els i).flatMap (preF (kidsF els) f)).length+1:=by rw[preF,List.length_cons]
   rw[hpl]at hlen;obtain⟨X,hX⟩:∃ X,xs.length=X:=⟨_,rfl⟩;obtain⟨N,hN⟩:∃ N,els.length=N:=⟨_,rfl⟩;have HXN:=Lib.hid (And.intro hX hN);rw[hN]at hl hlen hsm;rw[hX]at hlen o0 HO
   have g0:decide ((N:Int)<(X:Int))=false:=by simp;omega
   have g0n:decide (N<X)=false:=by simp;omega
   have hXs:X+1≤41:=by omega
   have HLen:=Lib.hid hlen;have HFU:=Lib.hid hf;clear ih h hm hD hSZ hpl hX hN hlen hV hf
   go_enter Tryz.func53,Tryz.ntmps53
   go_wp2_with fail;refine wp_region_grow (by kernel_rfl) (by kernel_rfl) ?_
   repeat (go_big_quiet_step (fail))
   refine wpQuiet_nil ?_;rintro _ ⟨m,rfl⟩;clear hl t0 ft0 t1 ft1 t2 ft2 lt o0 r0 o1 r1;have HO1:=Lib.hid (HO.out.next (grow_below m));clear HO;generalize grow wr m=w1 at *;have o0:=HO1.out.out.cell 0;have o1:=HO1.out.out.lt
   go_upto_region 1 with fail
   obtain⟨hb1,hbb⟩:=box_new' w1 3 #[.int .i64 (κ i)];have HO2:=Lib.hid (HO1.out.next hbb);have hbase:gW+1≤(w1.alloc (.cells #[.int .i64 (κ i)] 3)).heap.size:=HO2.out.wlk.lt;have hXe:=HXN.out.1;clear hb1 hbb
   go_upto_region 2 with (at_builtin;refine wpList_add elInt rfl _ _ rfl rfl (by have:=HO2.out.own;rwa [hXe]at this) hbase (Blk.new w1 _ _) 1 rfl rfl (by simp[Value.oneCell']) (by omega) (by omega) ?_;intro gg cap3 w3 ho3 hg3 hat hvb;have hOb:Blk w3 gO 22 _:=blk_grownBy HO2.out.out hg3 (fun e=>by have:=(hvb gO e.symm).1;have:=HO2.out.hd;omega);have x0:=hOb.cell 0;have fx0:=hOb.frozen 0;have lx:=hOb.lt;have H3:=Lib.hid (And.intro hg3 ho3);clear ho3 hg3 hat hvb hOb)
   have hP:=HO2.out.push (x:=κ i) H3.out.1 (by have:=H3.out.2;rwa [← hXe]at this);rw[hXe]at hP;have HP:=Lib.hid hP;clear hP x0 fx0 lx H3 HO1 HO2 o0 o1 hbase hXe;generalize World.setCell w3 _ _=w4 at *;have hV4:=HV.out.below HP.out.below;have hLK:=hV4.look he;obtain⟨hE4,hK4⟩:=hV4.el i e he;obtain⟨pa,tg,⟨bt,bn,⟨wn,wd⟩,⟨hn,hd⟩⟩,ge,⟨kn,kc,ka,kb,kl⟩⟩:=e;have hkl:kidsF els i=kl:=kidsF_at he
   have hkn:kl.length=kn:=by
    rcases hK4 with ⟨-,h1,-,h2⟩ | ⟨b,cur,-,-,-,h1,-⟩
    · have h1:kn=0:=h1;have h2:kl.map κ=[]:=h2;rw[h1,List.map_eq_nil_iff.1 h2];rfl
    · rw[List.length_map]at h1;exact h1
   have hkn1:kn≤1000:=by
    rcases hK4 with ⟨-,h1,-,-⟩ | ⟨b,cur,-,-,h1,-⟩
    · have h1:kn=0:=h1;omega
    · exact h1
   simp only at hLK;have e3:w4.cell? ⟨ge,3,none⟩=some (.slice ka kn kc):=hE4.cell 3;have el:ge<w4.heap.size:=hE4.lt;have hK0:KV w0 ka kn kc (kl.map κ):=(HV.out.el i _ he).2;have HK0:=Lib.hid hK0;have HKL:=Lib.hid (And.intro hkl hkn);have t0:w4.cell? ⟨tB,0,none⟩=some (.map (some mb)):=(hV4.tree).cell 0;have ft0:=(hV4.tree).frozen 0;have t1:w4.cell? ⟨tB,1,none⟩=some (.int .i64 rt):=(hV4.tree).cell 1;have ft1:=(hV4.tree).frozen 1;have t2:w4.cell? ⟨tB,2,none⟩=some (.int .i64 nx):=(hV4.tree).cell 2;have ft2:=(hV4.tree).frozen 2;have lt:=(hV4.tree).lt;have r0:=HP.out.tr.cell 0;have r1:=HP.out.tr.lt;rw[hkl]at HLen;clear hE4 hK4 hV4 he hK0 hkl hkn HE;go_wp2_with fail;clear hLK e3 el t0 ft0 t1 ft1 t2 ft2 lt r0 r1
   go_loopg [29] kn (fun q s29 wx=>∃ (j:Nat) (v':Value),s29=.int .i64 (j:Int)∧Hid (Ow w0 tB gT gO gW wx v' (xs++[κ i]++((kl.take j).flatMap (preF (kidsF els) f)).map κ))∧j≤kn∧kn-j≤q)
   case atStart=>exact⟨0,_,rfl,Lib.hid (by simpa using HP.out),Nat.zero_le _,Nat.le_refl _⟩
   case round =>
    clear HP;obtain⟨j,v',rfl,HO,hj,hq⟩:=hrel
    by_cases hjn:j<kn
    · have gj:decide ((j:Int)<(kn:Int))=true:=by simpa using hjn
      have gjn:decide (j<kn)=true:=by simpa using hjn
      have hjl:j<kl.length:=by rw[HKL.out.2];exact hjn
      obtain⟨k,hk⟩:∃ k,kl[j]?=some k:=⟨_,List.getElem?_eq_getElem hjl⟩;have hup:=hG.up (i:=i) (k:=k) (by rw[HKL.out.1];exact List.mem_of_getElem? hk)
      have htf:(kl.take (j+1)).flatMap (preF (kidsF els) f)=(kl.take j).flatMap (preF (kidsF els) f)++preF (kidsF els) f k:=by
       rw[List.take_add_one,hk,List.flatMap_append];simp
      have hfl:((kl.take (j+1)).flatMap (preF (kidsF els) f)).length≤(kl.flatMap (preF (kidsF els) f)).length:=by
       have h1:kl.flatMap (preF (kidsF els) f)=(kl.take (j+1)).flatMap (preF (kidsF els) f)++(kl.drop (j+1)).flatMap (preF (kidsF els) f):=by rw[← List.flatMap_append,List.take_append_drop]
       rw[h1,List.length_append];omega
      rw[htf,List.length_append]at hfl
      have hih:=fun wx vx hx=>HIH.out k wx vx (xs++[κ i]++((kl.take j).flatMap (preF (kidsF els) f)).map κ) hup.2 (by have:=HFU.out;omega) hx (by
       rw[List.length_append,List.length_append,List.length_singleton,List.length_map];have:=HLen.out;have:=HXN.out
       omega)
      have HX:=Lib.hid hih;have HTF:=Lib.hid htf
      rcases HK0.out with ⟨-,h1,-,-⟩ | ⟨b,cur,rfl,-,-,-,hB,hcur⟩
      · exact absurd hjn (by omega)
      have hcj:wr.cell? ⟨b,j,none⟩=some (.int .i64 (κ k)):=by
       rw[(hB.below HO.out.below hB.lt).cell j,← Array.getElem?_toList]
       have h2:(cur.toList.take kn)[j]?=some (.int .i64 (κ k)):=by
        rw[hcur,List.getElem?_map,List.getElem?_map,hk];rfl
       rwa [List.getElem?_take_of_lt hjn]at h2
      have hbl:b<wr.heap.size:=(hB.below HO.out.below hB.lt).lt;have cW:=HO.out.wlk.cell 0;have lW:=HO.out.wlk.lt;clear hk hup htf hfl hih hB hcur hjl;go_wp2_with fail
      ((with_reducible refine(HX.out _ _ HO.out).mono ?_);rintro e w' ⟨rfl,v2,hO2⟩)
      have HO2:=Lib.hid hO2;clear hO2 HX HO cW lW hcj hbl;go_wp2_with fail
      go_roundg (kn-(j+1))
      case measure=>omega
      case rel=>exact⟨j+1,v2,by go_num,Lib.hid (by rw[HTF.out,List.map_append,← List.append_assoc];exact HO2.out),hjn,Nat.le_refl _⟩
    · obtain rfl:j=kn:=by omega
      have gj:decide ((j:Int)<(j:Int))=false:=by simp
      have gjn:decide (j<j)=false:=by simp
      have HOF:=Lib.hid HO.out;clear HO HIH;go_wp2_with fail
      go_end0
      refine⟨rfl,v',?_⟩;have h1:=HOF.out;rw[List.take_of_length_le (by rw[HKL.out.2];exact Nat.le_refl _)]at h1;rw[preF,HKL.out.1,List.map_cons];simpa using h1
set_option maxRecDepth 20000 in
set_option maxHeartbeats 8000000 in
theorem below_any {κ:Nat→Int} {w:World} {tB mb:Nat} {rt nx:Int} {els:List Me} (h:Vw κ w tB mb rt nx els) (hG:Good els) :
  Calls Tryz.prog 35 #[.pointer (some ⟨tB,0,none⟩),.int .i64 (κ 0)] w fun x w'=>(∃ (oa:Option Addr) (cap b:Nat),x=.returned (.slice oa els.length cap)∧Sl w' oa els.length cap b 0 1 (intV ((preF (kidsF els) els.length 0).map κ)))∧Below w.heap.size w w':=by
 obtain⟨n1,l1⟩:=box_new' w 38 #[.pointer (some ⟨tB,0,none⟩)];obtain⟨n2,l2⟩:=box_new' (w.alloc (.cells #[.pointer (some ⟨tB,0,none⟩)] 38)) 22 #[.slice none 0 0];obtain⟨n3,l3⟩:=box_new' ((w.alloc (.cells #[.pointer (some ⟨tB,0,none⟩)] 38)).alloc (.cells #[.slice none 0 0] 22)) 116 #[.nilFunc]
 have s1:(w.alloc (.cells #[.pointer (some ⟨tB,0,none⟩)] 38)).heap.size=w.heap.size+1:=by simp
 have s2:((w.alloc (.cells #[.pointer (some ⟨tB,0,none⟩)] 38)).alloc (.cells #[.slice none 0 0] 22)).heap.size=w.heap.size+1+1:=by simp
 have n1':=(n1.below l2 n1.lt).below l3 (n1.below l2 n1.lt).lt;have n2':=n2.below l3 n2.lt;have hb3:=(bfH' (bfH' (Lib.hid l1) l2) l3).out;rw[s1]at n2';rw[s2]at n3;obtain⟨g,hg⟩:∃ g,w.heap.size=g:=⟨_,rfl⟩;have HG:=Lib.hid hg;rw[hg]at n1 n1' n2' n3;have hV1:=h.below l1;have H3:=Lib.hid (And.intro n1' (And.intro n2' (And.intro n3 hb3)));have hpos:=hG.pos;obtain⟨e,he⟩:∃ e,els[0]?=some e:=⟨_,List.getElem?_eq_getElem hpos⟩;have hLK:=hV1.look he;have HW:=Lib.hid (fun wr v hO=>walkO_any h hG g (g+1) (g+1+1) els.length 0 wr v [] hpos (by omega) hO (by rw[hG.order];exact Nat.le_of_eq (Nat.zero_add _)));have HLN:=Lib.hid hG.order;have t0:(w.alloc (.cells #[.pointer (some ⟨tB,0,none⟩)] 38)).cell? ⟨tB,0,none⟩=some (.map (some mb)):=(hV1.tree).cell 0;have ft0:=(hV1.tree).frozen 0;have t1:(w.alloc (.cells #[.pointer (some ⟨tB,0,none⟩)] 38)).cell? ⟨tB,1,none⟩=some (.int .i64 rt):=(hV1.tree).cell 1
 have ft1:=(hV1.tree).frozen 1;have t2:(w.alloc (.cells #[.pointer (some ⟨tB,0,none⟩)] 38)).cell? ⟨tB,2,none⟩=some (.int .i64 nx):=(hV1.tree).cell 2;have ft2:=(hV1.tree).frozen 2;have lt:=(hV1.tree).lt;have hge:=e.g;generalize e.g=ge at hLK;clear n1 n2 n3 n1' n2' l1 l2 l3 s1 s2 hV1 he h hG hpos hb3 hge
 go_enter Tryz.func35,Tryz.ntmps35
 go_upto_region 1 with fail
 try simp only[hg]
 go_upto_region 5 with fail
 try simp only[hg]
 clear hg hLK t0 ft0 t1 ft1 t2 ft2 lt;generalize World.alloc _ _=wc0 at *;have y0:wc0.cell? ⟨g+1+1,0,none⟩=some (.nilFunc):=(H3.out.2.2.1).cell 0;have fy0:=(H3.out.2.2.1).frozen 0;have ly:=(H3.out.2.2.1).lt
 go_upto_region 6 with fail
 have HO:=Lib.hid (show Ow w tB g (g+1) (g+1+1) (wc0.setCell ⟨g+1+1,0,none⟩ (.func (.func 53) #[] #[.pointer (some ⟨g+1,0,none⟩),.pointer (some ⟨g,0,none⟩),.pointer (some ⟨g+1+1,0,none⟩)])) (.slice none 0 0) [] from
  ⟨H3.out.2.2.2.setCell (p:=⟨g+1+1,0,none⟩) (by have:=HG.out;show w.heap.size≤g+1+1;omega) _,H3.out.2.1.far (p:=⟨g+1+1,0,none⟩) (by simp) _,H3.out.1.far (p:=⟨g+1+1,0,none⟩) (by simp;omega) _,(H3.out.2.2.1.put 0 _).to rfl,World.ownsRow_nil _ _ _ _,by have:=HG.out;omega,by omega,by omega⟩)
 clear y0 fy0 ly H3;generalize World.setCell wc0 _ _=wc at *;have cW:=HO.out.wlk.cell 0;have lW:=HO.out.wlk.lt;go_wp2_with fail
 ((with_reducible refine(HW.out _ _ HO.out).mono ?_);rintro e wd1 ⟨rfl,v2,hO2⟩)
 have HO2:=Lib.hid hO2;have cO:=hO2.out.cell 0;have lO:=hO2.out.lt;obtain⟨oa,cap,b,rfl,hsl,-⟩:=sl_of_own hO2.own
 have hn:([]++(preF (kidsF els) els.length 0).map κ).length=els.length:=by rw[List.nil_append,List.length_map];exact HLN.out
 rw[hn]at hsl cO;rw[List.nil_append]at hsl;have HS:=Lib.hid hsl;clear hO2 hsl cW lW HO HW hn;go_wp2_with fail;go_ret;exact⟨⟨oa,cap,b,rfl,HS.out⟩,HO2.out.below⟩
theorem order_any {κ:Nat→Int} {w:World} {tB mb:Nat} {nx:Int} {els:List Me} (h:Vw κ w tB mb (κ 0) nx els) (hG:Good els) :
  Calls Tryz.prog 16 #[.pointer (some ⟨tB,0,none⟩)] w fun x w'=>(∃ (oa:Option Addr) (cap b:Nat),x=.returned (.slice oa els.length cap)∧Sl w' oa els.length cap b 0 1 (intV ((preF (kidsF els) els.length 0).map κ)))∧Below w.heap.size w w':=by
 have HB:=Lib.hid (below_any h hG);have t0:w.cell? ⟨tB,0,none⟩=some (.map (some mb)):=(h.tree).cell 0;have ft0:=(h.tree).frozen 0;have t1:w.cell? ⟨tB,1,none⟩=some (.int .i64 (κ 0)):=(h.tree).cell 1;have ft1:=(h.tree).frozen 1;have t2:w.cell? ⟨tB,2,none⟩=some (.int .i64 nx):=(h.tree).cell 2;have ft2:=(h.tree).frozen 2;have lt:=(h.tree).lt;clear h hG
 go_enter Tryz.func16,Tryz.ntmps16
 go_wp2_with fail
 ((with_reducible refine HB.out.mono ?_);rintro e w1 ⟨⟨oa,cap,b,rfl,hs⟩,hb⟩)
 have HR:=Lib.hid (And.intro hs hb);clear hs hb HB;go_wp2_with fail;go_ret;exact⟨⟨oa,cap,b,rfl,HR.out.1⟩,HR.out.2⟩
set_option maxRecDepth 20000 in
set_option maxHeartbeats 8000000 in
theorem wrong_any (id pa last:Int) (tg:List UInt8) (a:Option Addr) (n c:Nat) (bt:Int) (bn:List UInt8) (wn wd hn hd:Int) (w:World) (h0:0≤id) (h1:id≤1073741824) (h2:last<id) (ht:nameB tg=true) (ht63:tg.length≤9223372036854775807) (hb:boxB ⟨bt,bn,(wn,wd),(hn,hd)⟩=true) (hb64:Bx64 ⟨bt,bn,(wn,wd),(hn,hd)⟩) :
  Calls Tryz.prog 32 #[.agg #[.int .i64 id,.int .i64 pa,.string ⟨tg.toArray⟩,.slice a n c,.slice none 0 0,.int .i64 bt,.string ⟨bn.toArray⟩,.int .i64 wn,.int .i64 wd,.int .i64 hn,.int .i64 hd],.int .i64 last] w fun x w'=>x=.returned (.int .i64 0)∧Below w.heap.size w w':=by
 obtain⟨n1,l1⟩:=box_new' w 57 #[.int .i64 id,.int .i64 pa,.string ⟨tg.toArray⟩,.slice a n c,.slice none 0 0,.int .i64 bt,.string ⟨bn.toArray⟩,.int .i64 wn,.int .i64 wd,.int .i64 hn,.int .i64 hd];obtain⟨g,hg⟩:∃ g,w.heap.size=g:=⟨_,rfl⟩;rw[hg]at n1;have H1:=Lib.hid n1;have HB:=Lib.hid l1
 have hmn:=fun wx=>mayName_any tg wx ht63
 rw[ht]at hmn;have HMN:=Lib.hid hmn
 have hmb:=fun wx=>show Calls Tryz.prog 39 #[.agg #[.int .i64 bt,.string ⟨bn.toArray⟩,.int .i64 wn,.int .i64 wd,.int .i64 hn,.int .i64 hd]] wx _ from mayBox_any ⟨bt,bn,(wn,wd),(hn,hd)⟩ wx hb64
 rw[hb]at hmb;have HMB:=Lib.hid hmb
 have k0:decide (id<(0:Int))=false:=by simp;omega
 have k1:decide ((1073741824:Int)<id)=false:=by simp;omega
 have k2:decide (id≤last)=false:=by simp;omega
 clear n1 l1 hmn hmb h0 h1 h2 ht ht63 hb hb64
 go_enter Tryz.func32,Tryz.ntmps32
 go_upto_region 1 with fail
 try simp only[hg]
 clear hg;generalize World.alloc w _=wa at *;obtain⟨z0,fz0,z1,fz1,z2,fz2,z3,fz3,z4,fz4,z5,fz5,z6,fz6,z7,fz7,z8,fz8,z9,fz9,z10,fz10,lz⟩:=H1.out.el11;go_wp2_with fail
 ((with_reducible refine(HMN.out _).mono ?_);rintro e wb ⟨rfl,hbb⟩)
 have H2:=Lib.hid (H1.out.below hbb H1.out.lt);have HB2:=bfH' HB hbb;clear z0 fz0 z1 fz1 z2 fz2 z3 fz3 z4 fz4 z5 fz5 z6 fz6 z7 fz7 z8 fz8 z9 fz9 z10 fz10 lz H1 HB hbb HMN k0 k1 k2;obtain⟨z0,fz0,z1,fz1,z2,fz2,z3,fz3,z4,fz4,z5,fz5,z6,fz6,z7,fz7,z8,fz8,z9,fz9,z10,fz10,lz⟩:=H2.out.el11;go_wp2_with fail
 go_loopg [35] 0 (fun q s wx=>s=.int .i64 0∧wx=wb)
 case atStart=>exact⟨rfl,rfl⟩
 case round =>
  obtain⟨rfl,rfl⟩:=hrel;go_wp2_with fail
  ((with_reducible refine(HMB.out _).mono ?_);rintro e wc ⟨rfl,hbc⟩)
  have HB3:=bfH' HB2 hbc;go_wp2_with fail;go_ret;exact⟨rfl,HB3.out⟩
set_option maxRecDepth 20000 in
set_option maxHeartbeats 4000000 in
theorem ints8_any {w:World} {oa ob:Option Addr} {n ca cb a b:Nat} {xs:List Int} (ha:Sl w oa n ca a 0 1 (intV xs)) (hb:Sl w ob n cb b 0 1 (intV xs)) (hn:n≤1000) :
  Calls Tryz.prog 17 #[.slice oa n ca,.slice ob n cb] w fun x w'=>x=.returned (.bool true)∧Below w.heap.size w w':=by
 have hl:xs.length=n:=by
  have:=ha.len;unfold intV at this;rw[List.length_map]at this;omega
 have HA:=Lib.hid ha;have HB:=Lib.hid hb;have H0:=Lib.hid (Below.refl w.heap.size w);have HL:=Lib.hid hl;clear ha hb hl
 go_enter Tryz.func17,Tryz.ntmps17
 go_wp2_with fail
 go_loopg [13] n (fun q s13 wr=>∃ i:Nat,s13=.int .i64 (i:Int)∧Hid (Below w.heap.size w wr)∧i≤n∧n-i≤q)
 case atStart=>exact⟨0,rfl,H0,Nat.zero_le _,by omega⟩
 case round =>
  clear H0;obtain⟨i,rfl,HBw,hin,hq⟩:=hrel
  by_cases hi:i<n
  · have gi:decide ((i:Int)<(n:Int))=true:=by simpa using hi
    have gin:decide (i<n)=true:=by simpa using hi
    obtain⟨x,hx⟩:∃ x,xs[i]?=some x:=⟨_,List.getElem?_eq_getElem (by rw[HL.out];exact hi)⟩
    have hv:(intV xs)[i]?=some (.int .i64 x):=by unfold intV;rw[List.getElem?_map,hx];rfl
    have hra:=HA.out.below HBw.out;have hrb:=HB.out.below HBw.out;obtain⟨rfl,la⟩:=hra.lies (by omega);obtain⟨rfl,lb⟩:=hrb.lies (by omega);have c0:=hra.cell i _ hv;have c1:=hrb.cell i _ hv;rw[Nat.zero_add]at c0 c1;clear hra hrb hv hx;go_wp2_with fail;refine wp_region_grow (by kernel_rfl) (by kernel_rfl) ?_
    repeat (go_big_quiet_step (fail))
    refine wpQuiet_nil ?_;rintro _ ⟨m,rfl⟩;have HBg:=Lib.hid (below_grow HBw.out m);clear c0 c1 la lb HBw;generalize grow wr m=wg at *;go_wp2_with fail
    go_roundg (n-(i+1))
    case measure=>omega
    case rel=>exact⟨i+1,by go_num,HBg,hi,Nat.le_refl _⟩
  · obtain rfl:i=n:=by omega
    have gi:decide ((i:Int)<(i:Int))=false:=by simp
    have gin:decide (i<i)=false:=by simp
    go_wp2_with fail;go_ret;exact⟨rfl,HBw.out⟩
end Go.Proofs.YtnbkbenkhkinoaaGreatDoor
