/- Of my texts: Unit, CalcA, KindM, FeatM, MedA, KindC, TurnM, CalcB, FeatH, CdG, CnP, AwP. -/
import Derived.Test.YtnbkbenkhkinoaaGreatDoorM04
import Derived.Test.YtnbkbenkhkinoaaGreatDoorM05
import Derived.Test.YtnbkbenkhkinoaaGreatDoorM14
import Derived.Test.YtnbkbenkhkinoaaGreatDoorM17
import Derived.Test.YtnbkbenkhkinoaaGreatDoorM20
import Derived.Test.YtnbkbenkhkinoaaGreatDoorM21
import Derived.Test.YtnbkbenkhkinoaaGreatDoorM22
import Derived.Test.YtnbkbenkhkinoaaGreatDoorM23
namespace Go.Proofs.YtnbkbenkhkinoaaGreatDoor
set_option linter.unusedVariables false
set_option linter.unusedSimpArgs false
open Go.RowKit
set_option maxRecDepth 20000 in
set_option maxHeartbeats 4000000 in
theorem csmall_any (m:List UInt8) (w:World) (hm:m.length≤9223372036854775807) :
  Calls Tryz.prog 243 #[.string ⟨m.toArray⟩] w fun e w'=>e=.returned (.string ⟨(lowS m).toArray⟩)∧Below w.heap.size w w':=by
 obtain⟨cap,w1,hrun,hb1,hbl⟩:=bytes_made m w;obtain⟨N,hN⟩:∃ N,m.length=N:=⟨_,rfl⟩;rw[hN]at hrun hm;have HN:=Lib.hid hN;obtain⟨g,hg⟩:∃ g,w.heap.size=g:=⟨_,rfl⟩;rw[hg]at hrun hb1 hbl ⊢;have HB0:=Lib.hid hb1;have HBL:=Lib.hid hbl;clear hN hb1 hbl hg
 go_enter Tryz.func243,Tryz.ntmps243
 go_wp2_with fail
 go_loopg [10] N (fun q s10 wr=>∃ (i:Nat),s10=.int .i64 i∧Hid (Below g w wr)∧Hid (Bl wr g (lowG m i))∧i≤N∧N-i≤q)
 case atStart=>exact⟨0,rfl,HB0,HBL,Nat.zero_le _,by omega⟩
 case round =>
  clear HB0 HBL hrun;obtain⟨i,rfl,hb,hbl,hiN,hq⟩:=hrel
  by_cases hi:i<N
  · have gi:decide ((i:Int)<(N:Int))=true:=by simpa using hi
    have gin:decide (i<N)=true:=by simpa using hi
    have him:i<m.length:=by rw[HN.out];exact hi
    have hcell:=hbl.out.cell i _ (lowG_at him);have hfree:=hbl.out.free i (by rw[lowG_len];exact him);have hlt:=hbl.out.lt;have hst:=lowG_step him;obtain⟨c,hc⟩:∃ c,m[i]=c:=⟨_,rfl⟩;rw[hc]at hcell hst;have hc256:=UInt8.toNat_lt c;have hset:=hbl.out.set (i:=i) (by rw[lowG_len];exact him) (lowB c);rw[← hst]at hset
    by_cases hup:65≤c.toNat∧c.toNat≤90
    · rw[lowB_up hup]at hset;obtain⟨n,hn⟩:∃ n,c.toNat=n:=⟨_,rfl⟩;rw[hn]at hcell hset hup hc256
      have g1:decide ((65:Int)≤(n:Int))=true:=by simp;omega
      have e97:(n:Int)+97-65=(n:Int)+32:=by omega
      have g2:decide ((n:Int)≤(90:Int))=true:=by simp;omega
      have HS:=Lib.hid hset;clear hset hst hc hn hbl;go_wp2_with fail
      go_roundg (N-(i+1))
      case measure=>omega
      case rel=>exact⟨i+1,by go_num,Lib.hid (hb.out.setCell (by simp) _),Lib.hid (by have:=HS.out;simpa using this),hi,Nat.le_refl _⟩
    · have hsame:lowG m (i+1)=lowG m i:=by
       rw[hst,lowB_same hup]
       refine List.ext_getElem? fun j=>?_
       by_cases hj:i=j
       · subst hj;rw[List.getElem?_set_self (by rw[lowG_len];exact him),lowG_at him,hc]
       · rw[List.getElem?_set_ne hj]
      obtain⟨n,hn⟩:∃ n,c.toNat=n:=⟨_,rfl⟩;rw[hn]at hcell hup hc256
      have ways:decide ((65:Int)≤(n:Int))=false∨decide ((65:Int)≤(n:Int))=true∧decide ((n:Int)≤(90:Int))=false:=by
       by_cases h:65≤n
       · exact Or.inr ⟨by simp;omega,by simp;omega⟩
       · exact Or.inl (by simp;omega)
      have HBL2:=Lib.hid (show Bl wr g (lowG m (i+1)) by rw[hsame];exact hbl.out);clear hset hst hc hn hbl hsame
      rcases ways with g1 | ⟨g1,g2⟩
      all_goals
       go_wp2_with fail
       go_roundg (N-(i+1))
       case measure=>omega
       case rel=>exact⟨i+1,by go_num,hb,HBL2,hi,Nat.le_refl _⟩
  · obtain rfl:i=N:=by omega
    have gi:decide ((i:Int)<(i:Int))=false:=by simp
    have gin:decide (i<i)=false:=by simp
    have htx:=hbl.out.text cap;rw[lowG_len,HN.out]at htx
    have hall:lowG m i=lowS m:=by rw[← HN.out,lowG_all]
    rw[hall]at htx;clear hbl hall;go_wp2_with fail;go_ret;exact⟨rfl,hb.out⟩
theorem unitF_le (s:List UInt8):unitF s≤7:=by
 unfold unitF unitsS;simp only[unitG]
 repeat (first|split|omega)
def unitsV:Array Value:=#[.string ⟨#[112,120]⟩,.string ⟨#[101,109]⟩,.string ⟨#[114,101,109]⟩,.string ⟨#[118,119]⟩,.string ⟨#[118,104]⟩,.string ⟨#[99,113,119]⟩,.string ⟨#[99,113,104]⟩]
theorem unitsV_at {i:Nat} (h:i<7):unitsV.toList[i]?=some (.string ⟨(unitsS[i]'(by simpa[unitsS] using h)).toArray⟩):=by
 match i,h with
 | 0,_=>rfl
 | 1,_=>rfl
 | 2,_=>rfl
 | 3,_=>rfl
 | 4,_=>rfl
 | 5,_=>rfl
 | 6,_=>rfl
set_option maxHeartbeats 1000000 in
theorem unitNames_any (w:World):Calls Tryz.prog 254 #[] w fun e w'=>e=.returned (.slice (some ⟨w.heap.size,0,none⟩) 7 7)∧w'=w.alloc (.cells unitsV 9):=by
 go_enter Tryz.func254,Tryz.ntmps254
 go_wp2_with fail;go_ret;exact⟨rfl,rfl⟩
set_option maxRecDepth 20000 in
set_option maxHeartbeats 4000000 in
theorem cunit_any (s:List UInt8) (w:World) (hs:s.length≤9223372036854775807) :
  Calls Tryz.prog 242 #[.string ⟨s.toArray⟩] w fun e w'=>e=.returned (.int .i64 (unitF s))∧Below w.heap.size w w':=by
 have HSM:=Lib.hid (fun w=>csmall_any s w hs);obtain⟨X,hX⟩:∃ X,lowS s=X:=⟨_,rfl⟩
 have hU:unitF s=unitG X (unitsS.drop 0) 1:=by unfold unitF;rw[hX];rfl
 obtain⟨U,hU2⟩:∃ U,unitF s=U:=⟨_,rfl⟩;rw[hU2]at hU ⊢;rw[hX]at HSM;have HU:=Lib.hid hU;clear hU hU2 hX hs
 go_enter Tryz.func242,Tryz.ntmps242
 go_wp2_with fail
 ((with_reducible refine(unitNames_any w).mono ?_);rintro e w' ⟨rfl,rfl⟩)
 have hbx:Blk (w.alloc (.cells unitsV 9)) w.heap.size 9 unitsV:=Blk.new _ _ _;have hb0:=Lib.hid (below_box w (.cells unitsV 9));have HBX:=Lib.hid hbx;clear hbx;obtain⟨g,hg⟩:∃ g,w.heap.size=g:=⟨_,rfl⟩;have HG:=Lib.hid hg;rw[hg]at HBX hb0;simp only[hg];clear hg;generalize w.alloc _=w0 at *;go_wp2_with fail
 go_loopg [7] 7 (fun q s7 wr=>∃ (i:Nat),s7=.int .i64 i∧i≤7∧Hid (Below w0.heap.size w0 wr)∧Hid (U=unitG X (unitsS.drop i) (i+1))∧7-i≤q)
 case atStart=>exact⟨0,rfl,by omega,Lib.hid (Below.refl _ _),HU,by omega⟩
 case round =>
  obtain⟨i,rfl,hi7,hb,hu,hq⟩:=hrel
  by_cases hi:i<7
  · have gi:decide ((i:Int)<(7:Int))=true:=by simp;omega
    have gin:decide (i<7)=true:=by simpa using hi
    have hiu:i<unitsS.length:=hi;have hbr:=HBX.out.below hb.out HBX.out.lt
    have hc:wr.cell? ⟨g,i,none⟩=some (.string ⟨(unitsS[i]).toArray⟩):=by rw[hbr.cell i];simpa using unitsV_at hi
    have hlt:=hbr.lt;have hu2:=hu.out;rw[List.drop_eq_getElem_cons hiu,unitG]at hu2;obtain⟨n,hn⟩:∃ n,unitsS[i]=n:=⟨_,rfl⟩;rw[hn]at hc hu2;have HU2:=Lib.hid hu2;clear hu hu2 hn hbr hiu;go_wp2_with fail;go_wp2_with fail
    ((with_reducible refine(HSM.out _).mono ?_);rintro e w' ⟨rfl,hbw⟩)
    obtain⟨m,rfl⟩:=grow_mk hbw;clear hbw
    by_cases he:X=n
    · have g1:(n==X)=true:=by rw[he];simp
      have hUe:=HU2.out;rw[if_pos he]at hUe;have HUE:=Lib.hid hUe;clear HU2 he hUe;go_wp2_with fail;go_ret;exact⟨by rw[HUE.out];go_num,by rw[HG.out];exact hb0.out.trans (Below.mono (below_grow hb.out m) (by have:=hb0.out.size;have:=HG.out;omega))⟩
    · have g1:(n==X)=false:=by simpa using Ne.symm he
      have hUe:=HU2.out;rw[if_neg he]at hUe;have HUE:=Lib.hid hUe;clear HU2 he hUe;go_wp2_with fail
      go_roundg (7-(i+1))
      case measure=>omega
      case rel=>exact⟨i+1,by go_num,hi,Lib.hid (below_grow hb.out m),HUE,Nat.le_refl _⟩
  · obtain rfl:i=7:=by omega
    have gi:decide ((7:Int)<(7:Int))=false:=by simp
    go_wp2_with fail;go_ret;exact⟨by rw[hu.out];rfl,by rw[HG.out];exact hb0.out.trans (Below.mono hb.out (by have:=hb0.out.size;have:=HG.out;omega))⟩
mutual
def Ex.c:Ex→Et
 | .mk k n d u _ _ _ _ kids=>.mk k n d u (Ex.cs kids)
def Ex.cs:List Ex→List Et
 | []=>[]
 | x::r=>x.c::Ex.cs r
end
theorem Ex.cs_map:∀ l:List Ex,Ex.cs l=l.map Ex.c
 | []=>rfl
 | x::r=>by rw[Ex.cs,Ex.cs_map r];rfl
theorem Ex.c_mk (k n d u:Int) (oa:Option Addr) (b o cap:Nat) (kids:List Ex):(Ex.mk k n d u oa b o cap kids).c=.mk k n d u (kids.map Ex.c):=by rw[Ex.c,Ex.cs_map]
theorem xcells_length (x:Ex):(xcells x).length=5:=by cases x;rfl
theorem ExIn.of_sl {w:World} {h:Nat} {k n d u:Int} {oa:Option Addr} {b cap:Nat} {l:List Ex} (hk:I64 k) (hn:Is64 (n,d)) (hu:I64 u) (hl:l.length*56≤140737488355328) (hs:Sl w oa l.length cap b 0 5 (l.flatMap xcells)) (he:∀ x∈l,ExIn w h x):ExIn w (h+1) (.mk k n d u oa b 0 cap l) :=
 ⟨hk,hn,hu,hs.le,hs.max,hl,hs.lies,fun i x hi=>⟨fun j v hv=>by
   have:=hs.cell _ _ (flat_at xcells_length l i x j v hi hv);rw[show 0+i*5+j=0+(i*5+j) by omega]
   exact this,he x (List.mem_of_getElem? hi)⟩⟩
theorem ExIn.made {A:Nat→Prop} {w:World} {h:Nat} {k n d u:Int} {oa:Option Addr} {b cap:Nat} {l:List Ex} (hk:I64 k) (hn:Is64 (n,d)) (hu:I64 u) (hl:l.length*56≤140737488355328) (hs:Sl w oa l.length cap b 0 5 (l.flatMap xcells)) (hA:0<l.length→¬ A b)
 (he:Safe A w fun w=>∀ x∈l,ExIn w h x):Safe A w fun w=>ExIn w (h+1) (.mk k n d u oa b 0 cap l):=fun w' g1 g2=>.of_sl hk hn hu hl ((hs.safe hA) w' g1 g2) (he w' g1 g2)
theorem ExIn.leaf {A:Nat→Prop} {w:World} {k n d u:Int} (hk:I64 k) (hn:Is64 (n,d)) (hu:I64 u):Safe A w fun w=>ExIn w 1 (.mk k n d u none 0 0 0 []):=fun w' _ _ =>
 .of_sl (h:=0) hk hn hu (by simp) ⟨rfl,Nat.le_refl _,Nat.zero_le _,fun h=>absurd h (by simp),fun j v h=>by simp at h⟩ (fun x hx=>by cases hx)
def isEx (A:Nat→Prop) (E:Et) (v:Value) (w:World):Prop:=∃ (x:Ex) (h:Nat),v=xv x∧x.c=E∧Safe A w fun w=>ExIn w h x
def isE5 (v:Value):Prop:=∃ (k n d u:Int) (oa:Option Addr) (L cap:Nat),v=.agg #[.int .i64 k,.int .i64 n,.int .i64 d,.int .i64 u,.slice oa L cap]
theorem isE5_xv (x:Ex):isE5 (xv x):=by obtain⟨k,n,d,u,oa,b,o,cap,kids⟩:=x;exact⟨k,n,d,u,oa,kids.length,cap,rfl⟩
theorem isEx.e5 {A:Nat→Prop} {E:Et} {v:Value} {w:World} (h:isEx A E v w):isE5 v:=by obtain⟨x,_,rfl,_⟩:=h;exact isE5_xv x
theorem isEx.anti {A A':Nat→Prop} {E:Et} {v:Value} {w:World} (h:isEx A E v w) (hA:∀ b,A' b→A b∨w.heap.size≤b):isEx A' E v w:=by
 obtain⟨x,hh,hv,hc,hs⟩:=h;exact⟨x,hh,hv,hc,hs.wide hA⟩
theorem isEx.grown {A:Nat→Prop} {E:Et} {v:Value} {w w':World} {row:Option Nat} (h:isEx A E v w) (hg:w.grownBy w' row) (hr:∀ k,row=some k→k<w.heap.size→A k):isEx A E v w':=by
 obtain⟨x,hh,hv,hc,hs⟩:=h;exact⟨x,hh,hv,hc,hs.grown hg hr⟩
theorem isEx.below {A:Nat→Prop} {E:Et} {v:Value} {w w':World} (h:isEx A E v w) (hb:Below w.heap.size w w'):isEx A E v w':=h.grown (grownBy_of_below hb none) (fun _ e=>by cases e)
def retE (A:Nat→Prop) (r:Option Et) (e:Ending) (w:World):Prop:=∃ (v:Value) (ok:Bool),e=.returned (.tuple #[v,.bool ok])∧ok=r.isSome∧isE5 v∧∀ E,r=some E→isEx A E v w
theorem Blk.put5 {w:World} {g:Nat} {t:TypeId} {a0 a1 a2 a3 a4:Value} (h:Blk w g t #[a0,a1,a2,a3,a4]) (x0 x1 x2 x3 x4:Value) :
 Blk (((((w.setCell ⟨g,0,none⟩ x0).setCell ⟨g,1,none⟩ x1).setCell ⟨g,2,none⟩ x2).setCell ⟨g,3,none⟩ x3).setCell ⟨g,4,none⟩ x4) g t #[x0,x1,x2,x3,x4]:=((((h.put 0 x0).put 1 x1).put 2 x2).put 3 x3).put 4 x4
theorem below_put5 {B:Nat} {w0 w:World} (h:Below B w0 w) {g:Nat} (hg:B≤g) (x0 x1 x2 x3 x4:Value) :
 Below B w0 (((((w.setCell ⟨g,0,none⟩ x0).setCell ⟨g,1,none⟩ x1).setCell ⟨g,2,none⟩ x2).setCell ⟨g,3,none⟩ x3).setCell ⟨g,4,none⟩ x4):=((((h.setCell hg x0).setCell hg x1).setCell hg x2).setCell hg x3).setCell hg x4
theorem sizeExpr:(Tryz.prog.info? 31).map (·.size)=some 5:=by kernel_rfl
theorem load_ex {w:World} {g:Nat} {t:TypeId} {cs:Array Value} (h:Blk w g t cs) (hs:cs.size=5):(loadVar 31 ⟨g,0,none⟩).run Tryz.prog w=.ok (.agg cs) w :=
 run_loadVar_row w g t _ cs (0,0) _ h Tryz.underlying31 rfl (by rw[hs];exact sizeExpr)
theorem ret_ex {fn:Func} {p:Tmp} {tmps:Array Value} {w:World} {g:Nat} {t:TypeId} {cs:Array Value} (hr:fn.results=#[.cell p 31]) (hp:tmps.getD p undef=.pointer (some ⟨g,0,none⟩)) (h:Blk w g t cs) (hs:cs.size=5):(results fn tmps).run Tryz.prog w=.ok (.agg cs) w :=
 results_cell_row hr tmps w g t cs (0,0) _ hp h Tryz.underlying31 rfl (by rw[hs];exact sizeExpr)
theorem ret_ex2 {fn:Func} {p u:Tmp} {tmps:Array Value} {w:World} {g:Nat} {t:TypeId} {cs:Array Value} {x:Value} (hr:fn.results=#[.cell p 31,.tmp u]) (hp:tmps.getD p undef=.pointer (some ⟨g,0,none⟩)) (hu:tmps.getD u undef=x) (h:Blk w g t cs) (hs:cs.size=5):(results fn tmps).run Tryz.prog w=.ok (.tuple #[.agg cs,x]) w:=by
 rw[results_cell_tmp hr,hp,hu];simp only[asAddr,Sem.run_pure,Result.andThen_ok,load_ex h hs]
theorem i64_small (k:Int) (h:0≤k∧k≤8):I64 k:=by unfold I64;omega
set_option maxHeartbeats 2000000 in
theorem cnumber_any (r:Rt) (u:Int) (w:World) (h64:Is64 r) :
  Calls Tryz.prog 241 #[rv r,.int .i64 u] w fun e w'=>e=.returned (.agg #[.int .i64 1,.int .i64 (cleanR r).1,.int .i64 (cleanR r).2,.int .i64 u,.slice none 0 0])∧Below w.heap.size w w':=by
 have hm:=fun w=>may_any r w h64
 unfold cleanR;obtain⟨n,d⟩:=r;obtain⟨B,hB⟩:∃ B,mayB (n,d)=B:=⟨_,rfl⟩;rw[hB]at hm ⊢;have HM:=Lib.hid hm;clear hm hB h64
 go_enter Tryz.func241,Tryz.ntmps241
 go_wp2_with fail
 ((with_reducible refine(HM.out _).mono ?_);rintro e w' ⟨rfl,hbw⟩)
 obtain⟨m,rfl⟩:=grow_mk hbw;clear hbw;have hb:=Lib.hid (below_grow ((below_box w (.cells #[.int .i64 n,.int .i64 d] 28)).alloc (by simp) (.cells #[.int .i64 0,.int .i64 0,.int .i64 0,.int .i64 0,.slice none 0 0] 31)) m);have h0:=((Blk.new w 28 #[.int .i64 n,.int .i64 d]).old (.cells #[.int .i64 0,.int .i64 0,.int .i64 0,.int .i64 0,.slice none 0 0] 31)).grow m;have h1:=(Blk.new2 w (.cells #[.int .i64 n,.int .i64 d] 28) 31 #[.int .i64 0,.int .i64 0,.int .i64 0,.int .i64 0,.slice none 0 0]).grow m;generalize grow _ m=wa at *;clear m;have ca0:wa.cell? ⟨w.heap.size,0,none⟩=some (.int .i64 n):=(h0).cell 0;have fca0:=(h0).frozen 0;have ca1:wa.cell? ⟨w.heap.size,1,none⟩=some (.int .i64 d):=(h0).cell 1;have fca1:=(h0).frozen 1;have lca:=(h0).lt;have cb0:wa.cell? ⟨w.heap.size+1,0,none⟩=some (.int .i64 0):=(h1).cell 0;have fcb0:=(h1).frozen 0
 have cb1:wa.cell? ⟨w.heap.size+1,1,none⟩=some (.int .i64 0):=(h1).cell 1;have fcb1:=(h1).frozen 1;have cb2:wa.cell? ⟨w.heap.size+1,2,none⟩=some (.int .i64 0):=(h1).cell 2;have fcb2:=(h1).frozen 2;have cb3:wa.cell? ⟨w.heap.size+1,3,none⟩=some (.int .i64 0):=(h1).cell 3;have fcb3:=(h1).frozen 3;have cb4:wa.cell? ⟨w.heap.size+1,4,none⟩=some (.slice none 0 0):=(h1).cell 4;have fcb4:=(h1).frozen 4;have lcb:=(h1).lt;clear h0;have H1:=Lib.hid h1;clear h1
 cases B with
 | true =>
   go_wp2_with fail;have hputs:=(H1.out).put5 (.int .i64 1) (.int .i64 n) (.int .i64 d) (.int .i64 u) (.slice none 0 0);refine bodyPost_ret (v:=.agg #[.int .i64 1,.int .i64 n,.int .i64 d,.int .i64 u,.slice none 0 0]) ?_ rfl ?_
   · refine ret_ex Tryz.results241 ?_ hputs rfl
     all_goals rfl
   · exact⟨rfl,below_put5 hb.out (by simp) _ _ _ _ _⟩
 | false =>
   go_wp2_with fail;have H2:=H1.out.far2 (g':=w.heap.size) (by simp) 0 1 (.int .i64 0) (.int .i64 0);have hputs:=(H2).put5 (.int .i64 1) (.int .i64 0) (.int .i64 0) (.int .i64 u) (.slice none 0 0);refine bodyPost_ret (v:=.agg #[.int .i64 1,.int .i64 0,.int .i64 0,.int .i64 u,.slice none 0 0]) ?_ rfl ?_
   · refine ret_ex Tryz.results241 ?_ hputs rfl
     all_goals rfl
   · exact⟨rfl,below_put5 ((hb.out.setCell (p:=⟨w.heap.size,0,none⟩) (Nat.le_refl _) _).setCell (p:=⟨w.heap.size,1,none⟩) (Nat.le_refl _) _) (by simp) _ _ _ _ _⟩
set_option maxRecDepth 20000 in
set_option maxHeartbeats 4000000 in
theorem csingle_any (A:Nat→Prop) (h:Nat) (k:Int) (oa:Option Addr) (b o cap:Nat) (kids:List Ex) (w:World) (hx:Safe A w fun w=>ExIn w (h+1) (.mk k 0 0 0 oa b o cap kids)) :
  Calls Tryz.prog 263 #[.agg #[.int .i64 k,.int .i64 0,.int .i64 0,.int .i64 0,.slice oa kids.length cap]] w fun e w'=>(∃ v,e=.returned v∧isEx A (single k (kids.map Ex.c)) v w')∧Below w.heap.size w w':=by
 have hin:=hx.here;obtain⟨h1,h2,h3,h4,h5,h6,h7,h8⟩:=hin;have hsm:kids.length≤9223372036854775807:=Nat.le_trans (Nat.le_trans h4 h5) (by decide);have HX:=Lib.hid hx;obtain⟨L,hL⟩:∃ L,kids.length=L:=⟨_,rfl⟩;rw[hL]at hsm ⊢;have HL:=Lib.hid hL
 by_cases h1:L=1
 · subst h1;obtain⟨x,rfl⟩:∃ x,kids=[x]:=List.length_eq_one_iff.1 HL.out;obtain⟨h81,h82⟩:=h8 0 x rfl;obtain⟨rfl,hbl⟩:=h7 (by simp)
   have HE:=Lib.hid (show isEx A x.c (xv x) w from ⟨x,h,rfl,rfl,hx.mono fun w' hw=>by
    obtain⟨_,_,_,_,_,_,_,g8⟩:=hw
    exact(g8 0 x rfl).2⟩)
   obtain⟨k',n',d',u',oa',b',o',cap',kids'⟩:=x;have f0:w.cell? ⟨b,o,none⟩=some (.int .i64 k'):=h81 0 _ rfl;have f1:w.cell? ⟨b,o+1,none⟩=some (.int .i64 n'):=h81 1 _ rfl;have f2:w.cell? ⟨b,o+2,none⟩=some (.int .i64 d'):=h81 2 _ rfl;have f3:w.cell? ⟨b,o+3,none⟩=some (.int .i64 u'):=h81 3 _ rfl;have f4:w.cell? ⟨b,o+4,none⟩=some (.slice oa' kids'.length cap'):=h81 4 _ rfl;clear h81 h82 h8 h7 hL HL hx HX;obtain⟨K',hK'⟩:∃ K',kids'.length=K':=⟨_,rfl⟩;have HE2:=Lib.hid (show isEx A (Ex.mk k' n' d' u' oa' b' o' cap' kids').c (.agg #[.int .i64 k',.int .i64 n',.int .i64 d',.int .i64 u',.slice oa' K' cap']) w by rw[← hK'];exact HE.out);rw[hK']at f4;clear HE hK'
   go_enter Tryz.func263,Tryz.ntmps263
   go_wp2_with fail;have hbb:=(below_box w (.cells #[.int .i64 k,.int .i64 0,.int .i64 0,.int .i64 0,.slice (some ⟨b,o,none⟩) 1 cap] 31)).alloc (by simp) (.cells #[.int .i64 k',.int .i64 n',.int .i64 d',.int .i64 u',.slice oa' K' cap'] 31);have hputs:=Blk.new2 w (.cells #[.int .i64 k,.int .i64 0,.int .i64 0,.int .i64 0,.slice (some ⟨b,o,none⟩) 1 cap] 31) 31 #[.int .i64 k',.int .i64 n',.int .i64 d',.int .i64 u',.slice oa' K' cap'];refine bodyPost_ret (v:=.agg #[.int .i64 k',.int .i64 n',.int .i64 d',.int .i64 u',.slice oa' K' cap']) ?_ rfl ?_
   · refine ret_ex Tryz.results263 ?_ hputs rfl
     all_goals rfl
   · exact⟨⟨_,rfl,HE2.out.below hbb⟩,hbb⟩
 · have g1:((L:Int)==1)=false:=by simp;omega
   have hbb:=(below_box w (.cells #[.int .i64 k,.int .i64 0,.int .i64 0,.int .i64 0,.slice oa L cap] 31)).alloc (by simp) (.cells #[.int .i64 k,.int .i64 0,.int .i64 0,.int .i64 0,.slice oa L cap] 31);have hb1:=Blk.new2 w (.cells #[.int .i64 k,.int .i64 0,.int .i64 0,.int .i64 0,.slice oa L cap] 31) 31 #[.int .i64 k,.int .i64 0,.int .i64 0,.int .i64 0,.slice oa L cap]
   have hs:single k (kids.map Ex.c)=(Ex.mk k 0 0 0 oa b o cap kids).c:=by
    rw[Ex.c_mk]
    match kids,HL.out with
    | [],_=>rfl
    | [x],e=>exact absurd e.symm h1
    | x::y::r,_=>rfl
   have HE:=Lib.hid (show isEx A (single k (kids.map Ex.c)) (.agg #[.int .i64 k,.int .i64 0,.int .i64 0,.int .i64 0,.slice oa L cap]) w from ⟨_,_,by rw[← HL.out];rfl,hs.symm,hx⟩);have HB1:=Lib.hid hb1;have HBB:=Lib.hid hbb;clear hb1 hbb hs hx HX h7 h8 hL h1
   go_enter Tryz.func263,Tryz.ntmps263
   go_wp2_with fail;have hputs:=HB1.out;refine bodyPost_ret (v:=.agg #[.int .i64 k,.int .i64 0,.int .i64 0,.int .i64 0,.slice oa L cap]) ?_ rfl ?_
   · refine ret_ex Tryz.results263 ?_ hputs rfl
     all_goals rfl
   · exact⟨⟨_,rfl,HE.out.below HBB.out⟩,HBB.out⟩
end Go.Proofs.YtnbkbenkhkinoaaGreatDoor
namespace Go.Proofs.YtnbkbenkhkinoaaGreatDoor
set_option linter.unusedVariables false
set_option linter.unusedSimpArgs false
def kindFin (k:Int) (n c:Nat):Int:=if c=0 then 1 else if (k=4∧c=1)∨(k≠4∧k≠5∧c=n) then 2 else 0
def kindG (k:Int) (n:Nat):Nat→List Int→Int
 | c,[]=>kindFin k n c
 | c,x::r=>if x=0 then 0 else kindG k n (if x=2 then c+1 else c) r
mutual
def kindE:Et→Int
 | .mk k _ _ u kids=>if k=1 then (if u=0 then 1 else 2) else kindG k (kindsE kids).length 0 (kindsE kids)
def kindsE:List Et→List Int
 | []=>[]
 | x::r=>kindE x::kindsE r
end
theorem kindsE_map:∀ l:List Et,kindsE l=l.map kindE
 | []=>rfl
 | x::r=>by rw[kindsE,kindsE_map r];rfl
theorem kindE_mk (k n d u:Int) (kids:List Et):kindE (.mk k n d u kids)=if k=1 then (if u=0 then 1 else 2) else kindG k kids.length 0 (kids.map kindE):=by
 rw[kindE,kindsE_map,List.length_map]
theorem kindFin_in (k:Int) (n c:Nat):kindFin k n c=0∨kindFin k n c=1∨kindFin k n c=2:=by
 unfold kindFin;split
 · exact Or.inr (Or.inl rfl)
 · split
   · exact Or.inr (Or.inr rfl)
   · exact Or.inl rfl
theorem kindG_in (k:Int) (n:Nat):∀ (l:List Int) (c:Nat),kindG k n c l=0∨kindG k n c l=1∨kindG k n c l=2
 | [],c=>kindFin_in k n c
 | x::r,c=>by
   rw[kindG];split
   · exact Or.inl rfl
   · exact kindG_in k n r _
theorem kindE_in (e:Et):kindE e=0∨kindE e=1∨kindE e=2:=by
 obtain⟨k,n,d,u,kids⟩:=e;rw[kindE_mk];split
 · split<;>simp
 · exact kindG_in _ _ _ _
def widthS:List UInt8:=[119,105,100,116,104]
def heightS:List UInt8:=[104,101,105,103,104,116]
def ratioS:List UInt8:=[97,115,112,101,99,116,45,114,97,116,105,111]
def colorS:List UInt8:=[99,111,108,111,114]
def inlineS:List UInt8:=[105,110,108,105,110,101,45,115,105,122,101]
def blockS:List UInt8:=[98,108,111,99,107,45,115,105,122,101]
def hoverS:List UInt8:=[104,111,118,101,114]
def orientS:List UInt8:=[111,114,105,101,110,116,97,116,105,111,110]
def pointerS:List UInt8:=[112,111,105,110,116,101,114]
def schemeS:List UInt8:=[112,114,101,102,101,114,115,45,99,111,108,111,114,45,115,99,104,101,109,101]
def motionS:List UInt8:=[112,114,101,102,101,114,115,45,114,101,100,117,99,101,100,45,109,111,116,105,111,110]
def noneS:List UInt8:=[110,111,110,101]
def portraitS:List UInt8:=[112,111,114,116,114,97,105,116]
def landscapeS:List UInt8:=[108,97,110,100,115,99,97,112,101]
def coarseS:List UInt8:=[99,111,97,114,115,101]
def fineS:List UInt8:=[102,105,110,101]
def lightS:List UInt8:=[108,105,103,104,116]
def darkS:List UInt8:=[100,97,114,107]
def nopreS:List UInt8:=[110,111,45,112,114,101,102,101,114,101,110,99,101]
def reduceS:List UInt8:=[114,101,100,117,99,101]
def minDashS:List UInt8:=[109,105,110,45]
def maxDashS:List UInt8:=[109,97,120,45]
def ltS:List UInt8:=[60]
def gtS:List UInt8:=[62]
def eqS:List UInt8:=[61]
def wordsN (n:List UInt8):List (List UInt8) :=
 if n=hoverS then [noneS,hoverS] else if n=orientS then [portraitS,landscapeS] else if n=pointerS then [noneS,coarseS,fineS]
 else if n=schemeS then [lightS,darkS] else if n=motionS then [nopreS,reduceS] else []
def rangedN (n:List UInt8):Bool:=n==widthS||n==heightS||n==ratioS||n==colorS
def knownN (n:List UInt8) (box:Bool):List UInt8 :=
 if box then (if n=inlineS then widthS else if n=blockS then heightS else if n=widthS∨n=heightS∨n=ratioS∨n=orientS then n else [])
 else if rangedN n||decide (0<(wordsN n).length) then n else []
def aloneN (l:List Vt):List UInt8:=match nbs l with
 | [v]=>wordV v
 | _=>[]
def delimV (s:List UInt8) (v:Vt):Bool:=v.tok.kind==9&&v.tok.text==s
def colonV (v:Vt):Bool:=v.tok.kind==16
def ratioE (a b:Et):Et:=.mk 4 0 0 0 [a,.mk 5 0 0 0 [b]]
def zeroPx:Et:=.mk 1 0 1 1 []
def zeroN (l:List Vt):Bool:=match nbs l with
 | [v]=>v.tok.kind==10&&v.tok.num==(0,1)
 | _=>false
section
variable (ex:Vt→Option Et)
def readN (l:List Vt):Option Et:=oneN ex (nbs l)
def ofN (k:Int) (l:List Vt):Option Et:=match readN ex l with
 | some e=>if kindE e=k then some e else none
 | none=>none
def fracN (l:List Vt):Option Et:=match l.findIdx? (delimV slashS) with
 | none=>ofN ex 1 l
 | some i=>match ofN ex 1 (l.take i),ofN ex 1 (l.drop (i+1)) with
   | some a,some b=>some (ratioE a b)
   | _,_=>none
def valueN (n:List UInt8) (l:List Vt):Option Et :=
 if n=colorS then ofN ex 1 l else if n=ratioS then fracN ex l else if zeroN l then some zeroPx else ofN ex 2 l
def opsG:Nat→List Vt→List (Int×Nat×Nat)
 | _,[]=>[]
 | i,[v]=>if delimV eqS v then [(3,i,i+1)] else if delimV ltS v then [(1,i,i+1)] else if delimV gtS v then [(5,i,i+1)] else []
 | i,v::x::r =>
   if delimV eqS v then (3,i,i+1)::opsG (i+1) (x::r)
   else if delimV ltS v then (if delimV eqS x then (2,i,i+2)::opsG (i+2) r else (1,i,i+1)::opsG (i+1) (x::r))
   else if delimV gtS v then (if delimV eqS x then (4,i,i+2)::opsG (i+2) r else (5,i,i+1)::opsG (i+1) (x::r))
   else opsG (i+1) (x::r)
def comparedN (n:List UInt8) (op:Int) (l:List Vt):Option Ct:=if rangedN n then (valueN ex n l).map (cmpC n op) else none
def ptail (n:List UInt8) (op:Int) (l:List Vt) (box:Bool):Option Ct :=
 let m:=knownN n box
 if rangedN m then (valueN ex m l).map (cmpC m op)
 else if m≠[]∧op=3 then (if aloneN l≠[]∧aloneN l∈wordsN m then some (nameWordC m (aloneN l)) else none) else none
def pwordN (n:List UInt8) (l:List Vt) (box:Bool):Option Ct :=
 if minDashS <+: n then ptail ex (n.drop 4) 4 l box else if maxDashS <+: n then ptail ex (n.drop 4) 2 l box else ptail ex n 3 l box
def plainN (l:List Vt) (box:Bool):Option Ct:=match l.findIdx? colonV with
 | none=>none
 | some i=>pwordN ex (aloneN (l.take i)) (l.drop (i+1)) box
def upN (a b:Int):Bool:=(a==1||a==2)&&(b==1||b==2)
def downN (a b:Int):Bool:=(a==5||a==4)&&(b==5||b==4)
def betweenN (l:List Vt) (box:Bool):Option Ct:=match opsG 0 l with
 | [(op,f,t)]=>(match comparedN ex (knownN (aloneN (l.take f)) box) op (l.drop t) with
   | some c=>some c
   | none=>comparedN ex (knownN (aloneN (l.drop t)) box) (6-op) (l.take f))
 | [(op,f,t),(op2,f2,t2)] =>
   (match comparedN ex (knownN (aloneN ((l.take f2).drop t)) box) (6-op) (l.take f),comparedN ex (knownN (aloneN ((l.take f2).drop t)) box) op2 (l.drop t2) with
   | some a,some b=>if upN op op2||downN op op2 then some (.mk 1 [a,b] lt0) else none
   | _,_=>none)
 | _=>none
def featN (v:Vt) (box:Bool):Option Ct:=match v with
 | .mk t k=>if t.kind≠21∨mayV 64 [.mk t k]=false then none
   else if knownN (aloneN (trimV k)) box≠[] then some (boolC (knownN (aloneN (trimV k)) box))
   else match plainN ex (trimV k) box with
    | some c=>some c
    | none=>betweenN ex (trimV k) box
end
section
variable (ex:Vt→Option Et)
end
section
variable (ex:Vt→Option Et)
end
theorem nbs_cons {a:Vt} (r:List Vt) (h:spV a=false):nbs (a::r)=a::nbs r:=by
 unfold nbs;rw[List.filter_cons_of_pos (by simp[h])]
section
variable (ex:Vt→Option Et)
end
section
variable (ex:Vt→Option Et)
end
end Go.Proofs.YtnbkbenkhkinoaaGreatDoor
namespace Go.Proofs.YtnbkbenkhkinoaaGreatDoor
set_option linter.unusedVariables false
set_option linter.unusedSimpArgs false
open Go.RowKit
set_option maxRecDepth 20000 in
set_option maxHeartbeats 4000000 in
theorem smallM_any (m:List UInt8) (w:World) (hm:m.length≤9223372036854775807) :
  Calls Tryz.prog 127 #[.string ⟨m.toArray⟩] w fun e w'=>e=.returned (.string ⟨(lowS m).toArray⟩)∧Below w.heap.size w w':=by
 obtain⟨cap,w1,hrun,hb1,hbl⟩:=bytes_made m w;obtain⟨N,hN⟩:∃ N,m.length=N:=⟨_,rfl⟩;rw[hN]at hrun hm;have HN:=Lib.hid hN;obtain⟨g,hg⟩:∃ g,w.heap.size=g:=⟨_,rfl⟩;rw[hg]at hrun hb1 hbl ⊢;have HB0:=Lib.hid hb1;have HBL:=Lib.hid hbl;clear hN hb1 hbl hg
 go_enter Tryz.func127,Tryz.ntmps127
 go_wp2_with fail
 go_loopg [10] N (fun q s10 wr=>∃ (i:Nat),s10=.int .i64 i∧Hid (Below g w wr)∧Hid (Bl wr g (lowG m i))∧i≤N∧N-i≤q)
 case atStart=>exact⟨0,rfl,HB0,HBL,Nat.zero_le _,by omega⟩
 case round =>
  clear HB0 HBL hrun;obtain⟨i,rfl,hb,hbl,hiN,hq⟩:=hrel
  by_cases hi:i<N
  · have gi:decide ((i:Int)<(N:Int))=true:=by simpa using hi
    have gin:decide (i<N)=true:=by simpa using hi
    have him:i<m.length:=by rw[HN.out];exact hi
    have hcell:=hbl.out.cell i _ (lowG_at him);have hfree:=hbl.out.free i (by rw[lowG_len];exact him);have hlt:=hbl.out.lt;have hst:=lowG_step him;obtain⟨c,hc⟩:∃ c,m[i]=c:=⟨_,rfl⟩;rw[hc]at hcell hst;have hc256:=UInt8.toNat_lt c;have hset:=hbl.out.set (i:=i) (by rw[lowG_len];exact him) (lowB c);rw[← hst]at hset
    by_cases hup:65≤c.toNat∧c.toNat≤90
    · rw[lowB_up hup]at hset;obtain⟨n,hn⟩:∃ n,c.toNat=n:=⟨_,rfl⟩;rw[hn]at hcell hset hup hc256
      have g1:decide ((65:Int)≤(n:Int))=true:=by simp;omega
      have e97:(n:Int)+97-65=(n:Int)+32:=by omega
      have g2:decide ((n:Int)≤(90:Int))=true:=by simp;omega
      have HS:=Lib.hid hset;clear hset hst hc hn hbl;go_wp2_with fail
      go_roundg (N-(i+1))
      case measure=>omega
      case rel=>exact⟨i+1,by go_num,Lib.hid (hb.out.setCell (by simp) _),Lib.hid (by have:=HS.out;simpa using this),hi,Nat.le_refl _⟩
    · have hsame:lowG m (i+1)=lowG m i:=by
       rw[hst,lowB_same hup]
       refine List.ext_getElem? fun j=>?_
       by_cases hj:i=j
       · subst hj;rw[List.getElem?_set_self (by rw[lowG_len];exact him),lowG_at him,hc]
       · rw[List.getElem?_set_ne hj]
      obtain⟨n,hn⟩:∃ n,c.toNat=n:=⟨_,rfl⟩;rw[hn]at hcell hup hc256
      have ways:decide ((65:Int)≤(n:Int))=false∨decide ((65:Int)≤(n:Int))=true∧decide ((n:Int)≤(90:Int))=false:=by
       by_cases h:65≤n
       · exact Or.inr ⟨by simp;omega,by simp;omega⟩
       · exact Or.inl (by simp;omega)
      have HBL2:=Lib.hid (show Bl wr g (lowG m (i+1)) by rw[hsame];exact hbl.out);clear hset hst hc hn hbl hsame
      rcases ways with g1 | ⟨g1,g2⟩
      all_goals
       go_wp2_with fail
       go_roundg (N-(i+1))
       case measure=>omega
       case rel=>exact⟨i+1,by go_num,hb,HBL2,hi,Nat.le_refl _⟩
  · obtain rfl:i=N:=by omega
    have gi:decide ((i:Int)<(i:Int))=false:=by simp
    have gin:decide (i<i)=false:=by simp
    have htx:=hbl.out.text cap;rw[lowG_len,HN.out]at htx
    have hall:lowG m i=lowS m:=by rw[← HN.out,lowG_all]
    rw[hall]at htx;clear hbl hall;go_wp2_with fail;go_ret;exact⟨rfl,hb.out⟩
theorem VsIn.row {w:World} {h:Nat} {oa:Option Addr} {cap b o:Nat} {l:List Vl} (hs:VsIn w h oa cap b o l) {i:Nat} {tk tn td:Int} {tt:List UInt8} {ti tid:Bool} {koa:Option Addr} {kb ko kcap:Nat} {kids:List Vl} (hi:l[i]?=some (.mk ⟨tk,tt,(tn,td),ti,tid⟩ koa kb ko kcap kids)) :
  w.cell? ⟨b,o+i*7,none⟩=some (.int .i64 tk)∧w.cell? ⟨b,o+i*7+1,none⟩=some (.string ⟨tt.toArray⟩)∧w.cell? ⟨b,o+i*7+2,none⟩=some (.int .i64 tn)∧w.cell? ⟨b,o+i*7+3,none⟩=some (.int .i64 td)∧w.cell? ⟨b,o+i*7+4,none⟩=some (.bool ti)∧w.cell? ⟨b,o+i*7+5,none⟩=some (.bool tid)∧w.cell? ⟨b,o+i*7+6,none⟩=some (.slice koa kids.length kcap) :=
 row7 fun _ _ hv=>hs.cell hi hv
theorem rangedM_any (n:List UInt8) (w:World):Calls Tryz.prog 124 #[.string ⟨n.toArray⟩] w fun e w'=>e=.returned (.bool (rangedN n))∧w=w':=by
 have e:rangedN n=(n==[119,105,100,116,104]||n==[104,101,105,103,104,116]||n==[97,115,112,101,99,116,45,114,97,116,105,111]||n==[99,111,108,111,114]):=rfl;rw[e];clear e;obtain⟨c0,q0⟩:∃ c,(n==[119,105,100,116,104])=c:=⟨_,rfl⟩;obtain⟨c1,q1⟩:∃ c,(n==[104,101,105,103,104,116])=c:=⟨_,rfl⟩;obtain⟨c2,q2⟩:∃ c,(n==[97,115,112,101,99,116,45,114,97,116,105,111])=c:=⟨_,rfl⟩;obtain⟨c3,q3⟩:∃ c,(n==[99,111,108,111,114])=c:=⟨_,rfl⟩;rw[q0,q1,q2,q3]
 cases c0<;>cases c1<;>cases c2<;>cases c3
 all_goals
  go_enter Tryz.func124,Tryz.ntmps124
  go_wp2_with fail;go_ret;exact⟨rfl,rfl⟩
def Zs (w:World) (v:Value) (D:List (List UInt8)):Prop:=∃ oa cap,v=.slice oa D.length cap∧(D≠[]→∃ b,oa=some ⟨b,0,none⟩∧∀ j x,D[j]?=some x→w.cell? ⟨b,j,none⟩=some (.string ⟨x.toArray⟩))
def strs (D:List (List UInt8)):List Value:=D.map fun x=>.string ⟨x.toArray⟩
theorem zs_new (w:World) (t:TypeId) (D:List (List UInt8)):Zs (w.alloc (.cells (strs D).toArray t)) (.slice (some ⟨w.heap.size,0,none⟩) D.length D.length) D :=
 ⟨_,_,rfl,fun _=>⟨_,rfl,fun j x hj=>by rw[(Blk.new w t (strs D).toArray).cell j];simp[strs,hj]⟩⟩
set_option maxHeartbeats 2000000 in
theorem words_any (n:List UInt8) (w:World):Calls Tryz.prog 125 #[.string ⟨n.toArray⟩] w fun e w'=>(∃ v,e=.returned v∧Zs w' v (wordsN n))∧Below w.heap.size w w':=by
 obtain⟨D,hD⟩:∃ D,wordsN n=D:=⟨_,rfl⟩;rw[hD];unfold wordsN at hD
 by_cases h0:n=hoverS
 · rw[if_pos h0]at hD
   have q0:(n==[104,111,118,101,114])=true:=by rw[h0];rfl
   subst hD;clear h0
   go_enter Tryz.func125,Tryz.ntmps125
   go_wp2_with fail;go_ret;exact⟨⟨.slice (some ⟨w.heap.size,0,none⟩) 2 2,rfl,zs_new w 9 [noneS,hoverS]⟩,below_box _ _⟩
 rw[if_neg h0]at hD;have q0:(n==[104,111,118,101,114])=false:=beq_eq_false_iff_ne.2 h0
 by_cases h1:n=orientS
 · rw[if_pos h1]at hD
   have q1:(n==[111,114,105,101,110,116,97,116,105,111,110])=true:=by rw[h1];rfl
   subst hD;clear h1
   go_enter Tryz.func125,Tryz.ntmps125
   go_wp2_with fail;go_ret;exact⟨⟨.slice (some ⟨w.heap.size,0,none⟩) 2 2,rfl,zs_new w 9 [portraitS,landscapeS]⟩,below_box _ _⟩
 rw[if_neg h1]at hD;have q1:(n==[111,114,105,101,110,116,97,116,105,111,110])=false:=beq_eq_false_iff_ne.2 h1
 by_cases h2:n=pointerS
 · rw[if_pos h2]at hD
   have q2:(n==[112,111,105,110,116,101,114])=true:=by rw[h2];rfl
   subst hD;clear h2
   go_enter Tryz.func125,Tryz.ntmps125
   go_wp2_with fail;go_ret;exact⟨⟨.slice (some ⟨w.heap.size,0,none⟩) 3 3,rfl,zs_new w 9 [noneS,coarseS,fineS]⟩,below_box _ _⟩
 rw[if_neg h2]at hD;have q2:(n==[112,111,105,110,116,101,114])=false:=beq_eq_false_iff_ne.2 h2
 by_cases h3:n=schemeS
 · rw[if_pos h3]at hD
   have q3:(n==[112,114,101,102,101,114,115,45,99,111,108,111,114,45,115,99,104,101,109,101])=true:=by rw[h3];rfl
   subst hD;clear h3
   go_enter Tryz.func125,Tryz.ntmps125
   go_wp2_with fail;go_ret;exact⟨⟨.slice (some ⟨w.heap.size,0,none⟩) 2 2,rfl,zs_new w 9 [lightS,darkS]⟩,below_box _ _⟩
 rw[if_neg h3]at hD;have q3:(n==[112,114,101,102,101,114,115,45,99,111,108,111,114,45,115,99,104,101,109,101])=false:=beq_eq_false_iff_ne.2 h3
 by_cases h4:n=motionS
 · rw[if_pos h4]at hD
   have q4:(n==[112,114,101,102,101,114,115,45,114,101,100,117,99,101,100,45,109,111,116,105,111,110])=true:=by rw[h4];rfl
   subst hD;clear h4
   go_enter Tryz.func125,Tryz.ntmps125
   go_wp2_with fail;go_ret;exact⟨⟨.slice (some ⟨w.heap.size,0,none⟩) 2 2,rfl,zs_new w 9 [nopreS,reduceS]⟩,below_box _ _⟩
 rw[if_neg h4]at hD;have q4:(n==[112,114,101,102,101,114,115,45,114,101,100,117,99,101,100,45,109,111,116,105,111,110])=false:=beq_eq_false_iff_ne.2 h4;subst hD
 go_enter Tryz.func125,Tryz.ntmps125
 go_wp2_with fail;go_ret;exact⟨⟨_,rfl,none,0,rfl,fun h=>absurd rfl h⟩,Below.refl _ _⟩
theorem kind_ways (k:Int) (L c:Nat) :
  (c = 0∧kindFin k L c=1)∨(c≠0∧k=4∧c=1∧kindFin k L c=2)∨(c≠0∧k=4∧c≠1∧kindFin k L c=0)∨(c≠0∧k=5∧kindFin k L c=0) ∨
    (c≠0∧k≠4∧k≠5∧c=L∧kindFin k L c=2)∨(c≠0∧k≠4∧k≠5∧c≠L∧kindFin k L c=0):=by
 unfold kindFin
 by_cases h0:c=0
 · exact Or.inl ⟨h0,if_pos h0⟩
 rw[if_neg h0]
 by_cases h4:k=4
 · by_cases h1:c=1
   · exact Or.inr (Or.inl ⟨h0,h4,h1,if_pos (Or.inl ⟨h4,h1⟩)⟩)
   · exact Or.inr (Or.inr (Or.inl ⟨h0,h4,h1,if_neg (by omega)⟩))
 · by_cases h5:k=5
   · exact Or.inr (Or.inr (Or.inr (Or.inl ⟨h0,h5,if_neg (by omega)⟩)))
   · by_cases hL:c=L
     · exact Or.inr (Or.inr (Or.inr (Or.inr (Or.inl ⟨h0,h4,h5,hL,if_pos (Or.inr ⟨h4,h5,hL⟩)⟩))))
     · exact Or.inr (Or.inr (Or.inr (Or.inr (Or.inr ⟨h0,h4,h5,hL,if_neg (by omega)⟩))))
theorem ret_kind {a b:Int} (h:a=b):(Ending.returned (.int .i64 a))=.returned (.int .i64 b):=by rw[h]
set_option maxRecDepth 20000 in
set_option maxHeartbeats 8000000 in
theorem ckind_any:∀ (h:Nat) (e:Ex) (w:World),ExIn w h e →
  Calls Tryz.prog 227 #[xv e] w fun x w'=>x=.returned (.int .i64 (kindE e.c))∧Below w.heap.size w w':=by
 intro h
 induction h with
 | zero=>exact fun _ _ h=>h.elim
 | succ h ih =>
   intro e w hx;obtain⟨k,n,d,u,oa,b,o,cap,kids⟩:=e;obtain⟨h1,h2,h3,h4,h5,h6,h7,h8⟩:=hx;have hsm:kids.length≤9223372036854775807:=Nat.le_trans (Nat.le_trans h4 h5) (by decide);have HIH:=Lib.hid ih;obtain⟨K,hK⟩:∃ K,kindE (Ex.mk k n d u oa b o cap kids).c=K:=⟨_,rfl⟩;have hK2:=hK;rw[Ex.c_mk,kindE_mk,List.map_map,List.length_map]at hK2;clear ih h1 h2 h3 h6;rw[xv_mk,hK];clear hK
   by_cases hk1:k=1
   · subst hk1;rw[if_pos rfl]at hK2
     by_cases hu:u=0
     · subst hu;rw[if_pos rfl]at hK2;have HK:=Lib.hid hK2;clear hK2 h7 h8 HIH
       go_enter Tryz.func227,Tryz.ntmps227
       go_wp2_with fail;go_ret;exact⟨ret_kind HK.out,below_box _ _⟩
     · rw[if_neg hu]at hK2
       have gu:(u==0)=false:=by simpa using hu
       have HK:=Lib.hid hK2;clear hK2 h7 h8 HIH
       go_enter Tryz.func227,Tryz.ntmps227
       go_wp2_with fail;go_ret;exact⟨ret_kind HK.out,below_box _ _⟩
   rw[if_neg hk1]at hK2
   have gk1:(k==1)=false:=by simpa using hk1
   have HK:=Lib.hid hK2;obtain⟨L,hL⟩:∃ L,kids.length=L:=⟨_,rfl⟩;rw[hL]at hsm h4 h7 HK ⊢;have HL:=Lib.hid hL;clear hK2 hk1 hL;have hY0:K=kindG k L 0 ((kids.drop 0).map (kindE ∘ Ex.c)):=HK.out.symm;have HY0:=Lib.hid hY0;clear hY0
   go_enter Tryz.func227,Tryz.ntmps227
   go_wp2_with fail
   go_loopg [3,15] L (fun kk s3 s15 wr=>∃ (i c:Nat),s3=.int .i64 c∧s15=.int .i64 i∧Hid (Gk w wr 31 #[.int .i64 k,.int .i64 n,.int .i64 d,.int .i64 u,.slice oa L cap])∧i≤L∧c≤i∧Hid (K=kindG k L c ((kids.drop i).map (kindE ∘ Ex.c)))∧L-i≤kk)
   case atStart=>exact⟨0,0,rfl,rfl,Lib.hid ⟨below_box _ _,Blk.new _ _ _⟩,Nat.zero_le _,Nat.le_refl _,HY0,by omega⟩
   case round =>
    obtain⟨i,c,rfl,rfl,hg,hle,hci,hY,hk2⟩:=hrel;have hbel:=Lib.hid hg.out.below
    by_cases hi:i<L
    · have gi:decide ((i:Int)<(L:Int))=true:=by simpa using hi
      have gin:decide (i<L)=true:=by simpa using hi
      have hil:i<kids.length:=by rw[HL.out];exact hi
      have hr:kids[i]?=some kids[i]:=List.getElem?_eq_getElem hil;have hx:=h8 i _ hr;have hdr:kids.drop i=kids[i]::kids.drop (i+1):=List.drop_eq_getElem_cons hil;obtain⟨rfl,hbl⟩:=h7 (by omega);generalize kids[i]=x at *;obtain⟨M,hM⟩:∃ M,kindE x.c=M:=⟨_,rfl⟩;have hM3:=kindE_in x.c;rw[hM]at hM3
      have hX:=fun wx hb=>HIH.out x wx (hx.2.below (w':=wx) _ hb)
      rw[hM]at hX;have hlaw:=hY.out;rw[hdr,List.map_cons,kindG,Function.comp_apply,hM]at hlaw;obtain⟨k',n',d',u',oa',b',o',cap',kids'⟩:=x;obtain⟨K',hK'⟩:∃ K',kids'.length=K':=⟨_,rfl⟩;simp only[xv_mk,hK']at hX;have HX:=Lib.hid hX;have f0:wr.cell? ⟨b,o+i*5,none⟩=some (.int .i64 k'):=(hbel.out.cell hbl).trans (hx.1 0 _ rfl);have f1:wr.cell? ⟨b,o+i*5+1,none⟩=some (.int .i64 n'):=(hbel.out.cell hbl).trans (hx.1 1 _ rfl);have f2:wr.cell? ⟨b,o+i*5+2,none⟩=some (.int .i64 d'):=(hbel.out.cell hbl).trans (hx.1 2 _ rfl);have f3:wr.cell? ⟨b,o+i*5+3,none⟩=some (.int .i64 u'):=(hbel.out.cell hbl).trans (hx.1 3 _ rfl)
      have f4:wr.cell? ⟨b,o+i*5+4,none⟩=some (.slice oa' K' cap'):=by rw[← hK'];exact(hbel.out.cell hbl).trans (hx.1 4 _ rfl)
      have HLW:=Lib.hid hlaw;clear hx hlaw hY hr hdr hil h8 h7 hX hM hK'
      rcases hM3 with rfl|rfl|rfl
      · go_wp2_with fail
        ((with_reducible refine(HX.out _ (hbel.out.alloc hbel.out.size _)).mono ?_);rintro e w' ⟨rfl,hbw⟩)
        obtain⟨m,rfl⟩:=grow_mk hbw;clear hbw;have hK0:=Lib.hid (show K=0 from HLW.out);go_wp2_with fail;go_ret;exact⟨ret_kind hK0.out.symm,below_grow (hbel.out.alloc hbel.out.size _) m⟩
      · go_wp2_with fail
        ((with_reducible refine(HX.out _ (hbel.out.alloc hbel.out.size _)).mono ?_);rintro e w' ⟨rfl,hbw⟩)
        obtain⟨m,rfl⟩:=grow_mk hbw;clear hbw;go_wp2_with fail
        go_roundg (L-(i+1))
        case measure=>omega
        case rel=>exact⟨i+1,c,rfl,by go_num,Lib.hid ⟨below_grow (hbel.out.alloc hbel.out.size _) m,(hg.out.box.old _).grow m⟩,hi,by omega,Lib.hid HLW.out,Nat.le_refl _⟩
      · go_wp2_with fail
        ((with_reducible refine(HX.out _ (hbel.out.alloc hbel.out.size _)).mono ?_);rintro e w' ⟨rfl,hbw⟩)
        obtain⟨m,rfl⟩:=grow_mk hbw;clear hbw;go_wp2_with fail
        go_roundg (L-(i+1))
        case measure=>omega
        case rel=>exact⟨i+1,c+1,by go_num,by go_num,Lib.hid ⟨below_grow (hbel.out.alloc hbel.out.size _) m,(hg.out.box.old _).grow m⟩,hi,by omega,Lib.hid HLW.out,Nat.le_refl _⟩
    · obtain rfl:i=L:=by omega
      have gi:decide ((i:Int)<(i:Int))=false:=by simp
      have gin:decide (i<i)=false:=by simp
      have hKf:K=kindFin k i c:=by
       rw[hY.out,List.drop_eq_nil_of_le (by rw[HL.out];exact Nat.le_refl _)];rfl
      have hbox:=hg.out.box;have cb0:wr.cell? ⟨w.heap.size,0,none⟩=some (.int .i64 k):=(hbox).cell 0;have fcb0:=(hbox).frozen 0;have cb1:wr.cell? ⟨w.heap.size,1,none⟩=some (.int .i64 n):=(hbox).cell 1;have fcb1:=(hbox).frozen 1;have cb2:wr.cell? ⟨w.heap.size,2,none⟩=some (.int .i64 d):=(hbox).cell 2;have fcb2:=(hbox).frozen 2;have cb3:wr.cell? ⟨w.heap.size,3,none⟩=some (.int .i64 u):=(hbox).cell 3;have fcb3:=(hbox).frozen 3;have cb4:wr.cell? ⟨w.heap.size,4,none⟩=some (.slice oa i cap):=(hbox).cell 4;have fcb4:=(hbox).frozen 4;have lcb:=(hbox).lt;have ways:=kind_ways k i c;rw[← hKf]at ways;clear hKf hbox hY hg HK HY0 h8 h7 HIH
      rcases ways with ⟨e0,hK⟩ | ⟨e0,rfl,e1,hK⟩ | ⟨e0,rfl,e1,hK⟩ | ⟨e0,rfl,hK⟩ | ⟨e0,e4,e5,eL,hK⟩ | ⟨e0,e4,e5,eL,hK⟩
      · subst e0;have HK:=Lib.hid hK;clear hK;go_wp2_with fail;go_ret;exact⟨ret_kind HK.out.symm,hbel.out⟩
      · subst e1;have HK:=Lib.hid hK;clear hK;go_wp2_with fail;go_ret;exact⟨ret_kind HK.out.symm,hbel.out⟩
      · have g0:((c:Int)==0)=false:=by simp;omega
        have g1:((c:Int)==1)=false:=by simp;omega
        have HK:=Lib.hid hK;clear hK e0 e1;go_wp2_with fail;go_ret;exact⟨ret_kind HK.out.symm,hbel.out⟩
      · have g0:((c:Int)==0)=false:=by simp;omega
        have HK:=Lib.hid hK;clear hK e0;go_wp2_with fail;go_ret;exact⟨ret_kind HK.out.symm,hbel.out⟩
      · have g0:((c:Int)==0)=false:=by simp;omega
        have g4:(k==4)=false:=by simpa using e4
        have g4n:(k != 4)=true:=by simpa using e4
        have g5:(k==5)=false:=by simpa using e5
        have g5n:(k != 5)=true:=by simpa using e5
        have gL:((c:Int)==(i:Int))=true:=by simp;omega
        have HK:=Lib.hid hK;clear hK e0 e4 e5 eL;go_wp2_with fail;go_ret;exact⟨ret_kind HK.out.symm,hbel.out⟩
      · have g0:((c:Int)==0)=false:=by simp;omega
        have g4:(k==4)=false:=by simpa using e4
        have g4n:(k != 4)=true:=by simpa using e4
        have g5:(k==5)=false:=by simpa using e5
        have g5n:(k != 5)=true:=by simpa using e5
        have gL:((c:Int)==(i:Int))=false:=by simp;omega
        have HK:=Lib.hid hK;clear hK e0 e4 e5 eL;go_wp2_with fail;go_ret;exact⟨ret_kind HK.out.symm,hbel.out⟩
def kindOf (e:Ex):Int×Int:=if mayE 340 e=false then (0,1) else if kindE e.c=0 then (0,4) else (kindE e.c,0)
set_option maxHeartbeats 2000000 in
theorem cKind_any (h:Nat) (e:Ex) (w:World) (hx:ExIn w h e) :
  Calls Tryz.prog 204 #[xv e] w fun x w'=>x=.returned (.tuple #[.int .i64 (kindOf e).1,.int .i64 (kindOf e).2])∧Below w.heap.size w w':=by
 have hC:=fun wx hb=>cMay_any h e wx (hx.below h (w':=wx) hb)
 have hD:=fun wx hb=>ckind_any h e wx (hx.below h (w':=wx) hb)
 unfold kindOf;have hM3:=kindE_in e.c;generalize mayE 340 e=M at *;generalize kindE e.c=K at *;obtain⟨k,n,d,u,oa,b,o,cap,kids⟩:=e;simp only[xv_mk]at hC hD ⊢;have HC:=Lib.hid hC;have HD:=Lib.hid hD;clear hC hD hx
 cases M with
 | false =>
   go_enter Tryz.func204,Tryz.ntmps204
   go_wp2_with fail
   ((with_reducible refine(HC.out _ (below_box _ _)).mono ?_);rintro e w' ⟨rfl,hbw⟩)
   obtain⟨m,rfl⟩:=grow_mk hbw;clear hbw;go_wp2_with fail
   go_ret2
   exact⟨rfl,below_grow (below_box _ _) m⟩
 | true =>
   rcases hM3 with rfl|rfl|rfl
   all_goals
    go_enter Tryz.func204,Tryz.ntmps204
    go_wp2_with fail
    ((with_reducible refine(HC.out _ (below_box _ _)).mono ?_);rintro e w' ⟨rfl,hbw⟩)
    obtain⟨m,rfl⟩:=grow_mk hbw;clear hbw;go_wp2_with fail
    ((with_reducible refine(HD.out _ (below_grow (below_box _ _) m)).mono ?_);rintro e w' ⟨rfl,hbw⟩)
    obtain⟨m2,rfl⟩:=grow_mk hbw;clear hbw;go_wp2_with fail
    go_ret2
    exact⟨rfl,below_grow (below_box _ _) _⟩
end Go.Proofs.YtnbkbenkhkinoaaGreatDoor
namespace Go.Proofs.YtnbkbenkhkinoaaGreatDoor
set_option linter.unusedVariables false
set_option linter.unusedSimpArgs false
def mayT:Nat→Et→Bool
 | 0,_=>false
 | f + 1,.mk k n d u kids=>if k=1 then decide (kids.length=0)&&mayB (n,d)&&decide (0≤u)&&decide (u≤7)
    else (decide (n=0)&&decide (d=0))&&decide (u=0)&&arity k kids.length&&kids.all (mayT f)
theorem mayE_T:∀ (f:Nat) (e:Ex),mayE f e=mayT f e.c
 | 0,_=>rfl
 | f+1,.mk k n d u oa b o cap kids=>by
   rw[Ex.c_mk];unfold mayE mayT;rw[List.length_map,List.all_map]
   congr 2
   apply List.all_congr rfl
   exact fun x=>mayE_T f x
def kindOfT (e:Et):Int×Int:=if mayT 340 e=false then (0,1) else if kindE e=0 then (0,4) else (kindE e,0)
theorem kindOf_T (e:Ex):kindOf e=kindOfT e.c:=by
 unfold kindOf kindOfT;rw[mayE_T]
end Go.Proofs.YtnbkbenkhkinoaaGreatDoor
namespace Go.Proofs.YtnbkbenkhkinoaaGreatDoor
set_option linter.unusedVariables false
set_option linter.unusedSimpArgs false
open Go.RowKit
structure Rd (A:Nat→Prop) (w:World) (R h:Nat) (oa:Option Addr) (cap b o:Nat) (l:List Vl) (i:Nat):Prop where
 blk:Blk w R 297 #[.slice oa l.length cap,.int .i64 i]
 vs:Safe A w fun w=>VsIn w h oa cap b o l
 pos:i≤l.length
 me:A R
structure Mv (w w':World) (R:Nat) (oa:Option Addr) (L cap j:Nat):Prop where
 gb:w.grownBy w' (some R)
 blk:Blk w' R 297 #[.slice oa L cap,.int .i64 j]
section
variable {A:Nat→Prop} {w w' w2:World} {R h:Nat} {oa:Option Addr} {cap b o:Nat} {l:List Vl} {i j:Nat}
theorem Rd.mv (hr:Rd A w R h oa cap b o l i) (hm:Mv w w' R oa l.length cap j) (hj:j≤l.length):Rd A w' R h oa cap b o l j:=⟨hm.blk,hr.vs.grown hm.gb (fun k e _=>by injection e with e;rw[← e];exact hr.me),hj,hr.me⟩
theorem Rd.below (hr:Rd A w R h oa cap b o l i) (hb:Below w.heap.size w w'):Rd A w' R h oa cap b o l i:=⟨hr.blk.below hb hr.blk.lt,hr.vs.below hb,hr.pos,hr.me⟩
theorem Rd.grown {row:Option Nat} (hr:Rd A w R h oa cap b o l i) (hg:w.grownBy w' row) (hA:∀ k,row=some k→A k∨w.heap.size≤k) (hR:row≠some R):Rd A w' R h oa cap b o l i :=
 ⟨(hg.block R hr.blk.lt (Ne.symm hR)).trans hr.blk,hr.vs.grown hg (fun k e hk=>(hA k e).resolve_right (by omega)),hr.pos,hr.me⟩
theorem Rd.only (hr:Rd A w R h oa cap b o l i):Rd (·=R) w R h oa cap b o l i:=⟨hr.blk,hr.vs.anti fun b hb _=>by rw[hb];exact hr.me,hr.pos,rfl⟩
theorem Rd.set (hr:Rd A w R h oa cap b o l i) {j:Nat} (hj:j≤l.length):Rd A (w.setCell ⟨R,1,none⟩ (.int .i64 j)) R h oa cap b o l j:=⟨hr.blk.put 1 _,hr.vs.set hr.me _,hj,hr.me⟩
theorem Mv.refl (hr:Rd A w R h oa cap b o l i):Mv w w R oa l.length cap i:=⟨grownBy_refl _ _,hr.blk⟩
theorem Mv.trans {L:Nat} (h1:Mv w w' R oa L cap i) (h2:Mv w' w2 R oa L cap j):Mv w w2 R oa L cap j:=⟨grownBy_trans h1.gb h2.gb,h2.blk⟩
theorem Mv.set {L:Nat} (h1:Mv w w' R oa L cap i) (j:Nat):Mv w (w'.setCell ⟨R,1,none⟩ (.int .i64 j)) R oa L cap j:=⟨grownBy_trans h1.gb (grownBy_set w' ⟨R,1,none⟩ _),h1.blk.put 1 _⟩
theorem Mv.below {L:Nat} (h1:Mv w w' R oa L cap i) (hb:Below w'.heap.size w' w2):Mv w w2 R oa L cap i:=⟨grownBy_trans h1.gb (grownBy_of_below hb _),h1.blk.below hb h1.blk.lt⟩
theorem Mv.keeps {g:Nat} {t:TypeId} {cs:Array Value} {L:Nat} (h1:Mv w w' R oa L cap i) (hb:Blk w g t cs) (hg:g≠R):Blk w' g t cs:=(h1.gb.block g hb.lt (by simpa using hg)).trans hb
end
theorem blank_step {m:List Vt} {i:Nat} {v:Vt} (h:m[i]?=some v) (hs:spV v=true):blankP m i=blankP m (i+1):=by
 obtain⟨hl,he⟩:=List.getElem?_eq_some_iff.1 h;unfold blankP;rw[List.drop_eq_getElem_cons hl,he,List.takeWhile_cons_of_pos hs,List.length_cons];omega
theorem blank_here {m:List Vt} {i:Nat} {v:Vt} (h:m[i]?=some v) (hs:spV v=false):blankP m i=i:=by
 obtain⟨hl,he⟩:=List.getElem?_eq_some_iff.1 h;unfold blankP;rw[List.drop_eq_getElem_cons hl,he,List.takeWhile_cons_of_neg (by simp[hs])];rfl
theorem blank_past {m:List Vt} {i:Nat} (h:m.length≤i):blankP m i=i:=by
 unfold blankP;rw[List.drop_eq_nil_of_le h];rfl
set_option maxRecDepth 20000 in
set_option maxHeartbeats 4000000 in
theorem cblanks_any (R g4 h:Nat) (oa:Option Addr) (cap b o:Nat) (l:List Vl) (i:Nat) (w:World) (hr:Rd (·=R) w R h oa cap b o l i) (h4:Blk w g4 295 #[.pointer (some ⟨R,0,none⟩)]) (hne:g4≠R) :
  Calls Tryz.prog 265 #[.pointer (some ⟨g4,0,none⟩)] w fun e w'=>e=.returned (.bool (decide (i<blankP (l.map Vl.c) i)))∧Mv w w' R oa l.length cap (blankP (l.map Vl.c) i):=by
 obtain⟨XL,hXL⟩:∃ XL,l.map Vl.c=XL:=⟨_,rfl⟩;obtain⟨N,hN⟩:∃ N,l.length=N:=⟨_,rfl⟩
 have hNX:XL.length=N:=by rw[← hXL,List.length_map,hN]
 rw[hXL,hN];have hsm:=hr.vs.here.small;have hcl:=hr.vs.here.sl.le;have hcm:=hr.vs.here.sl.max;have hiN:=hr.pos;unfold maxLen at hcm;rw[hN]at hsm hcl hiN;have HN:=Lib.hid (And.intro hN (And.intro hXL hNX));have HR:=Lib.hid hr;have H4:=Lib.hid h4;have k0:=hr.blk.cell 0;have k1:=hr.blk.cell 1;have kl:=hr.blk.lt;have m0:=h4.cell 0;have ml:=h4.lt;simp only[List.getElem?_toArray,List.getElem?_cons_zero,List.getElem?_cons_succ]at k0 k1 m0;rw[hN]at k0;clear hr h4 hN hXL hNX
 go_enter Tryz.func265,Tryz.ntmps265
 go_upto_block 0 with fail
 clear k0 k1 m0 kl ml
 go_cut [] (fun wx=>Hid (Mv w wx R oa N cap (blankP XL i))∧Hid (Blk wx g4 295 #[.pointer (some ⟨R,0,none⟩)]))
 case first =>
  go_wp2_with fail
  go_loopg [] N (fun q wr=>∃ (j:Nat),Hid (Mv w wr R oa N cap j)∧Hid (Blk wr g4 295 #[.pointer (some ⟨R,0,none⟩)])∧i≤j∧j≤N∧Hid (blankP XL i=blankP XL j)∧N-j≤q)
  case atStart =>
   exact⟨i,Lib.hid (by have:=Mv.refl HR.out;rw[HN.out.1]at this;exact this),H4,Nat.le_refl _,hiN,Lib.hid rfl,by omega⟩
  case round =>
   obtain⟨j,hm,hbx,hij,hjN,hbl,hq⟩:=hrel;have hmm:=hm.out;rw[← HN.out.1]at hmm;have hr2:=HR.out.mv hmm (by rw[HN.out.1];exact hjN);have k0:=hr2.blk.cell 0;have k1:=hr2.blk.cell 1;have q1:=hr2.blk.frozen 1;have kl:=hr2.blk.lt;have m0:=hbx.out.cell 0;have ml:=hbx.out.lt;simp only[List.getElem?_toArray,List.getElem?_cons_zero,List.getElem?_cons_succ]at k0 k1 m0;rw[HN.out.1]at k0;have ij0:(0:Int)≤(j:Int):=Int.natCast_nonneg _
   by_cases hj:j<N
   · have gj:decide ((j:Int)<(N:Int))=true:=by simpa using hj
     have gjn:decide (j<N)=true:=by simpa using hj
     have ijN:(j:Int)<(N:Int):=by omega
     have hil:j<l.length:=by rw[HN.out.1];exact hj
     have hli:l[j]?=some l[j]:=List.getElem?_eq_getElem hil;have hvs:=hr2.vs.here;obtain⟨rfl,hbl2⟩:=hvs.sl.lies (by omega);obtain⟨x,hx⟩:∃ x,l[j]=x:=⟨_,rfl⟩;rw[hx]at hli
     have hxl:XL[j]?=some x.c:=by rw[← HN.out.2.1,List.getElem?_map,hli];rfl
     obtain⟨t,koa,kb,ko,kcap,kids⟩:=x;have f0:=hvs.cell hli (j:=0) rfl;rw[Nat.add_zero]at f0;obtain⟨tk,tt,⟨tn,td⟩,ti,tid⟩:=t;rw[Vl.c_mk]at hxl;have HXL:=Lib.hid hxl;clear hvs hli hil hx hxl hmm hr2
     by_cases hk:tk=13
     · subst hk;have hst:=blank_step HXL.out rfl;have HST:=Lib.hid hst;clear hst;go_wp2_with fail;refine wp_region_grow (by kernel_rfl) (by kernel_rfl) ?_
       repeat (go_big_quiet_step (fail))
       refine wpQuiet_nil ?_;rintro _ ⟨m,rfl⟩;have hm2:=Lib.hid (Mv.below hm.out (grow_below m));have hbx2:=Lib.hid (hbx.out.grow m);clear k0 k1 q1 kl m0 ml f0 hm hbx;generalize grow _ m=wq at *;have k0:=hm2.out.blk.cell 0;have k1:=hm2.out.blk.cell 1;have q1:=hm2.out.blk.frozen 1;have kl:=hm2.out.blk.lt;have m0:=hbx2.out.cell 0;have ml:=hbx2.out.lt;simp only[List.getElem?_toArray,List.getElem?_cons_zero,List.getElem?_cons_succ]at k0 k1 m0;go_wp2_with fail
       go_roundg (N-(j+1))
       case measure=>omega
       case rel=>exact⟨j+1,Lib.hid (by have:=hm2.out.set (j+1);simpa using this),Lib.hid (hbx2.out.far (p:=⟨R,1,none⟩) hne _),by omega,hj,Lib.hid (by rw[hbl.out,HST.out]),Nat.le_refl _⟩
     · have gk:(tk==(13:Int))=false:=by simpa using hk
       have hst:blankP XL j=j:=blank_here HXL.out (by simpa[spV] using hk);have HST:=Lib.hid hst;clear hst hk;go_wp2_with fail;refine wp_region_grow (by kernel_rfl) (by kernel_rfl) ?_
       repeat (go_big_quiet_step (fail))
       refine wpQuiet_nil ?_;rintro _ ⟨m,rfl⟩;have hm2:=Lib.hid (Mv.below hm.out (grow_below m));have hbx2:=Lib.hid (hbx.out.grow m);clear k0 k1 q1 kl m0 ml f0 hm hbx;generalize grow _ m=wq at *;go_wp2_with fail;go_meet
       case rel=>exact⟨Lib.hid (by rw[hbl.out,HST.out];exact hm2.out),hbx2⟩
   · have gj:decide ((j:Int)<(N:Int))=false:=by simpa using hj
     have gjn:decide (j<N)=false:=by simpa using hj
     have hst:blankP XL j=j:=blank_past (by rw[HN.out.2.2];omega);have HST:=Lib.hid hst;clear hst hmm hr2;go_wp2_with fail;refine wp_region_grow (by kernel_rfl) (by kernel_rfl) ?_
     repeat (go_big_quiet_step (fail))
     refine wpQuiet_nil ?_;rintro _ ⟨m,rfl⟩;have hm2:=Lib.hid (Mv.below hm.out (grow_below m));have hbx2:=Lib.hid (hbx.out.grow m);clear k0 k1 q1 kl m0 ml hm hbx;generalize grow _ m=wq at *;go_wp2_with fail;go_meet
     case rel=>exact⟨Lib.hid (by rw[hbl.out,HST.out];exact hm2.out),hbx2⟩
 case rest =>
  obtain⟨hm,hbx⟩:=hcut;obtain⟨J,hJ⟩:∃ J,blankP XL i=J:=⟨_,rfl⟩;rw[hJ]at hm;have k0:=hm.out.blk.cell 0;have k1:=hm.out.blk.cell 1;have kl:=hm.out.blk.lt;have m0:=hbx.out.cell 0;have ml:=hbx.out.lt;simp only[List.getElem?_toArray,List.getElem?_cons_zero,List.getElem?_cons_succ]at k0 k1 m0;go_wp2_with fail;go_ret;exact⟨by rw[hJ];simp,by rw[hJ];exact hm.out⟩
set_option maxRecDepth 20000 in
set_option maxHeartbeats 8000000 in
theorem csign_any (R h:Nat) (oa:Option Addr) (cap b o:Nat) (l:List Vl) (i:Nat) (s1 s2:List UInt8) (apart:Bool) (w:World) (hr:Rd (·=R) w R h oa cap b o l i) :
  Calls Tryz.prog 262 #[.pointer (some ⟨R,0,none⟩),.string ⟨s1.toArray⟩,.string ⟨s2.toArray⟩,.bool apart] w fun e w'=>e=.returned (.string ⟨(signP (l.map Vl.c) s1 s2 apart i).1.toArray⟩)∧Mv w w' R oa l.length cap (signP (l.map Vl.c) s1 s2 apart i).2:=by
 obtain⟨XL,hXL⟩:∃ XL,l.map Vl.c=XL:=⟨_,rfl⟩;obtain⟨N,hN⟩:∃ N,l.length=N:=⟨_,rfl⟩
 have hNX:XL.length=N:=by rw[← hXL,List.length_map,hN]
 have hsm:=hr.vs.here.small;have hcl:=hr.vs.here.sl.le;have hcm:=hr.vs.here.sl.max;have hiN:=hr.pos;unfold maxLen at hcm;rw[hN]at hsm hcl hiN;obtain⟨j,hj⟩:∃ j,blankP XL i=j:=⟨_,rfl⟩;have hij:=blank_le XL i;have hjN:=blank_len XL (i:=i) (by rw[hNX];exact hiN);rw[hj]at hij hjN;rw[hNX]at hjN;obtain⟨SS,hSS⟩:∃ SS,signP XL s1 s2 apart i=SS:=⟨_,rfl⟩;have hS1:=hSS;unfold signP at hS1;rw[hj]at hS1;rw[hXL,hN,hSS];have HN:=Lib.hid (And.intro hN (And.intro hXL hNX));have hRlt:=hr.blk.lt
 -- the box of the reader
 have hb0:=below_box w (.cells #[.pointer (some ⟨R,0,none⟩)] 295);have h4:=Blk.new w 295 #[.pointer (some ⟨R,0,none⟩)];have HR:=Lib.hid hr;have HR1:=Lib.hid (hr.below hb0);have HB0:=Lib.hid hb0;have H4:=Lib.hid h4;have HJ:=Lib.hid hj;clear hr hb0 h4 hN hXL hNX hj hSS
 go_enter Tryz.func262,Tryz.ntmps262
 go_upto_region 1 with fail
 obtain⟨g4,hg4⟩:∃ g4,w.heap.size=g4:=⟨_,rfl⟩;have HG:=Lib.hid hg4;rw[hg4]at H4 hRlt;simp only[hg4];clear hg4;generalize w.alloc _=w1 at *;have k0:=HR1.out.blk.cell 0;have k1:=HR1.out.blk.cell 1;have kl:=HR1.out.blk.lt;have m0:=H4.out.cell 0;have ml:=H4.out.lt;simp only[List.getElem?_toArray,List.getElem?_cons_zero,List.getElem?_cons_succ]at k0 k1 m0;rw[HN.out.1]at k0
 have hne:g4≠R:=by omega
 have hbl:=cblanks_any R g4 h oa cap b o l i w1 HR1.out H4.out hne;rw[HN.out.1,HN.out.2.1,HJ.out]at hbl;have HBL:=Lib.hid hbl;clear hbl
 go_upto_region 3 with fail
 go_wp2_with fail
 ((with_reducible refine(HBL.out).mono ?_);rintro e w' ⟨rfl,hmv⟩)
 have hmv':=hmv;rw[← HN.out.1]at hmv';have HR2:=Lib.hid (HR1.out.mv hmv' (by rw[HN.out.1];exact hjN));have H42:=Lib.hid (hmv.keeps H4.out hne);have HM:=Lib.hid hmv;clear hmv hmv' k0 k1 kl m0 ml HBL H4;have k0:=HM.out.blk.cell 0;have k1:=HM.out.blk.cell 1;have q1:=HM.out.blk.frozen 1;have kl:=HM.out.blk.lt;have m0:=H42.out.cell 0;have ml:=H42.out.lt;simp only[List.getElem?_toArray,List.getElem?_cons_zero,List.getElem?_cons_succ]at k0 k1 m0;have ij0:(0:Int)≤(j:Int):=Int.natCast_nonneg _
 by_cases hj:j<N
 · have gj:decide ((j:Int)<(N:Int))=true:=by simpa using hj
   have gjn:decide (j<N)=true:=by simpa using hj
   have ijN:(j:Int)<(N:Int):=by omega
   have hil:j<l.length:=by rw[HN.out.1];exact hj
   have hli:l[j]?=some l[j]:=List.getElem?_eq_getElem hil;have hvs:=HR2.out.vs.here;obtain⟨rfl,hbl2⟩:=hvs.sl.lies (by omega);obtain⟨x,hx⟩:∃ x,l[j]=x:=⟨_,rfl⟩;rw[hx]at hli
   have hxl:XL[j]?=some x.c:=by rw[← HN.out.2.1,List.getElem?_map,hli];rfl
   obtain⟨t,koa,kb,ko,kcap,kids⟩:=x;have f0:=hvs.cell hli (j:=0) rfl;have f1:=hvs.cell hli (j:=1) rfl;rw[Nat.add_zero]at f0;obtain⟨tk,tt,⟨tn,td⟩,ti,tid⟩:=t;rw[Vl.c_mk]at hxl;rw[hxl]at hS1;simp only at hS1;clear hvs hli hil hx hxl
   by_cases hk:tk=9
   · subst hk;obtain⟨k,hk2⟩:∃ k,blankP XL (j+1)=k:=⟨_,rfl⟩;have hjk:=blank_le XL (j+1);have hkN:=blank_len XL (i:=j+1) (by rw[HN.out.2.2];omega);rw[hk2]at hjk hkN hS1;rw[HN.out.2.2]at hkN;have HK2:=Lib.hid hk2;have HS1:=Lib.hid hS1;clear hk2 hS1;go_wp2_with fail;refine wp_region_grow (by kernel_rfl) (by kernel_rfl) ?_
     repeat (go_big_quiet_step (fail))
     refine wpQuiet_nil ?_;rintro _ ⟨m,rfl⟩;have hm2:=Lib.hid (Mv.below HM.out (grow_below m));have hb2:=Lib.hid (H42.out.grow m);have hr2:=Lib.hid (HR2.out.below (grow_below m));have hf1:=Lib.hid (((grow_below m).cell (p:=⟨b,o+j*7+1,none⟩) hbl2).trans f1);have hf2:=Lib.hid (Nat.lt_of_lt_of_le hbl2 (grow_size m));clear k0 k1 q1 kl m0 ml HM H42 f0 f1 HR2 hbl2;generalize grow _ m=wq at *;have k0:=hm2.out.blk.cell 0;have k1:=hm2.out.blk.cell 1;have q1:=hm2.out.blk.frozen 1;have kl:=hm2.out.blk.lt;have m0:=hb2.out.cell 0;have ml:=hb2.out.lt;simp only[List.getElem?_toArray,List.getElem?_cons_zero,List.getElem?_cons_succ]at k0 k1 m0;have f1:=hf1.out;have hbl2:=hf2.out;go_wp2_with fail;refine wp_region_grow (by kernel_rfl) (by kernel_rfl) ?_
     repeat (go_big_quiet_step (fail))
     refine wpQuiet_nil ?_;rintro _ ⟨m2,rfl⟩;have hm3:=Lib.hid (Mv.below hm2.out (grow_below m2));have hb3:=Lib.hid (hb2.out.grow m2);have hr3:=Lib.hid (hr2.out.below (grow_below m2));clear k0 k1 q1 kl m0 ml hm2 hb2 hf1 hf2 f1 hbl2 hr2;generalize grow _ m2=wq2 at *;have k0:=hm3.out.blk.cell 0;have k1:=hm3.out.blk.cell 1;have q1:=hm3.out.blk.frozen 1;have kl:=hm3.out.blk.lt;have m0:=hb3.out.cell 0;have ml:=hb3.out.lt;simp only[List.getElem?_toArray,List.getElem?_cons_zero,List.getElem?_cons_succ]at k0 k1 m0
     go_upto_region 7 with fail
     have hm4:=Lib.hid (show Mv w1 (wq2.setCell ⟨R,1,none⟩ (.int .i64 ((j+1:Nat):Int))) R (some ⟨b,o,none⟩) N cap (j+1) from hm3.out.set (j+1));have hb4:=Lib.hid (show Blk (wq2.setCell ⟨R,1,none⟩ (.int .i64 ((j+1:Nat):Int))) g4 295 #[.pointer (some ⟨R,0,none⟩)] from hb3.out.far (p:=⟨R,1,none⟩) hne _);have hr4:=Lib.hid (show Rd (·=R) (wq2.setCell ⟨R,1,none⟩ (.int .i64 ((j+1:Nat):Int))) R h (some ⟨b,o,none⟩) cap b o l (j+1) from hr3.out.set (by rw[HN.out.1];omega));rw[show ((j+1:Nat):Int)=(j:Int)+1 by omega]at hm4 hb4 hr4;clear k0 k1 q1 kl m0 ml hm3 hb3 hr3;generalize wq2.setCell _ _=wq3 at *;have hbl:=cblanks_any R g4 h _ cap b o l (j+1) wq3 hr4.out hb4.out hne;rw[HN.out.1,HN.out.2.1,HK2.out]at hbl;have HBL:=Lib.hid hbl;clear hbl;go_wp2_with fail
     ((with_reducible refine(HBL.out).mono ?_);rintro e w' ⟨rfl,hmv⟩)
     have hm5:=Lib.hid (hm4.out.trans hmv);have hb5:=Lib.hid (hmv.keeps hb4.out hne);clear hmv hm4 hb4 hr4 HBL;have k0:=hm5.out.blk.cell 0;have k1:=hm5.out.blk.cell 1;have q1:=hm5.out.blk.frozen 1;have kl:=hm5.out.blk.lt;have m0:=hb5.out.cell 0;have ml:=hb5.out.lt;simp only[List.getElem?_toArray,List.getElem?_cons_zero,List.getElem?_cons_succ]at k0 k1 m0;have hSf:(9:Int)=9:=rfl
     by_cases hT:(tt=s1∨tt=s2)∧(apart=false∨(i<j∧j+1<k))
     · have HS:=Lib.hid (show SS=(tt,k) by rw[← HS1.out,if_pos ⟨trivial,hT⟩])
       have ways:((tt==s1)=true∨(tt==s1)=false∧(tt==s2)=true)∧(apart=false∨apart=true∧decide (i<j)=true∧decide (j+1<k)=true):=by
        refine⟨?_,?_⟩
        · by_cases h1:tt=s1
          · exact Or.inl (by simp[h1])
          · exact Or.inr ⟨by simp[h1],by rcases hT.1 with h|h<;>first|exact absurd h h1 | simp[h]⟩
        · rcases hT.2 with h|⟨h1,h2⟩
          · exact Or.inl h
          · cases apart
            · exact Or.inl rfl
            · exact Or.inr ⟨rfl,by simpa using h1,by simpa using h2⟩
       clear hT HS1;obtain⟨wa,wb⟩:=ways
       rcases wa with a1 | ⟨a1,a2⟩<;>rcases wb with rfl|⟨rfl,b1,b2⟩
       all_goals
        go_wp2_with fail;go_ret;refine⟨by rw[HS.out];rfl,?_⟩;rw[HS.out];exact⟨grownBy_trans (grownBy_of_below HB0.out _) hm5.out.gb,hm5.out.blk⟩
     · have HS:=Lib.hid (show SS=([],i) by rw[← HS1.out,if_neg (fun e=>hT e.2)])
       have ways:((tt==s1)=false∧(tt==s2)=false)∨(((tt==s1)=true∨(tt==s1)=false∧(tt==s2)=true)∧apart=true∧(decide (i<j)=false∨decide (i<j)=true∧decide (j+1<k)=false)):=by
        by_cases h1:tt=s1∨tt=s2
        · refine Or.inr ⟨?_,?_⟩
          · by_cases h2:tt=s1
            · exact Or.inl (by simp[h2])
            · exact Or.inr ⟨by simp[h2],by rcases h1 with h|h<;>first|exact absurd h h2 | simp[h]⟩
          · cases apart
            · exact absurd ⟨h1,Or.inl rfl⟩ hT
            · refine⟨rfl,?_⟩
              by_cases h3:i<j
              · refine Or.inr ⟨by simpa using h3,?_⟩;simp only[decide_eq_false_iff_not]
                exact fun h4=>hT ⟨h1,Or.inr ⟨h3,h4⟩⟩
              · exact Or.inl (by simpa using h3)
        · exact Or.inl ⟨by simpa using fun e=>h1 (Or.inl e),by simpa using fun e=>h1 (Or.inr e)⟩
       clear hT HS1
       rcases ways with ⟨a1,a2⟩ | ⟨a1 | ⟨a1,a2⟩,rfl,b1 | ⟨b1,b2⟩⟩
       all_goals
        go_wp2_with fail;go_ret;refine⟨by rw[HS.out];rfl,?_⟩;rw[HS.out];exact⟨grownBy_trans (grownBy_of_below HB0.out _) (grownBy_trans hm5.out.gb (grownBy_set _ ⟨R,1,none⟩ _)),by have:=hm5.out.blk.put 1 (.int .i64 i);simpa using this⟩
   · have gk:(tk==(9:Int))=false:=by simpa using hk
     rw[if_neg (fun e=>hk e.1)]at hS1;have HS:=Lib.hid hS1.symm;clear hk hS1;go_wp2_with fail;refine wp_region_grow (by kernel_rfl) (by kernel_rfl) ?_
     repeat (go_big_quiet_step (fail))
     refine wpQuiet_nil ?_;rintro _ ⟨m,rfl⟩;have hm2:=Lib.hid (Mv.below HM.out (grow_below m));have hb2:=Lib.hid (H42.out.grow m);clear k0 k1 q1 kl m0 ml HM H42 f0 f1 hbl2;generalize grow _ m=wq at *;have k0:=hm2.out.blk.cell 0;have k1:=hm2.out.blk.cell 1;have q1:=hm2.out.blk.frozen 1;have kl:=hm2.out.blk.lt;have m0:=hb2.out.cell 0;have ml:=hb2.out.lt;simp only[List.getElem?_toArray,List.getElem?_cons_zero,List.getElem?_cons_succ]at k0 k1 m0;go_wp2_with fail;go_ret;refine⟨by rw[HS.out];rfl,?_⟩;rw[HS.out];exact⟨grownBy_trans (grownBy_of_below HB0.out _) (grownBy_trans hm2.out.gb (grownBy_set _ ⟨R,1,none⟩ _)),by have:=hm2.out.blk.put 1 (.int .i64 i);simpa using this⟩
 · have gj:decide ((j:Int)<(N:Int))=false:=by simpa using hj
   have gjn:decide (j<N)=false:=by simpa using hj
   rw[List.getElem?_eq_none (by rw[HN.out.2.2];omega)]at hS1;have HS:=Lib.hid hS1.symm;clear hS1;go_wp2_with fail;refine wp_region_grow (by kernel_rfl) (by kernel_rfl) ?_
   repeat (go_big_quiet_step (fail))
   refine wpQuiet_nil ?_;rintro _ ⟨m,rfl⟩;have hm2:=Lib.hid (Mv.below HM.out (grow_below m));have hb2:=Lib.hid (H42.out.grow m);clear k0 k1 q1 kl m0 ml HM H42;generalize grow _ m=wq at *;have k0:=hm2.out.blk.cell 0;have k1:=hm2.out.blk.cell 1;have q1:=hm2.out.blk.frozen 1;have kl:=hm2.out.blk.lt;have m0:=hb2.out.cell 0;have ml:=hb2.out.lt;simp only[List.getElem?_toArray,List.getElem?_cons_zero,List.getElem?_cons_succ]at k0 k1 m0;go_wp2_with fail;go_ret;refine⟨by rw[HS.out];rfl,?_⟩;rw[HS.out];exact⟨grownBy_trans (grownBy_of_below HB0.out _) (grownBy_trans hm2.out.gb (grownBy_set _ ⟨R,1,none⟩ _)),by have:=hm2.out.blk.put 1 (.int .i64 i);simpa using this⟩
end Go.Proofs.YtnbkbenkhkinoaaGreatDoor
namespace Go.Proofs.YtnbkbenkhkinoaaGreatDoor
set_option linter.unusedVariables false
set_option linter.unusedSimpArgs false
theorem mayW_app (n:Nat):∀ a b:List Vt,mayV n (a++b)=(mayV n a&&mayV n b)
 | [],b=>by rw[List.nil_append,mayV_nil,Bool.true_and]
 | .mk t k::r,b=>by rw[List.cons_append,mayV_cons,mayV_cons,mayW_app n r b];simp only[Bool.and_assoc]
theorem mayW_up:∀ (n:Nat) (l:List Vt),mayV n l=true→mayV (n+1) l=true:=by
 intro n
 induction n with
 | zero =>
   intro l
   induction l with
   | nil=>exact fun _=>mayV_nil _
   | cons v r ih =>
     obtain⟨t,k⟩:=v;intro h;rw[mayV_cons,Bool.and_eq_true,Bool.and_eq_true]at h ⊢;refine⟨⟨h.1.1,?_⟩,ih h.2⟩;have h2:=h.1.2;split at h2
     · rename_i hc;rw[if_pos hc];exact h2
     · cases h2
 | succ n ihn =>
   intro l
   induction l with
   | nil=>exact fun _=>mayV_nil _
   | cons v r ih =>
     obtain⟨t,k⟩:=v;intro h;rw[mayV_cons,Bool.and_eq_true,Bool.and_eq_true]at h ⊢;refine⟨⟨h.1.1,?_⟩,ih h.2⟩;have h2:=h.1.2;split at h2
     · rename_i hc;rw[if_pos hc];exact h2
     · rename_i hc;rw[if_neg hc];exact ihn k h2
theorem mayW_take {n:Nat} {l:List Vt} (h:mayV n l=true) (i:Nat):mayV n (l.take i)=true∧mayV n (l.drop i)=true:=by
 rw[← List.take_append_drop i l,mayW_app,Bool.and_eq_true]at h;exact h
theorem mayW_trim {n:Nat} {l:List Vt} (h:mayV n l=true):mayV n (trimV l)=true:=by
 have hd:∀ l:List Vt,∃ a,l=a++l.dropWhile spV:=fun l=>⟨l.takeWhile spV,List.takeWhile_append_dropWhile.symm⟩
 obtain⟨a,ha⟩:=hd l;rw[ha,mayW_app,Bool.and_eq_true]at h;obtain⟨b,hb⟩:=hd (frontV l).reverse
 have hb2:frontV l=trimV l++b.reverse:=by
  have:=congrArg List.reverse hb;rwa [List.reverse_reverse,List.reverse_append]at this
 have h2:mayV n (frontV l)=true:=h.2;rw[hb2,mayW_app,Bool.and_eq_true]at h2;exact h2.1
theorem mayW_kids {t:Tk} {k:List Vt} (h:mayV 64 [.mk t k]=true) (hk:t.kind=21):mayV 64 (trimV k)=true:=by
 rw[mayV_cons,hk]at h;simp only[Bool.and_eq_true]at h;have h2:=h.1.2;rw[if_neg (by decide)]at h2;exact mayW_trim (mayW_up 63 _ h2)
def exH (h:Nat) (v:Vt):Option Et:=match exF wholeP h v with
 | some e=>if mayT 340 e then some e else none
 | none=>none
theorem parse_trim {h:Nat} {l:List Vt} (hm:mayV 64 l=true):(parseF wholeP h l).1=oneN (exF wholeP h) (nbs l):=by
 unfold parseF;rw[if_neg (by rw[hm];decide)]
 match ht:trimV l with
 | [] =>
   have hn:nbs l=[]:=by rw[← nbs_trim,ht];rfl
   rw[hn];rfl
 | [v] =>
   have hv:spV v=false:=by have:=trimV_head l;rw[ht]at this;exact this
   have hn:nbs l=[v]:=by rw[← nbs_trim,ht,nbs_cons _ hv];rfl
   rw[hn];have e:oneN (exF wholeP h) [v]=exF wholeP h v:=rfl;rw[e];simp only
   cases exF wholeP h v<;>rfl
 | v::x::r =>
   match hn:nbs l with
   | []=>rfl
   | [y]=>rw[trim_one hn]at ht;cases ht
   | _::_::_=>rfl
def ofH (h:Nat) (k:Int) (l:List Vt):Option Et:=match (parseF wholeP h l).1 with
 | some e=>if (kindOfT e).1=k then some e else none
 | none=>none
theorem ofH_N {h:Nat} {k:Int} {l:List Vt} (hm:mayV 64 l=true) (hk:k≠0):ofH h k l=ofN (exH h) k l:=by
 unfold ofH ofN readN;rw[parse_trim hm]
 match nbs l with
 | []=>rfl
 | _::_::_=>rfl
 | [v] =>
   show (match exF wholeP h v with
    | some e=>if (kindOfT e).1=k then some e else none
    | none=>none)=match exH h v with
    | some e=>if kindE e=k then some e else none
    | none=>none
   unfold exH
   cases exF wholeP h v with
   | none=>rfl
   | some e =>
     simp only;unfold kindOfT
     cases mayT 340 e with
     | false=>simp[Ne.symm hk]
     | true =>
       by_cases h0:kindE e=0
       · simp[h0,Ne.symm hk]
       · simp[h0]
def fracH (h:Nat) (l:List Vt):Option Et:=match l.findIdx? (delimV slashS) with
 | none=>ofH h 1 l
 | some i=>match ofH h 1 (l.take i),ofH h 1 (l.drop (i+1)) with
   | some a,some b=>some (ratioE a b)
   | _,_=>none
def valH (h:Nat) (n:List UInt8) (l:List Vt):Option Et :=
 if n=colorS then ofH h 1 l else if n=ratioS then fracH h l else if zeroN l then some zeroPx else ofH h 2 l
theorem fracH_N {h:Nat} {l:List Vt} (hm:mayV 64 l=true):fracH h l=fracN (exH h) l:=by
 unfold fracH fracN
 cases l.findIdx? (delimV slashS) with
 | none=>exact ofH_N hm (by decide)
 | some i =>
   simp only;rw[ofH_N (k:=1) (mayW_take hm _).1 (by decide),ofH_N (k:=1) (mayW_take hm _).2 (by decide)]
   all_goals (cases ofN (exH h) 1 (l.take i)<;>cases ofN (exH h) 1 (l.drop (i+1))<;>rfl)
theorem valH_N {h:Nat} {l:List Vt} (n:List UInt8) (hm:mayV 64 l=true):valH h n l=valueN (exH h) n l:=by
 unfold valH valueN;rw[ofH_N hm (by decide),ofH_N hm (by decide),fracH_N hm]
def cmpH (h:Nat) (n:List UInt8) (op:Int) (l:List Vt):Option Ct:=if rangedN n then (valH h n l).map (cmpC n op) else none
theorem cmpH_N {h:Nat} {l:List Vt} (n:List UInt8) (op:Int) (hm:mayV 64 l=true):cmpH h n op l=comparedN (exH h) n op l:=by
 unfold cmpH comparedN;rw[valH_N n hm]
end Go.Proofs.YtnbkbenkhkinoaaGreatDoor
namespace Go.Proofs.YtnbkbenkhkinoaaGreatDoor
set_option linter.unusedVariables false
set_option linter.unusedSimpArgs false
open Go.RowKit
def Lf.t (l:Lf):Lt:=⟨l.kind,l.truth,l.name.data.toList,l.op,l.ex.c,l.word.data.toList,l.value.data.toList,l.any⟩
mutual
def Cd.t:Cd→Ct
 | .mk k _ _ _ _ kids leaf=>.mk k (Cd.ts kids) leaf.t
def Cd.ts:List Cd→List Ct
 | []=>[]
 | x::r=>x.t::Cd.ts r
end
theorem Cd.ts_map:∀ l:List Cd,Cd.ts l=l.map Cd.t
 | []=>rfl
 | x::r=>by rw[Cd.ts,Cd.ts_map r];rfl
theorem Cd.t_mk (k:Int) (oa:Option Addr) (b o cap:Nat) (kids:List Cd) (leaf:Lf):(Cd.mk k oa b o cap kids leaf).t=.mk k (kids.map Cd.t) leaf.t:=by rw[Cd.t,Cd.ts_map]
theorem ccells_len (x:Cd):(ccells x).length=14:=by
 obtain⟨k,oa,b,o,cap,kids,⟨k2,t,n,op,⟨a0,a1,a2,a3,a4,a5,a6,a7,a8⟩,w,v,a⟩⟩:=x;rfl
theorem cd_up:∀ (h h':Nat) {w:World} {e:Cd},h≤h'→CdIn w h e→CdIn w h' e:=CdIn.mono
theorem LfIn.mk {w:World} {h:Nat} {l:Lf} (h1:I64 l.kind) (h2:I64 l.truth) (h3:I64 l.op) (hx:ExIn w h l.ex):LfIn w h l:=⟨h1,h2,h3,hx⟩
theorem cdin_made {A:Nat→Prop} {w:World} {h:Nat} {k:Int} {L:Lf} {oa:Option Addr} {b cap:Nat} {l:List Cd} (hk:I64 k) (hl:l.length*8≤140737488355328) (hs:Sl w oa l.length cap b 0 14 (l.flatMap ccells)) (hA:0<l.length→¬ A b)
  (hL:Safe A w fun w=>LfIn w h L) (he:Safe A w fun w=>∀ x∈l,CdIn w h x):Safe A w fun w=>CdIn w (h+1) (.mk k oa b 0 cap l L):=fun w' g1 g2=>by
 have hs':=(hs.safe hA) w' g1 g2;have he':=he w' g1 g2;refine⟨hk,hL w' g1 g2,hs'.le,hs'.max,hl,hs'.lies,fun i x hi=>⟨fun j v hv=>?_,he' x (List.mem_of_getElem? hi)⟩⟩;have:=hs'.cell _ _ (flat_at ccells_len l i x j v hi hv);rw[show 0+i*14+j=0+(i*14+j) by omega];exact this
def isCd (A:Nat→Prop) (C:Ct) (v:Value) (w:World):Prop:=∃ (x:Cd) (h:Nat),v=cv x∧x.t=C∧Safe A w fun w=>CdIn w h x
theorem isCd.anti {A A':Nat→Prop} {C:Ct} {v:Value} {w:World} (h:isCd A C v w) (hA:∀ b,A' b→A b∨w.heap.size≤b):isCd A' C v w:=by
 obtain⟨x,hh,hv,hc,hs⟩:=h;exact⟨x,hh,hv,hc,hs.wide hA⟩
theorem isCd.grown {A:Nat→Prop} {C:Ct} {v:Value} {w w':World} {row:Option Nat} (h:isCd A C v w) (hg:w.grownBy w' row) (hr:∀ k,row=some k→k<w.heap.size→A k):isCd A C v w':=by
 obtain⟨x,hh,hv,hc,hs⟩:=h;exact⟨x,hh,hv,hc,hs.grown hg hr⟩
theorem isCd.below {A:Nat→Prop} {C:Ct} {v:Value} {w w':World} (h:isCd A C v w) (hb:Below w.heap.size w w'):isCd A C v w':=h.grown (grownBy_of_below hb none) (fun _ e=>by cases e)
structure L12 where
 k:Int
 t:Int
 n:ByteArray
 op:Int
 e0:Int
 e1:Int
 e2:Int
 e3:Int
 ea:Option Addr
 en:Nat
 ec:Nat
 w:ByteArray
 v:ByteArray
 a:Bool
def lcell12 (L:L12):List Value:=[.int .i64 L.k,.int .i64 L.t,.string L.n,.int .i64 L.op,.int .i64 L.e0,.int .i64 L.e1,.int .i64 L.e2,.int .i64 L.e3,.slice L.ea L.en L.ec,.string L.w,.string L.v,.bool L.a]
theorem lcells_12 (l:Lf):∃ L:L12,lcells l=lcell12 L:=by
 obtain⟨k2,t,n,op,⟨a0,a1,a2,a3,a4,a5,a6,a7,a8⟩,w,v,a⟩:=l;exact⟨⟨k2,t,n,op,a0,a1,a2,a3,a4,a8.length,a7,w,v,a⟩,rfl⟩
theorem isCd.cells {A:Nat→Prop} {C:Ct} {v:Value} {w:World} (h:isCd A C v w):∃ (k:Int) (oa:Option Addr) (n cap:Nat) (L:L12),v=.agg (.int .i64 k::.slice oa n cap::lcell12 L).toArray:=by
 obtain⟨⟨k,oa,b,o,cap,kids,lf⟩,hh,rfl,hc,hs⟩:=h;obtain⟨L,hL⟩:=lcells_12 lf;refine⟨k,oa,kids.length,cap,L,?_⟩;rw[← hL];rfl
theorem leaf_cd {A:Nat→Prop} {w:World} {E:Et} {x:Ex} {hx:Nat} (k t:Int) (n:ByteArray) (op:Int) (wd vl:ByteArray) (an:Bool) (h1:I64 k) (h2:I64 t) (h3:I64 op) (hc:x.c=E) (hs:Safe A w fun w=>ExIn w hx x) :
  isCd A (leafC ⟨k,t,n.data.toList,op,E,wd.data.toList,vl.data.toList,an⟩) (cv (.mk 4 none 0 0 0 [] ⟨k,t,n,op,x,wd,vl,an⟩)) w :=
 ⟨.mk 4 none 0 0 0 [] ⟨k,t,n,op,x,wd,vl,an⟩,hx+1,rfl,by rw[Cd.t_mk];unfold Lf.t;simp only[hc];rfl,
   cdin_made (i64_small _ (by decide)) (by simp) ⟨rfl,Nat.le_refl _,Nat.zero_le _,fun h=>absurd h (by simp),fun j v h=>by simp at h⟩ (fun h=>absurd h (by simp))
    (hs.mono fun w h=>LfIn.mk h1 h2 h3 h) (fun _ _ _ x hx=>by cases hx)⟩
theorem zero_cd (A:Nat→Prop) (w:World):isCd A zeroCt (cv (.mk 0 none 0 0 0 [] zeroLf)) w:=by
 refine⟨.mk 0 none 0 0 0 [] zeroLf,2,rfl,by rw[Cd.t_mk];rfl,?_⟩;refine cdin_made (h:=1) (i64_small _ (by decide)) (by simp) ⟨rfl,Nat.le_refl _,Nat.zero_le _,fun h=>absurd h (by simp),fun j v h=>by simp at h⟩ (fun h=>absurd h (by simp)) ?_ (fun _ _ _ x hx=>by cases hx)
 exact(ExIn.leaf (A:=A) (k:=0) (n:=0) (d:=0) (u:=0) (i64_small _ (by decide)) (by unfold Is64;decide) (i64_small _ (by decide))).mono fun w h=>LfIn.mk (i64_small _ (by decide)) (i64_small _ (by decide)) (i64_small _ (by decide)) h
end Go.Proofs.YtnbkbenkhkinoaaGreatDoor
namespace Go.Proofs.YtnbkbenkhkinoaaGreatDoor
set_option linter.unusedVariables false
set_option linter.unusedSimpArgs false
def cnT:List UInt8:=[98,32,40,119,105,100,116,104,32,62,32,49,48,101,109,41]
def cnK:List Tk:=[⟨1,[119,105,100,116,104],(0,0),false,false⟩,⟨13,[],(0,0),false,false⟩,⟨9,[62],(0,0),false,false⟩,⟨13,[],(0,0),false,false⟩,⟨12,[101,109],(10,1),true,false⟩]
def cnV:Vt:=.mk ⟨21,[],(0,0),false,false⟩ (cnK.map fun t=>.mk t [])
def csp:Tk:=⟨13,[],(0,0),false,false⟩
def cbt:Tk:=⟨1,[98],(0,0),false,false⟩
theorem cn_may1:mayV 64 [cnV]=true:=by
 simp[cnV,cnK,mayV,closeF]
theorem cn_may2:mayV 64 [.mk csp [],cnV]=true:=by
 simp[cnV,cnK,mayV,closeF,csp]
theorem cn_may:mayV 64 [.mk cbt [],.mk csp [],cnV]=true:=by
 simp[cnV,cnK,mayV,closeF,cbt,csp]
theorem cn_feat:featN (exH 1) cnV true=some (cmpC widthS 5 (.mk 1 10 1 2 [])):=by
 have h:=cn_may1;unfold cnV at h ⊢;unfold featN
 dsimp only
 rw[h,if_neg (by decide),if_neg (by decide +kernel)]
 have e:plainN (exH 1) (trimV (cnK.map fun t=>.mk t [])) true=none:=by kernel_rfl
 rw[e];show betweenN (exH 1) (trimV (cnK.map fun t=>Vt.mk t [])) true=some (cmpC widthS 5 (.mk 1 10 1 2 []))
 kernel_rfl
def awK:List Tk:=[⟨1,[109,105,110,45,119,105,100,116,104],(0,0),false,false⟩,⟨16,[],(0,0),false,false⟩,⟨13,[],(0,0),false,false⟩,⟨12,[112,120],(600,1),true,false⟩]
end Go.Proofs.YtnbkbenkhkinoaaGreatDoor
