/- Of my texts: DmW, DmX. -/
import Derived.Test.YtnbkbenkhkinoaaGreatDoorM10
import Derived.Test.YtnbkbenkhkinoaaGreatDoorM21
import Derived.Test.YtnbkbenkhkinoaaGreatDoorM23
import Derived.Test.YtnbkbenkhkinoaaGreatDoorM25
import Derived.Deep.DeepCutAuto
namespace Go.Proofs.YtnbkbenkhkinoaaGreatDoor
set_option linter.unusedVariables false
set_option linter.unusedSimpArgs false
open Go.RowKit Go.Maps
def ecv (i:Int) (e:Me) (a:Option Addr) (m c:Nat):List Value:=[.int .i64 i,.int .i64 e.parent,.string ⟨e.tag.toArray⟩,.slice a m c,.slice none 0 0]++bxcells e.bx
structure Es (els:List Me) (n:Nat) (xs:List Value) (Q:Option Addr→Nat→Nat→Prop):Prop where
 len:xs.length=n*11
 el:∀ (i:Nat) (e:Me),i<n→els[i]?=some e→∃ (a:Option Addr) (m c:Nat),Q a m c∧∀ (j:Nat) (u:Value),(ecv i e a m c)[j]?=some u→xs[i*11+j]?=some u
theorem Es.mono {els:List Me} {n:Nat} {xs:List Value} {Q Q':Option Addr→Nat→Nat→Prop} (h:Es els n xs Q) (hQ:∀ a m c,Q a m c→Q' a m c):Es els n xs Q' :=
 ⟨h.len,fun i e hi he=>by
   obtain⟨a,m,c,hq,h2⟩:=h.el i e hi he
   exact⟨a,m,c,hQ _ _ _ hq,h2⟩⟩
theorem Es.snoc {els:List Me} {n:Nat} {xs:List Value} {Q:Option Addr→Nat→Nat→Prop} (h:Es els n xs Q) {e:Me} (he:els[n]?=some e) {a:Option Addr} {m c:Nat} (hq:Q a m c):Es els (n+1) (xs++ecv n e a m c) Q:=by
 refine⟨by rw[List.length_append,h.len];show n*11+11=_;omega,fun i f hi hf=>?_⟩
 by_cases hn:i=n
 · subst hn;rw[he]at hf;obtain rfl:=Option.some.inj hf;exact⟨a,m,c,hq,fun j u hu=>by rw[List.getElem?_append_right (by rw[h.len];omega),h.len,Nat.add_sub_cancel_left];exact hu⟩
 · obtain⟨a',m',c',hq',h2⟩:=h.el i f (by omega) hf;refine⟨a',m',c',hq',fun j u hu=>?_⟩;have:=h2 j u hu;rw[List.getElem?_append_left (List.getElem?_eq_some_iff.1 this).1];exact this
theorem Es.nil (els:List Me) (Q:Option Addr→Nat→Nat→Prop):Es els 0 [] Q:=⟨rfl,fun i _ h=>absurd h (Nat.not_lt_zero i)⟩
theorem es_cells {w:World} {oa:Option Addr} {els:List Me} {n k cap b:Nat} {xs:List Value} {Q:Option Addr→Nat→Nat→Prop} (hs:Sl w oa k cap b 0 11 xs) (h:Es els n xs Q) {i:Nat} (hi:i<n) {pa:Int} {tg:List UInt8} {bt:Int} {bn:List UInt8} {wn wd hn hd:Int} {ge:Nat} {ks:Ks} (he:els[i]?=some ⟨pa,tg,⟨bt,bn,(wn,wd),(hn,hd)⟩,ge,ks⟩) :
  ∃ (a:Option Addr) (m c:Nat),Q a m c∧w.cell? ⟨b,i*11,none⟩=some (.int .i64 i)∧w.cell? ⟨b,i*11+1,none⟩=some (.int .i64 pa)∧w.cell? ⟨b,i*11+2,none⟩=some (.string ⟨tg.toArray⟩)∧w.cell? ⟨b,i*11+3,none⟩=some (.slice a m c)∧w.cell? ⟨b,i*11+4,none⟩=some (.slice none 0 0)∧w.cell? ⟨b,i*11+5,none⟩=some (.int .i64 bt)∧w.cell? ⟨b,i*11+6,none⟩=some (.string ⟨bn.toArray⟩)∧w.cell? ⟨b,i*11+7,none⟩=some (.int .i64 wn)∧w.cell? ⟨b,i*11+8,none⟩=some (.int .i64 wd)∧w.cell? ⟨b,i*11+9,none⟩=some (.int .i64 hn)∧w.cell? ⟨b,i*11+10,none⟩=some (.int .i64 hd):=by
 obtain⟨a,m,c,hq,h2⟩:=h.el i _ hi he
 have hc:∀ (j:Nat) (u:Value),(ecv i ⟨pa,tg,⟨bt,bn,(wn,wd),(hn,hd)⟩,ge,ks⟩ a m c)[j]?=some u→w.cell? ⟨b,i*11+j,none⟩=some u:=fun j u hu=>by
  have:=hs.cell _ _ (h2 j u hu);rwa [Nat.zero_add]at this
 exact⟨a,m,c,hq,hc 0 _ rfl,hc 1 _ rfl,hc 2 _ rfl,hc 3 _ rfl,hc 4 _ rfl,hc 5 _ rfl,hc 6 _ rfl,hc 7 _ rfl,hc 8 _ rfl,hc 9 _ rfl,hc 10 _ rfl⟩
theorem elEs:El 42 57 (.agg #[.int .i64 0,.int .i64 0,.string ⟨#[]⟩,.slice none 0 0,.slice none 0 0,.int .i64 0,.string ⟨#[]⟩,.int .i64 0,.int .i64 0,.int .i64 0,.int .i64 0]) 11 136:=⟨Tryz.underlying42,by kernel_rfl,rfl,by decide⟩
theorem KV.lt {w:World} {a:Option Addr} {n c:Nat} (h:KV w a n c) {p:Addr} (hp:a=some p):p.block<w.heap.size:=by
 rcases h with ⟨e,-⟩ | ⟨b,vs,e,-,-,h4,-⟩
 · rw[e]at hp
   cases hp
 · rw[e]at hp
   cases hp
   exact h4
theorem own_next {w w':World} {base:Nat} {e:TypeId} {size:Nat} {v:Value} {n:Nat} {xs:List Value} (h:w.ownsRow base e size v n xs) (hb:Below w.heap.size w w'):w'.ownsRow base e size v n xs:=h.kept (grownBy_of_below hb none) (by cases v.ownBlock<;>simp)
theorem es_next {els:List Me} {n base:Nat} {xs:List Value} {wr wb w3:World} {v:Value} {e:Me} {a:Option Addr} {m c gg:Nat} {o:Obj} {t:TypeId} (hE:Es els n xs (fun a m c=>KV wr a m c∧∀ p,a=some p→v.ownBlock≠some p.block)) (he:els[n]?=some e) (hown:wr.ownsRow base t 11 v n xs)
  (hbb:Below wr.heap.size wr wb) (hk:KV wb a m c) (hf:∀ p,a=some p→wr.heap.size≤p.block) (hg:(wb.alloc o).grownBy w3 v.ownBlock) (hat:v.ownBlock=some gg∨gg=(wb.alloc o).heap.size) :
  Es els (n+1) (xs++ecv n e a m c) (fun a m c=>KV w3 a m c∧∀ p,a=some p→some gg≠some p.block):=by
 have hsz:(wb.alloc o).heap.size=wb.heap.size+1:=by simp
 have key:∀ a m c,KV wb a m c→(∀ p,a=some p→v.ownBlock≠some p.block)→KV w3 a m c∧∀ p,a=some p→some gg≠some p.block:=by
  intro a m c h1 h2;refine⟨(h1.below (below_box wb o)).old hg.size (fun p hp hl=>hg.block _ hl (fun e=>h2 p hp e.symm)),fun p hp e=>?_⟩;have:=h1.lt hp
  rcases hat with hat|hat
  · exact h2 p hp (hat.trans e)
  · have:=Option.some.inj e;omega
 exact(hE.mono (fun a m c ⟨h1,h2⟩=>key a m c (h1.below hbb) h2)).snoc he (key a m c hk (fun p hp e=>by have:=(hown.lt _ e).2;have:=hf p hp;omega))
set_option maxRecDepth 20000 in
set_option maxHeartbeats 8000000 in
theorem elems_any {w:World} {tB mb B:Nat} {els:List Me} (h:Dm w tB mb B els) :
  Calls Tryz.prog 7 #[.pointer (some ⟨tB,0,none⟩)] w fun x w'=>(∃ (oa:Option Addr) (cap b:Nat) (xs:List Value),x=.returned (.slice oa els.length cap)∧Sl w' oa els.length cap b 0 11 xs∧Es els els.length xs (KV w'))∧Below w.heap.size w w':=by
 have hsm:=h.small;have hpos:=h.pos;obtain⟨D,hD,hm⟩:=h.map;obtain⟨k1,kb⟩:=box_new' w 75 #[.map (some mb)];have hsE:=sortedE_any k1 (hm.kept (grownBy_of_below kb none) (fun e=>by cases e)) hD (by rw[List.length_map];omega);rw[List.length_map]at hsE;have HSE:=Lib.hid hsE;have HD:=Lib.hid h;have HKB:=Lib.hid kb;obtain⟨N,hN⟩:∃ N,els.length=N:=⟨_,rfl⟩;rw[hN]at HSE hsm hpos ⊢;have HN:=Lib.hid hN;have t0:w.cell? ⟨tB,0,none⟩=some (.map (some mb)):=(h.tree).cell 0;have ft0:=(h.tree).frozen 0;have t1:w.cell? ⟨tB,1,none⟩=some (.int .i64 0):=(h.tree).cell 1;have ft1:=(h.tree).frozen 1;have t2:w.cell? ⟨tB,2,none⟩=some (.int .i64 (els.length:Int)):=(h.tree).cell 2;have ft2:=(h.tree).frozen 2;have lt:=(h.tree).lt;clear hsE hD hm k1 kb h hN
 go_enter Tryz.func7,Tryz.ntmps7
 go_wp2_with fail
 ((with_reducible refine(keysE_any _ _).mono ?_);rintro e w' ⟨rfl,rfl⟩)
 go_wp2_with fail
 ((with_reducible refine HSE.out.mono ?_);rintro e w1 ⟨v,rfl,hrow,hb1⟩)
 obtain⟨oa,cap,g,rfl,hsl,-⟩:=sl_of_own hrow;have hlie:=(hsl.lies hpos).1;subst hlie;have HSL:=Lib.hid hsl;have HB1:=bfH' HKB hb1;clear t0 t1 t2 ft0 ft1 ft2 lt hrow hb1 HSE HKB;go_wp2_with fail
 go_loopg [3,13] N (fun q s3 s13 wr=>∃ (i:Nat) (xs:List Value),s13=.int .i64 (i:Int)∧Hid (Below w1.heap.size w1 wr)∧Hid (wr.ownsRow w1.heap.size 57 11 s3 i xs)∧Hid (Es els i xs (fun a m c=>KV wr a m c∧∀ p,a=some p→s3.ownBlock≠some p.block))∧i≤N∧N-i≤q)
 case atStart=>exact⟨0,[],rfl,Lib.hid (Below.refl _ _),Lib.hid (World.ownsRow_nil _ _ _ _),Lib.hid (Es.nil _ _),Nat.zero_le _,by omega⟩
 case round =>
  obtain⟨i,xs,rfl,HB,HP,HE,hiN,hq⟩:=hrel
  by_cases hi:i<N
  · have gi:decide ((i:Int)<(N:Int))=true:=by simpa using hi
    have gin:decide (i<N)=true:=by simpa using hi
    have hil:i<els.length:=by rw[HN.out];exact hi
    obtain⟨⟨pa,tg,⟨bt,bn,⟨wn,wd⟩,⟨hn,hd⟩⟩,ge,⟨kn,kc,ka,kb⟩⟩,he⟩:∃ e,els[i]?=some e:=⟨_,List.getElem?_eq_getElem hil⟩;have HDr:=Lib.hid (HD.out.below (bfH' HB1 HB.out).out);obtain⟨hE,hK,-,hkn⟩:=HDr.out.el i _ he;have HCP:=Lib.hid (copiedE_any (i:Int) pa ⟨tg.toArray⟩ ka kn kc bt ⟨bn.toArray⟩ wn wd hn hd wr (hK.kv (by have h1:kn<els.length:=hkn;have:=HDr.out.small;show kn≤1000;omega)));have hLK:=HDr.out.look he;simp only at hLK;have HE0:Blk wr ge 57 #[.int .i64 (i:Int),.int .i64 pa,.string ⟨tg.toArray⟩,.slice ka kn kc,.slice none 0 0,.int .i64 bt,.string ⟨bn.toArray⟩,.int .i64 wn,.int .i64 wd,.int .i64 hn,.int .i64 hd]:=hE
    have hki:wr.cell? ⟨g,i,none⟩=some (.int .i64 (i:Int)):=by
     have:=(HSL.out.below HB.out).cell i _ (by rw[List.getElem?_map,upto_at hi];rfl);rwa [Nat.zero_add]at this
    have hgl:g<wr.heap.size:=((HSL.out.below HB.out).lies (by omega)).2;obtain⟨c0,fc0,c1,fc1,c2,fc2,c3,fc3,c4,fc4,c5,fc5,c6,fc6,c7,fc7,c8,fc8,c9,fc9,c10,fc10,lc⟩:=HE0.el11;have t0:=HDr.out.tree.cell 0;have lt:=HDr.out.tree.lt;have HX:=Lib.hid he;clear hE hK hkn HE0 he HDr hil;go_wp2_with fail
    ((with_reducible refine HCP.out.mono ?_);rintro e wb ⟨⟨a1,n1,c1',rfl,hkv,hfar⟩,hbb⟩)
    have HB2:=Lib.hid (HB.out.trans (hbb.mono HB.out.size));have HP2:=Lib.hid ((own_next HP.out hbb).alloc (.cells #[.int .i64 (i:Int),.int .i64 pa,.string ⟨tg.toArray⟩,.slice a1 n1 c1',.slice none 0 0,.int .i64 bt,.string ⟨bn.toArray⟩,.int .i64 wn,.int .i64 wd,.int .i64 hn,.int .i64 hd] 57));have HES:=Lib.hid (fun gg w3 hg hat=>es_next (gg:=gg) (w3:=w3) (o:=.cells #[.int .i64 (i:Int),.int .i64 pa,.string ⟨tg.toArray⟩,.slice a1 n1 c1',.slice none 0 0,.int .i64 bt,.string ⟨bn.toArray⟩,.int .i64 wn,.int .i64 wd,.int .i64 hn,.int .i64 hd] 57) HE.out HX.out HP.out hbb hkv hfar hg hat);have hs2:=HB2.out.size;clear c0 fc0 c1 fc1 c2 fc2 c3 fc3 c4 fc4 c5 fc5 c6 fc6 c7 fc7 c8 fc8 c9 fc9 c10 fc10 lc t0 lt hki hgl hLK HCP hbb hkv hfar
    go_wp2_with (at_builtin;refine wpList_add elEs rfl _ _ rfl rfl HP2.out (by simp;omega) (Blk.new wb _ _) 1 rfl rfl (by simp[Value.oneCell']) (by omega) (by omega) ?_;intro gg cap3 w3 ho3 hg3 hat hvb;have H3:=Lib.hid (And.intro ho3 (And.intro (HES.out gg w3 hg3 hat) (below_far (HB2.out.alloc hs2 _) hg3 fun k hk=>(hvb k hk).1)));clear ho3 hg3 hat hvb)
    go_roundg (N-(i+1))
    case measure=>omega
    case rel=>exact⟨i+1,_,by go_num,Lib.hid H3.out.2.2,Lib.hid H3.out.1,Lib.hid H3.out.2.1,hi,Nat.le_refl _⟩
  · obtain rfl:i=N:=by omega
    have gi:decide ((i:Int)<(i:Int))=false:=by simp
    have gin:decide (i<i)=false:=by simp
    obtain⟨oa2,cap2,g2,rfl,hsl2,-⟩:=sl_of_own HP.out;have HR:=Lib.hid hsl2;clear hsl2;go_wp2_with fail;go_ret;exact⟨⟨oa2,cap2,g2,xs,rfl,HR.out,HE.out.mono fun a m c h=>h.1⟩,(bfH' HB1 HB.out).out⟩
set_option maxRecDepth 20000 in
set_option maxHeartbeats 8000000 in
theorem clone8_any (id pa:Int) (tg:ByteArray) (ka:Option Addr) (kn kc:Nat) (bt:Int) (bn:ByteArray) (wn wd hn hd:Int) (w:World) (hk:KV w ka kn kc) :
  Calls Tryz.prog 21 #[.agg #[.int .i64 id,.int .i64 pa,.string tg,.slice ka kn kc,.slice none 0 0,.int .i64 bt,.string bn,.int .i64 wn,.int .i64 wd,.int .i64 hn,.int .i64 hd]] w fun e w'=>(∃ a1 n1 c1,e=.returned (.agg #[.int .i64 id,.int .i64 pa,.string tg,.slice a1 n1 c1,.slice none 0 0,.int .i64 bt,.string bn,.int .i64 wn,.int .i64 wd,.int .i64 hn,.int .i64 hd])∧KV w' a1 n1 c1∧∀ p,a1=some p→w.heap.size≤p.block)∧Below w.heap.size w w':=by
 have hb:=below_box w (.cells #[.int .i64 id,.int .i64 pa,.string tg,.slice ka kn kc,.slice none 0 0,.int .i64 bt,.string bn,.int .i64 wn,.int .i64 wd,.int .i64 hn,.int .i64 hd] 57);have h1:=(Blk.new w 57 #[.int .i64 id,.int .i64 pa,.string tg,.slice ka kn kc,.slice none 0 0,.int .i64 bt,.string bn,.int .i64 wn,.int .i64 wd,.int .i64 hn,.int .i64 hd]).old (.cells #[.int .i64 0,.int .i64 0,.string ⟨#[]⟩,.slice none 0 0,.slice none 0 0,.int .i64 0,.string ⟨#[]⟩,.int .i64 0,.int .i64 0,.int .i64 0,.int .i64 0] 57);have h2:=Blk.new2 w (.cells #[.int .i64 id,.int .i64 pa,.string tg,.slice ka kn kc,.slice none 0 0,.int .i64 bt,.string bn,.int .i64 wn,.int .i64 wd,.int .i64 hn,.int .i64 hd] 57) 57 #[.int .i64 0,.int .i64 0,.string ⟨#[]⟩,.slice none 0 0,.slice none 0 0,.int .i64 0,.string ⟨#[]⟩,.int .i64 0,.int .i64 0,.int .i64 0,.int .i64 0]
 have hb2:=hb.alloc (by simp) (.cells #[.int .i64 0,.int .i64 0,.string ⟨#[]⟩,.slice none 0 0,.slice none 0 0,.int .i64 0,.string ⟨#[]⟩,.int .i64 0,.int .i64 0,.int .i64 0,.int .i64 0] 57);have hk2:=hk.below hb2;have HK:=Lib.hid hk2
 have hsz:((w.alloc (.cells #[.int .i64 id,.int .i64 pa,.string tg,.slice ka kn kc,.slice none 0 0,.int .i64 bt,.string bn,.int .i64 wn,.int .i64 wd,.int .i64 hn,.int .i64 hd] 57)).alloc (.cells #[.int .i64 0,.int .i64 0,.string ⟨#[]⟩,.slice none 0 0,.slice none 0 0,.int .i64 0,.string ⟨#[]⟩,.int .i64 0,.int .i64 0,.int .i64 0,.int .i64 0] 57)).heap.size=w.heap.size+2:=by simp
 obtain⟨g,hg⟩:∃ g,w.heap.size=g:=⟨_,rfl⟩;rw[hg]at h1 h2;have H:=Lib.hid (And.intro h1 h2);have HB:=Lib.hid hb2;rw[hg]at hsz;have HSZ:=Lib.hid hsz;have HG:=Lib.hid hg;clear hb h1 h2 hb2 hk2 hk hsz
 go_enter Tryz.func21,Tryz.ntmps21
 go_upto_region 1 with fail
 try simp only[hg]
 clear hg;generalize World.alloc (World.alloc w _) _=wa at *;obtain⟨c0,fc0,c1,fc1,c2,fc2,c3,fc3,c4,fc4,c5,fc5,c6,fc6,c7,fc7,c8,fc8,c9,fc9,c10,fc10,lc⟩:=H.out.1.el11
 go_cut [5] from 3 to 6 (fun s wx=>∃ (a1:Option Addr) (n1 c1:Nat),s=.slice a1 n1 c1∧Hid (Below w.heap.size w wx)∧Hid (KV wx a1 n1 c1∧∀ p,a1=some p→g+2≤p.block)∧Hid (Blk wx g 57 #[.int .i64 id,.int .i64 pa,.string tg,.slice a1 n1 c1,.slice none 0 0,.int .i64 bt,.string bn,.int .i64 wn,.int .i64 wd,.int .i64 hn,.int .i64 hd]∧Blk wx (g+1) 57 #[.int .i64 0,.int .i64 0,.string ⟨#[]⟩,.slice none 0 0,.slice none 0 0,.int .i64 0,.string ⟨#[]⟩,.int .i64 0,.int .i64 0,.int .i64 0,.int .i64 0]))
 case first =>
  rcases HK.out with ⟨e0,e1,e2⟩ | ⟨kb,vs,e0,h0,hle,hlt,hl,hcs,hon⟩
  · subst e0 e1 e2;go_wp2_with fail;go_meet;exact⟨none,0,0,rfl,Lib.hid (HB.out.setCell (p:=⟨g,3,none⟩) (Nat.le_of_eq HG.out) _),Lib.hid ⟨.inl ⟨rfl,rfl,rfl⟩,fun p hp=>by cases hp⟩,Lib.hid ⟨(H.out.1.put 3 _).to rfl,H.out.2.far (p:=⟨g,3,none⟩) (by simp) _⟩⟩
  · subst e0
    have hnews:∀ (j:Nat) (u:Value),vs[j]?=some u→wa.cell? ((⟨kb,0,none⟩:Addr).add j)=some u:=fun j u hj=>by
     rw[Addr.add_lit,Nat.zero_add];exact hcs j u hj
    have HS:=HSZ;have HN:=Lib.hid (And.intro hnews (And.intro hl hon));obtain⟨i0,hi0,hz0,hz1,hz2⟩:=info_parts infoI;clear hnews hl hon hcs
    go_wp2_with (at_builtin;refine wpList_append_lies _ rfl _ _ _ rfl wa.heap.size 3 i0 _ 1 8 Tryz.underlying22 hi0 hz0 hz1 hz2 rfl (by omega) (.slice none 0 0) 0 [] rfl (World.ownsRow_nil _ _ _ _) ⟨kb,0,none⟩ kn kc vs rfl (by rw[HN.out.2.1,Nat.mul_one]) HN.out.1 HN.out.2.2 h0 (by unfold maxLen;omega) (by omega) (Nat.le_refl _) _ rfl ?_;intro gg cap2 w5 hown hgrow hat hlt;have hg0:Blk w5 g 57 _:=(hgrow.block g H.out.1.lt (fun e=>by cases e)).trans H.out.1;have hg1:Blk w5 (g+1) 57 _:=(hgrow.block (g+1) H.out.2.lt (fun e=>by cases e)).trans H.out.2;have HGW:=Lib.hid hgrow;have H5:=Lib.hid (And.intro hg0 hg1);have e3:=hg0.cell 3;have fe3:=hg0.frozen 3;have le3:=hg0.lt;have HO:=Lib.hid (And.intro (kv_own hown (by omega) (by omega) HN.out.2.2) hat);clear hown hgrow hat hlt hg0 hg1);go_meet
    have hgg:g+2≤gg:=by
     rcases HO.out.2 with e|e
     · cases e
     · rw[e,HS.out];exact Nat.le_refl _
    refine⟨_,_,_,rfl,Lib.hid ((below_far HB.out HGW.out (fun k e=>by cases e)).setCell (p:=⟨g,3,none⟩) (Nat.le_of_eq HG.out) _),Lib.hid ⟨?_,fun p hp=>by cases hp;exact hgg⟩,Lib.hid ⟨(H5.out.1.put 3 _).to rfl,H5.out.2.far (p:=⟨g,3,none⟩) (by simp) _⟩⟩
    refine(by simpa using HO.out.1:KV w5 (some ⟨gg,0,none⟩) kn cap2).old (by simp) fun p hp _=>?_
    cases hp
    exact Below.heap_setCell w5 ⟨g,3,none⟩ _ gg (by simp;omega)
 obtain⟨a1,n1,c1',rfl,hB2,hKV,hH2⟩:=hcut;clear c0 fc0 c1 fc1 c2 fc2 c3 fc3 c4 fc4 c5 fc5 c6 fc6 c7 fc7 c8 fc8 c9 fc9 c10 fc10 lc;clear HB H HK;obtain⟨c0,fc0,c1,fc1,c2,fc2,c3,fc3,c4,fc4,c5,fc5,c6,fc6,c7,fc7,c8,fc8,c9,fc9,c10,fc10,lc⟩:=hH2.out.1.el11;obtain⟨z0,fz0,z1,fz1,z2,fz2,z3,fz3,z4,fz4,z5,fz5,z6,fz6,z7,fz7,z8,fz8,z9,fz9,z10,fz10,lz⟩:=hH2.out.2.el11;go_wp2_with fail;have hz:=blk_putsM [] [.int .i64 id,.int .i64 pa,.string tg,.slice a1 n1 c1',.slice none 0 0,.int .i64 bt,.string bn,.int .i64 wn,.int .i64 wd,.int .i64 hn,.int .i64 hd] [.int .i64 0,.int .i64 0,.string ⟨#[]⟩,.slice none 0 0,.slice none 0 0,.int .i64 0,.string ⟨#[]⟩,.int .i64 0,.int .i64 0,.int .i64 0,.int .i64 0] (wc.setCell ⟨g,4,none⟩ (.slice none 0 0)) 0 [] (hH2.out.2.far (p:=⟨g,4,none⟩) (by simp) _) rfl rfl
 have hgz:=grownBy_puts [.int .i64 id,.int .i64 pa,.string tg,.slice a1 n1 c1',.slice none 0 0,.int .i64 bt,.string bn,.int .i64 wn,.int .i64 wd,.int .i64 hn,.int .i64 hd] (wc.setCell ⟨g,4,none⟩ (.slice none 0 0)) (g+1) 0;simp only[puts,Nat.zero_add,Nat.reduceAdd]at hz hgz;refine bodyPost_ret (v:=.agg #[.int .i64 id,.int .i64 pa,.string tg,.slice a1 n1 c1',.slice none 0 0,.int .i64 bt,.string bn,.int .i64 wn,.int .i64 wd,.int .i64 hn,.int .i64 hd]) ?_ rfl ⟨⟨a1,n1,c1',rfl,?_,?_⟩,?_⟩
 · exact ret_el Tryz.results21 rfl hz rfl
 · refine(hKV.out.1.old (by simp) fun p hp _=>Below.heap_setCell wc ⟨g,4,none⟩ _ _ ?_).old hgz.size fun p hp hl=>hgz.block _ hl fun e=>?_
   · have:=hKV.out.2 p hp;simp;omega
   · have:=hKV.out.2 p hp;have:=Option.some.inj e;omega
 · intro p hp;have:=hKV.out.2 p hp;have:=HG.out;omega
 · exact below_far (hB2.out.setCell (p:=⟨g,4,none⟩) (Nat.le_of_eq HG.out) _) hgz (fun k e=>by obtain rfl:=Option.some.inj e;rw[HG.out];exact Nat.le_succ g)
theorem own_drew {w:World} {base:Nat} {e:TypeId} {size:Nat} {v:Value} {n:Nat} {xs:List Value} (h:w.ownsRow base e size v n xs):w.drew.ownsRow base e size v n xs:=h
theorem Blk.other {w w':World} {b g:Nat} {t:TypeId} {cs:Array Value} (h:Blk w b t cs) (hg:w.grownBy w' (some g)) (hne:b≠g):Blk w' b t cs:=(hg.block b h.lt (fun e=>hne (Option.some.inj e))).trans h
theorem Blk.drewn {w:World} {b:Nat} {t:TypeId} {cs:Array Value} (h:Blk w b t cs):Blk w.drew b t cs:=h
def RT (w:World) (tR:Nat) (els:List Me):Prop:=∃ (oa:Option Addr) (cap b:Nat) (xs:List Value),Blk w tR 69 #[.slice oa els.length cap,.int .i64 (els.length:Int)]∧Sl w oa els.length cap b 0 11 xs∧Es els els.length xs (fun _ _ _=>True)
theorem RT.below {w w':World} {tR:Nat} {els:List Me} (h:RT w tR els) (hb:Below w.heap.size w w'):RT w' tR els:=by
 obtain⟨oa,cap,b,xs,h1,h2,h3⟩:=h;exact⟨oa,cap,b,xs,h1.below hb h1.lt,h2.below hb,h3⟩
set_option maxRecDepth 20000 in
set_option maxHeartbeats 8000000 in
theorem load10_any {w:World} {oa:Option Addr} {els:List Me} {cap b:Nat} {xs:List Value} (hs:Sl w oa els.length cap b 0 11 xs) (he:Es els els.length xs (KV w)) (hsm:els.length≤41) :
  Calls Tryz.prog 6 #[.slice oa els.length cap,.int .i64 (els.length:Int)] w fun x w'=>(∃ tR,x=.returned (.pointer (some ⟨tR,0,none⟩))∧RT w' tR els)∧Below w.heap.size w w':=by
 obtain⟨N,hN⟩:∃ N,els.length=N:=⟨_,rfl⟩;simp only[hN]at hs he hsm ⊢;obtain⟨k1,kb⟩:=box_new' w 69 #[.slice none 0 0,.int .i64 (N:Int)];obtain⟨tR,hg⟩:∃ g,w.heap.size=g:=⟨_,rfl⟩;rw[hg]at k1;have HN:=Lib.hid hN;have HS:=Lib.hid hs;have HE:=Lib.hid he;have HB1:=Lib.hid kb;have HT:=Lib.hid k1;clear hs he hN kb k1
 go_enter Tryz.func6,Tryz.ntmps6
 go_upto_region 2 with fail
 try simp only[hg]
 have HG:=Lib.hid hg;clear hg;generalize World.alloc w _=w1 at *;go_wp2_with fail
 go_loopg [13] N (fun q s13 wr=>∃ (i:Nat) (v:Value) (ys:List Value),s13=.int .i64 (i:Int)∧Hid (Below w.heap.size w wr)∧Hid (Blk wr tR 69 #[v,.int .i64 (N:Int)])∧Hid (wr.ownsRow (tR+1) 57 11 v i ys)∧Hid (Es els i ys (fun _ _ _=>True))∧i≤N∧N-i≤q)
 case atStart=>exact⟨0,_,[],rfl,HB1,HT,Lib.hid (World.ownsRow_nil _ _ _ _),Lib.hid (Es.nil _ _),Nat.zero_le _,by omega⟩
 case round =>
  clear HB1 HT;obtain⟨i,v,ys,rfl,HB,HT,HP,HEs,hiN,hq⟩:=hrel
  by_cases hi:i<N
  · have gi:decide ((i:Int)<(N:Int))=true:=by simpa using hi
    have gin:decide (i<N)=true:=by simpa using hi
    have hil:i<els.length:=by rw[HN.out];exact hi
    obtain⟨⟨pa,tg,⟨bt,bn,⟨wn,wd⟩,⟨hn,hd⟩⟩,ge,ks⟩,he⟩:∃ e,els[i]?=some e:=⟨_,List.getElem?_eq_getElem hil⟩;have hsr:=HS.out.below HB.out;obtain⟨rfl,hbl⟩:=hsr.lies (by omega);obtain⟨ka,kn,kc,hkv,f0,f1,f2,f3,f4,f5,f6,f7,f8,f9,f10⟩:=es_cells hsr HE.out hi he;have HCP:=Lib.hid (fun wx (hb:Below w.heap.size w wx)=>clone8_any (i:Int) pa ⟨tg.toArray⟩ ka kn kc bt ⟨bn.toArray⟩ wn wd hn hd wx (hkv.below hb));have HX:=Lib.hid he;clear hil he hsr hkv
    go_upto_block 1 with fail
    go_cut [] (fun wx=>∃ (v2:Value) (ys2:List Value),Hid (Below w.heap.size w wx)∧Hid (Blk wx tR 69 #[v2,.int .i64 (N:Int)])∧Hid (wx.ownsRow (tR+1) 57 11 v2 (i+1) ys2)∧Hid (Es els (i+1) ys2 (fun _ _ _=>True)))
    case first =>
     go_upto_region 5 with fail
     obtain⟨z1,zb⟩:=box_new' wr 57 #[.int .i64 (i:Int),.int .i64 pa,.string ⟨tg.toArray⟩,.slice ka kn kc,.slice none 0 0,.int .i64 bt,.string ⟨bn.toArray⟩,.int .i64 wn,.int .i64 wd,.int .i64 hn,.int .i64 hd];obtain⟨g,hgg⟩:∃ g,wr.heap.size=g:=⟨_,rfl⟩
     have hgt:tR<g:=by rw[← hgg];exact HT.out.lt
     have HBv:=bfH' HB zb;have HTv:=Lib.hid (HT.out.below zb HT.out.lt);have HPv:=Lib.hid (own_next HP.out zb);rw[hgg]at z1;have HZ:=Lib.hid z1
     try simp only[hgg]
     clear f0 f1 f2 f3 f4 f5 f6 f7 f8 f9 f10 hbl zb z1 hgg HB HT HP;generalize World.alloc wr _=wv at *;refine wp_region_any (by kernel_rfl) ?_;change wpAny _ _ _ _ _ _ _ wv.drew;have HBv:=Lib.hid HBv.out.drew;have HTv:=Lib.hid HTv.out.drewn;have HPv:=Lib.hid (own_drew HPv.out);have HZ:=Lib.hid HZ.out.drewn;generalize wv.drew=wv at *;obtain⟨c0,fc0,c1,fc1,c2,fc2,c3,fc3,c4,fc4,c5,fc5,c6,fc6,c7,fc7,c8,fc8,c9,fc9,c10,fc10,lc⟩:=HZ.out.el11;have t0:wv.cell? ⟨tR,0,none⟩=some (v):=(HTv.out).cell 0;have ft0:=(HTv.out).frozen 0;have t1:wv.cell? ⟨tR,1,none⟩=some (.int .i64 (N:Int)):=(HTv.out).cell 1;have ft1:=(HTv.out).frozen 1;have lt:=(HTv.out).lt;refine wpAny_take (i:=0) (v:=?vv0) rfl (by kernel_rfl) (by kernel_rfl) (by kernel_rfl) (fun _ _ _ h=>h) (Or.inl ⟨by rfl,?hy0⟩) ?_
     case hy0=>(intro w;go_simp;try with_reducible rfl)
     change wpAny _ _ _ _ _ _ (Act.put _ (some 17) _) _
     try simp only[Act.put,List.setIfInBounds_toArray,List.set_cons_zero,List.set_cons_succ]
     refine wpAny_take (i:=1) (v:=?vv1) rfl (by kernel_rfl) (by kernel_rfl) (by kernel_rfl) (fun _ _ _ h=>h) (Or.inl ⟨by rfl,?hy1⟩) ?_
     case hy1=>(intro w;go_simp;try with_reducible rfl)
     change wpAny _ _ _ _ _ _ (Act.put _ (some 18) _) _
     try simp only[Act.put,List.setIfInBounds_toArray,List.set_cons_zero,List.set_cons_succ]
     refine wpAny_take (i:=2) (v:=?vv2) rfl (by kernel_rfl) (by kernel_rfl) (by kernel_rfl) (fun _ _ _ h=>h) (Or.inl ⟨by rfl,?hy2⟩) ?_
     case hy2=>(intro w;go_simp;try with_reducible rfl)
     change wpAny _ _ _ _ _ _ (Act.put _ (some 19) _) _
     try simp only[Act.put,List.setIfInBounds_toArray,List.set_cons_zero,List.set_cons_succ]
     refine wpAny_take (i:=3) (v:=?vv3) rfl (by kernel_rfl) (by kernel_rfl) (by kernel_rfl) (fun _ _ _ h=>h) (Or.inl ⟨by rfl,?hy3⟩) ?_
     case hy3=>(intro w;go_simp;try with_reducible rfl)
     change wpAny _ _ _ _ _ _ (Act.put _ (some 20) _) _
     try simp only[Act.put,List.setIfInBounds_toArray,List.set_cons_zero,List.set_cons_succ]
     refine wpAny_ready (rs:=[4,5]) (by kernel_rfl) (by simp) ?_;refine AllReady.cons rfl (fun K hK=>?_) (AllReady.cons rfl (fun K hK=>?_) AllReady.nil)
     · go_simp
       refine hK _ _ ?_;clear hK K;refine wpAny_ready (rs:=[5]) (by kernel_rfl) (by simp) ?_;refine AllReady.cons rfl (fun K hK=>?_) AllReady.nil
       go_simp
       refine hK _ _ ?_;clear hK K;refine wpAny_ready (rs:=[6]) (by kernel_rfl) (by simp) ?_;refine AllReady.cons rfl (fun K hK=>?_) AllReady.nil
       go_simp
       ((with_reducible refine(HCP.out _ HBv.out).mono ?_);rintro e wm ⟨⟨a1,n1,c1',rfl,-,-⟩,hbw⟩)
       refine hK _ _ ?_;clear hK K;have HBm:=bfH' HBv hbw;have HTm:=Lib.hid (HTv.out.below hbw HTv.out.lt);have HPm:=Lib.hid (own_next HPv.out hbw);have m0:wm.cell? ⟨tR,0,none⟩=some v:=HTm.out.cell 0;clear hbw;refine wpAny_ready (rs:=[7]) (by kernel_rfl) (by simp) ?_;refine AllReady.cons rfl (fun K hK=>?_) AllReady.nil
       go_simp
       refine hK _ _ ?_;clear hK K;obtain⟨hbk,hbq⟩:=box_new' wm 57 #[.int .i64 (i:Int),.int .i64 pa,.string ⟨tg.toArray⟩,.slice a1 n1 c1',.slice none 0 0,.int .i64 bt,.string ⟨bn.toArray⟩,.int .i64 wn,.int .i64 wd,.int .i64 hn,.int .i64 hd];have HBq:=bfH' HBm hbq;have HTq:=Lib.hid (HTm.out.below hbq HTm.out.lt);have HPq:=Lib.hid (own_next HPm.out hbq);have HKq:=Lib.hid hbk;have q0:=HTq.out.cell 0;clear hbq hbk;generalize wm.heap.size=gb at *;generalize World.alloc wm _=wq at *;refine wpAny_ready (rs:=[8]) (by kernel_rfl) (by simp) ?_;refine AllReady.cons rfl (fun K hK=>?_) AllReady.nil;refine step_add elEs (by rfl) _ _ (by rfl) (by rfl) HPq.out (by have:=HTq.out.lt;omega) HKq.out 1 (by rfl) (by rfl) (by simp[Value.oneCell']) (by omega) (by omega) ?_;intro gg cap3 w3 ho3 hg3 hat;refine hK _ _ ?_;clear hK K
       have hTx:Blk w3 tR 69 #[v,.int .i64 (N:Int)]:=(hg3.block tR HTq.out.lt (fun e=>by have:=(HPq.out.lt tR e.symm).1;omega)).trans HTq.out;have x0:w3.cell? ⟨tR,0,none⟩=some v:=hTx.cell 0;have fx0:w3.frozen? ⟨tR,0,none⟩=false:=hTx.frozen 0;have lx:tR<w3.heap.size:=hTx.lt;have H3:=Lib.hid (And.intro ho3 (And.intro hTx (below_far HBq.out hg3 fun k hk=>by have:=(HPq.out.lt k hk).1;have:=HG.out;omega)));clear ho3 hg3 hat hTx;refine wpAny_take (i:=9) (v:=?vv9) rfl (by kernel_rfl) (by kernel_rfl) (by kernel_rfl) (fun _ _ _ h=>h) (Or.inl ⟨by rfl,?hy9⟩) ?_
       case hy9=>(intro w;go_simp;try with_reducible rfl)
       change wpAny _ _ _ _ _ _ (Act.put _ (some 26) _) _
       try simp only[Act.put,List.setIfInBounds_toArray,List.set_cons_zero,List.set_cons_succ]
       refine wpAny_take (i:=10) (v:=?vv10) rfl (by kernel_rfl) (by kernel_rfl) (by kernel_rfl) (fun _ _ _ h=>h) (Or.inl ⟨by rfl,?hy10⟩) ?_
       case hy10=>(intro w;go_simp;try with_reducible rfl)
       change wpAny _ _ _ _ _ _ (Act.put _ (some 27) _) _
       try simp only[Act.put,List.setIfInBounds_toArray,List.set_cons_zero,List.set_cons_succ]
       refine wpAny_ready (rs:=[11]) (by kernel_rfl) (by simp) ?_;refine AllReady.cons rfl (fun K hK=>?_) AllReady.nil
       go_simp
       refine hK _ _ ?_;clear hK K;refine wpAny_done (by kernel_rfl) ?_ _;go_wp2_with fail;go_meet
       case rel =>
        refine⟨_,_,Lib.hid (H3.out.2.2.setCell (p:=⟨tR,0,none⟩) (Nat.le_of_eq HG.out) _),Lib.hid ((H3.out.2.1.put 0 _).to rfl),Lib.hid (H3.out.1.kept (grownBy_set _ ⟨tR,0,none⟩ _) (.inr fun e=>?_)),Lib.hid (HEs.out.snoc HX.out trivial)⟩;have:=(H3.out.1.lt _ e).1;simp only at this;omega
     · go_simp
       refine hK _ _ ?_;clear hK K;refine wpAny_ready (rs:=[4,6]) (by kernel_rfl) (by simp) ?_;refine AllReady.cons rfl (fun K hK=>?_) (AllReady.cons rfl (fun K hK=>?_) AllReady.nil)
       · go_simp
         refine hK _ _ ?_;clear hK K;refine wpAny_ready (rs:=[6]) (by kernel_rfl) (by simp) ?_;refine AllReady.cons rfl (fun K hK=>?_) AllReady.nil
         go_simp
         ((with_reducible refine(HCP.out _ HBv.out).mono ?_);rintro e wm ⟨⟨a1,n1,c1',rfl,-,-⟩,hbw⟩)
         refine hK _ _ ?_;clear hK K;have HBm:=bfH' HBv hbw;have HTm:=Lib.hid (HTv.out.below hbw HTv.out.lt);have HPm:=Lib.hid (own_next HPv.out hbw);have m0:wm.cell? ⟨tR,0,none⟩=some v:=HTm.out.cell 0;clear hbw;refine wpAny_ready (rs:=[7]) (by kernel_rfl) (by simp) ?_;refine AllReady.cons rfl (fun K hK=>?_) AllReady.nil
         go_simp
         refine hK _ _ ?_;clear hK K;obtain⟨hbk,hbq⟩:=box_new' wm 57 #[.int .i64 (i:Int),.int .i64 pa,.string ⟨tg.toArray⟩,.slice a1 n1 c1',.slice none 0 0,.int .i64 bt,.string ⟨bn.toArray⟩,.int .i64 wn,.int .i64 wd,.int .i64 hn,.int .i64 hd];have HBq:=bfH' HBm hbq;have HTq:=Lib.hid (HTm.out.below hbq HTm.out.lt);have HPq:=Lib.hid (own_next HPm.out hbq);have HKq:=Lib.hid hbk;have q0:=HTq.out.cell 0;clear hbq hbk;generalize wm.heap.size=gb at *;generalize World.alloc wm _=wq at *;refine wpAny_ready (rs:=[8]) (by kernel_rfl) (by simp) ?_;refine AllReady.cons rfl (fun K hK=>?_) AllReady.nil;refine step_add elEs (by rfl) _ _ (by rfl) (by rfl) HPq.out (by have:=HTq.out.lt;omega) HKq.out 1 (by rfl) (by rfl) (by simp[Value.oneCell']) (by omega) (by omega) ?_;intro gg cap3 w3 ho3 hg3 hat;refine hK _ _ ?_;clear hK K
         have hTx:Blk w3 tR 69 #[v,.int .i64 (N:Int)]:=(hg3.block tR HTq.out.lt (fun e=>by have:=(HPq.out.lt tR e.symm).1;omega)).trans HTq.out;have x0:w3.cell? ⟨tR,0,none⟩=some v:=hTx.cell 0;have fx0:w3.frozen? ⟨tR,0,none⟩=false:=hTx.frozen 0;have lx:tR<w3.heap.size:=hTx.lt;have H3:=Lib.hid (And.intro ho3 (And.intro hTx (below_far HBq.out hg3 fun k hk=>by have:=(HPq.out.lt k hk).1;have:=HG.out;omega)));clear ho3 hg3 hat hTx;refine wpAny_take (i:=9) (v:=?vv9) rfl (by kernel_rfl) (by kernel_rfl) (by kernel_rfl) (fun _ _ _ h=>h) (Or.inl ⟨by rfl,?hy9⟩) ?_
         case hy9=>(intro w;go_simp;try with_reducible rfl)
         change wpAny _ _ _ _ _ _ (Act.put _ (some 26) _) _
         try simp only[Act.put,List.setIfInBounds_toArray,List.set_cons_zero,List.set_cons_succ]
         refine wpAny_take (i:=10) (v:=?vv10) rfl (by kernel_rfl) (by kernel_rfl) (by kernel_rfl) (fun _ _ _ h=>h) (Or.inl ⟨by rfl,?hy10⟩) ?_
         case hy10=>(intro w;go_simp;try with_reducible rfl)
         change wpAny _ _ _ _ _ _ (Act.put _ (some 27) _) _
         try simp only[Act.put,List.setIfInBounds_toArray,List.set_cons_zero,List.set_cons_succ]
         refine wpAny_ready (rs:=[11]) (by kernel_rfl) (by simp) ?_;refine AllReady.cons rfl (fun K hK=>?_) AllReady.nil
         go_simp
         refine hK _ _ ?_;clear hK K;refine wpAny_done (by kernel_rfl) ?_ _;go_wp2_with fail;go_meet
         case rel =>
          refine⟨_,_,Lib.hid (H3.out.2.2.setCell (p:=⟨tR,0,none⟩) (Nat.le_of_eq HG.out) _),Lib.hid ((H3.out.2.1.put 0 _).to rfl),Lib.hid (H3.out.1.kept (grownBy_set _ ⟨tR,0,none⟩ _) (.inr fun e=>?_)),Lib.hid (HEs.out.snoc HX.out trivial)⟩;have:=(H3.out.1.lt _ e).1;simp only at this;omega
       · go_simp
         ((with_reducible refine(HCP.out _ HBv.out).mono ?_);rintro e wm ⟨⟨a1,n1,c1',rfl,-,-⟩,hbw⟩)
         refine hK _ _ ?_;clear hK K;have HBm:=bfH' HBv hbw;have HTm:=Lib.hid (HTv.out.below hbw HTv.out.lt);have HPm:=Lib.hid (own_next HPv.out hbw);have m0:wm.cell? ⟨tR,0,none⟩=some v:=HTm.out.cell 0;clear hbw;refine wpAny_ready (rs:=[4,7]) (by kernel_rfl) (by simp) ?_;refine AllReady.cons rfl (fun K hK=>?_) (AllReady.cons rfl (fun K hK=>?_) AllReady.nil)
         · go_simp
           refine hK _ _ ?_;clear hK K;refine wpAny_ready (rs:=[7]) (by kernel_rfl) (by simp) ?_;refine AllReady.cons rfl (fun K hK=>?_) AllReady.nil
           go_simp
           refine hK _ _ ?_;clear hK K;obtain⟨hbk,hbq⟩:=box_new' wm 57 #[.int .i64 (i:Int),.int .i64 pa,.string ⟨tg.toArray⟩,.slice a1 n1 c1',.slice none 0 0,.int .i64 bt,.string ⟨bn.toArray⟩,.int .i64 wn,.int .i64 wd,.int .i64 hn,.int .i64 hd];have HBq:=bfH' HBm hbq;have HTq:=Lib.hid (HTm.out.below hbq HTm.out.lt);have HPq:=Lib.hid (own_next HPm.out hbq);have HKq:=Lib.hid hbk;have q0:=HTq.out.cell 0;clear hbq hbk;generalize wm.heap.size=gb at *;generalize World.alloc wm _=wq at *;refine wpAny_ready (rs:=[8]) (by kernel_rfl) (by simp) ?_;refine AllReady.cons rfl (fun K hK=>?_) AllReady.nil;refine step_add elEs (by rfl) _ _ (by rfl) (by rfl) HPq.out (by have:=HTq.out.lt;omega) HKq.out 1 (by rfl) (by rfl) (by simp[Value.oneCell']) (by omega) (by omega) ?_;intro gg cap3 w3 ho3 hg3 hat;refine hK _ _ ?_;clear hK K
           have hTx:Blk w3 tR 69 #[v,.int .i64 (N:Int)]:=(hg3.block tR HTq.out.lt (fun e=>by have:=(HPq.out.lt tR e.symm).1;omega)).trans HTq.out;have x0:w3.cell? ⟨tR,0,none⟩=some v:=hTx.cell 0;have fx0:w3.frozen? ⟨tR,0,none⟩=false:=hTx.frozen 0;have lx:tR<w3.heap.size:=hTx.lt;have H3:=Lib.hid (And.intro ho3 (And.intro hTx (below_far HBq.out hg3 fun k hk=>by have:=(HPq.out.lt k hk).1;have:=HG.out;omega)));clear ho3 hg3 hat hTx;refine wpAny_take (i:=9) (v:=?vv9) rfl (by kernel_rfl) (by kernel_rfl) (by kernel_rfl) (fun _ _ _ h=>h) (Or.inl ⟨by rfl,?hy9⟩) ?_
           case hy9=>(intro w;go_simp;try with_reducible rfl)
           change wpAny _ _ _ _ _ _ (Act.put _ (some 26) _) _
           try simp only[Act.put,List.setIfInBounds_toArray,List.set_cons_zero,List.set_cons_succ]
           refine wpAny_take (i:=10) (v:=?vv10) rfl (by kernel_rfl) (by kernel_rfl) (by kernel_rfl) (fun _ _ _ h=>h) (Or.inl ⟨by rfl,?hy10⟩) ?_
           case hy10=>(intro w;go_simp;try with_reducible rfl)
           change wpAny _ _ _ _ _ _ (Act.put _ (some 27) _) _
           try simp only[Act.put,List.setIfInBounds_toArray,List.set_cons_zero,List.set_cons_succ]
           refine wpAny_ready (rs:=[11]) (by kernel_rfl) (by simp) ?_;refine AllReady.cons rfl (fun K hK=>?_) AllReady.nil
           go_simp
           refine hK _ _ ?_;clear hK K;refine wpAny_done (by kernel_rfl) ?_ _;go_wp2_with fail;go_meet
           case rel =>
            refine⟨_,_,Lib.hid (H3.out.2.2.setCell (p:=⟨tR,0,none⟩) (Nat.le_of_eq HG.out) _),Lib.hid ((H3.out.2.1.put 0 _).to rfl),Lib.hid (H3.out.1.kept (grownBy_set _ ⟨tR,0,none⟩ _) (.inr fun e=>?_)),Lib.hid (HEs.out.snoc HX.out trivial)⟩;have:=(H3.out.1.lt _ e).1;simp only at this;omega
         · go_simp
           refine hK _ _ ?_;clear hK K;obtain⟨hbk,hbq⟩:=box_new' wm 57 #[.int .i64 (i:Int),.int .i64 pa,.string ⟨tg.toArray⟩,.slice a1 n1 c1',.slice none 0 0,.int .i64 bt,.string ⟨bn.toArray⟩,.int .i64 wn,.int .i64 wd,.int .i64 hn,.int .i64 hd];have HBq:=bfH' HBm hbq;have HTq:=Lib.hid (HTm.out.below hbq HTm.out.lt);have HPq:=Lib.hid (own_next HPm.out hbq);have HKq:=Lib.hid hbk;have q0:=HTq.out.cell 0;clear hbq hbk;generalize wm.heap.size=gb at *;generalize World.alloc wm _=wq at *;refine wpAny_ready (rs:=[4]) (by kernel_rfl) (by simp) ?_;refine AllReady.cons rfl (fun K hK=>?_) AllReady.nil
           go_simp
           refine hK _ _ ?_;clear hK K;refine wpAny_ready (rs:=[8]) (by kernel_rfl) (by simp) ?_;refine AllReady.cons rfl (fun K hK=>?_) AllReady.nil;refine step_add elEs (by rfl) _ _ (by rfl) (by rfl) HPq.out (by have:=HTq.out.lt;omega) HKq.out 1 (by rfl) (by rfl) (by simp[Value.oneCell']) (by omega) (by omega) ?_;intro gg cap3 w3 ho3 hg3 hat;refine hK _ _ ?_;clear hK K;have hTx:Blk w3 tR 69 #[v,.int .i64 (N:Int)]:=(hg3.block tR HTq.out.lt (fun e=>by have:=(HPq.out.lt tR e.symm).1;omega)).trans HTq.out;have x0:w3.cell? ⟨tR,0,none⟩=some v:=hTx.cell 0;have fx0:w3.frozen? ⟨tR,0,none⟩=false:=hTx.frozen 0;have lx:tR<w3.heap.size:=hTx.lt;have H3:=Lib.hid (And.intro ho3 (And.intro hTx (below_far HBq.out hg3 fun k hk=>by have:=(HPq.out.lt k hk).1;have:=HG.out;omega)));clear ho3 hg3 hat hTx
           refine wpAny_take (i:=9) (v:=?vv9) rfl (by kernel_rfl) (by kernel_rfl) (by kernel_rfl) (fun _ _ _ h=>h) (Or.inl ⟨by rfl,?hy9⟩) ?_
           case hy9=>(intro w;go_simp;try with_reducible rfl)
           change wpAny _ _ _ _ _ _ (Act.put _ (some 26) _) _
           try simp only[Act.put,List.setIfInBounds_toArray,List.set_cons_zero,List.set_cons_succ]
           refine wpAny_take (i:=10) (v:=?vv10) rfl (by kernel_rfl) (by kernel_rfl) (by kernel_rfl) (fun _ _ _ h=>h) (Or.inl ⟨by rfl,?hy10⟩) ?_
           case hy10=>(intro w;go_simp;try with_reducible rfl)
           change wpAny _ _ _ _ _ _ (Act.put _ (some 27) _) _
           try simp only[Act.put,List.setIfInBounds_toArray,List.set_cons_zero,List.set_cons_succ]
           refine wpAny_ready (rs:=[11]) (by kernel_rfl) (by simp) ?_;refine AllReady.cons rfl (fun K hK=>?_) AllReady.nil
           go_simp
           refine hK _ _ ?_;clear hK K;refine wpAny_done (by kernel_rfl) ?_ _;go_wp2_with fail;go_meet
           case rel =>
            refine⟨_,_,Lib.hid (H3.out.2.2.setCell (p:=⟨tR,0,none⟩) (Nat.le_of_eq HG.out) _),Lib.hid ((H3.out.2.1.put 0 _).to rfl),Lib.hid (H3.out.1.kept (grownBy_set _ ⟨tR,0,none⟩ _) (.inr fun e=>?_)),Lib.hid (HEs.out.snoc HX.out trivial)⟩;have:=(H3.out.1.lt _ e).1;simp only at this;omega
    case rest =>
     obtain⟨v2,ys2,hb2,ht2,hp2,he2⟩:=hcut;clear HB HT HP HCP HEs;go_wp2_with fail
     go_roundg (N-(i+1))
     case measure=>omega
     case rel=>exact⟨i+1,v2,ys2,by go_num,hb2,ht2,hp2,he2,hi,Nat.le_refl _⟩
  · obtain rfl:i=N:=by omega
    have gi:decide ((i:Int)<(i:Int))=false:=by simp
    have gin:decide (i<i)=false:=by simp
    obtain⟨oa2,cap2,g2,rfl,hsl2,-⟩:=sl_of_own HP.out;have HR:=Lib.hid hsl2;clear hsl2;go_wp2_with fail;go_ret;exact⟨⟨tR,rfl,oa2,cap2,g2,ys,by rw[HN.out];exact HT.out,by rw[HN.out];exact HR.out,by rw[HN.out];exact HEs.out⟩,HB.out⟩
def atF (n:Nat) (id:Int):Int:=if 0≤id∧id<(n:Int) then id else -1
def upE (els:List Me) (id:Int):Int:=if 0≤id then (match els[id.toNat]? with
 | some e=>e.parent
 | none=>-1) else -1
set_option maxRecDepth 20000 in
set_option maxHeartbeats 4000000 in
theorem at8_any {w:World} {tR:Nat} {els:List Me} (h:RT w tR els) (hsm:els.length≤41) (id:Int) :
  Calls Tryz.prog 29 #[.pointer (some ⟨tR,0,none⟩),.int .i64 id] w fun x w'=>x=.returned (.int .i64 (atF els.length id))∧Below w.heap.size w w':=by
 obtain⟨oa,cap,b,xs,hT,hs,he⟩:=h;obtain⟨N,hN⟩:∃ N,els.length=N:=⟨_,rfl⟩;simp only[hN]at hT hs he hsm ⊢;have t0:w.cell? ⟨tR,0,none⟩=some (.slice oa N cap):=(hT).cell 0;have ft0:=(hT).frozen 0;have t1:w.cell? ⟨tR,1,none⟩=some (.int .i64 (N:Int)):=(hT).cell 1;have ft1:=(hT).frozen 1;have lt:=(hT).lt;obtain⟨AF,hAF⟩:∃ AF,atF N id=AF:=⟨_,rfl⟩;rw[hAF];have HAF:=Lib.hid hAF;have HN:=Lib.hid hN;have HS:=Lib.hid hs;have HE:=Lib.hid he;have HB0:=Lib.hid (Below.refl w.heap.size w);clear hT hs he hN hAF
 go_enter Tryz.func29,Tryz.ntmps29
 go_wp2_with fail;clear t0 t1 ft0 ft1 lt
 go_loopg [12] N (fun q s12 wr=>∃ (i:Nat),s12=.int .i64 (i:Int)∧Hid (Below w.heap.size w wr)∧Hid (¬ (0≤id∧id<(i:Int)))∧i≤N∧N-i≤q)
 case atStart=>exact⟨0,rfl,HB0,Lib.hid (by omega),Nat.zero_le _,by omega⟩
 case round =>
  clear HB0;obtain⟨i,rfl,HB,HNo,hiN,hq⟩:=hrel
  by_cases hi:i<N
  · have gi:decide ((i:Int)<(N:Int))=true:=by simpa using hi
    have gin:decide (i<N)=true:=by simpa using hi
    have hil:i<els.length:=by rw[HN.out];exact hi
    obtain⟨⟨pa,tg,⟨bt,bn,⟨wn,wd⟩,⟨hn,hd⟩⟩,ge,ks⟩,hx⟩:∃ e,els[i]?=some e:=⟨_,List.getElem?_eq_getElem hil⟩;have hsr:=HS.out.below HB.out;obtain⟨rfl,hbl⟩:=hsr.lies (by omega);obtain⟨ka,kn,kc,-,f0,f1,f2,f3,f4,f5,f6,f7,f8,f9,f10⟩:=es_cells hsr HE.out hi hx;clear hil hx hsr
    by_cases hid:(i:Int)=id
    · subst hid
      have hR:atF N (i:Int)=(i:Int):=by unfold atF;rw[if_pos ⟨by omega,by omega⟩]
      rw[HAF.out]at hR;subst hR;clear HAF HNo;go_wp2_with fail;go_ret;exact⟨rfl,HB.out.alloc HB.out.size _⟩
    · have k1:((i:Int)==id)=false:=by simpa using hid
      have HN2:=Lib.hid (show ¬ (0≤id∧id<((i+1:Nat):Int)) by have:=HNo.out;omega);clear hid HNo;go_wp2_with fail
      go_roundg (N-(i+1))
      case measure=>omega
      case rel=>exact⟨i+1,by go_num,Lib.hid (HB.out.alloc HB.out.size _),HN2,hi,Nat.le_refl _⟩
  · obtain rfl:i=N:=by omega
    have gi:decide ((i:Int)<(i:Int))=false:=by simp
    have gin:decide (i<i)=false:=by simp
    have hR:atF i id=-1:=by unfold atF;rw[if_neg HNo.out]
    rw[HAF.out]at hR;subst hR;clear HAF HNo;go_wp2_with fail;go_ret;exact⟨rfl,HB.out⟩
theorem upE_some {els:List Me} {i:Nat} {e:Me} (he:els[i]?=some e):upE els (i:Int)=e.parent:=by
 unfold upE;rw[if_pos (by omega),Int.toNat_natCast,he]
theorem upE_none {els:List Me} {id:Int} (h:¬ (0≤id∧id<(els.length:Int))):upE els id=-1:=by
 unfold upE
 by_cases h0:0≤id
 · rw[if_pos h0,List.getElem?_eq_none (by omega)]
 · rw[if_neg h0]
set_option maxRecDepth 20000 in
set_option maxHeartbeats 4000000 in
theorem up8_any {w:World} {tR:Nat} {els:List Me} (h:RT w tR els) (hsm:els.length≤41) (id:Int) :
  Calls Tryz.prog 28 #[.pointer (some ⟨tR,0,none⟩),.int .i64 id] w fun x w'=>x=.returned (.int .i64 (upE els id))∧Below w.heap.size w w':=by
 have hA:=at8_any h hsm id;obtain⟨AF,hAF⟩:∃ AF,atF els.length id=AF:=⟨_,rfl⟩;obtain⟨UE,hUE⟩:∃ UE,upE els id=UE:=⟨_,rfl⟩;rw[hAF]at hA;rw[hUE];have HA:=Lib.hid hA;have HAF:=Lib.hid hAF;have HUE:=Lib.hid hUE;have HH:=Lib.hid h;clear h hA hAF hUE
 go_enter Tryz.func28,Tryz.ntmps28
 go_wp2_with fail
 ((with_reducible refine HA.out.mono ?_);rintro e wb ⟨rfl,hbb⟩)
 by_cases hin:0≤id∧id<(els.length:Int)
 · obtain⟨i,rfl⟩:∃ i:Nat,id=(i:Int):=⟨id.toNat,by omega⟩
   have hil:i<els.length:=by omega
   have hR:atF els.length (i:Int)=(i:Int):=by unfold atF;rw[if_pos hin]
   obtain⟨⟨pa,tg,⟨bt,bn,⟨wn,wd⟩,⟨hn,hd⟩⟩,ge,ks⟩,hx⟩:∃ e,els[i]?=some e:=⟨_,List.getElem?_eq_getElem hil⟩;rw[HAF.out]at hR;have hR2:=HUE.out;rw[upE_some hx]at hR2;subst hR hR2;obtain⟨oa,cap,b,xs,hT,hs,he⟩:=HH.out.below hbb;obtain⟨rfl,hbl⟩:=hs.lies (by omega);obtain⟨ka,kn,kc,-,f0,f1,f2,f3,f4,f5,f6,f7,f8,f9,f10⟩:=es_cells hs he hil hx;have hNl:i<els.length:=hil;obtain⟨N,hN⟩:∃ N,els.length=N:=⟨_,rfl⟩;rw[hN]at hT hNl
   have gin:decide (i<N)=true:=by simpa using hNl
   have giI:(i:Int)<(N:Int):=by omega
   have t0:wb.cell? ⟨tR,0,none⟩=some (.slice (some ⟨b,0,none⟩) N cap):=(hT).cell 0;have ft0:=(hT).frozen 0;have t1:wb.cell? ⟨tR,1,none⟩=some (.int .i64 (N:Int)):=(hT).cell 1;have ft1:=(hT).frozen 1;have lt:=(hT).lt;have HB:=Lib.hid hbb;clear hT hs he hN hin hil hx hbb HA HAF HUE
   have k0:decide ((0:Int)≤(i:Int))=true:=by simp
   go_wp2_with fail;go_ret;exact⟨rfl,HB.out⟩
 · have hR:atF els.length id=-1:=by unfold atF;rw[if_neg hin]
   have hR2:=HUE.out;rw[upE_none hin]at hR2;rw[HAF.out]at hR;subst hR hR2;have HB:=Lib.hid hbb;clear hin hbb HA HAF HUE;go_wp2_with fail;go_ret;exact⟨rfl,HB.out⟩
end Go.Proofs.YtnbkbenkhkinoaaGreatDoor
