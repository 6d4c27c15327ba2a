/- Of my texts: DmE, DtV, DmF, DmG, DmH, DmJ. -/
import Derived.Test.YtnbkbenkhkinoaaGreatDoorM04
import Derived.Test.YtnbkbenkhkinoaaGreatDoorM08
import Derived.Test.YtnbkbenkhkinoaaGreatDoorM16
import Derived.Test.YtnbkbenkhkinoaaGreatDoorM23
import Derived.Test.YtnbkbenkhkinoaaGreatDoorM24
import Derived.Carry
namespace Go.Proofs.YtnbkbenkhkinoaaGreatDoor
set_option linter.unusedVariables false
set_option linter.unusedSimpArgs false
open Go.RowKit Go.Maps
theorem zeroPtr (w:World):(zeroValue 76).run Tryz.prog w=.ok (.pointer none) w:=by kernel_rfl
section
variable {w:World} {tB mb B:Nat} {els:List Me}
theorem Dm.look (h:Dm w tB mb B els) {i:Nat} {e:Me} (he:els[i]?=some e):(Instr.lookup 75 (.map (some mb)) (.int .i64 (i:Int)) false).run Tryz.prog w=.ok (.pointer (some ⟨e.g,0,none⟩)) w:=by
 obtain⟨D,hD,hm⟩:=h.map;have hlt:i<els.length:=(List.getElem?_eq_some_iff.1 he).1;have hsm:=h.small;obtain⟨v,ps,hrun,hv⟩:=hm.lookup keyInt Tryz.underlying75 (zeroPtr w) (zd:=.lit (.int .i64 0)) (zp:=[]) rfl (keyOf64 (a:=(i:Int)) (by omega) (by omega));rw[hD.at_ i e.g (by rw[List.getElem?_map,he];rfl)]at hv;rw[ptrE_some hv]at hrun;exact hrun
theorem Dm.look_none (h:Dm w tB mb B els) {id:Int} (h1:-9223372036854775808≤id) (h2:id≤9223372036854775807) (hno:id<0∨(els.length:Int)≤id):(Instr.lookup 75 (.map (some mb)) (.int .i64 id) false).run Tryz.prog w=.ok (.pointer none) w:=by
 obtain⟨D,hD,hm⟩:=h.map;obtain⟨v,ps,hrun,hv⟩:=hm.lookup keyInt Tryz.underlying75 (zeroPtr w) (zd:=.lit (.int .i64 0)) (zp:=[]) rfl (keyOf64 h1 h2)
 have hh:Maps.has D (.int .i64 id)=false:=by
  cases hc:Maps.has D (.int .i64 id) with
  | false=>rfl
  | true =>
    have:=hD.has id hc;rw[List.length_map]at this;omega
 rw[atKey_of_not_has hh]at hv;rw[ptrE_zero hv]at hrun;exact hrun
end
set_option maxHeartbeats 4000000 in
theorem depth_any {w:World} {tB mb B:Nat} {els:List Me} (h:Dm w tB mb B els) {i:Nat} {e:Me} (he:els[i]?=some e) :
  Calls Tryz.prog 34 #[.pointer (some ⟨tB,0,none⟩),.int .i64 (i:Int)] w fun x w'=>(∃ d:Int,x=.returned (.int .i64 d)∧0≤d∧d≤1000∧d=(dpt els i:Int))∧w'=w:=by
 have hlt:i<els.length:=(List.getElem?_eq_some_iff.1 he).1;have hsm:=h.small;have H:=Lib.hid h;have t0:w.cell? ⟨tB,0,none⟩=some (.map (some mb)):=(h.tree).cell 0;have ft0:=(h.tree).frozen 0;have t1:w.cell? ⟨tB,1,none⟩=some (.int .i64 0):=(h.tree).cell 1;have ft1:=(h.tree).frozen 1;have t2:w.cell? ⟨tB,2,none⟩=some (.int .i64 (els.length:Int)):=(h.tree).cell 2;have ft2:=(h.tree).frozen 2;have lt:=(h.tree).lt;clear h he
 go_enter Tryz.func34,Tryz.ntmps34
 go_wp2_with fail
 go_loopg [1,5] i (fun q s1 s5 wr=>∃ (j:Nat) (d:Int),s1=.int .i64 (j:Int)∧s5=.int .i64 d∧wr=w∧0≤d∧d+j≤100∧j<els.length∧Hid (d+(dpt els j:Int)=(dpt els i:Int)+1)∧j≤q)
 case atStart=>exact⟨i,1,rfl,rfl,rfl,by omega,by omega,hlt,Lib.hid (by omega),Nat.le_refl _⟩
 case round =>
  obtain⟨j,d,rfl,rfl,rfl,hd,hdj,hj,HDP,hq⟩:=hrel
  by_cases h0:j=0
  · subst h0
    have hd0:d=(dpt els i:Int):=by
     have h1:=HDP.out;obtain⟨f,hf⟩:∃ f,els[0]?=some f:=⟨_,List.getElem?_eq_getElem hj⟩
     rcases H.out.par 0 f hf with ⟨-,h3⟩ | ⟨h3,-⟩
     · rw[dpt_root hf (by omega)]at h1;omega
     · exact absurd h3 (Nat.lt_irrefl _)
    have HD0:=Lib.hid hd0;clear hd0;go_wp2_with fail;go_ret;exact⟨⟨_,rfl,hd,by omega,HD0.out⟩,rfl⟩
  · have k0:((j:Int) != 0)=true:=by simp;omega
    obtain⟨f,hf⟩:∃ f,els[j]?=some f:=⟨_,List.getElem?_eq_getElem hj⟩;have hLK:=H.out.look hf;have hE:=(H.out.el j f hf).1
    rcases H.out.par j f hf with ⟨h1,-⟩ | ⟨-,h2,h3⟩
    · exact absurd h1 h0
    obtain⟨p,hp⟩:∃ p:Nat,f.parent=(p:Int):=⟨f.parent.toNat,by omega⟩;have hc:=hE.cell 1;have hl:=hE.lt;have HDQ:=Lib.hid (show d+1+(dpt els p:Int)=(dpt els i:Int)+1 by have h1:=HDP.out;rw[dpt_step H.out.par hf hp]at h1;omega);rw[show (ecells (j:Int) f).toArray[1]?=some (.int .i64 f.parent) from rfl,hp]at hc;clear hE hf;generalize f.g=gf at *;rw[hp]at h2 h3;clear hp;go_wp2_with fail
    go_roundg p
    case measure=>omega
    case rel=>exact⟨p,d+1,rfl,by go_num,rfl,by omega,by omega,by omega,HDQ,Nat.le_refl _⟩
structure MapK (κ:Nat→Int) (D:Dt) (gs:List Nat):Prop where
 tidy:Tidy D
 size:Maps.size D=gs.length
 has:∀ id:Int,Maps.has D (.int .i64 id)=true→∃ i,i<gs.length∧id=κ i
 at_:∀ (i:Nat) (g:Nat),gs[i]?=some g→∀ z,D.atKey (.int .i64 (κ i)) z=.lit (.int .i64 ((g:Int)+1))
theorem MapIs.k {D:Dt} {gs:List Nat} (h:MapIs D gs):MapK (fun i=>(i:Int)) D gs:=⟨h.tidy,h.size,fun id hid=>⟨id.toNat,by have:=h.has id hid;omega,by have:=h.has id hid;omega⟩,h.at_⟩
theorem MapK.nil (κ:Nat→Int):MapK κ (.map []) []:=⟨tidy_empty,rfl,fun id h=>by simp[Maps.has]at h,fun i g h=>by simp at h⟩
theorem MapK.snoc {κ:Nat→Int} (hi:∀ i j,κ i=κ j→i=j) {D:Dt} {gs:List Nat} (h:MapK κ D gs) (g:Nat):MapK κ (D.put (.int .i64 (κ gs.length)) (.lit (.int .i64 ((g:Int)+1)))) (gs++[g]):=by
 have hno:Maps.has D (.int .i64 (κ gs.length))=false:=by
  cases hh:Maps.has D (.int .i64 (κ gs.length)) with
  | false=>rfl
  | true =>
    obtain⟨i,h1,h2⟩:=h.has _ hh;have:=hi _ _ h2;omega
 refine⟨h.tidy.put (key64 _) _,?_,fun id hid=>?_,fun i g' hg z=>?_⟩
 · rw[size_put h.tidy,hno,if_neg (by simp),h.size,List.length_append,List.length_singleton]
 · rw[List.length_append,List.length_singleton]
   by_cases e:id=κ gs.length
   · exact⟨gs.length,by omega,e⟩
   · rw[has_put_other (by simpa using e)]at hid;obtain⟨i,h1,h2⟩:=h.has id hid;exact⟨i,by omega,h2⟩
 · by_cases e:i=gs.length
   · subst e;rw[List.getElem?_append_right (Nat.le_refl _),Nat.sub_self]at hg
     obtain rfl:g=g':=by simpa using hg
     exact atKey_put_same h.tidy.isMap (key64 _) _ _
   · have hlt:i<gs.length:=by
      have:=(List.getElem?_eq_some_iff.1 hg).1;rw[List.length_append,List.length_singleton]at this;omega
     rw[List.getElem?_append_left hlt]at hg;rw[atKey_put_other (by simp;exact fun e2=>e (hi _ _ e2))];exact h.at_ i g' hg z
def piK (κ:Nat→Int) (p:Int):Int:=if p<0 then p else κ p.toNat
theorem piK_nat (κ:Nat→Int) (p:Nat):piK κ (p:Int)=κ p:=by
 unfold piK;rw[if_neg (by omega),Int.toNat_natCast]
theorem piK_neg (κ:Nat→Int):piK κ (-1)=-1:=by
 unfold piK;rw[if_pos (by decide)]
def kcells (κ:Nat→Int) (i:Nat) (e:Me):List Value:=[.int .i64 (κ i),.int .i64 (piK κ e.parent),.string ⟨e.tag.toArray⟩,ksV e.ks,.slice none 0 0]++bxcells e.bx
structure Vw (κ:Nat→Int) (w:World) (tB mb:Nat) (rt nx:Int) (els:List Me):Prop where
 tree:Blk w tB 78 #[.map (some mb),.int .i64 rt,.int .i64 nx]
 map:∃ D,MapK κ D (els.map Me.g)∧w.ownsMap Tryz.prog 3 ptrE mb els.length D
 el:∀ (i:Nat) (e:Me),els[i]?=some e→Blk w e.g 57 (kcells κ i e).toArray∧KV w e.ks.oa e.ks.n e.ks.cap (e.ks.l.map κ)
 par:Par els
 small:els.length≤41
 bnd:∀ i,i<els.length→0≤κ i∧κ i≤1000000
 inj:∀ i j,κ i=κ j→i=j
theorem Dm.vw {w:World} {tB mb B:Nat} {els:List Me} (h:Dm w tB mb B els):Vw (fun i=>(i:Int)) w tB mb 0 (els.length:Int) els:=by
 have hsm:=h.small;obtain⟨D,hD,hm⟩:=h.map;refine⟨h.tree,⟨D,hD.k,hm⟩,fun i e he=>?_,h.par,h.small,fun i hi=>by omega,fun i j e=>by omega⟩;obtain⟨h1,h2,-,h4⟩:=h.el i e he;refine⟨?_,h2.kv (by omega)⟩
 have hp:piK (fun i=>(i:Int)) e.parent=e.parent:=by
  unfold piK;split
  · rfl
  · simp only;omega
 unfold kcells;rw[hp];exact h1
section
variable {κ:Nat→Int} {w w':World} {tB mb:Nat} {rt nx:Int} {els:List Me}
theorem Vw.below (h:Vw κ w tB mb rt nx els) (hb:Below w.heap.size w w'):Vw κ w' tB mb rt nx els:=by
 obtain⟨D,hD,hm⟩:=h.map;exact⟨h.tree.below hb h.tree.lt,⟨D,hD,hm.kept (grownBy_of_below hb none) (fun e=>by cases e)⟩,fun i e he=>⟨(h.el i e he).1.below hb (h.el i e he).1.lt,(h.el i e he).2.below hb⟩,h.par,h.small,h.bnd,h.inj⟩
theorem Vw.look (h:Vw κ w tB mb rt nx els) {i:Nat} {e:Me} (he:els[i]?=some e):(Instr.lookup 75 (.map (some mb)) (.int .i64 (κ i)) false).run Tryz.prog w=.ok (.pointer (some ⟨e.g,0,none⟩)) w:=by
 obtain⟨D,hD,hm⟩:=h.map;have hlt:i<els.length:=(List.getElem?_eq_some_iff.1 he).1;have hb:=h.bnd i hlt;obtain⟨v,ps,hrun,hv⟩:=hm.lookup keyInt Tryz.underlying75 (zeroPtr w) (zd:=.lit (.int .i64 0)) (zp:=[]) rfl (keyOf64 (a:=κ i) (by omega) (by omega));rw[hD.at_ i e.g (by rw[List.getElem?_map,he];rfl)]at hv;rw[ptrE_some hv]at hrun;exact hrun
end
set_option maxRecDepth 20000 in
set_option maxHeartbeats 8000000 in
theorem velem {κ:Nat→Int} {w:World} {tB mb:Nat} {rt nx:Int} {els:List Me} (h:Vw κ w tB mb rt nx els) {i:Nat} {pa:Int} {tg:List UInt8} {bt:Int} {bn:List UInt8} {wn wd hn hd:Int} {ge:Nat} {ks:Ks} (he:els[i]?=some ⟨pa,tg,⟨bt,bn,(wn,wd),(hn,hd)⟩,ge,ks⟩) :
  Calls Tryz.prog 25 #[.pointer (some ⟨tB,0,none⟩),.int .i64 (κ i)] w fun x w'=>(∃ a1 n1 c1,x=.returned (.tuple #[.agg #[.int .i64 (κ i),.int .i64 (piK κ pa),.string ⟨tg.toArray⟩,.slice a1 n1 c1,.slice none 0 0,.int .i64 bt,.string ⟨bn.toArray⟩,.int .i64 wn,.int .i64 wd,.int .i64 hn,.int .i64 hd],.bool true]))∧Below w.heap.size w w':=by
 obtain⟨h1,hb1⟩:=box_new' w 57 #[.int .i64 0,.int .i64 0,.string ⟨#[]⟩,.slice none 0 0,.slice none 0 0,.int .i64 0,.string ⟨#[]⟩,.int .i64 0,.int .i64 0,.int .i64 0,.int .i64 0];have h2:=h.below hb1;obtain⟨hE,hK⟩:=h2.el i _ he;have hLK:=h2.look he;have hcp:=copiedE_any (κ i) (piK κ pa) ⟨tg.toArray⟩ ks.oa ks.n ks.cap bt ⟨bn.toArray⟩ wn wd hn hd _ _ hK;obtain⟨kn,kc,ka,kb,kl⟩:=ks;simp only at hcp;obtain⟨g,hg⟩:∃ g,w.heap.size=g:=⟨_,rfl⟩;rw[hg]at h1;have H1:=Lib.hid h1;have HB1:=Lib.hid hb1;have HG:=Lib.hid hg;have HE:=Lib.hid (show Blk _ ge 57 #[.int .i64 (κ i),.int .i64 (piK κ pa),.string ⟨tg.toArray⟩,.slice ka kn kc,.slice none 0 0,.int .i64 bt,.string ⟨bn.toArray⟩,.int .i64 wn,.int .i64 wd,.int .i64 hn,.int .i64 hd] from hE);have HCP:=Lib.hid hcp;have HT:=Lib.hid h2.tree;clear h1 hb1 h2 h he hE hK hcp;simp only at hLK
 go_enter Tryz.func25,Tryz.ntmps25
 go_upto_region 1 with fail
 try simp only[hg]
 clear hg;generalize World.alloc w _=wa at *;have t0:wa.cell? ⟨tB,0,none⟩=some (.map (some mb)):=(HT.out).cell 0;have ft0:=(HT.out).frozen 0;have t1:wa.cell? ⟨tB,1,none⟩=some (.int .i64 rt):=(HT.out).cell 1;have ft1:=(HT.out).frozen 1;have t2:wa.cell? ⟨tB,2,none⟩=some (.int .i64 nx):=(HT.out).cell 2;have ft2:=(HT.out).frozen 2;have lt:=(HT.out).lt;obtain⟨c0,fc0,c1,fc1,c2,fc2,c3,fc3,c4,fc4,c5,fc5,c6,fc6,c7,fc7,c8,fc8,c9,fc9,c10,fc10,lc⟩:=HE.out.el11;go_wp2_with fail
 ((with_reducible refine HCP.out.mono ?_);rintro e wb ⟨⟨a1,n1,c1',rfl,-⟩,hbb⟩)
 have H2:=Lib.hid (H1.out.below hbb H1.out.lt);have HB2:=bfH' HB1 hbb;obtain⟨z0,fz0,z1,fz1,z2,fz2,z3,fz3,z4,fz4,z5,fz5,z6,fz6,z7,fz7,z8,fz8,z9,fz9,z10,fz10,lz⟩:=H2.out.el11;go_wp2_with fail;have hz:=blk_putsM [] [.int .i64 (κ i),.int .i64 (piK κ pa),.string ⟨tg.toArray⟩,.slice a1 n1 c1',.slice none 0 0,.int .i64 bt,.string ⟨bn.toArray⟩,.int .i64 wn,.int .i64 wd,.int .i64 hn,.int .i64 hd] [.int .i64 0,.int .i64 0,.string ⟨#[]⟩,.slice none 0 0,.slice none 0 0,.int .i64 0,.string ⟨#[]⟩,.int .i64 0,.int .i64 0,.int .i64 0,.int .i64 0] wb 0 [] H2.out rfl rfl;have hgz:=grownBy_puts [.int .i64 (κ i),.int .i64 (piK κ pa),.string ⟨tg.toArray⟩,.slice a1 n1 c1',.slice none 0 0,.int .i64 bt,.string ⟨bn.toArray⟩,.int .i64 wn,.int .i64 wd,.int .i64 hn,.int .i64 hd] wb g 0;simp only[puts,Nat.zero_add,Nat.reduceAdd]at hz hgz
 refine bodyPost_ret (v:=.tuple #[.agg #[.int .i64 (κ i),.int .i64 (piK κ pa),.string ⟨tg.toArray⟩,.slice a1 n1 c1',.slice none 0 0,.int .i64 bt,.string ⟨bn.toArray⟩,.int .i64 wn,.int .i64 wd,.int .i64 hn,.int .i64 hd],.bool true]) ?_ rfl ⟨⟨a1,n1,c1',rfl⟩,?_⟩
 · exact ret_el2 Tryz.results25 rfl rfl hz rfl
 · exact below_far HB2.out hgz (fun k e=>by obtain rfl:=Option.some.inj e;exact Nat.le_of_eq HG.out)
set_option maxHeartbeats 4000000 in
theorem vdepth {κ:Nat→Int} {w:World} {tB mb:Nat} {nx:Int} {els:List Me} (h:Vw κ w tB mb (κ 0) nx els) {i:Nat} {e:Me} (he:els[i]?=some e) :
  Calls Tryz.prog 34 #[.pointer (some ⟨tB,0,none⟩),.int .i64 (κ i)] w fun x w'=>(∃ d:Int,x=.returned (.int .i64 d)∧0≤d∧d≤1000∧d=(dpt els i:Int))∧w'=w:=by
 have hlt:i<els.length:=(List.getElem?_eq_some_iff.1 he).1;have hsm:=h.small;have H:=Lib.hid h;have t0:w.cell? ⟨tB,0,none⟩=some (.map (some mb)):=(h.tree).cell 0;have ft0:=(h.tree).frozen 0;have t1:w.cell? ⟨tB,1,none⟩=some (.int .i64 (κ 0)):=(h.tree).cell 1;have ft1:=(h.tree).frozen 1;have t2:w.cell? ⟨tB,2,none⟩=some (.int .i64 nx):=(h.tree).cell 2;have ft2:=(h.tree).frozen 2;have lt:=(h.tree).lt;clear h he
 go_enter Tryz.func34,Tryz.ntmps34
 go_wp2_with fail
 go_loopg [1,5] i (fun q s1 s5 wr=>∃ (j:Nat) (d:Int),s1=.int .i64 (κ j)∧s5=.int .i64 d∧wr=w∧0≤d∧d+j≤100∧j<els.length∧Hid (d+(dpt els j:Int)=(dpt els i:Int)+1)∧j≤q)
 case atStart=>exact⟨i,1,rfl,rfl,rfl,by omega,by omega,hlt,Lib.hid (by omega),Nat.le_refl _⟩
 case round =>
  obtain⟨j,d,rfl,rfl,rfl,hd,hdj,hj,HDP,hq⟩:=hrel
  by_cases h0:j=0
  · subst h0
    have hd0:d=(dpt els i:Int):=by
     have h1:=HDP.out;obtain⟨f,hf⟩:∃ f,els[0]?=some f:=⟨_,List.getElem?_eq_getElem hj⟩
     rcases H.out.par 0 f hf with ⟨-,h3⟩ | ⟨h3,-⟩
     · rw[dpt_root hf (by omega)]at h1;omega
     · exact absurd h3 (Nat.lt_irrefl _)
    have HD0:=Lib.hid hd0;clear hd0;go_wp2_with fail;go_ret;exact⟨⟨_,rfl,hd,by omega,HD0.out⟩,rfl⟩
  · have k0:(κ j != κ 0)=true:=by
     rw[bne_iff_ne]
     exact fun e=>h0 (H.out.inj _ _ e)
    obtain⟨f,hf⟩:∃ f,els[j]?=some f:=⟨_,List.getElem?_eq_getElem hj⟩;have hLK:=H.out.look hf;have hE:=(H.out.el j f hf).1
    rcases H.out.par j f hf with ⟨h1,-⟩ | ⟨-,h2,h3⟩
    · exact absurd h1 h0
    obtain⟨p,hp⟩:∃ p:Nat,f.parent=(p:Int):=⟨f.parent.toNat,by omega⟩;have hc:=hE.cell 1;have hl:=hE.lt;have HDQ:=Lib.hid (show d+1+(dpt els p:Int)=(dpt els i:Int)+1 by have h1:=HDP.out;rw[dpt_step H.out.par hf hp]at h1;omega);rw[show (kcells κ j f).toArray[1]?=some (.int .i64 (piK κ f.parent)) from rfl,hp,piK_nat]at hc;clear hE hf;generalize f.g=gf at *;rw[hp]at h2 h3;clear hp;go_wp2_with fail
    go_roundg p
    case measure=>omega
    case rel=>exact⟨p,d+1,rfl,by go_num,rfl,by omega,by omega,by omega,HDQ,Nat.le_refl _⟩
theorem Dm.one {w:World} {tB mb B gE:Nat} {tag:List UInt8} (htree:Blk w tB 78 #[.map (some mb),.int .i64 0,.int .i64 1]) (hmap:∃ D,MapIs D [gE]∧w.ownsMap Tryz.prog 3 ptrE mb 1 D)
  (hE:Blk w gE 57 #[.int .i64 0,.int .i64 (-1),.string ⟨tag.toArray⟩,.slice none 0 0,.slice none 0 0,.int .i64 0,.string ⟨#[]⟩,.int .i64 0,.int .i64 1,.int .i64 0,.int .i64 1])
  (h1:B≤mb) (h2:mb<gE) (h3:gE<tB) (hname:nameB tag=true):Dm w tB mb B [⟨-1,tag,freshX,gE,⟨0,0,none,0,[]⟩⟩]:=by
 have hone:∀ (i:Nat) (e:Me),([⟨-1,tag,freshX,gE,⟨0,0,none,0,[]⟩⟩]:List Me)[i]?=some e→i=0∧e=⟨-1,tag,freshX,gE,⟨0,0,none,0,[]⟩⟩:=fun i e he=>by
  cases i with
  | zero=>exact⟨rfl,(Option.some.inj he).symm⟩
  | succ i=>cases he
 have hown:∀ k,Me.own ⟨-1,tag,freshX,gE,⟨0,0,none,0,[]⟩⟩ k→k=gE:=fun k hk=>by
  rcases hk with h|⟨h,-⟩
  · exact h
  · exact absurd rfl h
 refine⟨htree,hmap,fun i e he=>?_,⟨by omega,h1,by omega⟩,fun i e he k hk=>?_,fun i j e f he hf hne=>?_,fun i e he hk=>?_,fun i e he=>?_,Nat.zero_lt_one,by simp,.root hname⟩
 · obtain⟨rfl,rfl⟩:=hone i e he;exact⟨hE,.inl ⟨rfl,rfl,rfl,rfl⟩,fresh64,Nat.zero_lt_one⟩
 · obtain⟨rfl,rfl⟩:=hone i e he;have:=hown k hk;omega
 · obtain⟨rfl,-⟩:=hone i e he;obtain⟨rfl,-⟩:=hone j f hf;exact absurd rfl hne
 · obtain⟨rfl,rfl⟩:=hone i e he;exact absurd rfl hk
 · obtain⟨rfl,rfl⟩:=hone i e he;exact .inl ⟨rfl,rfl⟩
set_option maxRecDepth 20000 in
set_option maxHeartbeats 8000000 in
theorem newT_any (tag:List UInt8) (hname:nameB tag=true) (h63:tag.length≤9223372036854775807) (w:World) :
  Calls Tryz.prog 18 #[.string ⟨tag.toArray⟩] w fun x w'=>(∃ tB mb els,x=.returned (.tuple #[.pointer (some ⟨tB,0,none⟩),.int .i64 0])∧Dm w' tB mb w.heap.size els∧els.length=1)∧Below w.heap.size w w':=by
 have hmn:=fun wx=>mayName_any tag wx h63
 rw[hname]at hmn;have HMN:=Lib.hid hmn;have HMM:=@run_makeMap Tryz.prog;have HNM:=Lib.hid hname;clear hmn hname h63
 go_enter Tryz.func18,Tryz.ntmps18
 go_wp2_with fail
 ((with_reducible refine(HMN.out _).mono ?_);rintro e wa ⟨rfl,hba⟩)
 have HB1:=Lib.hid hba;clear hba HMN;go_wp2_with fail;have hbm:=below_box wa (.map #[] 0);have hmk:=World.ownsMap_made wa Tryz.prog 3 ptrE;obtain⟨g,hg⟩:∃ g,wa.heap.size=g:=⟨_,rfl⟩;rw[hg]at hmk;simp only[hg];have HB2:=bfH' HB1 hbm;have HM:=Lib.hid hmk;have HG:=Lib.hid (show w.heap.size≤g by rw[← hg];exact HB1.out.size);clear hbm hmk HB1 hg;generalize World.alloc wa _=wb at *
 ((with_reducible refine(fresh_any _).mono ?_);rintro e wc ⟨rfl,hbc⟩)
 have hm:=HM.out.kept (grownBy_of_below hbc none) (fun e=>by cases e);have hgl:=Nat.lt_of_lt_of_le HM.out.lt hbc.size;obtain⟨w3,hrun,hown,hg3⟩:=(hm.alloc (.cells #[.int .i64 0,.int .i64 (-1),.string ⟨tag.toArray⟩,.slice none 0 0,.slice none 0 0,.int .i64 0,.string ⟨#[]⟩,.int .i64 0,.int .i64 1,.int .i64 0,.int .i64 1] 57)).update keyInt Tryz.underlying75 (by unfold maxLen;omega) (key:=.int .i64 0) (keyOf64 (by omega) (by omega)) (val:=.pointer (some ⟨wc.heap.size,0,none⟩)) rfl;obtain⟨h1,hb1⟩:=box_new' wc 57 #[.int .i64 0,.int .i64 (-1),.string ⟨tag.toArray⟩,.slice none 0 0,.slice none 0 0,.int .i64 0,.string ⟨#[]⟩,.int .i64 0,.int .i64 1,.int .i64 0,.int .i64 1];have HB3:=bfH' (bfH' HB2 hbc) hb1;have HE:=Lib.hid (show Blk w3 wc.heap.size 57 _ from (hg3.block wc.heap.size h1.lt (fun e=>by have:=Option.some.inj e;omega)).trans h1)
 have HB4:=Lib.hid (below_far HB3.out hg3 (fun k e=>by obtain rfl:=Option.some.inj e;exact HG.out));have HO:=Lib.hid hown;have HGL:=Lib.hid hgl;clear hm hown hg3 h1 hb1 hbc HB2 HB3 HM hgl;go_wp2_with fail;obtain⟨h5,hb5⟩:=box_new' w3 78 #[.map (some g),.int .i64 0,.int .i64 1];have hbx:=(bfH' HB4 hb5).out;refine bodyPost_ret (v:=.tuple #[.pointer (some ⟨w3.heap.size,0,none⟩),.int .i64 0]) (by simp[results,Tryz.results18,go_sem]) rfl ⟨⟨w3.heap.size,g,[⟨-1,tag,freshX,wc.heap.size,⟨0,0,none,0,[]⟩⟩],rfl,Dm.one h5 ⟨_,MapIs.nil.snoc wc.heap.size,HO.out.alloc _⟩ (HE.out.below hb5 HE.out.lt) HG.out HGL.out HE.out.lt HNM.out,rfl⟩,hbx⟩
theorem below_grownBy' {B:Nat} {a w w':World} {row:Option Nat} (h:Below B a w) (hg:w.grownBy w' row) (hs:B≤a.heap.size) (hr:∀ k,row=some k→B≤k):Below B a w' :=
 h.trans ⟨hg.os,hg.tape,hg.output,by have:=hg.size;have:=h.size;omega,fun k hk=>hg.block k (by have:=h.size;omega) (fun e=>by have:=hr k e.symm;omega)⟩
def Boxed (els:List Me) (id:Int) (b:Bx) (els':List Me):Prop:=els'=els∨∃ (i:Nat) (e:Me),(i:Int)=id∧els[i]?=some e∧boxB b=true∧els'=els.set i { e with bx:=b }
theorem Boxed.length {els els':List Me} {id:Int} {b:Bx} (h:Boxed els id b els'):els'.length=els.length:=by
 rcases h with rfl|⟨i,e,-,-,-,rfl⟩
 · rfl
 · exact List.length_set
theorem boxB_type {b:Bx} (h:boxB b=true):b.type≤2:=by
 unfold boxB at h;simp only[Bool.and_eq_true,decide_eq_true_eq]at h;exact h.1.1.1.2
set_option maxRecDepth 20000 in
set_option maxHeartbeats 8000000 in
theorem setBox_fr {w:World} {tB mb B:Nat} {els:List Me} (h:Dm w tB mb B els) (id:Int) (hi1:-9223372036854775808≤id) (hi2:id≤9223372036854775807) (b:Bx) (h64:Bx64 b) :
  Calls Tryz.prog 20 #[.pointer (some ⟨tB,0,none⟩),.int .i64 id,.agg (bxcells b).toArray] w fun x w'=>(∃ r,x=.returned r)∧∃ els',Boxed els id b els'∧Dm w' tB mb B els'∧Below B w w'∧(∀ k,k<w.heap.size→(∀ (i:Nat) (e:Me),els[i]?=some e→e.g≠k)→w'.heap[k]?=w.heap[k]?):=by
 have hBw:B≤w.heap.size:=Nat.le_trans h.base.1 (Nat.le_of_lt h.tree.lt)
 have hmb:=fun wx=>mayBox_any b wx h64
 obtain⟨M,hM⟩:∃ M,boxB b=M:=⟨_,rfl⟩;simp only[hM]at hmb;obtain⟨xt,xn,⟨xa,xb⟩,⟨xc,xd⟩⟩:=b
 have hmb:=fun wx=>show Calls Tryz.prog 39 #[.agg #[.int .i64 xt,.string ⟨xn.toArray⟩,.int .i64 xa,.int .i64 xb,.int .i64 xc,.int .i64 xd]] wx _ from hmb wx
 show Calls Tryz.prog 20 #[_,_,.agg #[.int .i64 xt,.string ⟨xn.toArray⟩,.int .i64 xa,.int .i64 xb,.int .i64 xc,.int .i64 xd]] w _;obtain⟨h1,hb1⟩:=box_new' w 55 #[.int .i64 xt,.string ⟨xn.toArray⟩,.int .i64 xa,.int .i64 xb,.int .i64 xc,.int .i64 xd];have hD:=h.below hb1;obtain⟨g,hg⟩:∃ g,w.heap.size=g:=⟨_,rfl⟩;rw[hg]at h1;have H1:=Lib.hid h1;have HB1:=Lib.hid (hb1.mono hBw);have HW1:=Lib.hid hb1;have HD:=Lib.hid hD;have HM:=Lib.hid hM;have HMB:=Lib.hid hmb;have H64:=Lib.hid h64;have HBW:=Lib.hid hBw
 by_cases hin:0≤id∧id<(els.length:Int)
 · obtain⟨i,rfl⟩:∃ i:Nat,id=(i:Int):=⟨id.toNat,by omega⟩
   have hil:i<els.length:=by omega
   obtain⟨e,he⟩:∃ e,els[i]?=some e:=⟨_,List.getElem?_eq_getElem hil⟩;have hLK:=hD.look he;have hE:=(hD.el i e he).1;have hfr:=(hD.far i e he e.g (.inl rfl)).1;have HE0:=Lib.hid he;obtain⟨pa,tg,⟨bt,bn,⟨wn,wd⟩,⟨hn,hd⟩⟩,ge,⟨kn,kc,ka,kb⟩⟩:=e;have HE:=Lib.hid (show Blk _ ge 57 #[.int .i64 (i:Int),.int .i64 pa,.string ⟨tg.toArray⟩,.slice ka kn kc,.slice none 0 0,.int .i64 bt,.string ⟨bn.toArray⟩,.int .i64 wn,.int .i64 wd,.int .i64 hn,.int .i64 hd] from hE);have HT:=Lib.hid hD.tree;have HFR:=Lib.hid (show B≤ge from hfr);simp only at hLK;clear h1 hb1 h hD hE hfr he hM hmb h64 hBw hin hil hi1 hi2
   go_enter Tryz.func20,Tryz.ntmps20
   go_upto_region 1 with fail
   try simp only[hg]
   clear hg;generalize World.alloc w _=wa at *;have t0:wa.cell? ⟨tB,0,none⟩=some (.map (some mb)):=(HT.out).cell 0;have ft0:=(HT.out).frozen 0;have t1:wa.cell? ⟨tB,1,none⟩=some (.int .i64 0):=(HT.out).cell 1;have ft1:=(HT.out).frozen 1;have t2:wa.cell? ⟨tB,2,none⟩=some (.int .i64 (els.length:Int)):=(HT.out).cell 2;have ft2:=(HT.out).frozen 2;have lt:=(HT.out).lt;obtain⟨c0,fc0,c1,fc1,c2,fc2,c3,fc3,c4,fc4,c5,fc5,lc⟩:=H1.out.bx6;go_wp2_with fail
   ((with_reducible refine(HMB.out _).mono ?_);rintro e wb ⟨rfl,hbb⟩)
   have hbB:Below B wa wb:=hbb.mono (by have:=HB1.out.size;have:=HBW.out;omega);have HB2:=Lib.hid (HB1.out.trans hbB);have HW2:=bfH' HW1 hbb;have HD2:=Lib.hid (HD.out.below hbb);have H2:=Lib.hid (H1.out.below hbb lc);have HE2:=Lib.hid (HE.out.below hbb HE.out.lt);clear c0 fc0 c1 fc1 c2 fc2 c3 fc3 c4 fc4 c5 fc5 lc;clear hbB hbb HMB hLK t0 ft0 t1 ft1 t2 ft2 lt HD H1 HE HT HB1
   cases M with
   | false =>
     go_wp2_with fail;go_ret;exact⟨⟨_,rfl⟩,els,.inl rfl,HD2.out,HB2.out,fun k hk _=>HW2.out.block k hk⟩
   | true =>
     obtain⟨c0,fc0,c1,fc1,c2,fc2,c3,fc3,c4,fc4,c5,fc5,lc⟩:=H2.out.bx6;obtain⟨e0,fe0,e1,fe1,e2,fe2,e3,fe3,e4,fe4,e5,fe5,e6,fe6,e7,fe7,e8,fe8,e9,fe9,e10,fe10,le⟩:=HE2.out.el11;go_wp2_with fail;have hz:=blk_putsM [] [.int .i64 xt,.string ⟨xn.toArray⟩,.int .i64 xa,.int .i64 xb,.int .i64 xc,.int .i64 xd] [.int .i64 bt,.string ⟨bn.toArray⟩,.int .i64 wn,.int .i64 wd,.int .i64 hn,.int .i64 hd] wb 5 [.int .i64 (i:Int),.int .i64 pa,.string ⟨tg.toArray⟩,.slice ka kn kc,.slice none 0 0] HE2.out rfl rfl;have hgz:=grownBy_puts [.int .i64 xt,.string ⟨xn.toArray⟩,.int .i64 xa,.int .i64 xb,.int .i64 xc,.int .i64 xd] wb ge 5;simp only[puts,Nat.reduceAdd]at hz hgz;go_ret
     exact⟨⟨_,rfl⟩,_,.inr ⟨i,_,rfl,HE0.out,HM.out,rfl⟩,HD2.out.box HE0.out ⟨H64.out,boxB_type HM.out⟩ HM.out hgz hz,below_grownBy' HB2.out hgz HBW.out (fun k e=>by obtain rfl:=Option.some.inj e;exact HFR.out),fun k hk hn=>(hgz.block k (Nat.lt_of_lt_of_le hk HW2.out.size) (fun e=>hn i _ HE0.out (Option.some.inj e).symm)).trans (HW2.out.block k hk)⟩
 · have hLK:=hD.look_none hi1 hi2 (by omega);have HT:=Lib.hid hD.tree;clear h1 hb1 h hD hM hmb h64 hBw hin hi1 hi2
   go_enter Tryz.func20,Tryz.ntmps20
   go_upto_region 1 with fail
   try simp only[hg]
   clear hg;generalize World.alloc w _=wa at *;have t0:wa.cell? ⟨tB,0,none⟩=some (.map (some mb)):=(HT.out).cell 0;have ft0:=(HT.out).frozen 0;have t1:wa.cell? ⟨tB,1,none⟩=some (.int .i64 0):=(HT.out).cell 1;have ft1:=(HT.out).frozen 1;have t2:wa.cell? ⟨tB,2,none⟩=some (.int .i64 (els.length:Int)):=(HT.out).cell 2;have ft2:=(HT.out).frozen 2;have lt:=(HT.out).lt;go_wp2_with fail;go_ret;exact⟨⟨_,rfl⟩,els,.inl rfl,HD.out,HB1.out,fun k hk _=>HW1.out.block k hk⟩
theorem setBox_any {w:World} {tB mb B:Nat} {els:List Me} (h:Dm w tB mb B els) (id:Int) (hi1:-9223372036854775808≤id) (hi2:id≤9223372036854775807) (b:Bx) (h64:Bx64 b) :
  Calls Tryz.prog 20 #[.pointer (some ⟨tB,0,none⟩),.int .i64 id,.agg (bxcells b).toArray] w fun x w'=>(∃ r,x=.returned r)∧∃ els',Boxed els id b els'∧Dm w' tB mb B els'∧Below B w w' :=
 (setBox_fr h id hi1 hi2 b h64).mono fun x w' ⟨h1,els',h2,h3,h4,_⟩=>⟨h1,els',h2,h3,h4⟩
set_option maxRecDepth 20000 in
set_option maxHeartbeats 16000000 in
theorem insertT_any {w:World} {tB mb B:Nat} {els:List Me} (h:Dm w tB mb B els) (id:Int) (hi1:-9223372036854775808≤id) (hi2:id≤9223372036854775807) (hlen:els.length<41) :
  Calls Tryz.prog 19 #[.pointer (some ⟨tB,0,none⟩),.int .i64 id,.int .i64 0,.string ⟨#[112]⟩] w fun x w'=>(∃ r,x=.returned r)∧∃ els',els'.length≤els.length+1∧Dm w' tB mb B els'∧Below B w w':=by
 have hBw:B≤w.heap.size:=Nat.le_trans h.base.1 (Nat.le_of_lt h.tree.lt);have HT:=Lib.hid h.tree;have HD:=Lib.hid h;have HBW:=Lib.hid hBw;have t0:w.cell? ⟨tB,0,none⟩=some (.map (some mb)):=(h.tree).cell 0;have ft0:=(h.tree).frozen 0;have t1:w.cell? ⟨tB,1,none⟩=some (.int .i64 0):=(h.tree).cell 1;have ft1:=(h.tree).frozen 1;have t2:w.cell? ⟨tB,2,none⟩=some (.int .i64 (els.length:Int)):=(h.tree).cell 2;have ft2:=(h.tree).frozen 2;have lt:=(h.tree).lt
 by_cases hin:0≤id∧id<(els.length:Int)
 · obtain⟨i,rfl⟩:∃ i:Nat,id=(i:Int):=⟨id.toNat,by omega⟩
   have hil:i<els.length:=by omega
   obtain⟨e,he⟩:∃ e,els[i]?=some e:=⟨_,List.getElem?_eq_getElem hil⟩;have hLK:=h.look he;have hDP:=depth_any h he
   have hMN:=fun wx=>show Calls Tryz.prog 36 #[.string ⟨#[112]⟩] wx fun e w'=>e=.returned (.bool true)∧Below wx.heap.size wx w' from mayName_any [112] wx (by decide)
   have HMN:=Lib.hid hMN;have HE0:=Lib.hid he;have hE:=(h.el i e he).1;have hKs:=(h.el i e he).2.1;have hkn:=(h.el i e he).2.2.2;have HKs:=Lib.hid hKs;obtain⟨pa,tg,⟨bt,bn,⟨wn,wd⟩,⟨hn,hd⟩⟩,ge,⟨kn,kc,ka,kb,kl⟩⟩:=e;have hkn:kn<els.length:=hkn;have HE:=Lib.hid (show Blk w ge 57 #[.int .i64 (i:Int),.int .i64 pa,.string ⟨tg.toArray⟩,.slice ka kn kc,.slice none 0 0,.int .i64 bt,.string ⟨bn.toArray⟩,.int .i64 wn,.int .i64 wd,.int .i64 hn,.int .i64 hd] from hE);have e3:=HE.out.cell 3;have el:=HE.out.lt
   have gz:decide ((kn:Int)<(0:Int))=false:=by simp
   simp only at hLK;clear h hE he hKs hMN hi1 hi2 hin hBw
   go_enter Tryz.func19,Tryz.ntmps19
   go_upto_region 6 with fail
   go_wp2_with fail
   ((with_reducible refine(HMN.out _).mono ?_);rintro e wa ⟨rfl,hba⟩)
   have HDa:=Lib.hid (HD.out.below hba);have HBa:=Lib.hid (hba.mono HBW.out);have HEa:=Lib.hid (HE.out.below hba HE.out.lt);have HKa:=Lib.hid (HKs.out.old (w':=wa) (fun hk=>hba.block _ (HKs.out.lt hk)));have HBWa:=Lib.hid (Nat.le_trans HBW.out hba.size);clear t0 ft0 t1 ft1 t2 ft2 lt e3 el hLK hDP HT HD HE HKs HMN hba;obtain⟨D,hD,hm⟩:=HDa.out.map
   have hSZ:Maps.size D=els.length:=by rw[hD.size,List.length_map]
   have HMap:=Lib.hid (And.intro hD hm);clear hD
   have g256:decide ((256:Int)≤(els.length:Int))=false:=by simp;omega
   have gid:decide ((1073741824:Int)<(els.length:Int))=false:=by simp;omega
   have t0:wa.cell? ⟨tB,0,none⟩=some (.map (some mb)):=(HDa.out.tree).cell 0;have ft0:=(HDa.out.tree).frozen 0;have t1:wa.cell? ⟨tB,1,none⟩=some (.int .i64 0):=(HDa.out.tree).cell 1;have ft1:=(HDa.out.tree).frozen 1;have t2:wa.cell? ⟨tB,2,none⟩=some (.int .i64 (els.length:Int)):=(HDa.out.tree).cell 2;have ft2:=(HDa.out.tree).frozen 2;have lt:=(HDa.out.tree).lt
   go_upto_region 10 with (at_len;refine wpList_len_own _ rfl _ 75 rfl 3 76 Tryz.underlying75 ptrE mb els.length D rfl hm ?_;rw[hSZ])
   clear hm g256 gid;have HDP:=Lib.hid (depth_any HDa.out HE0.out);go_wp2_with fail
   ((with_reducible refine HDP.out.mono ?_);rintro e wb ⟨⟨d,rfl,hd0,hd1,hdd⟩,rfl⟩)
   have HDD:=Lib.hid hdd;clear HDP hdd
   by_cases h32:32≤d
   · have k32:decide ((32:Int)≤d)=true:=by simpa using h32
     go_wp2_with fail;exact bodyPost_ret (v:=.tuple #[.int .i64 0,.int .i64 7]) (by simp[results,Tryz.results19,go_sem]) rfl ⟨⟨_,rfl⟩,els,Nat.le_succ _,HDa.out,HBa.out⟩
   · have k32:decide ((32:Int)≤d)=false:=by simpa using h32
     go_upto_region 14 with fail
     -- which blocks are which
     have hmB:mb<wb.heap.size:=HMap.out.2.lt;have htB:=HDa.out.tree.lt;have hgB:=HEa.out.lt;have hne1:tB≠mb:=HDa.out.base.2.2;have hfar:=HDa.out.far i _ HE0.out;have hge:ge≠tB∧ge≠mb:=(hfar ge (.inl rfl)).2
     have hkbf:ka≠none→kb≠tB∧kb≠mb∧ge≠kb∧kb<wb.heap.size:=fun hk=>⟨(hfar kb (.inr ⟨hk,rfl⟩)).2.1,(hfar kb (.inr ⟨hk,rfl⟩)).2.2,HDa.out.self i _ HE0.out hk,HKa.out.lt hk⟩
     have hg1:=grownBy_set wb ⟨tB,2,none⟩ (.int .i64 ((els.length:Int)+1));have HT1:=Lib.hid ((HDa.out.tree.put 2 (.int .i64 ((els.length:Int)+1))).to (cs':=#[.map (some mb),.int .i64 0,.int .i64 ((els.length:Int)+1)]) rfl);have HM1:=Lib.hid (HMap.out.2.kept hg1 (fun e=>hne1 (Option.some.inj e).symm));have HG1:=Lib.hid hg1;have hs1:=hg1.size;clear hg1 t0 ft0 t1 ft1 t2 ft2 lt hSZ hfar;generalize World.setCell wb _ _=w1 at *;have t0:w1.cell? ⟨tB,0,none⟩=some (.map (some mb)):=(HT1.out).cell 0;have ft0:=(HT1.out).frozen 0;have t1:w1.cell? ⟨tB,1,none⟩=some (.int .i64 0):=(HT1.out).cell 1;have ft1:=(HT1.out).frozen 1;have t2:w1.cell? ⟨tB,2,none⟩=some (.int .i64 ((els.length:Int)+1)):=(HT1.out).cell 2;have ft2:=(HT1.out).frozen 2;have lt:=(HT1.out).lt;have HL7:=Lib.hid (show Below w1.heap.size w1 w1.drew from (Below.refl _ _).drew)
     refine wp_region_held_drew (S:=(fun wx=>wx.cell? ⟨tB,0,none⟩=some (.map (some mb)))) (by kernel_rfl) (by (try dsimp only);go_keep) (fun hHeld=>?_);generalize w1.drew=w7 at *;refine wpAnyH_take (i:=0) (v:=?hvv0_1) rfl (by kernel_rfl) (by kernel_rfl) (by kernel_rfl) (fun _ _ _ h=>h) (Or.inl ⟨by rfl,?hhy0_1⟩) (by assumption) ?_
     case hhy0_1=>(intro w hSw;(try dsimp only at hSw);go_simp;try with_reducible rfl)
     change wpAnyH _ _ _ _ _ _ _ (Act.put _ (some 67) _) _
     try simp only[Act.put,List.setIfInBounds_toArray,List.set_cons_zero,List.set_cons_succ]
     refine wpAnyH_take (i:=1) (v:=?hvv1_2) rfl (by kernel_rfl) (by kernel_rfl) (by kernel_rfl) (fun _ _ _ h=>h) (Or.inl ⟨by rfl,?hhy1_2⟩) (by assumption) ?_
     case hhy1_2=>(intro w hSw;(try dsimp only at hSw);go_simp;try with_reducible rfl)
     change wpAnyH _ _ _ _ _ _ _ (Act.put _ (some 68) _) _
     try simp only[Act.put,List.setIfInBounds_toArray,List.set_cons_zero,List.set_cons_succ]
     refine wpAnyH_take (i:=2) (v:=?hvv2_3) rfl (by kernel_rfl) (by kernel_rfl) (by kernel_rfl) (fun _ _ _ h=>h) (Or.inl ⟨by rfl,?hhy2_3⟩) (by assumption) ?_
     case hhy2_3=>(intro w hSw;(try dsimp only at hSw);go_simp;try with_reducible rfl)
     change wpAnyH _ _ _ _ _ _ _ (Act.put _ (some 69) _) _
     try simp only[Act.put,List.setIfInBounds_toArray,List.set_cons_zero,List.set_cons_succ]
     refine wpAnyH_take (i:=3) (v:=?hvv3_4) rfl (by kernel_rfl) (by kernel_rfl) (by kernel_rfl) (fun _ _ _ h=>h) (Or.inl ⟨by rfl,?hhy3_4⟩) (by assumption) ?_
     case hhy3_4=>(intro w hSw;(try dsimp only at hSw);go_simp;try with_reducible rfl)
     change wpAnyH _ _ _ _ _ _ _ (Act.put _ (some 70) _) _
     try simp only[Act.put,List.setIfInBounds_toArray,List.set_cons_zero,List.set_cons_succ]
     refine wpAnyH_take (i:=4) (v:=?hvv4_5) rfl (by kernel_rfl) (by kernel_rfl) (by kernel_rfl) (fun _ _ _ h=>h) (Or.inl ⟨by rfl,?hhy4_5⟩) (by assumption) ?_
     case hhy4_5=>(intro w hSw;(try dsimp only at hSw);go_simp;try with_reducible rfl)
     change wpAnyH _ _ _ _ _ _ _ (Act.put _ (some 71) _) _
     try simp only[Act.put,List.setIfInBounds_toArray,List.set_cons_zero,List.set_cons_succ]
     refine wpAnyH_take (i:=5) (v:=?hvv5_6) rfl (by kernel_rfl) (by kernel_rfl) (by kernel_rfl) (fun _ _ _ h=>h) (Or.inl ⟨by rfl,?hhy5_6⟩) (by assumption) ?_
     case hhy5_6=>(intro w hSw;(try dsimp only at hSw);go_simp;try with_reducible rfl)
     change wpAnyH _ _ _ _ _ _ _ (Act.put _ (some 72) _) _
     try simp only[Act.put,List.setIfInBounds_toArray,List.set_cons_zero,List.set_cons_succ]
     refine wpAnyH_take (i:=6) (v:=?hvv6_7) rfl (by kernel_rfl) (by kernel_rfl) (by kernel_rfl) (fun _ _ _ h=>h) (Or.inl ⟨by rfl,?hhy6_7⟩) (by assumption) ?_
     case hhy6_7=>(intro w hSw;(try dsimp only at hSw);go_simp;try with_reducible rfl)
     change wpAnyH _ _ _ _ _ _ _ (Act.put _ (some 73) _) _
     try simp only[Act.put,List.setIfInBounds_toArray,List.set_cons_zero,List.set_cons_succ]
     refine wpAnyH_take (i:=7) (v:=?hvv7_8) rfl (by kernel_rfl) (by kernel_rfl) (by kernel_rfl) (fun _ _ _ h=>h) (Or.inl ⟨by rfl,?hhy7_8⟩) (by assumption) ?_
     case hhy7_8=>(intro w hSw;(try dsimp only at hSw);go_simp;try with_reducible rfl)
     change wpAnyH _ _ _ _ _ _ _ (Act.put _ (some 74) _) _
     try simp only[Act.put,List.setIfInBounds_toArray,List.set_cons_zero,List.set_cons_succ]
     refine wpAnyH_ready (rs:=[8]) (by kernel_rfl) (by simp) ?_;refine AllReadyH.cons rfl (fun K hK=>?_) AllReadyH.nil
     go_simp
     ((with_reducible refine(fresh_any _).mono ?_);rintro e w8 ⟨rfl,hb8⟩)
     have hbl:Below w1.heap.size w1 w8:=HL7.out.trans (hb8.mono HL7.out.size);refine hK.out _ _ ((hbl.cell (p:=⟨tB,0,none⟩) lt).trans t0) (fun hHeld=>?_);have HL8:=Lib.hid hbl;clear hK K hb8 HL7;refine wpAnyH_take (i:=9) (v:=?hvv9_9) rfl (by kernel_rfl) (by kernel_rfl) (by kernel_rfl) (fun _ _ _ h=>h) (Or.inl ⟨by rfl,?hhy9_9⟩) (by assumption) ?_
     case hhy9_9=>(intro w hSw;(try dsimp only at hSw);go_simp;try with_reducible rfl)
     change wpAnyH _ _ _ _ _ _ _ (Act.put _ (some 76) _) _
     try simp only[Act.put,List.setIfInBounds_toArray,List.set_cons_zero,List.set_cons_succ]
     obtain⟨hbk,hb9⟩:=box_new' w8 57 #[.int .i64 (els.length:Int),.int .i64 (i:Int),.string ⟨#[112]⟩,.slice none 0 0,.slice none 0 0,.int .i64 0,.string ⟨#[]⟩,.int .i64 0,.int .i64 1,.int .i64 0,.int .i64 1];refine wpAnyH_ready (rs:=[10]) (by kernel_rfl) (by simp) ?_;refine AllReadyH.cons rfl (fun K hK=>?_) AllReadyH.nil
     go_simp
     have hbl9:Below w1.heap.size w1 (w8.alloc (.cells #[.int .i64 (els.length:Int),.int .i64 (i:Int),.string ⟨#[112]⟩,.slice none 0 0,.slice none 0 0,.int .i64 0,.string ⟨#[]⟩,.int .i64 0,.int .i64 1,.int .i64 0,.int .i64 1] 57)):=hbl.trans (hb9.mono hbl.size);refine hK.out _ _ ((hbl9.cell (p:=⟨tB,0,none⟩) lt).trans t0) (fun hHeld=>?_);have HL9:=Lib.hid hbl9;have HBK:=Lib.hid hbk;have hs2:=hbl9.size;have hg77:=hbl.size;have hlk:=hbk.lt;have hm9:=HM1.out.kept (grownBy_of_below hbl9 none) (fun e=>by cases e);obtain⟨w3,hrun,hown3,hg3⟩:=hm9.update keyInt Tryz.underlying75 (by unfold maxLen;omega) (key:=.int .i64 (els.length:Int)) (keyOf64 (by omega) (by omega)) (val:=.pointer (some ⟨w8.heap.size,0,none⟩)) rfl;clear hK K hbl hbl9 hb9 hbk HL8 hm9;refine wpAnyH_ready (rs:=[11]) (by kernel_rfl) (by simp) ?_;refine AllReadyH.cons rfl (fun K hK=>?_) AllReadyH.nil
     go_simp
     have HT3:=Lib.hid (show Blk w3 tB 78 #[.map (some mb),.int .i64 0,.int .i64 ((els.length:Int)+1)] from (hg3.block tB (Nat.lt_of_lt_of_le HT1.out.lt hs2) (fun e=>hne1 (Option.some.inj e))).trans (HT1.out.below HL9.out HT1.out.lt));refine hK.out _ _ (HT3.out.cell 0) (fun hHeld=>?_);clear hK K;refine wpAnyH_done (by kernel_rfl) ?_ _;obtain⟨g77,hgg⟩:∃ g77,w8.heap.size=g77:=⟨_,rfl⟩;rw[hgg]at HBK hown3 hg77 hlk;have HN3:=Lib.hid (show Blk w3 g77 57 #[.int .i64 (els.length:Int),.int .i64 (i:Int),.string ⟨#[112]⟩,.slice none 0 0,.slice none 0 0,.int .i64 0,.string ⟨#[]⟩,.int .i64 0,.int .i64 1,.int .i64 0,.int .i64 1] from (hg3.block g77 hlk (fun e=>by have:=Option.some.inj e;omega)).trans HBK.out)
     have HS3:=Lib.hid (show ∀ k,k<wb.heap.size→k≠tB→k≠mb→w3.heap[k]?=wb.heap[k]? from fun k hk h1 h2=>(hg3.block k (by omega) (fun e=>h2 (Option.some.inj e))).trans ((HL9.out.block k (by omega)).trans (HG1.out.block k hk (fun e=>h1 (Option.some.inj e)))));have hs3:=hg3.size;have HO3:=Lib.hid hown3;have HB3:=Lib.hid (show Below B wb w3 from ⟨hg3.os.trans (HL9.out.os.trans HG1.out.os),hg3.tape.trans (HL9.out.tape.trans HG1.out.tape),hg3.output.trans (HL9.out.output.trans HG1.out.output),by omega,fun k hk=>HS3.out k (by have:=HBWa.out;omega) (by have:=HDa.out.base.1;omega) (by have:=HDa.out.base.2.1;omega)⟩);simp only[hgg];have HGG:=Lib.hid hgg;clear hgg hrun hown3 hg3 HL9 HBK HG1 HT1 HM1 t0 ft0 t1 ft1 t2 ft2 lt hHeld;generalize World.alloc w8 _=w9 at *
     have HE3:=Lib.hid (show Blk w3 ge 57 #[.int .i64 (i:Int),.int .i64 pa,.string ⟨tg.toArray⟩,.slice ka kn kc,.slice none 0 0,.int .i64 bt,.string ⟨bn.toArray⟩,.int .i64 wn,.int .i64 wd,.int .i64 hn,.int .i64 hd] from (HS3.out ge hgB hge.1 hge.2).trans HEa.out);have HK3:=Lib.hid (HKa.out.old (w':=w3) (fun hk=>HS3.out kb (hkbf hk).2.2.2 (hkbf hk).1 (hkbf hk).2.1));have e3:=HE3.out.cell 3;have el:=HE3.out.lt
     have hins:=fun wx vb (hk:KsIn wx ⟨kn,kc,ka,kb,kl⟩) (hv:Blk wx vb 3 #[.int .i64 (els.length:Int)]) (hvb:ka≠none→vb≠kb)=>insertI_any ⟨kn,kc,ka,kb,kl⟩ els.length vb wx hk (show kn≤1000 by omega) hv hvb
     simp only[ksV]at hins;obtain⟨hV,hbV⟩:=box_new' w3 3 #[.int .i64 (els.length:Int)];have hKV:KsIn (w3.alloc (.cells #[.int .i64 (els.length:Int)] 3)) ⟨kn,kc,ka,kb,kl⟩:=HK3.out.old (fun hk=>hbV.block kb (by have:=(hkbf hk).2.2.2;omega));have HINS:=Lib.hid (hins _ w3.heap.size hKV hV (fun hk=>by have:=(hkbf hk).2.2.2;omega));have HV4:=Lib.hid (And.intro hbV (Nat.lt_of_lt_of_le hV.lt (Nat.le_refl _)));clear hins hV hKV hbV;go_wp2_with fail
     ((with_reducible refine HINS.out.mono ?_);rintro e w5 ⟨⟨n2,c2,a2,b2,l2⟩,rfl,hn2,hl2,hk2,hmv⟩)
     obtain rfl:n2=kn+1:=hn2;obtain rfl:l2=els.length::kl:=hl2;have hs4:=HV4.out.2
     have hs5:w3.heap.size<w5.heap.size:=by
      rcases hmv with ⟨-,-,hg⟩ | ⟨-,hg⟩
      · have:=hg.size;omega
      · have:=hg.size;omega
     have HS5:=Lib.hid (show ∀ k,k<w3.heap.size→(ka≠none→k≠kb)→w5.heap[k]?=w3.heap[k]? from fun k hk hne=>by
      have h1:=HV4.out.1.block k hk
      rcases hmv with ⟨hka,-,hg⟩ | ⟨-,hg⟩
      · exact(hg.block k (by omega) (fun e=>hne hka (Option.some.inj e))).trans h1
      · exact(hg.block k (by omega) (fun e=>by cases e)).trans h1)
     have HP5:=Lib.hid (show w5.os=w3.os∧w5.tape=w3.tape∧w5.output=w3.output from by
      rcases hmv with ⟨-,-,hg⟩ | ⟨-,hg⟩<;>exact⟨hg.os.trans HV4.out.1.os,hg.tape.trans HV4.out.1.tape,hg.output.trans HV4.out.1.output⟩)
     have HMV:=Lib.hid (show a2≠none→(ka≠none∧b2=kb)∨(w3.heap.size<b2) from fun _=>by
      rcases hmv with ⟨h1,h2,-⟩ | ⟨h1,-⟩
      · exact .inl ⟨h1,h2⟩
      · have h1:(w3.alloc (.cells #[.int .i64 (els.length:Int)] 3)).heap.size≤b2:=h1
        exact .inr (by omega))
     have HK5:=Lib.hid hk2;have hE5:Blk w5 ge 57 #[.int .i64 (i:Int),.int .i64 pa,.string ⟨tg.toArray⟩,.slice ka kn kc,.slice none 0 0,.int .i64 bt,.string ⟨bn.toArray⟩,.int .i64 wn,.int .i64 wd,.int .i64 hn,.int .i64 hd]:=(HS5.out ge (by omega) (fun hk=>(hkbf hk).2.2.1)).trans HE3.out;have HE5:=Lib.hid hE5;have e3:=hE5.cell 3;have fe3:=hE5.frozen 3;have el:=hE5.lt;clear hmv hk2 HINS HV4 HE3 HK3 hE5;simp only[ksV];go_wp2_with fail;have hgz:=grownBy_set w5 ⟨ge,3,none⟩ (.slice a2 (kn+1) c2)
     have hkeep:∀ k,k≠ge→k<w5.heap.size→(w5.setCell ⟨ge,3,none⟩ (.slice a2 (kn+1) c2)).heap[k]?=w5.heap[k]?:=fun k hk hl=>hgz.block k hl (fun e=>hk (Option.some.inj e))
     have hown:∀ k,¬ Me.own ⟨pa,tg,⟨bt,bn,(wn,wd),(hn,hd)⟩,ge,⟨kn,kc,ka,kb,kl⟩⟩ k→k≠ge∧(ka≠none→k≠kb):=fun k hk=>⟨fun e=>hk (.inl e),fun h1 e=>hk (.inr ⟨h1,e⟩)⟩
     have hTs:tB<w3.heap.size:=HT3.out.lt;have hMs:mb<w3.heap.size:=HO3.out.lt;refine bodyPost_ret (v:=.tuple #[.int .i64 (els.length:Int),.int .i64 0]) (by simp[results,Tryz.results19,go_sem]) rfl ⟨⟨_,rfl⟩,_,?_,HDa.out.insert HE0.out (gN:=g77) (ks:=⟨kn+1,c2,a2,b2,els.length::kl⟩) (tag:=[112]) (fun k hk h1 h2 h3=>?_) ?_ ⟨_,(HMap.out.1).snoc g77,?_⟩ (by omega) ?_ ?_ ?_ (fun hk=>?_) hlen (show kn+1≤els.length by omega) (by decide) (by have:=HDD.out;omega) rfl,?_⟩
     · rw[List.length_append,List.length_set,List.length_singleton];exact Nat.le_refl _
     · have h4:=hown k h3;exact(hkeep k h4.1 (by omega)).trans ((HS5.out k (by omega) h4.2).trans (HS3.out k hk h1 h2))
     · rw[show ((els.length+1:Nat):Int)=(els.length:Int)+1 by omega];exact(hkeep tB hge.1.symm (by omega)).trans ((HS5.out tB hTs (fun hk=>(hkbf hk).1.symm)).trans HT3.out)
     · rw[List.length_map];obtain⟨es,clock,hb,F,hs,hD⟩:=HO3.out;exact⟨es,clock,((hkeep mb hge.2.symm (by omega)).trans (HS5.out mb hMs (fun hk=>(hkbf hk).2.1.symm))).trans hb,F,hs,hD⟩
     · have hg3:=HN3.out.lt
       exact show Blk _ g77 57 #[.int .i64 (els.length:Int),.int .i64 (i:Int),.string ⟨#[112]⟩,.slice none 0 0,.slice none 0 0,.int .i64 0,.string ⟨#[]⟩,.int .i64 0,.int .i64 1,.int .i64 0,.int .i64 1] from (hkeep g77 (by omega) (by omega)).trans ((HS5.out g77 hg3 (fun hk=>by have:=(hkbf hk).2.2.2;omega)).trans HN3.out)
     · exact show Blk _ ge 57 #[.int .i64 (i:Int),.int .i64 pa,.string ⟨tg.toArray⟩,.slice a2 (kn+1:Nat) c2,.slice none 0 0,.int .i64 bt,.string ⟨bn.toArray⟩,.int .i64 wn,.int .i64 wd,.int .i64 hn,.int .i64 hd] from (HE5.out.put 3 _).to rfl
     · refine HK5.out.old (fun hk=>hkeep b2 ?_ (HK5.out.lt hk))
       rcases HMV.out hk with ⟨h1,h2⟩ | h2
       · rw[h2];exact(hkbf h1).2.2.1.symm
       · omega
     · have hg3:=HN3.out.lt
       rcases HMV.out hk with ⟨h1,h2⟩ | h2
       · exact .inl ⟨h1,h2⟩
       · exact .inr ⟨show wb.heap.size≤b2 by omega,show b2≠g77 by omega⟩
     · have hfar:=HDa.out.far i _ HE0.out;have hB1:B≤ge:=(hfar ge (.inl rfl)).1
       have hB2:ka≠none→B≤kb:=fun hk=>(hfar kb (.inr ⟨hk,rfl⟩)).1
       have hBw:=HBWa.out;exact(HBa.out.trans HB3.out).trans ⟨hgz.os.trans HP5.out.1,hgz.tape.trans HP5.out.2.1,hgz.output.trans HP5.out.2.2,by have:=hgz.size;omega,fun k hk=>(hkeep k (by omega) (by omega)).trans (HS5.out k (by omega) (fun h=>by have:=hB2 h;omega))⟩
 · have hLK:=h.look_none hi1 hi2 (by omega);clear h hin hi1 hi2 hBw
   go_enter Tryz.func19,Tryz.ntmps19
   go_wp2_with fail;exact bodyPost_ret (v:=.tuple #[.int .i64 0,.int .i64 5]) (by simp[results,Tryz.results19,go_sem]) rfl ⟨⟨_,rfl⟩,els,Nat.le_succ _,HD.out,Below.refl _ _⟩
structure BxIn (w:World) (oa:Option Addr) (cap b o:Nat) (l:List Bx):Prop where
 hcap:l.length≤cap
 small:cap≤maxLen
 at_:0<l.length→oa=some ⟨b,o,none⟩∧b<w.heap.size
 c:∀ (i:Nat) (x:Bx),l[i]?=some x→∀ (j:Nat) (v:Value),(bxcells x)[j]?=some v→w.cell? ⟨b,o+i*6+j,none⟩=some v
 is64:∀ (i:Nat) (x:Bx),l[i]?=some x→Bx64 x
theorem BxIn.below {w w':World} {oa:Option Addr} {cap b o:Nat} {l:List Bx} (h:BxIn w oa cap b o l) (hb:Below w.heap.size w w'):BxIn w' oa cap b o l :=
 ⟨h.hcap,h.small,fun hl=>⟨(h.at_ hl).1,Nat.lt_of_lt_of_le (h.at_ hl).2 hb.size⟩,fun i x hx j v hv=>(hb.cell (h.at_ (by have:=(List.getElem?_eq_some_iff.1 hx).1;omega)).2).trans (h.c i x hx j v hv),h.is64⟩
theorem Dm.lower {w:World} {tB mb B B':Nat} {els:List Me} (h:Dm w tB mb B els) (hB:B'≤B):Dm w tB mb B' els :=
 ⟨h.tree,h.map,h.el,⟨Nat.le_trans hB h.base.1,Nat.le_trans hB h.base.2.1,h.base.2.2⟩,fun i e he k hk=>⟨Nat.le_trans hB (h.far i e he k hk).1,(h.far i e he k hk).2⟩,h.apart,h.self,h.par,h.pos,h.small,h.gr⟩
theorem tmod_bd (y:Int) (i:Nat) (h:i≤100):-101≤y.tmod ((i:Int)+1)∧y.tmod ((i:Int)+1)≤101:=by
 have key:∀ z:Int,0≤z→0≤z.tmod ((i:Int)+1)∧z.tmod ((i:Int)+1)≤101:=fun z hz=>by
  rw[Int.tmod_eq_emod_of_nonneg hz];have h1:=Int.emod_nonneg z (show (i:Int)+1≠0 by omega);have h2:=Int.emod_lt_of_pos z (show (0:Int)<(i:Int)+1 by omega);omega
 rcases Int.le_total 0 y with hy|hy
 · have:=key y hy;omega
 · have h1:=key (-y) (by omega);rw[Int.neg_tmod]at h1;omega
set_option maxRecDepth 20000 in
set_option maxHeartbeats 8000000 in
theorem rooms_any (uo:Option Addr) (uc ub uf:Nat) (U:List Int) (bo:Option Addr) (bc bb bf:Nat) (L:List Bx) (w:World) (hU:Ints w uo U.length uc ub uf U) (hL:BxIn w bo bc bb bf L) :
  Calls Tryz.prog 5 #[.agg #[.slice uo U.length uc,.slice bo L.length bc]] w fun x w'=>(∃ tB mb els,x=.returned (.pointer (some ⟨tB,0,none⟩))∧Dm w' tB mb w.heap.size els)∧Below w.heap.size w w':=by
 obtain⟨hbx,hb1⟩:=box_new' w 25 #[.slice uo U.length uc,.slice bo L.length bc];have hlU:U.length≤9223372036854775807:=Nat.le_trans (Nat.le_trans hU.hcap hU.small) (by decide);have hlL:L.length≤9223372036854775807:=Nat.le_trans (Nat.le_trans hL.hcap hL.small) (by decide);have HU:=Lib.hid (hU.below hb1);have HL:=Lib.hid (hL.below hb1)
 have hNT:=fun wx=>newT_any [104,116,109,108] (by decide) (by decide) wx
 have HNT:=Lib.hid (show ∀ wx,Calls Tryz.prog 18 #[.string ⟨#[104,116,109,108]⟩] wx _ from hNT);obtain⟨g,hg⟩:∃ g,w.heap.size=g:=⟨_,rfl⟩;rw[hg]at hbx;have HBX:=Lib.hid hbx;have HB1:=Lib.hid hb1;clear hbx hb1 hNT hU hL
 go_enter Tryz.func5,Tryz.ntmps5
 go_upto_region 1 with fail
 try simp only[hg]
 have HG:=Lib.hid hg;clear hg;generalize World.alloc w _=wa at *;go_wp2_with fail
 ((with_reducible refine(HNT.out _).mono ?_);rintro e wb ⟨⟨tB,mb,els,rfl,hD,hlen⟩,hbb⟩)
 have HD:=Lib.hid hD;have HB:=Lib.hid hbb;clear hD hbb HNT;go_wp2_with fail
 go_loopg [5] 40 (fun q s5 wr=>∃ (i:Nat) (els:List Me),s5=.int .i64 (i:Int)∧Hid (Dm wr tB mb wa.heap.size els)∧Hid (Below wa.heap.size wa wr)∧els.length≤i+1∧i≤U.length∧i≤40∧40-i≤q)
 case atStart=>exact⟨0,els,rfl,HD,HB,by omega,by omega,by omega,by omega⟩
 case round =>
  obtain⟨i,els,rfl,HD,HB,hel,hiU,hi40,hq⟩:=hrel;have HX:=Lib.hid (HBX.out.below HB.out HBX.out.lt);have c0:wr.cell? ⟨g,0,none⟩=some (.slice uo U.length uc):=HX.out.cell 0;have lx:=HX.out.lt
  by_cases hin:i<U.length∧i<40
  · obtain⟨x,hx⟩:∃ x,U[i]?=some x:=⟨_,List.getElem?_eq_getElem hin.1⟩;have hUr:=HU.out.below HB.out;have e0:=hUr.c0 i x hx;have hbl:=hUr.lt (by omega);have hx64:=hUr.is64 i x hx;have hoa:=hUr.at_ (by omega);subst hoa;clear hUr hx;have HI:=Lib.hid (fun id h1 h2=>insertT_any HD.out id h1 h2 (by omega));obtain⟨hin1,hin2⟩:=hin;go_wp2_with fail
    ((with_reducible refine(HI.out _ (Int.le_trans (by decide) (tmod_bd _ i (by omega)).1) (Int.le_trans (tmod_bd _ i (by omega)).2 (by decide))).mono ?_);rintro e wc ⟨⟨r,rfl⟩,els',hl',hD',hB'⟩)
    have HD2:=Lib.hid hD';have HB2:=Lib.hid (HB.out.trans hB');clear hD' hB' HI HD HB HX c0 lx e0;go_wp2_with fail
    go_roundg (40-(i+1))
    case measure=>omega
    case rel=>exact⟨i+1,els',by go_num,HD2,HB2,by omega,by omega,by omega,Nat.le_refl _⟩
  · have kin:(decide ((i:Int)<(U.length:Int))&&decide ((i:Int)<40))=false:=by
     simp;omega
    by_cases hiU2:i<U.length
    · have k40:¬ i<40:=fun h=>hin ⟨hiU2,h⟩
      obtain rfl:i=40:=by omega
      clear kin hin;go_wp2_with fail
      go_loopg [6] 41 (fun q s6 wr=>∃ (i:Nat) (els:List Me),s6=.int .i64 (i:Int)∧Hid (Dm wr tB mb wa.heap.size els)∧Hid (Below wa.heap.size wa wr)∧i≤L.length∧i≤41∧41-i≤q)
      case atStart=>exact⟨0,els,rfl,HD,HB,by omega,by omega,by omega⟩
      case round =>
       clear HD HB HX c0 lx;obtain⟨i,els,rfl,HD,HB,hiL,hi41,hq⟩:=hrel;have HX:=Lib.hid (HBX.out.below HB.out HBX.out.lt);have c1:wr.cell? ⟨g,1,none⟩=some (.slice bo L.length bc):=HX.out.cell 1;have lx:=HX.out.lt
       by_cases hiL2:i<L.length
       · by_cases hi41':i<41
         · obtain⟨x,hx⟩:∃ x,L[i]?=some x:=⟨_,List.getElem?_eq_getElem hiL2⟩;have hLr:=HL.out.below HB.out;have hC:=hLr.c i x hx;have h64:=hLr.is64 i x hx;have hoa:=hLr.at_ (by omega)
           have hSB:=fun h=>setBox_any HD.out (i:Int) (by omega) (by omega) x h
           obtain⟨xt,xn,⟨xa,xb⟩,⟨xc,xd⟩⟩:=x;have HSB:=Lib.hid (show Calls Tryz.prog 20 #[.pointer (some ⟨tB,0,none⟩),.int .i64 (i:Int),.agg #[.int .i64 xt,.string ⟨xn.toArray⟩,.int .i64 xa,.int .i64 xb,.int .i64 xc,.int .i64 xd]] wr _ from hSB h64);obtain⟨rfl,hbl⟩:=hoa;have e0:wr.cell? ⟨bb,bf+i*6,none⟩=some (.int .i64 xt):=hC 0 _ rfl;have e1:wr.cell? ⟨bb,bf+i*6+1,none⟩=some (.string ⟨xn.toArray⟩):=hC 1 _ rfl;have e2:wr.cell? ⟨bb,bf+i*6+2,none⟩=some (.int .i64 xa):=hC 2 _ rfl;have e3:wr.cell? ⟨bb,bf+i*6+3,none⟩=some (.int .i64 xb):=hC 3 _ rfl;have e4:wr.cell? ⟨bb,bf+i*6+4,none⟩=some (.int .i64 xc):=hC 4 _ rfl;have e5:wr.cell? ⟨bb,bf+i*6+5,none⟩=some (.int .i64 xd):=hC 5 _ rfl;clear hLr hC hx hSB h64;go_wp2_with fail
           ((with_reducible refine HSB.out.mono ?_);rintro e wc ⟨⟨r,rfl⟩,els',-,hD',hB'⟩)
           have HD2:=Lib.hid hD';have HB2:=Lib.hid (HB.out.trans hB');clear hD' hB' HSB HD HB HX c1 lx e0 e1 e2 e3 e4 e5;go_wp2_with fail
           go_roundg (41-(i+1))
           case measure=>omega
           case rel=>exact⟨i+1,els',by go_num,HD2,HB2,by omega,by omega,Nat.le_refl _⟩
         · obtain rfl:i=41:=by omega
           go_wp2_with fail;go_ret;exact⟨⟨tB,mb,els,rfl,HD.out.lower HB1.out.size⟩,(bfH' HB1 HB.out).out⟩
       · obtain rfl:i=L.length:=by omega
         go_wp2_with fail;go_ret;exact⟨⟨tB,mb,els,rfl,HD.out.lower HB1.out.size⟩,(bfH' HB1 HB.out).out⟩
    · obtain rfl:i=U.length:=by omega
      clear kin hin;go_wp2_with fail
      go_loopg [6] 41 (fun q s6 wr=>∃ (i:Nat) (els:List Me),s6=.int .i64 (i:Int)∧Hid (Dm wr tB mb wa.heap.size els)∧Hid (Below wa.heap.size wa wr)∧i≤L.length∧i≤41∧41-i≤q)
      case atStart=>exact⟨0,els,rfl,HD,HB,by omega,by omega,by omega⟩
      case round =>
       clear HD HB HX c0 lx;obtain⟨i,els,rfl,HD,HB,hiL,hi41,hq⟩:=hrel;have HX:=Lib.hid (HBX.out.below HB.out HBX.out.lt);have c1:wr.cell? ⟨g,1,none⟩=some (.slice bo L.length bc):=HX.out.cell 1;have lx:=HX.out.lt
       by_cases hiL2:i<L.length
       · by_cases hi41':i<41
         · obtain⟨x,hx⟩:∃ x,L[i]?=some x:=⟨_,List.getElem?_eq_getElem hiL2⟩;have hLr:=HL.out.below HB.out;have hC:=hLr.c i x hx;have h64:=hLr.is64 i x hx;have hoa:=hLr.at_ (by omega)
           have hSB:=fun h=>setBox_any HD.out (i:Int) (by omega) (by omega) x h
           obtain⟨xt,xn,⟨xa,xb⟩,⟨xc,xd⟩⟩:=x;have HSB:=Lib.hid (show Calls Tryz.prog 20 #[.pointer (some ⟨tB,0,none⟩),.int .i64 (i:Int),.agg #[.int .i64 xt,.string ⟨xn.toArray⟩,.int .i64 xa,.int .i64 xb,.int .i64 xc,.int .i64 xd]] wr _ from hSB h64);obtain⟨rfl,hbl⟩:=hoa;have e0:wr.cell? ⟨bb,bf+i*6,none⟩=some (.int .i64 xt):=hC 0 _ rfl;have e1:wr.cell? ⟨bb,bf+i*6+1,none⟩=some (.string ⟨xn.toArray⟩):=hC 1 _ rfl;have e2:wr.cell? ⟨bb,bf+i*6+2,none⟩=some (.int .i64 xa):=hC 2 _ rfl;have e3:wr.cell? ⟨bb,bf+i*6+3,none⟩=some (.int .i64 xb):=hC 3 _ rfl;have e4:wr.cell? ⟨bb,bf+i*6+4,none⟩=some (.int .i64 xc):=hC 4 _ rfl;have e5:wr.cell? ⟨bb,bf+i*6+5,none⟩=some (.int .i64 xd):=hC 5 _ rfl;clear hLr hC hx hSB h64;go_wp2_with fail
           ((with_reducible refine HSB.out.mono ?_);rintro e wc ⟨⟨r,rfl⟩,els',-,hD',hB'⟩)
           have HD2:=Lib.hid hD';have HB2:=Lib.hid (HB.out.trans hB');clear hD' hB' HSB HD HB HX c1 lx e0 e1 e2 e3 e4 e5;go_wp2_with fail
           go_roundg (41-(i+1))
           case measure=>omega
           case rel=>exact⟨i+1,els',by go_num,HD2,HB2,by omega,by omega,Nat.le_refl _⟩
         · obtain rfl:i=41:=by omega
           go_wp2_with fail;go_ret;exact⟨⟨tB,mb,els,rfl,HD.out.lower HB1.out.size⟩,(bfH' HB1 HB.out).out⟩
       · obtain rfl:i=L.length:=by omega
         go_wp2_with fail;go_ret;exact⟨⟨tB,mb,els,rfl,HD.out.lower HB1.out.size⟩,(bfH' HB1 HB.out).out⟩
end Go.Proofs.YtnbkbenkhkinoaaGreatDoor
