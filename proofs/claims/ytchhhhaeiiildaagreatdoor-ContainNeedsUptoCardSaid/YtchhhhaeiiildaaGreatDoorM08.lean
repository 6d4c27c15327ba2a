/- Of my texts: TokB, TokC, TokD, TokE. -/
import Derived.Test.YtchhhhaeiiildaaGreatDoorM07
import Derived.OwnWalk
import Derived.Deep.AppendLies
import Derived.Laws.BitsAllLaws
import Derived.Deep.LoopGhost
import Derived.Deep.CutBlock
import Derived.Deep.DeepCutAuto
import Derived.Laws.BytesArg
import Derived.Laws.IdiomStrings
namespace Go.Proofs.YtchhhhaeiiildaaGreatDoor
set_option linter.unusedVariables false
set_option linter.unusedSimpArgs false
open Go.RowKit
structure Sl (w:World) (oa:Option Addr) (n cap b o sz:Nat) (vs:List Value):Prop where
 len:vs.length=n*sz
 le:n≤cap
 max:cap≤maxLen
 lies:0<n→oa=some ⟨b,o,none⟩∧b<w.heap.size
 cell:∀ (j:Nat) (v:Value),vs[j]?=some v→w.cell? ⟨b,o+j,none⟩=some v
theorem Sl.pos {w:World} {oa:Option Addr} {n cap b o sz:Nat} {vs:List Value} (h:Sl w oa n cap b o sz vs) {j:Nat} {v:Value} (hv:vs[j]?=some v):0<n:=by
 have:=(List.getElem?_eq_some_iff.1 hv).1;rw[h.len]at this
 rcases Nat.eq_zero_or_pos n with rfl|h
 · omega
 · exact h
theorem Sl.grown {w w':World} {oa:Option Addr} {n cap b o sz:Nat} {vs:List Value} {row:Option Nat} (h:Sl w oa n cap b o sz vs) (hg:w.grownBy w' row) (hne:0<n→some b≠row):Sl w' oa n cap b o sz vs :=
 ⟨h.len,h.le,h.max,fun hp=>⟨(h.lies hp).1,Nat.lt_of_lt_of_le (h.lies hp).2 hg.size⟩,fun j v hv=>by
   have hp:=h.pos hv;rw[← h.cell j v hv];simp only[World.cell?]
   rw[hg.block b (h.lies hp).2 (hne hp)]⟩
theorem Sl.below {w w':World} {oa:Option Addr} {n cap b o sz:Nat} {vs:List Value} (h:Sl w oa n cap b o sz vs) (hb:Below w.heap.size w w'):Sl w' oa n cap b o sz vs :=
 ⟨h.len,h.le,h.max,fun hp=>⟨(h.lies hp).1,Nat.lt_of_lt_of_le (h.lies hp).2 hb.size⟩,fun j v hv=>(hb.cell (p:=⟨b,o+j,none⟩) (h.lies (h.pos hv)).2).trans (h.cell j v hv)⟩
theorem Sl.drop {w:World} {oa:Option Addr} {n cap b o:Nat} {vs:List Value} (h:Sl w oa n cap b o 1 vs) {k:Nat} (hk:k≤n):Sl w (some ⟨b,o+k,none⟩) (n-k) (cap-k) b (o+k) 1 (vs.drop k) :=
 ⟨by have:=h.len;rw[List.length_drop];omega,by have:=h.le;omega,by have:=h.max;omega,fun hp=>⟨rfl,(h.lies (by omega)).2⟩,fun j v hv=>by
   rw[List.getElem?_drop]at hv;rw[show o+k+j=o+(k+j) by omega]
   exact h.cell (k+j) v hv⟩
theorem sl_of_own {w:World} {base:Nat} {e:TypeId} {sz:Nat} {v:Value} {n:Nat} {vs:List Value} (h:w.ownsRow base e sz v n vs) :
  ∃ (oa:Option Addr) (cap g:Nat),v=.slice oa n cap∧Sl w oa n cap g 0 sz vs∧(0<n→base≤g):=by
 rcases h.2 with ⟨rfl,h0⟩ | ⟨g,cap,cur,rfl,hg,hc,h1,h2,h3,h4⟩
 · subst h0;refine⟨none,0,0,rfl,⟨h.1,Nat.le_refl _,Nat.zero_le _,fun hp=>absurd hp (Nat.lt_irrefl _),fun j v hv=>?_⟩,fun hp=>absurd hp (Nat.lt_irrefl _)⟩;have h1:=h.1;have:=(List.getElem?_eq_some_iff.1 hv).1;omega
 · refine⟨some ⟨g,0,none⟩,cap,g,rfl,⟨h.1,h1,h2,fun _=>⟨rfl,(Array.getElem?_eq_some_iff.1 hc).1⟩,fun j u hu=>?_⟩,fun _=>hg⟩;rw[Nat.zero_add,cell_of_row w g j cur e (0,0) hc];have hj:=(List.getElem?_eq_some_iff.1 hu).1;rw[← h4,List.getElem?_take]at hu;split at hu
   · simpa using hu
   · cases hu
def bytesV (l:List UInt8):List Value:=l.map fun c=>.int .u8 (c.toNat:Int)
def runesV (l:List Int):List Value:=l.map (.int .i32)
theorem bytesV_at {l:List UInt8} {i:Nat} (h:i<l.length):(bytesV l)[i]?=some (.int .u8 ((l[i]).toNat:Int)):=by simp[bytesV,List.getElem?_eq_getElem h]
theorem runesV_at {l:List Int} {i:Nat} (h:i<l.length):(runesV l)[i]?=some (.int .i32 l[i]):=by simp[runesV,List.getElem?_eq_getElem h]
theorem ofInt_i32 (a:Nat) (ha:a<4294967296):(BitVec.ofInt 32 (a:Int)).toNat=a:=by
 rw[BitVec.ofInt_natCast,BitVec.toNat_ofNat];exact Nat.mod_eq_of_lt (by omega)
theorem i32_and_nat (a b:Nat) (ha:a<2147483648) (hb:b<2147483648):bits .and .i32 (a:Int) (b:Int)=((a &&& b:Nat):Int):=by
 have hx:a &&& b<2 ^ 31:=Nat.and_lt_two_pow _ (by omega);show IntKind.i32.wrap ((BitVec.ofInt 32 (a:Int) &&& BitVec.ofInt 32 (b:Int)).toNat:Int)=_;rw[BitVec.toNat_and,ofInt_i32 a (by omega),ofInt_i32 b (by omega),IntKind.wrap_i32];omega
theorem i32_or_nat (a b:Nat) (ha:a<2147483648) (hb:b<2147483648):bits .or .i32 (a:Int) (b:Int)=((a ||| b:Nat):Int):=by
 have hx:a ||| b<2 ^ 31:=Nat.or_lt_two_pow (by omega) (by omega);show IntKind.i32.wrap ((BitVec.ofInt 32 (a:Int) ||| BitVec.ofInt 32 (b:Int)).toNat:Int)=_;rw[BitVec.toNat_or,ofInt_i32 a (by omega),ofInt_i32 b (by omega),IntKind.wrap_i32];omega
theorem i32_mask5 (x:Nat) (h:x<2147483648):bits .and .i32 (x:Int) 31=((x % 32:Nat):Int):=by
 rw[show (31:Int)=((31:Nat):Int) from rfl,i32_and_nat x 31 h (by omega),nat_mask5]
theorem i32_mask4 (x:Nat) (h:x<2147483648):bits .and .i32 (x:Int) 15=((x % 16:Nat):Int):=by
 rw[show (15:Int)=((15:Nat):Int) from rfl,i32_and_nat x 15 h (by omega),nat_mask4]
theorem i32_mask3 (x:Nat) (h:x<2147483648):bits .and .i32 (x:Int) 7=((x % 8:Nat):Int):=by
 rw[show (7:Int)=((7:Nat):Int) from rfl,i32_and_nat x 7 h (by omega),nat_mask3]
theorem i32_mask6 (x:Nat) (h:x<2147483648):bits .and .i32 (x:Int) 63=((x % 64:Nat):Int):=by
 rw[show (63:Int)=((63:Nat):Int) from rfl,i32_and_nat x 63 h (by omega),nat_mask6]
theorem u8_mask6 (x:Nat) (h:x<256):bits .and .u8 (x:Int) 63=((x % 64:Nat):Int):=by
 rw[show (63:Int)=((63:Nat):Int) from rfl,u8_and_nat x 63 h (by omega),nat_mask6]
theorem i32_push (x y:Nat) (hx:x<33554432) (hy:y<64):bits .or .i32 (((x*64:Nat)):Int) (y:Int)=((x*64+y:Nat):Int):=by
 rw[i32_or_nat _ _ (by omega) (by omega),nat_join 6 _ _ (by omega) (by omega)]
theorem needF_three (c:Nat):(needF c).1≤3∧(needF c).2.1<256∧(needF c).2.2<256:=by
 unfold needF
 repeat (first|split|decide)
theorem pow64_le {k:Nat} (h:k≤3):64 ^ k≤262144:=Nat.pow_le_pow_right (n:=64) (by decide) h
set_option maxRecDepth 20000 in
set_option maxHeartbeats 4000000 in
theorem one_any (l:List UInt8) (oa:Option Addr) (cap b o i:Nat) (w:World) (hs:Sl w oa l.length cap b o 1 (bytesV l)) (hi:i<l.length) (hm:l.length≤281474976710656) :
  Calls Tryz.prog 99 #[.slice oa l.length cap,.int .i64 i] w fun e w'=>e=.returned (.tuple #[.int .i32 (oneF l i).1,.int .i64 (oneF l i).2.1,.bool (oneF l i).2.2])∧w'=w:=by
 obtain⟨R,hR⟩:∃ R,oneF l i=R:=⟨_,rfl⟩;rw[hR];obtain⟨rfl,hbl⟩:=hs.lies (by omega);obtain⟨c,hc⟩:∃ c,l[i].toNat=c:=⟨_,rfl⟩
 have hc256:c<256:=by rw[← hc];exact UInt8.toNat_lt _
 have hcell:=hs.cell i _ (bytesV_at hi);rw[hc]at hcell
 have hone:R=if c<128 then ((c:Int),1,true) else if (needF c).1=0 then (65533,1,false) else goF l i (needF c).1 1 (needF c).2.1 (needF c).2.2 (c % (64 / 2 ^ (needF c).1)):=by
  rw[← hR,oneF,List.getElem?_eq_getElem hi];simp only[hc]
 have HS:=Lib.hid hs;clear hs
 by_cases h128:c<128
 · have g1:decide ((c:Int)<(128:Int))=true:=by simp;omega
   rw[if_pos h128]at hone;have HO:=Lib.hid hone;clear hone hc hR
   go_enter Tryz.func99,Tryz.ntmps99
   go_wp2_with fail;exact bodyPost_ret (v:=.tuple #[.int .i32 c,.int .i64 1,.bool true]) (by simp[results,Tryz.results99,go_sem]) rfl ⟨(by rw[HO.out];rfl),rfl⟩
 · have g1:decide ((c:Int)<(128:Int))=false:=by simp;omega
   rw[if_neg h128]at hone
   have hnd:=fun w=>need_any c w hc256
   unfold needV at hnd;obtain⟨n3,hlo,hhi⟩:=needF_three c;obtain⟨⟨n,lo,hh⟩,hN⟩:∃ x,needF c=x:=⟨_,rfl⟩;rw[hN]at hnd hone n3 hlo hhi;simp only at hnd hone n3 hlo hhi;have HND:=Lib.hid hnd;clear hnd hN hc
   by_cases hn0:n=0
   · subst hn0;rw[if_pos rfl]at hone;have HO:=Lib.hid hone;clear hone hR
     go_enter Tryz.func99,Tryz.ntmps99
     go_wp2_with fail;go_wp2_with fail
     ((with_reducible refine(HND.out _).mono ?_);rintro e w' ⟨rfl,rfl⟩)
     go_wp2_with fail;exact bodyPost_ret (v:=.tuple #[.int .i32 65533,.int .i64 1,.bool false]) (by simp[results,Tryz.results99,go_sem]) rfl ⟨(by rw[HO.out];rfl),rfl⟩
   · rw[if_neg hn0]at hone;obtain⟨x0,hx0⟩:∃ x,c % (64 / 2 ^ n)=x:=⟨_,rfl⟩;rw[hx0]at hone;have HO:=Lib.hid hone;clear hone hR
     have ways:n=1∧bits .and .i32 (c:Int) 31=(x0:Int)∨n=2∧bits .and .i32 (c:Int) 15=(x0:Int)∨n=3∧bits .and .i32 (c:Int) 7=(x0:Int):=by
      have:n=1∨n=2∨n=3:=by omega
      rcases this with rfl|rfl|rfl
      · exact Or.inl ⟨rfl,by rw[i32_mask5 c (by omega),← hx0]⟩
      · exact Or.inr (Or.inl ⟨rfl,by rw[i32_mask4 c (by omega),← hx0]⟩)
      · exact Or.inr (Or.inr ⟨rfl,by rw[i32_mask3 c (by omega),← hx0]⟩)
     have hx64:x0<64 ^ 1:=by
      rw[← hx0]
      have:n=1∨n=2∨n=3:=by omega
      rcases this with rfl|rfl|rfl<;>omega
     clear hx0 hn0
     rcases ways with ⟨rfl,hb1⟩ | ⟨rfl,hb1⟩ | ⟨rfl,hb1⟩
     · go_enter Tryz.func99,Tryz.ntmps99
       go_wp2_with fail;go_wp2_with fail
       ((with_reducible refine(HND.out _).mono ?_);rintro e w' ⟨rfl,rfl⟩)
       go_wp2_with fail
       go_loopg [9,10,11,12] 1 (fun q s9 s10 s11 s12 wr=>∃ (k lo hh x f:Nat),s9=.int .u8 lo∧s10=.int .u8 hh∧s11=.int .i32 x∧s12=.int .i64 k∧wr=w'∧f+k=1+1∧1≤k∧x<64 ^ k∧lo<256∧hh<256∧Hid (R=goF l i f k lo hh x)∧f≤q)
       case atStart=>exact⟨1,lo,hh,x0,1,rfl,rfl,rfl,rfl,rfl,rfl,Nat.le_refl _,hx64,hlo,hhi,HO,Nat.le_refl _⟩
       case round =>
        clear hx64 hlo hhi HO HND hb1;obtain⟨k,lo,hh,x,f,rfl,rfl,rfl,rfl,rfl,hfk,hk1,hx,hlo,hhi,hg,hq⟩:=hrel;have hsum:=HS.out
        cases f with
        | zero =>
          have gk:decide ((k:Int)≤1)=false:=by simp;omega
          obtain rfl:k=1+1:=by omega
          have HG:=Lib.hid (show R=((x:Int),1+1,true) from hg.out);clear hsum hg;go_wp2_with fail;exact bodyPost_ret (v:=.tuple #[.int .i32 x,.int .i64 (1+1),.bool true]) (by simp[results,Tryz.results99,go_sem]) rfl ⟨(by rw[HG.out];rfl),rfl⟩
        | succ f =>
          have gk:decide ((k:Int)≤1)=true:=by simp;omega
          have h3:=pow64_le (k:=k) (by omega);have hgo:=hg.out;unfold goF at hgo
          by_cases hlt:i+k<l.length
          · have gl:decide ((l.length:Int)≤(i:Int)+(k:Int))=false:=by simp;omega
            rw[List.getElem?_eq_getElem hlt]at hgo;simp only at hgo;have hcy:=hsum.cell (i+k) _ (bytesV_at hlt);obtain⟨y,hy⟩:∃ y,(l[i+k]'hlt).toNat=y:=⟨_,rfl⟩
            have hy256:y<256:=by rw[← hy];exact UInt8.toNat_lt _
            rw[hy]at hgo hcy;obtain⟨j,hj⟩:∃ j,i+k=j:=⟨_,rfl⟩
            have ij:(i:Int)+(k:Int)=(j:Int):=by omega
            have gln:decide (l.length≤j)=false:=by simp;omega
            rw[hj]at hcy hlt;clear hsum hg hy
            by_cases hbad:y<lo∨hh<y
            · rw[if_pos hbad]at hgo;have HG:=Lib.hid hgo
              have ways:decide (y<lo)=true∨decide (y<lo)=false∧decide (hh<y)=true:=by
               by_cases h:y<lo
               · exact Or.inl (by simp;omega)
               · exact Or.inr ⟨by simp;omega,by simp;omega⟩
              clear hgo hbad
              rcases ways with g2 | ⟨g2,g3⟩
              all_goals
               go_wp2_with fail;exact bodyPost_ret (v:=.tuple #[.int .i32 65533,.int .i64 k,.bool false]) (by simp[results,Tryz.results99,go_sem]) rfl ⟨(by rw[HG.out]),rfl⟩
            · rw[if_neg hbad]at hgo;have HG:=Lib.hid hgo
              have g2:decide (y<lo)=false:=by simp;omega
              have g3:decide (hh<y)=false:=by simp;omega
              have e1:bits .and .u8 (y:Int) 63=((y % 64:Nat):Int):=u8_mask6 y hy256;have hz:y % 64<64:=Nat.mod_lt _ (by decide);obtain⟨z,hze⟩:∃ z,y % 64=z:=⟨_,rfl⟩;rw[hze]at e1 hz HG;have e2:=i32_push x z (by omega) hz;obtain⟨X,hX⟩:∃ X,x*64=X:=⟨_,rfl⟩
              have iX:(x:Int)*64=(X:Int):=by omega
              rw[hX]at e2 HG
              have hXs:X+z<64 ^ (k+1):=by rw[Nat.pow_succ];omega
              have hXl:X≤16777216:=by omega
              clear hgo hbad hX hze;go_wp2_with fail
              go_roundg f
              case measure=>omega
              case rel=>exact⟨k+1,128,191,X+z,f,rfl,rfl,by go_num,by go_num,rfl,by omega,by omega,hXs,by decide,by decide,HG,Nat.le_refl _⟩
          · have gl:decide ((l.length:Int)≤(i:Int)+(k:Int))=true:=by simp;omega
            have gln:decide (l.length≤i+k)=true:=by simp;omega
            rw[List.getElem?_eq_none (by omega)]at hgo;have HG:=Lib.hid (show R=(65533,k,false) from hgo);clear hgo hsum hg;go_wp2_with fail;exact bodyPost_ret (v:=.tuple #[.int .i32 65533,.int .i64 k,.bool false]) (by simp[results,Tryz.results99,go_sem]) rfl ⟨(by rw[HG.out]),rfl⟩
     · go_enter Tryz.func99,Tryz.ntmps99
       go_wp2_with fail;go_wp2_with fail
       ((with_reducible refine(HND.out _).mono ?_);rintro e w' ⟨rfl,rfl⟩)
       go_wp2_with fail
       go_loopg [9,10,11,12] 2 (fun q s9 s10 s11 s12 wr=>∃ (k lo hh x f:Nat),s9=.int .u8 lo∧s10=.int .u8 hh∧s11=.int .i32 x∧s12=.int .i64 k∧wr=w'∧f+k=2+1∧1≤k∧x<64 ^ k∧lo<256∧hh<256∧Hid (R=goF l i f k lo hh x)∧f≤q)
       case atStart=>exact⟨1,lo,hh,x0,2,rfl,rfl,rfl,rfl,rfl,rfl,Nat.le_refl _,hx64,hlo,hhi,HO,Nat.le_refl _⟩
       case round =>
        clear hx64 hlo hhi HO HND hb1;obtain⟨k,lo,hh,x,f,rfl,rfl,rfl,rfl,rfl,hfk,hk1,hx,hlo,hhi,hg,hq⟩:=hrel;have hsum:=HS.out
        cases f with
        | zero =>
          have gk:decide ((k:Int)≤2)=false:=by simp;omega
          obtain rfl:k=2+1:=by omega
          have HG:=Lib.hid (show R=((x:Int),2+1,true) from hg.out);clear hsum hg;go_wp2_with fail;exact bodyPost_ret (v:=.tuple #[.int .i32 x,.int .i64 (2+1),.bool true]) (by simp[results,Tryz.results99,go_sem]) rfl ⟨(by rw[HG.out];rfl),rfl⟩
        | succ f =>
          have gk:decide ((k:Int)≤2)=true:=by simp;omega
          have h3:=pow64_le (k:=k) (by omega);have hgo:=hg.out;unfold goF at hgo
          by_cases hlt:i+k<l.length
          · have gl:decide ((l.length:Int)≤(i:Int)+(k:Int))=false:=by simp;omega
            rw[List.getElem?_eq_getElem hlt]at hgo;simp only at hgo;have hcy:=hsum.cell (i+k) _ (bytesV_at hlt);obtain⟨y,hy⟩:∃ y,(l[i+k]'hlt).toNat=y:=⟨_,rfl⟩
            have hy256:y<256:=by rw[← hy];exact UInt8.toNat_lt _
            rw[hy]at hgo hcy;obtain⟨j,hj⟩:∃ j,i+k=j:=⟨_,rfl⟩
            have ij:(i:Int)+(k:Int)=(j:Int):=by omega
            have gln:decide (l.length≤j)=false:=by simp;omega
            rw[hj]at hcy hlt;clear hsum hg hy
            by_cases hbad:y<lo∨hh<y
            · rw[if_pos hbad]at hgo;have HG:=Lib.hid hgo
              have ways:decide (y<lo)=true∨decide (y<lo)=false∧decide (hh<y)=true:=by
               by_cases h:y<lo
               · exact Or.inl (by simp;omega)
               · exact Or.inr ⟨by simp;omega,by simp;omega⟩
              clear hgo hbad
              rcases ways with g2 | ⟨g2,g3⟩
              all_goals
               go_wp2_with fail;exact bodyPost_ret (v:=.tuple #[.int .i32 65533,.int .i64 k,.bool false]) (by simp[results,Tryz.results99,go_sem]) rfl ⟨(by rw[HG.out]),rfl⟩
            · rw[if_neg hbad]at hgo;have HG:=Lib.hid hgo
              have g2:decide (y<lo)=false:=by simp;omega
              have g3:decide (hh<y)=false:=by simp;omega
              have e1:bits .and .u8 (y:Int) 63=((y % 64:Nat):Int):=u8_mask6 y hy256;have hz:y % 64<64:=Nat.mod_lt _ (by decide);obtain⟨z,hze⟩:∃ z,y % 64=z:=⟨_,rfl⟩;rw[hze]at e1 hz HG;have e2:=i32_push x z (by omega) hz;obtain⟨X,hX⟩:∃ X,x*64=X:=⟨_,rfl⟩
              have iX:(x:Int)*64=(X:Int):=by omega
              rw[hX]at e2 HG
              have hXs:X+z<64 ^ (k+1):=by rw[Nat.pow_succ];omega
              have hXl:X≤16777216:=by omega
              clear hgo hbad hX hze;go_wp2_with fail
              go_roundg f
              case measure=>omega
              case rel=>exact⟨k+1,128,191,X+z,f,rfl,rfl,by go_num,by go_num,rfl,by omega,by omega,hXs,by decide,by decide,HG,Nat.le_refl _⟩
          · have gl:decide ((l.length:Int)≤(i:Int)+(k:Int))=true:=by simp;omega
            have gln:decide (l.length≤i+k)=true:=by simp;omega
            rw[List.getElem?_eq_none (by omega)]at hgo;have HG:=Lib.hid (show R=(65533,k,false) from hgo);clear hgo hsum hg;go_wp2_with fail;exact bodyPost_ret (v:=.tuple #[.int .i32 65533,.int .i64 k,.bool false]) (by simp[results,Tryz.results99,go_sem]) rfl ⟨(by rw[HG.out]),rfl⟩
     · go_enter Tryz.func99,Tryz.ntmps99
       go_wp2_with fail;go_wp2_with fail
       ((with_reducible refine(HND.out _).mono ?_);rintro e w' ⟨rfl,rfl⟩)
       go_wp2_with fail
       go_loopg [9,10,11,12] 3 (fun q s9 s10 s11 s12 wr=>∃ (k lo hh x f:Nat),s9=.int .u8 lo∧s10=.int .u8 hh∧s11=.int .i32 x∧s12=.int .i64 k∧wr=w'∧f+k=3+1∧1≤k∧x<64 ^ k∧lo<256∧hh<256∧Hid (R=goF l i f k lo hh x)∧f≤q)
       case atStart=>exact⟨1,lo,hh,x0,3,rfl,rfl,rfl,rfl,rfl,rfl,Nat.le_refl _,hx64,hlo,hhi,HO,Nat.le_refl _⟩
       case round =>
        clear hx64 hlo hhi HO HND hb1;obtain⟨k,lo,hh,x,f,rfl,rfl,rfl,rfl,rfl,hfk,hk1,hx,hlo,hhi,hg,hq⟩:=hrel;have hsum:=HS.out
        cases f with
        | zero =>
          have gk:decide ((k:Int)≤3)=false:=by simp;omega
          obtain rfl:k=3+1:=by omega
          have HG:=Lib.hid (show R=((x:Int),3+1,true) from hg.out);clear hsum hg;go_wp2_with fail;exact bodyPost_ret (v:=.tuple #[.int .i32 x,.int .i64 (3+1),.bool true]) (by simp[results,Tryz.results99,go_sem]) rfl ⟨(by rw[HG.out];rfl),rfl⟩
        | succ f =>
          have gk:decide ((k:Int)≤3)=true:=by simp;omega
          have h3:=pow64_le (k:=k) (by omega);have hgo:=hg.out;unfold goF at hgo
          by_cases hlt:i+k<l.length
          · have gl:decide ((l.length:Int)≤(i:Int)+(k:Int))=false:=by simp;omega
            rw[List.getElem?_eq_getElem hlt]at hgo;simp only at hgo;have hcy:=hsum.cell (i+k) _ (bytesV_at hlt);obtain⟨y,hy⟩:∃ y,(l[i+k]'hlt).toNat=y:=⟨_,rfl⟩
            have hy256:y<256:=by rw[← hy];exact UInt8.toNat_lt _
            rw[hy]at hgo hcy;obtain⟨j,hj⟩:∃ j,i+k=j:=⟨_,rfl⟩
            have ij:(i:Int)+(k:Int)=(j:Int):=by omega
            have gln:decide (l.length≤j)=false:=by simp;omega
            rw[hj]at hcy hlt;clear hsum hg hy
            by_cases hbad:y<lo∨hh<y
            · rw[if_pos hbad]at hgo;have HG:=Lib.hid hgo
              have ways:decide (y<lo)=true∨decide (y<lo)=false∧decide (hh<y)=true:=by
               by_cases h:y<lo
               · exact Or.inl (by simp;omega)
               · exact Or.inr ⟨by simp;omega,by simp;omega⟩
              clear hgo hbad
              rcases ways with g2 | ⟨g2,g3⟩
              all_goals
               go_wp2_with fail;exact bodyPost_ret (v:=.tuple #[.int .i32 65533,.int .i64 k,.bool false]) (by simp[results,Tryz.results99,go_sem]) rfl ⟨(by rw[HG.out]),rfl⟩
            · rw[if_neg hbad]at hgo;have HG:=Lib.hid hgo
              have g2:decide (y<lo)=false:=by simp;omega
              have g3:decide (hh<y)=false:=by simp;omega
              have e1:bits .and .u8 (y:Int) 63=((y % 64:Nat):Int):=u8_mask6 y hy256;have hz:y % 64<64:=Nat.mod_lt _ (by decide);obtain⟨z,hze⟩:∃ z,y % 64=z:=⟨_,rfl⟩;rw[hze]at e1 hz HG;have e2:=i32_push x z (by omega) hz;obtain⟨X,hX⟩:∃ X,x*64=X:=⟨_,rfl⟩
              have iX:(x:Int)*64=(X:Int):=by omega
              rw[hX]at e2 HG
              have hXs:X+z<64 ^ (k+1):=by rw[Nat.pow_succ];omega
              have hXl:X≤16777216:=by omega
              clear hgo hbad hX hze;go_wp2_with fail
              go_roundg f
              case measure=>omega
              case rel=>exact⟨k+1,128,191,X+z,f,rfl,rfl,by go_num,by go_num,rfl,by omega,by omega,hXs,by decide,by decide,HG,Nat.le_refl _⟩
          · have gl:decide ((l.length:Int)≤(i:Int)+(k:Int))=true:=by simp;omega
            have gln:decide (l.length≤i+k)=true:=by simp;omega
            rw[List.getElem?_eq_none (by omega)]at hgo;have HG:=Lib.hid (show R=(65533,k,false) from hgo);clear hgo hsum hg;go_wp2_with fail;exact bodyPost_ret (v:=.tuple #[.int .i32 65533,.int .i64 k,.bool false]) (by simp[results,Tryz.results99,go_sem]) rfl ⟨(by rw[HG.out]),rfl⟩
structure El (t e:TypeId) (z:Value) (size bytes:Nat):Prop where
 under:Tryz.prog.underlying t=some (.slice e)
 info:(Tryz.prog.info? e).map (fun i=>(i.zero,i.size,i.bytes))=some (some z,size,bytes)
 zs:z.cells.size=size
 pos:0<size
structure Rw (w0 w:World) (e:TypeId) (size:Nat) (v:Value) (n:Nat) (xs:List Value):Prop where
 below:Below w0.heap.size w0 w
 own:w.ownsRow w0.heap.size e size v n xs
theorem grownBy_of_below {w w':World} (h:Below w.heap.size w w') (row:Option Nat):w.grownBy w' row:=⟨h.os,h.tape,h.output,h.size,fun k hk _=>h.block k hk⟩
theorem grownBy_trans {w w1 w2:World} {row:Option Nat} (h1:w.grownBy w1 row) (h2:w1.grownBy w2 row):w.grownBy w2 row :=
 ⟨h2.os.trans h1.os,h2.tape.trans h1.tape,h2.output.trans h1.output,Nat.le_trans h1.size h2.size,fun k hk hne=>(h2.block k (Nat.lt_of_lt_of_le hk h1.size) hne).trans (h1.block k hk hne)⟩
theorem grownBy_far {w w1 w2:World} {row row2:Option Nat} (h1:w.grownBy w1 row) (h2:w1.grownBy w2 row2) (hr:∀ k,row2=some k→w.heap.size≤k):w.grownBy w2 row :=
 ⟨h2.os.trans h1.os,h2.tape.trans h1.tape,h2.output.trans h1.output,Nat.le_trans h1.size h2.size,fun k hk hne=>(h2.block k (Nat.lt_of_lt_of_le hk h1.size) (fun e=>by have:=hr k e.symm;omega)).trans (h1.block k hk hne)⟩
theorem below_far {w0 w1 w2:World} {row:Option Nat} (h1:Below w0.heap.size w0 w1) (h2:w1.grownBy w2 row) (hr:∀ k,row=some k→w0.heap.size≤k):Below w0.heap.size w0 w2 :=
 ⟨h2.os.trans h1.os,h2.tape.trans h1.tape,h2.output.trans h1.output,Nat.le_trans h1.size h2.size,fun k hk=>(h2.block k (Nat.lt_of_lt_of_le hk h1.size) (fun e=>by have:=hr k e.symm;omega)).trans (h1.block k hk)⟩
section
variable {w0 w w':World} {e:TypeId} {size:Nat} {v:Value} {n:Nat} {xs:List Value}
theorem Rw.start (w0:World) (e:TypeId) (size:Nat):Rw w0 w0 e size (.slice none 0 0) 0 []:=⟨Below.refl _ _,World.ownsRow_nil _ _ _ _⟩
theorem Rw.first (h:Below w0.heap.size w0 w):Rw w0 w e size (.slice none 0 0) 0 []:=⟨h,World.ownsRow_nil _ _ _ _⟩
theorem Rw.next (h:Rw w0 w e size v n xs) (hb:Below w.heap.size w w'):Rw w0 w' e size v n xs :=
 ⟨h.below.trans (hb.mono h.below.size),h.own.kept (grownBy_of_below hb none) (by cases v.ownBlock<;>simp)⟩
theorem Rw.sl (h:Rw w0 w e size v n xs):∃ (oa:Option Addr) (cap g:Nat),v=.slice oa n cap∧Sl w oa n cap g 0 size xs∧(0<n→w0.heap.size≤g):=sl_of_own h.own
theorem Rw.base (h:Rw w w' e size v n xs) (hb:Below w0.heap.size w0 w):Rw w0 w' e size v n xs :=
 ⟨hb.trans (h.below.mono hb.size),h.own.1,by
   rcases h.own.2 with h0 | ⟨g,cap,cur,hv,hg,rest⟩
   · exact .inl h0
   · exact .inr ⟨g,cap,cur,hv,Nat.le_trans hb.size hg,rest⟩⟩
theorem Rw.row (h:Rw w0 w e size v n xs):∀ k,v.ownBlock=some k→w0.heap.size≤k:=fun k hk=>(h.own.lt k hk).1
end
theorem wpList_push {ops:Array Oper} {rest:List Oper} {o:Oper} {a:Act} {Q:Exit→Act→World→Prop} {w0 w:World} {t e:TypeId} {z:Value} {size bytes:Nat} (E:El t e z size bytes)
  (hgd:o.guard=none) (s x:Operand) (ho:o.op=.call { callee:=.builtin .append,args:=#[s,x],argTypes:=#[t,t] }) {v:Value} {n:Nat} {xs:List Value} (hs:a.eval s=v)
  (hR:Rw w0 w e size v n xs) (m c:Nat) (cs:Array Value) (tc:TypeId) (hx:a.eval x=.slice (some ⟨w.heap.size,0,none⟩) m c) (hl:cs.toList.length=m*size) (h1:∀ u∈cs.toList,u.oneCell'=true)
  (hm:0<m) (hbytes:(n+m)*bytes≤140737488355328) (h63:n+m≤140737488355328)
  (h:∀ g cap w',Rw w0 w' e size (.slice (some ⟨g,0,none⟩) (n+m) cap) (n+m) (xs++cs.toList)→w.grownBy w' v.ownBlock→wpList Tryz.prog ops Q rest (a.put o.dst (.slice (some ⟨g,0,none⟩) (n+m) cap)) w') :
  wpList Tryz.prog ops Q (o::rest) a (w.alloc (.cells cs tc)):=by
 obtain⟨i0,hi0,hz0,hz1,hz2⟩:=info_parts E.info
 refine wpList_append_lies _ hgd s x t ho w0.heap.size e i0 z size bytes E.under hi0 hz0 hz1 hz2 E.zs E.pos v n xs hs (hR.own.alloc _) ⟨w.heap.size,0,none⟩ m c cs.toList hx hl
  (World.news_of_block (cs:=cs) (t:=tc) (fr:=(0,0)) (heap_alloc_new w _)) h1 hm (Nat.le_trans h63 (by decide)) hbytes (Nat.le_trans hR.below.size (by simp)) _ rfl fun g cap w' hown hg _ _=>?_
 have hg2:w.grownBy w' v.ownBlock:=grownBy_trans (World.grownBy_alloc w _ _) hg;exact h g cap w' ⟨below_far hR.below hg2 hR.row,hown⟩ hg2
theorem elRune:El 79 21 (.int .i32 0) 1 4:=⟨Tryz.underlying79,by kernel_rfl,rfl,by decide⟩
theorem elByte:El 60 5 (.int .u8 0) 1 1:=⟨Tryz.underlying60,by kernel_rfl,rfl,by decide⟩
theorem goF_step (b:List UInt8) (i:Nat):∀ (f k lo hi x:Nat),k≤(goF b i f k lo hi x).2.1∧(goF b i f k lo hi x).2.1≤k+f
 | 0,k,lo,hi,x=>⟨Nat.le_refl _,Nat.le_refl _⟩
 | f+1,k,lo,hi,x=>by
   unfold goF;split
   · exact⟨Nat.le_refl _,by simp⟩
   · split
     · exact⟨Nat.le_refl _,by simp⟩
     · have:=goF_step b i f (k+1) 128 191 (x*64+(by assumption:UInt8).toNat % 64);omega
theorem oneF_step (b:List UInt8) (i:Nat):1≤(oneF b i).2.1∧(oneF b i).2.1≤4:=by
 unfold oneF;split
 · decide
 · split
   · simp
   · split
     · simp
     · rename_i c _ _ _
       have h1:=goF_step b i (needF c.toNat).1 1 (needF c.toNat).2.1 (needF c.toNat).2.2 (c.toNat % (64 / 2 ^ (needF c.toNat).1));have h2:=(needF_three c.toNat).1;omega
theorem rawF_done {b:List UInt8} {f i:Nat} (h:¬ i<b.length):rawF b f i=[]:=by
 cases f with
 | zero=>rfl
 | succ f=>rw[rawF,if_neg h]
set_option maxRecDepth 20000 in
set_option maxHeartbeats 4000000 in
theorem raw_any (l:List UInt8) (oa:Option Addr) (cap b o:Nat) (w:World) (hs:Sl w oa l.length cap b o 1 (bytesV l)) (hm:l.length≤1099511627776) :
  Calls Tryz.prog 59 #[.slice oa l.length cap] w fun e w'=>(∃ v,e=.returned v∧Rw w w' 21 1 v (rawF l l.length 0).length (runesV (rawF l l.length 0))):=by
 obtain⟨X,hX⟩:∃ X,rawF l l.length 0=X:=⟨_,rfl⟩;rw[hX];have HS:=Lib.hid hs;have HX:=Lib.hid hX;clear hs hX
 go_enter Tryz.func59,Tryz.ntmps59
 go_wp2_with fail
 go_loopg [3,4] l.length (fun q s3 s4 wr=>∃ (i f:Nat) (D:List Int) (v:Value),v=s3∧s4=.int .i64 i∧Hid (Rw w wr 21 1 v D.length (runesV D))∧i≤l.length+4∧Hid (D++rawF l f i=X)∧l.length≤f+i∧D.length≤i∧l.length-i≤q)
 case atStart=>exact⟨0,l.length,[],_,rfl,rfl,Lib.hid (Rw.start _ _ _),by omega,HX,by omega,Nat.le_refl _,by omega⟩
 case round =>
  obtain⟨i,f,D,v,rfl,rfl,hR,hi4,hD,hf,hDi,hq⟩:=hrel
  by_cases hi:i<l.length
  · have gi:decide ((i:Int)<(l.length:Int))=true:=by simpa using hi
    have gin:decide (i<l.length)=true:=by simpa using hi
    obtain⟨f,rfl⟩:∃ f',f=f'+1:=⟨f-1,by omega⟩
    have hone:=fun wx hb=>one_any l oa cap b o i wx (HS.out.below (w':=wx) hb) hi (by omega)
    have hst:=oneF_step l i;have hD2:=hD.out;rw[rawF,if_pos hi]at hD2;obtain⟨⟨x,n,ok⟩,hO⟩:∃ R,oneF l i=R:=⟨_,rfl⟩;rw[hO]at hone hst hD2;simp only at hone hst hD2;have HO:=Lib.hid hone;have HD:=Lib.hid hD2;clear hone hO hD2 hD;go_wp2_with fail;go_wp2_with fail
    ((with_reducible refine(HO.out _ hR.out.below).mono ?_);rintro e w' ⟨rfl,rfl⟩)
    go_wp2_with (at_builtin;refine wpList_push elRune rfl _ _ rfl rfl hR.out 1 1 #[.int .i32 x] _ rfl rfl (by simp[Value.oneCell']) (by omega) (by omega) (by omega) ?_;intro g2 cap2 w2 hR2 hg2;have HR2:=Lib.hid hR2;clear hR2 hg2)
    go_roundg (l.length-(i+n))
    case measure=>omega
    case rel=>exact⟨i+n,f,D++[x],_,rfl,by go_num,Lib.hid (by have:=HR2.out;simpa[runesV] using this),by omega,Lib.hid (by rw[List.append_assoc];exact HD.out),by omega,by simp;omega,Nat.le_refl _⟩
  · have gi:decide ((i:Int)<(l.length:Int))=false:=by simpa using hi
    have gin:decide (i<l.length)=false:=by simpa using hi
    have hD2:=hD.out;rw[rawF_done hi,List.append_nil]at hD2;subst hD2;go_wp2_with fail;go_ret;exact⟨_,rfl,hR.out⟩
theorem Sl.front {w:World} {oa oa':Option Addr} {n cap b o:Nat} {vs:List Value} (h:Sl w oa n cap b o 1 vs) {k:Nat} (hk:k≤n) (ha:0<n-k→oa'=some ⟨b,o+k,none⟩):Sl w oa' (n-k) (cap-k) b (o+k) 1 (vs.drop k) :=
 ⟨(h.drop hk).len,(h.drop hk).le,(h.drop hk).max,fun hp=>⟨ha hp,(h.lies (by omega)).2⟩,(h.drop hk).cell⟩
theorem bom_not {a b c:UInt8} {r:List UInt8} (h:¬ (a=239∧b=187∧c=191)):bomF (a::b::c::r)=a::b::c::r:=by
 unfold bomF;split
 · rename_i e
   cases e
   exact absurd ⟨rfl,rfl,rfl⟩ h
 · rfl
theorem byte_key (x:UInt8) (n:Nat) (hn:n<256):((x.toNat:Int)==(n:Int))=true↔x=UInt8.ofNat n:=by
 rw[beq_iff_eq,← UInt8.toNat_inj,UInt8.toNat_ofNat_of_lt' (by simpa using hn:n<UInt8.size)];omega
theorem bom_ways (l:List UInt8):(l.length<3∧bomF l=l)∨(∃ a b c r,l=a::b::c::r∧((((a.toNat:Int)==239)=false∧bomF l=l)∨(((a.toNat:Int)==239)=true∧((b.toNat:Int)==187)=false∧bomF l=l) ∨
  (((a.toNat:Int)==239)=true∧((b.toNat:Int)==187)=true∧((c.toNat:Int)==191)=false∧bomF l=l)∨(((a.toNat:Int)==239)=true∧((b.toNat:Int)==187)=true∧((c.toNat:Int)==191)=true∧bomF l=l.drop 3))):=by
 match l with
 | []=>exact Or.inl ⟨by simp,rfl⟩
 | [a]=>exact Or.inl ⟨by simp,by simp[bomF]⟩
 | [a,b]=>exact Or.inl ⟨by simp,by simp[bomF]⟩
 | a::b::c::r =>
   refine Or.inr ⟨a,b,c,r,rfl,?_⟩;have k1:((a.toNat:Int)==239)=true↔a=239:=byte_key a 239 (by decide);have k2:((b.toNat:Int)==187)=true↔b=187:=byte_key b 187 (by decide);have k3:((c.toNat:Int)==191)=true↔c=191:=byte_key c 191 (by decide)
   cases h1:((a.toNat:Int)==239) with
   | false=>exact Or.inl ⟨rfl,bom_not fun h=>by rw[k1.2 h.1]at h1;cases h1⟩
   | true =>
     cases h2:((b.toNat:Int)==187) with
     | false=>exact Or.inr (Or.inl ⟨rfl,rfl,bom_not fun h=>by rw[k2.2 h.2.1]at h2;cases h2⟩)
     | true =>
       cases h3:((c.toNat:Int)==191) with
       | false=>exact Or.inr (Or.inr (Or.inl ⟨rfl,rfl,rfl,bom_not fun h=>by rw[k3.2 h.2.2]at h3;cases h3⟩))
       | true =>
         obtain rfl:=k1.1 h1;obtain rfl:=k2.1 h2;obtain rfl:=k3.1 h3;exact Or.inr (Or.inr (Or.inr ⟨rfl,rfl,rfl,rfl⟩))
theorem goF_fits (b:List UInt8) (i:Nat):∀ (f k lo hi x:Nat),x<64 ^ k→f+k≤4→0≤(goF b i f k lo hi x).1∧(goF b i f k lo hi x).1≤16777216
 | 0,k,lo,hi,x,hx,hf=>by
   have:=Nat.pow_le_pow_right (n:=64) (by decide) (show k≤4 by omega);unfold goF;simp only;omega
 | f+1,k,lo,hi,x,hx,hf=>by
   unfold goF;split
   · simp
   · split
     · simp
     · refine goF_fits b i f (k+1) _ _ _ ?_ (by omega);rw[Nat.pow_succ];omega
theorem oneF_fits (b:List UInt8) (i:Nat):0≤(oneF b i).1∧(oneF b i).1≤16777216:=by
 unfold oneF;split
 · decide
 · rename_i c _
   have hc:=UInt8.toNat_lt c;split
   · simp only;omega
   · split
     · decide
     · have h2:=(needF_three c.toNat).1;refine goF_fits b i _ _ _ _ _ ?_ (by omega)
       have h0:(needF c.toNat).1=1∨(needF c.toNat).1=2∨(needF c.toNat).1=3:=by omega
       rcases h0 with h|h|h<;>rw[h]<;>omega
theorem rawF_fits (b:List UInt8):∀ (f i:Nat),∀ x∈rawF b f i,0≤x∧x≤16777216
 | 0,_,x,h=>by cases h
 | f+1,i,x,h=>by
   unfold rawF at h;split at h
   · rcases List.mem_cons.1 h with rfl|h
     · exact oneF_fits b i
     · exact rawF_fits b f _ x h
   · cases h
theorem rawF_len (b:List UInt8):∀ (f i:Nat),(rawF b f i).length≤f
 | 0,_=>Nat.le_refl _
 | f+1,i=>by
   unfold rawF;split
   · have:=rawF_len b f (i+(oneF b i).2.1);simp only[List.length_cons];omega
   · simp
theorem decG_len:∀ (y:Int) (l:List Int),(decG y l).length≤l.length
 | _,[]=>Nat.le_refl _
 | y,x::r=>by
   unfold decG;split
   · have:=decG_len x r;simp only[List.length_cons];omega
   · have:=decG_len x r;simp only[List.length_cons];omega
set_option maxRecDepth 20000 in
set_option maxHeartbeats 4000000 in
theorem decode_any (l:List UInt8) (oa:Option Addr) (cap b o:Nat) (w:World) (hs:Sl w oa l.length cap b o 1 (bytesV l)) (hm:l.length≤1099511627776) :
  Calls Tryz.prog 37 #[.slice oa l.length cap] w fun e w'=>(∃ v,e=.returned v∧Rw w w' 21 1 v (decodeF l).length (runesV (decodeF l))):=by
 unfold decodeF;obtain⟨X,hX⟩:∃ X,decG 0 (rawF (bomF l) (bomF l).length 0)=X:=⟨_,rfl⟩;rw[hX];have HS:=Lib.hid hs;have HX:=Lib.hid hX;have HW:=Lib.hid (bom_ways l);have HC:=Lib.hid hs.cell;have HL:=Lib.hid hs.lies;clear hs hX;obtain⟨be,hbe⟩:∃ be,decide ((bomF l).length<l.length)=be:=⟨_,rfl⟩;have HBE:=Lib.hid hbe;clear hbe;obtain⟨n,hn⟩:∃ n,l.length=n:=⟨_,rfl⟩;have HN:=Lib.hid hn;have hcap:=HS.out.le;rw[hn]at hcap;rw[hn];clear hn
 go_enter Tryz.func37,Tryz.ntmps37
 go_upto_region 1 with fail
 go_cut [28] from 8 to 28 (fun s wx=>s=.bool be∧wx=w)
 case first =>
  rcases HW.out with ⟨h3,hb⟩ | ⟨x0,x1,x2,r,el,hways⟩
  · have g1:decide ((3:Int)≤(n:Int))=false:=by have:=HN.out;simp;omega
    obtain rfl:be=false:=by rw[← HBE.out,hb];simp
    clear HW HX HC HL HBE;go_wp2_with fail;go_meet;exact⟨rfl,rfl⟩
  · have hn3:3≤n:=by rw[← HN.out,el];simp
    obtain⟨rfl,hbl⟩:=HL.out (by rw[HN.out];omega);have f0:=HC.out 0 _ (by rw[el];rfl);have f1:=HC.out 1 _ (by rw[el];rfl);have f2:=HC.out 2 _ (by rw[el];rfl);have HQ:=Lib.hid (show bomF l=l→be=false from fun h=>by rw[← HBE.out,h];simp);have HQ3:=Lib.hid (show bomF l=l.drop 3→be=true from fun h=>by rw[← HBE.out,h];have:=HN.out;simp;omega);rw[Nat.add_zero]at f0
    have g1:decide ((3:Int)≤(n:Int))=true:=by simp;omega
    have g4:0<n:=by omega
    have g5:1<n:=by omega
    have g6:2<n:=by omega
    clear HW HX HC HL HBE el
    rcases hways with ⟨e1,hb⟩ | ⟨e1,e2,hb⟩ | ⟨e1,e2,e3,hb⟩ | ⟨e1,e2,e3,hb⟩
    · obtain rfl:=HQ.out hb;clear HQ HQ3 hb;go_wp2_with fail;go_meet;exact⟨rfl,rfl⟩
    · obtain rfl:=HQ.out hb;clear HQ HQ3 hb;go_wp2_with fail;go_meet;exact⟨rfl,rfl⟩
    · obtain rfl:=HQ.out hb;clear HQ HQ3 hb;go_wp2_with fail;go_meet;exact⟨rfl,rfl⟩
    · obtain rfl:=HQ3.out hb;clear HQ HQ3 hb;go_wp2_with fail;go_meet;exact⟨rfl,rfl⟩
 case rest =>
  obtain⟨rfl,e⟩:=hcut;subst e
  go_upto_if 28 with fail
  go_cut [0] from 29 to 30 (fun s wx=>wx=wc∧∃ (oa':Option Addr) (cap' b' o':Nat),s=.slice oa' (bomF l).length cap'∧Hid (Sl wc oa' (bomF l).length cap' b' o' 1 (bytesV (bomF l))))
  case first =>
   cases be with
   | false =>
     have hb:bomF l=l:=by
      have h0:=HBE.out
      rcases HW.out with ⟨_,hb⟩ | ⟨x0,x1,x2,r,el,⟨_,hb⟩ | ⟨_,_,hb⟩ | ⟨_,_,_,hb⟩ | ⟨_,_,_,hb⟩⟩
      · exact hb
      · exact hb
      · exact hb
      · exact hb
      · rw[decide_eq_false_iff_not]at h0;exact absurd (by rw[hb,List.length_drop,el];simp only[List.length_cons];omega) h0
     have HB:=Lib.hid hb;clear HW HX HC HL HBE;go_wp2_with fail;go_meet;exact⟨rfl,oa,cap,b,o,by rw[HB.out,HN.out],by rw[HB.out];exact HS⟩
   | true =>
     obtain ⟨h3,hb⟩:3≤l.length∧bomF l=l.drop 3:=by
      have h0:=HBE.out
      rcases HW.out with ⟨_,hb⟩ | ⟨x0,x1,x2,r,el,⟨_,hb⟩ | ⟨_,_,hb⟩ | ⟨_,_,_,hb⟩ | ⟨_,_,_,hb⟩⟩
      · rw[hb]at h0;simp at h0
      · rw[hb]at h0;simp at h0
      · rw[hb]at h0;simp at h0
      · rw[hb]at h0;simp at h0
      · exact⟨by rw[el];simp,hb⟩
     rw[HN.out]at h3;obtain⟨rfl,hbl⟩:=HL.out (by rw[HN.out];omega);have HB:=Lib.hid hb;clear HW HX HC HL HBE
     have hsl:∀ oa',(0<l.length-3→oa'=some ⟨b,o+3,none⟩)→Sl wc oa' (bomF l).length (cap-3) b (o+3) 1 (bytesV (bomF l)):=by
      intro oa' h;rw[hb,List.length_drop,show bytesV (l.drop 3)=(bytesV l).drop 3 from List.map_drop];exact HS.out.front (by rw[HN.out];omega) h
     have HSL:=Lib.hid hsl;clear hsl;go_wp2_with fail
     · go_meet
       have hc:cap=3:=by first|assumption|omega
       exact⟨rfl,_,cap-3,b,o+3,by rw[HB.out,List.length_drop,HN.out,show cap-3=0 by omega],Lib.hid (HSL.out _ (fun h=>by rw[HN.out]at h;omega))⟩
     · go_meet;exact⟨rfl,_,cap-3,b,o+3,by rw[HB.out,List.length_drop,HN.out],Lib.hid (HSL.out _ (fun h=>rfl))⟩
  case rest =>
   obtain⟨rfl,oa',cap',b',o',rfl,hS⟩:=hcut
   have hbl:(bomF l).length≤l.length:=by
    rcases HW.out with ⟨_,hb⟩ | ⟨x0,x1,x2,r,el,⟨_,hb⟩ | ⟨_,_,hb⟩ | ⟨_,_,_,hb⟩ | ⟨_,_,_,hb⟩⟩<;>rw[hb]<;>simp
   clear HW HS HC HL HN HBE;generalize bomF l=B at *;have hraw:=raw_any B oa' cap' b' o' wc hS.out (by omega);have hlen:=rawF_len B B.length 0;have hfit:=rawF_fits B B.length 0;obtain⟨Y,hY⟩:∃ Y,rawF B B.length 0=Y:=⟨_,rfl⟩;rw[hY]at hraw hlen hfit;have hx:=HX.out;rw[hY]at hx;have HX:=Lib.hid hx;have HR:=Lib.hid hraw;have HF:=Lib.hid hfit;clear hraw hx hY hfit;go_wp2_with fail
   ((with_reducible refine HR.out.mono ?_);rintro e w' ⟨v,rfl,hRw⟩)
   have hbw:=hRw.below;obtain⟨yo,yc,yb,rfl,hsl,_⟩:=hRw.sl;obtain⟨N,hN⟩:∃ N,Y.length=N:=⟨_,rfl⟩;rw[hN]at hsl hlen;have HN:=Lib.hid hN;have HSL:=Lib.hid hsl;rw[hN];clear hRw hN hsl HR;go_wp2_with fail
   go_loopg [3,4,34] N (fun q s3 s4 s34 wr=>∃ (i:Nat) (last:Int) (D:List Int) (v:Value),v=s3∧s4=.int .i32 last∧s34=.int .i64 i∧Hid (Rw w' wr 21 1 v D.length (runesV D))∧i≤N∧Hid (D++decG last (Y.drop i)=X)∧D.length≤i∧N-i≤q)
   case atStart=>exact⟨0,0,[],_,rfl,rfl,rfl,Lib.hid (Rw.start _ _ _),Nat.zero_le _,HX,Nat.le_refl _,by omega⟩
   case round =>
    obtain⟨i,last,D,v,rfl,rfl,rfl,hR,hiN,hD,hDi,hq⟩:=hrel
    by_cases hi:i<N
    · have gi:decide ((i:Int)<(N:Int))=true:=by simpa using hi
      have gin:decide (i<N)=true:=by simpa using hi
      have hiY:i<Y.length:=by rw[HN.out];exact hi
      have hsl2:=HSL.out.below hR.out.below;obtain⟨rfl,hyb⟩:=hsl2.lies (by omega);have hcell:=hsl2.cell i _ (runesV_at hiY);rw[Nat.zero_add]at hcell;have hD2:=hD.out;rw[List.drop_eq_getElem_cons hiY]at hD2;have hxf:=HF.out _ (List.getElem_mem hiY);obtain⟨x,hx⟩:∃ x,Y[i]=x:=⟨_,rfl⟩;rw[hx]at hcell hD2 hxf;unfold decG at hD2;clear hsl2 hx hD
      by_cases hsk:x=10∧last=13
      · rw[if_pos hsk]at hD2;have HD:=Lib.hid hD2;obtain⟨rfl,rfl⟩:=hsk;clear hD2 HX;go_wp2_with fail
        go_roundg (N-(i+1))
        case measure=>omega
        case rel=>exact⟨i+1,10,D,_,rfl,rfl,by go_num,hR,hi,HD,by omega,Nat.le_refl _⟩
      · rw[if_neg hsk]at hD2;obtain⟨y,hy⟩:∃ y,yF x=y:=⟨_,rfl⟩;rw[hy]at hD2;have HD:=Lib.hid hD2
        have hyc:(x=13∧y=10)∨(x=12∧y=10)∨(x=0∧y=65533)∨(x=10∧y=10∧(last != 13)=true)∨(y=x∧(x==13)=false∧(x==12)=false∧(x==0)=false∧(x != 10)=true):=by
         unfold yF at hy
         by_cases h1:x=13
         · exact Or.inl ⟨h1,by rw[if_pos (Or.inl h1)]at hy;exact hy.symm⟩
         by_cases h2:x=12
         · exact Or.inr (Or.inl ⟨h2,by rw[if_pos (Or.inr h2)]at hy;exact hy.symm⟩)
         rw[if_neg (by omega)]at hy
         by_cases h3:x=0
         · exact Or.inr (Or.inr (Or.inl ⟨h3,by rw[if_pos h3]at hy;exact hy.symm⟩))
         rw[if_neg h3]at hy
         by_cases h4:x=10
         · exact Or.inr (Or.inr (Or.inr (Or.inl ⟨h4,by omega,by simp;omega⟩)))
         · exact Or.inr (Or.inr (Or.inr (Or.inr ⟨hy.symm,by simp;omega,by simp;omega,by simp;omega,by simp;omega⟩)))
        clear hD2 HX hy hsk
        rcases hyc with ⟨rfl,rfl⟩ | ⟨rfl,rfl⟩ | ⟨rfl,rfl⟩ | ⟨rfl,rfl,g1⟩ | ⟨rfl,g1,g2,g3,g4⟩
        all_goals
         go_wp2_with (at_builtin;refine wpList_push elRune rfl _ _ rfl rfl hR.out 1 1 #[_] _ rfl rfl (by simp[Value.oneCell']) (by omega) (by omega) (by omega) ?_;intro g2 cap2 w2 hR2 hg2;have HR2:=Lib.hid hR2;clear hR2 hg2)
         go_roundg (N-(i+1))
         case measure=>omega
         case rel=>exact⟨i+1,_,D++[_],_,rfl,rfl,by go_num,Lib.hid (by have:=HR2.out;simpa[runesV] using this),hi,Lib.hid (by rw[List.append_assoc];exact HD.out),by simp;omega,Nat.le_refl _⟩
    · obtain rfl:i=N:=by omega
      have gi:decide ((i:Int)<(i:Int))=false:=by simp
      have gin:decide (i<i)=false:=by simp
      have hD2:=hD.out;rw[List.drop_eq_nil_of_le (by rw[HN.out];exact Nat.le_refl _)]at hD2;unfold decG at hD2;rw[List.append_nil]at hD2;subst hD2;clear hcap;go_wp2_with fail;go_ret;exact⟨_,rfl,hR.out.base hbw⟩
theorem conv_sl {w:World} {oa:Option Addr} {cap b o:Nat} {l:List UInt8} (h:Sl w oa l.length cap b o 1 (bytesV l)) :
  (convert 60 9 (.slice oa l.length cap)).run Tryz.prog w=.ok (.string ⟨l.toArray⟩) w:=by
 cases l with
 | nil =>
   cases oa with
   | none=>exact run_convert_bytes_nil _ _ _ Tryz.underlying60 Tryz.underlying5 _ _ _ Tryz.underlying9
   | some a=>exact run_convert_bytes_back w _ _ _ a cap [] Tryz.underlying60 Tryz.underlying5 Tryz.underlying9 (fun j hj=>absurd hj (Nat.not_lt_zero _))
 | cons c r =>
   obtain⟨rfl,_⟩:=h.lies (by simp);refine run_convert_bytes_back w _ _ _ ⟨b,o,none⟩ cap (c::r) Tryz.underlying60 Tryz.underlying5 Tryz.underlying9 (fun j hj=>?_);rw[Addr.add_lit];exact h.cell j _ (bytesV_at hj)
theorem i32_or128 (r:Nat) (h:r<64):bits .or .i32 128 (r:Int)=((128+r:Nat):Int):=by
 rw[show (128:Int)=((128:Nat):Int) from rfl,i32_or_nat _ _ (by omega) (by omega),nat_join 6 _ _ (by decide) (by omega)]
theorem i32_or192 (r:Nat) (h:r<64):bits .or .i32 192 (r:Int)=((192+r:Nat):Int):=by
 rw[show (192:Int)=((192:Nat):Int) from rfl,i32_or_nat _ _ (by omega) (by omega),nat_join 6 _ _ (by decide) (by omega)]
theorem i32_or224 (r:Nat) (h:r<32):bits .or .i32 224 (r:Int)=((224+r:Nat):Int):=by
 rw[show (224:Int)=((224:Nat):Int) from rfl,i32_or_nat _ _ (by omega) (by omega),nat_join 5 _ _ (by decide) (by omega)]
theorem i32_or240 (r:Nat) (h:r<16):bits .or .i32 240 (r:Int)=((240+r:Nat):Int):=by
 rw[show (240:Int)=((240:Nat):Int) from rfl,i32_or_nat _ _ (by omega) (by omega),nat_join 4 _ _ (by decide) (by omega)]
theorem isC_range {x:Int} (h:isC x=true):0≤x∧x≤1114111:=by
 simp only[isC,Bool.and_eq_true,decide_eq_true_eq]at h;omega
def encN (x:Int):Nat:=(if isC x then x else 65533).toNat
theorem encN_le (x:Int):encN x≤1114111:=by
 unfold encN;split
 · rename_i h
   have:=isC_range h;omega
 · decide
def encB (m:Nat):List UInt8 :=
 if m<128 then [UInt8.ofNat m] else
  if m<2048 then [UInt8.ofNat (192+m / 64),UInt8.ofNat (128+m % 64)] else
   if m<65536 then [UInt8.ofNat (224+m / 4096),UInt8.ofNat (128+m / 64 % 64),UInt8.ofNat (128+m % 64)] else
    [UInt8.ofNat (240+m / 262144),UInt8.ofNat (128+m / 4096 % 64),UInt8.ofNat (128+m / 64 % 64),UInt8.ofNat (128+m % 64)]
theorem enc1_eq (x:Int):enc1 x=encB (encN x):=rfl
theorem byteV {n:Nat} (h:n<256):Value.int .u8 ((UInt8.ofNat n).toNat:Int)=.int .u8 (n:Int):=by
 rw[UInt8.toNat_ofNat_of_lt' (by simpa using h:n<UInt8.size)]
theorem enc1_len (x:Int):1≤(enc1 x).length∧(enc1 x).length≤4:=by
 rw[enc1_eq];unfold encB
 (repeat' split)<;>simp
theorem encF_cons (x:Int) (l:List Int):encF (x::l)=enc1 x++encF l:=by simp[encF]
theorem encF_len:∀ l:List Int,(encF l).length≤4*l.length
 | []=>by simp[encF]
 | x::l=>by
   have h1:=encF_len l;have h2:=(enc1_len x).2;rw[encF_cons,List.length_append,List.length_cons];omega
set_option maxRecDepth 20000 in
set_option maxHeartbeats 8000000 in
theorem encode_any (l:List Int) (oa:Option Addr) (cap b o:Nat) (w:World) (hs:Sl w oa l.length cap b o 1 (runesV l)) (h32:∀ x∈l,I32 x) (hm:l.length≤1099511627776) :
  Calls Tryz.prog 136 #[.slice oa l.length cap] w fun e w'=>(∃ v,e=.returned v∧Rw w w' 5 1 v (encF l).length (bytesV (encF l))):=by
 obtain⟨X,hX⟩:∃ X,encF l=X:=⟨_,rfl⟩;rw[hX];have HS:=Lib.hid hs;have HX:=Lib.hid (show []++encF (l.drop 0)=X from hX);have H32:=Lib.hid h32;obtain⟨N,hN⟩:∃ N,l.length=N:=⟨_,rfl⟩;rw[hN]at hm ⊢;have HN:=Lib.hid hN;clear hs hX h32 hN
 go_enter Tryz.func136,Tryz.ntmps136
 go_wp2_with fail
 go_loopg [3,8] N (fun q s3 s8 wr=>∃ (i:Nat) (D:List UInt8) (v:Value),v=s3∧s8=.int .i64 i∧Hid (Rw w wr 5 1 v D.length (bytesV D))∧i≤N∧Hid (D++encF (l.drop i)=X)∧D.length≤4*i∧N-i≤q)
 case atStart=>exact⟨0,[],_,rfl,rfl,Lib.hid (Rw.start _ _ _),Nat.zero_le _,HX,Nat.le_refl _,by omega⟩
 case round =>
  obtain⟨i,D,v,rfl,rfl,hR,hiN,hD,hDi,hq⟩:=hrel
  by_cases hi:i<N
  · have gi:decide ((i:Int)<(N:Int))=true:=by simpa using hi
    have gin:decide (i<N)=true:=by simpa using hi
    have hil:i<l.length:=by rw[HN.out];exact hi
    have hsl:=HS.out.below hR.out.below;rw[HN.out]at hsl;obtain⟨rfl,hyb⟩:=hsl.lies (by omega);have hcell:=hsl.cell i _ (runesV_at hil);have hD2:=hD.out;rw[List.drop_eq_getElem_cons hil,encF_cons]at hD2;have hx32:=H32.out _ (List.getElem_mem hil);obtain⟨x,hx⟩:∃ x,l[i]=x:=⟨_,rfl⟩;rw[hx]at hcell hD2 hx32
    have his:=fun w=>isC_any x w
    unfold I32 at hx32;clear hsl hx hD HX;obtain⟨m,hm2⟩:∃ m,encN x=m:=⟨_,rfl⟩;have hml:=encN_le x;rw[enc1_eq,hm2]at hD2;rw[hm2]at hml
    have hxm:isC x=true∧x=(m:Int)∨isC x=false∧m=65533:=by
     rw[← hm2];unfold encN
     cases h:isC x with
     | true =>
       have:=isC_range h;exact Or.inl ⟨rfl,by simp;omega⟩
     | false=>exact Or.inr ⟨rfl,rfl⟩
    have HD:=Lib.hid hD2;clear hD2 hm2
    rcases hxm with ⟨hc,rfl⟩ | ⟨hc,rfl⟩
    · rw[hc]at his;have HI:=Lib.hid his;clear his hx32
      by_cases h1:m<128
      · have g1:decide ((m:Int)<(128:Int))=true:=by simp;omega
        have HE:=Lib.hid (show bytesV (encB m)=[.int .u8 (m:Int)]∧(encB m).length=1 by unfold encB;rw[if_pos h1];exact⟨by simp only[bytesV,List.map_cons,List.map_nil];rw[byteV (by omega)],rfl⟩);go_wp2_with fail;go_wp2_with fail
        ((with_reducible refine(HI.out _).mono ?_);rintro e w' ⟨rfl,rfl⟩)
        go_wp2_with (at_builtin;refine wpList_push elByte rfl _ _ rfl rfl hR.out 1 1 #[_] _ rfl rfl (by simp[Value.oneCell']) (by omega) (by omega) (by omega) ?_;intro g2 cap2 w2 hR2 hg2;have HR2:=Lib.hid hR2;clear hR2 hg2)
        go_roundg (N-(i+1))
        case measure=>omega
        case rel=>exact⟨i+1,D++encB m,_,rfl,by go_num,Lib.hid (by have:=HR2.out;obtain⟨e1,e2⟩:=HE.out;rw[List.length_append,e2];unfold bytesV at *;rw[List.map_append,e1];exact this),hi,Lib.hid (by rw[List.append_assoc];exact HD.out),by rw[List.length_append,HE.out.2];omega,Nat.le_refl _⟩
      · have g1:decide ((m:Int)<(128:Int))=false:=by simp;omega
        obtain⟨q,hq0⟩:∃ q,m / 64=q:=⟨_,rfl⟩;obtain⟨r,hr0⟩:∃ r,m % 64=r:=⟨_,rfl⟩
        have iq:(m:Int) / 64=(q:Int):=by omega
        have e1:bits .and .i32 (m:Int) 63=(r:Int):=by rw[i32_mask6 m (by omega),hr0]
        have e2:bits .or .i32 128 (r:Int)=((128+r:Nat):Int):=i32_or128 r (by omega)
        have hr64:r<64:=by omega
        by_cases h2:m<2048
        · have g2:decide ((m:Int)<(2048:Int))=true:=by simp;omega
          have e3:bits .or .i32 192 (q:Int)=((192+q:Nat):Int):=i32_or192 q (by omega)
          have hq32:q<32:=by omega
          have HE:=Lib.hid (show bytesV (encB m)=[.int .u8 ((192+q:Nat):Int),.int .u8 ((128+r:Nat):Int)]∧(encB m).length=2 by
           unfold encB;rw[if_neg h1,if_pos h2,hq0,hr0];exact⟨by simp only[bytesV,List.map_cons,List.map_nil];rw[byteV (by omega),byteV (by omega)],rfl⟩)
          clear hq0 hr0;go_wp2_with fail;go_wp2_with fail
          ((with_reducible refine(HI.out _).mono ?_);rintro e w' ⟨rfl,rfl⟩)
          go_wp2_with (at_builtin;refine wpList_push elByte rfl _ _ rfl rfl hR.out 2 2 #[_,_] _ rfl rfl (by simp[Value.oneCell']) (by omega) (by omega) (by omega) ?_;intro g2 cap2 w2 hR2 hg2;have HR2:=Lib.hid hR2;clear hR2 hg2)
          go_roundg (N-(i+1))
          case measure=>omega
          case rel=>exact⟨i+1,D++encB m,_,rfl,by go_num,Lib.hid (by have:=HR2.out;obtain⟨e1,e2⟩:=HE.out;rw[List.length_append,e2];unfold bytesV at *;rw[List.map_append,e1];exact this),hi,Lib.hid (by rw[List.append_assoc];exact HD.out),by rw[List.length_append,HE.out.2];omega,Nat.le_refl _⟩
        · have g2:decide ((m:Int)<(2048:Int))=false:=by simp;omega
          obtain⟨t,ht0⟩:∃ t,q % 64=t:=⟨_,rfl⟩
          have e4:bits .and .i32 (q:Int) 63=(t:Int):=by rw[i32_mask6 q (by omega),ht0]
          have e5:bits .or .i32 128 (t:Int)=((128+t:Nat):Int):=i32_or128 t (by omega)
          have ht64:t<64:=by omega
          obtain⟨s,hs0⟩:∃ s,m / 4096=s:=⟨_,rfl⟩
          have is:(m:Int) / 4096=(s:Int):=by omega
          by_cases h3:m<65536
          · have g3:decide ((m:Int)<(65536:Int))=true:=by simp;omega
            have e6:bits .or .i32 224 (s:Int)=((224+s:Nat):Int):=i32_or224 s (by omega)
            have hs16:s<16:=by omega
            have HE:=Lib.hid (show bytesV (encB m)=[.int .u8 ((224+s:Nat):Int),.int .u8 ((128+t:Nat):Int),.int .u8 ((128+r:Nat):Int)]∧(encB m).length=3 by
             unfold encB;rw[if_neg h1,if_neg h2,if_pos h3,hq0,hr0,ht0,hs0];exact⟨by simp only[bytesV,List.map_cons,List.map_nil];rw[byteV (by omega),byteV (by omega),byteV (by omega)],rfl⟩)
            clear hq0 hr0 ht0 hs0;go_wp2_with fail;go_wp2_with fail
            ((with_reducible refine(HI.out _).mono ?_);rintro e w' ⟨rfl,rfl⟩)
            go_wp2_with (at_builtin;refine wpList_push elByte rfl _ _ rfl rfl hR.out 3 3 #[_,_,_] _ rfl rfl (by simp[Value.oneCell']) (by omega) (by omega) (by omega) ?_;intro g2 cap2 w2 hR2 hg2;have HR2:=Lib.hid hR2;clear hR2 hg2)
            go_roundg (N-(i+1))
            case measure=>omega
            case rel=>exact⟨i+1,D++encB m,_,rfl,by go_num,Lib.hid (by have:=HR2.out;obtain⟨e1,e2⟩:=HE.out;rw[List.length_append,e2];unfold bytesV at *;rw[List.map_append,e1];exact this),hi,Lib.hid (by rw[List.append_assoc];exact HD.out),by rw[List.length_append,HE.out.2];omega,Nat.le_refl _⟩
          · have g3:decide ((m:Int)<(65536:Int))=false:=by simp;omega
            obtain⟨p,hp0⟩:∃ p,s % 64=p:=⟨_,rfl⟩;obtain⟨y,hy0⟩:∃ y,m / 262144=y:=⟨_,rfl⟩
            have iy:(m:Int) / 262144=(y:Int):=by omega
            have e6:bits .and .i32 (s:Int) 63=(p:Int):=by rw[i32_mask6 s (by omega),hp0]
            have e7:bits .or .i32 128 (p:Int)=((128+p:Nat):Int):=i32_or128 p (by omega);have e8:bits .or .i32 240 (y:Int)=((240+y:Nat):Int):=i32_or240 y (by omega)
            have hp64:p<64:=by omega
            have hy5:y<5:=by omega
            have HE:=Lib.hid (show bytesV (encB m)=[.int .u8 ((240+y:Nat):Int),.int .u8 ((128+p:Nat):Int),.int .u8 ((128+t:Nat):Int),.int .u8 ((128+r:Nat):Int)]∧(encB m).length=4 by
             unfold encB;rw[if_neg h1,if_neg h2,if_neg h3,hq0,hr0,ht0,hs0,hp0,hy0];exact⟨by simp only[bytesV,List.map_cons,List.map_nil];rw[byteV (by omega),byteV (by omega),byteV (by omega),byteV (by omega)],rfl⟩)
            clear hq0 hr0 ht0 hs0 hp0 hy0;go_wp2_with fail;go_wp2_with fail
            ((with_reducible refine(HI.out _).mono ?_);rintro e w' ⟨rfl,rfl⟩)
            go_wp2_with (at_builtin;refine wpList_push elByte rfl _ _ rfl rfl hR.out 4 4 #[_,_,_,_] _ rfl rfl (by simp[Value.oneCell']) (by omega) (by omega) (by omega) ?_;intro g2 cap2 w2 hR2 hg2;have HR2:=Lib.hid hR2;clear hR2 hg2)
            go_roundg (N-(i+1))
            case measure=>omega
            case rel=>exact⟨i+1,D++encB m,_,rfl,by go_num,Lib.hid (by have:=HR2.out;obtain⟨e1,e2⟩:=HE.out;rw[List.length_append,e2];unfold bytesV at *;rw[List.map_append,e1];exact this),hi,Lib.hid (by rw[List.append_assoc];exact HD.out),by rw[List.length_append,HE.out.2];omega,Nat.le_refl _⟩
    · rw[hc]at his;have HI:=Lib.hid his;clear his hx32 hml
      have e1:bits .or .i32 224 15=239:=by decide
      have e2:bits .and .i32 1023 63=63:=by decide
      have e3:bits .or .i32 128 63=191:=by decide
      have e4:bits .and .i32 65533 63=61:=by decide
      have e5:bits .or .i32 128 61=189:=by decide
      have HE:=Lib.hid (show bytesV (encB 65533)=[.int .u8 239,.int .u8 191,.int .u8 189]∧(encB 65533).length=3 from ⟨rfl,rfl⟩);go_wp2_with fail;go_wp2_with fail
      ((with_reducible refine(HI.out _).mono ?_);rintro e w' ⟨rfl,rfl⟩)
      go_wp2_with (at_builtin;refine wpList_push elByte rfl _ _ rfl rfl hR.out 3 3 #[_,_,_] _ rfl rfl (by simp[Value.oneCell']) (by omega) (by omega) (by omega) ?_;intro g2 cap2 w2 hR2 hg2;have HR2:=Lib.hid hR2;clear hR2 hg2)
      go_roundg (N-(i+1))
      case measure=>omega
      case rel=>exact⟨i+1,D++encB 65533,_,rfl,by go_num,Lib.hid (by have:=HR2.out;obtain⟨e1,e2⟩:=HE.out;rw[List.length_append,e2];unfold bytesV at *;rw[List.map_append,e1];exact this),hi,Lib.hid (by rw[List.append_assoc];exact HD.out),by rw[List.length_append,HE.out.2];omega,Nat.le_refl _⟩
  · obtain rfl:i=N:=by omega
    have gi:decide ((i:Int)<(i:Int))=false:=by simp
    have gin:decide (i<i)=false:=by simp
    have hD2:=hD.out;rw[List.drop_eq_nil_of_le (by rw[HN.out];exact Nat.le_refl _)]at hD2;rw[show encF []=[] from rfl,List.append_nil]at hD2;subst hD2;go_wp2_with fail;go_ret;exact⟨_,rfl,hR.out⟩
set_option maxHeartbeats 1000000 in
theorem text_of (l:List Int) (oa:Option Addr) (cap b o:Nat) (w:World) (hs:Sl w oa l.length cap b o 1 (runesV l)) (h32:∀ x∈l,I32 x) (hm:l.length≤1099511627776) :
  Calls Tryz.prog 98 #[.slice oa l.length cap] w fun e w'=>e=.returned (.string ⟨(encF l).toArray⟩)∧Below w.heap.size w w':=by
 have HE:=Lib.hid (encode_any l oa cap b o w hs h32 hm);clear hs h32
 go_enter Tryz.func98,Tryz.ntmps98
 go_wp2_with fail
 ((with_reducible refine HE.out.mono ?_);rintro e w' ⟨v,rfl,hR⟩)
 obtain⟨ya,yc,yb,rfl,hsl,_⟩:=hR.sl;have hcv:=conv_sl hsl;have hb:=hR.below;go_wp2_with fail;go_ret;exact⟨rfl,hb⟩
end Go.Proofs.YtchhhhaeiiildaaGreatDoor
