/- Of my texts: TokE. -/
import Derived.Test.YtnahlfaehelfjaaGreatDoorM08
import Derived.Laws.BytesArg
import Derived.Laws.IdiomStrings
namespace Go.Proofs.YtnahlfaehelfjaaGreatDoor
set_option linter.unusedVariables false
set_option linter.unusedSimpArgs false
open Go.RowKit
theorem conv_sl {w:World} {oa:Option Addr} {cap b o:Nat} {l:List UInt8} (h:Sl w oa l.length cap b o 1 (bytesV l)) :
  (convert 95 9 (.slice oa l.length cap)).run Tryz.prog w=.ok (.string ⟨l.toArray⟩) w:=by
 cases l with
 | nil =>
   cases oa with
   | none=>exact run_convert_bytes_nil _ _ _ Tryz.underlying95 Tryz.underlying5 _ _ _ Tryz.underlying9
   | some a=>exact run_convert_bytes_back w _ _ _ a cap [] Tryz.underlying95 Tryz.underlying5 Tryz.underlying9 (fun j hj=>absurd hj (Nat.not_lt_zero _))
 | cons c r =>
   obtain⟨rfl,_⟩:=h.lies (by simp);refine run_convert_bytes_back w _ _ _ ⟨b,o,none⟩ cap (c::r) Tryz.underlying95 Tryz.underlying5 Tryz.underlying9 (fun j hj=>?_);rw[Addr.add_lit];exact h.cell j _ (bytesV_at hj)
theorem i32_or128 (r:Nat) (h:r<64):bits .or .i32 128 (r:Int)=((128+r:Nat):Int):=by
 rw[show (128:Int)=((128:Nat):Int) from rfl,i32_or_nat _ _ (by omega) (by omega),nat_join 6 _ _ (by decide) (by omega)]
theorem i32_or192 (r:Nat) (h:r<64):bits .or .i32 192 (r:Int)=((192+r:Nat):Int):=by
 rw[show (192:Int)=((192:Nat):Int) from rfl,i32_or_nat _ _ (by omega) (by omega),nat_join 6 _ _ (by decide) (by omega)]
theorem i32_or224 (r:Nat) (h:r<32):bits .or .i32 224 (r:Int)=((224+r:Nat):Int):=by
 rw[show (224:Int)=((224:Nat):Int) from rfl,i32_or_nat _ _ (by omega) (by omega),nat_join 5 _ _ (by decide) (by omega)]
theorem i32_or240 (r:Nat) (h:r<16):bits .or .i32 240 (r:Int)=((240+r:Nat):Int):=by
 rw[show (240:Int)=((240:Nat):Int) from rfl,i32_or_nat _ _ (by omega) (by omega),nat_join 4 _ _ (by decide) (by omega)]
theorem isC_range {x:Int} (h:isC x=true):0≤x∧x≤1114111:=by
 simp only[isC,Bool.and_eq_true,decide_eq_true_eq]at h;omega
def encN (x:Int):Nat:=(if isC x then x else 65533).toNat
theorem encN_le (x:Int):encN x≤1114111:=by
 unfold encN;split
 · rename_i h
   have:=isC_range h;omega
 · decide
def encB (m:Nat):List UInt8 :=
 if m<128 then [UInt8.ofNat m] else
  if m<2048 then [UInt8.ofNat (192+m / 64),UInt8.ofNat (128+m % 64)] else
   if m<65536 then [UInt8.ofNat (224+m / 4096),UInt8.ofNat (128+m / 64 % 64),UInt8.ofNat (128+m % 64)] else
    [UInt8.ofNat (240+m / 262144),UInt8.ofNat (128+m / 4096 % 64),UInt8.ofNat (128+m / 64 % 64),UInt8.ofNat (128+m % 64)]
theorem enc1_eq (x:Int):enc1 x=encB (encN x):=rfl
theorem byteV {n:Nat} (h:n<256):Value.int .u8 ((UInt8.ofNat n).toNat:Int)=.int .u8 (n:Int):=by
 rw[UInt8.toNat_ofNat_of_lt' (by simpa using h:n<UInt8.size)]
theorem enc1_len (x:Int):1≤(enc1 x).length∧(enc1 x).length≤4:=by
 rw[enc1_eq];unfold encB
 (repeat' split)<;>simp
theorem encF_cons (x:Int) (l:List Int):encF (x::l)=enc1 x++encF l:=by simp[encF]
theorem encF_len:∀ l:List Int,(encF l).length≤4*l.length
 | []=>by simp[encF]
 | x::l=>by
   have h1:=encF_len l;have h2:=(enc1_len x).2;rw[encF_cons,List.length_append,List.length_cons];omega
set_option maxRecDepth 20000 in
set_option maxHeartbeats 8000000 in
theorem encode_any (l:List Int) (oa:Option Addr) (cap b o:Nat) (w:World) (hs:Sl w oa l.length cap b o 1 (runesV l)) (h32:∀ x∈l,I32 x) (hm:l.length≤1099511627776) :
  Calls Tryz.prog 147 #[.slice oa l.length cap] w fun e w'=>(∃ v,e=.returned v∧Rw w w' 5 1 v (encF l).length (bytesV (encF l))):=by
 obtain⟨X,hX⟩:∃ X,encF l=X:=⟨_,rfl⟩;rw[hX];have HS:=Lib.hid hs;have HX:=Lib.hid (show []++encF (l.drop 0)=X from hX);have H32:=Lib.hid h32;obtain⟨N,hN⟩:∃ N,l.length=N:=⟨_,rfl⟩;rw[hN]at hm ⊢;have HN:=Lib.hid hN;clear hs hX h32 hN
 go_enter Tryz.func147,Tryz.ntmps147
 go_wp2_with fail
 go_loopg [3,8] N (fun q s3 s8 wr=>∃ (i:Nat) (D:List UInt8) (v:Value),v=s3∧s8=.int .i64 i∧Hid (Rw w wr 5 1 v D.length (bytesV D))∧i≤N∧Hid (D++encF (l.drop i)=X)∧D.length≤4*i∧N-i≤q)
 case atStart=>exact⟨0,[],_,rfl,rfl,Lib.hid (Rw.start _ _ _),Nat.zero_le _,HX,Nat.le_refl _,by omega⟩
 case round =>
  obtain⟨i,D,v,rfl,rfl,hR,hiN,hD,hDi,hq⟩:=hrel
  by_cases hi:i<N
  · have gi:decide ((i:Int)<(N:Int))=true:=by simpa using hi
    have gin:decide (i<N)=true:=by simpa using hi
    have hil:i<l.length:=by rw[HN.out];exact hi
    have hsl:=HS.out.below hR.out.below;rw[HN.out]at hsl;obtain⟨rfl,hyb⟩:=hsl.lies (by omega);have hcell:=hsl.cell i _ (runesV_at hil);have hD2:=hD.out;rw[List.drop_eq_getElem_cons hil,encF_cons]at hD2;have hx32:=H32.out _ (List.getElem_mem hil);obtain⟨x,hx⟩:∃ x,l[i]=x:=⟨_,rfl⟩;rw[hx]at hcell hD2 hx32
    have his:=fun w=>isC_any x w
    unfold I32 at hx32;clear hsl hx hD HX;obtain⟨m,hm2⟩:∃ m,encN x=m:=⟨_,rfl⟩;have hml:=encN_le x;rw[enc1_eq,hm2]at hD2;rw[hm2]at hml
    have hxm:isC x=true∧x=(m:Int)∨isC x=false∧m=65533:=by
     rw[← hm2];unfold encN
     cases h:isC x with
     | true =>
       have:=isC_range h;exact Or.inl ⟨rfl,by simp;omega⟩
     | false=>exact Or.inr ⟨rfl,rfl⟩
    have HD:=Lib.hid hD2;clear hD2 hm2
    rcases hxm with ⟨hc,rfl⟩ | ⟨hc,rfl⟩
    · rw[hc]at his;have HI:=Lib.hid his;clear his hx32
      by_cases h1:m<128
      · have g1:decide ((m:Int)<(128:Int))=true:=by simp;omega
        have HE:=Lib.hid (show bytesV (encB m)=[.int .u8 (m:Int)]∧(encB m).length=1 by unfold encB;rw[if_pos h1];exact⟨by simp only[bytesV,List.map_cons,List.map_nil];rw[byteV (by omega)],rfl⟩);go_wp2_with fail;go_wp2_with fail
        ((with_reducible refine(HI.out _).mono ?_);rintro e w' ⟨rfl,rfl⟩)
        go_wp2_with (at_builtin;refine wpList_push elByte rfl _ _ rfl rfl hR.out 1 1 #[_] _ rfl rfl (by simp[Value.oneCell']) (by omega) (by omega) (by omega) ?_;intro g2 cap2 w2 hR2 hg2;have HR2:=Lib.hid hR2;clear hR2 hg2)
        go_roundg (N-(i+1))
        case measure=>omega
        case rel=>exact⟨i+1,D++encB m,_,rfl,by go_num,Lib.hid (by have:=HR2.out;obtain⟨e1,e2⟩:=HE.out;rw[List.length_append,e2];unfold bytesV at *;rw[List.map_append,e1];exact this),hi,Lib.hid (by rw[List.append_assoc];exact HD.out),by rw[List.length_append,HE.out.2];omega,Nat.le_refl _⟩
      · have g1:decide ((m:Int)<(128:Int))=false:=by simp;omega
        obtain⟨q,hq0⟩:∃ q,m / 64=q:=⟨_,rfl⟩;obtain⟨r,hr0⟩:∃ r,m % 64=r:=⟨_,rfl⟩
        have iq:(m:Int) / 64=(q:Int):=by omega
        have e1:bits .and .i32 (m:Int) 63=(r:Int):=by rw[i32_mask6 m (by omega),hr0]
        have e2:bits .or .i32 128 (r:Int)=((128+r:Nat):Int):=i32_or128 r (by omega)
        have hr64:r<64:=by omega
        by_cases h2:m<2048
        · have g2:decide ((m:Int)<(2048:Int))=true:=by simp;omega
          have e3:bits .or .i32 192 (q:Int)=((192+q:Nat):Int):=i32_or192 q (by omega)
          have hq32:q<32:=by omega
          have HE:=Lib.hid (show bytesV (encB m)=[.int .u8 ((192+q:Nat):Int),.int .u8 ((128+r:Nat):Int)]∧(encB m).length=2 by
           unfold encB;rw[if_neg h1,if_pos h2,hq0,hr0];exact⟨by simp only[bytesV,List.map_cons,List.map_nil];rw[byteV (by omega),byteV (by omega)],rfl⟩)
          clear hq0 hr0;go_wp2_with fail;go_wp2_with fail
          ((with_reducible refine(HI.out _).mono ?_);rintro e w' ⟨rfl,rfl⟩)
          go_wp2_with (at_builtin;refine wpList_push elByte rfl _ _ rfl rfl hR.out 2 2 #[_,_] _ rfl rfl (by simp[Value.oneCell']) (by omega) (by omega) (by omega) ?_;intro g2 cap2 w2 hR2 hg2;have HR2:=Lib.hid hR2;clear hR2 hg2)
          go_roundg (N-(i+1))
          case measure=>omega
          case rel=>exact⟨i+1,D++encB m,_,rfl,by go_num,Lib.hid (by have:=HR2.out;obtain⟨e1,e2⟩:=HE.out;rw[List.length_append,e2];unfold bytesV at *;rw[List.map_append,e1];exact this),hi,Lib.hid (by rw[List.append_assoc];exact HD.out),by rw[List.length_append,HE.out.2];omega,Nat.le_refl _⟩
        · have g2:decide ((m:Int)<(2048:Int))=false:=by simp;omega
          obtain⟨t,ht0⟩:∃ t,q % 64=t:=⟨_,rfl⟩
          have e4:bits .and .i32 (q:Int) 63=(t:Int):=by rw[i32_mask6 q (by omega),ht0]
          have e5:bits .or .i32 128 (t:Int)=((128+t:Nat):Int):=i32_or128 t (by omega)
          have ht64:t<64:=by omega
          obtain⟨s,hs0⟩:∃ s,m / 4096=s:=⟨_,rfl⟩
          have is:(m:Int) / 4096=(s:Int):=by omega
          by_cases h3:m<65536
          · have g3:decide ((m:Int)<(65536:Int))=true:=by simp;omega
            have e6:bits .or .i32 224 (s:Int)=((224+s:Nat):Int):=i32_or224 s (by omega)
            have hs16:s<16:=by omega
            have HE:=Lib.hid (show bytesV (encB m)=[.int .u8 ((224+s:Nat):Int),.int .u8 ((128+t:Nat):Int),.int .u8 ((128+r:Nat):Int)]∧(encB m).length=3 by
             unfold encB;rw[if_neg h1,if_neg h2,if_pos h3,hq0,hr0,ht0,hs0];exact⟨by simp only[bytesV,List.map_cons,List.map_nil];rw[byteV (by omega),byteV (by omega),byteV (by omega)],rfl⟩)
            clear hq0 hr0 ht0 hs0;go_wp2_with fail;go_wp2_with fail
            ((with_reducible refine(HI.out _).mono ?_);rintro e w' ⟨rfl,rfl⟩)
            go_wp2_with (at_builtin;refine wpList_push elByte rfl _ _ rfl rfl hR.out 3 3 #[_,_,_] _ rfl rfl (by simp[Value.oneCell']) (by omega) (by omega) (by omega) ?_;intro g2 cap2 w2 hR2 hg2;have HR2:=Lib.hid hR2;clear hR2 hg2)
            go_roundg (N-(i+1))
            case measure=>omega
            case rel=>exact⟨i+1,D++encB m,_,rfl,by go_num,Lib.hid (by have:=HR2.out;obtain⟨e1,e2⟩:=HE.out;rw[List.length_append,e2];unfold bytesV at *;rw[List.map_append,e1];exact this),hi,Lib.hid (by rw[List.append_assoc];exact HD.out),by rw[List.length_append,HE.out.2];omega,Nat.le_refl _⟩
          · have g3:decide ((m:Int)<(65536:Int))=false:=by simp;omega
            obtain⟨p,hp0⟩:∃ p,s % 64=p:=⟨_,rfl⟩;obtain⟨y,hy0⟩:∃ y,m / 262144=y:=⟨_,rfl⟩
            have iy:(m:Int) / 262144=(y:Int):=by omega
            have e6:bits .and .i32 (s:Int) 63=(p:Int):=by rw[i32_mask6 s (by omega),hp0]
            have e7:bits .or .i32 128 (p:Int)=((128+p:Nat):Int):=i32_or128 p (by omega);have e8:bits .or .i32 240 (y:Int)=((240+y:Nat):Int):=i32_or240 y (by omega)
            have hp64:p<64:=by omega
            have hy5:y<5:=by omega
            have HE:=Lib.hid (show bytesV (encB m)=[.int .u8 ((240+y:Nat):Int),.int .u8 ((128+p:Nat):Int),.int .u8 ((128+t:Nat):Int),.int .u8 ((128+r:Nat):Int)]∧(encB m).length=4 by
             unfold encB;rw[if_neg h1,if_neg h2,if_neg h3,hq0,hr0,ht0,hs0,hp0,hy0];exact⟨by simp only[bytesV,List.map_cons,List.map_nil];rw[byteV (by omega),byteV (by omega),byteV (by omega),byteV (by omega)],rfl⟩)
            clear hq0 hr0 ht0 hs0 hp0 hy0;go_wp2_with fail;go_wp2_with fail
            ((with_reducible refine(HI.out _).mono ?_);rintro e w' ⟨rfl,rfl⟩)
            go_wp2_with (at_builtin;refine wpList_push elByte rfl _ _ rfl rfl hR.out 4 4 #[_,_,_,_] _ rfl rfl (by simp[Value.oneCell']) (by omega) (by omega) (by omega) ?_;intro g2 cap2 w2 hR2 hg2;have HR2:=Lib.hid hR2;clear hR2 hg2)
            go_roundg (N-(i+1))
            case measure=>omega
            case rel=>exact⟨i+1,D++encB m,_,rfl,by go_num,Lib.hid (by have:=HR2.out;obtain⟨e1,e2⟩:=HE.out;rw[List.length_append,e2];unfold bytesV at *;rw[List.map_append,e1];exact this),hi,Lib.hid (by rw[List.append_assoc];exact HD.out),by rw[List.length_append,HE.out.2];omega,Nat.le_refl _⟩
    · rw[hc]at his;have HI:=Lib.hid his;clear his hx32 hml
      have e1:bits .or .i32 224 15=239:=by decide
      have e2:bits .and .i32 1023 63=63:=by decide
      have e3:bits .or .i32 128 63=191:=by decide
      have e4:bits .and .i32 65533 63=61:=by decide
      have e5:bits .or .i32 128 61=189:=by decide
      have HE:=Lib.hid (show bytesV (encB 65533)=[.int .u8 239,.int .u8 191,.int .u8 189]∧(encB 65533).length=3 from ⟨rfl,rfl⟩);go_wp2_with fail;go_wp2_with fail
      ((with_reducible refine(HI.out _).mono ?_);rintro e w' ⟨rfl,rfl⟩)
      go_wp2_with (at_builtin;refine wpList_push elByte rfl _ _ rfl rfl hR.out 3 3 #[_,_,_] _ rfl rfl (by simp[Value.oneCell']) (by omega) (by omega) (by omega) ?_;intro g2 cap2 w2 hR2 hg2;have HR2:=Lib.hid hR2;clear hR2 hg2)
      go_roundg (N-(i+1))
      case measure=>omega
      case rel=>exact⟨i+1,D++encB 65533,_,rfl,by go_num,Lib.hid (by have:=HR2.out;obtain⟨e1,e2⟩:=HE.out;rw[List.length_append,e2];unfold bytesV at *;rw[List.map_append,e1];exact this),hi,Lib.hid (by rw[List.append_assoc];exact HD.out),by rw[List.length_append,HE.out.2];omega,Nat.le_refl _⟩
  · obtain rfl:i=N:=by omega
    have gi:decide ((i:Int)<(i:Int))=false:=by simp
    have gin:decide (i<i)=false:=by simp
    have hD2:=hD.out;rw[List.drop_eq_nil_of_le (by rw[HN.out];exact Nat.le_refl _)]at hD2;rw[show encF []=[] from rfl,List.append_nil]at hD2;subst hD2;go_wp2_with fail;go_ret;exact⟨_,rfl,hR.out⟩
set_option maxHeartbeats 1000000 in
theorem text_of (l:List Int) (oa:Option Addr) (cap b o:Nat) (w:World) (hs:Sl w oa l.length cap b o 1 (runesV l)) (h32:∀ x∈l,I32 x) (hm:l.length≤1099511627776) :
  Calls Tryz.prog 110 #[.slice oa l.length cap] w fun e w'=>e=.returned (.string ⟨(encF l).toArray⟩)∧Below w.heap.size w w':=by
 have HE:=Lib.hid (encode_any l oa cap b o w hs h32 hm);clear hs h32
 go_enter Tryz.func110,Tryz.ntmps110
 go_wp2_with fail
 ((with_reducible refine HE.out.mono ?_);rintro e w' ⟨v,rfl,hR⟩)
 obtain⟨ya,yc,yb,rfl,hsl,_⟩:=hR.sl;have hcv:=conv_sl hsl;have hb:=hR.below;go_wp2_with fail;go_ret;exact⟨rfl,hb⟩
end Go.Proofs.YtnahlfaehelfjaaGreatDoor
