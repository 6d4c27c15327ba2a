/- Of my texts: DecR, DecD. -/
import Derived.Test.YtnahlfaehelfjaaGreatDoorM05
import Derived.Test.YtnahlfaehelfjaaGreatDoorM13
import Derived.Test.YtnahlfaehelfjaaGreatDoorM15
import Derived.Deep.CutBlock
import Derived.Deep.DeepCutAuto
namespace Go.Proofs.YtnahlfaehelfjaaGreatDoor
set_option linter.unusedVariables false
set_option linter.unusedSimpArgs false
open Go.RowKit Go.Lib
set_option maxRecDepth 20000 in
set_option maxHeartbeats 2000000 in
theorem run_any (l:List UInt8) (i0:Nat) (w:World) (hl:l.length≤9223372036854775807) (h0:i0≤l.length) :
  Calls Tryz.prog 166 #[.string ⟨l.toArray⟩,.int .i64 i0] w fun e w'=>e=.returned (.int .i64 ((i0+((l.drop i0).takeWhile isD).length:Nat):Int))∧Below w.heap.size w w':=by
 obtain⟨n,hn⟩:∃ x,i0+((l.drop i0).takeWhile isD).length=x:=⟨_,rfl⟩;rw[hn]
 go_enter Tryz.func166,Tryz.ntmps166
 go_wp2_with fail
 go_loopg [1] l.length (fun k s wr=>∃ (i:Nat),s=.int .i64 i∧Below w.heap.size w wr∧i≤l.length∧Hid (i+((l.drop i).takeWhile isD).length=n)∧l.length-i≤k)
 case atStart=>exact⟨i0,rfl,Below.refl _ _,h0,Lib.hid hn,by omega⟩
 case round =>
  clear hn;obtain⟨i,rfl,hb,hle,hlaw,hk⟩:=hrel
  by_cases hi:i<l.length
  · have gi:decide ((i:Int)<l.length)=true:=by simpa using hi
    have hst:=take_step hi;have hlw:=hlaw.out;rw[hst]at hlw;have HD:=Lib.hid (fun w=>digit_any (l[i]'hi) w);clear hst hlaw;generalize hc:l[i]=c at *;obtain⟨D,hD⟩:∃ x,isD c=x:=⟨_,rfl⟩;rw[hD]at hlw HD;have hbd:=UInt8.toNat_lt c
    cases D with
    | false =>
      have HL:=Lib.hid (show n=i by rw[← hlw];simp);clear hlw hD;go_wp2_with fail
      ((with_reducible refine(HD.out _).mono ?_);rintro e w' ⟨rfl,rfl⟩)
      go_wp2_with fail;go_ret;exact⟨ret_int (by rw[HL.out]),hb⟩
    | true =>
      have HL:=Lib.hid (show (i+1)+((l.drop (i+1)).takeWhile isD).length=n by rw[← hlw];simp;omega);clear hlw hD;go_wp2_with fail
      ((with_reducible refine(HD.out _).mono ?_);rintro e w' ⟨rfl,rfl⟩)
      go_wp2_with fail
      go_roundg (l.length-(i+1))
      case measure=>omega
      case rel=>exact⟨i+1,by go_num,hb,hi,HL,by omega⟩
  · obtain rfl:i=l.length:=by omega
    have hlw:=hlaw.out;rw[List.drop_length]at hlw;have HL:=Lib.hid (show n=l.length by rw[← hlw];rfl);clear hlw hlaw;go_wp2_with fail;go_ret;exact⟨ret_int (by rw[HL.out]),hb⟩
theorem ext_mid (l:List UInt8) (i j:Nat):(⟨l.toArray⟩:ByteArray).extract i j=⟨((l.take j).drop i).toArray⟩:=by
 rw[ByteArray.extract_mk];simp[List.drop_take]
theorem two_le {d t x:Nat} (h:d*2 ^ t=2 ^ x) (hx:x≤62):1≤d∧d≤4611686018427387904:=by
 have h1:(2:Nat) ^ x≤2 ^ 62:=Nat.pow_le_pow_right (by decide) hx
 have h2:(2:Nat) ^ 62=4611686018427387904:=by decide
 have h3:d≤d*2 ^ t:=Nat.le_mul_of_pos_right _ (Nat.two_pow_pos t);have h4:0<(2:Nat) ^ x:=Nat.two_pow_pos x;refine⟨?_,by omega⟩
 rcases Nat.eq_zero_or_pos d with h5 | h5
 · rw[h5,Nat.zero_mul]at h;omega
 · exact h5
theorem two_step {d t x:Nat} (h:d*2 ^ (t+1)=2 ^ x):d*2*2 ^ t=2 ^ x:=by
 rw[← h,Nat.pow_succ,Nat.mul_comm (2 ^ t) 2,Nat.mul_assoc]
theorem strip_off {b k n:Nat} (h:n % b=0):stripF b (k+1) n=stripF b k (n / b):=by rw[stripF,if_pos h]
theorem strip_stop {b k n:Nat} (h:n % b≠0):stripF b (k+1) n=(n,k+1):=by rw[stripF,if_neg h]
theorem up_stop {b k d:Nat} (h:9223372036854775807 / b<d):upF b (k+1) d=none:=by rw[upF,if_pos h]
theorem up_step {b k d:Nat} (h:¬ 9223372036854775807 / b<d):upF b (k+1) d=upF b k (d*b):=by rw[upF,if_neg h]
set_option maxRecDepth 20000 in
set_option maxHeartbeats 8000000 in
theorem value_any (neg:Bool) (ds:List UInt8) (p:Int) (w:World) (hall:ds.all isD=true) (hl:ds.length≤17179869184) (hp1:-2199023255552≤p) (hp2:p≤2199023255552) :
  Calls Tryz.prog 168 #[.bool neg,.string ⟨ds.toArray⟩,.int .i64 p] w fun e w'=>e=.returned (rv (valueF neg ds p))∧Below w.heap.size w w':=by
 obtain⟨S,hS⟩:∃ x,valueF neg ds p=x:=⟨_,rfl⟩;rw[hS];obtain⟨d,hd⟩:∃ x,ds.dropWhile (·==48)=x:=⟨_,rfl⟩;have HS:=Lib.hid hS;have HDW:=Lib.hid hd;have HALL:=Lib.hid hall
 go_enter Tryz.func168,Tryz.ntmps168
 go_upto_region 1 with fail
 have hr:Blk (w.alloc (.cells #[.int .i64 0,.int .i64 0] 28)) w.heap.size 28 #[.int .i64 0,.int .i64 0]:=Blk.new _ _ _;have hb:Below w.heap.size w (w.alloc (.cells #[.int .i64 0,.int .i64 0] 28)):=below_box _ _;generalize w.alloc _=wa at *;go_wp2_with fail
 go_loopg [7] ds.length (fun k s7 wr=>∃ (i:Nat),s7=.int .i64 i∧wr=wa∧i≤ds.length∧Hid ((ds.drop i).dropWhile (·==48)=d)∧ds.length-i≤k)
 case atStart=>exact⟨0,rfl,rfl,Nat.zero_le _,HDW,by omega⟩
 case round =>
  clear hall hS hd;obtain⟨i,rfl,rfl,hle,hlaw,hk⟩:=hrel
  by_cases hi:i<ds.length
  · have gi:decide ((i:Int)<ds.length)=true:=by simpa using hi
    have hst:=fun h=>lead_step (l:=ds) hi h
    have hsp:=fun h=>lead_stop (l:=ds) hi h
    generalize hc:ds[i]=c at *
    by_cases h48:c=48
    · have HL:=Lib.hid ((hst h48).trans hlaw.out);subst h48;clear hst hsp;go_wp2_with fail
      go_roundg (ds.length-(i+1))
      case measure=>omega
      case rel=>exact⟨i+1,by go_num,rfl,hi,HL,by omega⟩
    · have gc:((c.toNat:Int)==48)=false:=by
       rw[beq_eq_false_iff_ne];intro e;exact h48 (by rw[← UInt8.toNat_inj];show c.toNat=48;omega)
      have HD:=Lib.hid ((hsp h48).symm.trans hlaw.out);clear hst hsp
      have hdne:d≠[]:=by
       rw[← HD.out];intro e;have:=congrArg List.length e;rw[List.length_drop,List.length_nil]at this;omega
      have HNE:=Lib.hid hdne;have HCI:=Lib.hid (show ∀ h:i<ds.length,ds[i]'h≠48 from fun h=>by rw[hc];exact h48);clear hdne hlaw hk
      have gne:((i:Int)==(ds.length:Int))=false:=by rw[beq_eq_false_iff_ne];omega
      go_wp2_with fail;clear hc h48 gc gi;obtain⟨core,hcore⟩:∃ x,trimR d=x:=⟨_,rfl⟩;have HCO:=Lib.hid hcore;clear hcore
      go_loopg [2,8] ds.length (fun k s2 s8 wx=>∃ (b:Nat) (e:Int),s2=.int .i64 e∧s8=.int .i64 ((b:Int)+1)∧wx=wr∧i≤b∧b<ds.length∧e=p+((ds.length-1-b:Nat):Int)∧Hid (trimR ((ds.take (b+1)).drop i)=core)∧b≤k)
      case atStart=>exact⟨ds.length-1,p,rfl,congrArg (Value.int .i64) (by omega),rfl,by omega,by omega,by rw[Nat.sub_self];simp,Lib.hid (by rw[show ds.length-1+1=ds.length by omega,List.take_length,HD.out];exact HCO.out),by omega⟩
      case round =>
       obtain⟨b,e,rfl,rfl,rfl,hib,hbl,he,hlaw,hk⟩:=hrel
       have hst:=fun h=>trail_step (l:=ds) (i:=i) hbl hib h
       have hsp:=fun h=>trail_stop (l:=ds) (i:=i) hbl hib h
       have hbi:b=i→ds[b]≠48:=fun h=>by subst h;exact HCI.out hbl
       generalize hc:ds[b]=c at *
       by_cases h48:c=48
       · have hlt:i<b:=Nat.lt_of_le_of_ne hib (fun h=>hbi h.symm h48);obtain⟨b2,rfl⟩:∃ x,b=x+1:=⟨b-1,by omega⟩;have HL:=Lib.hid ((hst h48).trans hlaw.out);subst h48;clear hst hsp hbi hlaw;go_wp2_with fail
         go_roundg b2
         case measure=>omega
         case rel=>exact⟨b2,e+1,by go_num,by go_num,rfl,by omega,by omega,by omega,HL,by omega⟩
       · have gc:((c.toNat:Int)==48)=false:=by
          rw[beq_eq_false_iff_ne];intro e;exact h48 (by rw[← UInt8.toNat_inj];show c.toNat=48;omega)
         have HC:=Lib.hid ((hsp h48).symm.trans hlaw.out);clear hst hsp hbi hlaw hk;obtain⟨n,hn⟩:∃ n,b+1=i+n:=⟨b+1-i,by omega⟩
         have hcl:core.length=n:=by
          rw[← HC.out,List.length_drop,List.length_take];omega
         have gs:((b:Int)+1)-(i:Int)=(n:Int):=by omega
         by_cases h18:18<n
         · have HF:=Lib.hid (show S=(0,0) by rw[← HS.out];exact value_long HDW.out HNE.out (by rw[HCO.out,hcl];exact h18));go_wp2_with fail
           ((with_reducible refine(over_any _).mono ?_);rintro e w' ⟨rfl,hbw⟩)
           obtain⟨m1,rfl⟩:=grow_mk hbw;clear hbw;replace hb:=below_grow hb m1;replace hr:=hr.grow m1;generalize grow wr m1=wr at *;have cr0:wr.cell? ⟨w.heap.size,0,none⟩=some (.int .i64 0):=(hr).cell 0;have fcr0:=(hr).frozen 0;have cr1:wr.cell? ⟨w.heap.size,1,none⟩=some (.int .i64 0):=(hr).cell 1;have fcr1:=(hr).frozen 1;have lcr:=(hr).lt;go_wp2_with fail;exact bodyPost_ret (v:=.agg #[.int .i64 0,.int .i64 0]) (by simp[results,Tryz.results168,go_sem,cr0,cr1,lcr]) rfl ⟨(by rw[HF.out]),(by repeat (first|with_reducible exact hb | (with_reducible refine Below.setCell ?_ ?hq _;case hq=>first | (simp;done) | (simp;omega))))⟩
         · have hS2:scaleF neg (valD core) e=S:=by
            rw[← HS.out,value_short HDW.out HNE.out (by rw[HCO.out,hcl];exact h18),HCO.out,he,hcl]
            congr 2
            rw[← HD.out,List.length_drop];omega
           have hval:=core_val HALL.out (by rw[HDW.out];exact HNE.out) (by rw[HDW.out,HCO.out,hcl];omega);rw[HDW.out,HCO.out]at hval
           have hca:core.all isD=true:=by rw[← HCO.out,← HDW.out];exact trim_all (drop_all HALL.out)
           obtain⟨cap,w1,hrun,hb1,hlt1,hcells⟩:=bytes_conv core wr;rw[hcl]at hrun
           have hex:(⟨ds.toArray⟩:ByteArray).extract i (b+1)=⟨core.toArray⟩:=by rw[ext_mid,HC.out]
           have HCA:=Lib.hid hca;have HCE:=Lib.hid hcells;have HS2:=Lib.hid hS2;have HV:=Lib.hid hval;have HCL:=Lib.hid hcl
           have hn18:n≤18:=by omega
           have hp1:-2199023255552≤e:=by omega
           have hp2:e≤2216203124736:=by omega
           clear hca hcells hS2 hval hcl HS HC HDW HD hn;go_wp2_with fail;obtain⟨ex1,e2⟩:=grow_mk hb1;subst e2;replace hb:=below_grow hb ex1;replace hr:=hr.grow ex1;clear hb1;generalize grow wr ex1=w1 at *;generalize wr.heap.size=B at *
           go_loopg [52,9] n (fun k s52 s9 wx=>∃ (j:Nat),s52=.int .i64 j∧s9=.int .u64 (valD (core.take j))∧wx=w1∧j≤n∧n-j≤k)
           case atStart=>exact⟨0,rfl,rfl,rfl,Nat.zero_le _,by omega⟩
           case round =>
            obtain⟨j,rfl,rfl,rfl,hjn,hk⟩:=hrel
            by_cases hj:j<n
            · have gj:decide ((j:Int)<n)=true:=by simpa using hj
              have hjl:j<core.length:=by rw[HCL.out];exact hj
              have hr0:core[j]?=some (core[j]'hjl):=List.getElem?_eq_getElem hjl
              have hst:valD (core.take (j+1))=valD (core.take j)*10+((core[j]'hjl).toNat-48):=by
               rw[List.take_add_one,hr0];exact valD_snoc _ _
              have hcc:=HCE.out j _ hr0;have hdg:isD (core[j]'hjl)=true:=List.all_eq_true.1 HCA.out _ (List.getElem_mem _)
              have hv:valD (core.take j)<10 ^ 18:=by
               have h1:=val_lt (core.take j) (by rw[List.all_eq_true];exact fun x hx=>List.all_eq_true.1 HCA.out x (List.mem_of_mem_take hx));rw[List.length_take,Nat.min_eq_left (by omega)]at h1;exact Nat.lt_of_lt_of_le h1 (Nat.pow_le_pow_right (by decide) (by omega))
              have hv2:valD (core.take j)<1000000000000000000:=hv;generalize core[j]'hjl=c9 at *;simp only[isD,Bool.and_eq_true,decide_eq_true_eq]at hdg;obtain⟨c1,c2⟩:=hdg;have HST:=Lib.hid hst;clear hst hr0 hv hrun hex;generalize valD (core.take j)=v at *;generalize c9.toNat=d9 at *;go_wp2_with fail
              go_roundg (n-(j+1))
              case measure=>omega
              case rel=>exact⟨j+1,by go_num,congrArg (Value.int .u64) (by rw[HST.out];omega),rfl,hj,by omega⟩
            · obtain rfl:j=n:=by omega
              rw[show core.take j=core from List.take_of_length_le (by rw[HCL.out];exact Nat.le_refl _)];obtain⟨v1,v2⟩:=HV.out;generalize valD core=v at *;clear HCE hrun hex HV hk hj hjn;go_wp2_with fail
              go_loopg [2,9] e.toNat (fun k s2 s9 wx=>∃ (n9:Nat) (e9:Int),s2=.int .i64 e9∧s9=.int .u64 n9∧wx=wr∧Hid (scaleF neg n9 e9=S)∧1≤n9∧n9≤9223372036854775807∧-2199023255552≤e9∧e9≤2216203124736∧e9.toNat≤k)
              case atStart=>exact⟨v,e,rfl,rfl,rfl,HS2,v1,by omega,hp1,hp2,by omega⟩
              case round =>
               obtain⟨n9,e9,rfl,rfl,rfl,hx,x1,x2,x3,x4,hk⟩:=hrel
               by_cases h0:0<e9
               · have gi:decide ((0:Int)<e9)=true:=by simpa using h0
                 by_cases hn:922337203685477580<n9
                 · have HF:=Lib.hid (show S=(0,0) by rw[← hx.out];exact scale_stop h0 hn)
                   have gn:decide ((922337203685477580:Int)<(n9:Int))=true:=by simp;omega
                   go_wp2_with fail
                   ((with_reducible refine(over_any _).mono ?_);rintro e w' ⟨rfl,hbw⟩)
                   obtain⟨m1,rfl⟩:=grow_mk hbw;clear hbw;replace hb:=below_grow hb m1;replace hr:=hr.grow m1;generalize grow wr m1=wr at *;have cr0:wr.cell? ⟨w.heap.size,0,none⟩=some (.int .i64 0):=(hr).cell 0;have fcr0:=(hr).frozen 0;have cr1:wr.cell? ⟨w.heap.size,1,none⟩=some (.int .i64 0):=(hr).cell 1;have fcr1:=(hr).frozen 1;have lcr:=(hr).lt;go_wp2_with fail;exact bodyPost_ret (v:=.agg #[.int .i64 0,.int .i64 0]) (by simp[results,Tryz.results168,go_sem,cr0,cr1,lcr]) rfl ⟨(by rw[HF.out]),(by repeat (first|with_reducible exact hb | (with_reducible refine Below.setCell ?_ ?hq _;case hq=>first | (simp;done) | (simp;omega))))⟩
                 · have gn:decide ((922337203685477580:Int)<(n9:Int))=false:=by simp;omega
                   go_wp2_with fail
                   go_roundg (e9-1).toNat
                   case measure=>omega
                   case rel=>exact⟨n9*10,e9-1,rfl,by go_num,rfl,Lib.hid (by rw[← scale_step h0 (by omega)];exact hx.out),by omega,by omega,by omega,by omega,by omega⟩
               · obtain⟨T,rfl⟩:∃ T:Nat,e9=-(T:Int):=⟨(-e9).toNat,by omega⟩
                 have gi:decide ((0:Int) < -(T:Int))=false:=by rw[decide_eq_false_iff_not];omega
                 obtain⟨x,hX⟩:∃ x,stripF 2 T n9=x:=⟨_,rfl⟩;obtain⟨y,hY⟩:∃ y,stripF 5 T x.1=y:=⟨_,rfl⟩;have hsr:=scale_ref (neg:=neg) (n:=n9) (e:=-(T:Int)) (x:=x) (y:=y) (by omega) (by rw[← hX,Int.neg_neg];rfl) (by rw[← hY,Int.neg_neg];rfl);have hx1:=strip_pow 2 (by decide) T n9 x1;rw[hX]at hx1;have hy1:=strip_pow 5 (by decide) T x.1 hx1.2.1;rw[hY]at hy1;have hx2:=strip_le 2 T n9;rw[hX]at hx2;have hy2:=strip_le 5 T x.1;rw[hY]at hy2;obtain⟨xa,xb⟩:=x;obtain⟨ya,yb⟩:=y;simp only at hsr hx1 hx2 hy1 hy2 hX hY;rw[hx.out]at hsr;have HSR:=Lib.hid hsr;have HX:=Lib.hid hX;have HY:=Lib.hid hY;obtain⟨_,xa1,xa2⟩:=hx1;obtain⟨_,ya1,ya2⟩:=hy1;clear hsr hX hY hx
                 go_upto_block 8 with fail
                 go_cut [9,13] (fun s9 s13 wx=>s9=.int .u64 xa∧s13=.int .i64 xb∧wx=wr)
                 case first =>
                  go_wp2_with fail
                  go_loopg [9,13] T (fun k s9 st wx=>∃ (m t:Nat),s9=.int .u64 m∧st=.int .i64 t∧wx=wr∧Hid (stripF 2 t m=(xa,xb))∧m≤9223372036854775807∧t≤T∧t≤k)
                  case atStart=>exact⟨n9,T,rfl,rfl,rfl,HX,by omega,by omega,by omega⟩
                  case round =>
                   obtain⟨m,t,rfl,rfl,rfl,hx,m2,t2,hk⟩:=hrel
                   cases t with
                   | zero =>
                     have hx0:=hx.out;obtain⟨rfl,rfl⟩:m=xa∧0=xb:=Prod.mk.inj hx0;go_wp2_with fail;go_meet
                     case rel=>exact⟨rfl,rfl,rfl⟩
                   | succ t =>
                     have gt:decide ((0:Int)<(t:Int)+1)=true:=by rw[decide_eq_true_eq];omega
                     obtain⟨q,hq⟩:∃ q,m % 2=q:=⟨_,rfl⟩
                     have iq:(m:Int) % 2=(q:Int):=by omega
                     have q1:q≤9223372036854775807:=by omega
                     by_cases h0:q=0
                     · have hx2:=Lib.hid ((strip_off (k:=t) (hq.trans h0)).symm.trans hx.out)
                       have gq:((q:Int)==0)=true:=by simpa using h0
                       obtain⟨u,hu⟩:∃ u,m / 2=u:=⟨_,rfl⟩
                       have iu:(m:Int) / 2=(u:Int):=by omega
                       have u1:u≤9223372036854775807:=by omega
                       rw[hu]at hx2;clear hq h0 hx hu;go_wp2_with fail
                       go_roundg t
                       case measure=>omega
                       case rel=>exact⟨u,t,rfl,by go_num,rfl,hx2,u1,by omega,by omega⟩
                     · have gq:((q:Int)==0)=false:=by simpa using h0
                       have hx0:=(strip_stop (k:=t) (fun h=>h0 (hq.symm.trans h))).symm.trans hx.out;obtain⟨rfl,rfl⟩:=Prod.mk.inj hx0;clear hq h0 hx;go_wp2_with fail;go_meet
                       case rel=>exact⟨rfl,rfl,rfl⟩
                 case rest =>
                  obtain⟨rfl,rfl,e2⟩:=hcut;subst e2
                  go_upto_block 10 with fail
                  go_cut [9,14] (fun s9 s14 wx=>s9=.int .u64 ya∧s14=.int .i64 yb∧wx=wc)
                  case first =>
                   go_wp2_with fail
                   go_loopg [9,14] T (fun k s9 st wx=>∃ (m t:Nat),s9=.int .u64 m∧st=.int .i64 t∧wx=wc∧Hid (stripF 5 t m=(ya,yb))∧m≤9223372036854775807∧t≤T∧t≤k)
                   case atStart=>exact⟨xa,T,rfl,rfl,rfl,HY,by omega,by omega,by omega⟩
                   case round =>
                    obtain⟨m,t,rfl,rfl,rfl,hx,m2,t2,hk⟩:=hrel
                    cases t with
                    | zero =>
                      have hx0:=hx.out;obtain⟨rfl,rfl⟩:m=ya∧0=yb:=Prod.mk.inj hx0;go_wp2_with fail;go_meet
                      case rel=>exact⟨rfl,rfl,rfl⟩
                    | succ t =>
                      have gt:decide ((0:Int)<(t:Int)+1)=true:=by rw[decide_eq_true_eq];omega
                      obtain⟨q,hq⟩:∃ q,m % 5=q:=⟨_,rfl⟩
                      have iq:(m:Int) % 5=(q:Int):=by omega
                      have q1:q≤9223372036854775807:=by omega
                      by_cases h0:q=0
                      · have hx2:=Lib.hid ((strip_off (k:=t) (hq.trans h0)).symm.trans hx.out)
                        have gq:((q:Int)==0)=true:=by simpa using h0
                        obtain⟨u,hu⟩:∃ u,m / 5=u:=⟨_,rfl⟩
                        have iu:(m:Int) / 5=(u:Int):=by omega
                        have u1:u≤9223372036854775807:=by omega
                        rw[hu]at hx2;clear hq h0 hx hu;go_wp2_with fail
                        go_roundg t
                        case measure=>omega
                        case rel=>exact⟨u,t,rfl,by go_num,rfl,hx2,u1,by omega,by omega⟩
                      · have gq:((q:Int)==0)=false:=by simpa using h0
                        have hx0:=(strip_stop (k:=t) (fun h=>h0 (hq.symm.trans h))).symm.trans hx.out;obtain⟨rfl,rfl⟩:=Prod.mk.inj hx0;clear hq h0 hx;go_wp2_with fail;go_meet
                        case rel=>exact⟨rfl,rfl,rfl⟩
                  case rest =>
                   obtain⟨rfl,rfl,e2⟩:=hcut;subst e2;clear HX HY;have hd0:(1:Nat)*2 ^ xb=2 ^ xb:=Nat.one_mul _
                   by_cases h62:62<xb
                   · have HF:=Lib.hid (show S=(0,0) by rw[HSR.out,if_pos (Or.inl h62)])
                     have g62:decide ((62:Int)<xb)=true:=by rw[decide_eq_true_eq];omega
                     go_wp2_with fail
                     ((with_reducible refine(over_any _).mono ?_);rintro e w' ⟨rfl,hbw⟩)
                     obtain⟨m1,rfl⟩:=grow_mk hbw;clear hbw;replace hb:=below_grow hb m1;replace hr:=hr.grow m1;generalize grow wc m1=wc at *;have cr0:wc.cell? ⟨w.heap.size,0,none⟩=some (.int .i64 0):=(hr).cell 0;have fcr0:=(hr).frozen 0;have cr1:wc.cell? ⟨w.heap.size,1,none⟩=some (.int .i64 0):=(hr).cell 1;have fcr1:=(hr).frozen 1;have lcr:=(hr).lt;go_wp2_with fail;exact bodyPost_ret (v:=.agg #[.int .i64 0,.int .i64 0]) (by simp[results,Tryz.results168,go_sem,cr0,cr1,lcr]) rfl ⟨(by rw[HF.out]),(by repeat (first|with_reducible exact hb | (with_reducible refine Below.setCell ?_ ?hq _;case hq=>first | (simp;done) | (simp;omega))))⟩
                   · by_cases h27:27<yb
                     · have HF:=Lib.hid (show S=(0,0) by rw[HSR.out,if_pos (Or.inr h27)])
                       have g62:decide ((62:Int)<xb)=false:=by rw[decide_eq_false_iff_not];omega
                       have g27:decide ((27:Int)<yb)=true:=by rw[decide_eq_true_eq];omega
                       go_wp2_with fail
                       ((with_reducible refine(over_any _).mono ?_);rintro e w' ⟨rfl,hbw⟩)
                       obtain⟨m1,rfl⟩:=grow_mk hbw;clear hbw;replace hb:=below_grow hb m1;replace hr:=hr.grow m1;generalize grow wc m1=wc at *;have cr0:wc.cell? ⟨w.heap.size,0,none⟩=some (.int .i64 0):=(hr).cell 0;have fcr0:=(hr).frozen 0;have cr1:wc.cell? ⟨w.heap.size,1,none⟩=some (.int .i64 0):=(hr).cell 1;have fcr1:=(hr).frozen 1;have lcr:=(hr).lt;go_wp2_with fail;exact bodyPost_ret (v:=.agg #[.int .i64 0,.int .i64 0]) (by simp[results,Tryz.results168,go_sem,cr0,cr1,lcr]) rfl ⟨(by rw[HF.out]),(by repeat (first|with_reducible exact hb | (with_reducible refine Below.setCell ?_ ?hq _;case hq=>first | (simp;done) | (simp;omega))))⟩
                     · have g62:decide ((62:Int)<xb)=false:=by rw[decide_eq_false_iff_not];omega
                       have g27:decide ((27:Int)<yb)=false:=by rw[decide_eq_false_iff_not];omega
                       obtain⟨U,hU⟩:∃ x,upF 5 yb (2 ^ xb)=x:=⟨_,rfl⟩
                       have HSU:=Lib.hid (show S=downT neg (U.map fun d=>(ya,d)) by
                        rw[HSR.out,if_neg (by omega),hU]
                        cases U<;>rfl)
                       have HU:=Lib.hid hU;clear hU HSR;go_wp2_with fail
                       go_loopg [12,13] xb (fun k s12 s13 wx=>∃ (d t:Nat),s12=.int .u64 d∧s13=.int .i64 t∧wx=wc∧Hid (d*2 ^ t=2 ^ xb)∧t≤xb∧t≤k)
                       case atStart=>exact⟨1,xb,rfl,rfl,rfl,Lib.hid hd0,by omega,by omega⟩
                       case round =>
                        clear hd0;obtain⟨d,t,rfl,rfl,rfl,hd,t1,hk⟩:=hrel;obtain⟨d1,d2⟩:=two_le hd.out (by omega)
                        cases t with
                        | succ t =>
                          have gt:decide ((0:Int)<(t:Int)+1)=true:=by rw[decide_eq_true_eq];omega
                          have hd2:=Lib.hid (two_step hd.out);clear hd;go_wp2_with fail
                          go_roundg t
                          case measure=>omega
                          case rel=>exact⟨d*2,t,by go_num,by go_num,rfl,hd2,by omega,by omega⟩
                        | zero =>
                          have hd2:d=2 ^ xb:=by rw[← hd.out];simp
                          rw[← hd2]at HU;clear hd hd2;go_wp2_with fail
                          go_loopg [12,14] yb (fun k s12 s14 wx=>∃ (d t:Nat),s12=.int .u64 d∧s14=.int .i64 t∧wx=wr∧Hid (upF 5 t d=U)∧1≤d∧d≤9223372036854775807∧t≤yb∧t≤k)
                          case atStart=>exact⟨d,yb,rfl,rfl,rfl,HU,d1,by omega,by omega,by omega⟩
                          case round =>
                           clear HU d1 d2;obtain⟨d,t,rfl,rfl,rfl,hd,d1,d2,t1,hk⟩:=hrel
                           cases t with
                           | succ t =>
                             have gt:decide ((0:Int)<(t:Int)+1)=true:=by rw[decide_eq_true_eq];omega
                             by_cases hbig:1844674407370955161<d
                             · have gb:decide ((1844674407370955161:Int)<(d:Int))=true:=by rw[decide_eq_true_eq];omega
                               have HF:=Lib.hid (show S=(0,0) by
                                rw[HSU.out,← hd.out,up_stop (by omega)]
                                rfl)
                               go_wp2_with fail
                               ((with_reducible refine(over_any _).mono ?_);rintro e w' ⟨rfl,hbw⟩)
                               obtain⟨m1,rfl⟩:=grow_mk hbw;clear hbw;replace hb:=below_grow hb m1;replace hr:=hr.grow m1;generalize grow wr m1=wr at *;have cr0:wr.cell? ⟨w.heap.size,0,none⟩=some (.int .i64 0):=(hr).cell 0;have fcr0:=(hr).frozen 0;have cr1:wr.cell? ⟨w.heap.size,1,none⟩=some (.int .i64 0):=(hr).cell 1;have fcr1:=(hr).frozen 1;have lcr:=(hr).lt;go_wp2_with fail;exact bodyPost_ret (v:=.agg #[.int .i64 0,.int .i64 0]) (by simp[results,Tryz.results168,go_sem,cr0,cr1,lcr]) rfl ⟨(by rw[HF.out]),(by repeat (first|with_reducible exact hb | (with_reducible refine Below.setCell ?_ ?hq _;case hq=>first | (simp;done) | (simp;omega))))⟩
                             · have gb:decide ((1844674407370955161:Int)<(d:Int))=false:=by rw[decide_eq_false_iff_not];omega
                               have hd2:=Lib.hid ((up_step (b:=5) (k:=t) (d:=d) (by omega)).symm.trans hd.out);clear hd;go_wp2_with fail
                               go_roundg t
                               case measure=>omega
                               case rel=>exact⟨d*5,t,by go_num,by go_num,rfl,hd2,by omega,by omega,by omega,by omega⟩
                           | zero =>
                             have HF:=Lib.hid (show S=(if neg then -(ya:Int) else ya,(d:Int)) by rw[HSU.out,← hd.out];rfl);clear hd;have cr0:wr.cell? ⟨w.heap.size,0,none⟩=some (.int .i64 0):=(hr).cell 0;have fcr0:=(hr).frozen 0;have cr1:wr.cell? ⟨w.heap.size,1,none⟩=some (.int .i64 0):=(hr).cell 1;have fcr1:=(hr).frozen 1;have lcr:=(hr).lt
                             cases neg with
                             | true =>
                               go_wp2_with fail;exact bodyPost_ret (v:=.agg #[.int .i64 (-(ya:Int)),.int .i64 d]) (by simp[results,Tryz.results168,go_sem,cr0,cr1,lcr]) rfl ⟨(by rw[HF.out];rfl),(by repeat (first|with_reducible exact hb | (with_reducible refine Below.setCell ?_ ?hq _;case hq=>first | (simp;done) | (simp;omega))))⟩
                             | false =>
                               go_wp2_with fail;exact bodyPost_ret (v:=.agg #[.int .i64 ya,.int .i64 d]) (by simp[results,Tryz.results168,go_sem,cr0,cr1,lcr]) rfl ⟨(by rw[HF.out];rfl),(by repeat (first|with_reducible exact hb | (with_reducible refine Below.setCell ?_ ?hq _;case hq=>first | (simp;done) | (simp;omega))))⟩
  · obtain rfl:i=ds.length:=by omega
    have hd0:d=[]:=by rw[← hlaw.out,List.drop_length];rfl
    have HF:=Lib.hid (show S=(0,1) by rw[← HS.out];exact value_nought (HDW.out.trans hd0));go_wp2_with fail
    ((with_reducible refine(int_any 0 _).mono ?_);rintro e w' ⟨rfl,hbw⟩)
    obtain⟨m1,rfl⟩:=grow_mk hbw;clear hbw;replace hb:=below_grow hb m1;replace hr:=hr.grow m1;generalize grow wr m1=wr at *;have cr0:wr.cell? ⟨w.heap.size,0,none⟩=some (.int .i64 0):=(hr).cell 0;have fcr0:=(hr).frozen 0;have cr1:wr.cell? ⟨w.heap.size,1,none⟩=some (.int .i64 0):=(hr).cell 1;have fcr1:=(hr).frozen 1;have lcr:=(hr).lt;go_wp2_with fail;exact bodyPost_ret (v:=.agg #[.int .i64 0,.int .i64 1]) (by simp[results,Tryz.results168,go_sem,cr0,cr1,lcr]) rfl ⟨(by rw[HF.out]),(by repeat (first|with_reducible exact hb | (with_reducible refine Below.setCell ?_ ?hq _;case hq=>first | (simp;done) | (simp;omega))))⟩
theorem at_ways (l:List UInt8) (i:Nat) (hi:i≤l.length) (t:List UInt8) (ht:l.drop i=t):(t=[]∧i=l.length)∨(∃ a b,∃ h:i<l.length,t=a::b∧l[i]'h=a∧l.drop (i+1)=b):=by
 rcases Nat.lt_or_ge i l.length with h|h
 · rw[List.drop_eq_getElem_cons h]at ht;exact Or.inr ⟨_,_,h,ht.symm,rfl,rfl⟩
 · refine Or.inl ⟨?_,by omega⟩;rw[← ht,List.drop_eq_nil_iff];exact h
theorem ext_digits (l:List UInt8) (i:Nat) (t:List UInt8) (ht:l.drop i=t):(⟨l.toArray⟩:ByteArray).extract i (i+(t.takeWhile isD).length)=⟨(t.takeWhile isD).toArray⟩:=by
 rw[ext_mid,List.drop_take,ht,Nat.add_sub_cancel_left]
 congr 2
 exact(List.prefix_iff_eq_take.1 (List.takeWhile_prefix isD)).symm
theorem drop_digits (l:List UInt8) (i:Nat) (t:List UInt8) (ht:l.drop i=t):l.drop (i+(t.takeWhile isD).length)=t.dropWhile isD:=by
 rw[← List.drop_drop,ht];have h:(t.takeWhile isD++t.dropWhile isD).drop (t.takeWhile isD).length=t.dropWhile isD:=List.drop_left;rwa [List.takeWhile_append_dropWhile]at h
theorem digits_le (l:List UInt8) (i:Nat) (hi:i≤l.length) (t:List UInt8) (ht:l.drop i=t):i+(t.takeWhile isD).length≤l.length:=by
 have h1:=(List.takeWhile_prefix isD (l:=t)).length_le;have h2:=congrArg List.length ht;rw[List.length_drop]at h2;omega
def tailOf:Nat→Code→Code
 | n+1,.seq _ b=>tailOf n b
 | _,c=>c
theorem get_drop {l t:List UInt8} {i q:Nat} (h:l.drop i=t) (h1:i+q<l.length) (h2:q<t.length):l[i+q]'h1=t[q]'h2:=by
 subst h;rw[List.getElem_drop]
set_option maxRecDepth 20000 in
set_option maxHeartbeats 8000000 in
theorem rdec_exp (l E f r2:List UInt8) (a0:UInt8) (sn w0:Bool) (DF:Rt×Bool×Bool) (i2:Nat) (w wc:World) (u1 u3 u4 u7 u12 u13 u14 u15 u16 u17 u18 u19 u20 u21 u22 u23 u24 u25 u26 u27 u28 u29 u30 u31 u32 u33 u34 u35 u36 u37 u38 u39 u40 u41 u42 u43 u44 u45 u46 u47 u48 u49 u50 u51 u52 u53 u54 u55 u56 u57 u58 u59 u60 u61 u62 u63 u64 u65 u66 u67 u68 u69 u70 u71 u72 u73 u74 u75 u76 u77 u78 u79 u80 u81 u82 u83 u84 u85 u86 u87 u88 u89 u90 u91 u92 u93 u94 u95 u96 u97 u98 u99 u100 u101 u102 u103 u104 u105 u106 u107 u108 u109 u110 u111 u112 u113 u114 u115 u116 u117 u118 u119 u120 u121 u122 u123 u124 u125 u126 u127 u128 u129 u130 u131 u132 u133 u134 u135 u136 u137 u138 u139 u140 u141 u142 u143 u144 u145 u146 u147 u148 u149 u150 u151 u152:Value) (hl:l.length≤17179869184) (hi2:i2≤l.length) (HD2:Hid (l.drop i2=r2)) (HDF:Hid (decimalF l=DF))
  (HQ:Hid (partsF l=(expF r2 w0).map fun x=>(sn,a0::E,f.length,x.1,x.2))) (hb:Below w.heap.size w wc) (hr:Blk wc w.heap.size 28 #[.int .i64 0,.int .i64 0]) :
  Code.wp Tryz.prog (tailOf 9 (Tryz.f144.body.getD .skip)) (bodyPost Tryz.prog Tryz.f144 fun e w'=>e=.returned (.tuple #[rv DF.1,.bool DF.2.1,.int .i64 (errF DF.2.2)])∧Below w.heap.size w w') { tmps:=#[.string ⟨l.toArray⟩,u1,.pointer (some ⟨w.heap.size,0,none⟩),u3,u4,.int .i64 i2,.bool sn,u7,.string ⟨(a0::E).toArray⟩,.int .i64 f.length,.bool w0,.int .i64 0,u12,u13,u14,u15,u16,u17,u18,u19,u20,u21,u22,u23,u24,u25,u26,u27,u28,u29,u30,u31,u32,u33,u34,u35,u36,u37,u38,u39,u40,u41,u42,u43,u44,u45,u46,u47,u48,u49,u50,u51,u52,u53,u54,u55,u56,u57,u58,u59,u60,u61,u62,u63,u64,u65,u66,u67,u68,u69,u70,u71,u72,u73,u74,u75,u76,u77,u78,u79,u80,u81,u82,u83,u84,u85,u86,u87,u88,u89,u90,u91,u92,u93,u94,u95,u96,u97,u98,u99,u100,u101,u102,u103,u104,u105,u106,u107,u108,u109,u110,u111,u112,u113,u114,u115,u116,u117,u118,u119,u120,u121,u122,u123,u124,u125,u126,u127,u128,u129,u130,u131,u132,u133,u134,u135,u136,u137,u138,u139,u140,u141,u142,u143,u144,u145,u146,u147,u148,u149,u150,u151,u152],defers:=[] } wc:=by
 simp only[tailOf,Tryz.f144,Option.getD_some];obtain⟨p80,hp80⟩:∃ x,decide (i2<l.length)=x:=⟨_,rfl⟩
 have hp81:decide ((i2:Int)<l.length)=p80:=by rw[← hp80,decide_eq_decide];omega
 go_upto_if 80 with fail
 go_cut [5,7,10,11,12] from 81 to 145 (fun s5 s7 s10 s11 s12 wx=>∃ (e:Int) (v:Bool),s10=.bool v∧s11=.int .i64 e∧Hid (expF r2 w0=some (e,v))∧Below w.heap.size w wx∧Blk wx w.heap.size 28 #[.int .i64 0,.int .i64 0])
 case first =>
  cases r2 with
  | nil =>
    obtain rfl:i2=l.length:=by
     rcases at_ways l i2 hi2 [] HD2.out with ⟨_,h⟩ | ⟨a,b,_,h,_⟩
     · exact h
     · cases h
    obtain rfl:p80=false:=by rw[← hp80];simp
    clear hp80 hp81;go_wp2_with fail;go_meet;exact⟨0,w0,rfl,rfl,Lib.hid exp_nil,hb,hr⟩
  | cons c r3 =>
    obtain ⟨h2,hc2,hd3⟩:∃ h:i2<l.length,l[i2]'h=c∧l.drop (i2+1)=r3:=by
     rcases at_ways l i2 hi2 (c::r3) HD2.out with ⟨h,_⟩ | ⟨a,b,h1,h,h3,h4⟩
     · cases h
     · obtain⟨rfl,rfl⟩:=List.cons.inj h;exact⟨h1,h3,h4⟩
    obtain rfl:p80=true:=by rw[← hp80];simpa using h2
    have HD3:=Lib.hid hd3;clear hp80 hp81 hd3;have hew:=exp_ways c;obtain⟨be,hbe⟩:∃ x,(c != 101&&c != 69)=x:=⟨_,rfl⟩;rw[hbe]at hew;have HEW:=Lib.hid hew;have HBE:=Lib.hid hbe;clear hew hbe
    go_upto_region 19 with fail
    go_cut [90] from 81 to 90 (fun x wx=>x=.bool be∧wx=wc)
    case first =>
     rcases HEW.out with ⟨rfl,rfl⟩ | ⟨rfl,rfl⟩ | ⟨g1,g2,g3,g4,rfl⟩
     all_goals
      go_wp2_with fail;go_meet;exact⟨rfl,rfl⟩
    case rest =>
     obtain⟨rfl,e⟩:=hcut;subst e
     cases be with
     | true =>
       have HF:=Lib.hid (show DF=((0,0),false,false) by rw[← HDF.out];exact decimal_none (by rw[HQ.out,exp_no HBE.out];rfl));go_wp2_with fail
       ((with_reducible refine(over_any _).mono ?_);rintro e w' ⟨rfl,hbw⟩)
       obtain⟨m1,rfl⟩:=grow_mk hbw;clear hbw;replace hb:=below_grow hb m1;replace hr:=hr.grow m1;generalize grow wc m1=wc at *;have cr0:wc.cell? ⟨w.heap.size,0,none⟩=some (.int .i64 0):=(hr).cell 0;have fcr0:=(hr).frozen 0;have cr1:wc.cell? ⟨w.heap.size,1,none⟩=some (.int .i64 0):=(hr).cell 1;have fcr1:=(hr).frozen 1;have lcr:=(hr).lt;go_wp2_with fail;exact bodyPost_ret (v:=.tuple #[.agg #[.int .i64 0,.int .i64 0],.bool false,.int .i64 3]) (by simp[results,Tryz.results144,go_sem,cr0,cr1,lcr]) rfl ⟨(by rw[HF.out];rfl),(by repeat (first|with_reducible exact hb | (with_reducible refine Below.setCell ?_ ?hq _;case hq=>first | (simp;done) | (simp;omega))))⟩
     | false =>
       obtain⟨sc2,hsc⟩:∃ x,signC r3=x:=⟨_,rfl⟩;obtain⟨sn2,hsn⟩:∃ x,signN r3=x:=⟨_,rfl⟩;obtain⟨t3,ht⟩:∃ x,signS r3=x:=⟨_,rfl⟩;have hways:=sign_ways r3;rw[hsc,hsn,ht]at hways;have HW:=Lib.hid hways;have HS3:=Lib.hid ht;have HN3:=Lib.hid hsn;have hi3:i2+1≤l.length:=h2;have hat:=at_ways l (i2+1) hi3 r3 HD3.out;have HAT:=Lib.hid hat
       have iz:((i2+1:Nat):Int)=(i2:Int)+1:=by omega
       clear hways hsc hsn ht hat hc2
       go_upto_region 24 with fail
       go_cut [109] from 94 to 109 (fun x wx=>x=.bool sc2∧wx=wc)
       case first =>
        rcases HAT.out with ⟨e1,e2⟩ | ⟨a,b,h,e1,ha,hdr⟩
        · rcases HW.out with ⟨h1,h2,h3,h4⟩ | ⟨a,b,h1,_⟩ | ⟨b,h1,_⟩ | ⟨b,h1,_⟩
          · subst h2
            have gi:decide ((i2:Int)+1<l.length)=false:=by rw[decide_eq_false_iff_not];omega
            go_wp2_with fail;go_meet;exact⟨rfl,rfl⟩
          all_goals (rw[e1]at h1;cases h1)
        · have gi:decide ((i2:Int)+1<l.length)=true:=by rw[decide_eq_true_eq];omega
          rcases HW.out with ⟨h1,_⟩ | ⟨a',b',h1,g1,g2,h3,_⟩ | ⟨b',h1,h3,_⟩ | ⟨b',h1,h3,_⟩
          · rw[e1]at h1;cases h1
          all_goals
           rw[e1]at h1;obtain⟨rfl,rfl⟩:=List.cons.inj h1;subst h3;go_wp2_with fail;go_meet;exact⟨rfl,rfl⟩
       case rest =>
        obtain⟨rfl,e⟩:=hcut;subst e
        go_upto_if 109 with fail
        go_cut [5,12] from 110 to 115 (fun s5 s12 wx=>∃ i4:Nat,s5=.int .i64 i4∧s12=.bool sn2∧i4≤l.length∧Hid (l.drop i4=t3)∧wx=wc)
        case first =>
         cases sc2 with
         | false =>
           have hh:sn2=false∧t3=r3:=by
            rcases HW.out with ⟨_,_,h1,h2⟩ | ⟨a,b,_,_,_,_,h1,h2⟩ | ⟨b,_,h,_⟩ | ⟨b,_,h,_⟩
            · exact⟨h1,h2⟩
            · exact⟨h1,h2⟩
            · cases h
            · cases h
           obtain⟨rfl,rfl⟩:=hh;go_wp2_with fail;go_meet;exact⟨i2+1,by go_num,rfl,hi3,HD3,rfl⟩
         | true =>
           obtain ⟨a,h,ha,hd4,hs⟩:∃ a,∃ h:i2+1<l.length,l[i2+1]'h=a∧l.drop (i2+1+1)=t3∧((a=43∧sn2=false)∨(a=45∧sn2=true)):=by
            rcases HAT.out with ⟨e1,_⟩ | ⟨a,b,h,e1,ha,hdr⟩
            · rcases HW.out with ⟨_,h,_⟩ | ⟨a,b,h,_⟩ | ⟨b,h,_⟩ | ⟨b,h,_⟩
              · cases h
              all_goals (rw[e1]at h;cases h)
            · refine⟨a,h,ha,?_⟩
              rcases HW.out with ⟨_,h,_⟩ | ⟨a',b',_,_,_,h,_⟩ | ⟨b',h1,_,h3,h4⟩ | ⟨b',h1,_,h3,h4⟩
              · cases h
              · cases h
              · rw[e1]at h1;obtain⟨rfl,rfl⟩:=List.cons.inj h1;exact⟨hdr.trans h4.symm,Or.inl ⟨rfl,h3⟩⟩
              · rw[e1]at h1;obtain⟨rfl,rfl⟩:=List.cons.inj h1;exact⟨hdr.trans h4.symm,Or.inr ⟨rfl,h3⟩⟩
           have HD4:=Lib.hid hd4
           have gi:decide ((i2:Int)+1<l.length)=true:=by rw[decide_eq_true_eq];omega
           have iz2:((i2+1+1:Nat):Int)=(i2:Int)+1+1:=by omega
           clear hd4
           rcases hs with ⟨rfl,rfl⟩ | ⟨rfl,rfl⟩
           all_goals
            go_wp2_with fail;go_meet;exact⟨i2+1+1,by go_num,rfl,h,HD4,rfl⟩
        case rest =>
         clear HW HAT HD3 iz;obtain⟨i4,rfl,rfl,hi4,HD4,e⟩:=hcut;subst e
         have hrun:=fun w=>run_any l i4 w (by omega) hi4
         rw[HD4.out]at hrun
         have hlen:t3.length=l.length-i4:=by rw[← HD4.out,List.length_drop]
         have hbw:=bad_ways t3;obtain⟨bad,hbad⟩:∃ x,(decide (t3=[])||decide ((t3.takeWhile isD).length<t3.length))=x:=⟨_,rfl⟩;have HBAD:=Lib.hid hbad;rw[hbad]at hbw;have hK:=(List.takeWhile_prefix isD (l:=t3)).length_le
         have hk0:t3≠[]∧(t3.takeWhile isD).length=0→(t3.takeWhile isD).length<t3.length:=by
          rintro⟨h,h2⟩;have:=List.length_pos_iff.2 h;omega
         have hbk:bad=(decide ((t3.takeWhile isD).length=0)||decide ((t3.takeWhile isD).length<t3.length)):=by
          rw[← hbad]
          cases t3 with
          | nil=>rfl
          | cons a b =>
            rw[Bool.eq_iff_iff];simp only[Bool.or_eq_true,decide_eq_true_eq];constructor
            · rintro(h|h)
              · cases h
              · exact Or.inr h
            · rintro(h|h)
              · exact Or.inr (hk0 ⟨by simp,h⟩)
              · exact Or.inr h
         clear hbad hbw hk0;generalize (t3.takeWhile isD).length=K3 at hrun hbk hK;have HRUN:=Lib.hid hrun;clear hrun;obtain⟨j4,hj4⟩:∃ x,i4+K3=x:=⟨_,rfl⟩;rw[hj4]at HRUN;go_wp2_with fail
         ((with_reducible refine(HRUN.out _).mono ?_);rintro e w' ⟨rfl,hbw⟩)
         obtain⟨m1,rfl⟩:=grow_mk hbw;clear hbw;replace hb:=below_grow hb m1;replace hr:=hr.grow m1;generalize grow wc m1=wc at *
         have hz:decide (K3=0)=((j4:Int)==(i4:Int)):=by
          rw[Bool.eq_iff_iff,decide_eq_true_eq,beq_iff_eq];omega
         have hn:decide (K3<t3.length)=((j4:Int) != (l.length:Int)):=by
          rw[Bool.eq_iff_iff,decide_eq_true_eq,bne_iff_ne];omega
         obtain⟨b1,hb1⟩:∃ x,((j4:Int)==(i4:Int))=x:=⟨_,rfl⟩;obtain⟨b2,hb2⟩:∃ x,((j4:Int) != (l.length:Int))=x:=⟨_,rfl⟩;rw[hz,hn,hb1,hb2]at hbk;have HBK:=Lib.hid hbk;clear hbk hz hn HRUN
         go_upto_region 28 with fail
         go_cut [127] from 119 to 127 (fun x wx=>x=.bool bad∧wx=wc)
         case first =>
          have hbk:=HBK.out
          cases b1 with
          | true =>
            subst hbk;go_wp2_with fail;go_meet;exact⟨rfl,rfl⟩
          | false =>
            subst hbk;go_wp2_with fail;go_meet;exact⟨rfl,rfl⟩
         case rest =>
          obtain⟨rfl,e⟩:=hcut;subst e
          cases bad with
          | true =>
            have HF:=Lib.hid (show DF=((0,0),false,false) by rw[← HDF.out];exact decimal_none (by rw[HQ.out,exp_bad HBE.out (by rw[HS3.out];exact bad_yes HBAD.out)];rfl));go_wp2_with fail
            ((with_reducible refine(over_any _).mono ?_);rintro e w' ⟨rfl,hbw⟩)
            obtain⟨m1,rfl⟩:=grow_mk hbw;clear hbw;replace hb:=below_grow hb m1;replace hr:=hr.grow m1;generalize grow wc m1=wc at *;have cr0:wc.cell? ⟨w.heap.size,0,none⟩=some (.int .i64 0):=(hr).cell 0;have fcr0:=(hr).frozen 0;have cr1:wc.cell? ⟨w.heap.size,1,none⟩=some (.int .i64 0):=(hr).cell 1;have fcr1:=(hr).frozen 1;have lcr:=(hr).lt;go_wp2_with fail;exact bodyPost_ret (v:=.tuple #[.agg #[.int .i64 0,.int .i64 0],.bool false,.int .i64 3]) (by simp[results,Tryz.results144,go_sem,cr0,cr1,lcr]) rfl ⟨(by rw[HF.out];rfl),(by repeat (first|with_reducible exact hb | (with_reducible refine Below.setCell ?_ ?hq _;case hq=>first | (simp;done) | (simp;omega))))⟩
          | false =>
            obtain⟨hne3,hall3⟩:=bad_no HBAD.out
            have hjl:j4=l.length:=by
             have hbk:=HBK.out
             cases b1 with
             | true=>cases hbk
             | false =>
               cases b2 with
               | true=>cases hbk
               | false=>rw[bne_eq_false_iff_eq]at hb2;omega
            have HX:=Lib.hid (show expF (c::r3) w0=some (if sn2 then -(capD t3:Int) else capD t3,false) by rw[exp_good HBE.out (by rw[HS3.out];exact hne3) (by rw[HS3.out];exact hall3),HS3.out,HN3.out]);have HALL:=Lib.hid hall3;clear hne3 hall3 HBK HBAD hb1 hb2;subst hjl;go_wp2_with fail
            go_loopg [5,11] l.length (fun k s5 s11 wx=>∃ (q:Nat),s5=.int .i64 ((i4+q:Nat):Int)∧s11=.int .i64 (capD (t3.take q))∧q≤t3.length∧t3.length-q≤k∧wx=wc)
            case atStart=>exact⟨0,rfl,rfl,Nat.zero_le _,by omega,rfl⟩
            case round =>
             obtain⟨q,rfl,rfl,hq,hk,rfl⟩:=hrel
             by_cases hqi:q<t3.length
             · have gq:decide (((i4:Int)+(q:Int))<l.length)=true:=by rw[decide_eq_true_eq];omega
               have gq2:i4+q<l.length:=by omega
               have hr0:t3[q]?=some (t3[q]'hqi):=List.getElem?_eq_getElem hqi
               have hst:capD (t3.take (q+1))=min 1099511627776 (capD (t3.take q)*10+((t3[q]'hqi).toNat-48)):=by
                rw[List.take_add_one,hr0];exact capD_snoc _ _
               have hget:=get_drop HD4.out gq2 hqi;have hdg:isD (t3[q]'hqi)=true:=List.all_eq_true.1 HALL.out _ (List.getElem_mem _);have hcap:=capD_le (t3.take q);generalize t3[q]'hqi=c9 at *;simp only[isD,Bool.and_eq_true,decide_eq_true_eq]at hdg;obtain⟨c1,c2⟩:=hdg;have HST:=Lib.hid hst;clear hst hr0;generalize capD (t3.take q)=v at *;go_wp2_with fail
               go_roundg (t3.length-(q+1))
               case measure=>omega
               case rel=>exact⟨q+1,by go_num,congrArg (Value.int .i64) (by rw[HST.out];omega),hqi,by omega,rfl⟩
             · obtain rfl:q=t3.length:=by omega
               rw[List.take_length];have hcap:=capD_le t3;obtain⟨v,hvv⟩:∃ x,capD t3=x:=⟨_,rfl⟩;have HVV:=Lib.hid hvv;rw[hvv]at hcap ⊢;clear hvv
               have gq:decide (((i4:Int)+(t3.length:Int))<l.length)=false:=by rw[decide_eq_false_iff_not];omega
               cases sn2 with
               | true =>
                 go_wp2_with fail;go_meet
                 case rel=>exact⟨-(v:Int),false,rfl,rfl,Lib.hid (by rw[HX.out,HVV.out];rfl),hb,hr⟩
               | false =>
                 go_wp2_with fail;go_meet
                 case rel=>exact⟨v,false,rfl,rfl,Lib.hid (by rw[HX.out,HVV.out];rfl),hb,hr⟩
 case rest =>
  clear hb hr;obtain⟨e,v,rfl,rfl,HX,hb,hr⟩:=hcut
  have hps:partsF l=some (sn,a0::E,f.length,e,v):=by rw[HQ.out,HX.out];rfl
  obtain⟨b1,b2,b3,b4,b5⟩:=parts_bounds hps;have hF:=Lib.hid (show DF=(valueF sn (a0::E) (e-f.length),v,true) by rw[← HDF.out];exact decimal_some hps)
  have hva:=fun w=>value_any sn (a0::E) (e-f.length) w b1 (by omega) (by omega) (by omega)
  obtain⟨V,hV⟩:∃ x,valueF sn (a0::E) (e-f.length)=x:=⟨_,rfl⟩;rw[hV]at hva hF;have HVA:=Lib.hid hva;obtain⟨va,vb⟩:=V;clear hva hV hps b1;go_wp2_with fail
  ((with_reducible refine(HVA.out _).mono ?_);rintro e w' ⟨rfl,hbw⟩)
  obtain⟨m1,rfl⟩:=grow_mk hbw;clear hbw;replace hb:=below_grow hb m1;replace hr:=hr.grow m1;generalize grow wc m1=wc at *;have cr0:wc.cell? ⟨w.heap.size,0,none⟩=some (.int .i64 0):=(hr).cell 0;have fcr0:=(hr).frozen 0;have cr1:wc.cell? ⟨w.heap.size,1,none⟩=some (.int .i64 0):=(hr).cell 1;have fcr1:=(hr).frozen 1;have lcr:=(hr).lt;go_wp2_with fail;exact bodyPost_ret (v:=.tuple #[.agg #[.int .i64 va,.int .i64 vb],.bool v,.int .i64 0]) (by simp[results,Tryz.results144,go_sem,cr0,cr1,lcr]) rfl ⟨(by rw[hF.out];rfl),(by repeat (first|with_reducible exact hb | (with_reducible refine Below.setCell ?_ ?hq _;case hq=>first | (simp;done) | (simp;omega))))⟩
set_option maxRecDepth 20000 in
set_option maxHeartbeats 8000000 in
theorem rdecimal_any (l:List UInt8) (w:World) (hl:l.length≤17179869184) :
  Calls Tryz.prog 144 #[.string ⟨l.toArray⟩] w fun e w'=>e=.returned (.tuple #[rv (decimalF l).1,.bool (decimalF l).2.1,.int .i64 (errF (decimalF l).2.2)])∧Below w.heap.size w w':=by
 obtain⟨DF,hDF⟩:∃ x,decimalF l=x:=⟨_,rfl⟩;rw[hDF];have HDF:=Lib.hid hDF;clear hDF;obtain⟨sc,hsc⟩:∃ x,signC l=x:=⟨_,rfl⟩;obtain⟨sn,hsn⟩:∃ x,signN l=x:=⟨_,rfl⟩;obtain⟨t,ht⟩:∃ x,signS l=x:=⟨_,rfl⟩;have hways:=sign_ways l;rw[hsc,hsn,ht]at hways;have HW:=Lib.hid hways;have HSN:=Lib.hid hsn;have HSS:=Lib.hid ht;clear hways hsn hsc ht
 go_enter Tryz.func144,Tryz.ntmps144
 go_upto_region 1 with fail
 have hr:Blk (w.alloc (.cells #[.int .i64 0,.int .i64 0] 28)) w.heap.size 28 #[.int .i64 0,.int .i64 0]:=Blk.new _ _ _;have hb:Below w.heap.size w (w.alloc (.cells #[.int .i64 0,.int .i64 0] 28)):=below_box _ _;generalize w.alloc _=wa at *
 go_upto_region 2 with fail
 go_cut [28] (fun c wx=>c=.bool sc∧wx=wa)
 case first =>
  rcases HW.out with ⟨rfl,rfl,rfl,rfl⟩ | ⟨a,b,rfl,g1,g2,rfl,rfl,rfl⟩ | ⟨b,rfl,rfl,rfl,rfl⟩ | ⟨b,rfl,rfl,rfl,rfl⟩
  all_goals
   go_wp2_with fail;go_meet;exact⟨rfl,rfl⟩
 case rest =>
  obtain⟨rfl,e⟩:=hcut;subst e
  go_upto_if 28 with fail
  go_cut [5,6] (fun s5 s6 wx=>∃ i:Nat,s5=.int .i64 i∧s6=.bool sn∧wx=wc∧i≤l.length∧Hid (l.drop i=t))
  case first =>
   rcases HW.out with ⟨rfl,rfl,rfl,rfl⟩ | ⟨a,b,rfl,g1,g2,rfl,rfl,rfl⟩ | ⟨b,rfl,rfl,rfl,rfl⟩ | ⟨b,rfl,rfl,rfl,rfl⟩
   · go_wp2_with fail;go_meet;exact⟨0,rfl,rfl,rfl,Nat.zero_le _,Lib.hid rfl⟩
   · go_wp2_with fail;go_meet;exact⟨0,rfl,rfl,rfl,Nat.zero_le _,Lib.hid rfl⟩
   · go_wp2_with fail;go_meet;exact⟨1,rfl,rfl,rfl,by simp,Lib.hid rfl⟩
   · go_wp2_with fail;go_meet;exact⟨1,rfl,rfl,rfl,by simp,Lib.hid rfl⟩
  case rest =>
   clear HW;obtain⟨i,rfl,rfl,e,hi,hdi⟩:=hcut;subst e
   have hrun:=fun w=>run_any l i w (by omega) hi
   rw[hdi.out]at hrun;have hex:=ext_digits l i t hdi.out;have hdd:=drop_digits l i t hdi.out;have hle:=digits_le l i hi t hdi.out;obtain⟨D,hD⟩:∃ x,t.takeWhile isD=x:=⟨_,rfl⟩;obtain⟨R,hR⟩:∃ x,t.dropWhile isD=x:=⟨_,rfl⟩;rw[hD]at hrun hex hdd hle;rw[hR]at hdd;obtain⟨i1,hi1⟩:∃ x,i+D.length=x:=⟨_,rfl⟩;rw[hi1]at hrun hex hdd hle
   have hii:i≤i1:=by omega
   have HTD:=Lib.hid hD;have HTR:=Lib.hid hR;have HRUN:=Lib.hid hrun;have HD1:=Lib.hid hdd
   have hDl:D.length≤l.length:=by omega
   clear hrun hdd hD hR hi1;go_wp2_with fail
   ((with_reducible refine(HRUN.out _).mono ?_);rintro e w' ⟨rfl,hbw⟩)
   obtain⟨m1,rfl⟩:=grow_mk hbw;clear hbw;replace hb:=below_grow hb m1;replace hr:=hr.grow m1;generalize grow wc m1=wc at *;have hw:=at_ways l i1 hle R HD1.out;have HAW:=Lib.hid hw;clear hw HRUN;obtain⟨p46,hp46⟩:∃ x,(R.head?==some 46)=x:=⟨_,rfl⟩;have HP46:=Lib.hid hp46;clear hp46
   go_upto_region 8 with fail
   clear hex
   go_cut [52] (fun c wx=>c=.bool p46∧wx=wc)
   case first =>
    rcases HAW.out with ⟨rfl,rfl⟩ | ⟨a,r,h,rfl,ha,hdr⟩
    · have hpe:=HP46.out;subst hpe;go_wp2_with fail;go_meet;exact⟨rfl,rfl⟩
    · have hpe:=HP46.out
      have gi:decide ((i1:Int)<l.length)=true:=by simpa using h
      have ge:((a.toNat:Int)==46)=p46:=by
       rw[← hpe,Bool.eq_iff_iff];simp only[beq_iff_eq,List.head?_cons,Option.some.injEq];rw[← UInt8.toNat_inj];show (a.toNat:Int)=46↔a.toNat=46;omega
      clear hpe hdr;go_wp2_with fail;go_meet;exact⟨rfl,rfl⟩
   case rest =>
    obtain⟨rfl,e⟩:=hcut;subst e
    go_upto_if 52 with fail
    go_cut [5,8,9,10] (fun s5 s8 s9 s10 wx=>∃ (i2:Nat) (f:List UInt8) (w0:Bool) (r2:List UInt8),s5=.int .i64 i2∧s8=.string ⟨(D++f).toArray⟩∧s9=.int .i64 f.length∧s10=.bool w0∧Hid (pointF R=some (f,w0,r2))∧i2≤l.length∧Hid (l.drop i2=r2)∧D.length+f.length≤34359738368∧Below w.heap.size w wx∧Blk wx w.heap.size 28 #[.int .i64 0,.int .i64 0])
    case first =>
     cases p46 with
     | false =>
       have hp:=Lib.hid (point_no HP46.out);go_wp2_with fail;go_meet;exact⟨i1,[],true,R,rfl,by simp,rfl,rfl,hp,hle,HD1,by simp;omega,hb,hr⟩
     | true =>
       obtain ⟨r,h,rfl,hdr⟩:∃ r,∃ _:i1<l.length,R=46::r∧l.drop (i1+1)=r:=by
        rcases HAW.out with ⟨h,_⟩ | ⟨a,r,h,e,_,hdr⟩
        · have:=HP46.out;rw[h]at this;cases this
        · have h4:=HP46.out;rw[e]at h4
          obtain rfl:a=46:=by simpa using h4
          exact⟨r,h,e,hdr⟩
       have gi:decide ((i1:Int)<l.length)=true:=by simpa using h
       have hrun:=fun w=>run_any l (i1+1) w (by omega) h
       rw[hdr]at hrun;have hex:=ext_digits l (i1+1) r hdr;have hdd:=drop_digits l (i1+1) r hdr;have hle2:=digits_le l (i1+1) h r hdr;obtain⟨K,hK⟩:∃ x,r.takeWhile isD=x:=⟨_,rfl⟩;obtain⟨Q,hQ⟩:∃ x,r.dropWhile isD=x:=⟨_,rfl⟩;rw[hK]at hrun hex hdd hle2;rw[hQ]at hdd;rw[Int.natCast_add,Int.natCast_add,show ((1:Nat):Int)=1 from rfl]at hrun;have HRUN:=Lib.hid hrun;have HDD:=Lib.hid hdd;clear hrun hdd hdr
       by_cases hK0:K=[]
       · have hpn:=point_none (hK.trans hK0);have HPN:=Lib.hid hpn;subst hK0;clear hpn hK hQ;go_wp2_with fail
         ((with_reducible refine(HRUN.out _).mono ?_);rintro e w' ⟨rfl,hbw⟩)
         obtain⟨m1,rfl⟩:=grow_mk hbw;clear hbw;replace hb:=below_grow hb m1;replace hr:=hr.grow m1;generalize grow wc m1=wc at *;have HF:=Lib.hid (show DF=((0,0),false,false) by rw[← HDF.out];exact decimal_none (parts_point (by rw[HSS.out,HTR.out];exact HPN.out)));go_wp2_with fail
         ((with_reducible refine(over_any _).mono ?_);rintro e w' ⟨rfl,hbw⟩)
         obtain⟨m1,rfl⟩:=grow_mk hbw;clear hbw;replace hb:=below_grow hb m1;replace hr:=hr.grow m1;generalize grow wc m1=wc at *;have cr0:wc.cell? ⟨w.heap.size,0,none⟩=some (.int .i64 0):=(hr).cell 0;have fcr0:=(hr).frozen 0;have cr1:wc.cell? ⟨w.heap.size,1,none⟩=some (.int .i64 0):=(hr).cell 1;have fcr1:=(hr).frozen 1;have lcr:=(hr).lt;go_wp2_with fail;exact bodyPost_ret (v:=.tuple #[.agg #[.int .i64 0,.int .i64 0],.bool false,.int .i64 3]) (by simp[results,Tryz.results144,go_sem,cr0,cr1,lcr]) rfl ⟨(by rw[HF.out];rfl),(by repeat (first|with_reducible exact hb | (with_reducible refine Below.setCell ?_ ?hq _;case hq=>first | (simp;done) | (simp;omega))))⟩
       · have hps:=point_some (r:=r) (by rw[hK];exact hK0);rw[hK,hQ]at hps;have HPS:=Lib.hid hps
         have hkl:K.length≠0:=by simpa using hK0
         have gk:((i1:Int)+1+(K.length:Int)==(i1:Int)+1)=false:=by rw[beq_eq_false_iff_ne];omega
         have hcat:=fun w=>run_cat_max D K (by omega) w
         clear hps hK hQ hK0;go_wp2_with fail
         ((with_reducible refine(HRUN.out _).mono ?_);rintro e w' ⟨rfl,hbw⟩)
         obtain⟨m1,rfl⟩:=grow_mk hbw;clear hbw;replace hb:=below_grow hb m1;replace hr:=hr.grow m1;generalize grow wc m1=wc at *;go_wp2_with fail;go_meet;exact⟨i1+1+K.length,K,false,Q,by go_num,rfl,by go_num,rfl,HPS,hle2,HDD,by omega,hb,hr⟩
    case rest =>
     clear hb hr HAW HD1;obtain⟨i2,f,w0,r2,rfl,rfl,rfl,rfl,HP,hi2,HD2,hDf,hb,hr⟩:=hcut;obtain⟨E,hE⟩:∃ x,D++f=x:=⟨_,rfl⟩;rw[hE];have HE:=Lib.hid hE;clear hE;have HPP:=Lib.hid (show pointF ((signS l).dropWhile isD)=some (f,w0,r2) by rw[HSS.out,HTR.out];exact HP.out);have HEE:=Lib.hid (show (signS l).takeWhile isD++f=E by rw[HSS.out,HTD.out];exact HE.out)
     cases E with
     | nil =>
       have HF:=Lib.hid (show DF=((0,0),false,false) by rw[← HDF.out];exact decimal_none (parts_bare HPP.out HEE.out));go_wp2_with fail
       ((with_reducible refine(over_any _).mono ?_);rintro e w' ⟨rfl,hbw⟩)
       obtain⟨m1,rfl⟩:=grow_mk hbw;clear hbw;replace hb:=below_grow hb m1;replace hr:=hr.grow m1;generalize grow wc m1=wc at *;have cr0:wc.cell? ⟨w.heap.size,0,none⟩=some (.int .i64 0):=(hr).cell 0;have fcr0:=(hr).frozen 0;have cr1:wc.cell? ⟨w.heap.size,1,none⟩=some (.int .i64 0):=(hr).cell 1;have fcr1:=(hr).frozen 1;have lcr:=(hr).lt;go_wp2_with fail;exact bodyPost_ret (v:=.tuple #[.agg #[.int .i64 0,.int .i64 0],.bool false,.int .i64 3]) (by simp[results,Tryz.results144,go_sem,cr0,cr1,lcr]) rfl ⟨(by rw[HF.out];rfl),(by repeat (first|with_reducible exact hb | (with_reducible refine Below.setCell ?_ ?hq _;case hq=>first | (simp;done) | (simp;omega))))⟩
     | cons a0 E =>
       have HQ:=Lib.hid (show partsF l=(expF r2 w0).map fun x=>(sn,a0::E,f.length,x.1,x.2) by rw[parts_exp HPP.out (by rw[HEE.out];simp),HEE.out,HSN.out])
       go_upto_region 17 with fail
       go_cut [11] (fun s11 wx=>s11=.int .i64 0∧wx=wc)
       case first =>
        go_wp2_with fail;go_meet;exact⟨rfl,rfl⟩
       case rest =>
        rename_i K hK
        obtain⟨rfl,e⟩:=hcut;subst e;refine hK _ _ ?_;clear hK;exact rdec_exp l E f r2 a0 sn w0 DF i2 w wc _ _ _ _ _ _ _ _ _ _ _ _ _ _ _ _ _ _ _ _ _ _ _ _ _ _ _ _ _ _ _ _ _ _ _ _ _ _ _ _ _ _ _ _ _ _ _ _ _ _ _ _ _ _ _ _ _ _ _ _ _ _ _ _ _ _ _ _ _ _ _ _ _ _ _ _ _ _ _ _ _ _ _ _ _ _ _ _ _ _ _ _ _ _ _ _ _ _ _ _ _ _ _ _ _ _ _ _ _ _ _ _ _ _ _ _ _ _ _ _ _ _ _ _ _ _ _ _ _ _ _ _ _ _ _ _ _ _ _ _ _ _ _ _ _ hl hi2 HD2 HDF HQ hb hr
end Go.Proofs.YtnahlfaehelfjaaGreatDoor
