/- Of my texts: MedH, MedI, MedJ, MedK, MedL, MedM, CnN. -/
import Derived.Test.YtnbkbenkhkinoaaGreatDoorM12
import Derived.Test.YtnbkbenkhkinoaaGreatDoorM30
import Derived.Test.YtnbkbenkhkinoaaGreatDoorM35
namespace Go.Proofs.YtnbkbenkhkinoaaGreatDoor
set_option linter.unusedVariables false
set_option linter.unusedSimpArgs false
open Go.RowKit
def stepO (v:Vt) (wide:Bool):Option (Int×Nat):=if delimV eqS v then some (3,1) else if delimV ltS v then (if wide then some (2,2) else some (1,1)) else if delimV gtS v then (if wide then some (4,2) else some (5,1)) else none
def wideO (l:List Vt) (i:Nat):Bool:=(l[i]?.map (delimV eqS)).getD false
theorem ops_step (i:Nat) (v:Vt) (r:List Vt):opsG i (v::r)=match stepO v (wideO r 0) with
  | some (op,n)=>(op,i,i+n)::opsG (i+n) (r.drop (n-1))
  | none=>opsG (i+1) r:=by
 unfold stepO
 match r with
 | []=>cases h0:delimV eqS v<;>cases h1:delimV ltS v<;>cases h2:delimV gtS v<;>simp[opsG,stepO,wideO,h0,h1,h2]
 | x::r=>cases h0:delimV eqS v<;>cases h1:delimV ltS v<;>cases h2:delimV gtS v<;>cases h3:delimV eqS x<;>simp[opsG,stepO,wideO,h0,h1,h2,h3]
theorem step_le {v:Vt} {wide:Bool} {op:Int} {n:Nat} (h:stepO v wide=some (op,n)):1≤n∧n≤2∧1≤op∧op≤5∧(n=2→wide=true):=by
 unfold stepO at h
 cases wide<;>cases h0:delimV eqS v<;>cases h1:delimV ltS v<;>cases h2:delimV gtS v<;>simp[h0,h1,h2]at h<;>(obtain⟨rfl,rfl⟩:=h;simp)
theorem ops_at {L:List Vt} {i:Nat} {v:Vt} (h:L[i]?=some v):opsG i (L.drop i)=match stepO v (wideO L (i+1)) with
  | some (op,n)=>(op,i,i+n)::opsG (i+n) (L.drop (i+n))
  | none=>opsG (i+1) (L.drop (i+1)):=by
 have hd:L.drop i=v::L.drop (i+1):=by
  obtain⟨hi,rfl⟩:=List.getElem?_eq_some_iff.1 h;exact List.drop_eq_getElem_cons hi
 have hw:wideO (L.drop (i+1)) 0=wideO L (i+1):=by unfold wideO;rw[List.getElem?_drop,Nat.add_zero]
 rw[hd,ops_step,hw]
 cases hs:stepO v (wideO L (i+1)) with
 | none=>rfl
 | some x =>
   obtain⟨op,n⟩:=x;have:=step_le hs;simp only[List.drop_drop];rw[show i+1+(n-1)=i+n by omega]
def ocells (x:Int×Nat×Nat):List Value:=[.int .i64 x.1,.int .i64 (x.2.1:Int),.int .i64 (x.2.2:Int)]
theorem elOp:El 203 206 (.agg #[.int .i64 0,.int .i64 0,.int .i64 0]) 3 24:=⟨Tryz.underlying203,by kernel_rfl,rfl,by decide⟩
theorem owns_bel {w w':World} {base:Nat} {e:TypeId} {size:Nat} {v:Value} {n:Nat} {xs:List Value} (h:w.ownsRow base e size v n xs) (hb:Below w.heap.size w w'):w'.ownsRow base e size v n xs :=
 h.kept (grownBy_of_below hb none) (by cases v.ownBlock<;>simp)
set_option maxRecDepth 20000 in
set_option maxHeartbeats 4000000 in
theorem operators_any (h:Nat) (l:List Vl) (oa:Option Addr) (cap bb o:Nat) (w:World) (hs:VsIn w h oa cap bb o l) :
  Calls Tryz.prog 133 #[.slice oa l.length cap] w fun e w'=>(∃ v,e=.returned v∧w'.ownsRow w.heap.size 206 3 v (opsG 0 (l.map Vl.c)).length ((opsG 0 (l.map Vl.c)).flatMap ocells))∧Below w.heap.size w w':=by
 obtain⟨N,hN⟩:∃ N,l.length=N:=⟨_,rfl⟩;obtain⟨L,hL⟩:∃ L,l.map Vl.c=L:=⟨_,rfl⟩;rw[hN,hL];have hsm:=hs.small;have hcl:=hs.sl.le;have hcm:=hs.sl.max;unfold maxLen at hcm;rw[hN]at hsm hcl;have HS:=Lib.hid hs;have HL:=Lib.hid (And.intro hN hL);clear hs hN hL
 go_enter Tryz.func133,Tryz.ntmps133
 go_wp2_with fail
 go_loopg [3,4] N (fun q s3 s4 wr=>∃ (i:Nat) (D:List (Int×Nat×Nat)),s4=.int .i64 i∧Hid (Below w.heap.size w wr)∧Hid (wr.ownsRow w.heap.size 206 3 s3 D.length (D.flatMap ocells))∧Hid (opsG 0 L=D++opsG i (L.drop i))∧D.length≤i∧i≤N∧N-i≤q)
 case atStart=>exact⟨0,[],rfl,Lib.hid (Below.refl _ _),Lib.hid (World.ownsRow_nil _ _ _ _),Lib.hid rfl,Nat.le_refl _,Nat.zero_le _,Nat.le_refl _⟩
 case round =>
  obtain⟨i,D,rfl,hB,hO,hD,hDi,hiN,hq⟩:=hrel
  by_cases hi:i<N
  · have gi:decide ((i:Int)<(N:Int))=true:=by simpa using hi
    have gin:decide (i<N)=true:=by simpa using hi
    have ij0:(0:Int)≤(i:Int):=Int.natCast_nonneg _
    have ijN:(i:Int)<(N:Int):=by omega
    have hi63:(i:Int)+2≤9223372036854775807:=by omega
    have hil:i<l.length:=by rw[HL.out.1];exact hi
    have hli:l[i]?=some l[i]:=List.getElem?_eq_getElem hil;obtain⟨x,hx⟩:∃ x,l[i]=x:=⟨_,rfl⟩;rw[hx]at hli
    have hLi:L[i]?=some x.c:=by rw[← HL.out.2,List.getElem?_map,hli];rfl
    go_upto_region 6 with fail
    obtain⟨h5,hb5⟩:=box_new wr 206 #[.int .i64 0,.int .i64 (i:Int),.int .i64 ((i:Int)+1)];have hvs:=(HS.out.below hB.out).below hb5;have hlies:=hvs.sl.lies (by omega);have hbr:=((HS.out.below hB.out).sl.lies (by omega)).2;have HB5:=Lib.hid hb5;generalize hg5:wr.heap.size=g5 at *;have HG5:=Lib.hid hg5;clear hg5 hb5;generalize wr.alloc _=w5 at *;obtain⟨wd,hwd⟩:∃ b,wideO L (i+1)=b:=⟨_,rfl⟩;have hst:=ops_at hLi;rw[hwd]at hst;obtain⟨⟨tk,tt,⟨tn,td⟩,ti,tid⟩,koa,kb,ko,kcap,kids⟩:=x;rw[Vl.c_mk]at hst
    have hE:=fun w=>signM_any 61 tk tn td tt ti tid koa kids.length kcap w
    have hT:=fun w=>signM_any 60 tk tn td tt ti tid koa kids.length kcap w
    have hG:=fun w=>signM_any 62 tk tn td tt ti tid koa kids.length kcap w
    obtain⟨e0,he0⟩:∃ b,(tk==9&&tt==[61])=b:=⟨_,rfl⟩;obtain⟨e1,he1⟩:∃ b,(tk==9&&tt==[60])=b:=⟨_,rfl⟩;obtain⟨e2,he2⟩:∃ b,(tk==9&&tt==[62])=b:=⟨_,rfl⟩;rw[he0]at hE;rw[he1]at hT;rw[he2]at hG
    have hso:stepO (.mk ⟨tk,tt,(tn,td),ti,tid⟩ (kids.map Vl.c)) wd=if e0 then some (3,1) else if e1 then (if wd then some (2,2) else some (1,1)) else if e2 then (if wd then some (4,2) else some (5,1)) else none:=by
     rw[← he0,← he1,← he2];rfl
    obtain⟨so,hso2⟩:∃ s,stepO (.mk ⟨tk,tt,(tn,td),ti,tid⟩ (kids.map Vl.c)) wd=s:=⟨_,rfl⟩
    have hle:∀ op n,so=some (op,n)→1≤n∧n≤2∧1≤op∧op≤5∧(n=2→wd=true):=fun op n e=>step_le (hso2.trans e)
    rw[hso2]at hst hso;obtain⟨f0,f1,f2,f3,f4,f5,f6⟩:=hvs.row hli;generalize kids.length=K at *;have HV:=Lib.hid hvs;have HE:=Lib.hid hE;have HT:=Lib.hid hT;have HG:=Lib.hid hG;have HST:=Lib.hid (And.intro hst (And.intro hso hle));have HWD:=Lib.hid hwd;have hlt5:=h5.lt;have H5:=Lib.hid h5;clear hvs hli hil hx hLi hwd hst hE hT hG he0 he1 he2 hso hso2 hle h5;obtain⟨rfl,hbl⟩:=hlies
    go_cut [6] from 17 to 29 (fun s wx=>s=.bool wd∧Hid (Below w5.heap.size w5 wx))
    case first =>
     by_cases hi1:i+1<N
     · have gi1:decide ((i:Int)+1<(N:Int))=true:=by simp;omega
       have hil:i+1<l.length:=by rw[HL.out.1];exact hi1
       have hli:l[i+1]?=some l[i+1]:=List.getElem?_eq_getElem hil;obtain⟨x,hx⟩:∃ x,l[i+1]=x:=⟨_,rfl⟩;rw[hx]at hli
       have hLi:L[i+1]?=some x.c:=by rw[← HL.out.2,List.getElem?_map,hli];rfl
       obtain⟨⟨xk,xt,⟨xn,xd⟩,xi,xid⟩,xoa,xb,xo,xcap,kids⟩:=x;obtain⟨y0,y1,y2,y3,y4,y5,y6⟩:=HV.out.row hli
       have hw:(xk==9&&xt==[61])=wd:=by rw[← HWD.out];unfold wideO;rw[hLi,Vl.c_mk];rfl
       have hS:=fun w=>signM_any 61 xk xn xd xt xi xid xoa kids.length xcap w
       rw[hw]at hS;have HSS:=Lib.hid hS;generalize kids.length=K2 at *;clear hli hil hx hLi hw hS f0 f1 f2 f3 f4 f5 f6;go_wp2_with fail
       ((with_reducible refine(HSS.out _).mono ?_);rintro e w6 ⟨rfl,hb6⟩)
       have HB6:=Lib.hid hb6;clear hb6;go_wp2_with fail;go_meet;exact⟨rfl,HB6⟩
     · have gi1:decide ((i:Int)+1<(N:Int))=false:=by simp;omega
       obtain rfl:false=wd:=by
        rw[← HWD.out];unfold wideO;rw[List.getElem?_eq_none (by rw[← HL.out.2,List.length_map,HL.out.1];omega)];rfl
       go_wp2_with fail;go_meet;exact⟨rfl,Lib.hid (Below.refl _ _)⟩
    case rest =>
     obtain⟨rfl,hb6⟩:=hcut;obtain⟨m,rfl⟩:=grow_mk hb6.out;clear hb6;have c0:w5.cell? ⟨g5,0,none⟩=some (.int .i64 0):=(H5.out).cell 0;have fc0:=(H5.out).frozen 0;have c1:w5.cell? ⟨g5,1,none⟩=some (.int .i64 (i:Int)):=(H5.out).cell 1;have fc1:=(H5.out).frozen 1;have c2:w5.cell? ⟨g5,2,none⟩=some (.int .i64 ((i:Int)+1)):=(H5.out).cell 2;have fc2:=(H5.out).frozen 2;have lc:=(H5.out).lt
     have gne:g5≠bb:=by omega
     go_upto_block 2 with fail
     go_cut [] from 30 to 76 (fun wx=>∃ (op:Int) (n:Nat) (tz:Int),so=some (op,n)∧tz=(i:Int)+n∧Hid (Below g5 wr wx)∧Hid (Blk wx g5 206 #[.int .i64 op,.int .i64 (i:Int),.int .i64 tz]))
     case first =>
      cases e0 with
      | true =>
        go_wp2_with fail
        ((with_reducible refine((HE.out _)).mono ?_);rintro e w' ⟨rfl,hbw⟩)
        obtain⟨m2,rfl⟩:=grow_mk hbw;clear hbw;go_wp2_with fail;go_meet;exact⟨3,1,_,HST.out.2.1.trans rfl,rfl,Lib.hid ((HB5.out.trans ((grow_below _).mono (Nat.le_of_lt hlt5))).setCell (Nat.le_refl _) _),Lib.hid ((H5.out.grow _).put 0 (.int .i64 3))⟩
      | false =>
        cases e1 with
        | true =>
          cases wd with
          | true =>
            go_wp2_with fail
            ((with_reducible refine((HE.out _)).mono ?_);rintro e w' ⟨rfl,hbw⟩)
            obtain⟨m2,rfl⟩:=grow_mk hbw;clear hbw;go_wp2_with fail
            ((with_reducible refine((HT.out _)).mono ?_);rintro e w' ⟨rfl,hbw⟩)
            obtain⟨m3,rfl⟩:=grow_mk hbw;clear hbw;go_wp2_with fail;go_meet;exact⟨2,2,_,HST.out.2.1.trans rfl,rfl,Lib.hid (((HB5.out.trans ((grow_below _).mono (Nat.le_of_lt hlt5))).setCell (Nat.le_refl _) _).setCell (Nat.le_refl _) _),Lib.hid (((H5.out.grow _).put 0 (.int .i64 2)).put 2 (.int .i64 ((i:Int)+2)))⟩
          | false =>
            go_wp2_with fail
            ((with_reducible refine((HE.out _)).mono ?_);rintro e w' ⟨rfl,hbw⟩)
            obtain⟨m2,rfl⟩:=grow_mk hbw;clear hbw;go_wp2_with fail
            ((with_reducible refine((HT.out _)).mono ?_);rintro e w' ⟨rfl,hbw⟩)
            obtain⟨m3,rfl⟩:=grow_mk hbw;clear hbw;go_wp2_with fail
            ((with_reducible refine((HT.out _)).mono ?_);rintro e w' ⟨rfl,hbw⟩)
            obtain⟨m4,rfl⟩:=grow_mk hbw;clear hbw;go_wp2_with fail;go_meet;exact⟨1,1,_,HST.out.2.1.trans rfl,rfl,Lib.hid ((HB5.out.trans ((grow_below _).mono (Nat.le_of_lt hlt5))).setCell (Nat.le_refl _) _),Lib.hid ((H5.out.grow _).put 0 (.int .i64 1))⟩
        | false =>
          cases e2 with
          | true =>
            cases wd with
            | true =>
              go_wp2_with fail
              ((with_reducible refine((HE.out _)).mono ?_);rintro e w' ⟨rfl,hbw⟩)
              obtain⟨m2,rfl⟩:=grow_mk hbw;clear hbw;go_wp2_with fail
              ((with_reducible refine((HT.out _)).mono ?_);rintro e w' ⟨rfl,hbw⟩)
              obtain⟨m3,rfl⟩:=grow_mk hbw;clear hbw;go_wp2_with fail
              ((with_reducible refine((HT.out _)).mono ?_);rintro e w' ⟨rfl,hbw⟩)
              obtain⟨m4,rfl⟩:=grow_mk hbw;clear hbw;go_wp2_with fail
              ((with_reducible refine((HG.out _)).mono ?_);rintro e w' ⟨rfl,hbw⟩)
              obtain⟨m5,rfl⟩:=grow_mk hbw;clear hbw;go_wp2_with fail;go_meet;exact⟨4,2,_,HST.out.2.1.trans rfl,rfl,Lib.hid (((HB5.out.trans ((grow_below _).mono (Nat.le_of_lt hlt5))).setCell (Nat.le_refl _) _).setCell (Nat.le_refl _) _),Lib.hid (((H5.out.grow _).put 0 (.int .i64 4)).put 2 (.int .i64 ((i:Int)+2)))⟩
            | false =>
              go_wp2_with fail
              ((with_reducible refine((HE.out _)).mono ?_);rintro e w' ⟨rfl,hbw⟩)
              obtain⟨m2,rfl⟩:=grow_mk hbw;clear hbw;go_wp2_with fail
              ((with_reducible refine((HT.out _)).mono ?_);rintro e w' ⟨rfl,hbw⟩)
              obtain⟨m3,rfl⟩:=grow_mk hbw;clear hbw;go_wp2_with fail
              ((with_reducible refine((HT.out _)).mono ?_);rintro e w' ⟨rfl,hbw⟩)
              obtain⟨m4,rfl⟩:=grow_mk hbw;clear hbw;go_wp2_with fail
              ((with_reducible refine((HG.out _)).mono ?_);rintro e w' ⟨rfl,hbw⟩)
              obtain⟨m5,rfl⟩:=grow_mk hbw;clear hbw;go_wp2_with fail
              ((with_reducible refine((HG.out _)).mono ?_);rintro e w' ⟨rfl,hbw⟩)
              obtain⟨m6,rfl⟩:=grow_mk hbw;clear hbw;go_wp2_with fail;go_meet;exact⟨5,1,_,HST.out.2.1.trans rfl,rfl,Lib.hid ((HB5.out.trans ((grow_below _).mono (Nat.le_of_lt hlt5))).setCell (Nat.le_refl _) _),Lib.hid ((H5.out.grow _).put 0 (.int .i64 5))⟩
          | false =>
            go_wp2_with fail
            ((with_reducible refine((HE.out _)).mono ?_);rintro e w' ⟨rfl,hbw⟩)
            obtain⟨m2,rfl⟩:=grow_mk hbw;clear hbw;go_wp2_with fail
            ((with_reducible refine((HT.out _)).mono ?_);rintro e w' ⟨rfl,hbw⟩)
            obtain⟨m3,rfl⟩:=grow_mk hbw;clear hbw;go_wp2_with fail
            ((with_reducible refine((HT.out _)).mono ?_);rintro e w' ⟨rfl,hbw⟩)
            obtain⟨m4,rfl⟩:=grow_mk hbw;clear hbw;go_wp2_with fail
            ((with_reducible refine((HG.out _)).mono ?_);rintro e w' ⟨rfl,hbw⟩)
            obtain⟨m5,rfl⟩:=grow_mk hbw;clear hbw;go_wp2_with fail
            ((with_reducible refine((HG.out _)).mono ?_);rintro e w' ⟨rfl,hbw⟩)
            obtain⟨m6,rfl⟩:=grow_mk hbw;clear hbw;go_wp2_with fail
            go_roundg (N-(i+1))
            case measure=>omega
            case rel =>
             have hbz:=(HB5.out.trans ((grow_below (((((m.trans m2).trans m3).trans m4).trans m5).trans m6)).mono (Nat.le_of_lt hlt5))).mono (by have:=HG5.out;omega:wr.heap.size≤g5);exact⟨i+1,D,by go_num,Lib.hid (hB.out.trans (hbz.mono hB.out.size)),Lib.hid (owns_bel hO.out hbz),Lib.hid (by rw[hD.out,HST.out.1,HST.out.2.1];rfl),by omega,hi,Nat.le_refl _⟩
     case rest =>
      obtain⟨op,n,tz,hso,rfl,hB6,h5⟩:=hcut;obtain⟨hn1,hn2,ho1,ho2,hwide⟩:=HST.out.2.2 op n hso
      have hin:i+n≤N:=by
       by_cases h2:n=2
       · have hw:=hwide h2
         have hlt:i+1<N:=Classical.byContradiction fun hc=>by
          rw[← HWD.out,wideO,List.getElem?_eq_none (by rw[← HL.out.2,List.length_map,HL.out.1];omega)]at hw
          cases hw
         omega
       · omega
      have hbz:=hB6.out.mono (by have:=HG5.out;omega:wr.heap.size≤g5);have HO6:=Lib.hid (owns_bel hO.out hbz);have HB7:=Lib.hid (hB.out.trans (hbz.mono hB.out.size));have hbs:=HB7.out.size
      have hne:∀ k,u3.ownBlock=some k→k≠g5:=fun k hk=>by have:=(hO.out.lt k hk).2;have:=HG5.out;omega
      have HNE:=Lib.hid hne
      have hst:opsG 0 L=(D++[(op,i,i+n)])++opsG (i+n) (L.drop (i+n)):=by
       rw[hD.out,HST.out.1,hso,List.append_assoc];rfl
      have HSN:=Lib.hid hst;have q0:wc.cell? ⟨g5,0,none⟩=some (.int .i64 op):=(h5.out).cell 0;have fq0:=(h5.out).frozen 0;have q1:wc.cell? ⟨g5,1,none⟩=some (.int .i64 (i:Int)):=(h5.out).cell 1;have fq1:=(h5.out).frozen 1;have q2:wc.cell? ⟨g5,2,none⟩=some (.int .i64 ((i:Int)+(n:Int))):=(h5.out).cell 2;have fq2:=(h5.out).frozen 2;have lq:=(h5.out).lt;clear f0 f1 f2 f3 f4 f5 f6 c0 fc0 c1 fc1 c2 fc2 lc HE HT HG HST HWD H5 HV HB5 hlt5 hne hst hbz hB6 hO hD hwide hso
      go_wp2_with (at_builtin;refine wpList_add elOp rfl _ _ rfl rfl (HO6.out.alloc _) (by simp;omega) (Blk.new wc _ _) 1 rfl rfl (by simp[Value.oneCell']) (by omega) (by omega) ?_;intro gg cap3 w3 ho3 hg3 hat hvb;have h53:Blk w3 g5 206 #[.int .i64 op,.int .i64 (i:Int),.int .i64 ((i:Int)+(n:Int))]:=(hg3.block g5 (by simp;omega) (fun e=>HNE.out g5 e.symm rfl)).trans (h5.out.old _);have r2:w3.cell? ⟨g5,2,none⟩=some (.int .i64 ((i:Int)+(n:Int))):=h53.cell 2;have H3:=Lib.hid (And.intro ho3 (And.intro hg3 hvb));clear ho3 hg3 hat hvb)
      go_roundg (N-(i+n))
      case measure=>omega
      case rel =>
       obtain⟨ho3,hg3,hvb⟩:=H3.out;refine⟨i+n,D++[(op,i,i+n)],by go_num,Lib.hid (below_far (HB7.out.alloc hbs _) hg3 fun k hk=>(hvb k hk).1),Lib.hid ?_,HSN,by simp;omega,hin,Nat.le_refl _⟩;rw[List.length_append,List.flatMap_append,List.flatMap_singleton];unfold ocells;simp only[Int.natCast_add];exact ho3
  · obtain rfl:i=N:=by omega
    have gi:decide ((i:Int)<(i:Int))=false:=by simp
    have gin:decide (i<i)=false:=by simp
    have hDe:opsG 0 L=D:=by
     rw[hD.out,List.drop_of_length_le (by rw[← HL.out.2,List.length_map,HL.out.1];exact Nat.le_refl _)];exact List.append_nil D
    have HDE:=Lib.hid hDe;clear hDe;go_wp2_with fail;go_ret;exact⟨⟨_,rfl,by rw[HDE.out];exact hO.out⟩,hB.out⟩
theorem cutp_any (n p:List UInt8) (w:World):Calls Tryz.prog 130 #[.string ⟨n.toArray⟩,.string ⟨p.toArray⟩] w fun e w'=>e=.returned (.tuple #[.string ⟨(if p <+: n then n.drop p.length else n).toArray⟩,.bool (decide (p <+: n))])∧w=w' :=
 (Any.strings_CutPrefix Tryz.laysCP ⟨n.toArray⟩ ⟨p.toArray⟩ w).mono fun e w' ⟨he,hw⟩=>⟨by
   rw[he]
   have h1:Lib.hasPrefix n p=decide (p <+: n):=by
    unfold Lib.hasPrefix;rw[Bool.eq_iff_iff];simp
   show Ending.returned (.tuple #[.string ⟨(Lib.trimPrefix n p).toArray⟩,.bool (Lib.hasPrefix n p)])=_;unfold Lib.trimPrefix;rw[h1]
   simp,hw.symm⟩
theorem words_len (n:List UInt8):(wordsN n).length≤8:=by
 unfold wordsN
 repeat (first|split|decide)
set_option maxRecDepth 20000 in
set_option maxHeartbeats 4000000 in
theorem plainM_any (h:Nat) (l:List Vl) (oa:Option Addr) (cap b o:Nat) (w:World) (hs:VsIn w h oa cap b o l) (hm:mayV 64 (l.map Vl.c)=true) (box:Bool) :
  Calls Tryz.prog 99 #[.slice oa l.length cap,.bool box] w fun e w'=>retC (· < w.heap.size) (plainN (exH h) (l.map Vl.c) box) e w'∧Below w.heap.size w w':=by
 obtain⟨Y,hY⟩:∃ Y,plainN (exH h) (l.map Vl.c) box=Y:=⟨_,rfl⟩;rw[hY];unfold plainN at hY;obtain⟨h4,hb4⟩:=box_new w 35 zero14
 have hw1:(w.alloc (.cells zero14 35)).heap.size=w.heap.size+1:=by simp
 have hs1:=hs.below hb4;obtain⟨N,hN⟩:∃ N,l.length=N:=⟨_,rfl⟩;obtain⟨L,hL⟩:∃ L,l.map Vl.c=L:=⟨_,rfl⟩;have HN:=Lib.hid (And.intro hN hL);rw[hL]at hY hm;rw[hN];obtain⟨g,hg⟩:∃ g,w.heap.size=g:=⟨_,rfl⟩;have HG:=Lib.hid hg;rw[hg]at h4 hw1;have hp:=place_any 129 colonV (enters_of Tryz.func129 (by kernel_rfl) rfl) (fun tk tn td tt ti tid koa K kcap k w=>colonM_any tk tn td tt ti tid koa K kcap w) h l oa cap b o _ hs1;obtain⟨P,hP⟩:∃ P,L.findIdx? colonV=P:=⟨_,rfl⟩;rw[hN,hL,hP]at hp;rw[hP]at hY;have HP:=Lib.hid hp;have HPP:=Lib.hid hP;have H4:=Lib.hid h4;have HB4:=Lib.hid hb4;have HW1:=Lib.hid hw1;have HY:=Lib.hid hY;have HS:=Lib.hid hs1;have HM:=Lib.hid hm;clear hs hs1 h4 hb4 hw1 hN hL hY hp hP hm;simp only[zero14]at HP HB4 HW1 H4 HS
 go_enter Tryz.func99,Tryz.ntmps99
 go_upto_region 1 with fail
 try simp only[hg]
 clear hg;generalize w.alloc _=w1 at *
 cases P with
 | none =>
   obtain rfl:none=Y:=HY.out;simp only[placeI]at HP;go_wp2_with fail
   ((with_reducible refine HP.out.mono ?_);rintro e w2 ⟨rfl,hb2⟩)
   have H42:=Lib.hid (H4.out.below hb2 H4.out.lt);have HB2:=bfH HB4 hb2;clear hb2;obtain⟨c0,fc0,c1,fc1,c2,fc2,c3,fc3,c4,fc4,c5,fc5,c6,fc6,c7,fc7,c8,fc8,c9,fc9,c10,fc10,c11,fc11,c12,fc12,c13,fc13,lc⟩:=Blk.z14 (H42.out);go_wp2_with fail;refine bodyPost_ret (v:=.tuple #[.agg #[.int .i64 0,.slice none 0 0,.int .i64 0,.int .i64 0,.string ⟨#[]⟩,.int .i64 0,.int .i64 0,.int .i64 0,.int .i64 0,.int .i64 0,.slice none 0 0,.string ⟨#[]⟩,.string ⟨#[]⟩,.bool false],.bool false]) ?_ rfl ?_
   · exact ret_cd2 Tryz.results99 rfl rfl (Blk.zput (H42.out)) rfl
   · exact none_cd (HB2.out) (Nat.le_of_eq HG.out) (rfl) rfl
 | some i =>
   simp only[placeI]at HP
   have hiN:i<N:=by
    have:=(List.findIdx?_eq_some_iff_getElem.1 HPP.out).1;rw[← HN.out.2,List.length_map,HN.out.1]at this;exact this
   have ij0:(0:Int)≤(i:Int):=Int.natCast_nonneg _
   have gi:decide ((i:Int)<0)=false:=by simp
   have hi63:(i:Int)+1≤9223372036854775807:=by
    have h1:=HS.out.sl.le;have h2:=HS.out.sl.max;rw[HN.out.1]at h1;unfold maxLen at h2;omega
   obtain⟨oa1,cap1,o1,hr1,hv1⟩:=slice_hi HS.out HN.out.1 (Nat.le_of_lt hiN);obtain⟨oa2,cap2,o2,hr2,hv2⟩:=slice_lo HS.out HN.out.1 (Nat.succ_le_of_lt hiN)
   have hm1:(l.take i).map Vl.c=L.take i:=by rw[← HN.out.2,List.map_take]
   have hm2:(l.drop (i+1)).map Vl.c=L.drop (i+1):=by rw[← HN.out.2,List.map_drop]
   generalize l.take i=D1 at *;generalize l.drop (i+1)=D2 at *
   have hr2:=fun w=>hr2 ((i:Int)+1) w (by omega)
   have hr1:=fun w=>hr1 (i:Int) w rfl
   have HV:=Lib.hid (And.intro hv1 (And.intro hv2 (And.intro hm1 hm2)));have hmb:=(mayW_take HM.out (i+1)).2;obtain⟨n1,hn1⟩:∃ n,aloneN (L.take i)=n:=⟨_,rfl⟩;obtain⟨B,hB⟩:∃ B,L.drop (i+1)=B:=⟨_,rfl⟩
   have hY2:pwordN (exH h) n1 B box=Y:=by rw[← hn1,← hB];exact HY.out
   rw[hB]at hmb;have HY2:=Lib.hid hY2;have HX:=Lib.hid (And.intro hn1 (And.intro hB hmb));clear hv1 hv2 hm1 hm2 hn1 hB hmb hY2 HY;go_wp2_with fail
   ((with_reducible refine HP.out.mono ?_);rintro e w2 ⟨rfl,hb2⟩)
   have HB2:=bfH HB4 hb2;have H42:=Lib.hid (H4.out.below hb2 H4.out.lt)
   have HAL:=Lib.hid (show ∀ m:Ext w2,Calls Tryz.prog 97 #[.slice oa1 D1.length cap1] (grow w2 m) fun e w'=>e=.returned (.string ⟨n1.toArray⟩)∧Below (grow w2 m).heap.size (grow w2 m) w' from fun m=>by
    have:=aloneM_any h D1 oa1 cap1 b o1 (grow w2 m) (HV.out.1 _ ((HS.out.below hb2).below (grow_below m)))
    rwa [HV.out.2.2.1,HX.out.1]at this)
   have HS2:=Lib.hid (HS.out.below hb2);clear hb2 HP
   go_upto_region 4 with fail
   refine wp_region_grow (by kernel_rfl) (by kernel_rfl) ?_
   repeat (go_big_quiet_step ((first | (go_at_call 97;with_reducible exact calls_grow (HAL.out _)))))
   refine wpQuiet_nil ?_;rintro _ ⟨m,rfl⟩;have HB3:=bfH HB2 (grow_below m);have H43:=Lib.hid (H42.out.below (grow_below m) H42.out.lt);have HV3:=Lib.hid (HV.out.2.1 _ (HS2.out.below (grow_below m)));clear HB2 H42 HS2 HAL;generalize grow w2 m=w3 at *;have HC1:=Lib.hid (show ∀ w,Calls Tryz.prog 130 #[.string ⟨n1.toArray⟩,.string ⟨#[109,105,110,45]⟩] w fun e w'=>e=.returned (.tuple #[.string ⟨(if minDashS <+: n1 then n1.drop 4 else n1).toArray⟩,.bool (decide (minDashS <+: n1))])∧w=w' from cutp_any n1 minDashS);have HC2:=Lib.hid (show ∀ w,Calls Tryz.prog 130 #[.string ⟨n1.toArray⟩,.string ⟨#[109,97,120,45]⟩] w fun e w'=>e=.returned (.tuple #[.string ⟨(if maxDashS <+: n1 then n1.drop 4 else n1).toArray⟩,.bool (decide (maxDashS <+: n1))])∧w=w' from cutp_any n1 maxDashS)
   go_upto_region 5 with fail
   go_cut [9] from 9 to 9 (fun s wx=>s=.int .i64 3∧wx=w3)
   case first =>
    go_wp2_with fail;go_meet;exact⟨rfl,rfl⟩
   obtain⟨rfl,rfl⟩:=hcut
   rename_i hK
   refine hK _ _ ?_
   apply wp_seq_k
   intro K0 hK0
   go_cut [7,9] from 10 to 43 (fun s7 s9 wx=>∃ (n2:List UInt8) (op:Int),s7=.string ⟨n2.toArray⟩∧s9=.int .i64 op∧wx=wc∧Hid (0≤op∧op≤6)∧Hid (ptail (exH h) n2 op B box=Y))
   case first =>
    by_cases h1:minDashS <+: n1
    · rw[decide_eq_true h1,if_pos h1]at HC1;have HR:=Lib.hid (show ptail (exH h) (n1.drop 4) 4 B box=Y by rw[← HY2.out];unfold pwordN;rw[if_pos h1]);generalize n1.drop 4=n2 at *;clear h1 HC2;go_wp2_with fail
      ((with_reducible refine(HC1.out _).mono ?_);rintro e w4 ⟨rfl,rfl⟩)
      go_wp2_with fail;go_meet;exact⟨n2,4,rfl,rfl,rfl,Lib.hid (by decide),HR⟩
    · rw[decide_eq_false h1,if_neg h1]at HC1
      by_cases h2:maxDashS <+: n1
      · rw[decide_eq_true h2,if_pos h2]at HC2;have HR:=Lib.hid (show ptail (exH h) (n1.drop 4) 2 B box=Y by rw[← HY2.out];unfold pwordN;rw[if_neg h1,if_pos h2]);generalize n1.drop 4=n2 at *;clear h1 h2;go_wp2_with fail
        ((with_reducible refine(HC1.out _).mono ?_);rintro e w4 ⟨rfl,rfl⟩)
        go_wp2_with fail
        ((with_reducible refine(HC2.out _).mono ?_);rintro e w4 ⟨rfl,rfl⟩)
        go_wp2_with fail;go_meet;exact⟨n2,2,rfl,rfl,rfl,Lib.hid (by decide),HR⟩
      · rw[decide_eq_false h2,if_neg h2]at HC2;have HR:=Lib.hid (show ptail (exH h) n1 3 B box=Y by rw[← HY2.out];unfold pwordN;rw[if_neg h1,if_neg h2]);clear h1 h2;go_wp2_with fail
        ((with_reducible refine(HC1.out _).mono ?_);rintro e w4 ⟨rfl,rfl⟩)
        go_wp2_with fail
        ((with_reducible refine(HC2.out _).mono ?_);rintro e w4 ⟨rfl,rfl⟩)
        go_wp2_with fail;go_meet;exact⟨n1,3,rfl,rfl,rfl,Lib.hid (by decide),HR⟩
   case rest =>
    obtain⟨n2,op,rfl,rfl,rfl,hop,hpt⟩:=hcut;have hpt2:=hpt.out;unfold ptail at hpt2;obtain⟨n3,hn3⟩:∃ n,knownN n2 box=n:=⟨_,rfl⟩
    have hk:=fun w=>knownM_any n2 box w
    simp only[hn3]at hpt2 hk;have HK:=Lib.hid hk;have HPT:=Lib.hid hpt2;have HR:=Lib.hid (rangedM_any n3);obtain⟨r,hr⟩:∃ r,rangedN n3=r:=⟨_,rfl⟩;rw[hr]at HR HPT;clear hpt2 hpt hk hn3 hr HC1 HC2 HY2;go_wp2_with fail
    ((with_reducible refine(HK.out _).mono ?_);rintro e w4 ⟨rfl,hb4⟩)
    have HB4':=bfH HB3 hb4;have H44:=Lib.hid (H43.out.below hb4 H43.out.lt);have HV4:=Lib.hid (HV3.out.below hb4);clear hb4 HB3 H43 HV3
    cases r with
    | true =>
      have hpt:(valueN (exH h) n3 B).map (cmpC n3 op)=Y:=HPT.out;have hv:=valueM_any h D2 oa2 cap2 b o2 w4 HV4.out n3;rw[HV.out.2.2.2,HX.out.2.1,valH_N n3 HX.out.2.2]at hv;have HVL:=Lib.hid hv;have HPT2:=Lib.hid hpt;clear hv hpt HPT HK hK;go_wp2_with fail
      ((with_reducible refine(HR.out _).mono ?_);rintro e w5 ⟨rfl,rfl⟩)
      go_wp2_with fail
      ((with_reducible refine HVL.out.mono ?_);rintro e w6 ⟨⟨v,ok,rfl,hok,⟨vk,vn,vd,vu,voa,vL,vc,rfl⟩,hE⟩,hb2⟩)
      have HE:=Lib.hid (And.intro hok (And.intro hE hb2));have h62:=H44.out.below hb2 H44.out.lt;have hw46:=hb2.size;clear hok hE hb2 HVL HR
      go_upto_region 15 with fail
      obtain⟨h8,hb3⟩:=box_new w6 31 #[.int .i64 vk,.int .i64 vn,.int .i64 vd,.int .i64 vu,.slice voa vL vc];have h63:=h62.below hb3 h62.lt;have HB5:=bfH (bfH HB4' HE.out.2.2) hb3;have HE2:=Lib.hid (And.intro HE.out.1 fun E hE=>(HE.out.2.1 E hE).below hb3)
      have hg8:w6.heap.size≠g:=by have:=h62.lt;omega
      clear h62 hb3 HE;generalize w6.heap.size=g8 at *;generalize w6.alloc _=w7 at *;obtain⟨d0,e0,d1,e1,d2,e2,d3,e3,d4,e4,l8⟩:=Blk.five h8;have H63:=Lib.hid h63;clear h8 h63;go_wp2_with fail
      ((with_reducible refine(leafM_any 4 0 op vk vn vd vu _ _ _ voa vL vc false _).mono ?_);rintro e w8 ⟨rfl,hb4⟩)
      have H64:=Lib.hid (H63.out.below hb4 H63.out.lt);have HE3:=Lib.hid (And.intro HE2.out.1 fun E hE=>(HE2.out.2 E hE).below hb4);have HB6:=bfH HB5 hb4;clear d0 e0 d1 e1 d2 e2 d3 e3 d4 e4 l8 hb4 H63 HE2 HB5;obtain⟨c0,fc0,c1,fc1,c2,fc2,c3,fc3,c4,fc4,c5,fc5,c6,fc6,c7,fc7,c8,fc8,c9,fc9,c10,fc10,c11,fc11,c12,fc12,c13,fc13,lc⟩:=Blk.z14 (H64.out);go_wp2_with fail;refine bodyPost_ret (v:=.tuple #[.agg #[.int .i64 4,.slice none 0 0,.int .i64 4,.int .i64 0,.string ⟨n3.toArray⟩,.int .i64 op,.int .i64 vk,.int .i64 vn,.int .i64 vd,.int .i64 vu,.slice voa vL vc,.string ⟨#[]⟩,.string ⟨#[]⟩,.bool false],.bool ok]) ?_ rfl ?_
      · exact ret_cd2 Tryz.results99 rfl rfl (H64.out.put14 _ _ _ _ _ _ _ _ _ _ _ _ _ _) rfl
      · exact tail_cd HB6.out (Nat.le_of_eq HG.out) H44.out.lt (by rw[HE3.out.1,← HPT2.out];cases valueN (exH h) n3 B<;>rfl) ⟨_,_,_,_,_,_,_,_,_,_,_,_,_,_,_,_,_,_,rfl⟩ (fun C hC=>by rw[← HPT2.out]at hC;obtain⟨E,hE,rfl⟩:=Option.map_eq_some_iff.1 hC;exact cmp_cd n3 op (HE3.out.2 E hE) (by have:=hop.out;unfold I64;omega)) rfl
    | false =>
      have hpt:(if n3≠[]∧op=3 then (if aloneN B≠[]∧aloneN B∈wordsN n3 then some (nameWordC n3 (aloneN B)) else none) else none)=Y:=HPT.out;clear HPT HK hK
      by_cases h3:n3=[]
      · rw[if_neg (by rintro⟨h,_⟩;exact h h3)]at hpt;have HYN:=Lib.hid hpt.symm;subst h3;clear hpt;obtain⟨c0,fc0,c1,fc1,c2,fc2,c3,fc3,c4,fc4,c5,fc5,c6,fc6,c7,fc7,c8,fc8,c9,fc9,c10,fc10,c11,fc11,c12,fc12,c13,fc13,lc⟩:=Blk.z14 (H44.out);go_wp2_with fail
        ((with_reducible refine(HR.out _).mono ?_);rintro e w5 ⟨rfl,rfl⟩)
        go_wp2_with fail;refine bodyPost_ret (v:=.tuple #[.agg #[.int .i64 0,.slice none 0 0,.int .i64 0,.int .i64 0,.string ⟨#[]⟩,.int .i64 0,.int .i64 0,.int .i64 0,.int .i64 0,.int .i64 0,.slice none 0 0,.string ⟨#[]⟩,.string ⟨#[]⟩,.bool false],.bool false]) ?_ rfl ?_
        · exact ret_cd2 Tryz.results99 rfl rfl (Blk.zput (H44.out)) rfl
        · exact none_cd (HB4'.out) (Nat.le_of_eq HG.out) (HYN.out) rfl
      · have g0:(n3==[])=false:=beq_eq_false_iff_ne.2 h3;have g1:(n3 != [])=true:=bne_iff_ne.2 h3
        by_cases ho:op=3
        · subst ho;rw[if_pos ⟨h3,rfl⟩]at hpt;have hal:=aloneM_any h D2 oa2 cap2 b o2 w4 HV4.out;rw[HV.out.2.2.2,HX.out.2.1]at hal;obtain⟨wd,hwd⟩:∃ x,aloneN B=x:=⟨_,rfl⟩;rw[hwd]at hal hpt;have HAL:=Lib.hid hal;have HYW:=Lib.hid hpt;clear hal hpt hwd h3;go_wp2_with fail
          ((with_reducible refine(HR.out _).mono ?_);rintro e w5 ⟨rfl,rfl⟩)
          go_wp2_with fail
          ((with_reducible refine HAL.out.mono ?_);rintro e w6 ⟨rfl,hb6⟩)
          have H46:=Lib.hid (H44.out.below hb6 H44.out.lt);have HB6:=bfH HB4' hb6;clear hb6 HAL;go_wp2_with fail
          ((with_reducible refine(leafM_any 5 0 0 0 0 0 0 _ _ _ none 0 0 false _).mono ?_);rintro e w8 ⟨rfl,hb4⟩)
          have H64:=Lib.hid (H46.out.below hb4 H46.out.lt);have HB7:=bfH HB6 hb4;clear hb4
          by_cases h4:wd=[]
          · subst h4;rw[if_neg (by rintro⟨h,_⟩;exact h rfl)]at HYW;obtain⟨c0,fc0,c1,fc1,c2,fc2,c3,fc3,c4,fc4,c5,fc5,c6,fc6,c7,fc7,c8,fc8,c9,fc9,c10,fc10,c11,fc11,c12,fc12,c13,fc13,lc⟩:=Blk.z14 (H64.out);go_wp2_with fail;refine bodyPost_ret (v:=.tuple #[.agg #[.int .i64 4,.slice none 0 0,.int .i64 5,.int .i64 0,.string ⟨n3.toArray⟩,.int .i64 0,.int .i64 0,.int .i64 0,.int .i64 0,.int .i64 0,.slice none 0 0,.string ⟨#[]⟩,.string ⟨#[]⟩,.bool false],.bool false]) ?_ rfl ?_
            · exact ret_cd2 Tryz.results99 rfl rfl (H64.out.put14 _ _ _ _ _ _ _ _ _ _ _ _ _ _) rfl
            · exact tail_cd HB7.out (Nat.le_of_eq HG.out) H44.out.lt (by rw[← HYW.out];rfl) ⟨_,_,_,_,_,_,_,_,_,_,_,_,_,_,_,_,_,_,rfl⟩ (fun C hC=>by rw[← HYW.out]at hC;cases hC) rfl
          · have g2:(wd==[])=false:=beq_eq_false_iff_ne.2 h4;have g3:(wd != [])=true:=bne_iff_ne.2 h4;go_wp2_with fail
            ((with_reducible refine(words_any n3 _).mono ?_);rintro e w9 ⟨⟨v,rfl,hz⟩,hb9⟩)
            have HAM:=Lib.hid (among_any (wordsN n3) wd v w9 hz (words_len n3));have H69:=Lib.hid (H64.out.below hb9 H64.out.lt);have HB9:=bfH HB7 hb9;clear hz hb9;go_wp2_with fail
            ((with_reducible refine HAM.out.mono ?_);rintro e w10 ⟨rfl,rfl⟩)
            obtain⟨c0,fc0,c1,fc1,c2,fc2,c3,fc3,c4,fc4,c5,fc5,c6,fc6,c7,fc7,c8,fc8,c9,fc9,c10,fc10,c11,fc11,c12,fc12,c13,fc13,lc⟩:=Blk.z14 (H69.out);go_wp2_with fail;refine bodyPost_ret (v:=.tuple #[.agg #[.int .i64 4,.slice none 0 0,.int .i64 5,.int .i64 0,.string ⟨n3.toArray⟩,.int .i64 0,.int .i64 0,.int .i64 0,.int .i64 0,.int .i64 0,.slice none 0 0,.string ⟨wd.toArray⟩,.string ⟨#[]⟩,.bool false],.bool (decide (wd∈wordsN n3))]) ?_ rfl ?_
            · exact ret_cd2 Tryz.results99 rfl rfl (H69.out.put14 _ _ _ _ _ _ _ _ _ _ _ _ _ _) rfl
            · exact tail_cd HB9.out (Nat.le_of_eq HG.out) H44.out.lt (by rw[← HYW.out];by_cases hx:wd∈wordsN n3<;>simp[hx,h4]) ⟨_,_,_,_,_,_,_,_,_,_,_,_,_,_,_,_,_,_,rfl⟩ (fun C hC=>by rw[← HYW.out]at hC;split at hC;(obtain rfl:=Option.some.inj hC;exact word_cd _ _ 5 n3 wd (by decide));cases hC) rfl
        · have g4:(op==3)=false:=beq_eq_false_iff_ne.2 ho;rw[if_neg (by rintro⟨_,h⟩;exact ho h)]at hpt;have HYN:=Lib.hid hpt.symm;clear hpt ho h3;obtain⟨c0,fc0,c1,fc1,c2,fc2,c3,fc3,c4,fc4,c5,fc5,c6,fc6,c7,fc7,c8,fc8,c9,fc9,c10,fc10,c11,fc11,c12,fc12,c13,fc13,lc⟩:=Blk.z14 (H44.out);go_wp2_with fail
          ((with_reducible refine(HR.out _).mono ?_);rintro e w5 ⟨rfl,rfl⟩)
          go_wp2_with fail;refine bodyPost_ret (v:=.tuple #[.agg #[.int .i64 0,.slice none 0 0,.int .i64 0,.int .i64 0,.string ⟨#[]⟩,.int .i64 0,.int .i64 0,.int .i64 0,.int .i64 0,.int .i64 0,.slice none 0 0,.string ⟨#[]⟩,.string ⟨#[]⟩,.bool false],.bool false]) ?_ rfl ?_
          · exact ret_cd2 Tryz.results99 rfl rfl (Blk.zput (H44.out)) rfl
          · exact none_cd (HB4'.out) (Nat.le_of_eq HG.out) (HYN.out) rfl
theorem ops_cons:∀ (l:List Vt) (i:Nat) (o:Int×Nat×Nat) (D:List (Int×Nat×Nat)),opsG i l=o::D→i≤o.2.1∧o.2.1<o.2.2∧o.2.2≤i+l.length∧1≤o.1∧o.1≤5∧D=opsG o.2.2 (l.drop (o.2.2-i)):=by
 intro l
 induction l with
 | nil=>intro i o D h;unfold opsG at h;cases h
 | cons v r ih =>
   intro i o D h;rw[ops_step]at h
   cases hs:stepO v (wideO r 0) with
   | none =>
     rw[hs]at h;obtain⟨h1,h2,h3,h4,h5,h6⟩:=ih (i+1) o D h;refine⟨by omega,h2,by rw[List.length_cons];omega,h4,h5,?_⟩;rw[h6,show o.2.2-i=(o.2.2-(i+1))+1 by omega,List.drop_succ_cons]
   | some x =>
     obtain⟨op,n⟩:=x;rw[hs]at h;obtain⟨h1,h2,h3,h4,hw⟩:=step_le hs;obtain⟨rfl,rfl⟩:=List.cons.inj h;refine⟨Nat.le_refl _,by simp only;omega,?_,h3,h4,?_⟩
     · simp only[List.length_cons]
       by_cases h2n:n=2
       · have hw:=hw h2n
         match r with
         | []=>cases hw
         | _::_=>simp only[List.length_cons];omega
       · omega
     · simp only;rw[show i+n-i=(n-1)+1 by omega,List.drop_succ_cons]
class Bel (w w':World):Prop where out:Below w.heap.size w w'
instance (w:World):Bel w w:=⟨Below.refl _ _⟩
instance (w w1:World) (m:Ext w1) [h:Bel w w1]:Bel w (grow w1 m):=⟨below_grow h.out m⟩
instance (w w1:World) (o:Obj) [h:Bel w w1]:Bel w (w1.alloc o):=⟨h.out.alloc h.out.size o⟩
instance (w w1:World) [h:Bel w w1]:Bel w w1.drew:=⟨h.out.drew⟩
class Up (w:World) (g:Nat):Prop where out:w.heap.size≤g
instance (w w1:World) [h:Bel w w1]:Up w w1.heap.size:=⟨h.out.size⟩
instance (w w1:World) (g o:Nat) (v:Value) [h:Bel w w1] [hg:Up w g]:Bel w (w1.setCell ⟨g,o,none⟩ v):=⟨h.out.setCell hg.out v⟩
class Has (w:World) (g:Nat) (t:TypeId) (V:Array Value):Prop where out:Blk w g t V
instance (w:World) (t:TypeId) (V:Array Value):Has (w.alloc (.cells V t)) w.heap.size t V:=⟨Blk.new w t V⟩
instance (w:World) (m:Ext w) (g:Nat) (t:TypeId) (V:Array Value) [h:Has w g t V]:Has (grow w m) g t V:=⟨h.out.grow m⟩
instance (w:World) (g:Nat) (t:TypeId) (V:Array Value) [h:Has w g t V]:Has w.drew g t V:=⟨blk_drew h.out⟩
def CmpAt (w:World) (X:Option Ct) (args:Array Value):Prop:=∀ wx,Bel w wx→Calls Tryz.prog 134 args wx fun e w'=>∃ (vk:Int) (voa:Option Addr) (vn vc:Nat) (vk2 vt:Int) (vnm:ByteArray) (vop ve0 ve1 ve2 ve3:Int) (vea:Option Addr) (ven vec:Nat) (vwd vvl:ByteArray) (van:Bool),e=.returned (.tuple #[.agg #[.int .i64 vk,.slice voa vn vc,.int .i64 vk2,.int .i64 vt,.string vnm,.int .i64 vop,.int .i64 ve0,.int .i64 ve1,.int .i64 ve2,.int .i64 ve3,.slice vea ven vec,.string vwd,.string vvl,.bool van],.bool X.isSome])∧Below wx.heap.size wx w'∧Hid (∀ C,X=some C→isCd (· < wx.heap.size) C (.agg #[.int .i64 vk,.slice voa vn vc,.int .i64 vk2,.int .i64 vt,.string vnm,.int .i64 vop,.int .i64 ve0,.int .i64 ve1,.int .i64 ve2,.int .i64 ve3,.slice vea ven vec,.string vwd,.string vvl,.bool van]) w')
theorem cmp_at {h:Nat} {l:List Vl} {oa:Option Addr} {cap b o:Nat} {w:World} (hs:VsIn w h oa cap b o l) (hm:mayV 64 (l.map Vl.c)=true) (n:List UInt8) {op:Int} (ho:I64 op):CmpAt w (comparedN (exH h) n op (l.map Vl.c)) #[.string ⟨n.toArray⟩,.int .i64 op,.slice oa l.length cap]:=fun wx hx=>by
 have:=comparedM_any h l oa cap b o wx (hs.below hx.out) n op ho;rw[cmpH_N _ _ hm]at this;refine this.mono ?_;rintro e w' ⟨⟨v,ok,rfl,rfl,⟨vk,voa,vn,vc,vk2,vt,vnm,vop,ve0,ve1,ve2,ve3,vea,ven,vec,vwd,vvl,van,rfl⟩,hC⟩,hb⟩;exact⟨_,_,_,_,_,_,_,_,_,_,_,_,_,_,_,_,_,_,rfl,hb,Lib.hid hC⟩
def NewC (w wx:World) (g:Nat) (X:Option Ct):Prop:=w.heap.size≤g∧Below w.heap.size w wx∧∃ V,isC14 (.agg V)∧Blk wx g 35 V∧∀ C,X=some C→isCd (· < w.heap.size) C (.agg V) wx
theorem newc_last {w wy:World} {X:Option Ct} {V:Array Value} {n:Nat} [hb:Bel w wy] [hn:Up w n] (h14:isC14 (.agg V)) (hC:∀ C,X=some C→isCd (· < n) C (.agg V) wy):NewC w (wy.alloc (.cells V 35)) wy.heap.size X :=
 ⟨hb.out.size,hb.out.alloc hb.out.size _,V,h14,Blk.new _ _ _,fun C h=>((hC C h).below (below_box _ _)).anti fun b hb=>Or.inl (Nat.lt_of_lt_of_le hb hn.out)⟩
theorem newc_put {w wy wn:World} {X:Option Ct} {g:Nat} {v0 v1 v2 v3 v4 v5 v6 v7 v8 v9 v10 v11 v12 v13:Value} [hz:Has wy g 35 #[.int .i64 0,.slice none 0 0,.int .i64 0,.int .i64 0,.string ⟨#[]⟩,.int .i64 0,.int .i64 0,.int .i64 0,.int .i64 0,.int .i64 0,.slice none 0 0,.string ⟨#[]⟩,.string ⟨#[]⟩,.bool false]] [hb:Bel w wy] [hu:Up w g] [hn:Has wn g 35 #[.int .i64 0,.slice none 0 0,.int .i64 0,.int .i64 0,.string ⟨#[]⟩,.int .i64 0,.int .i64 0,.int .i64 0,.int .i64 0,.int .i64 0,.slice none 0 0,.string ⟨#[]⟩,.string ⟨#[]⟩,.bool false]] (h14:isC14 (.agg #[v0,v1,v2,v3,v4,v5,v6,v7,v8,v9,v10,v11,v12,v13])) (hC:∀ C,X=some C→isCd (· < wn.heap.size) C (.agg #[v0,v1,v2,v3,v4,v5,v6,v7,v8,v9,v10,v11,v12,v13]) wy) {W:World} (hW:W=((((((((((((((wy).setCell ⟨g,0,none⟩ v0).setCell ⟨g,1,none⟩ v1).setCell ⟨g,2,none⟩ v2).setCell ⟨g,3,none⟩ v3).setCell ⟨g,4,none⟩ v4).setCell ⟨g,5,none⟩ v5).setCell ⟨g,6,none⟩ v6).setCell ⟨g,7,none⟩ v7).setCell ⟨g,8,none⟩ v8).setCell ⟨g,9,none⟩ v9).setCell ⟨g,10,none⟩ v10).setCell ⟨g,11,none⟩ v11).setCell ⟨g,12,none⟩ v12).setCell ⟨g,13,none⟩ v13):NewC w W g X:=by
 have hgz:=grownBy_puts [v0,v1,v2,v3,v4,v5,v6,v7,v8,v9,v10,v11,v12,v13] wy g 0;have hbz:=hb.out.trans ((below_puts [v0,v1,v2,v3,v4,v5,v6,v7,v8,v9,v10,v11,v12,v13] wy g 0).mono hu.out);simp only[puts,Nat.zero_add,Nat.reduceAdd]at hgz hbz;subst hW;exact⟨hu.out,hbz,_,h14,(show Blk wy g _ zero14 from hz.out).put14 _ _ _ _ _ _ _ _ _ _ _ _ _ _,fun C h=>((hC C h).grown hgz fun q e _=>by injection e with e;show q<wn.heap.size;have:=hn.out.lt;omega).anti fun b hb=>Or.inl (by have hb:b<w.heap.size:=hb;have:=hn.out.lt;have:=hu.out;show b<wn.heap.size;omega)⟩
theorem pair_cd {w:World} {g n:Nat} {a b:Ct} {V1 V2 V:Array Value} (cs:List Value) (hA:isCd (· < n) a (.agg V1) w) (hB:isCd (· < n) b (.agg V2) w) (hV:V.toList=V1.toList++V2.toList) (hg:g<n) (hn:n≤w.heap.size) :
  isCd (· < n) (.mk 1 [a,b] lt0) (.agg #[.int .i64 1,.slice (some ⟨w.heap.size,0,none⟩) 2 2,.int .i64 0,.int .i64 0,.string ⟨#[]⟩,.int .i64 0,.int .i64 0,.int .i64 0,.int .i64 0,.int .i64 0,.slice none 0 0,.string ⟨#[]⟩,.string ⟨#[]⟩,.bool false]) ((puts w g 0 cs).alloc (.cells V 35)):=by
 obtain⟨xa,ha,hva,rfl,hsa⟩:=hA;obtain⟨xb,hb,hvb,rfl,hsb⟩:=hB;have hs:=puts_size cs w g 0;have hpu:=grownBy_puts cs w g 0
 have hk:∀ k,some g=some k→k<w.heap.size→k<n:=fun k e _=>by injection e with e;omega
 have sa:=hsa.grown hpu hk;have sb:=hsb.grown hpu hk;generalize puts w g 0 cs=W at *
 have ea:V1.toList=ccells xa:=by injection hva with e;exact congrArg Array.toList e
 have eb:V2.toList=ccells xb:=by injection hvb with e;exact congrArg Array.toList e
 have hV2:V.toList=[xa,xb].flatMap ccells:=by rw[hV,ea,eb];simp
 have hsz:V.size=2*14:=by rw[← Array.length_toList,hV2,flat_length ccells_len];rfl
 obtain⟨oa,cap,gg,hv,hsl,_⟩:=sl_of_own (owns_fresh (base:=0) (n:=2) (size:=14) (Blk.new W 35 V) (Nat.zero_le _) hsz (by decide))
 injection hv with e1 _ e3
 subst e1 e3;have e4:=(hsl.lies (by omega)).1
 injection e4 with e4
 injection e4 with e4
 subst e4;rw[hV2]at hsl
 have sp:=cdin_made (A:=(· < n)) (w:=W.alloc (.cells V 35)) (h:=ha+hb+1) (k:=1) (L:=zeroLf) (l:=[xa,xb]) (i64_small _ (by decide)) (by simp) hsl (fun _ hlt=>by have hlt:W.heap.size<n:=hlt;omega)
  ((ExIn.leaf (A:=(· < n)) (w:=W.alloc (.cells V 35)) (k:=0) (n:=0) (d:=0) (u:=0) (i64_small _ (by decide)) (by unfold Is64;decide) (i64_small _ (by decide))).mono fun w h=>LfIn.mk (i64_small _ (by decide)) (i64_small _ (by decide)) (i64_small _ (by decide)) (ExIn.mono 1 _ (by omega) h))
  (((sa.and sb).alloc _).mono fun w hw x hx=>by
   rcases List.mem_cons.1 hx with rfl|hx
   · exact cd_up _ _ (by omega) hw.1
   · obtain rfl:=List.mem_singleton.1 hx
     exact cd_up _ _ (by omega) hw.2)
 refine⟨_,_,?_,?_,sp⟩
 · rw[← hs];rfl
 · rw[Cd.t_mk];rfl
theorem tail_pair {w w6:World} {g n:Nat} {Y X1 X2:Option Ct} {V1 V2 V:Array Value} {lw hw ok1 ok2 okk:Bool} (hb:Below w.heap.size w w6) (hg:w.heap.size≤g) (hgn:g<n) (hn:n≤w6.heap.size) (hY:(match X1,X2 with
   | some a,some b=>if lw||hw then some (.mk 1 [a,b] lt0) else none
   | _,_=>none)=Y) (h1:X1.isSome=ok1∧X2.isSome=ok2) (hA:∀ C,X1=some C→isCd (· < n) C (.agg V1) w6) (hB:∀ C,X2=some C→isCd (· < n) C (.agg V2) w6) (hV:V.toList=V1.toList++V2.toList) (hk:okk=((lw||hw)&&(ok1&&ok2))) {W:World} (hW:W=(((((((((((((((w6).setCell ⟨g,0,none⟩ (.int .i64 1)).setCell ⟨g,1,none⟩ (.slice (some ⟨w6.heap.size,0,none⟩) 2 2)).setCell ⟨g,2,none⟩ (.int .i64 0)).setCell ⟨g,3,none⟩ (.int .i64 0)).setCell ⟨g,4,none⟩ (.string ⟨#[]⟩)).setCell ⟨g,5,none⟩ (.int .i64 0)).setCell ⟨g,6,none⟩ (.int .i64 0)).setCell ⟨g,7,none⟩ (.int .i64 0)).setCell ⟨g,8,none⟩ (.int .i64 0)).setCell ⟨g,9,none⟩ (.int .i64 0)).setCell ⟨g,10,none⟩ (.slice none 0 0)).setCell ⟨g,11,none⟩ (.string ⟨#[]⟩)).setCell ⟨g,12,none⟩ (.string ⟨#[]⟩)).setCell ⟨g,13,none⟩ (.bool false)).alloc (.cells V 35)) :
  retC (· < w.heap.size) Y (.returned (.tuple #[.agg #[.int .i64 1,.slice (some ⟨w6.heap.size,0,none⟩) 2 2,.int .i64 0,.int .i64 0,.string ⟨#[]⟩,.int .i64 0,.int .i64 0,.int .i64 0,.int .i64 0,.int .i64 0,.slice none 0 0,.string ⟨#[]⟩,.string ⟨#[]⟩,.bool false],.bool okk])) W∧Below w.heap.size w W:=by
 have hbz:=hb.trans ((below_puts [.int .i64 1,.slice (some ⟨w6.heap.size,0,none⟩) 2 2,.int .i64 0,.int .i64 0,.string ⟨#[]⟩,.int .i64 0,.int .i64 0,.int .i64 0,.int .i64 0,.int .i64 0,.slice none 0 0,.string ⟨#[]⟩,.string ⟨#[]⟩,.bool false] w6 g 0).mono hg)
 have hcd:=fun a b (ha:X1=some a) (hb:X2=some b)=>pair_cd [.int .i64 1,.slice (some ⟨w6.heap.size,0,none⟩) 2 2,.int .i64 0,.int .i64 0,.string ⟨#[]⟩,.int .i64 0,.int .i64 0,.int .i64 0,.int .i64 0,.int .i64 0,.slice none 0 0,.string ⟨#[]⟩,.string ⟨#[]⟩,.bool false] (hA a ha) (hB b hb) hV hgn hn
 simp only[puts,Nat.zero_add,Nat.reduceAdd]at hbz hcd;subst hW;refine⟨⟨_,_,rfl,?_,⟨_,_,_,_,_,_,_,_,_,_,_,_,_,_,_,_,_,_,rfl⟩,fun C hC=>?_⟩,hbz.alloc hbz.size _⟩
 · rw[hk,← h1.1,← h1.2,← hY]
   cases X1<;>cases X2<;>cases lw<;>cases hw<;>rfl
 · rw[← hY]at hC
   cases X1 with
   | none=>cases hC
   | some a=>cases X2 with
     | none=>cases hC
     | some b =>
       simp only at hC;split at hC
       · obtain rfl:=Option.some.inj hC
         exact(hcd a b rfl rfl).anti fun b hb=>Or.inl (by have hb:b<w.heap.size:=hb;show b<n;omega)
       · cases hC
theorem slice_mid {w:World} {h:Nat} {oa:Option Addr} {cap b o:Nat} {l:List Vl} (hs:VsIn w h oa cap b o l) {N a c:Nat} (hN:l.length=N) (hac:a≤c) (hc:c≤N) :
  ∃ oa' cap' o',(∀ w,(Instr.slice 86 (.slice oa N cap) (some (.int .i64 a)) (some (.int .i64 c)) none).run Tryz.prog w=.ok (.slice oa' ((l.take c).drop a).length cap') w)∧∀ w,VsIn w h oa cap b o l→VsIn w h oa' cap' b o' ((l.take c).drop a):=by
 subst hN;have hle:=hs.sl.le;refine⟨if cap=a then oa else oa.map (·.add (a*7)),cap-a,o+a*7,fun w=>?_,fun w hs=>hs.part hac hc⟩;rw[run_slice_lh w 86 oa l.length cap (by rw[elemVals];exact Tryz.underlying86) .i64 .i64 a c (by omega) (by omega) (by omega),elemVals,Tryz.sizeOf104];simp[Result.andThen,sliced,Nat.min_eq_left hc]
set_option maxRecDepth 20000 in
set_option maxHeartbeats 4000000 in
theorem between_0 (h:Nat) (l:List Vl) (oa:Option Addr) (cap b o:Nat) (w:World) (hs:VsIn w h oa cap b o l) (hm:mayV 64 (l.map Vl.c)=true) (box:Bool) (h1:∀ o,opsG 0 (l.map Vl.c)≠[o]) (h2:∀ o p,opsG 0 (l.map Vl.c)≠[o,p]) :
  Calls Tryz.prog 100 #[.slice oa l.length cap,.bool box] w fun e w'=>retC (· < w.heap.size) (betweenN (exH h) (l.map Vl.c) box) e w'∧Below w.heap.size w w':=by
 obtain⟨Y,hY⟩:∃ Y,betweenN (exH h) (l.map Vl.c) box=Y:=⟨_,rfl⟩;rw[hY];unfold betweenN at hY;obtain⟨h4,hb4⟩:=box_new w 35 zero14
 have hw1:(w.alloc (.cells zero14 35)).heap.size=w.heap.size+1:=by simp
 have hs1:=hs.below hb4;have hop:=operators_any h l oa cap b o _ hs1;obtain⟨N,hN⟩:∃ N,l.length=N:=⟨_,rfl⟩;obtain⟨L,hL⟩:∃ L,l.map Vl.c=L:=⟨_,rfl⟩;obtain⟨D,hD⟩:∃ D,opsG 0 L=D:=⟨_,rfl⟩;rw[hL,hD]at h1 h2;have HN:=Lib.hid (And.intro hN (And.intro hL hD));rw[hL]at hY hm hop;rw[hD]at hY hop;rw[hN]at hop ⊢;obtain⟨g,hg⟩:∃ g,w.heap.size=g:=⟨_,rfl⟩;have HG:=Lib.hid hg;rw[hg]at h4 hw1;have H4:=Lib.hid h4;have HB4:=Lib.hid hb4;have HW1:=Lib.hid hw1;have HY:=Lib.hid hY;have HS:=Lib.hid hs1;have HM:=Lib.hid hm;have HOP:=Lib.hid hop;clear hs hs1 h4 hb4 hw1 hN hL hY hm hop hD;simp only[zero14]at HB4 HW1 H4 HS HOP
 go_enter Tryz.func100,Tryz.ntmps100
 go_upto_region 1 with fail
 try simp only[hg]
 clear hg;generalize w.alloc _=w1 at *;go_wp2_with fail
 ((with_reducible refine HOP.out.mono ?_);rintro e w2 ⟨⟨v,rfl,hown⟩,hb2⟩)
 obtain⟨voa,vcap,vg,rfl,hsl,hpos⟩:=sl_of_own hown;have HB2:=bfH HB4 hb2;have H42:=Lib.hid (H4.out.below hb2 H4.out.lt);have HS2:=Lib.hid (HS.out.below hb2);have HSL:=Lib.hid hsl;clear hown hb2 hsl HOP
 match D with
 | [] =>
   obtain rfl:none=Y:=HY.out;obtain⟨c0,fc0,c1,fc1,c2,fc2,c3,fc3,c4,fc4,c5,fc5,c6,fc6,c7,fc7,c8,fc8,c9,fc9,c10,fc10,c11,fc11,c12,fc12,c13,fc13,lc⟩:=Blk.z14 (H42.out);go_wp2_with fail;refine bodyPost_ret (v:=.tuple #[.agg #[.int .i64 0,.slice none 0 0,.int .i64 0,.int .i64 0,.string ⟨#[]⟩,.int .i64 0,.int .i64 0,.int .i64 0,.int .i64 0,.int .i64 0,.slice none 0 0,.string ⟨#[]⟩,.string ⟨#[]⟩,.bool false],.bool false]) ?_ rfl ?_
   · exact ret_cd2 Tryz.results100 rfl rfl (Blk.zput (H42.out)) rfl
   · exact none_cd (HB2.out) (Nat.le_of_eq HG.out) (rfl) rfl
 | _::_::_::D =>
   obtain rfl:none=Y:=HY.out
   have g1:(((D.length+1+1+1:Nat):Int)==1)=false:=by rw[beq_eq_false_iff_ne];omega
   have g2:(((D.length+1+1+1:Nat):Int)==2)=false:=by rw[beq_eq_false_iff_ne];omega
   simp only[List.length_cons];generalize D.length+1+1+1=M at *;obtain⟨c0,fc0,c1,fc1,c2,fc2,c3,fc3,c4,fc4,c5,fc5,c6,fc6,c7,fc7,c8,fc8,c9,fc9,c10,fc10,c11,fc11,c12,fc12,c13,fc13,lc⟩:=Blk.z14 (H42.out);go_wp2_with fail;refine bodyPost_ret (v:=.tuple #[.agg #[.int .i64 0,.slice none 0 0,.int .i64 0,.int .i64 0,.string ⟨#[]⟩,.int .i64 0,.int .i64 0,.int .i64 0,.int .i64 0,.int .i64 0,.slice none 0 0,.string ⟨#[]⟩,.string ⟨#[]⟩,.bool false],.bool false]) ?_ rfl ?_
   · exact ret_cd2 Tryz.results100 rfl rfl (Blk.zput (H42.out)) rfl
   · exact none_cd (HB2.out) (Nat.le_of_eq HG.out) (rfl) rfl
 | [o]=>exact absurd rfl (h1 o)
 | [o,p]=>exact absurd rfl (h2 o p)
set_option maxRecDepth 20000 in
set_option maxHeartbeats 4000000 in
theorem between_1 (h:Nat) (l:List Vl) (oa:Option Addr) (cap b o:Nat) (w:World) (hs:VsIn w h oa cap b o l) (hm:mayV 64 (l.map Vl.c)=true) (box:Bool) {op:Int} {f t:Nat} (hD:opsG 0 (l.map Vl.c)=[(op,f,t)]) :
  Calls Tryz.prog 100 #[.slice oa l.length cap,.bool box] w fun e w'=>retC (· < w.heap.size) (betweenN (exH h) (l.map Vl.c) box) e w'∧Below w.heap.size w w':=by
 obtain⟨Y,hY⟩:∃ Y,betweenN (exH h) (l.map Vl.c) box=Y:=⟨_,rfl⟩;rw[hY];unfold betweenN at hY;obtain⟨h4,hb4⟩:=box_new w 35 zero14
 have hw1:(w.alloc (.cells zero14 35)).heap.size=w.heap.size+1:=by simp
 have hs1:=hs.below hb4;have hop:=operators_any h l oa cap b o _ hs1;obtain⟨N,hN⟩:∃ N,l.length=N:=⟨_,rfl⟩;obtain⟨L,hL⟩:∃ L,l.map Vl.c=L:=⟨_,rfl⟩;rw[hL]at hD;have HN:=Lib.hid (And.intro hN (And.intro hL hD));rw[hL]at hY hm hop;rw[hD]at hY hop;rw[hN]at hop ⊢;obtain⟨g,hg⟩:∃ g,w.heap.size=g:=⟨_,rfl⟩;have HG:=Lib.hid hg;rw[hg]at h4 hw1;have H4:=Lib.hid h4;have HB4:=Lib.hid hb4;have HW1:=Lib.hid hw1;have HY:=Lib.hid hY;have HS:=Lib.hid hs1;have HM:=Lib.hid hm;have HOP:=Lib.hid hop;clear hs hs1 h4 hb4 hw1 hN hL hY hm hop hD;simp only[zero14]at HB4 HW1 H4 HS HOP
 go_enter Tryz.func100,Tryz.ntmps100
 go_upto_region 1 with fail
 try simp only[hg]
 clear hg;generalize w.alloc _=w1 at *;go_wp2_with fail
 ((with_reducible refine HOP.out.mono ?_);rintro e w2 ⟨⟨v,rfl,hown⟩,hb2⟩)
 obtain⟨voa,vcap,vg,rfl,hsl,hpos⟩:=sl_of_own hown;have HB2:=bfH HB4 hb2;have H42:=Lib.hid (H4.out.below hb2 H4.out.lt);have HS2:=Lib.hid (HS.out.below hb2);have HSL:=Lib.hid hsl;clear hown hb2 hsl HOP
 have hLN:L.length=N:=by rw[← HN.out.2.1,List.length_map,HN.out.1]
 obtain⟨_,hft,htN,ho1,ho5,_⟩:=ops_cons L 0 _ _ HN.out.2.2;simp only[Nat.zero_add]at hft htN ho1 ho5;rw[hLN]at htN;obtain⟨rfl,hvg⟩:=HSL.out.lies (by simp);have c0:w2.cell? ⟨vg,0,none⟩=some (.int .i64 op):=HSL.out.cell 0 _ rfl;have c1:w2.cell? ⟨vg,1,none⟩=some (.int .i64 (f:Int)):=HSL.out.cell 1 _ rfl;have c2:w2.cell? ⟨vg,2,none⟩=some (.int .i64 (t:Int)):=HSL.out.cell 2 _ rfl;have hvc:=HSL.out.le;obtain⟨oa1,cap1,o1,hr1,hv1⟩:=slice_hi HS2.out HN.out.1 (show f≤N by omega);obtain⟨oa2,cap2,o2,hr2,hv2⟩:=slice_lo HS2.out HN.out.1 htN
 have hr1:=fun w=>hr1 (f:Int) w rfl
 have hr2:=fun w=>hr2 (t:Int) w rfl
 have hm1:(l.take f).map Vl.c=L.take f:=by rw[← HN.out.2.1,List.map_take]
 have hm2:(l.drop t).map Vl.c=L.drop t:=by rw[← HN.out.2.1,List.map_drop]
 have hmf:=(mayW_take HM.out f).1;have hmt:=(mayW_take HM.out t).2;generalize l.take f=D1 at *;generalize l.drop t=D2 at *;obtain⟨A,hA⟩:∃ A,L.take f=A:=⟨_,rfl⟩;obtain⟨B,hB⟩:∃ B,L.drop t=B:=⟨_,rfl⟩
 have hY2:(match comparedN (exH h) (knownN (aloneN A) box) op B with
  | some c=>some c
  | none=>comparedN (exH h) (knownN (aloneN B) box) (6-op) A)=Y:=by rw[← hA,← hB];exact HY.out
 rw[hA]at hm1 hmf;rw[hB]at hm2 hmt;obtain⟨X1,hX1⟩:∃ X,comparedN (exH h) (knownN (aloneN A) box) op B=X:=⟨_,rfl⟩;obtain⟨X2,hX2⟩:∃ X,comparedN (exH h) (knownN (aloneN B) box) (6-op) A=X:=⟨_,rfl⟩;rw[hX1,hX2]at hY2;have HX:=Lib.hid (And.intro hX1 (And.intro hX2 hY2));have HV:=Lib.hid (And.intro (hv1 _ HS2.out) (And.intro hm1 (And.intro hmf (And.intro (hv2 _ HS2.out) (And.intro hm2 hmt)))));have hpos1:w1.heap.size≤vg:=hpos (by simp);have hgw1:=H4.out.lt;clear hA hB hX1 hX2 hY2 hv1 hv2 hm1 hm2 hmf hmt HY hpos HSL
 have hvcN:(0:Int)<1:=by decide
 simp only[List.length_cons,List.length_nil,Nat.zero_add]at hvc ⊢
 go_upto_region 4 with fail
 refine wp_region_grow (by kernel_rfl) (by kernel_rfl) ?_
 repeat (go_big_quiet_step (fail))
 refine wpQuiet_nil ?_;rintro _ ⟨m,rfl⟩;have HB3:=bfH HB2 (grow_below m);have H43:=Lib.hid (H42.out.below (grow_below m) H42.out.lt);have HV3:=Lib.hid (And.intro (HV.out.1.below (grow_below m)) (HV.out.2.2.2.1.below (grow_below m)));have c0:=(Below.cell (grow_below m) (p:=⟨vg,0,none⟩) hvg).trans c0;have hvg3:=Nat.lt_of_lt_of_le hvg (grow_size m);clear HB2 H42 HS2 c1 c2 hr1 hr2 hvg;generalize grow w2 m=w3 at *;obtain⟨n1,hn1⟩:∃ n,aloneN A=n:=⟨_,rfl⟩;obtain⟨k1,hk1⟩:∃ n,knownN n1 box=n:=⟨_,rfl⟩;have hcm:=cmp_at HV3.out.2 (by rw[HV.out.2.2.2.2.1];exact HV.out.2.2.2.2.2) k1 (op:=op) (by unfold I64;omega);have hx1:=HX.out.1;rw[hn1,hk1]at hx1;rw[HV.out.2.2.2.2.1,hx1]at hcm
 have HAL:=Lib.hid (show ∀ wx,Bel w3 wx→Calls Tryz.prog 97 #[.slice oa1 D1.length cap1] wx fun e w'=>e=.returned (.string ⟨n1.toArray⟩)∧Below wx.heap.size wx w' from fun wx hx=>by
  have:=aloneM_any h D1 oa1 cap1 b o1 wx (HV3.out.1.below hx.out)
  rwa [HV.out.2.1,hn1]at this)
 have HKN:=Lib.hid (fun w=>knownM_any n1 box w);rw[hk1]at HKN;have HCM:=Lib.hid hcm;obtain⟨ok1,hok1⟩:∃ k,X1.isSome=k:=⟨_,rfl⟩;have KEEP:=Lib.hid (show ∀ wx,Bel w3 wx→wx.cell? ⟨vg,0,none⟩=some (.int .i64 op) from fun wx hx=>(Below.cell hx.out (p:=⟨vg,0,none⟩) hvg3).trans c0);unfold CmpAt at HCM;rw[hok1]at HCM;clear hn1 hk1 hx1 hcm
 go_upto_region 5 with fail
 go_cut [9,10] from 36 to 48 (fun s9 s10 wx=>∃ g9,s9=.pointer (some ⟨g9,0,none⟩)∧s10=.bool ok1∧Hid (NewC w3 wx g9 X1))
 case first =>
  go_region_held3 (fun wx=>wx.cell? ⟨vg,0,none⟩=some (.int .i64 op)) (exact KEEP.out _ inferInstance) (first | (go_at_call 97;(with_reducible refine(HAL.out _ inferInstance).mono ?_);rintro e w5 ⟨rfl,hb5⟩;(first|obtain⟨m5,rfl⟩:=grow_mk ((grow_below _).trans (hb5.mono (grow_size _))) | obtain⟨m5,rfl⟩:=grow_mk hb5);clear hb5) | (go_at_call 96;(with_reducible refine(HKN.out _).mono ?_);rintro e w6 ⟨rfl,hb6⟩;(first|obtain⟨m6,rfl⟩:=grow_mk ((grow_below _).trans (hb6.mono (grow_size _))) | obtain⟨m6,rfl⟩:=grow_mk hb6);clear hb6) | (go_at_call 134;(with_reducible refine(HCM.out _ inferInstance).mono ?_);rintro e w7 ⟨vk,voa,vn,vc,vk2,vt,vnm,vop,ve0,ve1,ve2,ve3,vea,ven,vec,vwd,vvl,van,rfl,hb7,HQ⟩;(first|obtain⟨m7,rfl⟩:=grow_mk ((grow_below _).trans (hb7.mono (grow_size _))) | obtain⟨m7,rfl⟩:=grow_mk hb7);clear hb7))
  all_goals go_wp2_with fail
  all_goals go_meet
  all_goals refine⟨_,rfl,rfl,Lib.hid ?_⟩
  · refine newc_last ?_ HQ.out;exact⟨_,_,_,_,_,_,_,_,_,_,_,_,_,_,_,_,_,_,rfl⟩
  all_goals
   refine newc_put ?_ HQ.out rfl;exact⟨_,_,_,_,_,_,_,_,_,_,_,_,_,_,_,_,_,_,rfl⟩
 case rest =>
  obtain⟨g9,rfl,rfl,hN9⟩:=hcut;obtain⟨hg9,hb9,V,⟨vk,voa,vn,vc,vk2,vt,vnm,vop,ve0,ve1,ve2,ve3,vea,ven,vec,vwd,vvl,van,hV⟩,hblk,hC⟩:=hN9.out
  injection hV with hV
  subst hV;have HB5:=bfH HB3 hb9;have H45:=Lib.hid (H43.out.below hb9 H43.out.lt);have hgw:=H43.out.lt;have HV5:=Lib.hid (And.intro (HV3.out.1.below hb9) (HV3.out.2.below hb9));have c0:=KEEP.out _ ⟨hb9⟩;have hvg5:=Nat.lt_of_lt_of_le hvg3 hb9.size;have HC:=Lib.hid hC
  have hne:g9≠g:=by omega
  clear hN9 hb9 hC HB3 HV3 KEEP HAL HKN HCM H43
  cases ok1 with
  | true =>
    obtain⟨C1,rfl⟩:∃ C,X1=some C:=Option.isSome_iff_exists.1 hok1;have HYC:=Lib.hid (show some C1=Y from HX.out.2.2);obtain⟨d0,fd0,d1,fd1,d2,fd2,d3,fd3,d4,fd4,d5,fd5,d6,fd6,d7,fd7,d8,fd8,d9,fd9,d10,fd10,d11,fd11,d12,fd12,d13,fd13,ld⟩:=Blk.many14 (hblk);obtain⟨q0,fq0,q1,fq1,q2,fq2,q3,fq3,q4,fq4,q5,fq5,q6,fq6,q7,fq7,q8,fq8,q9,fq9,q10,fq10,q11,fq11,q12,fq12,q13,fq13,lq⟩:=Blk.z14 (H45.out);clear hok1 hblk;go_wp2_with fail;refine bodyPost_ret (v:=.tuple #[.agg #[.int .i64 vk,.slice voa vn vc,.int .i64 vk2,.int .i64 vt,.string vnm,.int .i64 vop,.int .i64 ve0,.int .i64 ve1,.int .i64 ve2,.int .i64 ve3,.slice vea ven vec,.string vwd,.string vvl,.bool van],.bool true]) ?_ rfl ?_
    · exact ret_cd2 Tryz.results100 rfl rfl (H45.out.put14 _ _ _ _ _ _ _ _ _ _ _ _ _ _) rfl
    · exact tail_cd HB5.out (Nat.le_of_eq HG.out) hgw (by rw[← HYC.out];rfl) ⟨_,_,_,_,_,_,_,_,_,_,_,_,_,_,_,_,_,_,rfl⟩ (fun C hC=>by rw[← HYC.out]at hC;exact HC.out C hC) rfl
  | false =>
    obtain rfl:X1=none:=by cases X1 with
     | none=>rfl
     | some _=>cases hok1
    have HYC:=Lib.hid (show X2=Y from HX.out.2.2);clear hok1 HC hblk vk voa vn vc vk2 vt vnm vop ve0 ve1 ve2 ve3 vea ven vec vwd vvl van;obtain⟨n2,hn2⟩:∃ n,aloneN B=n:=⟨_,rfl⟩;obtain⟨k2,hk2⟩:∃ n,knownN n2 box=n:=⟨_,rfl⟩;have hcm:=cmp_at HV5.out.1 (by rw[HV.out.2.1];exact HV.out.2.2.1) k2 (op:=6-op) (by unfold I64;omega);have hx2:=HX.out.2.1;rw[hn2,hk2]at hx2;rw[HV.out.2.1,hx2]at hcm
    have HAL2:=Lib.hid (show ∀ wx,Bel wc wx→Calls Tryz.prog 97 #[.slice oa2 D2.length cap2] wx fun e w'=>e=.returned (.string ⟨n2.toArray⟩)∧Below wx.heap.size wx w' from fun wx hx=>by
     have:=aloneM_any h D2 oa2 cap2 b o2 wx (HV5.out.2.below hx.out)
     rwa [HV.out.2.2.2.2.1,hn2]at this)
    have HKN2:=Lib.hid (fun w=>knownM_any n2 box w);rw[hk2]at HKN2;have HCM2:=Lib.hid hcm;have HTN:=Lib.hid (fun w=>turnedM_any op w (by omega));obtain⟨ok2,hok2⟩:∃ k,X2.isSome=k:=⟨_,rfl⟩;have KEEP2:=Lib.hid (show ∀ wx,Bel wc wx→wx.cell? ⟨vg,0,none⟩=some (.int .i64 op) from fun wx hx=>(Below.cell hx.out (p:=⟨vg,0,none⟩) hvg5).trans c0);unfold CmpAt at HCM2;rw[hok2]at HCM2
    have hgv:g≠vg:=by have:=hpos1;omega
    have HOK:=Lib.hid hok2
    have hz:=fun m:Ext wc.drew=>Blk.z14 ((blk_drew H45.out).grow m)
    clear hn2 hk2 hx2 hcm hok2
    go_upto_region 8 with fail
    go_region_held3 (fun wx=>wx.cell? ⟨vg,0,none⟩=some (.int .i64 op)) (first|exact KEEP2.out _ inferInstance|go_keep) (first | (go_at_call 97;(with_reducible refine(HAL2.out _ inferInstance).mono ?_);rintro e w5 ⟨rfl,hb5⟩;(first|obtain⟨m5,rfl⟩:=grow_mk ((grow_below _).trans (hb5.mono (grow_size _))) | obtain⟨m5,rfl⟩:=grow_mk hb5);clear hb5) | (go_at_call 96;(with_reducible refine(HKN2.out _).mono ?_);rintro e w6 ⟨rfl,hb6⟩;(first|obtain⟨m6,rfl⟩:=grow_mk ((grow_below _).trans (hb6.mono (grow_size _))) | obtain⟨m6,rfl⟩:=grow_mk hb6);clear hb6) | (go_at_call 135;(with_reducible refine(HTN.out _).mono ?_);rintro e w8 ⟨rfl,rfl⟩) | (go_at_call 134;(with_reducible refine(HCM2.out _ inferInstance).mono ?_);rintro e w7 ⟨vk,voa,vn,vc,vk2,vt,vnm,vop,ve0,ve1,ve2,ve3,vea,ven,vec,vwd,vvl,van,rfl,hb7,HQ⟩;(first|obtain⟨m7,rfl⟩:=grow_mk ((grow_below _).trans (hb7.mono (grow_size _))) | obtain⟨m7,rfl⟩:=grow_mk hb7);clear hb7))
    go_wp2_with fail;refine bodyPost_ret (v:=.tuple #[.agg #[.int .i64 vk,.slice voa vn vc,.int .i64 vk2,.int .i64 vt,.string vnm,.int .i64 vop,.int .i64 ve0,.int .i64 ve1,.int .i64 ve2,.int .i64 ve3,.slice vea ven vec,.string vwd,.string vvl,.bool van],.bool ok2]) ?_ rfl ?_
    · exact ret_cd2 Tryz.results100 rfl rfl (((blk_drew H45.out).grow m7).put14 _ _ _ _ _ _ _ _ _ _ _ _ _ _) rfl
    · exact tail_cd (below_grow HB5.out.drew m7) (Nat.le_of_eq HG.out) (Nat.lt_of_lt_of_le H45.out.lt (grow_size m6)) (by rw[← HYC.out];exact HOK.out.symm) ⟨_,_,_,_,_,_,_,_,_,_,_,_,_,_,_,_,_,_,rfl⟩ (fun C hC=>HQ.out C (by rw[HYC.out];exact hC)) rfl
set_option maxRecDepth 20000 in
set_option maxHeartbeats 4000000 in
theorem between_2 (h:Nat) (l:List Vl) (oa:Option Addr) (cap b o:Nat) (w:World) (hs:VsIn w h oa cap b o l) (hm:mayV 64 (l.map Vl.c)=true) (box:Bool) {op op2:Int} {f t f2 t2:Nat} (hD:opsG 0 (l.map Vl.c)=[(op,f,t),(op2,f2,t2)]) :
  Calls Tryz.prog 100 #[.slice oa l.length cap,.bool box] w fun e w'=>retC (· < w.heap.size) (betweenN (exH h) (l.map Vl.c) box) e w'∧Below w.heap.size w w':=by
 obtain⟨Y,hY⟩:∃ Y,betweenN (exH h) (l.map Vl.c) box=Y:=⟨_,rfl⟩;rw[hY];unfold betweenN at hY;obtain⟨h4,hb4⟩:=box_new w 35 zero14
 have hw1:(w.alloc (.cells zero14 35)).heap.size=w.heap.size+1:=by simp
 have hs1:=hs.below hb4;have hop:=operators_any h l oa cap b o _ hs1;obtain⟨N,hN⟩:∃ N,l.length=N:=⟨_,rfl⟩;obtain⟨L,hL⟩:∃ L,l.map Vl.c=L:=⟨_,rfl⟩;rw[hL]at hD;have HN:=Lib.hid (And.intro hN (And.intro hL hD));rw[hL]at hY hm hop;rw[hD]at hY hop;rw[hN]at hop ⊢;obtain⟨g,hg⟩:∃ g,w.heap.size=g:=⟨_,rfl⟩;have HG:=Lib.hid hg;rw[hg]at h4 hw1;have H4:=Lib.hid h4;have HB4:=Lib.hid hb4;have HW1:=Lib.hid hw1;have HY:=Lib.hid hY;have HS:=Lib.hid hs1;have HM:=Lib.hid hm;have HOP:=Lib.hid hop;clear hs hs1 h4 hb4 hw1 hN hL hY hm hop hD;simp only[zero14]at HB4 HW1 H4 HS HOP
 go_enter Tryz.func100,Tryz.ntmps100
 go_upto_region 1 with fail
 try simp only[hg]
 clear hg;generalize w.alloc _=w1 at *;go_wp2_with fail
 ((with_reducible refine HOP.out.mono ?_);rintro e w2 ⟨⟨v,rfl,hown⟩,hb2⟩)
 obtain⟨voa,vcap,vg,rfl,hsl,hpos⟩:=sl_of_own hown;have HB2:=bfH HB4 hb2;have H42:=Lib.hid (H4.out.below hb2 H4.out.lt);have HS2:=Lib.hid (HS.out.below hb2);have HSL:=Lib.hid hsl;clear hown hb2 hsl HOP
 have hLN:L.length=N:=by rw[← HN.out.2.1,List.length_map,HN.out.1]
 obtain⟨_,hft,htN,ho1,ho5,hD2⟩:=ops_cons L 0 _ _ HN.out.2.2;simp only[Nat.zero_add,Nat.sub_zero]at hft htN ho1 ho5 hD2;obtain⟨htf,hft2,ht2N,ho3,ho4,_⟩:=ops_cons _ _ _ _ hD2.symm;simp only[List.length_drop]at htf hft2 ht2N ho3 ho4;rw[hLN]at htN ht2N
 have ht2:t2≤N:=by omega
 have hf2:f2≤N:=by omega
 obtain⟨rfl,hvg⟩:=HSL.out.lies (by simp);have c0:w2.cell? ⟨vg,0,none⟩=some (.int .i64 op):=HSL.out.cell 0 _ rfl;have c1:w2.cell? ⟨vg,1,none⟩=some (.int .i64 (f:Int)):=HSL.out.cell 1 _ rfl;have c2:w2.cell? ⟨vg,2,none⟩=some (.int .i64 (t:Int)):=HSL.out.cell 2 _ rfl;have c3:w2.cell? ⟨vg,3,none⟩=some (.int .i64 op2):=HSL.out.cell 3 _ rfl;have c4:w2.cell? ⟨vg,4,none⟩=some (.int .i64 (f2:Int)):=HSL.out.cell 4 _ rfl;have c5:w2.cell? ⟨vg,5,none⟩=some (.int .i64 (t2:Int)):=HSL.out.cell 5 _ rfl;have hvc:=HSL.out.le;obtain⟨oa1,cap1,o1,hr1,hv1⟩:=slice_hi HS2.out HN.out.1 (show f≤N by omega);obtain⟨oa2,cap2,o2,hr2,hv2⟩:=slice_lo HS2.out HN.out.1 ht2;obtain⟨oa3,cap3,o3,hr3,hv3⟩:=slice_mid HS2.out HN.out.1 htf hf2
 have hr1:=fun w=>hr1 (f:Int) w rfl
 have hr2:=fun w=>hr2 (t2:Int) w rfl
 have hm1:(l.take f).map Vl.c=L.take f:=by rw[← HN.out.2.1,List.map_take]
 have hm2:(l.drop t2).map Vl.c=L.drop t2:=by rw[← HN.out.2.1,List.map_drop]
 have hm3:((l.take f2).drop t).map Vl.c=(L.take f2).drop t:=by rw[← HN.out.2.1,List.map_drop,List.map_take]
 have hmf:=(mayW_take HM.out f).1;have hmt:=(mayW_take HM.out t2).2;generalize l.take f=D1 at *;generalize l.drop t2=D2 at *;generalize (l.take f2).drop t=D3 at *;obtain⟨A,hA⟩:∃ A,L.take f=A:=⟨_,rfl⟩;obtain⟨B,hB⟩:∃ B,L.drop t2=B:=⟨_,rfl⟩;obtain⟨k1,hk1⟩:∃ n,knownN (aloneN ((L.take f2).drop t)) box=n:=⟨_,rfl⟩
 have hY2:(match comparedN (exH h) k1 (6-op) A,comparedN (exH h) k1 op2 B with
  | some a,some b=>if upN op op2||downN op op2 then some (.mk 1 [a,b] lt0) else none
  | _,_=>none)=Y:=by rw[← hA,← hB,← hk1];exact HY.out
 rw[hA]at hm1 hmf;rw[hB]at hm2 hmt;obtain⟨X1,hX1⟩:∃ X,comparedN (exH h) k1 (6-op) A=X:=⟨_,rfl⟩;obtain⟨X2,hX2⟩:∃ X,comparedN (exH h) k1 op2 B=X:=⟨_,rfl⟩;rw[hX1,hX2]at hY2;have HY2:=Lib.hid hY2
 have hcm1:=fun w3 (hb:Below w2.heap.size w2 w3)=>cmp_at ((hv1 _ HS2.out).below hb) (by rw[hm1];exact hmf) k1 (op:=6-op) (by unfold I64;omega)
 have hcm2:=fun w3 (hb:Below w2.heap.size w2 w3)=>cmp_at ((hv2 _ HS2.out).below hb) (by rw[hm2];exact hmt) k1 (op:=op2) (by unfold I64;omega)
 rw[hm1,hX1]at hcm1;rw[hm2,hX2]at hcm2;obtain⟨ok1,hok1⟩:∃ k,X1.isSome=k:=⟨_,rfl⟩;obtain⟨ok2,hok2⟩:∃ k,X2.isSome=k:=⟨_,rfl⟩;unfold CmpAt at hcm1 hcm2;rw[hok1]at hcm1;rw[hok2]at hcm2;have HC1:=Lib.hid hcm1;have HC2:=Lib.hid hcm2;have HOK:=Lib.hid (And.intro hok1 hok2)
 have HAL:=Lib.hid (show ∀ m:Ext w2,Calls Tryz.prog 97 #[.slice oa3 D3.length cap3] (grow w2 m) fun e w'=>e=.returned (.string ⟨(aloneN ((L.take f2).drop t)).toArray⟩)∧Below (grow w2 m).heap.size (grow w2 m) w' from fun m=>by
  have:=aloneM_any h D3 oa3 cap3 b o3 (grow w2 m) ((hv3 _ HS2.out).below (grow_below m))
  rwa [hm3]at this)
 have HKN:=Lib.hid (fun w=>knownM_any (aloneN ((L.take f2).drop t)) box w);rw[hk1]at HKN;generalize aloneN ((L.take f2).drop t)=n1 at *;have hpos1:w1.heap.size≤vg:=hpos (by simp);have hgw1:=H4.out.lt;have HTN:=Lib.hid (fun w=>turnedM_any op w (by omega));clear hA hB hX1 hX2 hY2 hv1 hv2 hv3 hm1 hm2 hm3 hmf hmt HY hpos HSL hk1 hcm1 hcm2 hok1 hok2 hD2;simp only[List.length_cons,List.length_nil,Nat.zero_add,Nat.reduceAdd]at hvc ⊢
 have z2:(0:Int)<2:=by decide
 have z3:(1:Int)<2:=by decide
 go_upto_region 10 with fail
 go_cut [11] from 66 to 91 (fun s wx=>s=.bool (upN op op2)∧wx=w2)
 case first =>
  obtain⟨b1,q1⟩:∃ b,(op==1)=b:=⟨_,rfl⟩;obtain⟨b2,q2⟩:∃ b,(op==2)=b:=⟨_,rfl⟩;obtain⟨b3,q3⟩:∃ b,(op2==1)=b:=⟨_,rfl⟩;obtain⟨b4,q4⟩:∃ b,(op2==2)=b:=⟨_,rfl⟩;have HU:=Lib.hid (show upN op op2=((b1||b2)&&(b3||b4)) by unfold upN;rw[q1,q2,q3,q4])
  rcases(show b1=true∨b1=false∧b2=true∨b1=false∧b2=false by cases b1<;>cases b2<;>simp) with rfl|⟨rfl,rfl⟩ | ⟨rfl,rfl⟩
  rotate_left 2
  · go_wp2_with fail;go_meet;exact⟨by rw[HU.out];simp,rfl⟩
  all_goals rcases(show b3=true∨b3=false∧b4=true∨b3=false∧b4=false by cases b3<;>cases b4<;>simp) with rfl|⟨rfl,rfl⟩ | ⟨rfl,rfl⟩
  all_goals
   go_wp2_with fail;go_meet;exact⟨by rw[HU.out];simp,rfl⟩
 obtain⟨rfl,rfl⟩:=hcut
 go_upto_region 11 with fail
 go_cut [12] from 92 to 117 (fun s wx=>s=.bool (downN op op2)∧wc=wx)
 case first =>
  obtain⟨b1,q1⟩:∃ b,(op==5)=b:=⟨_,rfl⟩;obtain⟨b2,q2⟩:∃ b,(op==4)=b:=⟨_,rfl⟩;obtain⟨b3,q3⟩:∃ b,(op2==5)=b:=⟨_,rfl⟩;obtain⟨b4,q4⟩:∃ b,(op2==4)=b:=⟨_,rfl⟩;have HU:=Lib.hid (show downN op op2=((b1||b2)&&(b3||b4)) by unfold downN;rw[q1,q2,q3,q4])
  rcases(show b1=true∨b1=false∧b2=true∨b1=false∧b2=false by cases b1<;>cases b2<;>simp) with rfl|⟨rfl,rfl⟩ | ⟨rfl,rfl⟩
  rotate_left 2
  · go_wp2_with fail;go_meet;exact⟨by rw[HU.out];simp,rfl⟩
  all_goals rcases(show b3=true∨b3=false∧b4=true∨b3=false∧b4=false by cases b3<;>cases b4<;>simp) with rfl|⟨rfl,rfl⟩ | ⟨rfl,rfl⟩
  all_goals
   go_wp2_with fail;go_meet;exact⟨by rw[HU.out];simp,rfl⟩
 obtain⟨rfl,rfl⟩:=hcut;generalize upN op op2=lw at *;generalize downN op op2=hw at *
 go_upto_region 12 with fail
 refine wp_region_grow (by kernel_rfl) (by kernel_rfl) ?_
 repeat (go_big_quiet_step ((first | (go_at_call 97;with_reducible exact calls_grow (HAL.out _)) | (go_at_call 96;with_reducible exact calls_grow (HKN.out _)))))
 refine wpQuiet_nil ?_;rintro _ ⟨m,rfl⟩;have HB3:=bfH HB2 (grow_below m);have H43:=Lib.hid (H42.out.below (grow_below m) H42.out.lt);have HCM1:=Lib.hid (HC1.out _ (grow_below m));have HC2:=Lib.hid (fun w4 (hb:Below (grow wc m).heap.size (grow wc m) w4)=>HC2.out w4 ((grow_below m).trans (hb.mono (grow_size m))))
 have KEEP:=Lib.hid (show ∀ wx,Bel (grow wc m) wx→(wx.cell? ⟨vg,0,none⟩=some (.int .i64 op)∧wx.cell? ⟨vg,1,none⟩=some (.int .i64 (f:Int)))∧wx.cell? ⟨vg,3,none⟩=some (.int .i64 op2)∧wx.cell? ⟨vg,5,none⟩=some (.int .i64 (t2:Int)) from fun wx hx=>by
  have hb:=(grow_below m).trans (hx.out.mono (grow_size m))
  exact⟨⟨(hb.cell (p:=⟨vg,0,none⟩) hvg).trans c0,(hb.cell (p:=⟨vg,1,none⟩) hvg).trans c1⟩,(hb.cell (p:=⟨vg,3,none⟩) hvg).trans c3,(hb.cell (p:=⟨vg,5,none⟩) hvg).trans c5⟩)
 have hvg3:=Nat.lt_of_lt_of_le hvg (grow_size m);have hg3:=H43.out.lt;clear HB2 H42 HS2 HC1 HAL HKN c0 c1 c2 c3 c4 c5 hvg hr3;generalize grow wc m=w3 at *;have c0:=(KEEP.out w3 inferInstance).1.1;have c1:=(KEEP.out w3 inferInstance).1.2
 go_upto_region 13 with fail
 go_cut [14,15] from 131 to 146 (fun s14 s15 wx=>∃ g9,s14=.pointer (some ⟨g9,0,none⟩)∧s15=.bool ok1∧Hid (NewC w3 wx g9 X1))
 case first =>
  go_region_held3 (fun wx=>wx.cell? ⟨vg,0,none⟩=some (.int .i64 op)∧wx.cell? ⟨vg,1,none⟩=some (.int .i64 (f:Int))) (exact(KEEP.out _ inferInstance).1) (first | (go_at_call 135;(with_reducible refine(HTN.out _).mono ?_);rintro e w8 ⟨rfl,rfl⟩) | (go_at_call 134;(with_reducible refine(HCM1.out _ inferInstance).mono ?_);rintro e w7 ⟨vk,voa,vn,vc,vk2,vt,vnm,vop,ve0,ve1,ve2,ve3,vea,ven,vec,vwd,vvl,van,rfl,hb7,HQ⟩;(first|obtain⟨m7,rfl⟩:=grow_mk ((grow_below _).trans (hb7.mono (grow_size _))) | obtain⟨m7,rfl⟩:=grow_mk hb7);clear hb7))
  all_goals go_wp2_with fail
  all_goals go_meet
  all_goals refine⟨_,rfl,rfl,Lib.hid ?_⟩
  · refine newc_last ?_ HQ.out;exact⟨_,_,_,_,_,_,_,_,_,_,_,_,_,_,_,_,_,_,rfl⟩
  all_goals
   refine newc_put ?_ HQ.out rfl;exact⟨_,_,_,_,_,_,_,_,_,_,_,_,_,_,_,_,_,_,rfl⟩
 obtain⟨g9,rfl,rfl,hN9⟩:=hcut;obtain⟨hg9,hb9,V,⟨pk,poa,pn,pc,pk2,pt,pnm,pop,pe0,pe1,pe2,pe3,pea,pen,pec,pwd,pvl,pan,hV⟩,hblk,hC⟩:=hN9.out
 injection hV with hV
 subst hV;have HB5:=bfH HB3 hb9;have H45:=Lib.hid (H43.out.below hb9 H43.out.lt);have HCM2:=Lib.hid (HC2.out _ hb9);have KEEP2:=Lib.hid (fun wx (hx:Bel wc wx)=>(KEEP.out wx ⟨hb9.trans (hx.out.mono hb9.size)⟩).2);have hw35:=hb9.size;have hg5:=H45.out.lt;have HK1:=Lib.hid (And.intro hblk hC);clear hN9 hb9 hblk hC HB3 H43 HCM1 HC2 KEEP c0 c1 hvg3;generalize wc=w5 at *;have c3:=(KEEP2.out w5 inferInstance).1;have c5:=(KEEP2.out w5 inferInstance).2
 go_upto_region 14 with fail
 go_cut [16,17] from 147 to 161 (fun s16 s17 wx=>∃ g9,s16=.pointer (some ⟨g9,0,none⟩)∧s17=.bool ok2∧Hid (NewC w5 wx g9 X2))
 case first =>
  go_region_held3 (fun wx=>wx.cell? ⟨vg,3,none⟩=some (.int .i64 op2)∧wx.cell? ⟨vg,5,none⟩=some (.int .i64 (t2:Int))) (exact KEEP2.out _ inferInstance) (first | (go_at_call 135;(with_reducible refine(HTN.out _).mono ?_);rintro e w8 ⟨rfl,rfl⟩) | (go_at_call 134;(with_reducible refine(HCM2.out _ inferInstance).mono ?_);rintro e w7 ⟨vk,voa,vn,vc,vk2,vt,vnm,vop,ve0,ve1,ve2,ve3,vea,ven,vec,vwd,vvl,van,rfl,hb7,HQ⟩;(first|obtain⟨m7,rfl⟩:=grow_mk ((grow_below _).trans (hb7.mono (grow_size _))) | obtain⟨m7,rfl⟩:=grow_mk hb7);clear hb7))
  all_goals go_wp2_with fail
  all_goals go_meet
  all_goals refine⟨_,rfl,rfl,Lib.hid ?_⟩
  · refine newc_last ?_ HQ.out;exact⟨_,_,_,_,_,_,_,_,_,_,_,_,_,_,_,_,_,_,rfl⟩
  all_goals
   refine newc_put ?_ HQ.out rfl;exact⟨_,_,_,_,_,_,_,_,_,_,_,_,_,_,_,_,_,_,rfl⟩
 obtain⟨g10,rfl,rfl,hN9⟩:=hcut;obtain⟨hg10,hb9,V,⟨vk,voa,vn,vc,vk2,vt,vnm,vop,ve0,ve1,ve2,ve3,vea,ven,vec,vwd,vvl,van,hV⟩,hblk2,hC2⟩:=hN9.out
 injection hV with hV
 subst hV;have HB6:=bfH HB5 hb9;have H46:=Lib.hid (H45.out.below hb9 H45.out.lt);have hblk1:=HK1.out.1.below hb9 HK1.out.1.lt;have hlt9:=HK1.out.1.lt;have HCA:=Lib.hid (And.intro (fun C (h:X1=some C)=>(HK1.out.2 C h).below hb9) fun C (h:X2=some C)=>(hC2 C h).anti (A':=(· < w3.heap.size)) fun b hb=>Or.inl (Nat.lt_of_lt_of_le hb hw35));have hw6:=hb9.size
 have n1:g9≠g:=by omega
 have n2:g10≠g:=by omega
 have n3:g10≠g9:=by omega
 obtain⟨d0,fd0,d1,fd1,d2,fd2,d3,fd3,d4,fd4,d5,fd5,d6,fd6,d7,fd7,d8,fd8,d9,fd9,d10,fd10,d11,fd11,d12,fd12,d13,fd13,ld⟩:=Blk.many14 (hblk1);obtain⟨e0,fe0,e1,fe1,e2,fe2,e3,fe3,e4,fe4,e5,fe5,e6,fe6,e7,fe7,e8,fe8,e9,fe9,e10,fe10,e11,fe11,e12,fe12,e13,fe13,le⟩:=Blk.many14 (hblk2);obtain⟨q0,fq0,q1,fq1,q2,fq2,q3,fq3,q4,fq4,q5,fq5,q6,fq6,q7,fq7,q8,fq8,q9,fq9,q10,fq10,q11,fq11,q12,fq12,q13,fq13,lq⟩:=Blk.z14 (H46.out);clear hN9 hb9 hblk1 hblk2 hC2 HK1 HB5 H45 HCM2 KEEP2 c3 c5 HTN
 have HF:=Lib.hid (fun okk hk W=>tail_pair (W:=W) (okk:=okk) (V:=#[.int .i64 pk,.slice poa pn pc,.int .i64 pk2,.int .i64 pt,.string pnm,.int .i64 pop,.int .i64 pe0,.int .i64 pe1,.int .i64 pe2,.int .i64 pe3,.slice pea pen pec,.string pwd,.string pvl,.bool pan,.int .i64 vk,.slice voa vn vc,.int .i64 vk2,.int .i64 vt,.string vnm,.int .i64 vop,.int .i64 ve0,.int .i64 ve1,.int .i64 ve2,.int .i64 ve3,.slice vea ven vec,.string vwd,.string vvl,.bool van]) HB6.out (Nat.le_of_eq HG.out) hg3 (show w3.heap.size≤wc.heap.size by omega) HY2.out HOK.out HCA.out.1 HCA.out.2 rfl hk)
 have HBK:=Lib.hid ((H46.out.put14 (.int .i64 1) (.slice (some ⟨wc.heap.size,0,none⟩) 2 2) (.int .i64 0) (.int .i64 0) (.string ⟨#[]⟩) (.int .i64 0) (.int .i64 0) (.int .i64 0) (.int .i64 0) (.int .i64 0) (.slice none 0 0) (.string ⟨#[]⟩) (.string ⟨#[]⟩) (.bool false)).old (.cells #[.int .i64 pk,.slice poa pn pc,.int .i64 pk2,.int .i64 pt,.string pnm,.int .i64 pop,.int .i64 pe0,.int .i64 pe1,.int .i64 pe2,.int .i64 pe3,.slice pea pen pec,.string pwd,.string pvl,.bool pan,.int .i64 vk,.slice voa vn vc,.int .i64 vk2,.int .i64 vt,.string vnm,.int .i64 vop,.int .i64 ve0,.int .i64 ve1,.int .i64 ve2,.int .i64 ve3,.slice vea ven vec,.string vwd,.string vvl,.bool van] 35))
 rcases(show (lw=true∧ok1=false)∨(lw=true∧ok1=true)∨(lw=false∧hw=true∧ok1=false)∨(lw=false∧hw=true∧ok1=true)∨(lw=false∧hw=false) by cases lw<;>cases hw<;>cases ok1<;>simp) with ⟨rfl,rfl⟩ | ⟨rfl,rfl⟩ | ⟨rfl,rfl,rfl⟩ | ⟨rfl,rfl,rfl⟩ | ⟨rfl,rfl⟩
 all_goals go_wp2_with fail
 · refine bodyPost_ret (v:=.tuple #[.agg #[.int .i64 1,.slice (some ⟨wc.heap.size,0,none⟩) 2 2,.int .i64 0,.int .i64 0,.string ⟨#[]⟩,.int .i64 0,.int .i64 0,.int .i64 0,.int .i64 0,.int .i64 0,.slice none 0 0,.string ⟨#[]⟩,.string ⟨#[]⟩,.bool false],.bool false]) ?_ rfl ?_
   · exact ret_cd2 Tryz.results100 rfl rfl (HBK.out) rfl
   · exact HF.out _ (by simp) _ rfl
 · refine bodyPost_ret (v:=.tuple #[.agg #[.int .i64 1,.slice (some ⟨wc.heap.size,0,none⟩) 2 2,.int .i64 0,.int .i64 0,.string ⟨#[]⟩,.int .i64 0,.int .i64 0,.int .i64 0,.int .i64 0,.int .i64 0,.slice none 0 0,.string ⟨#[]⟩,.string ⟨#[]⟩,.bool false],.bool ok2]) ?_ rfl ?_
   · exact ret_cd2 Tryz.results100 rfl rfl (HBK.out) rfl
   · exact HF.out _ (by simp) _ rfl
 · refine bodyPost_ret (v:=.tuple #[.agg #[.int .i64 1,.slice (some ⟨wc.heap.size,0,none⟩) 2 2,.int .i64 0,.int .i64 0,.string ⟨#[]⟩,.int .i64 0,.int .i64 0,.int .i64 0,.int .i64 0,.int .i64 0,.slice none 0 0,.string ⟨#[]⟩,.string ⟨#[]⟩,.bool false],.bool false]) ?_ rfl ?_
   · exact ret_cd2 Tryz.results100 rfl rfl (HBK.out) rfl
   · exact HF.out _ (by simp) _ rfl
 · refine bodyPost_ret (v:=.tuple #[.agg #[.int .i64 1,.slice (some ⟨wc.heap.size,0,none⟩) 2 2,.int .i64 0,.int .i64 0,.string ⟨#[]⟩,.int .i64 0,.int .i64 0,.int .i64 0,.int .i64 0,.int .i64 0,.slice none 0 0,.string ⟨#[]⟩,.string ⟨#[]⟩,.bool false],.bool ok2]) ?_ rfl ?_
   · exact ret_cd2 Tryz.results100 rfl rfl (HBK.out) rfl
   · exact HF.out _ (by simp) _ rfl
 · refine bodyPost_ret (v:=.tuple #[.agg #[.int .i64 1,.slice (some ⟨wc.heap.size,0,none⟩) 2 2,.int .i64 0,.int .i64 0,.string ⟨#[]⟩,.int .i64 0,.int .i64 0,.int .i64 0,.int .i64 0,.int .i64 0,.slice none 0 0,.string ⟨#[]⟩,.string ⟨#[]⟩,.bool false],.bool false]) ?_ rfl ?_
   · exact ret_cd2 Tryz.results100 rfl rfl (HBK.out) rfl
   · exact HF.out _ (by simp) _ rfl
theorem betweenM_any (h:Nat) (l:List Vl) (oa:Option Addr) (cap b o:Nat) (w:World) (hs:VsIn w h oa cap b o l) (hm:mayV 64 (l.map Vl.c)=true) (box:Bool) :
  Calls Tryz.prog 100 #[.slice oa l.length cap,.bool box] w fun e w'=>retC (· < w.heap.size) (betweenN (exH h) (l.map Vl.c) box) e w'∧Below w.heap.size w w':=by
 match hD:opsG 0 (l.map Vl.c) with
 | [(op,f,t)]=>exact between_1 h l oa cap b o w hs hm box hD
 | [(op,f,t),(op2,f2,t2)]=>exact between_2 h l oa cap b o w hs hm box hD
 | []=>exact between_0 h l oa cap b o w hs hm box (by rw[hD];simp) (by rw[hD];simp)
 | _::_::_::_=>exact between_0 h l oa cap b o w hs hm box (by rw[hD];simp) (by rw[hD];simp)
def needK (k:Int) (n:List UInt8):Int:=if (k=4∨k=3)∧(n=heightS∨n=ratioS)∨(k=3∨k=5)∧n=orientS then 2 else if (k=4∨k=3)∧n=widthS then 1 else 0
theorem needK_three (k:Int) (n:List UInt8):needK k n=0∨needK k n=1∨needK k n=2:=by
 unfold needK;split
 · exact .inr (.inr rfl)
 · split
   · exact .inr (.inl rfl)
   · exact .inl rfl
def needL (p:Int×ByteArray):Int:=needK p.1 p.2.data.toList
def foldN (o:Int) (ps:List (Int×ByteArray)):Int:=ps.foldl (fun o p=>max o (needL p)) o
theorem foldN_snoc (o:Int) (ps:List (Int×ByteArray)) (p:Int×ByteArray):foldN o (ps++[p])=max (foldN o ps) (needL p):=by
 unfold foldN;rw[List.foldl_append];rfl
theorem lkind_ways (k:Int):k=4∨k=3∨k=5∨(k≠4∧k≠3∧k≠5):=by omega
theorem lname_ways (n:List UInt8):n=heightS∨n=ratioS∨n=orientS∨n=widthS∨(n≠heightS∧n≠ratioS∧n≠orientS∧n≠widthS):=by
 by_cases h1:n=heightS
 · exact .inl h1
 by_cases h2:n=ratioS
 · exact .inr (.inl h2)
 by_cases h3:n=orientS
 · exact .inr (.inr (.inl h3))
 by_cases h4:n=widthS
 · exact .inr (.inr (.inr (.inl h4)))
 exact .inr (.inr (.inr (.inr ⟨h1,h2,h3,h4⟩)))
set_option maxRecDepth 20000 in
set_option maxHeartbeats 16000000 in
theorem needs_any (k t:Int) (n:List UInt8) (op ek en ed eu:Int) (ea:Option Addr) (el ec:Nat) (wd vl:ByteArray) (an:Bool) (w:World) :
  Calls Tryz.prog 44 #[.agg #[.int .i64 k,.int .i64 t,.string ⟨n.toArray⟩,.int .i64 op,.int .i64 ek,.int .i64 en,.int .i64 ed,.int .i64 eu,.slice ea el ec,.string wd,.string vl,.bool an]] w fun e w'=>e=.returned (.int .i64 (needK k n))∧Below w.heap.size w w':=by
 obtain⟨R,hR⟩:∃ R,needK k n=R:=⟨_,rfl⟩;have hb:=Lib.hid (below_box w (.cells #[.int .i64 k,.int .i64 t,.string ⟨n.toArray⟩,.int .i64 op,.int .i64 ek,.int .i64 en,.int .i64 ed,.int .i64 eu,.slice ea el ec,.string wd,.string vl,.bool an] 33));rw[hR];unfold needK at hR
 rcases lkind_ways k with rfl|rfl|rfl|⟨k4,k3,k5⟩<;>rcases lname_ways n with rfl|rfl|rfl|rfl|⟨n1,n2,n3,n4⟩
 all_goals
  try have q1:(n==[104,101,105,103,104,116])=false:=beq_eq_false_iff_ne.2 n1
  try have q2:(n==[97,115,112,101,99,116,45,114,97,116,105,111])=false:=beq_eq_false_iff_ne.2 n2
  try have q3:(n==[111,114,105,101,110,116,97,116,105,111,110])=false:=beq_eq_false_iff_ne.2 n3
  try have q4:(n==[119,105,100,116,104])=false:=beq_eq_false_iff_ne.2 n4
  try have g4:(k==4)=false:=beq_eq_false_iff_ne.2 k4
  try have g3:(k==3)=false:=beq_eq_false_iff_ne.2 k3
  try have g5:(k==5)=false:=beq_eq_false_iff_ne.2 k5
  first | (simp[n1,n2,n3,n4, *]at hR;done) | (simp[n1,n2,n3,n4]at hR;subst hR) | (simp[heightS,ratioS,orientS,widthS, *]at hR;subst hR)
  try unfold heightS at hb
  try unfold ratioS at hb
  try unfold orientS at hb
  try unfold widthS at hb
  try unfold heightS
  try unfold ratioS
  try unfold orientS
  try unfold widthS
  try clear n1 n2 n3 n4
  try clear k4 k3 k5
  go_enter Tryz.func44,Tryz.ntmps44
  go_wp2_with fail;refine wp_region_grow (by kernel_rfl) (by kernel_rfl) ?_
  repeat (go_big_quiet_step (fail))
  refine wpQuiet_nil ?_;rintro _ ⟨m,rfl⟩;go_wp2_with fail;go_ret;exact⟨rfl,below_grow hb.out m⟩
end Go.Proofs.YtnbkbenkhkinoaaGreatDoor
