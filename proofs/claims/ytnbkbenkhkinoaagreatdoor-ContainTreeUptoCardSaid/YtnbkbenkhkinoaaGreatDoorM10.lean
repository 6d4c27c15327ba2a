/- Of my texts: DmL. -/
import Derived.Test.YtnbkbenkhkinoaaGreatDoorM09
import Derived.Shelf.SlIterI.Nil
import Derived.Shelf.SortM.Plain
import Derived.Shelf.SortM.SortNone
namespace Go.Proofs.YtnbkbenkhkinoaaGreatDoor
set_option linter.unusedVariables false
set_option linter.unusedSimpArgs false
open Go.RowKit Go.Maps Go.Sort Go.Shelf
def Tryz.laysMK_ren:Ren:=⟨fun x=>if x=7 then 23 else if x=10 then 42 else x,fun x=>if x=23 then 75 else if x=26 then 3 else if x=3 then 76 else if x=28 then 73 else if x=0 then 0 else if x=27 then 72 else if x=33 then 95 else if x=4 then 4 else x,fun x=>x⟩
theorem Tryz.laysMK:SlLaysZI.n7 Tryz.prog Tryz.laysMK_ren:={
 mixed:=(by kernel_rfl),
 f7:=⟨Tryz.f23.name,by kernel_rfl,Tryz.func23.trans (congrArg some (by kernel_rfl))⟩,
 f10:=⟨Tryz.f42.name,by kernel_rfl,Tryz.func42.trans (congrArg some (by kernel_rfl))⟩,
 t0:=Tryz.underlying0,
 a0:=Tryz.isAgg0,
 z0:=Tryz.sizeOf0,
 v0:=Tryz.zeroValue0,
 t4:=Tryz.underlying4,
 a4:=Tryz.isAgg4,
 z4:=Tryz.sizeOf4,
 v4:=Tryz.zeroValue4,
 t23:=Tryz.underlying75,
 a23:=Tryz.isAgg75,
 z23:=Tryz.sizeOf75,
 v23:=Tryz.zeroValue75,
 t26:=Tryz.underlying3,
 a26:=Tryz.isAgg3,
 z26:=Tryz.sizeOf3,
 v26:=Tryz.zeroValue3,
 t27:=Tryz.underlying72,
 a27:=Tryz.isAgg72,
 z27:=Tryz.sizeOf72,
 v27:=Tryz.zeroValue72,
 t28:=Tryz.underlying73,
 a28:=Tryz.isAgg73,
 z28:=Tryz.sizeOf73,
 v28:=Tryz.zeroValue73,
 t33:=Tryz.underlying95,
 a33:=Tryz.isAgg95,
 z33:=Tryz.sizeOf95,
 v33:=Tryz.zeroValue95 }
def Tryz.laysSS_ren:Ren:=⟨fun x=>if x=6 then 22 else if x=8 then 40 else if x=9 then 41 else if x=11 then 57 else if x=13 then 59 else if x=12 then 58 else if x=23 then 88 else if x=24 then 89 else if x=14 then 79 else if x=15 then 80 else if x=16 then 81 else if x=17 then 82 else if x=18 then 83 else if x=19 then 84 else if x=20 then 85 else if x=21 then 86 else if x=22 then 87 else if x=25 then 112 else if x=26 then 113 else if x=27 then 114 else if x=28 then 115 else if x=29 then 116 else if x=30 then 117 else if x=31 then 160 else x,fun x=>if x=26 then 3 else if x=28 then 73 else if x=24 then 22 else if x=0 then 0 else if x=3 then 3 else if x=37 then 122 else if x=48 then 152 else if x=50 then 154 else if x=4 then 4 else if x=40 then 145 else if x=39 then 144 else if x=45 then 45 else if x=5 then 5 else if x=9 then 9 else if x=51 then 185 else if x=55 then 189 else if x=57 then 223 else if x=58 then 224 else if x=33 then 95 else x,fun x=>x⟩
theorem Tryz.laysSS:SlLaysZI.n6 Tryz.prog Tryz.laysSS_ren:={
 mixed:=(by kernel_rfl),
 f6:=⟨Tryz.f22.name,by kernel_rfl,Tryz.func22.trans (congrArg some (by kernel_rfl))⟩,
 f8:=⟨Tryz.f40.name,by kernel_rfl,Tryz.func40.trans (congrArg some (by kernel_rfl))⟩,
 f11:=⟨Tryz.f57.name,by kernel_rfl,Tryz.func57.trans (congrArg some (by kernel_rfl))⟩,
 t0:=Tryz.underlying0,
 a0:=Tryz.isAgg0,
 z0:=Tryz.sizeOf0,
 v0:=Tryz.zeroValue0,
 t24:=Tryz.underlying22,
 a24:=Tryz.isAgg22,
 z24:=Tryz.sizeOf22,
 v24:=Tryz.zeroValue22,
 t26:=Tryz.underlying3,
 a26:=Tryz.isAgg3,
 z26:=Tryz.sizeOf3,
 v26:=Tryz.zeroValue3,
 t28:=Tryz.underlying73,
 a28:=Tryz.isAgg73,
 z28:=Tryz.sizeOf73,
 v28:=Tryz.zeroValue73,
 i26:=(by kernel_rfl) }
def Tryz.laysSO_ren:Ren:=⟨fun x=>if x=5 then 41 else if x=8 then 59 else if x=7 then 58 else if x=19 then 88 else if x=20 then 89 else if x=10 then 79 else if x=11 then 80 else if x=12 then 81 else if x=13 then 82 else if x=14 then 83 else if x=15 then 84 else if x=16 then 85 else if x=17 then 86 else if x=18 then 87 else if x=30 then 112 else if x=31 then 113 else if x=32 then 114 else if x=33 then 115 else if x=34 then 116 else if x=35 then 117 else if x=40 then 160 else x,fun x=>if x=23 then 22 else if x=25 then 3 else if x=3 then 3 else if x=32 then 122 else if x=22 then 22 else if x=0 then 0 else if x=44 then 152 else if x=46 then 154 else if x=4 then 4 else if x=36 then 145 else if x=35 then 144 else if x=41 then 45 else if x=5 then 5 else if x=9 then 9 else if x=53 then 185 else if x=57 then 189 else if x=63 then 223 else if x=64 then 224 else x,fun x=>x⟩
theorem Tryz.laysSO:SlLaysM.n5 Tryz.prog Tryz.laysSO_ren:={
 mixed:=(by kernel_rfl),
 f5:=⟨Tryz.f41.name,by kernel_rfl,Tryz.func41.trans (congrArg some (by kernel_rfl))⟩,
 f7:=⟨Tryz.f58.name,by kernel_rfl,Tryz.func58.trans (congrArg some (by kernel_rfl))⟩,
 f8:=Tryz.func59.trans (congrArg some (by kernel_rfl)),
 f10:=⟨Tryz.f79.name,by kernel_rfl,Tryz.func79.trans (congrArg some (by kernel_rfl))⟩,
 f11:=⟨Tryz.f80.name,by kernel_rfl,Tryz.func80.trans (congrArg some (by kernel_rfl))⟩,
 f12:=⟨Tryz.f81.name,by kernel_rfl,Tryz.func81.trans (congrArg some (by kernel_rfl))⟩,
 f13:=⟨Tryz.f82.name,by kernel_rfl,Tryz.func82.trans (congrArg some (by kernel_rfl))⟩,
 f14:=⟨Tryz.f83.name,by kernel_rfl,Tryz.func83.trans (congrArg some (by kernel_rfl))⟩,
 f15:=⟨Tryz.f84.name,by kernel_rfl,Tryz.func84.trans (congrArg some (by kernel_rfl))⟩,
 f16:=⟨Tryz.f85.name,by kernel_rfl,Tryz.func85.trans (congrArg some (by kernel_rfl))⟩,
 f17:=⟨Tryz.f86.name,by kernel_rfl,Tryz.func86.trans (congrArg some (by kernel_rfl))⟩,
 f18:=⟨Tryz.f87.name,by kernel_rfl,Tryz.func87.trans (congrArg some (by kernel_rfl))⟩,
 f19:=Tryz.func88.trans (congrArg some (by kernel_rfl)),
 f20:=Tryz.func89.trans (congrArg some (by kernel_rfl)),
 f30:=⟨Tryz.f112.name,by kernel_rfl,Tryz.func112.trans (congrArg some (by kernel_rfl))⟩,
 f31:=Tryz.func113.trans (congrArg some (by kernel_rfl)),
 f32:=Tryz.func114.trans (congrArg some (by kernel_rfl)),
 f33:=⟨Tryz.f115.name,by kernel_rfl,Tryz.func115.trans (congrArg some (by kernel_rfl))⟩,
 f34:=⟨Tryz.f116.name,by kernel_rfl,Tryz.func116.trans (congrArg some (by kernel_rfl))⟩,
 f35:=⟨Tryz.f117.name,by kernel_rfl,Tryz.func117.trans (congrArg some (by kernel_rfl))⟩,
 f40:=⟨Tryz.f160.name,by kernel_rfl,Tryz.func160.trans (congrArg some (by kernel_rfl))⟩,
 t0:=Tryz.underlying0,
 a0:=Tryz.isAgg0,
 z0:=Tryz.sizeOf0,
 v0:=Tryz.zeroValue0,
 t3:=Tryz.underlying3,
 a3:=Tryz.isAgg3,
 z3:=Tryz.sizeOf3,
 v3:=Tryz.zeroValue3,
 t4:=Tryz.underlying4,
 a4:=Tryz.isAgg4,
 z4:=Tryz.sizeOf4,
 v4:=Tryz.zeroValue4,
 t5:=Tryz.underlying5,
 a5:=Tryz.isAgg5,
 z5:=Tryz.sizeOf5,
 v5:=Tryz.zeroValue5,
 t9:=Tryz.underlying9,
 a9:=Tryz.isAgg9,
 z9:=Tryz.sizeOf9,
 v9:=Tryz.zeroValue9,
 t22:=Tryz.underlying22,
 a22:=Tryz.isAgg22,
 z22:=Tryz.sizeOf22,
 v22:=Tryz.zeroValue22,
 t23:=Tryz.underlying22,
 a23:=Tryz.isAgg22,
 z23:=Tryz.sizeOf22,
 v23:=Tryz.zeroValue22,
 t25:=Tryz.underlying3,
 a25:=Tryz.isAgg3,
 z25:=Tryz.sizeOf3,
 v25:=Tryz.zeroValue3,
 t32:=Tryz.underlying122,
 a32:=Tryz.isAgg122,
 z32:=Tryz.sizeOf122,
 v32:=Tryz.zeroValue122,
 t35:=Tryz.underlying144,
 a35:=Tryz.isAgg144,
 z35:=Tryz.sizeOf144,
 v35:=Tryz.zeroValue144,
 t36:=Tryz.underlying145,
 a36:=Tryz.isAgg145,
 z36:=Tryz.sizeOf145,
 v36:=Tryz.zeroValue145,
 t41:=Tryz.underlying45,
 a41:=Tryz.isAgg45,
 z41:=Tryz.sizeOf45,
 v41:=Tryz.zeroValue45,
 t44:=Tryz.underlying152,
 a44:=Tryz.isAgg152,
 z44:=Tryz.sizeOf152,
 v44:=Tryz.zeroValue152,
 t46:=Tryz.underlying154,
 a46:=Tryz.isAgg154,
 z46:=Tryz.sizeOf154,
 v46:=Tryz.zeroValue154,
 t53:=Tryz.underlying185,
 a53:=Tryz.isAgg185,
 z53:=Tryz.sizeOf185,
 v53:=Tryz.zeroValue185,
 t57:=Tryz.underlying189,
 a57:=Tryz.isAgg189,
 z57:=Tryz.sizeOf189,
 v57:=Tryz.zeroValue189,
 t63:=Tryz.underlying223,
 a63:=Tryz.isAgg223,
 z63:=Tryz.sizeOf223,
 v63:=Tryz.zeroValue223,
 t64:=Tryz.underlying224,
 a64:=Tryz.isAgg224,
 z64:=Tryz.sizeOf224,
 v64:=Tryz.zeroValue224 }
theorem sortsK (m:Nat):AnyZI.SortsIn Tryz.prog Tryz.laysSS_ren Fence.wide m :=
 ⟨fun blk off cap ss W hH hblk hsz=>callsIn_wide.2 (AnyM.slices_Sort_int Tryz.laysSO blk off cap ss W hH hblk hsz),fun p cap W=>callsIn_wide.2 (AnyM.slices_Sort_int_none Tryz.laysSO p cap W)⟩
theorem keysE_any (mb:Option Nat) (w:World):Calls Tryz.prog 23 #[.map mb] w fun e w' =>
  e=.returned (.func (.func 42) #[] #[.pointer (some ⟨w.heap.size,0,none⟩)])∧w'=w.alloc (.cells #[.map mb] 75) :=
 (callsIn_wide (n:=6)).1 (AnyZI.keys_in Tryz.laysMK Fence.wide 6 trivial rfl mb w)
theorem sortedE_any {w:World} {Bm b nn:Nat} {D:Dt} {gs:List Nat} (hm:Blk w Bm 75 #[.map (some b)]) (hown:w.ownsMap Tryz.prog 3 ptrE b nn D) (hD:MapIs D gs) (hs:gs.length≤100) :
  Calls Tryz.prog 22 #[.func (.func 42) #[] #[.pointer (some ⟨Bm,0,none⟩)]] w fun e w' =>
   ∃ v,e=.returned v∧w'.ownsRow w.heap.size 3 1 v gs.length ((upto gs.length).map (Value.int .i64))∧Below w.heap.size w w':=by
 have hsz:Maps.size D=gs.length:=hD.size
 have hseq:SeqGives Fence.wide 3 Tryz.prog 42 #[.pointer (some ⟨Bm,0,none⟩)] encZ (fun ss=>ss.Perm (intKeys D)) (Maps.size D) w :=
  AnyZI.keys_gives (ρ:=Tryz.laysMK_ren) { Tryz.laysMK with } Fence.wide _ trivial rfl (by omega) Bm b nn D w hm.lt (hm.cell 0) hown
 have cS:=AnyZI.sorted_in Tryz.laysSS Fence.wide 6 trivial trivial trivial trivial rfl (by omega) (sortsK _) (enters_of Tryz.func41 (by kernel_rfl) rfl) 42 #[.pointer (some ⟨Bm,0,none⟩)] trivial (enters_of Tryz.func42 (by kernel_rfl) rfl) _ _ (by unfold maxLen;omega) (by omega) w hseq;refine((callsIn_wide (n:=6)).1 cS).mono ?_;rintro e w' ⟨v,ss,rfl,hp,hrow,-,hb⟩
 obtain ⟨es,rfl,hpw,hko⟩:∃ es,D=.map es∧es.Pairwise (fun p q=>p.1≠q.1)∧∀ p∈es,∃ x,p.1=.int .i64 x:=by
  obtain⟨es,e1,h1,-⟩:=hown.entries keyInt;obtain⟨es',e2,h2⟩:=hown.keysOf
  obtain rfl:es=es':=by rw[e1]at e2;simpa using e2
  exact ⟨es,e1,h1,fun p hp=>by
   obtain⟨u,hu⟩:=h2 p hp;obtain⟨x,-,hx,-⟩:=Maps.keyOf_i64 Tryz.underlying3 hu
   exact⟨x,hx⟩⟩
 have hk:=keys_sorted hp (perm_intKeys hpw hko (upto_nodup gs.length) (fun x=>(hD.has_iff x).symm)).symm
 have hl:ss.length=gs.length:=by
  have:=congrArg List.length hk;rwa [List.length_mergeSort,upto_length]at this
 rw[hk,hl]at hrow;exact⟨v,rfl,hrow,hb⟩
end Go.Proofs.YtnbkbenkhkinoaaGreatDoor
