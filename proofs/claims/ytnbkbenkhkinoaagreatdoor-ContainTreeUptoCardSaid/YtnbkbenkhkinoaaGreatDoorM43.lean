/- Of my texts: CnW. -/
import Derived.Test.YtnbkbenkhkinoaaGreatDoorM40
import Derived.Test.YtnbkbenkhkinoaaGreatDoorM41
import Derived.Test.YtnbkbenkhkinoaaGreatDoorM42
namespace Go.Proofs.YtnbkbenkhkinoaaGreatDoor
set_option linter.unusedVariables false
set_option linter.unusedSimpArgs false
open Go.RowKit Go.Lib
def cnCd:Cd:=.mk 4 none 0 0 0 [] ⟨4,0,⟨widthS.toArray⟩,5,.mk 1 10 1 2 none 0 0 0 [],⟨#[]⟩,⟨#[]⟩,false⟩
theorem cnCd_v:cv cnCd=.agg #[.int .i64 4,.slice none 0 0,.int .i64 4,.int .i64 0,.string ⟨widthS.toArray⟩,.int .i64 5,.int .i64 1,.int .i64 10,.int .i64 1,.int .i64 2,.slice none 0 0,.string ⟨#[]⟩,.string ⟨#[]⟩,.bool false]:=by rfl
theorem cnCd_in (w:World):CdIn w 2 cnCd:=⟨by unfold I64;decide,⟨by unfold I64;decide,by unfold I64;decide,by unfold I64;decide,by unfold I64;decide,by unfold Is64;decide,by unfold I64;decide,Nat.le_refl _,Nat.zero_le _,by simp,fun h=>absurd h (by simp),fun i x h=>by simp at h⟩,Nat.le_refl _,Nat.zero_le _,by simp,fun h=>absurd h (by simp),fun i x h=>by simp at h⟩
theorem cnCd_may:mayC 340 cnCd=true:=by kernel_rfl
theorem cnCd_need:foldN 0 ((leavesN 2 cnCd).map keyL)=1:=by
 unfold leavesN;rw[cnCd_may,if_pos rfl];rfl
theorem cnT_64:∀ t∈cnTk,Tk64 t:=fun t ht=>by
 unfold cnTk cnK cbt csp at ht;simp only[List.mem_append,List.mem_cons,List.not_mem_nil,or_false]at ht
 rcases ht with ((rfl|rfl|rfl) | (rfl|rfl|rfl|rfl|rfl)) | rfl<;>exact tk_lit (by decide)
set_option maxRecDepth 20000 in
set_option maxHeartbeats 8000000 in
theorem awake19_any (w:World) (hK:Kd w):Calls Tryz.prog 14 #[] w fun e w'=>e=.returned (.bool true)∧Below w.heap.size w w':=by
 have ho:=ofC_any w hK cnT_64;rw[cnTk_values]at ho;have HO:=Lib.hid (show Calls Tryz.prog 31 #[.string ⟨#[98,32,40,119,105,100,116,104,32,62,32,49,48,101,109,41]⟩] w fun e w'=>(∃ v,e=.returned v∧∃ h,isVs (· < w.heap.size) h cnL v w')∧Below w.heap.size w w' from ho);clear ho hK
 go_enter Tryz.func14,Tryz.ntmps14
 go_wp2_with fail
 ((with_reducible refine HO.out.mono ?_);rintro e wa ⟨⟨v,rfl,h,hv⟩,hba⟩)
 obtain⟨cap,b,o,l,rfl,hl,hc,hs⟩:=hv.cn;have HP:=Lib.hid (parse19_any h l cap b o wa hs hc);have HB:=Lib.hid hba;clear HO hv hl hc hs hba;go_wp2_with fail
 ((with_reducible refine HP.out.mono ?_);rintro e wb ⟨rfl,hbb⟩)
 have HB2:=bfH HB hbb;clear HP hbb HB
 go_upto_region 2 with fail
 obtain⟨h1,hb1⟩:=box_new wb 37 #[.string ⟨#[98]⟩,.int .i64 4,.slice none 0 0,.int .i64 4,.int .i64 0,.string ⟨widthS.toArray⟩,.int .i64 5,.int .i64 1,.int .i64 10,.int .i64 1,.int .i64 2,.slice none 0 0,.string ⟨#[]⟩,.string ⟨#[]⟩,.bool false];have HB3:=bfH HB2 hb1;clear hb1 HB2;generalize wb.heap.size=g at *;generalize World.alloc wb _=wc at *;obtain⟨e0,fe0,e1,fe1,e2,fe2,e3,fe3,e4,fe4,e5,fe5,e6,fe6,e7,fe7,e8,fe8,e9,fe9,e10,fe10,e11,fe11,e12,fe12,e13,fe13,e14,fe14,le⟩:=h1.many15;clear h1;have hn:=needsP_any 2 cnCd wc (cnCd_in wc) (by decide);rw[cnCd_need,cnCd_v]at hn;have HN:=Lib.hid hn;clear hn;go_wp2_with fail
 ((with_reducible refine HN.out.mono ?_);rintro e wd ⟨rfl,hbd⟩)
 have HB4:=bfH HB3 hbd;clear HB3 HN hbd;go_wp2_with fail;go_ret;exact⟨rfl,HB4.out⟩
end Go.Proofs.YtnbkbenkhkinoaaGreatDoor
