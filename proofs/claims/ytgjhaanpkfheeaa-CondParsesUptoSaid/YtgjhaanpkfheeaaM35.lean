/- Of my texts: ParseQ, RefPar. -/
import Derived.Test.YtgjhaanpkfheeaaM20
import Derived.Test.YtgjhaanpkfheeaaM31
import Derived.Test.YtgjhaanpkfheeaaM34
namespace Go.Proofs.Ytgjhaanpkfheeaa
set_option linter.unusedVariables false
set_option linter.unusedSimpArgs false
open Go.RowKit

theorem cond_all (bq : Bool) : ∀ h, QWholeAt bq h
  | 0 => kwhole_step bq 0 (read_step bq 0 (part_step bq 0 fun h' e => absurd e (by omega)))
  | h + 1 => kwhole_step bq (h + 1) (read_step bq (h + 1) (part_step bq (h + 1) fun h' e => by
      obtain rfl : h = h' := by omega
      exact cond_all bq h))

def codeQ (bq : Bool) (h : Nat) (L : List Vt) : Int := if mayV 64 L = true then (if (wholeQ readQ (leafF bq) h L).isSome then 0 else 3) else 1
def condQ (bq : Bool) (h : Nat) (L : List Vt) : Qt := if mayV 64 L = true then (wholeQ readQ (leafF bq) h L).getD zeroQt else zeroQt

set_option maxRecDepth 20000 in
set_option maxHeartbeats 8000000 in
theorem kparse_any (bq : Bool) (h : Nat) (l : List Vl) (oa : Option Addr) (cap bb o : Nat) (w : World) (hs : VsIn w h oa cap bb o l) (hz : szV (l.map Vl.c) ≤ 1073741824) :
    Calls Try.prog 55 #[.slice oa l.length cap, leafV bq] w fun e w' => ∃ (r : Value) (code : Int), e = .returned (.tuple #[r, .int .i64 code]) ∧ code = codeQ bq h (l.map Vl.c) ∧ isQd (· < w.heap.size) (condQ bq h (l.map Vl.c)) r w' ∧ Below w.heap.size w w' := by
  obtain ⟨N, hN⟩ : ∃ N, l.length = N := ⟨_, rfl⟩
  obtain ⟨L, hL⟩ : ∃ L, l.map Vl.c = L := ⟨_, rfl⟩
  rw [hN, hL]
  have hb := below_box w (.cells zero14 49)
  have h1 := Blk.new w 49 zero14
  have hm := mayvr_any h l oa cap bb o _ (hs.below hb)
  rw [hN, hL] at hm
  have HM := Lib.hid hm
  have HS := Lib.hid (And.intro (hs.below hb) (And.intro hz (And.intro hN hL)))
  obtain ⟨g, hg⟩ : ∃ g, w.heap.size = g := ⟨_, rfl⟩
  rw [hg] at h1 hb
  have H := Lib.hid (And.intro h1 hb)
  have HG := Lib.hid hg
  clear h1 hb hm hs hz hN hL
  simp only [zero14] at H HS HM
  obtain ⟨lv, hlv⟩ : ∃ lv, leafV bq = lv := ⟨_, rfl⟩
  have hone : lv.oneCell' = true ∧ True := by
    subst hlv
    cases bq <;> exact ⟨rfl, trivial⟩
  have HLV := Lib.hid hlv
  clear hlv
  rw [HLV.out]
  go_enter Try.func55, Try.ntmps55
  go_upto_region 1 with fail
  clear hg
  generalize World.alloc w _ = wa at *
  obtain ⟨M, hM⟩ : ∃ M, mayV 64 L = M := ⟨_, rfl⟩
  rw [hM] at HM
  have lcg := H.out.1.lt
  go_wp2_with fail
  ((with_reducible refine (HM.out).mono ?_); rintro e w' ⟨rfl, hbw⟩)
  obtain ⟨m, rfl⟩ := grow_mk hbw
  clear hbw
  have h1 := H.out.1.grow m
  have HB := Lib.hid (H.out.2.trans ((grow_below m).mono (Nat.le_of_lt lcg)))
  have HS2 := Lib.hid (HS.out.1.below (grow_below m))
  have lcb := h1.lt
  generalize grow wa m = wb at *
  cases M with
  | false =>
    have ca0 : wb.cell? ⟨g, 0, none⟩ = some (.int .i64 0) := (h1).cell 0
    have fca0 := (h1).frozen 0
    have ca1 : wb.cell? ⟨g, 1, none⟩ = some (.slice none 0 0) := (h1).cell 1
    have fca1 := (h1).frozen 1
    have ca2 : wb.cell? ⟨g, 2, none⟩ = some (.int .i64 0) := (h1).cell 2
    have fca2 := (h1).frozen 2
    have ca3 : wb.cell? ⟨g, 3, none⟩ = some (.int .i64 0) := (h1).cell 3
    have fca3 := (h1).frozen 3
    have ca4 : wb.cell? ⟨g, 4, none⟩ = some (.string ⟨#[]⟩) := (h1).cell 4
    have fca4 := (h1).frozen 4
    have ca5 : wb.cell? ⟨g, 5, none⟩ = some (.int .i64 0) := (h1).cell 5
    have fca5 := (h1).frozen 5
    have ca6 : wb.cell? ⟨g, 6, none⟩ = some (.int .i64 0) := (h1).cell 6
    have fca6 := (h1).frozen 6
    have ca7 : wb.cell? ⟨g, 7, none⟩ = some (.int .i64 0) := (h1).cell 7
    have fca7 := (h1).frozen 7
    have ca8 : wb.cell? ⟨g, 8, none⟩ = some (.int .i64 0) := (h1).cell 8
    have fca8 := (h1).frozen 8
    have ca9 : wb.cell? ⟨g, 9, none⟩ = some (.int .i64 0) := (h1).cell 9
    have fca9 := (h1).frozen 9
    have ca10 : wb.cell? ⟨g, 10, none⟩ = some (.slice none 0 0) := (h1).cell 10
    have fca10 := (h1).frozen 10
    have ca11 : wb.cell? ⟨g, 11, none⟩ = some (.string ⟨#[]⟩) := (h1).cell 11
    have fca11 := (h1).frozen 11
    have ca12 : wb.cell? ⟨g, 12, none⟩ = some (.string ⟨#[]⟩) := (h1).cell 12
    have fca12 := (h1).frozen 12
    have ca13 : wb.cell? ⟨g, 13, none⟩ = some (.bool false) := (h1).cell 13
    have fca13 := (h1).frozen 13
    have lca := (h1).lt
    have h1' := Lib.hid h1
    clear h1
    go_wp2_with fail
    have hz := blk_puts [.int .i64 0, .slice none 0 0, .int .i64 0, .int .i64 0, .string ⟨#[]⟩, .int .i64 0, .int .i64 0, .int .i64 0, .int .i64 0, .int .i64 0, .slice none 0 0, .string ⟨#[]⟩, .string ⟨#[]⟩, .bool false] zero14.toList (wb) 0 [] h1'.out rfl rfl
    have hbz := HB.out.trans (below_put14 [.int .i64 0, .slice none 0 0, .int .i64 0, .int .i64 0, .string ⟨#[]⟩, .int .i64 0, .int .i64 0, .int .i64 0, .int .i64 0, .int .i64 0, .slice none 0 0, .string ⟨#[]⟩, .string ⟨#[]⟩, .bool false] (wb) g 0)
    have hgz := grownBy_puts [.int .i64 0, .slice none 0 0, .int .i64 0, .int .i64 0, .string ⟨#[]⟩, .int .i64 0, .int .i64 0, .int .i64 0, .int .i64 0, .int .i64 0, .slice none 0 0, .string ⟨#[]⟩, .string ⟨#[]⟩, .bool false] (wb) g 0
    simp only [puts, Nat.zero_add, Nat.reduceAdd] at hz hbz hgz
    refine bodyPost_ret (v := .tuple #[.agg #[.int .i64 0, .slice none 0 0, .int .i64 0, .int .i64 0, .string ⟨#[]⟩, .int .i64 0, .int .i64 0, .int .i64 0, .int .i64 0, .int .i64 0, .slice none 0 0, .string ⟨#[]⟩, .string ⟨#[]⟩, .bool false], .int .i64 1]) ?_ rfl ?_
    · refine ret_cd2 Try.results55 ?_ ?_ hz rfl
      all_goals rfl
    · refine ⟨_, _, rfl, ?_, ?_, by rw [HG.out]; exact hbz⟩
      · unfold codeQ
        rw [hM]
        rfl
      · unfold condQ
        rw [hM, HG.out]
        exact zero_qd _ _
  | true =>
    have H1 := Lib.hid h1
    clear h1
    have hlv := HLV.out
    cases bq with
    | false =>
      obtain rfl : lv = .nilFunc := hlv.symm
      clear hlv HLV hone
      go_upto_region 4 with fail
      have hbx := below_box wb (.cells #[.nilFunc] 97)
      have hrd := Blk.new wb 97 #[.nilFunc]
      have hwh := cond_all false h l oa cap bb o wb.heap.size (wb.alloc (.cells #[.nilFunc] 97)) hrd (HS2.out.below hbx) ⟨64, by rw [HS.out.2.2.2]; exact hM⟩ HS.out.2.1
      rw [HS.out.2.2.2, HS.out.2.2.1] at hwh
      have HW := Lib.hid hwh
      have H2 := Lib.hid (H1.out.old (.cells #[.nilFunc] 97))
      have HB2 := Lib.hid (HB.out.trans (hbx.mono (Nat.le_of_lt lcb)))
      have lcc := H2.out.lt
      clear hbx hrd hwh H1 HB HS2
      generalize wb.heap.size = gr at *
      generalize World.alloc wb _ = wc at *
      obtain ⟨X, hX⟩ : ∃ X, wholeQ readQ (leafF false) h L = X := ⟨_, rfl⟩
      rw [hX] at HW
      go_wp2_with fail
      ((with_reducible refine HW.out.mono ?_); rintro e wd ⟨r, code, rfl, hcode, hq, hbd⟩)
      obtain ⟨qk, qa, qn, qc, ⟨q1, q2, q3⟩, hr⟩ := hq.cells
      simp only [qcells] at hr
      subst hr
      have HQ := Lib.hid hq
      have HCO := Lib.hid hcode
      have h1 := H2.out.below hbd H2.out.lt
      have HB3 := Lib.hid (HB2.out.trans (hbd.mono (Nat.le_of_lt lcc)))
      clear hq hcode hbd HW H2 HB2
      have ca0 : wd.cell? ⟨g, 0, none⟩ = some (.int .i64 0) := (h1).cell 0
      have fca0 := (h1).frozen 0
      have ca1 : wd.cell? ⟨g, 1, none⟩ = some (.slice none 0 0) := (h1).cell 1
      have fca1 := (h1).frozen 1
      have ca2 : wd.cell? ⟨g, 2, none⟩ = some (.int .i64 0) := (h1).cell 2
      have fca2 := (h1).frozen 2
      have ca3 : wd.cell? ⟨g, 3, none⟩ = some (.int .i64 0) := (h1).cell 3
      have fca3 := (h1).frozen 3
      have ca4 : wd.cell? ⟨g, 4, none⟩ = some (.string ⟨#[]⟩) := (h1).cell 4
      have fca4 := (h1).frozen 4
      have ca5 : wd.cell? ⟨g, 5, none⟩ = some (.int .i64 0) := (h1).cell 5
      have fca5 := (h1).frozen 5
      have ca6 : wd.cell? ⟨g, 6, none⟩ = some (.int .i64 0) := (h1).cell 6
      have fca6 := (h1).frozen 6
      have ca7 : wd.cell? ⟨g, 7, none⟩ = some (.int .i64 0) := (h1).cell 7
      have fca7 := (h1).frozen 7
      have ca8 : wd.cell? ⟨g, 8, none⟩ = some (.int .i64 0) := (h1).cell 8
      have fca8 := (h1).frozen 8
      have ca9 : wd.cell? ⟨g, 9, none⟩ = some (.int .i64 0) := (h1).cell 9
      have fca9 := (h1).frozen 9
      have ca10 : wd.cell? ⟨g, 10, none⟩ = some (.slice none 0 0) := (h1).cell 10
      have fca10 := (h1).frozen 10
      have ca11 : wd.cell? ⟨g, 11, none⟩ = some (.string ⟨#[]⟩) := (h1).cell 11
      have fca11 := (h1).frozen 11
      have ca12 : wd.cell? ⟨g, 12, none⟩ = some (.string ⟨#[]⟩) := (h1).cell 12
      have fca12 := (h1).frozen 12
      have ca13 : wd.cell? ⟨g, 13, none⟩ = some (.bool false) := (h1).cell 13
      have fca13 := (h1).frozen 13
      have lca := (h1).lt
      have h1' := Lib.hid h1
      clear h1
      go_wp2_with fail
      have hz := blk_puts [.int .i64 qk, .slice qa qn qc, .int .i64 q1, .int .i64 q2, .string ⟨q3.toArray⟩, .int .i64 0, .int .i64 0, .int .i64 0, .int .i64 0, .int .i64 0, .slice none 0 0, .string ⟨#[]⟩, .string ⟨#[]⟩, .bool false] zero14.toList (wd) 0 [] h1'.out rfl rfl
      have hbz := HB3.out.trans (below_put14 [.int .i64 qk, .slice qa qn qc, .int .i64 q1, .int .i64 q2, .string ⟨q3.toArray⟩, .int .i64 0, .int .i64 0, .int .i64 0, .int .i64 0, .int .i64 0, .slice none 0 0, .string ⟨#[]⟩, .string ⟨#[]⟩, .bool false] (wd) g 0)
      have hgz := grownBy_puts [.int .i64 qk, .slice qa qn qc, .int .i64 q1, .int .i64 q2, .string ⟨q3.toArray⟩, .int .i64 0, .int .i64 0, .int .i64 0, .int .i64 0, .int .i64 0, .slice none 0 0, .string ⟨#[]⟩, .string ⟨#[]⟩, .bool false] (wd) g 0
      simp only [puts, Nat.zero_add, Nat.reduceAdd] at hz hbz hgz
      refine bodyPost_ret (v := .tuple #[.agg #[.int .i64 qk, .slice qa qn qc, .int .i64 q1, .int .i64 q2, .string ⟨q3.toArray⟩, .int .i64 0, .int .i64 0, .int .i64 0, .int .i64 0, .int .i64 0, .slice none 0 0, .string ⟨#[]⟩, .string ⟨#[]⟩, .bool false], .int .i64 code]) ?_ rfl ?_
      · refine ret_cd2 Try.results55 ?_ ?_ hz rfl
        all_goals rfl
      · refine ⟨_, _, rfl, ?_, ?_, by rw [HG.out]; exact hbz⟩
        · rw [HCO.out]
          unfold codeQ
          rw [hM, if_pos rfl, hX]
        · unfold condQ
          rw [hM, if_pos rfl, hX, HG.out]
          exact (HQ.out.grown hgz (fun k e _ => by have := Option.some.inj e; omega)).anti fun b hb => Or.inl (by omega)
    | true =>
      obtain rfl : lv = .func (.func 56) #[] #[] := hlv.symm
      clear hlv HLV hone
      go_upto_region 4 with fail
      have hbx := below_box wb (.cells #[.func (.func 56) #[] #[]] 97)
      have hrd := Blk.new wb 97 #[.func (.func 56) #[] #[]]
      have hwh := cond_all true h l oa cap bb o wb.heap.size (wb.alloc (.cells #[.func (.func 56) #[] #[]] 97)) hrd (HS2.out.below hbx) ⟨64, by rw [HS.out.2.2.2]; exact hM⟩ HS.out.2.1
      rw [HS.out.2.2.2, HS.out.2.2.1] at hwh
      have HW := Lib.hid hwh
      have H2 := Lib.hid (H1.out.old (.cells #[.func (.func 56) #[] #[]] 97))
      have HB2 := Lib.hid (HB.out.trans (hbx.mono (Nat.le_of_lt lcb)))
      have lcc := H2.out.lt
      clear hbx hrd hwh H1 HB HS2
      generalize wb.heap.size = gr at *
      generalize World.alloc wb _ = wc at *
      obtain ⟨X, hX⟩ : ∃ X, wholeQ readQ (leafF true) h L = X := ⟨_, rfl⟩
      rw [hX] at HW
      go_wp2_with fail
      ((with_reducible refine HW.out.mono ?_); rintro e wd ⟨r, code, rfl, hcode, hq, hbd⟩)
      obtain ⟨qk, qa, qn, qc, ⟨q1, q2, q3⟩, hr⟩ := hq.cells
      simp only [qcells] at hr
      subst hr
      have HQ := Lib.hid hq
      have HCO := Lib.hid hcode
      have h1 := H2.out.below hbd H2.out.lt
      have HB3 := Lib.hid (HB2.out.trans (hbd.mono (Nat.le_of_lt lcc)))
      clear hq hcode hbd HW H2 HB2
      have ca0 : wd.cell? ⟨g, 0, none⟩ = some (.int .i64 0) := (h1).cell 0
      have fca0 := (h1).frozen 0
      have ca1 : wd.cell? ⟨g, 1, none⟩ = some (.slice none 0 0) := (h1).cell 1
      have fca1 := (h1).frozen 1
      have ca2 : wd.cell? ⟨g, 2, none⟩ = some (.int .i64 0) := (h1).cell 2
      have fca2 := (h1).frozen 2
      have ca3 : wd.cell? ⟨g, 3, none⟩ = some (.int .i64 0) := (h1).cell 3
      have fca3 := (h1).frozen 3
      have ca4 : wd.cell? ⟨g, 4, none⟩ = some (.string ⟨#[]⟩) := (h1).cell 4
      have fca4 := (h1).frozen 4
      have ca5 : wd.cell? ⟨g, 5, none⟩ = some (.int .i64 0) := (h1).cell 5
      have fca5 := (h1).frozen 5
      have ca6 : wd.cell? ⟨g, 6, none⟩ = some (.int .i64 0) := (h1).cell 6
      have fca6 := (h1).frozen 6
      have ca7 : wd.cell? ⟨g, 7, none⟩ = some (.int .i64 0) := (h1).cell 7
      have fca7 := (h1).frozen 7
      have ca8 : wd.cell? ⟨g, 8, none⟩ = some (.int .i64 0) := (h1).cell 8
      have fca8 := (h1).frozen 8
      have ca9 : wd.cell? ⟨g, 9, none⟩ = some (.int .i64 0) := (h1).cell 9
      have fca9 := (h1).frozen 9
      have ca10 : wd.cell? ⟨g, 10, none⟩ = some (.slice none 0 0) := (h1).cell 10
      have fca10 := (h1).frozen 10
      have ca11 : wd.cell? ⟨g, 11, none⟩ = some (.string ⟨#[]⟩) := (h1).cell 11
      have fca11 := (h1).frozen 11
      have ca12 : wd.cell? ⟨g, 12, none⟩ = some (.string ⟨#[]⟩) := (h1).cell 12
      have fca12 := (h1).frozen 12
      have ca13 : wd.cell? ⟨g, 13, none⟩ = some (.bool false) := (h1).cell 13
      have fca13 := (h1).frozen 13
      have lca := (h1).lt
      have h1' := Lib.hid h1
      clear h1
      go_wp2_with fail
      have hz := blk_puts [.int .i64 qk, .slice qa qn qc, .int .i64 q1, .int .i64 q2, .string ⟨q3.toArray⟩, .int .i64 0, .int .i64 0, .int .i64 0, .int .i64 0, .int .i64 0, .slice none 0 0, .string ⟨#[]⟩, .string ⟨#[]⟩, .bool false] zero14.toList (wd) 0 [] h1'.out rfl rfl
      have hbz := HB3.out.trans (below_put14 [.int .i64 qk, .slice qa qn qc, .int .i64 q1, .int .i64 q2, .string ⟨q3.toArray⟩, .int .i64 0, .int .i64 0, .int .i64 0, .int .i64 0, .int .i64 0, .slice none 0 0, .string ⟨#[]⟩, .string ⟨#[]⟩, .bool false] (wd) g 0)
      have hgz := grownBy_puts [.int .i64 qk, .slice qa qn qc, .int .i64 q1, .int .i64 q2, .string ⟨q3.toArray⟩, .int .i64 0, .int .i64 0, .int .i64 0, .int .i64 0, .int .i64 0, .slice none 0 0, .string ⟨#[]⟩, .string ⟨#[]⟩, .bool false] (wd) g 0
      simp only [puts, Nat.zero_add, Nat.reduceAdd] at hz hbz hgz
      refine bodyPost_ret (v := .tuple #[.agg #[.int .i64 qk, .slice qa qn qc, .int .i64 q1, .int .i64 q2, .string ⟨q3.toArray⟩, .int .i64 0, .int .i64 0, .int .i64 0, .int .i64 0, .int .i64 0, .slice none 0 0, .string ⟨#[]⟩, .string ⟨#[]⟩, .bool false], .int .i64 code]) ?_ rfl ?_
      · refine ret_cd2 Try.results55 ?_ ?_ hz rfl
        all_goals rfl
      · refine ⟨_, _, rfl, ?_, ?_, by rw [HG.out]; exact hbz⟩
        · rw [HCO.out]
          unfold codeQ
          rw [hM, if_pos rfl, hX]
        · unfold condQ
          rw [hM, if_pos rfl, hX, HG.out]
          exact (HQ.out.grown hgz (fun k e _ => by have := Option.some.inj e; omega)).anti fun b hb => Or.inl (by omega)

end Go.Proofs.Ytgjhaanpkfheeaa

namespace Go.Proofs.Ytgjhaanpkfheeaa
set_option linter.unusedVariables false
set_option linter.unusedSimpArgs false
open Go.RowKit

theorem rparse_all (bq : Bool) : ∀ h, RParseAt bq h
  | 0 => rparse_step15 bq 0 (rpart_step bq 0 fun h' e => absurd e (by omega))
  | h + 1 => rparse_step15 bq (h + 1) (rpart_step bq (h + 1) fun h' e => by
      obtain rfl : h = h' := by omega
      exact rparse_all bq h)

set_option maxRecDepth 20000 in
set_option maxHeartbeats 8000000 in
theorem r15parse_any (bq : Bool) (h : Nat) (l : List Vl) (oa : Option Addr) (cap bb o : Nat) (am : List An) (aoa : Option Addr) (acap ab ao ha : Nat) (w : World) (hs : VsIn w h oa cap bb o l) (hz : szV (l.map Vl.c) ≤ 1073741824) (han : AnsIn w ha aoa acap ab ao am) (hfor : mayV 64 (l.map Vl.c) = true → AnsFor bq h (solidV (l.map Vl.c)) am) :
    Calls Try.prog 57 #[.slice oa l.length cap, .slice aoa am.length acap] w fun e w' => ∃ (r : Value) (code : Int), e = .returned (.tuple #[r, .int .i64 code]) ∧ code = codeQ bq h (l.map Vl.c) ∧ isQd (· < w.heap.size) (condQ bq h (l.map Vl.c)) r w' ∧ Below w.heap.size w w' := by
  obtain ⟨N, hN⟩ : ∃ N, l.length = N := ⟨_, rfl⟩
  obtain ⟨A, hA⟩ : ∃ A, am.length = A := ⟨_, rfl⟩
  obtain ⟨L, hL⟩ : ∃ L, l.map Vl.c = L := ⟨_, rfl⟩
  have hX2 : parseQ (pR bq h) (solidV L) = wholeQ readQ (leafF bq) h L := by
    rw [whole_parse, whole_pR]
    intro h0
    subst h0
    rw [← hL]
    cases l with
    | nil => rfl
    | cons x r => exact (hs.each 0 x rfl).elim
  rw [hN, hL, hA]
  have hb := below_box w (.cells zero14 49)
  have h1 := Blk.new w 49 zero14
  have hm := mayv5_any h l oa cap bb o _ (hs.below hb)
  rw [hN, hL] at hm
  have HM := Lib.hid hm
  rw [hL] at hz hfor
  have HS := Lib.hid (And.intro (hs.below hb) (And.intro hz (And.intro hN (And.intro hL (And.intro (han.below hb) (And.intro hA hX2))))))
  have HFR := Lib.hid hfor
  obtain ⟨g, hg⟩ : ∃ g, w.heap.size = g := ⟨_, rfl⟩
  rw [hg] at h1 hb
  have H := Lib.hid (And.intro h1 hb)
  have HG := Lib.hid hg
  clear h1 hb hm hs hz hN hL hg han hfor hA hX2
  simp only [zero14] at H HS HM
  go_enter Try.func57, Try.ntmps57
  go_upto_region 1 with fail
  simp only [HG.out]
  generalize World.alloc w _ = wa at *
  obtain ⟨M, hM⟩ : ∃ M, mayV 64 L = M := ⟨_, rfl⟩
  rw [hM] at HM HFR
  have lcg := H.out.1.lt
  go_wp2_with fail
  ((with_reducible refine (HM.out).mono ?_); rintro e w' ⟨rfl, hbw⟩)
  obtain ⟨m, rfl⟩ := grow_mk hbw
  clear hbw
  have h1 := H.out.1.grow m
  have HB := Lib.hid (H.out.2.trans ((grow_below m).mono (Nat.le_of_lt lcg)))
  have HS2 := Lib.hid (And.intro (HS.out.1.below (grow_below m)) (HS.out.2.2.2.2.1.below (grow_below m)))
  have lcb := h1.lt
  generalize grow wa m = wb at *
  cases M with
  | false =>
    have ca0 : wb.cell? ⟨g, 0, none⟩ = some (.int .i64 0) := (h1).cell 0
    have fca0 := (h1).frozen 0
    have ca1 : wb.cell? ⟨g, 1, none⟩ = some (.slice none 0 0) := (h1).cell 1
    have fca1 := (h1).frozen 1
    have ca2 : wb.cell? ⟨g, 2, none⟩ = some (.int .i64 0) := (h1).cell 2
    have fca2 := (h1).frozen 2
    have ca3 : wb.cell? ⟨g, 3, none⟩ = some (.int .i64 0) := (h1).cell 3
    have fca3 := (h1).frozen 3
    have ca4 : wb.cell? ⟨g, 4, none⟩ = some (.string ⟨#[]⟩) := (h1).cell 4
    have fca4 := (h1).frozen 4
    have ca5 : wb.cell? ⟨g, 5, none⟩ = some (.int .i64 0) := (h1).cell 5
    have fca5 := (h1).frozen 5
    have ca6 : wb.cell? ⟨g, 6, none⟩ = some (.int .i64 0) := (h1).cell 6
    have fca6 := (h1).frozen 6
    have ca7 : wb.cell? ⟨g, 7, none⟩ = some (.int .i64 0) := (h1).cell 7
    have fca7 := (h1).frozen 7
    have ca8 : wb.cell? ⟨g, 8, none⟩ = some (.int .i64 0) := (h1).cell 8
    have fca8 := (h1).frozen 8
    have ca9 : wb.cell? ⟨g, 9, none⟩ = some (.int .i64 0) := (h1).cell 9
    have fca9 := (h1).frozen 9
    have ca10 : wb.cell? ⟨g, 10, none⟩ = some (.slice none 0 0) := (h1).cell 10
    have fca10 := (h1).frozen 10
    have ca11 : wb.cell? ⟨g, 11, none⟩ = some (.string ⟨#[]⟩) := (h1).cell 11
    have fca11 := (h1).frozen 11
    have ca12 : wb.cell? ⟨g, 12, none⟩ = some (.string ⟨#[]⟩) := (h1).cell 12
    have fca12 := (h1).frozen 12
    have ca13 : wb.cell? ⟨g, 13, none⟩ = some (.bool false) := (h1).cell 13
    have fca13 := (h1).frozen 13
    have lca := (h1).lt
    have h1' := Lib.hid h1
    clear h1
    go_wp2_with fail
    have hz := blk_puts [.int .i64 0, .slice none 0 0, .int .i64 0, .int .i64 0, .string ⟨#[]⟩, .int .i64 0, .int .i64 0, .int .i64 0, .int .i64 0, .int .i64 0, .slice none 0 0, .string ⟨#[]⟩, .string ⟨#[]⟩, .bool false] zero14.toList (wb) 0 [] h1'.out rfl rfl
    have hbz := HB.out.trans (below_put14 [.int .i64 0, .slice none 0 0, .int .i64 0, .int .i64 0, .string ⟨#[]⟩, .int .i64 0, .int .i64 0, .int .i64 0, .int .i64 0, .int .i64 0, .slice none 0 0, .string ⟨#[]⟩, .string ⟨#[]⟩, .bool false] (wb) g 0)
    have hgz := grownBy_puts [.int .i64 0, .slice none 0 0, .int .i64 0, .int .i64 0, .string ⟨#[]⟩, .int .i64 0, .int .i64 0, .int .i64 0, .int .i64 0, .int .i64 0, .slice none 0 0, .string ⟨#[]⟩, .string ⟨#[]⟩, .bool false] (wb) g 0
    simp only [puts, Nat.zero_add, Nat.reduceAdd] at hz hbz hgz
    refine bodyPost_ret (v := .tuple #[.agg #[.int .i64 0, .slice none 0 0, .int .i64 0, .int .i64 0, .string ⟨#[]⟩, .int .i64 0, .int .i64 0, .int .i64 0, .int .i64 0, .int .i64 0, .slice none 0 0, .string ⟨#[]⟩, .string ⟨#[]⟩, .bool false], .int .i64 1]) ?_ rfl ?_
    · refine ret_cd2 Try.results57 ?_ ?_ hz rfl
      all_goals rfl
    · refine ⟨_, _, rfl, ?_, ?_, by rw [HG.out]; exact hbz⟩
      · unfold codeQ
        rw [hM]
        rfl
      · unfold condQ
        rw [hM, HG.out]
        exact zero_qd _ _
  | true =>
    have H1 := Lib.hid h1
    clear h1
    have hpk := rpack_any h l oa cap bb o wb HS2.out.1
    rw [HS.out.2.2.1, HS.out.2.2.2.1] at hpk
    have HPK := Lib.hid hpk
    clear hpk
    go_wp2_with fail
    ((with_reducible refine HPK.out.mono ?_); rintro e wc ⟨⟨D, oa', cap', b', rfl, hDc, hDv, _⟩, hbw⟩)
    have hpr := rparse_all bq h D oa' cap' b' 0 am aoa acap ab ao ha wc hDv (by rw [hDc]; exact Nat.le_trans (sz_solid _) HS.out.2.1) (HS2.out.2.below hbw) (by rw [hDc]; exact HFR.out (by first | trivial | rfl))
    rw [HS.out.2.2.2.2.2.1, hDc, HS.out.2.2.2.2.2.2] at hpr
    have HPR := Lib.hid hpr
    have H2 := Lib.hid (H1.out.below hbw H1.out.lt)
    have HB2 := Lib.hid (HB.out.trans (hbw.mono (Nat.le_of_lt lcb)))
    have lcc := H2.out.lt
    clear hpr hDv hbw H1 HB HS2 HPK hDc
    generalize D.length = DL at *
    obtain ⟨X, hX⟩ : ∃ X, wholeQ readQ (leafF bq) h L = X := ⟨_, rfl⟩
    rw [hX] at HPR
    go_wp2_with fail
    ((with_reducible refine HPR.out.mono ?_); rintro e wd ⟨r, ok, rfl, hok, hq, hbd⟩)
    obtain ⟨qk, qa, qn, qc, ⟨q1, q2, q3⟩, hr⟩ := hq.cells
    simp only [qcells] at hr
    subst hr
    have hbx := below_box wd (.cells #[.int .i64 qk, .slice qa qn qc, .int .i64 q1, .int .i64 q2, .string ⟨q3.toArray⟩, .int .i64 0, .int .i64 0, .int .i64 0, .int .i64 0, .int .i64 0, .slice none 0 0, .string ⟨#[]⟩, .string ⟨#[]⟩, .bool false] 49)
    have h1 := (H2.out.below hbd H2.out.lt).below hbx (by have := hbd.size; omega)
    have HQ := Lib.hid (hq.below hbx)
    have hbb := HB2.out.trans (hbd.mono (Nat.le_of_lt lcc))
    have HB3 := Lib.hid (hbb.trans (hbx.mono (by have := hbd.size; omega)))
    have h6 := Blk.new wd 49 #[.int .i64 qk, .slice qa qn qc, .int .i64 q1, .int .i64 q2, .string ⟨q3.toArray⟩, .int .i64 0, .int .i64 0, .int .i64 0, .int .i64 0, .int .i64 0, .slice none 0 0, .string ⟨#[]⟩, .string ⟨#[]⟩, .bool false]
    clear hq hbd HPR H2 HB2 hbx hbb
    go_upto_region 4 with fail
    generalize wd.heap.size = g6 at *
    generalize World.alloc wd _ = we at *
    have ca0 : we.cell? ⟨g, 0, none⟩ = some (.int .i64 0) := (h1).cell 0
    have fca0 := (h1).frozen 0
    have ca1 : we.cell? ⟨g, 1, none⟩ = some (.slice none 0 0) := (h1).cell 1
    have fca1 := (h1).frozen 1
    have ca2 : we.cell? ⟨g, 2, none⟩ = some (.int .i64 0) := (h1).cell 2
    have fca2 := (h1).frozen 2
    have ca3 : we.cell? ⟨g, 3, none⟩ = some (.int .i64 0) := (h1).cell 3
    have fca3 := (h1).frozen 3
    have ca4 : we.cell? ⟨g, 4, none⟩ = some (.string ⟨#[]⟩) := (h1).cell 4
    have fca4 := (h1).frozen 4
    have ca5 : we.cell? ⟨g, 5, none⟩ = some (.int .i64 0) := (h1).cell 5
    have fca5 := (h1).frozen 5
    have ca6 : we.cell? ⟨g, 6, none⟩ = some (.int .i64 0) := (h1).cell 6
    have fca6 := (h1).frozen 6
    have ca7 : we.cell? ⟨g, 7, none⟩ = some (.int .i64 0) := (h1).cell 7
    have fca7 := (h1).frozen 7
    have ca8 : we.cell? ⟨g, 8, none⟩ = some (.int .i64 0) := (h1).cell 8
    have fca8 := (h1).frozen 8
    have ca9 : we.cell? ⟨g, 9, none⟩ = some (.int .i64 0) := (h1).cell 9
    have fca9 := (h1).frozen 9
    have ca10 : we.cell? ⟨g, 10, none⟩ = some (.slice none 0 0) := (h1).cell 10
    have fca10 := (h1).frozen 10
    have ca11 : we.cell? ⟨g, 11, none⟩ = some (.string ⟨#[]⟩) := (h1).cell 11
    have fca11 := (h1).frozen 11
    have ca12 : we.cell? ⟨g, 12, none⟩ = some (.string ⟨#[]⟩) := (h1).cell 12
    have fca12 := (h1).frozen 12
    have ca13 : we.cell? ⟨g, 13, none⟩ = some (.bool false) := (h1).cell 13
    have fca13 := (h1).frozen 13
    have lca := (h1).lt
    have cx0 : we.cell? ⟨g6, 0, none⟩ = some (.int .i64 qk) := (h6).cell 0
    have fcx0 := (h6).frozen 0
    have cx1 : we.cell? ⟨g6, 1, none⟩ = some (.slice qa qn qc) := (h6).cell 1
    have fcx1 := (h6).frozen 1
    have cx2 : we.cell? ⟨g6, 2, none⟩ = some (.int .i64 q1) := (h6).cell 2
    have fcx2 := (h6).frozen 2
    have cx3 : we.cell? ⟨g6, 3, none⟩ = some (.int .i64 q2) := (h6).cell 3
    have fcx3 := (h6).frozen 3
    have cx4 : we.cell? ⟨g6, 4, none⟩ = some (.string ⟨q3.toArray⟩) := (h6).cell 4
    have fcx4 := (h6).frozen 4
    have cx5 : we.cell? ⟨g6, 5, none⟩ = some (.int .i64 0) := (h6).cell 5
    have fcx5 := (h6).frozen 5
    have cx6 : we.cell? ⟨g6, 6, none⟩ = some (.int .i64 0) := (h6).cell 6
    have fcx6 := (h6).frozen 6
    have cx7 : we.cell? ⟨g6, 7, none⟩ = some (.int .i64 0) := (h6).cell 7
    have fcx7 := (h6).frozen 7
    have cx8 : we.cell? ⟨g6, 8, none⟩ = some (.int .i64 0) := (h6).cell 8
    have fcx8 := (h6).frozen 8
    have cx9 : we.cell? ⟨g6, 9, none⟩ = some (.int .i64 0) := (h6).cell 9
    have fcx9 := (h6).frozen 9
    have cx10 : we.cell? ⟨g6, 10, none⟩ = some (.slice none 0 0) := (h6).cell 10
    have fcx10 := (h6).frozen 10
    have cx11 : we.cell? ⟨g6, 11, none⟩ = some (.string ⟨#[]⟩) := (h6).cell 11
    have fcx11 := (h6).frozen 11
    have cx12 : we.cell? ⟨g6, 12, none⟩ = some (.string ⟨#[]⟩) := (h6).cell 12
    have fcx12 := (h6).frozen 12
    have cx13 : we.cell? ⟨g6, 13, none⟩ = some (.bool false) := (h6).cell 13
    have fcx13 := (h6).frozen 13
    have lcx := (h6).lt
    have h1' := Lib.hid h1
    clear h1 h6
    cases X with
    | none =>
      obtain rfl : ok = false := hok
      go_wp2_with fail
      have hz := blk_puts [.int .i64 0, .slice none 0 0, .int .i64 0, .int .i64 0, .string ⟨#[]⟩, .int .i64 0, .int .i64 0, .int .i64 0, .int .i64 0, .int .i64 0, .slice none 0 0, .string ⟨#[]⟩, .string ⟨#[]⟩, .bool false] zero14.toList (we) 0 [] h1'.out rfl rfl
      have hbz := HB3.out.trans (below_put14 [.int .i64 0, .slice none 0 0, .int .i64 0, .int .i64 0, .string ⟨#[]⟩, .int .i64 0, .int .i64 0, .int .i64 0, .int .i64 0, .int .i64 0, .slice none 0 0, .string ⟨#[]⟩, .string ⟨#[]⟩, .bool false] (we) g 0)
      have hgz := grownBy_puts [.int .i64 0, .slice none 0 0, .int .i64 0, .int .i64 0, .string ⟨#[]⟩, .int .i64 0, .int .i64 0, .int .i64 0, .int .i64 0, .int .i64 0, .slice none 0 0, .string ⟨#[]⟩, .string ⟨#[]⟩, .bool false] (we) g 0
      simp only [puts, Nat.zero_add, Nat.reduceAdd] at hz hbz hgz
      refine bodyPost_ret (v := .tuple #[.agg #[.int .i64 0, .slice none 0 0, .int .i64 0, .int .i64 0, .string ⟨#[]⟩, .int .i64 0, .int .i64 0, .int .i64 0, .int .i64 0, .int .i64 0, .slice none 0 0, .string ⟨#[]⟩, .string ⟨#[]⟩, .bool false], .int .i64 3]) ?_ rfl ?_
      · refine ret_cd2 Try.results57 ?_ ?_ hz rfl
        all_goals rfl
      · refine ⟨_, _, rfl, ?_, ?_, by rw [HG.out]; exact hbz⟩
        · unfold codeQ
          rw [hM, if_pos rfl, hX]
          rfl
        · unfold condQ
          rw [hM, if_pos rfl, hX, HG.out]
          exact zero_qd _ _
    | some Q =>
      obtain rfl : ok = true := hok
      go_wp2_with fail
      have hz := blk_puts [.int .i64 qk, .slice qa qn qc, .int .i64 q1, .int .i64 q2, .string ⟨q3.toArray⟩, .int .i64 0, .int .i64 0, .int .i64 0, .int .i64 0, .int .i64 0, .slice none 0 0, .string ⟨#[]⟩, .string ⟨#[]⟩, .bool false] zero14.toList (we) 0 [] h1'.out rfl rfl
      have hbz := HB3.out.trans (below_put14 [.int .i64 qk, .slice qa qn qc, .int .i64 q1, .int .i64 q2, .string ⟨q3.toArray⟩, .int .i64 0, .int .i64 0, .int .i64 0, .int .i64 0, .int .i64 0, .slice none 0 0, .string ⟨#[]⟩, .string ⟨#[]⟩, .bool false] (we) g 0)
      have hgz := grownBy_puts [.int .i64 qk, .slice qa qn qc, .int .i64 q1, .int .i64 q2, .string ⟨q3.toArray⟩, .int .i64 0, .int .i64 0, .int .i64 0, .int .i64 0, .int .i64 0, .slice none 0 0, .string ⟨#[]⟩, .string ⟨#[]⟩, .bool false] (we) g 0
      simp only [puts, Nat.zero_add, Nat.reduceAdd] at hz hbz hgz
      refine bodyPost_ret (v := .tuple #[.agg #[.int .i64 qk, .slice qa qn qc, .int .i64 q1, .int .i64 q2, .string ⟨q3.toArray⟩, .int .i64 0, .int .i64 0, .int .i64 0, .int .i64 0, .int .i64 0, .slice none 0 0, .string ⟨#[]⟩, .string ⟨#[]⟩, .bool false], .int .i64 0]) ?_ rfl ?_
      · refine ret_cd2 Try.results57 ?_ ?_ hz rfl
        all_goals rfl
      · refine ⟨_, _, rfl, ?_, ?_, by rw [HG.out]; exact hbz⟩
        · unfold codeQ
          rw [hM, if_pos rfl, hX]
          rfl
        · unfold condQ
          rw [hM, if_pos rfl, hX, HG.out]
          exact (HQ.out.grown hgz (fun k e _ => by have := Option.some.inj e; omega)).anti fun b hb => Or.inl (by omega)

end Go.Proofs.Ytgjhaanpkfheeaa
