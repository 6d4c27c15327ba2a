/- Of my texts: Named, FlatP. -/
import Derived.Test.YtgjhaanpkfheeaaM05
import Derived.Test.YtgjhaanpkfheeaaM20
import Derived.Test.YtgjhaanpkfheeaaM21
import Derived.Test.YtgjhaanpkfheeaaM24
namespace Go.Proofs.Ytgjhaanpkfheeaa
set_option linter.unusedVariables false
set_option linter.unusedSimpArgs false
open Go.RowKit

theorem told_parts (X : Option (Int × Int × List UInt8)) : ∃ (k a b : Int) (s : ByteArray) (ok : Bool), toldV X = .tuple #[.agg #[.int .i64 k, .slice none 0 0, .int .i64 a, .int .i64 b, .string s, .int .i64 0, .int .i64 0, .int .i64 0, .int .i64 0, .int .i64 0, .slice none 0 0, .string ⟨#[]⟩, .string ⟨#[]⟩, .bool false], .bool ok] ∧ (ok = true → ∃ L, X = some L ∧ k = 4 ∧ L = (a, b, s.data.toList)) ∧ (ok = false → X = none) := by
  match X with
  | some L => exact ⟨4, L.1, L.2.1, ⟨L.2.2.toArray⟩, true, rfl, fun _ => ⟨L, rfl, rfl, rfl⟩, fun h => by cases h⟩
  | none => exact ⟨0, 0, 0, ⟨#[]⟩, false, rfl, fun h => (by cases h), fun _ => rfl⟩

set_option maxRecDepth 20000 in
set_option maxHeartbeats 8000000 in
theorem kname_any (tk : Int) (tt : List UInt8) (tn td : Int) (ti tid : Bool) (xs : List (Tk × Value)) (oa : Option Addr) (cap bb : Nat) (w : World) (hs : Sl w oa xs.length cap bb 0 7 (xs.flatMap fwcells)) :
    Calls Try.prog 56 #[.agg #[.int .i64 tk, .string ⟨tt.toArray⟩, .int .i64 tn, .int .i64 td, .bool ti, .bool tid, .slice oa xs.length cap]] w fun e w' => e = .returned (toldV (nameT ⟨tk, tt, (tn, td), ti, tid⟩ (xs.map (·.1)))) ∧ Below w.heap.size w w' := by
  obtain ⟨X, hX⟩ : ∃ X, nameT ⟨tk, tt, (tn, td), ti, tid⟩ (xs.map (·.1)) = X := ⟨_, rfl⟩
  rw [hX]
  have hb := below_box w (.cells #[.int .i64 tk, .string ⟨tt.toArray⟩, .int .i64 tn, .int .i64 td, .bool ti, .bool tid, .slice oa xs.length cap] 74)
  have h1 := (Blk.new w 74 #[.int .i64 tk, .string ⟨tt.toArray⟩, .int .i64 tn, .int .i64 td, .bool ti, .bool tid, .slice oa xs.length cap]).old (.cells zero14 49)
  have h2 := Blk.new (w.alloc (.cells #[.int .i64 tk, .string ⟨tt.toArray⟩, .int .i64 tn, .int .i64 td, .bool ti, .bool tid, .slice oa xs.length cap] 74)) 49 zero14
  have hb2 := hb.alloc (by simp) (.cells zero14 49)
  have hs2 : (w.alloc (.cells #[.int .i64 tk, .string ⟨tt.toArray⟩, .int .i64 tn, .int .i64 td, .bool ti, .bool tid, .slice oa xs.length cap] 74)).heap.size = w.heap.size + 1 := by simp
  rw [hs2] at h2
  have H := Lib.hid (And.intro h1 (And.intro h2 hb2))
  have HS := Lib.hid (hs.below hb2)
  clear h1 h2 hb hb2 hs2 hs
  simp only [zero14] at H HS
  obtain ⟨n, hn⟩ : ∃ n, xs.length = n := ⟨_, rfl⟩
  rw [hn] at H HS
  rw [hn]
  have HN := Lib.hid hn
  have HX := Lib.hid hX
  clear hn hX
  go_enter Try.func56, Try.ntmps56
  go_upto_region 1 with fail
  obtain ⟨g, hg⟩ : ∃ g, w.heap.size = g := ⟨_, rfl⟩
  rw [hg] at H
  simp only [hg]
  have HG := Lib.hid hg
  clear hg
  generalize World.alloc (World.alloc w _) _ = wa at *
  obtain ⟨h1, h2, hb⟩ := H.out
  have ca0 : wa.cell? ⟨g, 0, none⟩ = some (.int .i64 tk) := (h1).cell 0
  have fca0 := (h1).frozen 0
  have ca1 : wa.cell? ⟨g, 1, none⟩ = some (.string ⟨tt.toArray⟩) := (h1).cell 1
  have fca1 := (h1).frozen 1
  have ca2 : wa.cell? ⟨g, 2, none⟩ = some (.int .i64 tn) := (h1).cell 2
  have fca2 := (h1).frozen 2
  have ca3 : wa.cell? ⟨g, 3, none⟩ = some (.int .i64 td) := (h1).cell 3
  have fca3 := (h1).frozen 3
  have ca4 : wa.cell? ⟨g, 4, none⟩ = some (.bool ti) := (h1).cell 4
  have fca4 := (h1).frozen 4
  have ca5 : wa.cell? ⟨g, 5, none⟩ = some (.bool tid) := (h1).cell 5
  have fca5 := (h1).frozen 5
  have ca6 : wa.cell? ⟨g, 6, none⟩ = some (.slice oa n cap) := (h1).cell 6
  have fca6 := (h1).frozen 6
  have lca := (h1).lt
  have cb0 : wa.cell? ⟨g + 1, 0, none⟩ = some (.int .i64 0) := (h2).cell 0
  have fcb0 := (h2).frozen 0
  have cb1 : wa.cell? ⟨g + 1, 1, none⟩ = some (.slice none 0 0) := (h2).cell 1
  have fcb1 := (h2).frozen 1
  have cb2 : wa.cell? ⟨g + 1, 2, none⟩ = some (.int .i64 0) := (h2).cell 2
  have fcb2 := (h2).frozen 2
  have cb3 : wa.cell? ⟨g + 1, 3, none⟩ = some (.int .i64 0) := (h2).cell 3
  have fcb3 := (h2).frozen 3
  have cb4 : wa.cell? ⟨g + 1, 4, none⟩ = some (.string ⟨#[]⟩) := (h2).cell 4
  have fcb4 := (h2).frozen 4
  have cb5 : wa.cell? ⟨g + 1, 5, none⟩ = some (.int .i64 0) := (h2).cell 5
  have fcb5 := (h2).frozen 5
  have cb6 : wa.cell? ⟨g + 1, 6, none⟩ = some (.int .i64 0) := (h2).cell 6
  have fcb6 := (h2).frozen 6
  have cb7 : wa.cell? ⟨g + 1, 7, none⟩ = some (.int .i64 0) := (h2).cell 7
  have fcb7 := (h2).frozen 7
  have cb8 : wa.cell? ⟨g + 1, 8, none⟩ = some (.int .i64 0) := (h2).cell 8
  have fcb8 := (h2).frozen 8
  have cb9 : wa.cell? ⟨g + 1, 9, none⟩ = some (.int .i64 0) := (h2).cell 9
  have fcb9 := (h2).frozen 9
  have cb10 : wa.cell? ⟨g + 1, 10, none⟩ = some (.slice none 0 0) := (h2).cell 10
  have fcb10 := (h2).frozen 10
  have cb11 : wa.cell? ⟨g + 1, 11, none⟩ = some (.string ⟨#[]⟩) := (h2).cell 11
  have fcb11 := (h2).frozen 11
  have cb12 : wa.cell? ⟨g + 1, 12, none⟩ = some (.string ⟨#[]⟩) := (h2).cell 12
  have fcb12 := (h2).frozen 12
  have cb13 : wa.cell? ⟨g + 1, 13, none⟩ = some (.bool false) := (h2).cell 13
  have fcb13 := (h2).frozen 13
  have lcb := (h2).lt
  clear h1 h2 hb
  by_cases h21 : tk = 21
  · subst h21
    by_cases hn1 : n = 1
    · subst hn1
      obtain ⟨⟨⟨xk, xt, ⟨xn, xd⟩, xi, xid⟩, xv⟩, rfl⟩ := List.length_eq_one_iff.1 HN.out
      obtain ⟨rfl, hbl⟩ := HS.out.lies (by omega)
      have f0 : wa.cell? ⟨bb, 0, none⟩ = some (.int .i64 xk) := HS.out.cell 0 _ rfl
      have f1 : wa.cell? ⟨bb, 1, none⟩ = some (.string ⟨xt.toArray⟩) := HS.out.cell 1 _ rfl
      by_cases hk : xk = 1
      · subst hk
        by_cases ht : xt = []
        · have hX2 : X = none := by rw [← HX.out, ht]; rfl
          subst ht
          go_wp2_with fail
          have hz := blk_puts [.int .i64 0, .slice none 0 0, .int .i64 0, .int .i64 0, .string ⟨#[]⟩, .int .i64 0, .int .i64 0, .int .i64 0, .int .i64 0, .int .i64 0, .slice none 0 0, .string ⟨#[]⟩, .string ⟨#[]⟩, .bool false] zero14.toList wa (0) [] H.out.2.1 rfl rfl
          have hbz := H.out.2.2.trans ((below_put14 [.int .i64 0, .slice none 0 0, .int .i64 0, .int .i64 0, .string ⟨#[]⟩, .int .i64 0, .int .i64 0, .int .i64 0, .int .i64 0, .int .i64 0, .slice none 0 0, .string ⟨#[]⟩, .string ⟨#[]⟩, .bool false] wa (g + 1) 0).mono (Nat.le_succ g))
          simp only [puts, Nat.zero_add, Nat.reduceAdd] at hz hbz
          refine bodyPost_ret (v := .tuple #[.agg #[.int .i64 0, .slice none 0 0, .int .i64 0, .int .i64 0, .string ⟨#[]⟩, .int .i64 0, .int .i64 0, .int .i64 0, .int .i64 0, .int .i64 0, .slice none 0 0, .string ⟨#[]⟩, .string ⟨#[]⟩, .bool false], .bool false]) ?_ rfl ?_
          · refine ret_cd2 Try.results56 ?_ ?_ hz rfl
            all_goals rfl
          · refine ⟨?_, by rw [HG.out]; exact hbz⟩
            rw [hX2]
            rfl
        · have hX2 : X = some (3, 0, xt) := by
            rw [← HX.out]
            show (idT [_]).map _ = _
            rw [idT, if_pos ⟨rfl, ht⟩]
            rfl
          have q : (xt == []) = false := by simpa using ht
          have q2 : xt.isEmpty = false := by simpa using ht
          go_wp2_with fail
          have hz := blk_puts [.int .i64 4, .slice none 0 0, .int .i64 3, .int .i64 0, .string ⟨xt.toArray⟩, .int .i64 0, .int .i64 0, .int .i64 0, .int .i64 0, .int .i64 0, .slice none 0 0, .string ⟨#[]⟩, .string ⟨#[]⟩, .bool false] zero14.toList wa (0) [] H.out.2.1 rfl rfl
          have hbz := H.out.2.2.trans ((below_put14 [.int .i64 4, .slice none 0 0, .int .i64 3, .int .i64 0, .string ⟨xt.toArray⟩, .int .i64 0, .int .i64 0, .int .i64 0, .int .i64 0, .int .i64 0, .slice none 0 0, .string ⟨#[]⟩, .string ⟨#[]⟩, .bool false] wa (g + 1) 0).mono (Nat.le_succ g))
          simp only [puts, Nat.zero_add, Nat.reduceAdd] at hz hbz
          refine bodyPost_ret (v := .tuple #[.agg #[.int .i64 4, .slice none 0 0, .int .i64 3, .int .i64 0, .string ⟨xt.toArray⟩, .int .i64 0, .int .i64 0, .int .i64 0, .int .i64 0, .int .i64 0, .slice none 0 0, .string ⟨#[]⟩, .string ⟨#[]⟩, .bool false], .bool true]) ?_ rfl ?_
          · refine ret_cd2 Try.results56 ?_ ?_ hz rfl
            all_goals rfl
          · refine ⟨?_, by rw [HG.out]; exact hbz⟩
            rw [hX2]
            rfl
      · have gk : (xk == 1) = false := by simpa using hk
        have hX2 : X = none := by
          rw [← HX.out]
          show (idT [_]).map _ = _
          rw [idT, if_neg (fun h => hk h.1)]
          rfl
        go_wp2_with fail
        have hz := blk_puts [.int .i64 0, .slice none 0 0, .int .i64 0, .int .i64 0, .string ⟨#[]⟩, .int .i64 0, .int .i64 0, .int .i64 0, .int .i64 0, .int .i64 0, .slice none 0 0, .string ⟨#[]⟩, .string ⟨#[]⟩, .bool false] zero14.toList wa (0) [] H.out.2.1 rfl rfl
        have hbz := H.out.2.2.trans ((below_put14 [.int .i64 0, .slice none 0 0, .int .i64 0, .int .i64 0, .string ⟨#[]⟩, .int .i64 0, .int .i64 0, .int .i64 0, .int .i64 0, .int .i64 0, .slice none 0 0, .string ⟨#[]⟩, .string ⟨#[]⟩, .bool false] wa (g + 1) 0).mono (Nat.le_succ g))
        simp only [puts, Nat.zero_add, Nat.reduceAdd] at hz hbz
        refine bodyPost_ret (v := .tuple #[.agg #[.int .i64 0, .slice none 0 0, .int .i64 0, .int .i64 0, .string ⟨#[]⟩, .int .i64 0, .int .i64 0, .int .i64 0, .int .i64 0, .int .i64 0, .slice none 0 0, .string ⟨#[]⟩, .string ⟨#[]⟩, .bool false], .bool false]) ?_ rfl ?_
        · refine ret_cd2 Try.results56 ?_ ?_ hz rfl
          all_goals rfl
        · refine ⟨?_, by rw [HG.out]; exact hbz⟩
          rw [hX2]
          rfl
    · have gN : ((n : Int) == 1) = false := by rw [beq_eq_false_iff_ne]; omega
      have gNn : (n == 1) = false := by rw [beq_eq_false_iff_ne]; omega
      have hX2 : X = none := by
        rw [← HX.out]
        have hn := HN.out
        show (idT (xs.map (·.1))).map _ = _
        match xs with
        | [] => rfl
        | [x] => exact absurd hn.symm (by simpa using hn1)
        | x :: y :: r => rfl
      go_wp2_with fail
      have hz := blk_puts [.int .i64 0, .slice none 0 0, .int .i64 0, .int .i64 0, .string ⟨#[]⟩, .int .i64 0, .int .i64 0, .int .i64 0, .int .i64 0, .int .i64 0, .slice none 0 0, .string ⟨#[]⟩, .string ⟨#[]⟩, .bool false] zero14.toList wa (0) [] H.out.2.1 rfl rfl
      have hbz := H.out.2.2.trans ((below_put14 [.int .i64 0, .slice none 0 0, .int .i64 0, .int .i64 0, .string ⟨#[]⟩, .int .i64 0, .int .i64 0, .int .i64 0, .int .i64 0, .int .i64 0, .slice none 0 0, .string ⟨#[]⟩, .string ⟨#[]⟩, .bool false] wa (g + 1) 0).mono (Nat.le_succ g))
      simp only [puts, Nat.zero_add, Nat.reduceAdd] at hz hbz
      refine bodyPost_ret (v := .tuple #[.agg #[.int .i64 0, .slice none 0 0, .int .i64 0, .int .i64 0, .string ⟨#[]⟩, .int .i64 0, .int .i64 0, .int .i64 0, .int .i64 0, .int .i64 0, .slice none 0 0, .string ⟨#[]⟩, .string ⟨#[]⟩, .bool false], .bool false]) ?_ rfl ?_
      · refine ret_cd2 Try.results56 ?_ ?_ hz rfl
        all_goals rfl
      · refine ⟨?_, by rw [HG.out]; exact hbz⟩
        rw [hX2]
        rfl
  · have g0 : (tk == 21) = false := by simpa using h21
    by_cases h2 : tk = 2
    · subst h2
      by_cases hq : tt = [111, 102]
      · have hX2 : X = some (1, 2, []) := by rw [← HX.out, hq]; rfl
        have q : (tt == [111, 102]) = true := by rw [hq]; rfl
        go_wp2_with fail
        have hz := blk_puts [.int .i64 4, .slice none 0 0, .int .i64 1, .int .i64 2, .string ⟨#[]⟩, .int .i64 0, .int .i64 0, .int .i64 0, .int .i64 0, .int .i64 0, .slice none 0 0, .string ⟨#[]⟩, .string ⟨#[]⟩, .bool false] zero14.toList wa (0) [] H.out.2.1 rfl rfl
        have hbz := H.out.2.2.trans ((below_put14 [.int .i64 4, .slice none 0 0, .int .i64 1, .int .i64 2, .string ⟨#[]⟩, .int .i64 0, .int .i64 0, .int .i64 0, .int .i64 0, .int .i64 0, .slice none 0 0, .string ⟨#[]⟩, .string ⟨#[]⟩, .bool false] wa (g + 1) 0).mono (Nat.le_succ g))
        simp only [puts, Nat.zero_add, Nat.reduceAdd] at hz hbz
        refine bodyPost_ret (v := .tuple #[.agg #[.int .i64 4, .slice none 0 0, .int .i64 1, .int .i64 2, .string ⟨#[]⟩, .int .i64 0, .int .i64 0, .int .i64 0, .int .i64 0, .int .i64 0, .slice none 0 0, .string ⟨#[]⟩, .string ⟨#[]⟩, .bool false], .bool true]) ?_ rfl ?_
        · refine ret_cd2 Try.results56 ?_ ?_ hz rfl
          all_goals rfl
        · refine ⟨?_, by rw [HG.out]; exact hbz⟩
          rw [hX2]
          rfl
      · have hX2 : X = none := by
          rw [← HX.out]
          show (if (2 : Int) = 21 then (idT (xs.map (·.1))).map (fun s => ((3, 0, s) : Int × Int × List UInt8)) else if (2 : Int) = 2 ∧ tt = [111, 102] then some (1, 2, []) else none) = none
          rw [if_neg (by decide), if_neg (fun h => hq h.2)]
        have q : (tt == [111, 102]) = false := by simpa using hq
        go_wp2_with fail
        have hz := blk_puts [.int .i64 0, .slice none 0 0, .int .i64 0, .int .i64 0, .string ⟨#[]⟩, .int .i64 0, .int .i64 0, .int .i64 0, .int .i64 0, .int .i64 0, .slice none 0 0, .string ⟨#[]⟩, .string ⟨#[]⟩, .bool false] zero14.toList wa (0) [] H.out.2.1 rfl rfl
        have hbz := H.out.2.2.trans ((below_put14 [.int .i64 0, .slice none 0 0, .int .i64 0, .int .i64 0, .string ⟨#[]⟩, .int .i64 0, .int .i64 0, .int .i64 0, .int .i64 0, .int .i64 0, .slice none 0 0, .string ⟨#[]⟩, .string ⟨#[]⟩, .bool false] wa (g + 1) 0).mono (Nat.le_succ g))
        simp only [puts, Nat.zero_add, Nat.reduceAdd] at hz hbz
        refine bodyPost_ret (v := .tuple #[.agg #[.int .i64 0, .slice none 0 0, .int .i64 0, .int .i64 0, .string ⟨#[]⟩, .int .i64 0, .int .i64 0, .int .i64 0, .int .i64 0, .int .i64 0, .slice none 0 0, .string ⟨#[]⟩, .string ⟨#[]⟩, .bool false], .bool false]) ?_ rfl ?_
        · refine ret_cd2 Try.results56 ?_ ?_ hz rfl
          all_goals rfl
        · refine ⟨?_, by rw [HG.out]; exact hbz⟩
          rw [hX2]
          rfl
    · have g1 : (tk == 2) = false := by simpa using h2
      have hX2 : X = none := by
        rw [← HX.out]
        show (if tk = 21 then _ else if tk = 2 ∧ tt = [111, 102] then _ else _) = _
        rw [if_neg h21, if_neg (fun h => h2 h.1)]
      go_wp2_with fail
      have hz := blk_puts [.int .i64 0, .slice none 0 0, .int .i64 0, .int .i64 0, .string ⟨#[]⟩, .int .i64 0, .int .i64 0, .int .i64 0, .int .i64 0, .int .i64 0, .slice none 0 0, .string ⟨#[]⟩, .string ⟨#[]⟩, .bool false] zero14.toList wa (0) [] H.out.2.1 rfl rfl
      have hbz := H.out.2.2.trans ((below_put14 [.int .i64 0, .slice none 0 0, .int .i64 0, .int .i64 0, .string ⟨#[]⟩, .int .i64 0, .int .i64 0, .int .i64 0, .int .i64 0, .int .i64 0, .slice none 0 0, .string ⟨#[]⟩, .string ⟨#[]⟩, .bool false] wa (g + 1) 0).mono (Nat.le_succ g))
      simp only [puts, Nat.zero_add, Nat.reduceAdd] at hz hbz
      refine bodyPost_ret (v := .tuple #[.agg #[.int .i64 0, .slice none 0 0, .int .i64 0, .int .i64 0, .string ⟨#[]⟩, .int .i64 0, .int .i64 0, .int .i64 0, .int .i64 0, .int .i64 0, .slice none 0 0, .string ⟨#[]⟩, .string ⟨#[]⟩, .bool false], .bool false]) ?_ rfl ?_
      · refine ret_cd2 Try.results56 ?_ ?_ hz rfl
        all_goals rfl
      · refine ⟨?_, by rw [HG.out]; exact hbz⟩
        rw [hX2]
        rfl

end Go.Proofs.Ytgjhaanpkfheeaa

namespace Go.Proofs.Ytgjhaanpkfheeaa
set_option linter.unusedVariables false
set_option linter.unusedSimpArgs false
open Go.RowKit

/-- a place on the stack -/
structure Pl where
  oa : Option Addr
  cap : Nat
  b : Nat
  o : Nat
  l : List Vl
  c : Int
def plcells (p : Pl) : List Value := [.slice p.oa p.l.length p.cap, .int .i64 p.c]
theorem plcells_length (p : Pl) : (plcells p).length = 2 := rfl
def Pl.say (p : Pl) : List Vt × Int := (p.l.map Vl.c, p.c)
theorem elPl : El 142 141 (.agg #[.slice none 0 0, .int .i64 0]) 2 32 := ⟨Try.underlying142, by kernel_rfl, rfl, by decide⟩
theorem say_len : ∀ S : List (List Vt × Int), S.length ≤ sayM S
  | [] => Nat.le_refl _
  | (l, c) :: r => by
    have := say_len r
    rw [sayM, List.length_cons]
    omega
theorem fresh_row {w : World} {base g n size : Nat} {e : TypeId} {cs : Array Value} (h : Blk w g e cs) (hb : base ≤ g) (hs : cs.size = n * size) (hn : n ≤ maxLen) : w.ownsRow base e size (.slice (some ⟨g, 0, none⟩) n n) n cs.toList :=
  ⟨by simpa using hs, Or.inr ⟨g, n, cs, rfl, hb, h, Nat.le_refl _, hn, hs, by rw [List.take_of_length_le (by simp [hs])]⟩⟩

set_option maxRecDepth 20000 in
set_option maxHeartbeats 8000000 in
theorem rflat_any (h : Nat) (l : List Vl) (oa : Option Addr) (cap b o : Nat) (w : World) (hs : VsIn w h oa cap b o l) (hz : szV (l.map Vl.c) ≤ 1073741824) :
    Calls Try.prog 139 #[.slice oa l.length cap] w fun e w' => ∃ v, e = .returned v ∧ Rw w w' 72 6 v (flatV (l.map Vl.c)).length (toksV (flatV (l.map Vl.c))) := by
  obtain ⟨Y, hY⟩ : ∃ Y, flatV (l.map Vl.c) = Y := ⟨_, rfl⟩
  have hYl : Y.length ≤ 2147483648 := by
    have := flatV_len (l.map Vl.c)
    rw [hY] at this
    omega
  rw [hY]
  have hsay : sayF (([⟨oa, cap, b, o, l, 0⟩] : List Pl).reverse.map Pl.say) = Y := by
    show sayF [(l.map Vl.c, 0)] = Y
    rw [sayF, sayF, if_neg (by decide), hY]
    simp
  have hM : sayM (([⟨oa, cap, b, o, l, 0⟩] : List Pl).reverse.map Pl.say) ≤ 2147483649 := by
    show sayM [(l.map Vl.c, 0)] ≤ _
    rw [sayM, sayM]
    omega
  have hcl := hs.sl.le
  have hcm := hs.sl.max
  unfold maxLen at hcm
  have HS := Lib.hid hs
  have HSAY := Lib.hid hsay
  have HM := Lib.hid hM
  have hbb := below_box w (.cells #[.slice oa l.length cap, .int .i64 0] 141)
  have hro := fresh_row (base := w.heap.size) (n := 1) (size := 2) (Blk.new w 141 #[.slice oa l.length cap, .int .i64 0]) (Nat.le_refl _) rfl (by decide)
  have HB1 := Lib.hid hbb
  have HRO := Lib.hid hro
  clear hs hsay hM hY hz hbb hro
  go_enter Try.func139, Try.ntmps139
  go_wp2_with fail
  go_loopg [3, 4] 2147483649 (fun q s3 s4 wr => ∃ (S : List Pl) (T : List Tk) (ov sv : Value), ov = s3 ∧ sv = s4 ∧ Hid (Below w.heap.size w wr) ∧ Hid (wr.ownsRow w.heap.size 72 6 ov T.length (toksV T)) ∧ Hid (wr.ownsRow w.heap.size 141 2 sv S.length (S.flatMap plcells)) ∧
    Hid (∀ p ∈ S, ∃ h, VsIn w h p.oa p.cap p.b p.o p.l) ∧ Hid (T ++ sayF (S.reverse.map Pl.say) = Y) ∧ Hid (sayM (S.reverse.map Pl.say) ≤ 2147483649) ∧ sayM (S.reverse.map Pl.say) ≤ q)
  case atStart => exact ⟨[⟨oa, cap, b, o, l, 0⟩], [], _, _, rfl, rfl, HB1, Lib.hid (World.ownsRow_nil _ _ _ _), HRO, Lib.hid (fun p hp => by obtain rfl := List.mem_singleton.1 hp; exact ⟨h, HS.out⟩), Lib.hid (by rw [List.nil_append]; exact HSAY.out), HM, HM.out⟩
  case round =>
    obtain ⟨S, T, ov, sv, rfl, rfl, hb, hO, hR, hV, hE, hMM, hq⟩ := hrel
    rcases List.eq_nil_or_concat S with rfl | ⟨R, p, eS⟩
    · obtain ⟨soa, scap, sg, rfl, hsl, _⟩ := sl_of_own hR.out
      have hT : T = Y := by have := hE.out; simpa [sayF] using this
      have HT := Lib.hid hT
      simp only [List.length_nil]
      clear hT hsl hq
      go_wp2_with fail
      go_ret
      exact ⟨_, rfl, hb.out, by rw [← HT.out]; exact hO.out⟩
    · rw [List.concat_eq_append] at eS
      subst eS
      obtain ⟨hh, hpv⟩ := hV.out p (by simp)
      obtain ⟨poa, pcap, pb, po, pl, pc⟩ := p
      replace hpv : VsIn w hh poa pcap pb po pl := hpv
      obtain ⟨m, hm⟩ : ∃ m, R.length = m := ⟨_, rfl⟩
      have hSl : (R ++ [(⟨poa, pcap, pb, po, pl, pc⟩ : Pl)]).length = m + 1 := by rw [List.length_append, hm]; rfl
      have hfl : (R.flatMap plcells).length = m * 2 := by rw [flat_length plcells_length, hm]
      have hfm : (R ++ [(⟨poa, pcap, pb, po, pl, pc⟩ : Pl)]).flatMap plcells = R.flatMap plcells ++ [.slice poa pl.length pcap, .int .i64 pc] := by rw [List.flatMap_append, List.flatMap_singleton]; rfl
      have hrv : (R ++ [(⟨poa, pcap, pb, po, pl, pc⟩ : Pl)]).reverse.map Pl.say = (pl.map Vl.c, pc) :: R.reverse.map Pl.say := by rw [List.reverse_append]; rfl
      rw [hrv] at hE hMM hq
      rw [hSl, hfm] at hR
      have hmM := say_len (R.reverse.map Pl.say)
      rw [List.length_map, List.length_reverse, hm] at hmM
      have hMx := hMM.out
      rw [sayM] at hMx hq
      have hTl : T.length ≤ 2147483648 := by
        have := congrArg List.length hE.out
        rw [List.length_append] at this
        omega
      obtain ⟨soa, scap, sb, rfl, hsl, hpos⟩ := sl_of_own hR.out
      obtain ⟨rfl, hsb⟩ := hsl.lies (by omega)
      have hsbw := hpos (by omega)
      have hcapS := owns_cap hR.out
      have hcm2 := hcapS.2
      have hcl2 := hcapS.1
      unfold maxLen at hcm2
      have hix : (((m + 1 : Nat) : Int)) - 1 = (m : Int) := by omega
      have c0 : wr.cell? ⟨sb, m * 2, none⟩ = some (.slice poa pl.length pcap) := owns_cell hR.out (by rw [List.getElem?_append_right (by omega), hfl]; simp)
      have c1 : wr.cell? ⟨sb, m * 2 + 1, none⟩ = some (.int .i64 pc) := owns_cell hR.out (by rw [List.getElem?_append_right (by omega), hfl]; simp)
      have fz0 := owns_frozen hR.out (m * 2)
      have hap : ∀ g, ov.ownBlock = some g → g ≠ sb := fun g hg e => by
        subst e
        exact owns_apart hO.out hR.out (by decide) hg rfl
      have HAP := Lib.hid hap
      have htk : ((R.flatMap plcells ++ ([.slice poa pl.length pcap, .int .i64 pc] : List Value)).take (m * 2)) = R.flatMap plcells := by rw [← hfl, List.take_left]
      clear hsl hpos hcapS hap hSl hfm hrv
      cases pl with
      | nil =>
        have hsp := hE.out
        rw [List.map_nil, say_pop] at hsp
        have HSP := Lib.hid hsp
        have HTK := Lib.hid htk
        simp only [List.length_nil] at c0 htk
        simp only [List.map_nil, szV] at hq
        have hM2 : sayM (R.reverse.map Pl.say) ≤ 2147483649 := by omega
        clear hsp hpv hMx hMM
        by_cases hc : 0 < pc
        · have gc : decide ((0 : Int) < pc) = true := by simpa using hc
          have hwr := hb.out.size
          go_wp2_with (at_builtin; refine wpList_add elTok rfl _ _ rfl rfl (hO.out.alloc _) (by simp; omega) (Blk.new wr _ _) 1 rfl rfl (by simp [Value.oneCell']) (by omega) (by omega) ?_; intro gg cap3 wA hoA hgA hatA hvbA; have HA := Lib.hid (And.intro hoA (And.intro hgA (And.intro hatA hvbA))); clear hoA hgA hatA hvbA)
          go_roundg (sayM (R.reverse.map Pl.say))
          case measure => omega
          case rel =>
            obtain ⟨hoA, hgA, hatA, _⟩ := HA.out
            have hgc := grownBy_trans (World.grownBy_alloc wr _ _) hgA
            refine ⟨R, T ++ [⟨pc, [], (0, 0), false, false⟩], _, _, rfl, rfl, Lib.hid (below_far hb.out hgc (fun k e => (hO.out.lt k e).1)), Lib.hid ?_, Lib.hid ?_, Lib.hid (fun p hp => hV.out p (List.mem_append_left _ hp)), Lib.hid ?_, Lib.hid hM2, Nat.le_refl _⟩
            · rw [List.length_append, List.length_singleton, show toksV (T ++ [⟨pc, [], (0, 0), false, false⟩]) = toksV T ++ [.int .i64 pc, .string ⟨#[]⟩, .int .i64 0, .int .i64 0, .bool false, .bool false] by simp [toksV, tkcells]]
              exact hoA
            · have h1 := owns_take hR.out (k := m) (by omega)
              rw [HTK.out] at h1
              rw [hm]
              exact h1.kept hgc (.inr fun e => HAP.out sb e.symm rfl)
            · have := HSP.out
              rw [if_pos hc, ← List.append_assoc] at this
              exact this
        · have gc : decide ((0 : Int) < pc) = false := by simpa using hc
          go_wp2_with fail
          go_roundg (sayM (R.reverse.map Pl.say))
          case measure => omega
          case rel =>
            refine ⟨R, T, ov, _, rfl, rfl, hb, hO, Lib.hid ?_, Lib.hid (fun p hp => hV.out p (List.mem_append_left _ hp)), Lib.hid ?_, Lib.hid hM2, Nat.le_refl _⟩
            · have := owns_take hR.out (k := m) (by omega)
              rw [HTK.out] at this
              rw [hm]
              exact this
            · have := HSP.out
              rw [if_neg (by omega)] at this
              exact this
      | cons x r =>
        obtain ⟨n, hn⟩ : ∃ n, r.length = n := ⟨_, rfl⟩
        have hln : (x :: r).length = n + 1 := by rw [List.length_cons, hn]
        have gz : (((n + 1 : Nat) : Int) == 0) = false := by simp; omega
        have gz2 : ((n : Int) + 1 == 0) = false := by simp; omega
        have hcap1 := hpv.sl.le
        have hcapm := hpv.sl.max
        unfold maxLen at hcapm
        have hpart := hpv.part (a := 1) (c := (x :: r).length) (by rw [hln]; omega) (Nat.le_refl _)
        rw [List.take_length, List.drop_one, List.tail_cons, Nat.one_mul] at hpart
        obtain ⟨hpoa, hpbl⟩ := hpv.sl.lies (by rw [hln]; omega)
        subst hpoa
        have hpw := hpv.below hb.out
        have hli : (x :: r)[0]? = some x := rfl
        obtain ⟨t, koa, kb, ko, kcap, kids⟩ := x
        obtain ⟨K, hK⟩ : ∃ K, kids.length = K := ⟨_, rfl⟩
        have f0 := hpw.cell hli (j := 0) rfl
        have f1 := hpw.cell hli (j := 1) rfl
        have f2 := hpw.cell hli (j := 2) rfl
        have f3 := hpw.cell hli (j := 3) rfl
        have f4 := hpw.cell hli (j := 4) rfl
        have f5 := hpw.cell hli (j := 5) rfl
        have f6 := hpw.cell hli (j := 6) rfl
        rw [hK] at f6
        simp only [Nat.zero_mul, Nat.add_zero] at f0 f1 f2 f3 f4 f5 f6
        have hkv := (hpv.each 0 _ hli)
        rw [hln] at c0 hcap1
        obtain ⟨tk, tt, ⟨tn, td⟩, ti, tid⟩ := t
        have HKV := Lib.hid (show ∃ h, VsIn w h koa kcap kb ko kids from by
          obtain _ | h' := hh
          · exact hkv.elim
          · exact ⟨h', hkv.kids⟩)
        have HPART := Lib.hid hpart
        have hwr := hb.out.size
        have hMq : 2 * (1 + szV (kids.map Vl.c) + szV (r.map Vl.c)) + 1 + sayM (R.reverse.map Pl.say) ≤ gk := by
          rw [List.map_cons, Vl.c_mk, szV_cons] at hq
          exact hq
        have hMq2 : 2 * (1 + szV (kids.map Vl.c) + szV (r.map Vl.c)) + 1 + sayM (R.reverse.map Pl.say) ≤ 2147483649 := by
          rw [List.map_cons, Vl.c_mk, szV_cons] at hMx
          exact hMx
        have HE := Lib.hid (show T ++ sayF ((.mk ⟨tk, tt, (tn, td), ti, tid⟩ (kids.map Vl.c) :: r.map Vl.c, pc) :: R.reverse.map Pl.say) = Y from by
          have := hE.out
          rw [List.map_cons, Vl.c_mk] at this
          exact this)
        clear hq hMx hMM hE hpv hpart hpw hli hkv htk
        go_upto_region 10 with fail
        have hb3 := below_box wr (.cells #[.int .i64 tk, .string ⟨tt.toArray⟩, .int .i64 tn, .int .i64 td, .bool ti, .bool tid, .slice koa K kcap] 74)
        have h9 := Blk.new wr 74 #[.int .i64 tk, .string ⟨tt.toArray⟩, .int .i64 tn, .int .i64 td, .bool ti, .bool tid, .slice koa K kcap]
        have HB3 := Lib.hid (below_far hb.out (grownBy_of_below hb3 none) (fun _ e => by cases e))
        have HO3 := Lib.hid (hO.out.alloc (.cells #[.int .i64 tk, .string ⟨tt.toArray⟩, .int .i64 tn, .int .i64 td, .bool ti, .bool tid, .slice koa K kcap] 74))
        have HR3 := Lib.hid (hR.out.alloc (.cells #[.int .i64 tk, .string ⟨tt.toArray⟩, .int .i64 tn, .int .i64 td, .bool ti, .bool tid, .slice koa K kcap] 74))
        have d0 := (hb3.cell (p := ⟨sb, m * 2, none⟩) hsb).trans c0
        have dz := (hb3.frozen (p := ⟨sb, m * 2, none⟩) hsb).trans fz0
        have HOV := Lib.hid (show ∀ k, ov.ownBlock = some k → w.heap.size ≤ k ∧ k < wr.heap.size from fun k e => hO.out.lt k e)
        have hw3 : wr.heap.size < (wr.alloc (.cells #[.int .i64 tk, .string ⟨tt.toArray⟩, .int .i64 tn, .int .i64 td, .bool ti, .bool tid, .slice koa K kcap] 74)).heap.size := by simp
        clear hb3 f0 f1 f2 f3 f4 f5 f6 c0 c1 fz0 hb hO hR
        generalize wr.heap.size = g6 at *
        generalize wr.alloc _ = w3 at *
        have H9 := Lib.hid h9
        have cg0 : w3.cell? ⟨g6, 0, none⟩ = some (.int .i64 tk) := (h9).cell 0
        have fcg0 := (h9).frozen 0
        have cg1 : w3.cell? ⟨g6, 1, none⟩ = some (.string ⟨tt.toArray⟩) := (h9).cell 1
        have fcg1 := (h9).frozen 1
        have cg2 : w3.cell? ⟨g6, 2, none⟩ = some (.int .i64 tn) := (h9).cell 2
        have fcg2 := (h9).frozen 2
        have cg3 : w3.cell? ⟨g6, 3, none⟩ = some (.int .i64 td) := (h9).cell 3
        have fcg3 := (h9).frozen 3
        have cg4 : w3.cell? ⟨g6, 4, none⟩ = some (.bool ti) := (h9).cell 4
        have fcg4 := (h9).frozen 4
        have cg5 : w3.cell? ⟨g6, 5, none⟩ = some (.bool tid) := (h9).cell 5
        have fcg5 := (h9).frozen 5
        have cg6 : w3.cell? ⟨g6, 6, none⟩ = some (.slice koa K kcap) := (h9).cell 6
        have fcg6 := (h9).frozen 6
        have lcg := (h9).lt
        clear h9
        go_cut [] from 49 to 56 (fun wx => ∃ oa', wx = w3.setCell ⟨sb, m * 2, none⟩ (.slice oa' n (pcap - 1)) ∧ oa' = if pcap = 1 then some ⟨pb, po, none⟩ else (some (⟨pb, po, none⟩ : Addr)).map (·.add 7))
        case first =>
          go_wp2_with fail
          all_goals
            first
              | (have e : pcap = 1 := by assumption
                 subst e
                 go_meet
                 exact ⟨_, rfl, by rw [if_pos rfl]⟩)
              | (have e : ¬ pcap = 1 := by assumption
                 go_meet
                 exact ⟨_, rfl, by rw [if_neg e]; rfl⟩)
        obtain ⟨oa', e, hoa'⟩ := hcut
        subst e
        rw [← hoa'] at HPART
        have hset := grownBy_set w3 ⟨sb, m * 2, none⟩ (.slice oa' n (pcap - 1))
        have HB4 := Lib.hid (below_far HB3.out hset (fun k e => by have e : sb = k := Option.some.inj e; omega))
        have HO4 := Lib.hid (HO3.out.kept hset (.inr fun e => HAP.out sb e rfl))
        have hr4 := owns_setAt HR3.out (i := m * 2) (by omega) (.slice oa' n (pcap - 1))
        have hxs : (R.flatMap plcells ++ ([.slice (some ⟨pb, po, none⟩) (Vl.mk ⟨tk, tt, (tn, td), ti, tid⟩ koa kb ko kcap kids :: r).length pcap, .int .i64 pc] : List Value)).set (m * 2) (.slice oa' n (pcap - 1)) = (R ++ [(⟨oa', pcap - 1, pb, po + 7, r, pc⟩ : Pl)]).flatMap plcells := by
          rw [List.set_append, if_neg (by rw [hfl]; omega), hfl, Nat.sub_self, List.flatMap_append, List.flatMap_singleton]
          show _ ++ ([.slice oa' n (pcap - 1), .int .i64 pc] : List Value) = _ ++ ([.slice oa' r.length (pcap - 1), .int .i64 pc] : List Value)
          rw [hn]
        rw [hxs] at hr4
        have HR4 := Lib.hid hr4
        have HSZ := Lib.hid (show (w3.setCell ⟨sb, m * 2, none⟩ (.slice oa' n (pcap - 1))).heap.size = w3.heap.size by simp)
        have hw4 : g6 < (w3.setCell ⟨sb, m * 2, none⟩ (.slice oa' n (pcap - 1))).heap.size := by rw [HSZ.out]; exact hw3
        have H94 := Lib.hid (H9.out.far (p := ⟨sb, m * 2, none⟩) (by simp; omega) (.slice oa' n (pcap - 1)))
        clear hset hr4 hxs HSZ hw3 d0 dz cg0 cg1 cg2 cg3 cg4 cg5 cg6 fcg0 fcg1 fcg2 fcg3 fcg4 fcg5 fcg6 lcg H9 HB3 HO3 HR3
        generalize w3.setCell _ _ = w4 at *
        have hww4 := HB4.out.size
        have h9 := H94.out
        have cg0 : w4.cell? ⟨g6, 0, none⟩ = some (.int .i64 tk) := (h9).cell 0
        have fcg0 := (h9).frozen 0
        have cg1 : w4.cell? ⟨g6, 1, none⟩ = some (.string ⟨tt.toArray⟩) := (h9).cell 1
        have fcg1 := (h9).frozen 1
        have cg2 : w4.cell? ⟨g6, 2, none⟩ = some (.int .i64 tn) := (h9).cell 2
        have fcg2 := (h9).frozen 2
        have cg3 : w4.cell? ⟨g6, 3, none⟩ = some (.int .i64 td) := (h9).cell 3
        have fcg3 := (h9).frozen 3
        have cg4 : w4.cell? ⟨g6, 4, none⟩ = some (.bool ti) := (h9).cell 4
        have fcg4 := (h9).frozen 4
        have cg5 : w4.cell? ⟨g6, 5, none⟩ = some (.bool tid) := (h9).cell 5
        have fcg5 := (h9).frozen 5
        have cg6 : w4.cell? ⟨g6, 6, none⟩ = some (.slice koa K kcap) := (h9).cell 6
        have fcg6 := (h9).frozen 6
        have lcg := (h9).lt
        clear h9
        go_upto_region 12 with (at_builtin; refine wpList_add elTok rfl _ _ rfl rfl (HO4.out.alloc _) (by simp; omega) (Blk.new w4 _ _) 1 rfl rfl (by simp [Value.oneCell']) (by omega) (by omega) ?_; intro gg cap3 wA hoA hgA hatA hvbA; have HA := Lib.hid (And.intro hoA (And.intro hgA (And.intro hatA hvbA))); clear hoA hgA hatA hvbA)
        have hgc := grownBy_trans (World.grownBy_alloc w4 _ _) HA.out.2.1
        have hg4A := hgc.size
        have HBA := Lib.hid (below_far HB4.out hgc (fun k e => (HOV.out k e).1))
        have HRA := Lib.hid (HR4.out.kept hgc (.inr fun e => HAP.out sb e.symm rfl))
        have H9A := Lib.hid (show Blk wA g6 74 #[.int .i64 tk, .string ⟨tt.toArray⟩, .int .i64 tn, .int .i64 td, .bool ti, .bool tid, .slice koa K kcap] from (hgc.block g6 H94.out.lt (fun e => by have := HOV.out g6 e.symm; omega)).trans H94.out)
        have HOA := Lib.hid (show wA.ownsRow w.heap.size 72 6 (.slice (some ⟨gg, 0, none⟩) (T.length + 1) cap3) (T ++ [(⟨tk, tt, (tn, td), ti, tid⟩ : Tk)]).length (toksV (T ++ [(⟨tk, tt, (tn, td), ti, tid⟩ : Tk)])) from by
          rw [List.length_append, List.length_singleton, show toksV (T ++ [(⟨tk, tt, (tn, td), ti, tid⟩ : Tk)]) = toksV T ++ [.int .i64 tk, .string ⟨tt.toArray⟩, .int .i64 tn, .int .i64 td, .bool ti, .bool tid] by simp [toksV, tkcells]]
          exact HA.out.1)
        have hap2 : gg ≠ sb := fun e => by
          rcases HA.out.2.2.1 with h1 | h1
          · exact HAP.out gg h1 e
          · simp at h1; omega
        clear hgc HA HR4 HO4 HB4 H94 cg0 cg1 cg2 cg3 cg4 cg5 cg6 fcg0 fcg1 fcg2 fcg3 fcg4 fcg5 fcg6 lcg
        have h9 := H9A.out
        have hwwA := HBA.out.size
        have cg0 : wA.cell? ⟨g6, 0, none⟩ = some (.int .i64 tk) := (h9).cell 0
        have fcg0 := (h9).frozen 0
        have cg1 : wA.cell? ⟨g6, 1, none⟩ = some (.string ⟨tt.toArray⟩) := (h9).cell 1
        have fcg1 := (h9).frozen 1
        have cg2 : wA.cell? ⟨g6, 2, none⟩ = some (.int .i64 tn) := (h9).cell 2
        have fcg2 := (h9).frozen 2
        have cg3 : wA.cell? ⟨g6, 3, none⟩ = some (.int .i64 td) := (h9).cell 3
        have fcg3 := (h9).frozen 3
        have cg4 : wA.cell? ⟨g6, 4, none⟩ = some (.bool ti) := (h9).cell 4
        have fcg4 := (h9).frozen 4
        have cg5 : wA.cell? ⟨g6, 5, none⟩ = some (.bool tid) := (h9).cell 5
        have fcg5 := (h9).frozen 5
        have cg6 : wA.cell? ⟨g6, 6, none⟩ = some (.slice koa K kcap) := (h9).cell 6
        have fcg6 := (h9).frozen 6
        have lcg := (h9).lt
        clear h9
        have HCL := Lib.hid (rcloser_any tk wA)
        obtain ⟨C, hC⟩ : ∃ C, closeF tk = C := ⟨_, rfl⟩
        rw [hC] at HCL
        have HC := Lib.hid hC
        clear hC
        go_wp2_with fail
        ((with_reducible refine HCL.out.mono ?_); rintro e wz ⟨rfl, rfl⟩)
        clear HCL
        obtain ⟨pb', hpb'⟩ : ∃ pb', decide (0 < C ∨ 0 < K) = pb' := ⟨_, rfl⟩
        go_upto_region 13 with fail
        go_cut [73] from 66 to 73 (fun s wx => s = .bool pb' ∧ wx = wz)
        case first =>
          by_cases h1 : 0 < C
          · have g1 : decide ((0 : Int) < C) = true := by simpa using h1
            have e1 : pb' = true := by rw [← hpb']; simp [h1]
            go_wp2_with fail
            go_meet
            exact ⟨by rw [e1], rfl⟩
          · have g1 : decide ((0 : Int) < C) = false := by simpa using h1
            obtain ⟨qb, hqb⟩ : ∃ qb, decide ((0 : Int) < (K : Int)) = qb := ⟨_, rfl⟩
            have hqb2 : decide (0 < K) = qb := by rw [← hqb, decide_eq_decide]; omega
            have e1 : pb' = qb := by rw [← hpb', ← hqb2, decide_eq_decide]; exact ⟨fun h => h.resolve_left h1, Or.inr⟩
            clear hpb'
            go_wp2_with fail
            go_meet
            exact ⟨by rw [e1], rfl⟩
        obtain ⟨rfl, e⟩ := hcut
        subst e
        have hrs : (R ++ [(⟨oa', pcap - 1, pb, po + 7, r, pc⟩ : Pl)]).reverse.map Pl.say = (r.map Vl.c, pc) :: R.reverse.map Pl.say := by rw [List.reverse_append]; rfl
        have hvall : ∀ p ∈ R ++ [(⟨oa', pcap - 1, pb, po + 7, r, pc⟩ : Pl)], ∃ h, VsIn w h p.oa p.cap p.b p.o p.l := fun p hp => by
          rcases List.mem_append.1 hp with hp | hp
          · exact hV.out p (List.mem_append_left _ hp)
          · obtain rfl := List.mem_singleton.1 hp
            exact ⟨hh, by have := HPART.out; simpa [hn] using this⟩
        have HRS := Lib.hid (And.intro hrs hvall)
        clear hrs hvall
        cases pb' with
        | false =>
          have hno : ¬ (0 < C ∨ 0 < K) := by simpa using hpb'
          have HNO := Lib.hid hno
          clear hpb' hno
          go_wp2_with fail
          go_roundg (2 * szV (r.map Vl.c) + 1 + sayM (R.reverse.map Pl.say))
          case measure => omega
          case rel =>
            refine ⟨R ++ [⟨oa', pcap - 1, pb, po + 7, r, pc⟩], T ++ [⟨tk, tt, (tn, td), ti, tid⟩], _, _, rfl, rfl, HBA, Lib.hid (by have := HOA.out; rw [List.length_append, List.length_singleton] at this ⊢; exact this), Lib.hid ?_, Lib.hid HRS.out.2, Lib.hid ?_, Lib.hid ?_, ?_⟩
            · rw [List.length_append, hm]
              exact HRA.out
            · rw [HRS.out.1, List.append_assoc, List.singleton_append, ← say_take ⟨tk, tt, (tn, td), ti, tid⟩ (kids.map Vl.c) (r.map Vl.c) pc _ (by rw [List.length_map, hK, HC.out]; exact HNO.out)]
              exact HE.out
            · rw [HRS.out.1, sayM]
              omega
            · rw [HRS.out.1, sayM]
              exact Nat.le_refl _
        | true =>
          clear hpb'
          go_wp2_with (at_builtin; refine wpList_add elPl rfl _ _ rfl rfl (HRA.out.alloc _) (by simp; omega) (Blk.new _ _ _) 1 rfl rfl (by simp [Value.oneCell']) (by omega) (by omega) ?_; intro gb capB wB hoB hgB hatB hvbB; have HBB := Lib.hid (And.intro hoB (And.intro hgB (And.intro hatB hvbB))); clear hoB hgB hatB hvbB)
          go_roundg (2 * szV (kids.map Vl.c) + 1 + (2 * szV (r.map Vl.c) + 1 + sayM (R.reverse.map Pl.say)))
          case measure => omega
          case rel =>
            obtain ⟨hoB, hgB, hatB, _⟩ := HBB.out
            have hgc := grownBy_trans (World.grownBy_alloc _ _ _) hgB
            have hrs2 : ((R ++ [(⟨oa', pcap - 1, pb, po + 7, r, pc⟩ : Pl)]) ++ [(⟨koa, kcap, kb, ko, kids, C⟩ : Pl)]).reverse.map Pl.say = (kids.map Vl.c, C) :: (r.map Vl.c, pc) :: R.reverse.map Pl.say := by
              rw [List.reverse_append, List.map_append, HRS.out.1]
              rfl
            refine ⟨(R ++ [⟨oa', pcap - 1, pb, po + 7, r, pc⟩]) ++ [⟨koa, kcap, kb, ko, kids, C⟩], T ++ [⟨tk, tt, (tn, td), ti, tid⟩], _, _, rfl, rfl, Lib.hid (below_far HBA.out hgc (fun k e => by have e : sb = k := Option.some.inj e; omega)), Lib.hid ?_, Lib.hid ?_, Lib.hid ?_, Lib.hid ?_, Lib.hid ?_, ?_⟩
            · have := HOA.out.kept hgc (.inr fun e => hap2 (Option.some.inj e))
              rw [List.length_append, List.length_singleton] at this ⊢
              exact this
            · have e : plcells ⟨koa, kcap, kb, ko, kids, C⟩ = [.slice koa K kcap, .int .i64 C] := by rw [← hK]; rfl
              rw [List.flatMap_append (xs := R ++ _), List.flatMap_singleton, List.length_append, List.length_append, List.length_singleton, List.length_singleton, hm, e]
              exact hoB
            · intro p hp
              rcases List.mem_append.1 hp with hp | hp
              · exact HRS.out.2 p hp
              · obtain rfl := List.mem_singleton.1 hp
                exact HKV.out
            · rw [hrs2, List.append_assoc, List.singleton_append, ← HC.out, ← say_push]
              exact HE.out
            · rw [hrs2, sayM, sayM]
              omega
            · rw [hrs2, sayM, sayM]
              exact Nat.le_refl _

end Go.Proofs.Ytgjhaanpkfheeaa
