/- Fractions out of texts: the program's way, walked. -/
import Derived.Test.YtgjhaanpkfheeaaDoorTextT
import Derived.Test.YtgjhaanpkfheeaaDoorWideE
import Derived.Shelf.Small.Wraps
namespace Go.Proofs.YtgjhaanpkfheeaaDoor
set_option linter.unusedVariables false
set_option linter.unusedSimpArgs false
open Go.RowKit Go.Shelf

def Tryd.laysCP_ren : Ren := ⟨fun x => if x = 103 then 32 else if x = 210 then 55 else if x = 206 then 80 else x, fun x => if x = 9 then 9 else if x = 4 then 4 else if x = 24 then 47 else if x = 3 then 3 else x, fun x => x⟩
theorem Tryd.laysCP : Lays.n103 Tryd.prog Tryd.laysCP_ren := {
  mixed := (by kernel_rfl),
  f103 := Tryd.func32.trans (congrArg some (by kernel_rfl)),
  f206 := Tryd.func80.trans (congrArg some (by kernel_rfl)),
  f210 := Tryd.func55.trans (congrArg some (by kernel_rfl)),
  t3 := Tryd.underlying3,
  a3 := Tryd.isAgg3,
  z3 := Tryd.sizeOf3,
  v3 := Tryd.zeroValue3,
  t4 := Tryd.underlying4,
  a4 := Tryd.isAgg4,
  z4 := Tryd.sizeOf4,
  v4 := Tryd.zeroValue4,
  t9 := Tryd.underlying9,
  a9 := Tryd.isAgg9,
  z9 := Tryd.sizeOf9,
  v9 := Tryd.zeroValue9,
  t24 := Tryd.underlying47,
  a24 := Tryd.isAgg47,
  z24 := Tryd.sizeOf47,
  v24 := Tryd.zeroValue47 }

theorem cut_any (l : List UInt8) (w : World) :
    Calls Tryd.prog 32 #[.string ⟨l.toArray⟩, .string ⟨#[45]⟩] w fun e w' => e = .returned (.tuple #[.string ⟨(behindF (l.head? == some 45) l).toArray⟩, .bool (l.head? == some 45)]) ∧ w = w' :=
  (Any.strings_CutPrefix Tryd.laysCP ⟨l.toArray⟩ ⟨#[45]⟩ w).mono fun e w' ⟨he, hw⟩ => ⟨by
    rw [he]
    have h1 : Lib.hasPrefix l [45] = (l.head? == some 45) := by
      cases l with
      | nil => rfl
      | cons a l =>
        simp only [Lib.hasPrefix, List.isPrefixOf, List.head?_cons]
        rw [Bool.and_true, Bool.eq_iff_iff]
        simp only [beq_iff_eq, Option.some.injEq]
        exact eq_comm
    have h2 : Lib.trimPrefix l [45] = behindF (l.head? == some 45) l := by
      unfold Lib.trimPrefix behindF
      rw [h1]
      split
      · simp
      · rfl
    show Ending.returned (.tuple #[.string ⟨(Lib.trimPrefix l [45]).toArray⟩, .bool (Lib.hasPrefix l [45])]) = _
    rw [h1, h2], hw.symm⟩

theorem below_alloc_self {w W : World} (h : Below w.heap.size w W) (o : Obj) : Below w.heap.size w (W.alloc o) := h.alloc h.size o

/-- the error that is told -/
def errF (b : Bool) : Int := if b then 0 else 3

theorem parseP_at {l : List UInt8} {neg : Bool} {W V : Nat × List UInt8 × Bool} (hs : l ≠ overT) (hneg : (l.head? == some 45) = neg) (hw : wholeF (behindF neg l) = W) (hv : denF W = V) :
    parseP l = if V.2.2 && V.2.1.isEmpty && sureB (signF neg W.1, (V.1 : Int)) && (textF (signF neg W.1, (V.1 : Int)) == l) then ((signF neg W.1, (V.1 : Int)), true) else ((0, 0), false) := by
  subst hneg hw hv
  unfold parseP
  rw [if_neg hs]

set_option maxRecDepth 20000 in
set_option maxHeartbeats 8000000 in
theorem parse_any (l : List UInt8) (w : World) (hl : l.length ≤ 9223372036854775807) :
    Calls Tryd.prog 16 #[.string ⟨l.toArray⟩] w fun e w' => e = .returned (.tuple #[rv (parseP l).1, .int .i64 (errF (parseP l).2)]) ∧ Below w.heap.size w w' := by
  obtain ⟨PR, hPR⟩ : ∃ PR, parseP l = PR := ⟨_, rfl⟩
  rw [hPR]
  by_cases hs : l = overT
  · have HF := Lib.hid (show PR = ((0, 0), true) by rw [← hPR]; unfold parseP; rw [if_pos hs])
    have g0 : (l == [111, 118, 101, 114]) = true := by rw [hs]; rfl
    clear hPR
    go_enter Tryd.func16, Tryd.ntmps16
    go_wp2_with fail
    exact bodyPost_ret (v := .tuple #[.agg #[.int .i64 0, .int .i64 0], .int .i64 0]) (by simp [results, Tryd.results16, go_sem]) rfl ⟨(by rw [HF.out]; rfl), (by repeat (first | with_reducible exact below_box _ _ | (with_reducible refine Below.setCell ?_ ?hq _; case hq => first | (simp; done) | (simp; omega)) | with_reducible refine below_alloc_self ?_ _ | with_reducible refine below_grow ?_ _))⟩
  · have g0 : (l == [111, 118, 101, 114]) = false := by rw [beq_eq_false_iff_ne]; exact hs
    obtain ⟨neg, hneg⟩ : ∃ neg, (l.head? == some 45) = neg := ⟨_, rfl⟩
    have hc := fun w => cut_any l w
    rw [hneg] at hc
    have HC := Lib.hid hc
    clear hc
    have htl : (behindF neg l).length ≤ 9223372036854775807 := by
      unfold behindF
      split
      · rw [List.length_tail]; omega
      · exact hl
    obtain ⟨W, hw⟩ : ∃ W, wholeF (behindF neg l) = W := ⟨_, rfl⟩
    have hww := fun w => whole_any (behindF neg l) w htl
    rw [hw] at hww
    obtain ⟨N, rest, ok⟩ := W
    simp only at hww
    have hrl : rest.length ≤ 9223372036854775807 ∧ (ok = true → N ≤ 9223372036854775807) := by
      unfold wholeF at hw
      split at hw
      · obtain ⟨rfl, rfl, rfl⟩ : N = 0 ∧ rest = [] ∧ ok = false := by simp_all
        exact ⟨by decide, fun h => by cases h⟩
      · have h1 := congrArg (fun x => x.2.1) hw
        have h2 := congrArg (fun x => x.2.2) hw
        have h3 := congrArg (fun x => x.1) hw
        simp only at h1 h2 h3
        refine ⟨?_, fun h => ?_⟩
        · rw [← h1]
          have := (List.dropWhile_suffix isD (l := behindF neg l)).length_le
          omega
        · rw [h, h3] at h2
          simpa using h2
    have HW := Lib.hid hww
    clear hww htl
    cases ok with
    | false =>
      have HF := Lib.hid (show PR = ((0, 0), false) by rw [← hPR, parseP_at hs hneg hw rfl]; simp [denF])
      clear hPR hw hneg
      cases neg with
      | true =>
        go_enter Tryd.func16, Tryd.ntmps16
        go_wp2_with fail
        ((with_reducible refine (HC.out _).mono ?_); rintro e w' ⟨rfl, rfl⟩)
        go_wp2_with fail
        ((with_reducible refine (HW.out _).mono ?_); rintro e w' ⟨⟨k, rfl, _⟩, hbw⟩)
        obtain ⟨m1, rfl⟩ := grow_mk hbw
        clear hbw
        go_wp2_with fail
        exact bodyPost_ret (v := .tuple #[.agg #[.int .i64 0, .int .i64 0], .int .i64 3]) (by simp [results, Tryd.results16, go_sem]) rfl ⟨(by rw [HF.out]; rfl), (by repeat (first | with_reducible exact below_box _ _ | (with_reducible refine Below.setCell ?_ ?hq _; case hq => first | (simp; done) | (simp; omega)) | with_reducible refine below_alloc_self ?_ _ | with_reducible refine below_grow ?_ _))⟩
      | false =>
        go_enter Tryd.func16, Tryd.ntmps16
        go_wp2_with fail
        ((with_reducible refine (HC.out _).mono ?_); rintro e w' ⟨rfl, rfl⟩)
        go_wp2_with fail
        ((with_reducible refine (HW.out _).mono ?_); rintro e w' ⟨⟨k, rfl, _⟩, hbw⟩)
        obtain ⟨m1, rfl⟩ := grow_mk hbw
        clear hbw
        go_wp2_with fail
        exact bodyPost_ret (v := .tuple #[.agg #[.int .i64 0, .int .i64 0], .int .i64 3]) (by simp [results, Tryd.results16, go_sem]) rfl ⟨(by rw [HF.out]; rfl), (by repeat (first | with_reducible exact below_box _ _ | (with_reducible refine Below.setCell ?_ ?hq _; case hq => first | (simp; done) | (simp; omega)) | with_reducible refine below_alloc_self ?_ _ | with_reducible refine below_grow ?_ _))⟩
    | true =>
      have hN := hrl.2 rfl
      have hrest := hrl.1
      clear hrl
      cases rest with
      | nil =>
        have hv : denF (N, ([] : List UInt8), true) = (1, [], true) := rfl
        cases neg with
        | true =>
          have h64 : Is64 ((-(N : Int)), 1) := by unfold Is64; simp only; omega
          have hs1 := fun w => sure_any ((-(N : Int)), 1) w h64
          have ht1 := fun w => text_any ((-(N : Int)), 1) w h64
          have HF0 : PR = if sureB ((-(N : Int)), 1) && (textF ((-(N : Int)), 1) == l) then (((-(N : Int)), 1), true) else ((0, 0), false) := by rw [← hPR, parseP_at hs hneg hw hv]; simp [signF]
          generalize textF ((-(N : Int)), 1) = TX at *
          cases hsb : sureB ((-(N : Int)), 1) with
          | false =>
            rw [hsb] at hs1 HF0
            have HF := Lib.hid HF0
            have HS := Lib.hid hs1
            clear HF0 hs1 ht1 hsb h64 hPR hneg hw hv
            go_enter Tryd.func16, Tryd.ntmps16
            go_wp2_with fail
            ((with_reducible refine (HC.out _).mono ?_); rintro e w' ⟨rfl, rfl⟩)
            go_wp2_with fail
            ((with_reducible refine (HW.out _).mono ?_); rintro e w' ⟨⟨k, rfl, hk⟩, hbw⟩)
            obtain ⟨m1, rfl⟩ := grow_mk hbw
            clear hbw
            obtain rfl := hk (by trivial)
            clear hk
            have hb : Below w.heap.size w (w.alloc (.cells #[.int .i64 0, .int .i64 0] 23)) := below_box _ _
            have hr : Blk (w.alloc (.cells #[.int .i64 0, .int .i64 0] 23)) w.heap.size 23 #[.int .i64 0, .int .i64 0] := Blk.new _ _ _
            replace hb := below_grow hb m1
            replace hr := hr.grow m1
            generalize grow _ m1 = wa at *
            have ca0 : wa.cell? ⟨w.heap.size, 0, none⟩ = some (.int .i64 0) := (hr).cell 0
            have fca0 := (hr).frozen 0
            have ca1 : wa.cell? ⟨w.heap.size, 1, none⟩ = some (.int .i64 0) := (hr).cell 1
            have fca1 := (hr).frozen 1
            have lca := (hr).lt
            go_wp2_with fail
            ((with_reducible refine (HS.out _).mono ?_); rintro e w' ⟨rfl, hbw⟩)
            obtain ⟨m3, rfl⟩ := grow_mk hbw
            clear hbw
            have hv := Blk.new wa 23 #[.int .i64 (-(N : Int)), .int .i64 1]
            replace hr := hr.old (.cells #[.int .i64 (-(N : Int)), .int .i64 1] 23)
            replace hb := below_alloc_self hb (.cells #[.int .i64 (-(N : Int)), .int .i64 1] 23)
            have hne : w.heap.size ≠ wa.heap.size := Nat.ne_of_lt lca
            replace hv := hv.grow m3
            replace hr := hr.grow m3
            replace hb := below_grow hb m3
            clear ca0 ca1 fca0 fca1 lca
            generalize wa.heap.size = g at *
            generalize grow _ m3 = wb at *
            have cr0 : wb.cell? ⟨w.heap.size, 0, none⟩ = some (.int .i64 0) := (hr).cell 0
            have fcr0 := (hr).frozen 0
            have cr1 : wb.cell? ⟨w.heap.size, 1, none⟩ = some (.int .i64 0) := (hr).cell 1
            have fcr1 := (hr).frozen 1
            have lcr := (hr).lt
            have cv0 : wb.cell? ⟨g, 0, none⟩ = some (.int .i64 (-(N : Int))) := (hv).cell 0
            have fcv0 := (hv).frozen 0
            have cv1 : wb.cell? ⟨g, 1, none⟩ = some (.int .i64 1) := (hv).cell 1
            have fcv1 := (hv).frozen 1
            have lcv := (hv).lt
            go_wp2_with fail
            exact bodyPost_ret (v := .tuple #[.agg #[.int .i64 0, .int .i64 0], .int .i64 3]) (by simp [results, Tryd.results16, go_sem, cr0, cr1, lcr, cv0, cv1, lcv]) rfl ⟨(by rw [HF.out]; rfl), (by repeat (first | with_reducible exact hb | (with_reducible refine Below.setCell ?_ ?hq _; case hq => first | (simp; done) | (simp; omega)) | with_reducible refine below_alloc_self ?_ _ | with_reducible refine below_grow ?_ _))⟩
          | true =>
            rw [hsb] at hs1 HF0
            obtain ⟨q, hq⟩ : ∃ q, (TX == l) = q := ⟨_, rfl⟩
            rw [hq] at HF0
            have HF := Lib.hid HF0
            have HS := Lib.hid hs1
            have HT := Lib.hid ht1
            clear HF0 hs1 ht1 hsb h64 hPR hneg hw hv
            cases q with
            | false =>
              go_enter Tryd.func16, Tryd.ntmps16
              go_wp2_with fail
              ((with_reducible refine (HC.out _).mono ?_); rintro e w' ⟨rfl, rfl⟩)
              go_wp2_with fail
              ((with_reducible refine (HW.out _).mono ?_); rintro e w' ⟨⟨k, rfl, hk⟩, hbw⟩)
              obtain ⟨m1, rfl⟩ := grow_mk hbw
              clear hbw
              obtain rfl := hk (by trivial)
              clear hk
              have hb : Below w.heap.size w (w.alloc (.cells #[.int .i64 0, .int .i64 0] 23)) := below_box _ _
              have hr : Blk (w.alloc (.cells #[.int .i64 0, .int .i64 0] 23)) w.heap.size 23 #[.int .i64 0, .int .i64 0] := Blk.new _ _ _
              replace hb := below_grow hb m1
              replace hr := hr.grow m1
              generalize grow _ m1 = wa at *
              have ca0 : wa.cell? ⟨w.heap.size, 0, none⟩ = some (.int .i64 0) := (hr).cell 0
              have fca0 := (hr).frozen 0
              have ca1 : wa.cell? ⟨w.heap.size, 1, none⟩ = some (.int .i64 0) := (hr).cell 1
              have fca1 := (hr).frozen 1
              have lca := (hr).lt
              go_wp2_with fail
              ((with_reducible refine (HS.out _).mono ?_); rintro e w' ⟨rfl, hbw⟩)
              obtain ⟨m3, rfl⟩ := grow_mk hbw
              clear hbw
              have hv := Blk.new wa 23 #[.int .i64 (-(N : Int)), .int .i64 1]
              replace hr := hr.old (.cells #[.int .i64 (-(N : Int)), .int .i64 1] 23)
              replace hb := below_alloc_self hb (.cells #[.int .i64 (-(N : Int)), .int .i64 1] 23)
              have hne : w.heap.size ≠ wa.heap.size := Nat.ne_of_lt lca
              replace hv := hv.grow m3
              replace hr := hr.grow m3
              replace hb := below_grow hb m3
              clear ca0 ca1 fca0 fca1 lca
              generalize wa.heap.size = g at *
              generalize grow _ m3 = wb at *
              have cr0 : wb.cell? ⟨w.heap.size, 0, none⟩ = some (.int .i64 0) := (hr).cell 0
              have fcr0 := (hr).frozen 0
              have cr1 : wb.cell? ⟨w.heap.size, 1, none⟩ = some (.int .i64 0) := (hr).cell 1
              have fcr1 := (hr).frozen 1
              have lcr := (hr).lt
              have cv0 : wb.cell? ⟨g, 0, none⟩ = some (.int .i64 (-(N : Int))) := (hv).cell 0
              have fcv0 := (hv).frozen 0
              have cv1 : wb.cell? ⟨g, 1, none⟩ = some (.int .i64 1) := (hv).cell 1
              have fcv1 := (hv).frozen 1
              have lcv := (hv).lt
              go_wp2_with fail
              ((with_reducible refine (HT.out _).mono ?_); rintro e w' ⟨rfl, hbw⟩)
              obtain ⟨m4, rfl⟩ := grow_mk hbw
              clear hbw
              go_wp2_with fail
              exact bodyPost_ret (v := .tuple #[.agg #[.int .i64 0, .int .i64 0], .int .i64 3]) (by simp [results, Tryd.results16, go_sem, cr0, cr1, lcr, cv0, cv1, lcv]) rfl ⟨(by rw [HF.out]; rfl), (by repeat (first | with_reducible exact hb | (with_reducible refine Below.setCell ?_ ?hq _; case hq => first | (simp; done) | (simp; omega)) | with_reducible refine below_alloc_self ?_ _ | with_reducible refine below_grow ?_ _))⟩
            | true =>
              go_enter Tryd.func16, Tryd.ntmps16
              go_wp2_with fail
              ((with_reducible refine (HC.out _).mono ?_); rintro e w' ⟨rfl, rfl⟩)
              go_wp2_with fail
              ((with_reducible refine (HW.out _).mono ?_); rintro e w' ⟨⟨k, rfl, hk⟩, hbw⟩)
              obtain ⟨m1, rfl⟩ := grow_mk hbw
              clear hbw
              obtain rfl := hk (by trivial)
              clear hk
              have hb : Below w.heap.size w (w.alloc (.cells #[.int .i64 0, .int .i64 0] 23)) := below_box _ _
              have hr : Blk (w.alloc (.cells #[.int .i64 0, .int .i64 0] 23)) w.heap.size 23 #[.int .i64 0, .int .i64 0] := Blk.new _ _ _
              replace hb := below_grow hb m1
              replace hr := hr.grow m1
              generalize grow _ m1 = wa at *
              have ca0 : wa.cell? ⟨w.heap.size, 0, none⟩ = some (.int .i64 0) := (hr).cell 0
              have fca0 := (hr).frozen 0
              have ca1 : wa.cell? ⟨w.heap.size, 1, none⟩ = some (.int .i64 0) := (hr).cell 1
              have fca1 := (hr).frozen 1
              have lca := (hr).lt
              go_wp2_with fail
              ((with_reducible refine (HS.out _).mono ?_); rintro e w' ⟨rfl, hbw⟩)
              obtain ⟨m3, rfl⟩ := grow_mk hbw
              clear hbw
              have hv := Blk.new wa 23 #[.int .i64 (-(N : Int)), .int .i64 1]
              replace hr := hr.old (.cells #[.int .i64 (-(N : Int)), .int .i64 1] 23)
              replace hb := below_alloc_self hb (.cells #[.int .i64 (-(N : Int)), .int .i64 1] 23)
              have hne : w.heap.size ≠ wa.heap.size := Nat.ne_of_lt lca
              replace hv := hv.grow m3
              replace hr := hr.grow m3
              replace hb := below_grow hb m3
              clear ca0 ca1 fca0 fca1 lca
              generalize wa.heap.size = g at *
              generalize grow _ m3 = wb at *
              have cr0 : wb.cell? ⟨w.heap.size, 0, none⟩ = some (.int .i64 0) := (hr).cell 0
              have fcr0 := (hr).frozen 0
              have cr1 : wb.cell? ⟨w.heap.size, 1, none⟩ = some (.int .i64 0) := (hr).cell 1
              have fcr1 := (hr).frozen 1
              have lcr := (hr).lt
              have cv0 : wb.cell? ⟨g, 0, none⟩ = some (.int .i64 (-(N : Int))) := (hv).cell 0
              have fcv0 := (hv).frozen 0
              have cv1 : wb.cell? ⟨g, 1, none⟩ = some (.int .i64 1) := (hv).cell 1
              have fcv1 := (hv).frozen 1
              have lcv := (hv).lt
              go_wp2_with fail
              ((with_reducible refine (HT.out _).mono ?_); rintro e w' ⟨rfl, hbw⟩)
              obtain ⟨m4, rfl⟩ := grow_mk hbw
              clear hbw
              go_wp2_with fail
              exact bodyPost_ret (v := .tuple #[.agg #[.int .i64 (-(N : Int)), .int .i64 1], .int .i64 0]) (by simp [results, Tryd.results16, go_sem, cr0, cr1, lcr, cv0, cv1, lcv]) rfl ⟨(by rw [HF.out]; rfl), (by repeat (first | with_reducible exact hb | (with_reducible refine Below.setCell ?_ ?hq _; case hq => first | (simp; done) | (simp; omega)) | with_reducible refine below_alloc_self ?_ _ | with_reducible refine below_grow ?_ _))⟩
        | false =>
          have h64 : Is64 ((N : Int), 1) := by unfold Is64; simp only; omega
          have hs1 := fun w => sure_any ((N : Int), 1) w h64
          have ht1 := fun w => text_any ((N : Int), 1) w h64
          have HF0 : PR = if sureB ((N : Int), 1) && (textF ((N : Int), 1) == l) then (((N : Int), 1), true) else ((0, 0), false) := by rw [← hPR, parseP_at hs hneg hw hv]; simp [signF]
          generalize textF ((N : Int), 1) = TX at *
          cases hsb : sureB ((N : Int), 1) with
          | false =>
            rw [hsb] at hs1 HF0
            have HF := Lib.hid HF0
            have HS := Lib.hid hs1
            clear HF0 hs1 ht1 hsb h64 hPR hneg hw hv
            go_enter Tryd.func16, Tryd.ntmps16
            go_wp2_with fail
            ((with_reducible refine (HC.out _).mono ?_); rintro e w' ⟨rfl, rfl⟩)
            go_wp2_with fail
            ((with_reducible refine (HW.out _).mono ?_); rintro e w' ⟨⟨k, rfl, hk⟩, hbw⟩)
            obtain ⟨m1, rfl⟩ := grow_mk hbw
            clear hbw
            obtain rfl := hk (by trivial)
            clear hk
            have hb : Below w.heap.size w (w.alloc (.cells #[.int .i64 0, .int .i64 0] 23)) := below_box _ _
            have hr : Blk (w.alloc (.cells #[.int .i64 0, .int .i64 0] 23)) w.heap.size 23 #[.int .i64 0, .int .i64 0] := Blk.new _ _ _
            replace hb := below_grow hb m1
            replace hr := hr.grow m1
            generalize grow _ m1 = wa at *
            have ca0 : wa.cell? ⟨w.heap.size, 0, none⟩ = some (.int .i64 0) := (hr).cell 0
            have fca0 := (hr).frozen 0
            have ca1 : wa.cell? ⟨w.heap.size, 1, none⟩ = some (.int .i64 0) := (hr).cell 1
            have fca1 := (hr).frozen 1
            have lca := (hr).lt
            go_wp2_with fail
            ((with_reducible refine (HS.out _).mono ?_); rintro e w' ⟨rfl, hbw⟩)
            obtain ⟨m3, rfl⟩ := grow_mk hbw
            clear hbw
            have hv := Blk.new wa 23 #[.int .i64 (N : Int), .int .i64 1]
            replace hr := hr.old (.cells #[.int .i64 (N : Int), .int .i64 1] 23)
            replace hb := below_alloc_self hb (.cells #[.int .i64 (N : Int), .int .i64 1] 23)
            have hne : w.heap.size ≠ wa.heap.size := Nat.ne_of_lt lca
            replace hv := hv.grow m3
            replace hr := hr.grow m3
            replace hb := below_grow hb m3
            clear ca0 ca1 fca0 fca1 lca
            generalize wa.heap.size = g at *
            generalize grow _ m3 = wb at *
            have cr0 : wb.cell? ⟨w.heap.size, 0, none⟩ = some (.int .i64 0) := (hr).cell 0
            have fcr0 := (hr).frozen 0
            have cr1 : wb.cell? ⟨w.heap.size, 1, none⟩ = some (.int .i64 0) := (hr).cell 1
            have fcr1 := (hr).frozen 1
            have lcr := (hr).lt
            have cv0 : wb.cell? ⟨g, 0, none⟩ = some (.int .i64 (N : Int)) := (hv).cell 0
            have fcv0 := (hv).frozen 0
            have cv1 : wb.cell? ⟨g, 1, none⟩ = some (.int .i64 1) := (hv).cell 1
            have fcv1 := (hv).frozen 1
            have lcv := (hv).lt
            go_wp2_with fail
            exact bodyPost_ret (v := .tuple #[.agg #[.int .i64 0, .int .i64 0], .int .i64 3]) (by simp [results, Tryd.results16, go_sem, cr0, cr1, lcr, cv0, cv1, lcv]) rfl ⟨(by rw [HF.out]; rfl), (by repeat (first | with_reducible exact hb | (with_reducible refine Below.setCell ?_ ?hq _; case hq => first | (simp; done) | (simp; omega)) | with_reducible refine below_alloc_self ?_ _ | with_reducible refine below_grow ?_ _))⟩
          | true =>
            rw [hsb] at hs1 HF0
            obtain ⟨q, hq⟩ : ∃ q, (TX == l) = q := ⟨_, rfl⟩
            rw [hq] at HF0
            have HF := Lib.hid HF0
            have HS := Lib.hid hs1
            have HT := Lib.hid ht1
            clear HF0 hs1 ht1 hsb h64 hPR hneg hw hv
            cases q with
            | false =>
              go_enter Tryd.func16, Tryd.ntmps16
              go_wp2_with fail
              ((with_reducible refine (HC.out _).mono ?_); rintro e w' ⟨rfl, rfl⟩)
              go_wp2_with fail
              ((with_reducible refine (HW.out _).mono ?_); rintro e w' ⟨⟨k, rfl, hk⟩, hbw⟩)
              obtain ⟨m1, rfl⟩ := grow_mk hbw
              clear hbw
              obtain rfl := hk (by trivial)
              clear hk
              have hb : Below w.heap.size w (w.alloc (.cells #[.int .i64 0, .int .i64 0] 23)) := below_box _ _
              have hr : Blk (w.alloc (.cells #[.int .i64 0, .int .i64 0] 23)) w.heap.size 23 #[.int .i64 0, .int .i64 0] := Blk.new _ _ _
              replace hb := below_grow hb m1
              replace hr := hr.grow m1
              generalize grow _ m1 = wa at *
              have ca0 : wa.cell? ⟨w.heap.size, 0, none⟩ = some (.int .i64 0) := (hr).cell 0
              have fca0 := (hr).frozen 0
              have ca1 : wa.cell? ⟨w.heap.size, 1, none⟩ = some (.int .i64 0) := (hr).cell 1
              have fca1 := (hr).frozen 1
              have lca := (hr).lt
              go_wp2_with fail
              ((with_reducible refine (HS.out _).mono ?_); rintro e w' ⟨rfl, hbw⟩)
              obtain ⟨m3, rfl⟩ := grow_mk hbw
              clear hbw
              have hv := Blk.new wa 23 #[.int .i64 (N : Int), .int .i64 1]
              replace hr := hr.old (.cells #[.int .i64 (N : Int), .int .i64 1] 23)
              replace hb := below_alloc_self hb (.cells #[.int .i64 (N : Int), .int .i64 1] 23)
              have hne : w.heap.size ≠ wa.heap.size := Nat.ne_of_lt lca
              replace hv := hv.grow m3
              replace hr := hr.grow m3
              replace hb := below_grow hb m3
              clear ca0 ca1 fca0 fca1 lca
              generalize wa.heap.size = g at *
              generalize grow _ m3 = wb at *
              have cr0 : wb.cell? ⟨w.heap.size, 0, none⟩ = some (.int .i64 0) := (hr).cell 0
              have fcr0 := (hr).frozen 0
              have cr1 : wb.cell? ⟨w.heap.size, 1, none⟩ = some (.int .i64 0) := (hr).cell 1
              have fcr1 := (hr).frozen 1
              have lcr := (hr).lt
              have cv0 : wb.cell? ⟨g, 0, none⟩ = some (.int .i64 (N : Int)) := (hv).cell 0
              have fcv0 := (hv).frozen 0
              have cv1 : wb.cell? ⟨g, 1, none⟩ = some (.int .i64 1) := (hv).cell 1
              have fcv1 := (hv).frozen 1
              have lcv := (hv).lt
              go_wp2_with fail
              ((with_reducible refine (HT.out _).mono ?_); rintro e w' ⟨rfl, hbw⟩)
              obtain ⟨m4, rfl⟩ := grow_mk hbw
              clear hbw
              go_wp2_with fail
              exact bodyPost_ret (v := .tuple #[.agg #[.int .i64 0, .int .i64 0], .int .i64 3]) (by simp [results, Tryd.results16, go_sem, cr0, cr1, lcr, cv0, cv1, lcv]) rfl ⟨(by rw [HF.out]; rfl), (by repeat (first | with_reducible exact hb | (with_reducible refine Below.setCell ?_ ?hq _; case hq => first | (simp; done) | (simp; omega)) | with_reducible refine below_alloc_self ?_ _ | with_reducible refine below_grow ?_ _))⟩
            | true =>
              go_enter Tryd.func16, Tryd.ntmps16
              go_wp2_with fail
              ((with_reducible refine (HC.out _).mono ?_); rintro e w' ⟨rfl, rfl⟩)
              go_wp2_with fail
              ((with_reducible refine (HW.out _).mono ?_); rintro e w' ⟨⟨k, rfl, hk⟩, hbw⟩)
              obtain ⟨m1, rfl⟩ := grow_mk hbw
              clear hbw
              obtain rfl := hk (by trivial)
              clear hk
              have hb : Below w.heap.size w (w.alloc (.cells #[.int .i64 0, .int .i64 0] 23)) := below_box _ _
              have hr : Blk (w.alloc (.cells #[.int .i64 0, .int .i64 0] 23)) w.heap.size 23 #[.int .i64 0, .int .i64 0] := Blk.new _ _ _
              replace hb := below_grow hb m1
              replace hr := hr.grow m1
              generalize grow _ m1 = wa at *
              have ca0 : wa.cell? ⟨w.heap.size, 0, none⟩ = some (.int .i64 0) := (hr).cell 0
              have fca0 := (hr).frozen 0
              have ca1 : wa.cell? ⟨w.heap.size, 1, none⟩ = some (.int .i64 0) := (hr).cell 1
              have fca1 := (hr).frozen 1
              have lca := (hr).lt
              go_wp2_with fail
              ((with_reducible refine (HS.out _).mono ?_); rintro e w' ⟨rfl, hbw⟩)
              obtain ⟨m3, rfl⟩ := grow_mk hbw
              clear hbw
              have hv := Blk.new wa 23 #[.int .i64 (N : Int), .int .i64 1]
              replace hr := hr.old (.cells #[.int .i64 (N : Int), .int .i64 1] 23)
              replace hb := below_alloc_self hb (.cells #[.int .i64 (N : Int), .int .i64 1] 23)
              have hne : w.heap.size ≠ wa.heap.size := Nat.ne_of_lt lca
              replace hv := hv.grow m3
              replace hr := hr.grow m3
              replace hb := below_grow hb m3
              clear ca0 ca1 fca0 fca1 lca
              generalize wa.heap.size = g at *
              generalize grow _ m3 = wb at *
              have cr0 : wb.cell? ⟨w.heap.size, 0, none⟩ = some (.int .i64 0) := (hr).cell 0
              have fcr0 := (hr).frozen 0
              have cr1 : wb.cell? ⟨w.heap.size, 1, none⟩ = some (.int .i64 0) := (hr).cell 1
              have fcr1 := (hr).frozen 1
              have lcr := (hr).lt
              have cv0 : wb.cell? ⟨g, 0, none⟩ = some (.int .i64 (N : Int)) := (hv).cell 0
              have fcv0 := (hv).frozen 0
              have cv1 : wb.cell? ⟨g, 1, none⟩ = some (.int .i64 1) := (hv).cell 1
              have fcv1 := (hv).frozen 1
              have lcv := (hv).lt
              go_wp2_with fail
              ((with_reducible refine (HT.out _).mono ?_); rintro e w' ⟨rfl, hbw⟩)
              obtain ⟨m4, rfl⟩ := grow_mk hbw
              clear hbw
              go_wp2_with fail
              exact bodyPost_ret (v := .tuple #[.agg #[.int .i64 (N : Int), .int .i64 1], .int .i64 0]) (by simp [results, Tryd.results16, go_sem, cr0, cr1, lcr, cv0, cv1, lcv]) rfl ⟨(by rw [HF.out]; rfl), (by repeat (first | with_reducible exact hb | (with_reducible refine Below.setCell ?_ ?hq _; case hq => first | (simp; done) | (simp; omega)) | with_reducible refine below_alloc_self ?_ _ | with_reducible refine below_grow ?_ _))⟩
      | cons a rest =>
        by_cases ha : a = 47
        · subst ha
          have hrl2 : rest.length ≤ 9223372036854775807 := by simp only [List.length_cons] at hrest; omega
          have hlc : rest.length + 1 ≤ 9223372036854775807 := by simp only [List.length_cons] at hrest; omega
          have hww2 := fun w => whole_any rest w hrl2
          have hv : denF (N, (47 : UInt8) :: rest, true) = wholeF rest := rfl
          have hex : (⟨((47 : UInt8) :: rest).toArray⟩ : ByteArray).extract 1 (rest.length + 1) = ⟨rest.toArray⟩ := by rw [ByteArray.extract_mk]; simp
          have hmax : ∀ {n2 : Nat} {r2 : List UInt8}, wholeF rest = (n2, r2, true) → n2 ≤ 9223372036854775807 := fun {n2 r2} h => by
            unfold wholeF at h
            split at h
            · cases (Prod.mk.inj (Prod.mk.inj h).2).2
            · have h1 := (Prod.mk.inj h).1
              have h2 := (Prod.mk.inj (Prod.mk.inj h).2).2
              rw [h1] at h2
              simpa using h2
          obtain ⟨W2, hw2⟩ : ∃ W2, wholeF rest = W2 := ⟨_, rfl⟩
          rw [hw2] at hv hww2
          obtain ⟨N2, rest2, ok2⟩ := W2
          simp only at hww2
          have HW2 := Lib.hid hww2
          clear hww2
          cases ok2 with
          | false =>
            have HF := Lib.hid (show PR = ((0, 0), false) by rw [← hPR, parseP_at hs hneg hw hv]; simp)
            clear hPR hw hneg hv hw2 hmax
            cases neg with
            | true =>
              go_enter Tryd.func16, Tryd.ntmps16
              go_wp2_with fail
              ((with_reducible refine (HC.out _).mono ?_); rintro e w' ⟨rfl, rfl⟩)
              go_wp2_with fail
              ((with_reducible refine (HW.out _).mono ?_); rintro e w' ⟨⟨k, rfl, hk⟩, hbw⟩)
              obtain ⟨m1, rfl⟩ := grow_mk hbw
              clear hbw
              obtain rfl := hk (by trivial)
              clear hk
              have hb : Below w.heap.size w (w.alloc (.cells #[.int .i64 0, .int .i64 0] 23)) := below_box _ _
              have hr : Blk (w.alloc (.cells #[.int .i64 0, .int .i64 0] 23)) w.heap.size 23 #[.int .i64 0, .int .i64 0] := Blk.new _ _ _
              replace hb := below_grow hb m1
              replace hr := hr.grow m1
              generalize grow _ m1 = wa at *
              have ca0 : wa.cell? ⟨w.heap.size, 0, none⟩ = some (.int .i64 0) := (hr).cell 0
              have fca0 := (hr).frozen 0
              have ca1 : wa.cell? ⟨w.heap.size, 1, none⟩ = some (.int .i64 0) := (hr).cell 1
              have fca1 := (hr).frozen 1
              have lca := (hr).lt
              go_wp2_with fail
              ((with_reducible refine (HW2.out _).mono ?_); rintro e w' ⟨⟨k2, rfl, hk2⟩, hbw⟩)
              obtain ⟨m2, rfl⟩ := grow_mk hbw
              clear hbw
              clear hk2
              have hv := Blk.new wa 23 #[.int .i64 (N : Int), .int .i64 1]
              replace hr := hr.old (.cells #[.int .i64 (N : Int), .int .i64 1] 23)
              replace hb := below_alloc_self hb (.cells #[.int .i64 (N : Int), .int .i64 1] 23)
              have hne : w.heap.size ≠ wa.heap.size := Nat.ne_of_lt lca
              have hlt := lca
              replace hv := hv.grow m2
              replace hr := hr.grow m2
              replace hb := below_grow hb m2
              clear ca0 ca1 fca0 fca1 lca
              generalize wa.heap.size = g at *
              generalize grow _ m2 = wb at *
              have cr0 : wb.cell? ⟨w.heap.size, 0, none⟩ = some (.int .i64 0) := (hr).cell 0
              have fcr0 := (hr).frozen 0
              have cr1 : wb.cell? ⟨w.heap.size, 1, none⟩ = some (.int .i64 0) := (hr).cell 1
              have fcr1 := (hr).frozen 1
              have lcr := (hr).lt
              have cv0 : wb.cell? ⟨g, 0, none⟩ = some (.int .i64 (N : Int)) := (hv).cell 0
              have fcv0 := (hv).frozen 0
              have cv1 : wb.cell? ⟨g, 1, none⟩ = some (.int .i64 1) := (hv).cell 1
              have fcv1 := (hv).frozen 1
              have lcv := (hv).lt
              go_wp2_with fail
              exact bodyPost_ret (v := .tuple #[.agg #[.int .i64 0, .int .i64 0], .int .i64 3]) (by simp [results, Tryd.results16, go_sem, cr0, cr1, lcr, cv0, cv1, lcv]) rfl ⟨(by rw [HF.out]; rfl), (by repeat (first | with_reducible exact hb | (with_reducible refine Below.setCell ?_ ?hq _; case hq => first | (simp; done) | (simp; omega)) | with_reducible refine below_alloc_self ?_ _ | with_reducible refine below_grow ?_ _))⟩
            | false =>
              go_enter Tryd.func16, Tryd.ntmps16
              go_wp2_with fail
              ((with_reducible refine (HC.out _).mono ?_); rintro e w' ⟨rfl, rfl⟩)
              go_wp2_with fail
              ((with_reducible refine (HW.out _).mono ?_); rintro e w' ⟨⟨k, rfl, hk⟩, hbw⟩)
              obtain ⟨m1, rfl⟩ := grow_mk hbw
              clear hbw
              obtain rfl := hk (by trivial)
              clear hk
              have hb : Below w.heap.size w (w.alloc (.cells #[.int .i64 0, .int .i64 0] 23)) := below_box _ _
              have hr : Blk (w.alloc (.cells #[.int .i64 0, .int .i64 0] 23)) w.heap.size 23 #[.int .i64 0, .int .i64 0] := Blk.new _ _ _
              replace hb := below_grow hb m1
              replace hr := hr.grow m1
              generalize grow _ m1 = wa at *
              have ca0 : wa.cell? ⟨w.heap.size, 0, none⟩ = some (.int .i64 0) := (hr).cell 0
              have fca0 := (hr).frozen 0
              have ca1 : wa.cell? ⟨w.heap.size, 1, none⟩ = some (.int .i64 0) := (hr).cell 1
              have fca1 := (hr).frozen 1
              have lca := (hr).lt
              go_wp2_with fail
              ((with_reducible refine (HW2.out _).mono ?_); rintro e w' ⟨⟨k2, rfl, hk2⟩, hbw⟩)
              obtain ⟨m2, rfl⟩ := grow_mk hbw
              clear hbw
              clear hk2
              have hv := Blk.new wa 23 #[.int .i64 (N : Int), .int .i64 1]
              replace hr := hr.old (.cells #[.int .i64 (N : Int), .int .i64 1] 23)
              replace hb := below_alloc_self hb (.cells #[.int .i64 (N : Int), .int .i64 1] 23)
              have hne : w.heap.size ≠ wa.heap.size := Nat.ne_of_lt lca
              have hlt := lca
              replace hv := hv.grow m2
              replace hr := hr.grow m2
              replace hb := below_grow hb m2
              clear ca0 ca1 fca0 fca1 lca
              generalize wa.heap.size = g at *
              generalize grow _ m2 = wb at *
              have cr0 : wb.cell? ⟨w.heap.size, 0, none⟩ = some (.int .i64 0) := (hr).cell 0
              have fcr0 := (hr).frozen 0
              have cr1 : wb.cell? ⟨w.heap.size, 1, none⟩ = some (.int .i64 0) := (hr).cell 1
              have fcr1 := (hr).frozen 1
              have lcr := (hr).lt
              have cv0 : wb.cell? ⟨g, 0, none⟩ = some (.int .i64 (N : Int)) := (hv).cell 0
              have fcv0 := (hv).frozen 0
              have cv1 : wb.cell? ⟨g, 1, none⟩ = some (.int .i64 1) := (hv).cell 1
              have fcv1 := (hv).frozen 1
              have lcv := (hv).lt
              go_wp2_with fail
              exact bodyPost_ret (v := .tuple #[.agg #[.int .i64 0, .int .i64 0], .int .i64 3]) (by simp [results, Tryd.results16, go_sem, cr0, cr1, lcr, cv0, cv1, lcv]) rfl ⟨(by rw [HF.out]; rfl), (by repeat (first | with_reducible exact hb | (with_reducible refine Below.setCell ?_ ?hq _; case hq => first | (simp; done) | (simp; omega)) | with_reducible refine below_alloc_self ?_ _ | with_reducible refine below_grow ?_ _))⟩
          | true =>
            have hN2 := hmax hw2
            clear hmax hw2
            cases rest2 with
            | cons a2 rest2 =>
              have HF := Lib.hid (show PR = ((0, 0), false) by rw [← hPR, parseP_at hs hneg hw hv]; simp)
              clear hPR hw hneg hv
              cases neg with
              | true =>
                go_enter Tryd.func16, Tryd.ntmps16
                go_wp2_with fail
                ((with_reducible refine (HC.out _).mono ?_); rintro e w' ⟨rfl, rfl⟩)
                go_wp2_with fail
                ((with_reducible refine (HW.out _).mono ?_); rintro e w' ⟨⟨k, rfl, hk⟩, hbw⟩)
                obtain ⟨m1, rfl⟩ := grow_mk hbw
                clear hbw
                obtain rfl := hk (by trivial)
                clear hk
                have hb : Below w.heap.size w (w.alloc (.cells #[.int .i64 0, .int .i64 0] 23)) := below_box _ _
                have hr : Blk (w.alloc (.cells #[.int .i64 0, .int .i64 0] 23)) w.heap.size 23 #[.int .i64 0, .int .i64 0] := Blk.new _ _ _
                replace hb := below_grow hb m1
                replace hr := hr.grow m1
                generalize grow _ m1 = wa at *
                have ca0 : wa.cell? ⟨w.heap.size, 0, none⟩ = some (.int .i64 0) := (hr).cell 0
                have fca0 := (hr).frozen 0
                have ca1 : wa.cell? ⟨w.heap.size, 1, none⟩ = some (.int .i64 0) := (hr).cell 1
                have fca1 := (hr).frozen 1
                have lca := (hr).lt
                go_wp2_with fail
                ((with_reducible refine (HW2.out _).mono ?_); rintro e w' ⟨⟨k2, rfl, hk2⟩, hbw⟩)
                obtain ⟨m2, rfl⟩ := grow_mk hbw
                clear hbw
                obtain rfl := hk2 (by trivial)
                clear hk2
                have hv := Blk.new wa 23 #[.int .i64 (N : Int), .int .i64 1]
                replace hr := hr.old (.cells #[.int .i64 (N : Int), .int .i64 1] 23)
                replace hb := below_alloc_self hb (.cells #[.int .i64 (N : Int), .int .i64 1] 23)
                have hne : w.heap.size ≠ wa.heap.size := Nat.ne_of_lt lca
                have hlt := lca
                replace hv := hv.grow m2
                replace hr := hr.grow m2
                replace hb := below_grow hb m2
                clear ca0 ca1 fca0 fca1 lca
                generalize wa.heap.size = g at *
                generalize grow _ m2 = wb at *
                have cr0 : wb.cell? ⟨w.heap.size, 0, none⟩ = some (.int .i64 0) := (hr).cell 0
                have fcr0 := (hr).frozen 0
                have cr1 : wb.cell? ⟨w.heap.size, 1, none⟩ = some (.int .i64 0) := (hr).cell 1
                have fcr1 := (hr).frozen 1
                have lcr := (hr).lt
                have cv0 : wb.cell? ⟨g, 0, none⟩ = some (.int .i64 (N : Int)) := (hv).cell 0
                have fcv0 := (hv).frozen 0
                have cv1 : wb.cell? ⟨g, 1, none⟩ = some (.int .i64 1) := (hv).cell 1
                have fcv1 := (hv).frozen 1
                have lcv := (hv).lt
                go_wp2_with fail
                exact bodyPost_ret (v := .tuple #[.agg #[.int .i64 0, .int .i64 0], .int .i64 3]) (by simp [results, Tryd.results16, go_sem, cr0, cr1, lcr, cv0, cv1, lcv]) rfl ⟨(by rw [HF.out]; rfl), (by repeat (first | with_reducible exact hb | (with_reducible refine Below.setCell ?_ ?hq _; case hq => first | (simp; done) | (simp; omega)) | with_reducible refine below_alloc_self ?_ _ | with_reducible refine below_grow ?_ _))⟩
              | false =>
                go_enter Tryd.func16, Tryd.ntmps16
                go_wp2_with fail
                ((with_reducible refine (HC.out _).mono ?_); rintro e w' ⟨rfl, rfl⟩)
                go_wp2_with fail
                ((with_reducible refine (HW.out _).mono ?_); rintro e w' ⟨⟨k, rfl, hk⟩, hbw⟩)
                obtain ⟨m1, rfl⟩ := grow_mk hbw
                clear hbw
                obtain rfl := hk (by trivial)
                clear hk
                have hb : Below w.heap.size w (w.alloc (.cells #[.int .i64 0, .int .i64 0] 23)) := below_box _ _
                have hr : Blk (w.alloc (.cells #[.int .i64 0, .int .i64 0] 23)) w.heap.size 23 #[.int .i64 0, .int .i64 0] := Blk.new _ _ _
                replace hb := below_grow hb m1
                replace hr := hr.grow m1
                generalize grow _ m1 = wa at *
                have ca0 : wa.cell? ⟨w.heap.size, 0, none⟩ = some (.int .i64 0) := (hr).cell 0
                have fca0 := (hr).frozen 0
                have ca1 : wa.cell? ⟨w.heap.size, 1, none⟩ = some (.int .i64 0) := (hr).cell 1
                have fca1 := (hr).frozen 1
                have lca := (hr).lt
                go_wp2_with fail
                ((with_reducible refine (HW2.out _).mono ?_); rintro e w' ⟨⟨k2, rfl, hk2⟩, hbw⟩)
                obtain ⟨m2, rfl⟩ := grow_mk hbw
                clear hbw
                obtain rfl := hk2 (by trivial)
                clear hk2
                have hv := Blk.new wa 23 #[.int .i64 (N : Int), .int .i64 1]
                replace hr := hr.old (.cells #[.int .i64 (N : Int), .int .i64 1] 23)
                replace hb := below_alloc_self hb (.cells #[.int .i64 (N : Int), .int .i64 1] 23)
                have hne : w.heap.size ≠ wa.heap.size := Nat.ne_of_lt lca
                have hlt := lca
                replace hv := hv.grow m2
                replace hr := hr.grow m2
                replace hb := below_grow hb m2
                clear ca0 ca1 fca0 fca1 lca
                generalize wa.heap.size = g at *
                generalize grow _ m2 = wb at *
                have cr0 : wb.cell? ⟨w.heap.size, 0, none⟩ = some (.int .i64 0) := (hr).cell 0
                have fcr0 := (hr).frozen 0
                have cr1 : wb.cell? ⟨w.heap.size, 1, none⟩ = some (.int .i64 0) := (hr).cell 1
                have fcr1 := (hr).frozen 1
                have lcr := (hr).lt
                have cv0 : wb.cell? ⟨g, 0, none⟩ = some (.int .i64 (N : Int)) := (hv).cell 0
                have fcv0 := (hv).frozen 0
                have cv1 : wb.cell? ⟨g, 1, none⟩ = some (.int .i64 1) := (hv).cell 1
                have fcv1 := (hv).frozen 1
                have lcv := (hv).lt
                go_wp2_with fail
                exact bodyPost_ret (v := .tuple #[.agg #[.int .i64 0, .int .i64 0], .int .i64 3]) (by simp [results, Tryd.results16, go_sem, cr0, cr1, lcr, cv0, cv1, lcv]) rfl ⟨(by rw [HF.out]; rfl), (by repeat (first | with_reducible exact hb | (with_reducible refine Below.setCell ?_ ?hq _; case hq => first | (simp; done) | (simp; omega)) | with_reducible refine below_alloc_self ?_ _ | with_reducible refine below_grow ?_ _))⟩
            | nil =>
              cases neg with
              | true =>
                have h64 : Is64 ((-(N : Int)), (N2 : Int)) := by unfold Is64; simp only; omega
                have hs1 := fun w => sure_any ((-(N : Int)), (N2 : Int)) w h64
                have ht1 := fun w => text_any ((-(N : Int)), (N2 : Int)) w h64
                have HF0 : PR = if sureB ((-(N : Int)), (N2 : Int)) && (textF ((-(N : Int)), (N2 : Int)) == l) then (((-(N : Int)), (N2 : Int)), true) else ((0, 0), false) := by rw [← hPR, parseP_at hs hneg hw hv]; simp [signF]
                generalize textF ((-(N : Int)), (N2 : Int)) = TX at *
                cases hsb : sureB ((-(N : Int)), (N2 : Int)) with
                | false =>
                  rw [hsb] at hs1 HF0
                  have HF := Lib.hid HF0
                  have HS := Lib.hid hs1
                  clear HF0 hs1 ht1 hsb h64 hPR hneg hw hv
                  go_enter Tryd.func16, Tryd.ntmps16
                  go_wp2_with fail
                  ((with_reducible refine (HC.out _).mono ?_); rintro e w' ⟨rfl, rfl⟩)
                  go_wp2_with fail
                  ((with_reducible refine (HW.out _).mono ?_); rintro e w' ⟨⟨k, rfl, hk⟩, hbw⟩)
                  obtain ⟨m1, rfl⟩ := grow_mk hbw
                  clear hbw
                  obtain rfl := hk (by trivial)
                  clear hk
                  have hb : Below w.heap.size w (w.alloc (.cells #[.int .i64 0, .int .i64 0] 23)) := below_box _ _
                  have hr : Blk (w.alloc (.cells #[.int .i64 0, .int .i64 0] 23)) w.heap.size 23 #[.int .i64 0, .int .i64 0] := Blk.new _ _ _
                  replace hb := below_grow hb m1
                  replace hr := hr.grow m1
                  generalize grow _ m1 = wa at *
                  have ca0 : wa.cell? ⟨w.heap.size, 0, none⟩ = some (.int .i64 0) := (hr).cell 0
                  have fca0 := (hr).frozen 0
                  have ca1 : wa.cell? ⟨w.heap.size, 1, none⟩ = some (.int .i64 0) := (hr).cell 1
                  have fca1 := (hr).frozen 1
                  have lca := (hr).lt
                  go_wp2_with fail
                  ((with_reducible refine (HW2.out _).mono ?_); rintro e w' ⟨⟨k2, rfl, hk2⟩, hbw⟩)
                  obtain ⟨m2, rfl⟩ := grow_mk hbw
                  clear hbw
                  obtain rfl := hk2 (by trivial)
                  clear hk2
                  have hv := Blk.new wa 23 #[.int .i64 (N : Int), .int .i64 1]
                  replace hr := hr.old (.cells #[.int .i64 (N : Int), .int .i64 1] 23)
                  replace hb := below_alloc_self hb (.cells #[.int .i64 (N : Int), .int .i64 1] 23)
                  have hne : w.heap.size ≠ wa.heap.size := Nat.ne_of_lt lca
                  have hlt := lca
                  replace hv := hv.grow m2
                  replace hr := hr.grow m2
                  replace hb := below_grow hb m2
                  clear ca0 ca1 fca0 fca1 lca
                  generalize wa.heap.size = g at *
                  generalize grow _ m2 = wb at *
                  have cr0 : wb.cell? ⟨w.heap.size, 0, none⟩ = some (.int .i64 0) := (hr).cell 0
                  have fcr0 := (hr).frozen 0
                  have cr1 : wb.cell? ⟨w.heap.size, 1, none⟩ = some (.int .i64 0) := (hr).cell 1
                  have fcr1 := (hr).frozen 1
                  have lcr := (hr).lt
                  have cv0 : wb.cell? ⟨g, 0, none⟩ = some (.int .i64 (N : Int)) := (hv).cell 0
                  have fcv0 := (hv).frozen 0
                  have cv1 : wb.cell? ⟨g, 1, none⟩ = some (.int .i64 1) := (hv).cell 1
                  have fcv1 := (hv).frozen 1
                  have lcv := (hv).lt
                  go_wp2_with fail
                  ((with_reducible refine (HS.out _).mono ?_); rintro e w' ⟨rfl, hbw⟩)
                  obtain ⟨m3, rfl⟩ := grow_mk hbw
                  clear hbw
                  have hv3 : Blk (wb.setCell ⟨g, 1, none⟩ (.int .i64 (N2 : Int))) g 23 #[.int .i64 (N : Int), .int .i64 (N2 : Int)] := (hv.put 1 _).to rfl
                  have hr3 : Blk (wb.setCell ⟨g, 1, none⟩ (.int .i64 (N2 : Int))) w.heap.size 23 #[.int .i64 0, .int .i64 0] := hr.far (p := ⟨g, 1, none⟩) hne _
                  have hb3 : Below w.heap.size w (wb.setCell ⟨g, 1, none⟩ (.int .i64 (N2 : Int))) := hb.setCell (Nat.le_of_lt hlt) _
                  replace hv3 : Blk ((wb.setCell ⟨g, 1, none⟩ (.int .i64 (N2 : Int))).setCell ⟨g, 0, none⟩ (.int .i64 (-(N : Int)))) g 23 #[.int .i64 (-(N : Int)), .int .i64 (N2 : Int)] := (hv3.put 0 _).to rfl
                  replace hr3 : Blk ((wb.setCell ⟨g, 1, none⟩ (.int .i64 (N2 : Int))).setCell ⟨g, 0, none⟩ (.int .i64 (-(N : Int)))) w.heap.size 23 #[.int .i64 0, .int .i64 0] := hr3.far (p := ⟨g, 0, none⟩) hne _
                  replace hb3 : Below w.heap.size w ((wb.setCell ⟨g, 1, none⟩ (.int .i64 (N2 : Int))).setCell ⟨g, 0, none⟩ (.int .i64 (-(N : Int)))) := hb3.setCell (Nat.le_of_lt hlt) _
                  clear cr0 cr1 fcr0 fcr1 lcr cv0 cv1 fcv0 fcv1 lcv hv hr hb
                  have hv := hv3.grow m3
                  have hr := hr3.grow m3
                  have hb := below_grow hb3 m3
                  clear hv3 hr3 hb3
                  generalize grow _ m3 = wc at *
                  have cr0 : wc.cell? ⟨w.heap.size, 0, none⟩ = some (.int .i64 0) := (hr).cell 0
                  have fcr0 := (hr).frozen 0
                  have cr1 : wc.cell? ⟨w.heap.size, 1, none⟩ = some (.int .i64 0) := (hr).cell 1
                  have fcr1 := (hr).frozen 1
                  have lcr := (hr).lt
                  have cv0 : wc.cell? ⟨g, 0, none⟩ = some (.int .i64 (-(N : Int))) := (hv).cell 0
                  have fcv0 := (hv).frozen 0
                  have cv1 : wc.cell? ⟨g, 1, none⟩ = some (.int .i64 (N2 : Int)) := (hv).cell 1
                  have fcv1 := (hv).frozen 1
                  have lcv := (hv).lt
                  go_wp2_with fail
                  exact bodyPost_ret (v := .tuple #[.agg #[.int .i64 0, .int .i64 0], .int .i64 3]) (by simp [results, Tryd.results16, go_sem, cr0, cr1, lcr, cv0, cv1, lcv]) rfl ⟨(by rw [HF.out]; rfl), (by repeat (first | with_reducible exact hb | (with_reducible refine Below.setCell ?_ ?hq _; case hq => first | (simp; done) | (simp; omega)) | with_reducible refine below_alloc_self ?_ _ | with_reducible refine below_grow ?_ _))⟩
                | true =>
                  rw [hsb] at hs1 HF0
                  obtain ⟨q, hq⟩ : ∃ q, (TX == l) = q := ⟨_, rfl⟩
                  rw [hq] at HF0
                  have HF := Lib.hid HF0
                  have HS := Lib.hid hs1
                  have HT := Lib.hid ht1
                  clear HF0 hs1 ht1 hsb h64 hPR hneg hw hv
                  cases q with
                  | false =>
                    go_enter Tryd.func16, Tryd.ntmps16
                    go_wp2_with fail
                    ((with_reducible refine (HC.out _).mono ?_); rintro e w' ⟨rfl, rfl⟩)
                    go_wp2_with fail
                    ((with_reducible refine (HW.out _).mono ?_); rintro e w' ⟨⟨k, rfl, hk⟩, hbw⟩)
                    obtain ⟨m1, rfl⟩ := grow_mk hbw
                    clear hbw
                    obtain rfl := hk (by trivial)
                    clear hk
                    have hb : Below w.heap.size w (w.alloc (.cells #[.int .i64 0, .int .i64 0] 23)) := below_box _ _
                    have hr : Blk (w.alloc (.cells #[.int .i64 0, .int .i64 0] 23)) w.heap.size 23 #[.int .i64 0, .int .i64 0] := Blk.new _ _ _
                    replace hb := below_grow hb m1
                    replace hr := hr.grow m1
                    generalize grow _ m1 = wa at *
                    have ca0 : wa.cell? ⟨w.heap.size, 0, none⟩ = some (.int .i64 0) := (hr).cell 0
                    have fca0 := (hr).frozen 0
                    have ca1 : wa.cell? ⟨w.heap.size, 1, none⟩ = some (.int .i64 0) := (hr).cell 1
                    have fca1 := (hr).frozen 1
                    have lca := (hr).lt
                    go_wp2_with fail
                    ((with_reducible refine (HW2.out _).mono ?_); rintro e w' ⟨⟨k2, rfl, hk2⟩, hbw⟩)
                    obtain ⟨m2, rfl⟩ := grow_mk hbw
                    clear hbw
                    obtain rfl := hk2 (by trivial)
                    clear hk2
                    have hv := Blk.new wa 23 #[.int .i64 (N : Int), .int .i64 1]
                    replace hr := hr.old (.cells #[.int .i64 (N : Int), .int .i64 1] 23)
                    replace hb := below_alloc_self hb (.cells #[.int .i64 (N : Int), .int .i64 1] 23)
                    have hne : w.heap.size ≠ wa.heap.size := Nat.ne_of_lt lca
                    have hlt := lca
                    replace hv := hv.grow m2
                    replace hr := hr.grow m2
                    replace hb := below_grow hb m2
                    clear ca0 ca1 fca0 fca1 lca
                    generalize wa.heap.size = g at *
                    generalize grow _ m2 = wb at *
                    have cr0 : wb.cell? ⟨w.heap.size, 0, none⟩ = some (.int .i64 0) := (hr).cell 0
                    have fcr0 := (hr).frozen 0
                    have cr1 : wb.cell? ⟨w.heap.size, 1, none⟩ = some (.int .i64 0) := (hr).cell 1
                    have fcr1 := (hr).frozen 1
                    have lcr := (hr).lt
                    have cv0 : wb.cell? ⟨g, 0, none⟩ = some (.int .i64 (N : Int)) := (hv).cell 0
                    have fcv0 := (hv).frozen 0
                    have cv1 : wb.cell? ⟨g, 1, none⟩ = some (.int .i64 1) := (hv).cell 1
                    have fcv1 := (hv).frozen 1
                    have lcv := (hv).lt
                    go_wp2_with fail
                    ((with_reducible refine (HS.out _).mono ?_); rintro e w' ⟨rfl, hbw⟩)
                    obtain ⟨m3, rfl⟩ := grow_mk hbw
                    clear hbw
                    have hv3 : Blk (wb.setCell ⟨g, 1, none⟩ (.int .i64 (N2 : Int))) g 23 #[.int .i64 (N : Int), .int .i64 (N2 : Int)] := (hv.put 1 _).to rfl
                    have hr3 : Blk (wb.setCell ⟨g, 1, none⟩ (.int .i64 (N2 : Int))) w.heap.size 23 #[.int .i64 0, .int .i64 0] := hr.far (p := ⟨g, 1, none⟩) hne _
                    have hb3 : Below w.heap.size w (wb.setCell ⟨g, 1, none⟩ (.int .i64 (N2 : Int))) := hb.setCell (Nat.le_of_lt hlt) _
                    replace hv3 : Blk ((wb.setCell ⟨g, 1, none⟩ (.int .i64 (N2 : Int))).setCell ⟨g, 0, none⟩ (.int .i64 (-(N : Int)))) g 23 #[.int .i64 (-(N : Int)), .int .i64 (N2 : Int)] := (hv3.put 0 _).to rfl
                    replace hr3 : Blk ((wb.setCell ⟨g, 1, none⟩ (.int .i64 (N2 : Int))).setCell ⟨g, 0, none⟩ (.int .i64 (-(N : Int)))) w.heap.size 23 #[.int .i64 0, .int .i64 0] := hr3.far (p := ⟨g, 0, none⟩) hne _
                    replace hb3 : Below w.heap.size w ((wb.setCell ⟨g, 1, none⟩ (.int .i64 (N2 : Int))).setCell ⟨g, 0, none⟩ (.int .i64 (-(N : Int)))) := hb3.setCell (Nat.le_of_lt hlt) _
                    clear cr0 cr1 fcr0 fcr1 lcr cv0 cv1 fcv0 fcv1 lcv hv hr hb
                    have hv := hv3.grow m3
                    have hr := hr3.grow m3
                    have hb := below_grow hb3 m3
                    clear hv3 hr3 hb3
                    generalize grow _ m3 = wc at *
                    have cr0 : wc.cell? ⟨w.heap.size, 0, none⟩ = some (.int .i64 0) := (hr).cell 0
                    have fcr0 := (hr).frozen 0
                    have cr1 : wc.cell? ⟨w.heap.size, 1, none⟩ = some (.int .i64 0) := (hr).cell 1
                    have fcr1 := (hr).frozen 1
                    have lcr := (hr).lt
                    have cv0 : wc.cell? ⟨g, 0, none⟩ = some (.int .i64 (-(N : Int))) := (hv).cell 0
                    have fcv0 := (hv).frozen 0
                    have cv1 : wc.cell? ⟨g, 1, none⟩ = some (.int .i64 (N2 : Int)) := (hv).cell 1
                    have fcv1 := (hv).frozen 1
                    have lcv := (hv).lt
                    go_wp2_with fail
                    ((with_reducible refine (HT.out _).mono ?_); rintro e w' ⟨rfl, hbw⟩)
                    obtain ⟨m4, rfl⟩ := grow_mk hbw
                    clear hbw
                    go_wp2_with fail
                    exact bodyPost_ret (v := .tuple #[.agg #[.int .i64 0, .int .i64 0], .int .i64 3]) (by simp [results, Tryd.results16, go_sem, cr0, cr1, lcr, cv0, cv1, lcv]) rfl ⟨(by rw [HF.out]; rfl), (by repeat (first | with_reducible exact hb | (with_reducible refine Below.setCell ?_ ?hq _; case hq => first | (simp; done) | (simp; omega)) | with_reducible refine below_alloc_self ?_ _ | with_reducible refine below_grow ?_ _))⟩
                  | true =>
                    go_enter Tryd.func16, Tryd.ntmps16
                    go_wp2_with fail
                    ((with_reducible refine (HC.out _).mono ?_); rintro e w' ⟨rfl, rfl⟩)
                    go_wp2_with fail
                    ((with_reducible refine (HW.out _).mono ?_); rintro e w' ⟨⟨k, rfl, hk⟩, hbw⟩)
                    obtain ⟨m1, rfl⟩ := grow_mk hbw
                    clear hbw
                    obtain rfl := hk (by trivial)
                    clear hk
                    have hb : Below w.heap.size w (w.alloc (.cells #[.int .i64 0, .int .i64 0] 23)) := below_box _ _
                    have hr : Blk (w.alloc (.cells #[.int .i64 0, .int .i64 0] 23)) w.heap.size 23 #[.int .i64 0, .int .i64 0] := Blk.new _ _ _
                    replace hb := below_grow hb m1
                    replace hr := hr.grow m1
                    generalize grow _ m1 = wa at *
                    have ca0 : wa.cell? ⟨w.heap.size, 0, none⟩ = some (.int .i64 0) := (hr).cell 0
                    have fca0 := (hr).frozen 0
                    have ca1 : wa.cell? ⟨w.heap.size, 1, none⟩ = some (.int .i64 0) := (hr).cell 1
                    have fca1 := (hr).frozen 1
                    have lca := (hr).lt
                    go_wp2_with fail
                    ((with_reducible refine (HW2.out _).mono ?_); rintro e w' ⟨⟨k2, rfl, hk2⟩, hbw⟩)
                    obtain ⟨m2, rfl⟩ := grow_mk hbw
                    clear hbw
                    obtain rfl := hk2 (by trivial)
                    clear hk2
                    have hv := Blk.new wa 23 #[.int .i64 (N : Int), .int .i64 1]
                    replace hr := hr.old (.cells #[.int .i64 (N : Int), .int .i64 1] 23)
                    replace hb := below_alloc_self hb (.cells #[.int .i64 (N : Int), .int .i64 1] 23)
                    have hne : w.heap.size ≠ wa.heap.size := Nat.ne_of_lt lca
                    have hlt := lca
                    replace hv := hv.grow m2
                    replace hr := hr.grow m2
                    replace hb := below_grow hb m2
                    clear ca0 ca1 fca0 fca1 lca
                    generalize wa.heap.size = g at *
                    generalize grow _ m2 = wb at *
                    have cr0 : wb.cell? ⟨w.heap.size, 0, none⟩ = some (.int .i64 0) := (hr).cell 0
                    have fcr0 := (hr).frozen 0
                    have cr1 : wb.cell? ⟨w.heap.size, 1, none⟩ = some (.int .i64 0) := (hr).cell 1
                    have fcr1 := (hr).frozen 1
                    have lcr := (hr).lt
                    have cv0 : wb.cell? ⟨g, 0, none⟩ = some (.int .i64 (N : Int)) := (hv).cell 0
                    have fcv0 := (hv).frozen 0
                    have cv1 : wb.cell? ⟨g, 1, none⟩ = some (.int .i64 1) := (hv).cell 1
                    have fcv1 := (hv).frozen 1
                    have lcv := (hv).lt
                    go_wp2_with fail
                    ((with_reducible refine (HS.out _).mono ?_); rintro e w' ⟨rfl, hbw⟩)
                    obtain ⟨m3, rfl⟩ := grow_mk hbw
                    clear hbw
                    have hv3 : Blk (wb.setCell ⟨g, 1, none⟩ (.int .i64 (N2 : Int))) g 23 #[.int .i64 (N : Int), .int .i64 (N2 : Int)] := (hv.put 1 _).to rfl
                    have hr3 : Blk (wb.setCell ⟨g, 1, none⟩ (.int .i64 (N2 : Int))) w.heap.size 23 #[.int .i64 0, .int .i64 0] := hr.far (p := ⟨g, 1, none⟩) hne _
                    have hb3 : Below w.heap.size w (wb.setCell ⟨g, 1, none⟩ (.int .i64 (N2 : Int))) := hb.setCell (Nat.le_of_lt hlt) _
                    replace hv3 : Blk ((wb.setCell ⟨g, 1, none⟩ (.int .i64 (N2 : Int))).setCell ⟨g, 0, none⟩ (.int .i64 (-(N : Int)))) g 23 #[.int .i64 (-(N : Int)), .int .i64 (N2 : Int)] := (hv3.put 0 _).to rfl
                    replace hr3 : Blk ((wb.setCell ⟨g, 1, none⟩ (.int .i64 (N2 : Int))).setCell ⟨g, 0, none⟩ (.int .i64 (-(N : Int)))) w.heap.size 23 #[.int .i64 0, .int .i64 0] := hr3.far (p := ⟨g, 0, none⟩) hne _
                    replace hb3 : Below w.heap.size w ((wb.setCell ⟨g, 1, none⟩ (.int .i64 (N2 : Int))).setCell ⟨g, 0, none⟩ (.int .i64 (-(N : Int)))) := hb3.setCell (Nat.le_of_lt hlt) _
                    clear cr0 cr1 fcr0 fcr1 lcr cv0 cv1 fcv0 fcv1 lcv hv hr hb
                    have hv := hv3.grow m3
                    have hr := hr3.grow m3
                    have hb := below_grow hb3 m3
                    clear hv3 hr3 hb3
                    generalize grow _ m3 = wc at *
                    have cr0 : wc.cell? ⟨w.heap.size, 0, none⟩ = some (.int .i64 0) := (hr).cell 0
                    have fcr0 := (hr).frozen 0
                    have cr1 : wc.cell? ⟨w.heap.size, 1, none⟩ = some (.int .i64 0) := (hr).cell 1
                    have fcr1 := (hr).frozen 1
                    have lcr := (hr).lt
                    have cv0 : wc.cell? ⟨g, 0, none⟩ = some (.int .i64 (-(N : Int))) := (hv).cell 0
                    have fcv0 := (hv).frozen 0
                    have cv1 : wc.cell? ⟨g, 1, none⟩ = some (.int .i64 (N2 : Int)) := (hv).cell 1
                    have fcv1 := (hv).frozen 1
                    have lcv := (hv).lt
                    go_wp2_with fail
                    ((with_reducible refine (HT.out _).mono ?_); rintro e w' ⟨rfl, hbw⟩)
                    obtain ⟨m4, rfl⟩ := grow_mk hbw
                    clear hbw
                    go_wp2_with fail
                    exact bodyPost_ret (v := .tuple #[.agg #[.int .i64 (-(N : Int)), .int .i64 (N2 : Int)], .int .i64 0]) (by simp [results, Tryd.results16, go_sem, cr0, cr1, lcr, cv0, cv1, lcv]) rfl ⟨(by rw [HF.out]; rfl), (by repeat (first | with_reducible exact hb | (with_reducible refine Below.setCell ?_ ?hq _; case hq => first | (simp; done) | (simp; omega)) | with_reducible refine below_alloc_self ?_ _ | with_reducible refine below_grow ?_ _))⟩
              | false =>
                have h64 : Is64 ((N : Int), (N2 : Int)) := by unfold Is64; simp only; omega
                have hs1 := fun w => sure_any ((N : Int), (N2 : Int)) w h64
                have ht1 := fun w => text_any ((N : Int), (N2 : Int)) w h64
                have HF0 : PR = if sureB ((N : Int), (N2 : Int)) && (textF ((N : Int), (N2 : Int)) == l) then (((N : Int), (N2 : Int)), true) else ((0, 0), false) := by rw [← hPR, parseP_at hs hneg hw hv]; simp [signF]
                generalize textF ((N : Int), (N2 : Int)) = TX at *
                cases hsb : sureB ((N : Int), (N2 : Int)) with
                | false =>
                  rw [hsb] at hs1 HF0
                  have HF := Lib.hid HF0
                  have HS := Lib.hid hs1
                  clear HF0 hs1 ht1 hsb h64 hPR hneg hw hv
                  go_enter Tryd.func16, Tryd.ntmps16
                  go_wp2_with fail
                  ((with_reducible refine (HC.out _).mono ?_); rintro e w' ⟨rfl, rfl⟩)
                  go_wp2_with fail
                  ((with_reducible refine (HW.out _).mono ?_); rintro e w' ⟨⟨k, rfl, hk⟩, hbw⟩)
                  obtain ⟨m1, rfl⟩ := grow_mk hbw
                  clear hbw
                  obtain rfl := hk (by trivial)
                  clear hk
                  have hb : Below w.heap.size w (w.alloc (.cells #[.int .i64 0, .int .i64 0] 23)) := below_box _ _
                  have hr : Blk (w.alloc (.cells #[.int .i64 0, .int .i64 0] 23)) w.heap.size 23 #[.int .i64 0, .int .i64 0] := Blk.new _ _ _
                  replace hb := below_grow hb m1
                  replace hr := hr.grow m1
                  generalize grow _ m1 = wa at *
                  have ca0 : wa.cell? ⟨w.heap.size, 0, none⟩ = some (.int .i64 0) := (hr).cell 0
                  have fca0 := (hr).frozen 0
                  have ca1 : wa.cell? ⟨w.heap.size, 1, none⟩ = some (.int .i64 0) := (hr).cell 1
                  have fca1 := (hr).frozen 1
                  have lca := (hr).lt
                  go_wp2_with fail
                  ((with_reducible refine (HW2.out _).mono ?_); rintro e w' ⟨⟨k2, rfl, hk2⟩, hbw⟩)
                  obtain ⟨m2, rfl⟩ := grow_mk hbw
                  clear hbw
                  obtain rfl := hk2 (by trivial)
                  clear hk2
                  have hv := Blk.new wa 23 #[.int .i64 (N : Int), .int .i64 1]
                  replace hr := hr.old (.cells #[.int .i64 (N : Int), .int .i64 1] 23)
                  replace hb := below_alloc_self hb (.cells #[.int .i64 (N : Int), .int .i64 1] 23)
                  have hne : w.heap.size ≠ wa.heap.size := Nat.ne_of_lt lca
                  have hlt := lca
                  replace hv := hv.grow m2
                  replace hr := hr.grow m2
                  replace hb := below_grow hb m2
                  clear ca0 ca1 fca0 fca1 lca
                  generalize wa.heap.size = g at *
                  generalize grow _ m2 = wb at *
                  have cr0 : wb.cell? ⟨w.heap.size, 0, none⟩ = some (.int .i64 0) := (hr).cell 0
                  have fcr0 := (hr).frozen 0
                  have cr1 : wb.cell? ⟨w.heap.size, 1, none⟩ = some (.int .i64 0) := (hr).cell 1
                  have fcr1 := (hr).frozen 1
                  have lcr := (hr).lt
                  have cv0 : wb.cell? ⟨g, 0, none⟩ = some (.int .i64 (N : Int)) := (hv).cell 0
                  have fcv0 := (hv).frozen 0
                  have cv1 : wb.cell? ⟨g, 1, none⟩ = some (.int .i64 1) := (hv).cell 1
                  have fcv1 := (hv).frozen 1
                  have lcv := (hv).lt
                  go_wp2_with fail
                  ((with_reducible refine (HS.out _).mono ?_); rintro e w' ⟨rfl, hbw⟩)
                  obtain ⟨m3, rfl⟩ := grow_mk hbw
                  clear hbw
                  have hv3 : Blk (wb.setCell ⟨g, 1, none⟩ (.int .i64 (N2 : Int))) g 23 #[.int .i64 (N : Int), .int .i64 (N2 : Int)] := (hv.put 1 _).to rfl
                  have hr3 : Blk (wb.setCell ⟨g, 1, none⟩ (.int .i64 (N2 : Int))) w.heap.size 23 #[.int .i64 0, .int .i64 0] := hr.far (p := ⟨g, 1, none⟩) hne _
                  have hb3 : Below w.heap.size w (wb.setCell ⟨g, 1, none⟩ (.int .i64 (N2 : Int))) := hb.setCell (Nat.le_of_lt hlt) _
                  clear cr0 cr1 fcr0 fcr1 lcr cv0 cv1 fcv0 fcv1 lcv hv hr hb
                  have hv := hv3.grow m3
                  have hr := hr3.grow m3
                  have hb := below_grow hb3 m3
                  clear hv3 hr3 hb3
                  generalize grow _ m3 = wc at *
                  have cr0 : wc.cell? ⟨w.heap.size, 0, none⟩ = some (.int .i64 0) := (hr).cell 0
                  have fcr0 := (hr).frozen 0
                  have cr1 : wc.cell? ⟨w.heap.size, 1, none⟩ = some (.int .i64 0) := (hr).cell 1
                  have fcr1 := (hr).frozen 1
                  have lcr := (hr).lt
                  have cv0 : wc.cell? ⟨g, 0, none⟩ = some (.int .i64 (N : Int)) := (hv).cell 0
                  have fcv0 := (hv).frozen 0
                  have cv1 : wc.cell? ⟨g, 1, none⟩ = some (.int .i64 (N2 : Int)) := (hv).cell 1
                  have fcv1 := (hv).frozen 1
                  have lcv := (hv).lt
                  go_wp2_with fail
                  exact bodyPost_ret (v := .tuple #[.agg #[.int .i64 0, .int .i64 0], .int .i64 3]) (by simp [results, Tryd.results16, go_sem, cr0, cr1, lcr, cv0, cv1, lcv]) rfl ⟨(by rw [HF.out]; rfl), (by repeat (first | with_reducible exact hb | (with_reducible refine Below.setCell ?_ ?hq _; case hq => first | (simp; done) | (simp; omega)) | with_reducible refine below_alloc_self ?_ _ | with_reducible refine below_grow ?_ _))⟩
                | true =>
                  rw [hsb] at hs1 HF0
                  obtain ⟨q, hq⟩ : ∃ q, (TX == l) = q := ⟨_, rfl⟩
                  rw [hq] at HF0
                  have HF := Lib.hid HF0
                  have HS := Lib.hid hs1
                  have HT := Lib.hid ht1
                  clear HF0 hs1 ht1 hsb h64 hPR hneg hw hv
                  cases q with
                  | false =>
                    go_enter Tryd.func16, Tryd.ntmps16
                    go_wp2_with fail
                    ((with_reducible refine (HC.out _).mono ?_); rintro e w' ⟨rfl, rfl⟩)
                    go_wp2_with fail
                    ((with_reducible refine (HW.out _).mono ?_); rintro e w' ⟨⟨k, rfl, hk⟩, hbw⟩)
                    obtain ⟨m1, rfl⟩ := grow_mk hbw
                    clear hbw
                    obtain rfl := hk (by trivial)
                    clear hk
                    have hb : Below w.heap.size w (w.alloc (.cells #[.int .i64 0, .int .i64 0] 23)) := below_box _ _
                    have hr : Blk (w.alloc (.cells #[.int .i64 0, .int .i64 0] 23)) w.heap.size 23 #[.int .i64 0, .int .i64 0] := Blk.new _ _ _
                    replace hb := below_grow hb m1
                    replace hr := hr.grow m1
                    generalize grow _ m1 = wa at *
                    have ca0 : wa.cell? ⟨w.heap.size, 0, none⟩ = some (.int .i64 0) := (hr).cell 0
                    have fca0 := (hr).frozen 0
                    have ca1 : wa.cell? ⟨w.heap.size, 1, none⟩ = some (.int .i64 0) := (hr).cell 1
                    have fca1 := (hr).frozen 1
                    have lca := (hr).lt
                    go_wp2_with fail
                    ((with_reducible refine (HW2.out _).mono ?_); rintro e w' ⟨⟨k2, rfl, hk2⟩, hbw⟩)
                    obtain ⟨m2, rfl⟩ := grow_mk hbw
                    clear hbw
                    obtain rfl := hk2 (by trivial)
                    clear hk2
                    have hv := Blk.new wa 23 #[.int .i64 (N : Int), .int .i64 1]
                    replace hr := hr.old (.cells #[.int .i64 (N : Int), .int .i64 1] 23)
                    replace hb := below_alloc_self hb (.cells #[.int .i64 (N : Int), .int .i64 1] 23)
                    have hne : w.heap.size ≠ wa.heap.size := Nat.ne_of_lt lca
                    have hlt := lca
                    replace hv := hv.grow m2
                    replace hr := hr.grow m2
                    replace hb := below_grow hb m2
                    clear ca0 ca1 fca0 fca1 lca
                    generalize wa.heap.size = g at *
                    generalize grow _ m2 = wb at *
                    have cr0 : wb.cell? ⟨w.heap.size, 0, none⟩ = some (.int .i64 0) := (hr).cell 0
                    have fcr0 := (hr).frozen 0
                    have cr1 : wb.cell? ⟨w.heap.size, 1, none⟩ = some (.int .i64 0) := (hr).cell 1
                    have fcr1 := (hr).frozen 1
                    have lcr := (hr).lt
                    have cv0 : wb.cell? ⟨g, 0, none⟩ = some (.int .i64 (N : Int)) := (hv).cell 0
                    have fcv0 := (hv).frozen 0
                    have cv1 : wb.cell? ⟨g, 1, none⟩ = some (.int .i64 1) := (hv).cell 1
                    have fcv1 := (hv).frozen 1
                    have lcv := (hv).lt
                    go_wp2_with fail
                    ((with_reducible refine (HS.out _).mono ?_); rintro e w' ⟨rfl, hbw⟩)
                    obtain ⟨m3, rfl⟩ := grow_mk hbw
                    clear hbw
                    have hv3 : Blk (wb.setCell ⟨g, 1, none⟩ (.int .i64 (N2 : Int))) g 23 #[.int .i64 (N : Int), .int .i64 (N2 : Int)] := (hv.put 1 _).to rfl
                    have hr3 : Blk (wb.setCell ⟨g, 1, none⟩ (.int .i64 (N2 : Int))) w.heap.size 23 #[.int .i64 0, .int .i64 0] := hr.far (p := ⟨g, 1, none⟩) hne _
                    have hb3 : Below w.heap.size w (wb.setCell ⟨g, 1, none⟩ (.int .i64 (N2 : Int))) := hb.setCell (Nat.le_of_lt hlt) _
                    clear cr0 cr1 fcr0 fcr1 lcr cv0 cv1 fcv0 fcv1 lcv hv hr hb
                    have hv := hv3.grow m3
                    have hr := hr3.grow m3
                    have hb := below_grow hb3 m3
                    clear hv3 hr3 hb3
                    generalize grow _ m3 = wc at *
                    have cr0 : wc.cell? ⟨w.heap.size, 0, none⟩ = some (.int .i64 0) := (hr).cell 0
                    have fcr0 := (hr).frozen 0
                    have cr1 : wc.cell? ⟨w.heap.size, 1, none⟩ = some (.int .i64 0) := (hr).cell 1
                    have fcr1 := (hr).frozen 1
                    have lcr := (hr).lt
                    have cv0 : wc.cell? ⟨g, 0, none⟩ = some (.int .i64 (N : Int)) := (hv).cell 0
                    have fcv0 := (hv).frozen 0
                    have cv1 : wc.cell? ⟨g, 1, none⟩ = some (.int .i64 (N2 : Int)) := (hv).cell 1
                    have fcv1 := (hv).frozen 1
                    have lcv := (hv).lt
                    go_wp2_with fail
                    ((with_reducible refine (HT.out _).mono ?_); rintro e w' ⟨rfl, hbw⟩)
                    obtain ⟨m4, rfl⟩ := grow_mk hbw
                    clear hbw
                    go_wp2_with fail
                    exact bodyPost_ret (v := .tuple #[.agg #[.int .i64 0, .int .i64 0], .int .i64 3]) (by simp [results, Tryd.results16, go_sem, cr0, cr1, lcr, cv0, cv1, lcv]) rfl ⟨(by rw [HF.out]; rfl), (by repeat (first | with_reducible exact hb | (with_reducible refine Below.setCell ?_ ?hq _; case hq => first | (simp; done) | (simp; omega)) | with_reducible refine below_alloc_self ?_ _ | with_reducible refine below_grow ?_ _))⟩
                  | true =>
                    go_enter Tryd.func16, Tryd.ntmps16
                    go_wp2_with fail
                    ((with_reducible refine (HC.out _).mono ?_); rintro e w' ⟨rfl, rfl⟩)
                    go_wp2_with fail
                    ((with_reducible refine (HW.out _).mono ?_); rintro e w' ⟨⟨k, rfl, hk⟩, hbw⟩)
                    obtain ⟨m1, rfl⟩ := grow_mk hbw
                    clear hbw
                    obtain rfl := hk (by trivial)
                    clear hk
                    have hb : Below w.heap.size w (w.alloc (.cells #[.int .i64 0, .int .i64 0] 23)) := below_box _ _
                    have hr : Blk (w.alloc (.cells #[.int .i64 0, .int .i64 0] 23)) w.heap.size 23 #[.int .i64 0, .int .i64 0] := Blk.new _ _ _
                    replace hb := below_grow hb m1
                    replace hr := hr.grow m1
                    generalize grow _ m1 = wa at *
                    have ca0 : wa.cell? ⟨w.heap.size, 0, none⟩ = some (.int .i64 0) := (hr).cell 0
                    have fca0 := (hr).frozen 0
                    have ca1 : wa.cell? ⟨w.heap.size, 1, none⟩ = some (.int .i64 0) := (hr).cell 1
                    have fca1 := (hr).frozen 1
                    have lca := (hr).lt
                    go_wp2_with fail
                    ((with_reducible refine (HW2.out _).mono ?_); rintro e w' ⟨⟨k2, rfl, hk2⟩, hbw⟩)
                    obtain ⟨m2, rfl⟩ := grow_mk hbw
                    clear hbw
                    obtain rfl := hk2 (by trivial)
                    clear hk2
                    have hv := Blk.new wa 23 #[.int .i64 (N : Int), .int .i64 1]
                    replace hr := hr.old (.cells #[.int .i64 (N : Int), .int .i64 1] 23)
                    replace hb := below_alloc_self hb (.cells #[.int .i64 (N : Int), .int .i64 1] 23)
                    have hne : w.heap.size ≠ wa.heap.size := Nat.ne_of_lt lca
                    have hlt := lca
                    replace hv := hv.grow m2
                    replace hr := hr.grow m2
                    replace hb := below_grow hb m2
                    clear ca0 ca1 fca0 fca1 lca
                    generalize wa.heap.size = g at *
                    generalize grow _ m2 = wb at *
                    have cr0 : wb.cell? ⟨w.heap.size, 0, none⟩ = some (.int .i64 0) := (hr).cell 0
                    have fcr0 := (hr).frozen 0
                    have cr1 : wb.cell? ⟨w.heap.size, 1, none⟩ = some (.int .i64 0) := (hr).cell 1
                    have fcr1 := (hr).frozen 1
                    have lcr := (hr).lt
                    have cv0 : wb.cell? ⟨g, 0, none⟩ = some (.int .i64 (N : Int)) := (hv).cell 0
                    have fcv0 := (hv).frozen 0
                    have cv1 : wb.cell? ⟨g, 1, none⟩ = some (.int .i64 1) := (hv).cell 1
                    have fcv1 := (hv).frozen 1
                    have lcv := (hv).lt
                    go_wp2_with fail
                    ((with_reducible refine (HS.out _).mono ?_); rintro e w' ⟨rfl, hbw⟩)
                    obtain ⟨m3, rfl⟩ := grow_mk hbw
                    clear hbw
                    have hv3 : Blk (wb.setCell ⟨g, 1, none⟩ (.int .i64 (N2 : Int))) g 23 #[.int .i64 (N : Int), .int .i64 (N2 : Int)] := (hv.put 1 _).to rfl
                    have hr3 : Blk (wb.setCell ⟨g, 1, none⟩ (.int .i64 (N2 : Int))) w.heap.size 23 #[.int .i64 0, .int .i64 0] := hr.far (p := ⟨g, 1, none⟩) hne _
                    have hb3 : Below w.heap.size w (wb.setCell ⟨g, 1, none⟩ (.int .i64 (N2 : Int))) := hb.setCell (Nat.le_of_lt hlt) _
                    clear cr0 cr1 fcr0 fcr1 lcr cv0 cv1 fcv0 fcv1 lcv hv hr hb
                    have hv := hv3.grow m3
                    have hr := hr3.grow m3
                    have hb := below_grow hb3 m3
                    clear hv3 hr3 hb3
                    generalize grow _ m3 = wc at *
                    have cr0 : wc.cell? ⟨w.heap.size, 0, none⟩ = some (.int .i64 0) := (hr).cell 0
                    have fcr0 := (hr).frozen 0
                    have cr1 : wc.cell? ⟨w.heap.size, 1, none⟩ = some (.int .i64 0) := (hr).cell 1
                    have fcr1 := (hr).frozen 1
                    have lcr := (hr).lt
                    have cv0 : wc.cell? ⟨g, 0, none⟩ = some (.int .i64 (N : Int)) := (hv).cell 0
                    have fcv0 := (hv).frozen 0
                    have cv1 : wc.cell? ⟨g, 1, none⟩ = some (.int .i64 (N2 : Int)) := (hv).cell 1
                    have fcv1 := (hv).frozen 1
                    have lcv := (hv).lt
                    go_wp2_with fail
                    ((with_reducible refine (HT.out _).mono ?_); rintro e w' ⟨rfl, hbw⟩)
                    obtain ⟨m4, rfl⟩ := grow_mk hbw
                    clear hbw
                    go_wp2_with fail
                    exact bodyPost_ret (v := .tuple #[.agg #[.int .i64 (N : Int), .int .i64 (N2 : Int)], .int .i64 0]) (by simp [results, Tryd.results16, go_sem, cr0, cr1, lcr, cv0, cv1, lcv]) rfl ⟨(by rw [HF.out]; rfl), (by repeat (first | with_reducible exact hb | (with_reducible refine Below.setCell ?_ ?hq _; case hq => first | (simp; done) | (simp; omega)) | with_reducible refine below_alloc_self ?_ _ | with_reducible refine below_grow ?_ _))⟩
        · have ga : ((a.toNat : Int) == 47) = false := by
            rw [beq_eq_false_iff_ne]
            intro h
            exact ha (by rw [← UInt8.toNat_inj]; change a.toNat = 47; omega)
          have hv : denF (N, a :: rest, true) = (1, a :: rest, true) := by simp [denF, ha]
          have HF := Lib.hid (show PR = ((0, 0), false) by rw [← hPR, parseP_at hs hneg hw hv]; simp)
          clear hPR hw hneg hv
          cases neg with
          | true =>
            go_enter Tryd.func16, Tryd.ntmps16
            go_wp2_with fail
            ((with_reducible refine (HC.out _).mono ?_); rintro e w' ⟨rfl, rfl⟩)
            go_wp2_with fail
            ((with_reducible refine (HW.out _).mono ?_); rintro e w' ⟨⟨k, rfl, hk⟩, hbw⟩)
            obtain ⟨m1, rfl⟩ := grow_mk hbw
            clear hbw
            obtain rfl := hk (by trivial)
            clear hk
            have hb : Below w.heap.size w (w.alloc (.cells #[.int .i64 0, .int .i64 0] 23)) := below_box _ _
            have hr : Blk (w.alloc (.cells #[.int .i64 0, .int .i64 0] 23)) w.heap.size 23 #[.int .i64 0, .int .i64 0] := Blk.new _ _ _
            replace hb := below_grow hb m1
            replace hr := hr.grow m1
            generalize grow _ m1 = wa at *
            have ca0 : wa.cell? ⟨w.heap.size, 0, none⟩ = some (.int .i64 0) := (hr).cell 0
            have fca0 := (hr).frozen 0
            have ca1 : wa.cell? ⟨w.heap.size, 1, none⟩ = some (.int .i64 0) := (hr).cell 1
            have fca1 := (hr).frozen 1
            have lca := (hr).lt
            go_wp2_with fail
            exact bodyPost_ret (v := .tuple #[.agg #[.int .i64 0, .int .i64 0], .int .i64 3]) (by simp [results, Tryd.results16, go_sem, ca0, ca1, lca]) rfl ⟨(by rw [HF.out]; rfl), (by repeat (first | with_reducible exact hb | (with_reducible refine Below.setCell ?_ ?hq _; case hq => first | (simp; done) | (simp; omega)) | with_reducible refine below_alloc_self ?_ _ | with_reducible refine below_grow ?_ _))⟩
          | false =>
            go_enter Tryd.func16, Tryd.ntmps16
            go_wp2_with fail
            ((with_reducible refine (HC.out _).mono ?_); rintro e w' ⟨rfl, rfl⟩)
            go_wp2_with fail
            ((with_reducible refine (HW.out _).mono ?_); rintro e w' ⟨⟨k, rfl, hk⟩, hbw⟩)
            obtain ⟨m1, rfl⟩ := grow_mk hbw
            clear hbw
            obtain rfl := hk (by trivial)
            clear hk
            have hb : Below w.heap.size w (w.alloc (.cells #[.int .i64 0, .int .i64 0] 23)) := below_box _ _
            have hr : Blk (w.alloc (.cells #[.int .i64 0, .int .i64 0] 23)) w.heap.size 23 #[.int .i64 0, .int .i64 0] := Blk.new _ _ _
            replace hb := below_grow hb m1
            replace hr := hr.grow m1
            generalize grow _ m1 = wa at *
            have ca0 : wa.cell? ⟨w.heap.size, 0, none⟩ = some (.int .i64 0) := (hr).cell 0
            have fca0 := (hr).frozen 0
            have ca1 : wa.cell? ⟨w.heap.size, 1, none⟩ = some (.int .i64 0) := (hr).cell 1
            have fca1 := (hr).frozen 1
            have lca := (hr).lt
            go_wp2_with fail
            exact bodyPost_ret (v := .tuple #[.agg #[.int .i64 0, .int .i64 0], .int .i64 3]) (by simp [results, Tryd.results16, go_sem, ca0, ca1, lca]) rfl ⟨(by rw [HF.out]; rfl), (by repeat (first | with_reducible exact hb | (with_reducible refine Below.setCell ?_ ?hq _; case hq => first | (simp; done) | (simp; omega)) | with_reducible refine below_alloc_self ?_ _ | with_reducible refine below_grow ?_ _))⟩

end Go.Proofs.YtgjhaanpkfheeaaDoor
