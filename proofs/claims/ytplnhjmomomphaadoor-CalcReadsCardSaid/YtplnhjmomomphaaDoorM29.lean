/- Of my texts: RefC. -/
import Derived.Test.YtplnhjmomomphaaDoorM25
import Derived.Test.YtplnhjmomomphaaDoorM28
namespace Go.Proofs.YtplnhjmomomphaaDoor
set_option linter.unusedVariables false
set_option linter.unusedSimpArgs false
open Go.RowKit

set_option maxRecDepth 20000 in
set_option maxHeartbeats 2000000 in
theorem rone_step (h : Nat) (hW : RSumAt h) : ROneAt (h + 1) := by
  intro v w hv
  obtain ⟨t, oa, b, o, cap, kids⟩ := v
  obtain ⟨tk, tt, ⟨tn, td⟩, ti, tid⟩ := t
  have h64 := hv.1
  have hks := hv.kids
  have hkl := hks.small
  have hcl := hks.sl.le
  have hcm := hks.sl.max
  unfold maxLen at hcm
  have htl : tt.length ≤ 9223372036854775807 := h64.2.2
  have hi64 : Is64 (tn, td) := h64.2.1
  rw [Vl.c_mk, exF]
  obtain ⟨XL, hXL⟩ : ∃ XL, kids.map Vl.c = XL := ⟨_, rfl⟩
  obtain ⟨N, hN⟩ : ∃ N, kids.length = N := ⟨_, rfl⟩
  obtain ⟨W, hWd⟩ : ∃ W, sumR (opF sumR h) = W := ⟨_, rfl⟩
  rw [hXL, hWd]
  have hvv : vv (Vl.mk ⟨tk, tt, (tn, td), ti, tid⟩ oa b o cap kids) = .agg #[.int .i64 tk, .string ⟨tt.toArray⟩, .int .i64 tn, .int .i64 td, .bool ti, .bool tid, .slice oa N cap] := by rw [← hN]; rfl
  rw [hvv]
  rw [hN] at hkl hcl
  obtain ⟨Y, hY⟩ : ∃ Y, exprF W ⟨tk, tt, (tn, td), ti, tid⟩ XL = Y := ⟨_, rfl⟩
  rw [hY]
  have HY := Lib.hid hY
  have HK := Lib.hid (And.intro hN (And.intro hXL hWd))
  have HI := Lib.hid hi64
  have HT := Lib.hid htl
  have HKS := Lib.hid hks
  clear hY hN hXL hWd hvv hi64 htl hks hv h64
  go_enter Tryd.func28, Tryd.ntmps28
  go_upto_region 2 with fail
  have hb1 := below_box w (.cells #[.int .i64 tk, .string ⟨tt.toArray⟩, .int .i64 tn, .int .i64 td, .bool ti, .bool tid, .slice oa N cap] 53)
  have hb2 := (hb1.alloc (by simp) (.cells #[.int .i64 0, .int .i64 0, .int .i64 0, .int .i64 0, .slice none 0 0] 27)).alloc (by simp; omega) (.cells #[.int .i64 tk, .string ⟨tt.toArray⟩, .int .i64 tn, .int .i64 td, .bool ti, .bool tid] 51)
  have B1 : Blk (((w.alloc (.cells #[.int .i64 tk, .string ⟨tt.toArray⟩, .int .i64 tn, .int .i64 td, .bool ti, .bool tid, .slice oa N cap] 53)).alloc (.cells #[.int .i64 0, .int .i64 0, .int .i64 0, .int .i64 0, .slice none 0 0] 27)).alloc (.cells #[.int .i64 tk, .string ⟨tt.toArray⟩, .int .i64 tn, .int .i64 td, .bool ti, .bool tid] 51)) w.heap.size 53 #[.int .i64 tk, .string ⟨tt.toArray⟩, .int .i64 tn, .int .i64 td, .bool ti, .bool tid, .slice oa N cap] := ((Blk.new w 53 #[.int .i64 tk, .string ⟨tt.toArray⟩, .int .i64 tn, .int .i64 td, .bool ti, .bool tid, .slice oa N cap]).old _).old _
  have B2 : Blk (((w.alloc (.cells #[.int .i64 tk, .string ⟨tt.toArray⟩, .int .i64 tn, .int .i64 td, .bool ti, .bool tid, .slice oa N cap] 53)).alloc (.cells #[.int .i64 0, .int .i64 0, .int .i64 0, .int .i64 0, .slice none 0 0] 27)).alloc (.cells #[.int .i64 tk, .string ⟨tt.toArray⟩, .int .i64 tn, .int .i64 td, .bool ti, .bool tid] 51)) (w.heap.size + 1) 27 #[.int .i64 0, .int .i64 0, .int .i64 0, .int .i64 0, .slice none 0 0] := by
    have h := (Blk.new (w.alloc (.cells #[.int .i64 tk, .string ⟨tt.toArray⟩, .int .i64 tn, .int .i64 td, .bool ti, .bool tid, .slice oa N cap] 53)) 27 #[.int .i64 0, .int .i64 0, .int .i64 0, .int .i64 0, .slice none 0 0]).old (.cells #[.int .i64 tk, .string ⟨tt.toArray⟩, .int .i64 tn, .int .i64 td, .bool ti, .bool tid] 51)
    simpa using h
  have B4 : Blk (((w.alloc (.cells #[.int .i64 tk, .string ⟨tt.toArray⟩, .int .i64 tn, .int .i64 td, .bool ti, .bool tid, .slice oa N cap] 53)).alloc (.cells #[.int .i64 0, .int .i64 0, .int .i64 0, .int .i64 0, .slice none 0 0] 27)).alloc (.cells #[.int .i64 tk, .string ⟨tt.toArray⟩, .int .i64 tn, .int .i64 td, .bool ti, .bool tid] 51)) (w.heap.size + 1 + 1) 51 #[.int .i64 tk, .string ⟨tt.toArray⟩, .int .i64 tn, .int .i64 td, .bool ti, .bool tid] := by
    have h := Blk.new ((w.alloc (.cells #[.int .i64 tk, .string ⟨tt.toArray⟩, .int .i64 tn, .int .i64 td, .bool ti, .bool tid, .slice oa N cap] 53)).alloc (.cells #[.int .i64 0, .int .i64 0, .int .i64 0, .int .i64 0, .slice none 0 0] 27)) 51 #[.int .i64 tk, .string ⟨tt.toArray⟩, .int .i64 tn, .int .i64 td, .bool ti, .bool tid]
    simpa using h
  have HKV := Lib.hid (HKS.out.below hb2)
  have hws : (((w.alloc (.cells #[.int .i64 tk, .string ⟨tt.toArray⟩, .int .i64 tn, .int .i64 td, .bool ti, .bool tid, .slice oa N cap] 53)).alloc (.cells #[.int .i64 0, .int .i64 0, .int .i64 0, .int .i64 0, .slice none 0 0] 27)).alloc (.cells #[.int .i64 tk, .string ⟨tt.toArray⟩, .int .i64 tn, .int .i64 td, .bool ti, .bool tid] 51)).heap.size = w.heap.size + 3 := by simp
  have HB := Lib.hid hb2
  have HWS := Lib.hid hws
  obtain ⟨g1, hg1⟩ : ∃ g1, w.heap.size = g1 := ⟨_, rfl⟩
  obtain ⟨g2, hg2⟩ : ∃ g2, w.heap.size + 1 = g2 := ⟨_, rfl⟩
  rw [hg2] at B2 B4
  obtain ⟨g4, hg4⟩ : ∃ g4, g2 + 1 = g4 := ⟨_, rfl⟩
  have HG := Lib.hid (And.intro hg1 (And.intro hg2 hg4))
  rw [hg4] at B4
  rw [hg1] at B1
  simp only [hg2]
  simp only [hg4]
  simp only [hg1]
  clear hg1 hg2 hg4 hb1 hb2 hws HKS
  generalize World.alloc (World.alloc (World.alloc w _) _) _ = w4 at *
  have ca0 : w4.cell? ⟨g1, 0, none⟩ = some (.int .i64 tk) := (B1).cell 0
  have fca0 := (B1).frozen 0
  have ca1 : w4.cell? ⟨g1, 1, none⟩ = some (.string ⟨tt.toArray⟩) := (B1).cell 1
  have fca1 := (B1).frozen 1
  have ca2 : w4.cell? ⟨g1, 2, none⟩ = some (.int .i64 tn) := (B1).cell 2
  have fca2 := (B1).frozen 2
  have ca3 : w4.cell? ⟨g1, 3, none⟩ = some (.int .i64 td) := (B1).cell 3
  have fca3 := (B1).frozen 3
  have ca4 : w4.cell? ⟨g1, 4, none⟩ = some (.bool ti) := (B1).cell 4
  have fca4 := (B1).frozen 4
  have ca5 : w4.cell? ⟨g1, 5, none⟩ = some (.bool tid) := (B1).cell 5
  have fca5 := (B1).frozen 5
  have ca6 : w4.cell? ⟨g1, 6, none⟩ = some (.slice oa N cap) := (B1).cell 6
  have fca6 := (B1).frozen 6
  have lca := (B1).lt
  have cb0 : w4.cell? ⟨g2, 0, none⟩ = some (.int .i64 0) := (B2).cell 0
  have fcb0 := (B2).frozen 0
  have cb1 : w4.cell? ⟨g2, 1, none⟩ = some (.int .i64 0) := (B2).cell 1
  have fcb1 := (B2).frozen 1
  have cb2 : w4.cell? ⟨g2, 2, none⟩ = some (.int .i64 0) := (B2).cell 2
  have fcb2 := (B2).frozen 2
  have cb3 : w4.cell? ⟨g2, 3, none⟩ = some (.int .i64 0) := (B2).cell 3
  have fcb3 := (B2).frozen 3
  have cb4 : w4.cell? ⟨g2, 4, none⟩ = some (.slice none 0 0) := (B2).cell 4
  have fcb4 := (B2).frozen 4
  have lcb := (B2).lt
  have cc0 : w4.cell? ⟨g4, 0, none⟩ = some (.int .i64 tk) := (B4).cell 0
  have fcc0 := (B4).frozen 0
  have cc1 : w4.cell? ⟨g4, 1, none⟩ = some (.string ⟨tt.toArray⟩) := (B4).cell 1
  have fcc1 := (B4).frozen 1
  have cc2 : w4.cell? ⟨g4, 2, none⟩ = some (.int .i64 tn) := (B4).cell 2
  have fcc2 := (B4).frozen 2
  have cc3 : w4.cell? ⟨g4, 3, none⟩ = some (.int .i64 td) := (B4).cell 3
  have fcc3 := (B4).frozen 3
  have cc4 : w4.cell? ⟨g4, 4, none⟩ = some (.bool ti) := (B4).cell 4
  have fcc4 := (B4).frozen 4
  have cc5 : w4.cell? ⟨g4, 5, none⟩ = some (.bool tid) := (B4).cell 5
  have fcc5 := (B4).frozen 5
  have lcc := (B4).lt
  have HB1 := Lib.hid B1
  have HB2 := Lib.hid B2
  have HB4 := Lib.hid B4
  have HFIN := Lib.hid (show ∀ (v : Value) (ok : Bool) (w6 w7 : World), ok = Y.isSome → isE5 v → (∀ E, Y = some E → isEx (· < w4.heap.size) E v w6) → Below w4.heap.size w4 w6 → w6.grownBy w7 (some g2) → retE (· < w.heap.size) Y (.returned (.tuple #[v, .bool ok])) w7 ∧ Below w.heap.size w w7 from
    fun v ok w6 w7 h1 h2 h3 h4 h5 => ⟨⟨v, ok, rfl, h1, h2, fun E hE => ((h3 E hE).grown h5 (fun k e _ => by injection e with e; omega)).anti fun b hb => Or.inl (by have := HWS.out; omega)⟩,
      below_far (below_far HB.out (grownBy_of_below h4 none) (fun _ e => by cases e)) h5 (fun k e => by injection e with e; have := HG.out; omega)⟩)
  clear B1 B2 B4
  by_cases hk10 : tk = 10
  · have hYk : Y = some (numE (tn, td) 0) := by
      rw [← HY.out, exprF, if_pos hk10]
    subst hk10
    have hnum := clean_any (tn, td) w4 HI.out
    go_wp2_with fail
    ((with_reducible refine hnum.mono ?_); rintro e w6 ⟨rfl, hbb⟩)
    have h26 := HB2.out.below hbb HB2.out.lt
    have HBB := Lib.hid hbb
    have cd0 : w6.cell? ⟨g2, 0, none⟩ = some (.int .i64 0) := (h26).cell 0
    have fcd0 := (h26).frozen 0
    have cd1 : w6.cell? ⟨g2, 1, none⟩ = some (.int .i64 0) := (h26).cell 1
    have fcd1 := (h26).frozen 1
    have cd2 : w6.cell? ⟨g2, 2, none⟩ = some (.int .i64 0) := (h26).cell 2
    have fcd2 := (h26).frozen 2
    have cd3 : w6.cell? ⟨g2, 3, none⟩ = some (.int .i64 0) := (h26).cell 3
    have fcd3 := (h26).frozen 3
    have cd4 : w6.cell? ⟨g2, 4, none⟩ = some (.slice none 0 0) := (h26).cell 4
    have fcd4 := (h26).frozen 4
    have lcd := (h26).lt
    have H26 := Lib.hid h26
    clear h26 hnum hbb
    go_wp2_with fail
    have hputs := (H26.out).put5 (.int .i64 1) (.int .i64 (cleanR (tn, td)).1) (.int .i64 (cleanR (tn, td)).2) (.int .i64 0) (.slice none 0 0)
    refine bodyPost_ret (v := .tuple #[.agg #[.int .i64 1, .int .i64 (cleanR (tn, td)).1, .int .i64 (cleanR (tn, td)).2, .int .i64 0, .slice none 0 0], .bool true]) ?_ rfl ?_
    · refine ret_ex2 Tryd.results28 ?_ ?_ hputs rfl
      all_goals rfl
    · exact HFIN.out _ _ w6 _ (by rw [hYk]; rfl) ⟨_, _, _, _, _, _, _, rfl⟩ (fun E hE => by rw [hYk] at hE; injection hE with hE; subst hE; exact num_ex _ HI.out (i64_small _ (by decide)) w6) HBB.out (grownBy_puts [.int .i64 1, .int .i64 (cleanR (tn, td)).1, .int .i64 (cleanR (tn, td)).2, .int .i64 0, .slice none 0 0] w6 g2 0)
  by_cases hk12 : tk = 12
  · have hYk : Y = if unitF tt = 0 then none else some (numE (tn, td) (unitF tt)) := by
      rw [← HY.out, exprF, if_neg hk10, if_pos hk12]
    subst hk12
    have HU := Lib.hid (fun w => runit_any tt w HT.out)
    have hU7 := unitF_le tt
    generalize unitF tt = U at *
    have HYK := Lib.hid hYk
    have HCL := Lib.hid (fun w => clean_any (tn, td) w HI.out)
    clear hYk
    obtain ⟨bz, hbz⟩ : ∃ bz, decide ((0 : Int) < (U : Int)) = bz := ⟨_, rfl⟩
    have hbz2 : decide (0 < U) = bz := by rw [← hbz, decide_eq_decide]; omega
    go_wp2_with fail
    ((with_reducible refine (HU.out _).mono ?_); rintro e w5 ⟨rfl, hb5⟩)
    have h45 := HB4.out.below hb5 HB4.out.lt
    have cd0 : w5.cell? ⟨g4, 0, none⟩ = some (.int .i64 12) := (h45).cell 0
    have fcd0 := (h45).frozen 0
    have cd1 : w5.cell? ⟨g4, 1, none⟩ = some (.string ⟨tt.toArray⟩) := (h45).cell 1
    have fcd1 := (h45).frozen 1
    have cd2 : w5.cell? ⟨g4, 2, none⟩ = some (.int .i64 tn) := (h45).cell 2
    have fcd2 := (h45).frozen 2
    have cd3 : w5.cell? ⟨g4, 3, none⟩ = some (.int .i64 td) := (h45).cell 3
    have fcd3 := (h45).frozen 3
    have cd4 : w5.cell? ⟨g4, 4, none⟩ = some (.bool ti) := (h45).cell 4
    have fcd4 := (h45).frozen 4
    have cd5 : w5.cell? ⟨g4, 5, none⟩ = some (.bool tid) := (h45).cell 5
    have fcd5 := (h45).frozen 5
    have lcd := (h45).lt
    have HB5 := Lib.hid hb5
    clear hb5 h45
    go_wp2_with fail
    ((with_reducible refine (HCL.out _).mono ?_); rintro e w7 ⟨rfl, hb7⟩)
    have HB7 := Lib.hid (below_far HB5.out (grownBy_of_below hb7 none) (fun _ e => by cases e))
    have h27 := HB2.out.below HB7.out HB2.out.lt
    have ce0 : w7.cell? ⟨g2, 0, none⟩ = some (.int .i64 0) := (h27).cell 0
    have fce0 := (h27).frozen 0
    have ce1 : w7.cell? ⟨g2, 1, none⟩ = some (.int .i64 0) := (h27).cell 1
    have fce1 := (h27).frozen 1
    have ce2 : w7.cell? ⟨g2, 2, none⟩ = some (.int .i64 0) := (h27).cell 2
    have fce2 := (h27).frozen 2
    have ce3 : w7.cell? ⟨g2, 3, none⟩ = some (.int .i64 0) := (h27).cell 3
    have fce3 := (h27).frozen 3
    have ce4 : w7.cell? ⟨g2, 4, none⟩ = some (.slice none 0 0) := (h27).cell 4
    have fce4 := (h27).frozen 4
    have lce := (h27).lt
    have H27 := Lib.hid h27
    clear hb7 h27
    have hok : bz = Y.isSome := by
      rw [HYK.out, ← hbz2]
      by_cases hu : U = 0
      · subst hu; rfl
      · rw [if_neg hu, decide_eq_true (by omega)]
        rfl
    have HOK := Lib.hid hok
    clear hok
    have hEE : ∀ E, Y = some E → numE (tn, td) (U : Int) = E := fun E hE => by
      rw [HYK.out] at hE
      by_cases hu : U = 0
      · rw [if_pos hu] at hE; cases hE
      · rw [if_neg hu] at hE; exact Option.some.inj hE
    go_wp2_with fail
    have hputs := (H27.out).put5 (.int .i64 1) (.int .i64 (cleanR (tn, td)).1) (.int .i64 (cleanR (tn, td)).2) (.int .i64 (U : Int)) (.slice none 0 0)
    refine bodyPost_ret (v := .tuple #[.agg #[.int .i64 1, .int .i64 (cleanR (tn, td)).1, .int .i64 (cleanR (tn, td)).2, .int .i64 (U : Int), .slice none 0 0], .bool bz]) ?_ rfl ?_
    · refine ret_ex2 Tryd.results28 ?_ ?_ hputs rfl
      all_goals rfl
    · exact HFIN.out _ _ w7 _ HOK.out ⟨_, _, _, _, _, _, _, rfl⟩ (fun E hE => by rw [← hEE E hE]; exact num_ex _ HI.out (i64_small _ (by omega)) w7) HB7.out (grownBy_puts [.int .i64 1, .int .i64 (cleanR (tn, td)).1, .int .i64 (cleanR (tn, td)).2, .int .i64 (U : Int), .slice none 0 0] w7 g2 0)
  obtain ⟨L, hLd⟩ : ∃ L, lowS tt = L := ⟨_, rfl⟩
  have his := fun (s : List UInt8) (hs : s.length ≤ 9223372036854775807) (w : World) => r11is_any tk tn td 2 tt s ti tid oa N cap w HT.out hs
  have hq : ∀ (s c : List UInt8), c = lowS s → (tk == 2 && likeS tt s) = decide (tk = 2 ∧ L = c) := fun s c e => by
    unfold likeS
    rw [e, hLd, Bool.eq_iff_iff]
    simp
  obtain ⟨c1, hc1⟩ : ∃ c, decide (tk = 2 ∧ L = calcS) = c := ⟨_, rfl⟩
  obtain ⟨c2, hc2⟩ : ∃ c, decide (tk = 2 ∧ L = minS) = c := ⟨_, rfl⟩
  obtain ⟨c3, hc3⟩ : ∃ c, decide (tk = 2 ∧ L = maxS) = c := ⟨_, rfl⟩
  obtain ⟨c4, hc4⟩ : ∃ c, decide (tk = 2 ∧ L = clampS) = c := ⟨_, rfl⟩
  have HC1 := Lib.hid (fun w => by have h := his [99, 97, 108, 99] (by simp) w; rw [hq _ calcS (by decide), hc1] at h; exact h)
  have HC2 := Lib.hid (fun w => by have h := his [109, 105, 110] (by simp) w; rw [hq _ minS (by decide), hc2] at h; exact h)
  have HC3 := Lib.hid (fun w => by have h := his [109, 97, 120] (by simp) w; rw [hq _ maxS (by decide), hc3] at h; exact h)
  have HC4 := Lib.hid (fun w => by have h := his [99, 108, 97, 109, 112] (by simp) w; rw [hq _ clampS (by decide), hc4] at h; exact h)
  have HCD := Lib.hid (And.intro hc1 (And.intro hc2 (And.intro hc3 hc4)))
  have HLD := Lib.hid hLd
  have HBw4 := Lib.hid (Below.refl w4.heap.size w4)
  have q10 : (tk == (10 : Int)) = false := by simpa using hk10
  have q12 : (tk == (12 : Int)) = false := by simpa using hk12
  clear his hq hLd hc1 hc2 hc3 hc4
  go_wp2_with fail
  ((with_reducible refine (HC1.out _).mono ?_); rintro e w5 ⟨rfl, hb5⟩)
  have HBw5 := Lib.hid (below_far HBw4.out (grownBy_of_below hb5 none) (fun _ e => by cases e))
  have h15 := HB1.out.below HBw5.out HB1.out.lt
  have cw50 : w5.cell? ⟨g1, 0, none⟩ = some (.int .i64 tk) := (h15).cell 0
  have fcw50 := (h15).frozen 0
  have cw51 : w5.cell? ⟨g1, 1, none⟩ = some (.string ⟨tt.toArray⟩) := (h15).cell 1
  have fcw51 := (h15).frozen 1
  have cw52 : w5.cell? ⟨g1, 2, none⟩ = some (.int .i64 tn) := (h15).cell 2
  have fcw52 := (h15).frozen 2
  have cw53 : w5.cell? ⟨g1, 3, none⟩ = some (.int .i64 td) := (h15).cell 3
  have fcw53 := (h15).frozen 3
  have cw54 : w5.cell? ⟨g1, 4, none⟩ = some (.bool ti) := (h15).cell 4
  have fcw54 := (h15).frozen 4
  have cw55 : w5.cell? ⟨g1, 5, none⟩ = some (.bool tid) := (h15).cell 5
  have fcw55 := (h15).frozen 5
  have cw56 : w5.cell? ⟨g1, 6, none⟩ = some (.slice oa N cap) := (h15).cell 6
  have fcw56 := (h15).frozen 6
  have lcw5 := (h15).lt
  clear hb5 h15
  cases c1 with
  | true =>
    have hk2 : tk = 2 ∧ L = calcS := by simpa using HCD.out.1
    have hYk : W XL = Y := by rw [← HY.out, exprF, if_neg hk10, if_neg hk12, if_pos hk2.1, if_pos (by rw [HLD.out]; exact hk2.2)]
    have hwc := hW kids oa cap b o w5 (HKV.out.below HBw5.out)
    rw [HK.out.2.2, HK.out.2.1, HK.out.1, hYk] at hwc
    have HC := Lib.hid hwc
    clear hwc hYk hk2
    go_wp2_with fail
    ((with_reducible refine HC.out.mono ?_); rintro e w6 ⟨⟨v, ok, rfl, hok, h5, hE⟩, hbb⟩)
    obtain ⟨vk, vn, vd, vu, voa, vL, vc, rfl⟩ := h5
    have HB6 := Lib.hid (below_far HBw5.out (grownBy_of_below hbb none) (fun _ e => by cases e))
    have h26 := HB2.out.below HB6.out HB2.out.lt
    have cf0 : w6.cell? ⟨g2, 0, none⟩ = some (.int .i64 0) := (h26).cell 0
    have fcf0 := (h26).frozen 0
    have cf1 : w6.cell? ⟨g2, 1, none⟩ = some (.int .i64 0) := (h26).cell 1
    have fcf1 := (h26).frozen 1
    have cf2 : w6.cell? ⟨g2, 2, none⟩ = some (.int .i64 0) := (h26).cell 2
    have fcf2 := (h26).frozen 2
    have cf3 : w6.cell? ⟨g2, 3, none⟩ = some (.int .i64 0) := (h26).cell 3
    have fcf3 := (h26).frozen 3
    have cf4 : w6.cell? ⟨g2, 4, none⟩ = some (.slice none 0 0) := (h26).cell 4
    have fcf4 := (h26).frozen 4
    have lcf := (h26).lt
    have hw45 := HBw5.out.size
    have HE := Lib.hid (And.intro hok hE)
    have H26 := Lib.hid h26
    clear h26 hok hE hbb
    go_wp2_with fail
    have hputs := (H26.out).put5 (.int .i64 vk) (.int .i64 vn) (.int .i64 vd) (.int .i64 vu) (.slice voa vL vc)
    refine bodyPost_ret (v := .tuple #[.agg #[.int .i64 vk, .int .i64 vn, .int .i64 vd, .int .i64 vu, .slice voa vL vc], .bool ok]) ?_ rfl ?_
    · refine ret_ex2 Tryd.results28 ?_ ?_ hputs rfl
      all_goals rfl
    · exact HFIN.out _ _ w6 _ HE.out.1 ⟨_, _, _, _, _, _, _, rfl⟩ (fun E hE => (HE.out.2 E hE).anti fun b hb => Or.inl (show b < w5.heap.size by have hb : b < w4.heap.size := hb; omega)) HB6.out (grownBy_puts [.int .i64 vk, .int .i64 vn, .int .i64 vd, .int .i64 vu, .slice voa vL vc] w6 g2 0)
  | false =>
    go_upto_block 1 with fail
    go_cut [6] from 44 to 52 (fun s wx => ∃ k : Int, s = .int .i64 k ∧ Hid (k = 6 ∨ k = 7 ∨ k = 8) ∧ Hid (tk = 2 ∧ kindS L = k ∧ L ≠ calcS) ∧ Hid (Below w4.heap.size w4 wx))
    case first =>
      go_wp2_with fail
      ((with_reducible refine (HC2.out _).mono ?_); rintro e w6 ⟨rfl, hb5⟩)
      have HBw6 := Lib.hid (below_far HBw5.out (grownBy_of_below hb5 none) (fun _ e => by cases e))
      have h15 := HB1.out.below HBw6.out HB1.out.lt
      have cw60 : w6.cell? ⟨g1, 0, none⟩ = some (.int .i64 tk) := (h15).cell 0
      have fcw60 := (h15).frozen 0
      have cw61 : w6.cell? ⟨g1, 1, none⟩ = some (.string ⟨tt.toArray⟩) := (h15).cell 1
      have fcw61 := (h15).frozen 1
      have cw62 : w6.cell? ⟨g1, 2, none⟩ = some (.int .i64 tn) := (h15).cell 2
      have fcw62 := (h15).frozen 2
      have cw63 : w6.cell? ⟨g1, 3, none⟩ = some (.int .i64 td) := (h15).cell 3
      have fcw63 := (h15).frozen 3
      have cw64 : w6.cell? ⟨g1, 4, none⟩ = some (.bool ti) := (h15).cell 4
      have fcw64 := (h15).frozen 4
      have cw65 : w6.cell? ⟨g1, 5, none⟩ = some (.bool tid) := (h15).cell 5
      have fcw65 := (h15).frozen 5
      have cw66 : w6.cell? ⟨g1, 6, none⟩ = some (.slice oa N cap) := (h15).cell 6
      have fcw66 := (h15).frozen 6
      have lcw6 := (h15).lt
      clear hb5 h15
      cases c2 with
      | true =>
        go_wp2_with fail
        go_meet
        exact ⟨6, rfl, Lib.hid (by omega), Lib.hid (by have h := HCD.out.2.1; rw [decide_eq_true_eq] at h; exact ⟨h.1, by rw [h.2]; decide, by rw [h.2]; decide⟩), HBw6⟩
      | false =>
        go_wp2_with fail
        ((with_reducible refine (HC3.out _).mono ?_); rintro e w7 ⟨rfl, hb5⟩)
        have HBw7 := Lib.hid (below_far HBw6.out (grownBy_of_below hb5 none) (fun _ e => by cases e))
        have h15 := HB1.out.below HBw7.out HB1.out.lt
        have cw70 : w7.cell? ⟨g1, 0, none⟩ = some (.int .i64 tk) := (h15).cell 0
        have fcw70 := (h15).frozen 0
        have cw71 : w7.cell? ⟨g1, 1, none⟩ = some (.string ⟨tt.toArray⟩) := (h15).cell 1
        have fcw71 := (h15).frozen 1
        have cw72 : w7.cell? ⟨g1, 2, none⟩ = some (.int .i64 tn) := (h15).cell 2
        have fcw72 := (h15).frozen 2
        have cw73 : w7.cell? ⟨g1, 3, none⟩ = some (.int .i64 td) := (h15).cell 3
        have fcw73 := (h15).frozen 3
        have cw74 : w7.cell? ⟨g1, 4, none⟩ = some (.bool ti) := (h15).cell 4
        have fcw74 := (h15).frozen 4
        have cw75 : w7.cell? ⟨g1, 5, none⟩ = some (.bool tid) := (h15).cell 5
        have fcw75 := (h15).frozen 5
        have cw76 : w7.cell? ⟨g1, 6, none⟩ = some (.slice oa N cap) := (h15).cell 6
        have fcw76 := (h15).frozen 6
        have lcw7 := (h15).lt
        clear hb5 h15
        cases c3 with
        | true =>
          go_wp2_with fail
          go_meet
          exact ⟨7, rfl, Lib.hid (by omega), Lib.hid (by have h := HCD.out.2.2.1; rw [decide_eq_true_eq] at h; exact ⟨h.1, by rw [h.2]; decide, by rw [h.2]; decide⟩), HBw7⟩
        | false =>
          go_wp2_with fail
          ((with_reducible refine (HC4.out _).mono ?_); rintro e w8 ⟨rfl, hb5⟩)
          have HBw8 := Lib.hid (below_far HBw7.out (grownBy_of_below hb5 none) (fun _ e => by cases e))
          have h15 := HB1.out.below HBw8.out HB1.out.lt
          have cw80 : w8.cell? ⟨g1, 0, none⟩ = some (.int .i64 tk) := (h15).cell 0
          have fcw80 := (h15).frozen 0
          have cw81 : w8.cell? ⟨g1, 1, none⟩ = some (.string ⟨tt.toArray⟩) := (h15).cell 1
          have fcw81 := (h15).frozen 1
          have cw82 : w8.cell? ⟨g1, 2, none⟩ = some (.int .i64 tn) := (h15).cell 2
          have fcw82 := (h15).frozen 2
          have cw83 : w8.cell? ⟨g1, 3, none⟩ = some (.int .i64 td) := (h15).cell 3
          have fcw83 := (h15).frozen 3
          have cw84 : w8.cell? ⟨g1, 4, none⟩ = some (.bool ti) := (h15).cell 4
          have fcw84 := (h15).frozen 4
          have cw85 : w8.cell? ⟨g1, 5, none⟩ = some (.bool tid) := (h15).cell 5
          have fcw85 := (h15).frozen 5
          have cw86 : w8.cell? ⟨g1, 6, none⟩ = some (.slice oa N cap) := (h15).cell 6
          have fcw86 := (h15).frozen 6
          have lcw8 := (h15).lt
          clear hb5 h15
          cases c4 with
          | true =>
            go_wp2_with fail
            go_meet
            exact ⟨8, rfl, Lib.hid (by omega), Lib.hid (by have h := HCD.out.2.2.2; rw [decide_eq_true_eq] at h; exact ⟨h.1, by rw [h.2]; decide, by rw [h.2]; decide⟩), HBw8⟩
          | false =>
            have h28 := HB2.out.below HBw8.out HB2.out.lt
            have cz0 : w8.cell? ⟨g2, 0, none⟩ = some (.int .i64 0) := (h28).cell 0
            have fcz0 := (h28).frozen 0
            have cz1 : w8.cell? ⟨g2, 1, none⟩ = some (.int .i64 0) := (h28).cell 1
            have fcz1 := (h28).frozen 1
            have cz2 : w8.cell? ⟨g2, 2, none⟩ = some (.int .i64 0) := (h28).cell 2
            have fcz2 := (h28).frozen 2
            have cz3 : w8.cell? ⟨g2, 3, none⟩ = some (.int .i64 0) := (h28).cell 3
            have fcz3 := (h28).frozen 3
            have cz4 : w8.cell? ⟨g2, 4, none⟩ = some (.slice none 0 0) := (h28).cell 4
            have fcz4 := (h28).frozen 4
            have lcz := (h28).lt
            have H28 := Lib.hid h28
            clear h28
            have hYk : Y = none := by
              have h := HCD.out
              simp only [decide_eq_false_iff_not] at h
              rw [← HY.out, exprF, if_neg hk10, if_neg hk12]
              by_cases hk2 : tk = 2
              · rw [if_pos hk2, HLD.out, if_neg (fun e => h.1 ⟨hk2, e⟩), if_pos (by unfold kindS; rw [if_neg (fun e => h.2.1 ⟨hk2, e⟩), if_neg (fun e => h.2.2.1 ⟨hk2, e⟩), if_neg (fun e => h.2.2.2 ⟨hk2, e⟩)])]
              · rw [if_neg hk2]
            go_wp2_with fail
            have hputs := (H28.out).put5 (.int .i64 0) (.int .i64 0) (.int .i64 0) (.int .i64 0) (.slice none 0 0)
            refine bodyPost_ret (v := .tuple #[.agg #[.int .i64 0, .int .i64 0, .int .i64 0, .int .i64 0, .slice none 0 0], .bool false]) ?_ rfl ?_
            · refine ret_ex2 Tryd.results28 ?_ ?_ hputs rfl
              all_goals rfl
            · exact HFIN.out _ _ w8 _ (by first | rfl | (rw [hYk]; rfl)) ⟨_, _, _, _, _, _, _, rfl⟩ (fun E hE => by first | (cases hE; done) | (rw [hYk] at hE; cases hE)) HBw8.out (grownBy_puts [.int .i64 0, .int .i64 0, .int .i64 0, .int .i64 0, .slice none 0 0] w8 g2 0)
    case rest =>
      obtain ⟨k, rfl, hk, hkA, hbc⟩ := hcut
      obtain rfl : tk = 2 := hkA.out.1
      have hkS := Lib.hid hkA.out.2.1
      have hnc := Lib.hid hkA.out.2.2
      have HB5 := hbc
      have H15 := Lib.hid (HB1.out.below hbc.out HB1.out.lt)
      have H25 := Lib.hid (HB2.out.below hbc.out HB2.out.lt)
      have HKV5 := Lib.hid (HKV.out.safe.below hbc.out)
      have hw45 := hbc.out.size
      have HYK := Lib.hid (show Y = if L = calcS then W XL else if kindS L = 0 then none else match mapO W (splitV XL) with
        | none => none
        | some es => if kindS L = 8 ∧ es.length ≠ 3 then none else some (.mk (kindS L) 0 0 0 es) from by
        rw [← HY.out, exprF, if_neg (show ¬ (2 : Int) = 10 by decide), if_neg (show ¬ (2 : Int) = 12 by decide), if_pos rfl, HLD.out]
        rfl)
      clear hkA hbc HCD HC1 HC2 HC3 HC4
      obtain ⟨P, hP⟩ : ∃ P, splitV XL = P := ⟨_, rfl⟩
      have hY2 : Y = pieceF W k [] P := by
        rw [HYK.out, if_neg hnc.out, if_neg (by rw [hkS.out]; have := hk.out; omega), hkS.out, hP]
        rfl
      have HY2 := Lib.hid hY2
      clear hY2
      go_upto_region 18 with fail
      have h26 := H25.out.old (.cells #[.int .i64 k, .int .i64 0, .int .i64 0, .int .i64 0, .slice none 0 0] 27)
      have h16 := H15.out.old (.cells #[.int .i64 k, .int .i64 0, .int .i64 0, .int .i64 0, .slice none 0 0] 27)
      have h66 := Blk.new wc 27 #[.int .i64 k, .int .i64 0, .int .i64 0, .int .i64 0, .slice none 0 0]
      have hb6 := below_far HB5.out (grownBy_of_below (below_box wc (.cells #[.int .i64 k, .int .i64 0, .int .i64 0, .int .i64 0, .slice none 0 0] 27)) none) (fun _ e => by cases e)
      have hsp := split5_safe (A := (w4.heap.size ≤ ·)) h kids oa cap b o _ (HKV5.out.below (below_box wc (.cells #[.int .i64 k, .int .i64 0, .int .i64 0, .int .i64 0, .slice none 0 0] 27)))
      rw [HK.out.2.1, HK.out.1, hP] at hsp
      have HSP := Lib.hid hsp
      have HP := Lib.hid hP
      have H66 := Lib.hid h66
      have H26 := Lib.hid h26
      have HB6 := Lib.hid hb6
      have hw56 : (wc.alloc (.cells #[.int .i64 k, .int .i64 0, .int .i64 0, .int .i64 0, .slice none 0 0] 27)).heap.size = wc.heap.size + 1 := by simp
      have HW56 := Lib.hid hw56
      clear hw56 hsp h66 h26 hb6 HKV5 hP
      obtain ⟨g6, hg6⟩ : ∃ g6, wc.heap.size = g6 := ⟨_, rfl⟩
      have HG6 := Lib.hid hg6
      rw [hg6] at H66 hw45
      simp only [hg6]
      clear hg6
      generalize wc.alloc _ = w6 at *
      have cf0 : w6.cell? ⟨g1, 0, none⟩ = some (.int .i64 2) := (h16).cell 0
      have fcf0 := (h16).frozen 0
      have cf1 : w6.cell? ⟨g1, 1, none⟩ = some (.string ⟨tt.toArray⟩) := (h16).cell 1
      have fcf1 := (h16).frozen 1
      have cf2 : w6.cell? ⟨g1, 2, none⟩ = some (.int .i64 tn) := (h16).cell 2
      have fcf2 := (h16).frozen 2
      have cf3 : w6.cell? ⟨g1, 3, none⟩ = some (.int .i64 td) := (h16).cell 3
      have fcf3 := (h16).frozen 3
      have cf4 : w6.cell? ⟨g1, 4, none⟩ = some (.bool ti) := (h16).cell 4
      have fcf4 := (h16).frozen 4
      have cf5 : w6.cell? ⟨g1, 5, none⟩ = some (.bool tid) := (h16).cell 5
      have fcf5 := (h16).frozen 5
      have cf6 : w6.cell? ⟨g1, 6, none⟩ = some (.slice oa N cap) := (h16).cell 6
      have fcf6 := (h16).frozen 6
      have lcf := (h16).lt
      clear h16
      go_wp2_with fail
      ((with_reducible refine HSP.out.mono ?_); rintro e w7 ⟨⟨pv, rfl, poa, pcap, pb, D, rfl, hDP, hsl, hps⟩, hb67⟩)
      have hM1 : P.length ≤ N + 1 := by
        rw [← HP.out, ← HK.out.1]
        have h := splitG_len XL []
        rw [← HK.out.2.1, List.length_map] at h
        unfold splitV
        rw [← HK.out.2.1]
        omega
      obtain ⟨M, hM⟩ : ∃ M, D.length = M := ⟨_, rfl⟩
      have hMN : M ≤ N + 1 := by omega
      have HSL := Lib.hid hsl
      have HPS := Lib.hid hps
      have HD := Lib.hid (And.intro hM (hDP.symm.trans hM))
      have hcl7 := hsl.here.le
      have hcm7 := hsl.here.max
      unfold maxLen at hcm7
      rw [hM] at hcl7
      simp only [hM]
      have h67 := hb67.size
      have H67 := Lib.hid (H66.out.below hb67 H66.out.lt)
      have H27 := Lib.hid (H26.out.below hb67 H26.out.lt)
      have HB7 := Lib.hid (below_far HB6.out (grownBy_of_below hb67 none) (fun _ e => by cases e))
      have hg67 : g6 < w6.heap.size := H66.out.lt
      have hg24 : g2 < w4.heap.size := HB2.out.lt
      clear hM hsl hps hDP hM1 hb67 HSP H66 H26 HB6 H15 H25
      go_wp2_with fail
      go_loopg [60] M (fun q s60 wr => ∃ (i : Nat) (E : List Ex) (v : Value), s60 = .int .i64 (i : Int) ∧ i ≤ M ∧ Hid (w7.grownBy wr (some g6)) ∧ Hid (wr.ownsRow w7.heap.size 27 5 v E.length (E.flatMap xcells)) ∧ Hid (Blk wr g6 27 #[.int .i64 k, .int .i64 0, .int .i64 0, .int .i64 0, v]) ∧
        Hid (∃ hh, Safe (fun b => b < w7.heap.size ∨ v.ownBlock = some b) wr fun w => ∀ x ∈ E, ExIn w hh x) ∧ Hid (E.length = i) ∧ Hid (Y = pieceF W k (E.map Ex.c) (P.drop i)) ∧ M - i ≤ q)
      case atStart => exact ⟨0, [], .slice none 0 0, rfl, Nat.zero_le _, Lib.hid (grownBy_refl _ _), Lib.hid (World.ownsRow_nil _ _ _ _), H67, Lib.hid ⟨0, fun _ _ _ _ hx => by cases hx⟩, Lib.hid rfl, HY2, by omega⟩
      case round =>
        obtain ⟨i, E, v, rfl, hiM, hg, hO, h6, hS, hE, hY, hq⟩ := hrel
        have h7r := hg.out.size
        have hr2 := Lib.hid (show Blk wr g2 27 #[.int .i64 0, .int .i64 0, .int .i64 0, .int .i64 0, .slice none 0 0] from (hg.out.block g2 H27.out.lt (fun e => by have e := Option.some.inj e; omega)).trans H27.out)
        by_cases hi : i < M
        · have gi : decide ((i : Int) < (M : Int)) = true := by simp; omega
          have ij0 : (0 : Int) ≤ (i : Int) := Int.natCast_nonneg _
          have ijM : (i : Int) < (M : Int) := by omega
          have hil : i < D.length := by rw [HD.out.1]; exact hi
          have hip : i < P.length := by rw [HD.out.2]; exact hi
          obtain ⟨s, hs⟩ : ∃ s, D[i]? = some s := ⟨_, List.getElem?_eq_getElem hil⟩
          obtain ⟨X, hX⟩ : ∃ X, P[i]? = some X := ⟨_, List.getElem?_eq_getElem hip⟩
          have hdrop : P.drop i = X :: P.drop (i + 1) := by
            rw [List.getElem?_eq_getElem hip] at hX
            injection hX with hX
            rw [← hX]
            exact List.drop_eq_getElem_cons hip
          have hv := (HPS.out i s X hs hX).grown hg.out (fun k e _ => by have e := Option.some.inj e; show w4.heap.size ≤ k; omega)
          obtain ⟨oa', cap', b', o', l', rfl, hc', hs'⟩ := hv
          have hslr := (HSL.out.grown hg.out (fun k e _ => by have e := Option.some.inj e; show k < w6.heap.size; omega)).here
          have hcell := hslr.cell i _ hs
          obtain ⟨rfl, hpb⟩ := hslr.lies (by omega)
          rw [Nat.zero_add] at hcell
          have hwc := hW l' oa' cap' b' o' wr hs'.here
          rw [HK.out.2.2, hc'] at hwc
          obtain ⟨N', hN'⟩ : ∃ N', l'.length = N' := ⟨_, rfl⟩
          rw [hN'] at hwc hcell
          obtain ⟨r, hr⟩ : ∃ r, W X = r := ⟨_, rfl⟩
          rw [hr] at hwc
          have HWC := Lib.hid hwc
          have HR := Lib.hid hr
          have HDR := Lib.hid hdrop
          clear hwc hr hdrop hil hip hs hX hc' hs' hslr hN'
          go_wp2_with fail
          ((with_reducible refine HWC.out.mono ?_); rintro e w8 ⟨⟨ev, ok, rfl, hok, h5, hE8⟩, hb8⟩)
          obtain ⟨vk, vn, vd, vu, voa, vL, vc, rfl⟩ := h5
          have HE8 := Lib.hid (And.intro hok hE8)
          have hr8 := hb8.size
          have HG8 := Lib.hid (grownBy_trans hg.out (grownBy_of_below hb8 _))
          have HO8 := Lib.hid (owns_belowW hO.out hb8)
          have H68 := Lib.hid (h6.out.below hb8 h6.out.lt)
          have H28 := Lib.hid (hr2.out.below hb8 hr2.out.lt)
          have HS8 := Lib.hid (show ∃ hh, Safe (fun b => b < w7.heap.size ∨ v.ownBlock = some b) w8 fun w => ∀ x ∈ E, ExIn w hh x from by
            obtain ⟨hh, hs⟩ := hS.out
            exact ⟨hh, hs.below hb8⟩)
          have HV7 := Lib.hid (show ∀ b, v.ownBlock = some b → w7.heap.size ≤ b ∧ b < wr.heap.size from fun b e => hO.out.lt b e)
          clear hok hE8 hb8 hg hO h6 hr2 hS HWC hcell
          go_upto_region 22 with fail
          have hg9 := Lib.hid (grownBy_trans HG8.out (grownBy_of_below (below_box w8 (.cells #[.int .i64 vk, .int .i64 vn, .int .i64 vd, .int .i64 vu, .slice voa vL vc] 27)) _))
          have ho9 := Lib.hid (HO8.out.alloc (.cells #[.int .i64 vk, .int .i64 vn, .int .i64 vd, .int .i64 vu, .slice voa vL vc] 27))
          have h69 := Lib.hid (H68.out.old (.cells #[.int .i64 vk, .int .i64 vn, .int .i64 vd, .int .i64 vu, .slice voa vL vc] 27))
          have h29 := Lib.hid (H28.out.old (.cells #[.int .i64 vk, .int .i64 vn, .int .i64 vd, .int .i64 vu, .slice voa vL vc] 27))
          have h99 := Blk.new w8 27 #[.int .i64 vk, .int .i64 vn, .int .i64 vd, .int .i64 vu, .slice voa vL vc]
          have hs9 := Lib.hid (show ∃ hh, Safe (fun b => b < w7.heap.size ∨ v.ownBlock = some b) (w8.alloc (.cells #[.int .i64 vk, .int .i64 vn, .int .i64 vd, .int .i64 vu, .slice voa vL vc] 27)) fun w => ∀ x ∈ E, ExIn w hh x from by
            obtain ⟨hh, hs⟩ := HS8.out
            exact ⟨hh, hs.alloc _⟩)
          have he9 := Lib.hid (And.intro HE8.out.1 (fun E2 hE2 => (HE8.out.2 E2 hE2).below (below_box w8 (.cells #[.int .i64 vk, .int .i64 vn, .int .i64 vd, .int .i64 vu, .slice voa vL vc] 27))))
          have hw89 : w8.heap.size ≤ (w8.alloc (.cells #[.int .i64 vk, .int .i64 vn, .int .i64 vd, .int .i64 vu, .slice voa vL vc] 27)).heap.size := by simp
          clear HG8 HO8 H68 H28 HS8 HE8
          generalize w8.heap.size = g9 at *
          generalize w8.alloc _ = w9 at *
          have cg0 : w9.cell? ⟨g9, 0, none⟩ = some (.int .i64 vk) := (h99).cell 0
          have fcg0 := (h99).frozen 0
          have cg1 : w9.cell? ⟨g9, 1, none⟩ = some (.int .i64 vn) := (h99).cell 1
          have fcg1 := (h99).frozen 1
          have cg2 : w9.cell? ⟨g9, 2, none⟩ = some (.int .i64 vd) := (h99).cell 2
          have fcg2 := (h99).frozen 2
          have cg3 : w9.cell? ⟨g9, 3, none⟩ = some (.int .i64 vu) := (h99).cell 3
          have fcg3 := (h99).frozen 3
          have cg4 : w9.cell? ⟨g9, 4, none⟩ = some (.slice voa vL vc) := (h99).cell 4
          have fcg4 := (h99).frozen 4
          have lcg := (h99).lt
          have ch0 : w9.cell? ⟨g6, 0, none⟩ = some (.int .i64 k) := (h69.out).cell 0
          have fch0 := (h69.out).frozen 0
          have ch1 : w9.cell? ⟨g6, 1, none⟩ = some (.int .i64 0) := (h69.out).cell 1
          have fch1 := (h69.out).frozen 1
          have ch2 : w9.cell? ⟨g6, 2, none⟩ = some (.int .i64 0) := (h69.out).cell 2
          have fch2 := (h69.out).frozen 2
          have ch3 : w9.cell? ⟨g6, 3, none⟩ = some (.int .i64 0) := (h69.out).cell 3
          have fch3 := (h69.out).frozen 3
          have ch4 : w9.cell? ⟨g6, 4, none⟩ = some (v) := (h69.out).cell 4
          have fch4 := (h69.out).frozen 4
          have lch := (h69.out).lt
          have ci0 : w9.cell? ⟨g2, 0, none⟩ = some (.int .i64 0) := (h29.out).cell 0
          have fci0 := (h29.out).frozen 0
          have ci1 : w9.cell? ⟨g2, 1, none⟩ = some (.int .i64 0) := (h29.out).cell 1
          have fci1 := (h29.out).frozen 1
          have ci2 : w9.cell? ⟨g2, 2, none⟩ = some (.int .i64 0) := (h29.out).cell 2
          have fci2 := (h29.out).frozen 2
          have ci3 : w9.cell? ⟨g2, 3, none⟩ = some (.int .i64 0) := (h29.out).cell 3
          have fci3 := (h29.out).frozen 3
          have ci4 : w9.cell? ⟨g2, 4, none⟩ = some (.slice none 0 0) := (h29.out).cell 4
          have fci4 := (h29.out).frozen 4
          have lci := (h29.out).lt
          clear h99
          cases r with
          | none =>
            obtain rfl : ok = false := he9.out.1
            have hYk : Y = none := by rw [hY.out, HDR.out, piece_none HR.out]
            go_wp2_with fail
            have hputs := (h29.out).put5 (.int .i64 0) (.int .i64 0) (.int .i64 0) (.int .i64 0) (.slice none 0 0)
            refine bodyPost_ret (v := .tuple #[.agg #[.int .i64 0, .int .i64 0, .int .i64 0, .int .i64 0, .slice none 0 0], .bool false]) ?_ rfl ?_
            · refine ret_ex2 Tryd.results28 ?_ ?_ hputs rfl
              all_goals rfl
            · exact HFIN.out _ _ w9 _ (by rw [hYk]; rfl) ⟨_, _, _, _, _, _, _, rfl⟩ (fun E hE => by rw [hYk] at hE; cases hE) (below_far HB7.out hg9.out (fun k e => by have e := Option.some.inj e; omega)) (grownBy_puts [.int .i64 0, .int .i64 0, .int .i64 0, .int .i64 0, .slice none 0 0] w9 g2 0)
          | some E2 =>
            obtain rfl : ok = true := he9.out.1
            obtain ⟨x2, hx2, hxv, hxc, hxs⟩ := he9.out.2 E2 rfl
            have HX2 := Lib.hid (And.intro hxv (And.intro hxc hxs))
            clear hxv hxc hxs he9
            go_upto_region 24 with fail
            have hbs := Lib.hid (show w7.heap.size ≤ w9.heap.size from hg9.out.size)
            have hEi : E.length ≤ i := Nat.le_of_eq hE.out
            go_wp2_with (at_builtin; refine wpList_add elExpr rfl _ _ rfl rfl (ho9.out.alloc _) (by have := hbs.out; simp; omega) (Blk.new w9 _ _) 1 rfl rfl (by simp [Value.oneCell']) (by omega) (by omega) ?_; intro gg cap3 wA hoA hgA hatA hvbA; have HA := Lib.hid (And.intro hoA (And.intro hgA (And.intro hatA hvbA))); have ch4' := (hgA.cell_far (a := ⟨g6, 4, none⟩) (by simp; omega) (fun e => by have := (HV7.out g6 e.symm).1; omega)).trans ((Below.cell (B := w9.heap.size) (below_box w9 _) lch).trans ch4); have fch4' := (hgA.frozen_far (a := ⟨g6, 4, none⟩) (by simp; omega) (fun e => by have := (HV7.out g6 e.symm).1; omega)).trans ((Below.frozen (B := w9.heap.size) (below_box w9 _) lch).trans fch4); clear hoA hgA hatA hvbA)
            go_roundg (M - (i + 1))
            case measure => omega
            case rel =>
              obtain ⟨hoA, hgA, hatA, _⟩ := HA.out
              have hxcl : xcells x2 = [.int .i64 vk, .int .i64 vn, .int .i64 vd, .int .i64 vu, .slice voa vL vc] := by
                have e := HX2.out.1
                unfold xv at e
                injection e with e
                have := congrArg Array.toList e
                simpa using this.symm
              obtain ⟨a1, a2, a3, a4⟩ := row_add (B3 := wr.heap.size) hg9.out (by omega) h69.out HV7.out h7r (by omega) hs9.out (HX2.out.2.2.wide (A' := fun b => b < wr.heap.size ∨ w9.heap.size ≤ b) fun b hb => hb) hoA hxcl (show World.grownBy _ _ v.ownBlock from hgA) (show v.ownBlock = some gg ∨ _ from hatA)
              refine ⟨i + 1, E ++ [x2], _, by go_num, hi, Lib.hid a1, Lib.hid a2, Lib.hid a3, Lib.hid a4, Lib.hid (by rw [List.length_append, hE.out]; rfl), Lib.hid ?_, Nat.le_refl _⟩
              rw [hY.out, HDR.out, piece_some HR.out, List.map_append, List.map_cons, List.map_nil, HX2.out.2.1]
        · have gi : decide ((i : Int) < (M : Int)) = false := by simp; omega
          obtain rfl : i = M := by omega
          have hYe : Y = if k = 8 ∧ (E.map Ex.c).length ≠ 3 then none else some (.mk k 0 0 0 (E.map Ex.c)) := by
            rw [hY.out, List.drop_eq_nil_of_le (by rw [HD.out.2]; exact Nat.le_refl _)]
            unfold pieceF mapO
            simp only [List.append_nil]
          have HYE := Lib.hid hYe
          obtain ⟨voa, vcap, gv, rfl, hsl, hpos⟩ := sl_of_own hO.out
          have hex : isEx (· < w4.heap.size) (.mk k 0 0 0 (E.map Ex.c)) (.agg #[.int .i64 k, .int .i64 0, .int .i64 0, .int .i64 0, .slice voa E.length vcap]) wr := by
            obtain ⟨hh, hs⟩ := hS.out
            refine ⟨.mk k 0 0 0 voa gv 0 vcap E, hh + 1, rfl, Ex.c_mk _ _ _ _ _ _ _ _ _, ExIn.made (i64_small _ (by have := hk.out; omega)) (by unfold Is64; decide) (i64_small _ (by decide)) (by have := hE.out; omega) hsl (fun hp hb => ?_) (hs.anti fun b hb _ => Or.inl ?_)⟩
            · have := hpos hp
              omega
            · have hb : b < w4.heap.size := hb
              omega
          have HXE := Lib.hid hex
          have hEl : (E.map Ex.c).length = E.length := List.length_map _
          have HEL := Lib.hid hEl
          have HELM := Lib.hid hE.out
          obtain ⟨EL, hEL⟩ : ∃ EL, E.length = EL := ⟨_, rfl⟩
          rw [hEL] at h6 HXE HEL HELM
          clear hYe hex hsl hpos hEl hEL hO hS hY
          have ch0 : wr.cell? ⟨g6, 0, none⟩ = some (.int .i64 k) := (h6.out).cell 0
          have fch0 := (h6.out).frozen 0
          have ch1 : wr.cell? ⟨g6, 1, none⟩ = some (.int .i64 0) := (h6.out).cell 1
          have fch1 := (h6.out).frozen 1
          have ch2 : wr.cell? ⟨g6, 2, none⟩ = some (.int .i64 0) := (h6.out).cell 2
          have fch2 := (h6.out).frozen 2
          have ch3 : wr.cell? ⟨g6, 3, none⟩ = some (.int .i64 0) := (h6.out).cell 3
          have fch3 := (h6.out).frozen 3
          have ch4 : wr.cell? ⟨g6, 4, none⟩ = some (.slice voa EL vcap) := (h6.out).cell 4
          have fch4 := (h6.out).frozen 4
          have lch := (h6.out).lt
          have ci0 : wr.cell? ⟨g2, 0, none⟩ = some (.int .i64 0) := (hr2.out).cell 0
          have fci0 := (hr2.out).frozen 0
          have ci1 : wr.cell? ⟨g2, 1, none⟩ = some (.int .i64 0) := (hr2.out).cell 1
          have fci1 := (hr2.out).frozen 1
          have ci2 : wr.cell? ⟨g2, 2, none⟩ = some (.int .i64 0) := (hr2.out).cell 2
          have fci2 := (hr2.out).frozen 2
          have ci3 : wr.cell? ⟨g2, 3, none⟩ = some (.int .i64 0) := (hr2.out).cell 3
          have fci3 := (hr2.out).frozen 3
          have ci4 : wr.cell? ⟨g2, 4, none⟩ = some (.slice none 0 0) := (hr2.out).cell 4
          have fci4 := (hr2.out).frozen 4
          have lci := (hr2.out).lt
          have hn26 : ¬ g6 = g2 := by omega
          have hn62 : ¬ g2 = g6 := by omega
          clear h6
          go_upto_region 26 with fail
          have hk3 := hk.out
          rcases hk3 with rfl | rfl | rfl
          · refine wp_region_held_drew (S := (fun w' => w'.cell? ⟨g6, 0, none⟩ = some (.int .i64 6) ∧ w'.cell? ⟨g6, 1, none⟩ = some (.int .i64 0) ∧ w'.cell? ⟨g6, 2, none⟩ = some (.int .i64 0) ∧ w'.cell? ⟨g6, 3, none⟩ = some (.int .i64 0) ∧ w'.cell? ⟨g6, 4, none⟩ = some (.slice voa EL vcap))) (by kernel_rfl) (by (try dsimp only); go_keep) (fun hHeld => ?_)
            refine wpAnyH_take (i := 0) (v := ?hvv0_1) rfl (by kernel_rfl) (by kernel_rfl) (by kernel_rfl) (fun _ _ _ h => h) (Or.inl ⟨by rfl, ?hhy0_1⟩) (by assumption) ?_
            case hhy0_1 => (intro w hSw; (try dsimp only at hSw); go_simp; try with_reducible rfl)
            change wpAnyH _ _ _ _ _ _ _ (Act.put _ (some 79) _) _
            try simp only [Act.put, List.setIfInBounds_toArray, List.set_cons_zero, List.set_cons_succ]
            refine wpAnyH_take (i := 1) (v := ?hvv1_2) rfl (by kernel_rfl) (by kernel_rfl) (by kernel_rfl) (fun _ _ _ h => h) (Or.inl ⟨by rfl, ?hhy1_2⟩) (by assumption) ?_
            case hhy1_2 => (intro w hSw; (try dsimp only at hSw); go_simp; try with_reducible rfl)
            change wpAnyH _ _ _ _ _ _ _ (Act.put _ (some 80) _) _
            try simp only [Act.put, List.setIfInBounds_toArray, List.set_cons_zero, List.set_cons_succ]
            refine wpAnyH_take (i := 2) (v := ?hvv2_3) rfl (by kernel_rfl) (by kernel_rfl) (by kernel_rfl) (fun _ _ _ h => h) (Or.inl ⟨by rfl, ?hhy2_3⟩) (by assumption) ?_
            case hhy2_3 => (intro w hSw; (try dsimp only at hSw); go_simp; try with_reducible rfl)
            change wpAnyH _ _ _ _ _ _ _ (Act.put _ (some 81) _) _
            try simp only [Act.put, List.setIfInBounds_toArray, List.set_cons_zero, List.set_cons_succ]
            refine wpAnyH_take (i := 3) (v := ?hvv3_4) rfl (by kernel_rfl) (by kernel_rfl) (by kernel_rfl) (fun _ _ _ h => h) (Or.inl ⟨by rfl, ?hhy3_4⟩) (by assumption) ?_
            case hhy3_4 => (intro w hSw; (try dsimp only at hSw); go_simp; try with_reducible rfl)
            change wpAnyH _ _ _ _ _ _ _ (Act.put _ (some 82) _) _
            try simp only [Act.put, List.setIfInBounds_toArray, List.set_cons_zero, List.set_cons_succ]
            refine wpAnyH_take (i := 4) (v := undef) rfl (by kernel_rfl) (by kernel_rfl) (by kernel_rfl) (fun _ _ _ h => h) (Or.inr ⟨by rfl, rfl⟩) (by assumption) ?_
            change wpAnyH _ _ _ _ _ _ _ (Act.put _ (some 83) _) _
            try simp only [Act.put, List.setIfInBounds_toArray, List.set_cons_zero, List.set_cons_succ]
            refine wpAnyH_take (i := 5) (v := undef) rfl (by kernel_rfl) (by kernel_rfl) (by kernel_rfl) (fun _ _ _ h => h) (Or.inr ⟨by rfl, rfl⟩) (by assumption) ?_
            change wpAnyH _ _ _ _ _ _ _ (Act.put _ (some 84) _) _
            try simp only [Act.put, List.setIfInBounds_toArray, List.set_cons_zero, List.set_cons_succ]
            refine wpAnyH_take (i := 6) (v := undef) rfl (by kernel_rfl) (by kernel_rfl) (by kernel_rfl) (fun _ _ _ h => h) (Or.inr ⟨by rfl, rfl⟩) (by assumption) ?_
            change wpAnyH _ _ _ _ _ _ _ (Act.put _ (some 85) _) _
            try simp only [Act.put, List.setIfInBounds_toArray, List.set_cons_zero, List.set_cons_succ]
            refine wpAnyH_take (i := 7) (v := undef) rfl (by kernel_rfl) (by kernel_rfl) (by kernel_rfl) (fun _ _ _ h => h) (Or.inr ⟨by rfl, rfl⟩) (by assumption) ?_
            change wpAnyH _ _ _ _ _ _ _ (Act.put _ (some 86) _) _
            try simp only [Act.put, List.setIfInBounds_toArray, List.set_cons_zero, List.set_cons_succ]
            refine wpAnyH_take (i := 8) (v := ?hvv8_5) rfl (by kernel_rfl) (by kernel_rfl) (by kernel_rfl) (fun _ _ _ h => h) (Or.inl ⟨by rfl, ?hhy8_5⟩) (by assumption) ?_
            case hhy8_5 => (intro w hSw; (try dsimp only at hSw); go_simp; try with_reducible rfl)
            change wpAnyH _ _ _ _ _ _ _ (Act.put _ (some 87) _) _
            try simp only [Act.put, List.setIfInBounds_toArray, List.set_cons_zero, List.set_cons_succ]
            refine wpAnyH_ready (rs := [9]) (by kernel_rfl) (by simp) ?_
            refine AllReadyH.cons rfl (fun K hK => ?_) AllReadyH.nil
            go_simp
            refine hK.out _ _ (by (try dsimp only); go_keep) (fun hHeld => ?_)
            clear hK K
            refine wpAnyH_take (i := 10) (v := ?hvv10_6) rfl (by kernel_rfl) (by kernel_rfl) (by kernel_rfl) (fun _ _ _ h => h) (Or.inl ⟨by rfl, ?hhy10_6⟩) (by assumption) ?_
            case hhy10_6 => (intro w hSw; (try dsimp only at hSw); go_simp; try with_reducible rfl)
            change wpAnyH _ _ _ _ _ _ _ (Act.put _ (some 3) _) _
            try simp only [Act.put, List.setIfInBounds_toArray, List.set_cons_zero, List.set_cons_succ]
            refine wpAnyH_done (by kernel_rfl) ?_ _
            go_wp2_with fail
            have hYk : Y = some (.mk 6 0 0 0 (E.map Ex.c)) := by rw [HYE.out, if_neg (by omega)]
            have hputs := blk_drew (hr2.out.put5 (.int .i64 6) (.int .i64 0) (.int .i64 0) (.int .i64 0) (.slice voa EL vcap))
            refine bodyPost_ret (v := .tuple #[.agg #[.int .i64 6, .int .i64 0, .int .i64 0, .int .i64 0, .slice voa EL vcap], .bool true]) ?_ rfl ?_
            · refine ret_ex2 Tryd.results28 ?_ ?_ hputs rfl
              all_goals rfl
            · exact HFIN.out _ _ wr _ (by rw [hYk]; rfl) ⟨_, _, _, _, _, _, _, rfl⟩ (fun E2 hE2 => by rw [hYk] at hE2; injection hE2 with hE2; subst hE2; exact HXE.out) (below_far HB7.out hg.out (fun k e => by have e := Option.some.inj e; omega)) (grownBy_drew (grownBy_puts [.int .i64 6, .int .i64 0, .int .i64 0, .int .i64 0, .slice voa EL vcap] wr g2 0))
          · refine wp_region_held_drew (S := (fun w' => w'.cell? ⟨g6, 0, none⟩ = some (.int .i64 7) ∧ w'.cell? ⟨g6, 1, none⟩ = some (.int .i64 0) ∧ w'.cell? ⟨g6, 2, none⟩ = some (.int .i64 0) ∧ w'.cell? ⟨g6, 3, none⟩ = some (.int .i64 0) ∧ w'.cell? ⟨g6, 4, none⟩ = some (.slice voa EL vcap))) (by kernel_rfl) (by (try dsimp only); go_keep) (fun hHeld => ?_)
            refine wpAnyH_take (i := 0) (v := ?hvv0_7) rfl (by kernel_rfl) (by kernel_rfl) (by kernel_rfl) (fun _ _ _ h => h) (Or.inl ⟨by rfl, ?hhy0_7⟩) (by assumption) ?_
            case hhy0_7 => (intro w hSw; (try dsimp only at hSw); go_simp; try with_reducible rfl)
            change wpAnyH _ _ _ _ _ _ _ (Act.put _ (some 79) _) _
            try simp only [Act.put, List.setIfInBounds_toArray, List.set_cons_zero, List.set_cons_succ]
            refine wpAnyH_take (i := 1) (v := ?hvv1_8) rfl (by kernel_rfl) (by kernel_rfl) (by kernel_rfl) (fun _ _ _ h => h) (Or.inl ⟨by rfl, ?hhy1_8⟩) (by assumption) ?_
            case hhy1_8 => (intro w hSw; (try dsimp only at hSw); go_simp; try with_reducible rfl)
            change wpAnyH _ _ _ _ _ _ _ (Act.put _ (some 80) _) _
            try simp only [Act.put, List.setIfInBounds_toArray, List.set_cons_zero, List.set_cons_succ]
            refine wpAnyH_take (i := 2) (v := ?hvv2_9) rfl (by kernel_rfl) (by kernel_rfl) (by kernel_rfl) (fun _ _ _ h => h) (Or.inl ⟨by rfl, ?hhy2_9⟩) (by assumption) ?_
            case hhy2_9 => (intro w hSw; (try dsimp only at hSw); go_simp; try with_reducible rfl)
            change wpAnyH _ _ _ _ _ _ _ (Act.put _ (some 81) _) _
            try simp only [Act.put, List.setIfInBounds_toArray, List.set_cons_zero, List.set_cons_succ]
            refine wpAnyH_take (i := 3) (v := ?hvv3_10) rfl (by kernel_rfl) (by kernel_rfl) (by kernel_rfl) (fun _ _ _ h => h) (Or.inl ⟨by rfl, ?hhy3_10⟩) (by assumption) ?_
            case hhy3_10 => (intro w hSw; (try dsimp only at hSw); go_simp; try with_reducible rfl)
            change wpAnyH _ _ _ _ _ _ _ (Act.put _ (some 82) _) _
            try simp only [Act.put, List.setIfInBounds_toArray, List.set_cons_zero, List.set_cons_succ]
            refine wpAnyH_take (i := 4) (v := undef) rfl (by kernel_rfl) (by kernel_rfl) (by kernel_rfl) (fun _ _ _ h => h) (Or.inr ⟨by rfl, rfl⟩) (by assumption) ?_
            change wpAnyH _ _ _ _ _ _ _ (Act.put _ (some 83) _) _
            try simp only [Act.put, List.setIfInBounds_toArray, List.set_cons_zero, List.set_cons_succ]
            refine wpAnyH_take (i := 5) (v := undef) rfl (by kernel_rfl) (by kernel_rfl) (by kernel_rfl) (fun _ _ _ h => h) (Or.inr ⟨by rfl, rfl⟩) (by assumption) ?_
            change wpAnyH _ _ _ _ _ _ _ (Act.put _ (some 84) _) _
            try simp only [Act.put, List.setIfInBounds_toArray, List.set_cons_zero, List.set_cons_succ]
            refine wpAnyH_take (i := 6) (v := undef) rfl (by kernel_rfl) (by kernel_rfl) (by kernel_rfl) (fun _ _ _ h => h) (Or.inr ⟨by rfl, rfl⟩) (by assumption) ?_
            change wpAnyH _ _ _ _ _ _ _ (Act.put _ (some 85) _) _
            try simp only [Act.put, List.setIfInBounds_toArray, List.set_cons_zero, List.set_cons_succ]
            refine wpAnyH_take (i := 7) (v := undef) rfl (by kernel_rfl) (by kernel_rfl) (by kernel_rfl) (fun _ _ _ h => h) (Or.inr ⟨by rfl, rfl⟩) (by assumption) ?_
            change wpAnyH _ _ _ _ _ _ _ (Act.put _ (some 86) _) _
            try simp only [Act.put, List.setIfInBounds_toArray, List.set_cons_zero, List.set_cons_succ]
            refine wpAnyH_take (i := 8) (v := ?hvv8_11) rfl (by kernel_rfl) (by kernel_rfl) (by kernel_rfl) (fun _ _ _ h => h) (Or.inl ⟨by rfl, ?hhy8_11⟩) (by assumption) ?_
            case hhy8_11 => (intro w hSw; (try dsimp only at hSw); go_simp; try with_reducible rfl)
            change wpAnyH _ _ _ _ _ _ _ (Act.put _ (some 87) _) _
            try simp only [Act.put, List.setIfInBounds_toArray, List.set_cons_zero, List.set_cons_succ]
            refine wpAnyH_ready (rs := [9]) (by kernel_rfl) (by simp) ?_
            refine AllReadyH.cons rfl (fun K hK => ?_) AllReadyH.nil
            go_simp
            refine hK.out _ _ (by (try dsimp only); go_keep) (fun hHeld => ?_)
            clear hK K
            refine wpAnyH_take (i := 10) (v := ?hvv10_12) rfl (by kernel_rfl) (by kernel_rfl) (by kernel_rfl) (fun _ _ _ h => h) (Or.inl ⟨by rfl, ?hhy10_12⟩) (by assumption) ?_
            case hhy10_12 => (intro w hSw; (try dsimp only at hSw); go_simp; try with_reducible rfl)
            change wpAnyH _ _ _ _ _ _ _ (Act.put _ (some 3) _) _
            try simp only [Act.put, List.setIfInBounds_toArray, List.set_cons_zero, List.set_cons_succ]
            refine wpAnyH_done (by kernel_rfl) ?_ _
            go_wp2_with fail
            have hYk : Y = some (.mk 7 0 0 0 (E.map Ex.c)) := by rw [HYE.out, if_neg (by omega)]
            have hputs := blk_drew (hr2.out.put5 (.int .i64 7) (.int .i64 0) (.int .i64 0) (.int .i64 0) (.slice voa EL vcap))
            refine bodyPost_ret (v := .tuple #[.agg #[.int .i64 7, .int .i64 0, .int .i64 0, .int .i64 0, .slice voa EL vcap], .bool true]) ?_ rfl ?_
            · refine ret_ex2 Tryd.results28 ?_ ?_ hputs rfl
              all_goals rfl
            · exact HFIN.out _ _ wr _ (by rw [hYk]; rfl) ⟨_, _, _, _, _, _, _, rfl⟩ (fun E2 hE2 => by rw [hYk] at hE2; injection hE2 with hE2; subst hE2; exact HXE.out) (below_far HB7.out hg.out (fun k e => by have e := Option.some.inj e; omega)) (grownBy_drew (grownBy_puts [.int .i64 7, .int .i64 0, .int .i64 0, .int .i64 0, .slice voa EL vcap] wr g2 0))
          · refine wp_region_held_drew (S := (fun w' => w'.cell? ⟨g6, 0, none⟩ = some (.int .i64 8) ∧ w'.cell? ⟨g6, 1, none⟩ = some (.int .i64 0) ∧ w'.cell? ⟨g6, 2, none⟩ = some (.int .i64 0) ∧ w'.cell? ⟨g6, 3, none⟩ = some (.int .i64 0) ∧ w'.cell? ⟨g6, 4, none⟩ = some (.slice voa EL vcap))) (by kernel_rfl) (by (try dsimp only); go_keep) (fun hHeld => ?_)
            refine wpAnyH_take (i := 0) (v := ?hvv0_13) rfl (by kernel_rfl) (by kernel_rfl) (by kernel_rfl) (fun _ _ _ h => h) (Or.inl ⟨by rfl, ?hhy0_13⟩) (by assumption) ?_
            case hhy0_13 => (intro w hSw; (try dsimp only at hSw); go_simp; try with_reducible rfl)
            change wpAnyH _ _ _ _ _ _ _ (Act.put _ (some 79) _) _
            try simp only [Act.put, List.setIfInBounds_toArray, List.set_cons_zero, List.set_cons_succ]
            refine wpAnyH_take (i := 1) (v := ?hvv1_14) rfl (by kernel_rfl) (by kernel_rfl) (by kernel_rfl) (fun _ _ _ h => h) (Or.inl ⟨by rfl, ?hhy1_14⟩) (by assumption) ?_
            case hhy1_14 => (intro w hSw; (try dsimp only at hSw); go_simp; try with_reducible rfl)
            change wpAnyH _ _ _ _ _ _ _ (Act.put _ (some 80) _) _
            try simp only [Act.put, List.setIfInBounds_toArray, List.set_cons_zero, List.set_cons_succ]
            refine wpAnyH_take (i := 2) (v := ?hvv2_15) rfl (by kernel_rfl) (by kernel_rfl) (by kernel_rfl) (fun _ _ _ h => h) (Or.inl ⟨by rfl, ?hhy2_15⟩) (by assumption) ?_
            case hhy2_15 => (intro w hSw; (try dsimp only at hSw); go_simp; try with_reducible rfl)
            change wpAnyH _ _ _ _ _ _ _ (Act.put _ (some 81) _) _
            try simp only [Act.put, List.setIfInBounds_toArray, List.set_cons_zero, List.set_cons_succ]
            refine wpAnyH_take (i := 3) (v := ?hvv3_16) rfl (by kernel_rfl) (by kernel_rfl) (by kernel_rfl) (fun _ _ _ h => h) (Or.inl ⟨by rfl, ?hhy3_16⟩) (by assumption) ?_
            case hhy3_16 => (intro w hSw; (try dsimp only at hSw); go_simp; try with_reducible rfl)
            change wpAnyH _ _ _ _ _ _ _ (Act.put _ (some 82) _) _
            try simp only [Act.put, List.setIfInBounds_toArray, List.set_cons_zero, List.set_cons_succ]
            refine wpAnyH_take (i := 4) (v := ?hvv4_17) rfl (by kernel_rfl) (by kernel_rfl) (by kernel_rfl) (fun _ _ _ h => h) (Or.inl ⟨by rfl, ?hhy4_17⟩) (by assumption) ?_
            case hhy4_17 => (intro w hSw; (try dsimp only at hSw); go_simp; try with_reducible rfl)
            change wpAnyH _ _ _ _ _ _ _ (Act.put _ (some 83) _) _
            try simp only [Act.put, List.setIfInBounds_toArray, List.set_cons_zero, List.set_cons_succ]
            refine wpAnyH_take (i := 5) (v := ?hvv5_18) rfl (by kernel_rfl) (by kernel_rfl) (by kernel_rfl) (fun _ _ _ h => h) (Or.inl ⟨by rfl, ?hhy5_18⟩) (by assumption) ?_
            case hhy5_18 => (intro w hSw; (try dsimp only at hSw); go_simp; try with_reducible rfl)
            change wpAnyH _ _ _ _ _ _ _ (Act.put _ (some 84) _) _
            try simp only [Act.put, List.setIfInBounds_toArray, List.set_cons_zero, List.set_cons_succ]
            refine wpAnyH_take (i := 6) (v := ?hvv6_19) rfl (by kernel_rfl) (by kernel_rfl) (by kernel_rfl) (fun _ _ _ h => h) (Or.inl ⟨by rfl, ?hhy6_19⟩) (by assumption) ?_
            case hhy6_19 => (intro w hSw; (try dsimp only at hSw); go_simp; try with_reducible rfl)
            change wpAnyH _ _ _ _ _ _ _ (Act.put _ (some 85) _) _
            try simp only [Act.put, List.setIfInBounds_toArray, List.set_cons_zero, List.set_cons_succ]
            refine wpAnyH_take (i := 7) (v := ?hvv7_20) rfl (by kernel_rfl) (by kernel_rfl) (by kernel_rfl) (fun _ _ _ h => h) (Or.inl ⟨by rfl, ?hhy7_20⟩) (by assumption) ?_
            case hhy7_20 => (intro w hSw; (try dsimp only at hSw); go_simp; try with_reducible rfl)
            change wpAnyH _ _ _ _ _ _ _ (Act.put _ (some 86) _) _
            try simp only [Act.put, List.setIfInBounds_toArray, List.set_cons_zero, List.set_cons_succ]
            refine wpAnyH_take (i := 8) (v := ?hvv8_21) rfl (by kernel_rfl) (by kernel_rfl) (by kernel_rfl) (fun _ _ _ h => h) (Or.inl ⟨by rfl, ?hhy8_21⟩) (by assumption) ?_
            case hhy8_21 => (intro w hSw; (try dsimp only at hSw); go_simp; try with_reducible rfl)
            change wpAnyH _ _ _ _ _ _ _ (Act.put _ (some 87) _) _
            try simp only [Act.put, List.setIfInBounds_toArray, List.set_cons_zero, List.set_cons_succ]
            refine wpAnyH_ready (rs := [9]) (by kernel_rfl) (by simp) ?_
            refine AllReadyH.cons rfl (fun K hK => ?_) AllReadyH.nil
            go_simp
            refine hK.out _ _ (by (try dsimp only); go_keep) (fun hHeld => ?_)
            clear hK K
            refine wpAnyH_take (i := 10) (v := ?hvv10_22) rfl (by kernel_rfl) (by kernel_rfl) (by kernel_rfl) (fun _ _ _ h => h) (Or.inl ⟨by rfl, ?hhy10_22⟩) (by assumption) ?_
            case hhy10_22 => (intro w hSw; (try dsimp only at hSw); go_simp; try with_reducible rfl)
            change wpAnyH _ _ _ _ _ _ _ (Act.put _ (some 3) _) _
            try simp only [Act.put, List.setIfInBounds_toArray, List.set_cons_zero, List.set_cons_succ]
            refine wpAnyH_done (by kernel_rfl) ?_ _
            go_wp2_with fail
            have hok : ((EL : Int) == 3) = Y.isSome := by
              rw [HYE.out, HEL.out]
              by_cases he : EL = 3
              · subst he; rfl
              · rw [if_pos ⟨by trivial, he⟩, beq_eq_false_iff_ne.2 (by omega)]
                rfl
            have hYk : ∀ E2, Y = some E2 → E2 = .mk 8 0 0 0 (E.map Ex.c) := fun E2 hE2 => by
              rw [HYE.out, HEL.out] at hE2
              by_cases he : EL = 3
              · rw [if_neg (by omega)] at hE2
                exact (Option.some.inj hE2).symm
              · rw [if_pos ⟨by trivial, he⟩] at hE2
                cases hE2
            have hputs := blk_drew (hr2.out.put5 (.int .i64 8) (.int .i64 0) (.int .i64 0) (.int .i64 0) (.slice voa EL vcap))
            refine bodyPost_ret (v := .tuple #[.agg #[.int .i64 8, .int .i64 0, .int .i64 0, .int .i64 0, .slice voa EL vcap], .bool ((EL : Int) == 3)]) ?_ rfl ?_
            · refine ret_ex2 Tryd.results28 ?_ ?_ hputs rfl
              all_goals rfl
            · exact HFIN.out _ _ wr _ hok ⟨_, _, _, _, _, _, _, rfl⟩ (fun E2 hE2 => by rw [hYk E2 hE2]; exact HXE.out) (below_far HB7.out hg.out (fun k e => by have e := Option.some.inj e; omega)) (grownBy_drew (grownBy_puts [.int .i64 8, .int .i64 0, .int .i64 0, .int .i64 0, .slice voa EL vcap] wr g2 0))

end Go.Proofs.YtplnhjmomomphaaDoor
