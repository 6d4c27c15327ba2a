/- Of my texts: CalcG, Of, RefD, Turned, Numbered, WalkTurned. -/
import Derived.Test.YtplnhjmomomphaaDoorM19
import Derived.Test.YtplnhjmomomphaaDoorM25
import Derived.Test.YtplnhjmomomphaaDoorM26
import Derived.Test.YtplnhjmomomphaaDoorM29
import Derived.OwnWalk
namespace Go.Proofs.YtplnhjmomomphaaDoor
set_option linter.unusedVariables false
set_option linter.unusedSimpArgs false
open Go.RowKit

/-- what Parse gives: an expression and a number -/
def retP (A : Nat → Prop) (r : Option Et × Int) (e : Ending) (w : World) : Prop := ∃ v, e = .returned (.tuple #[v, .int .i64 r.2]) ∧ isEx A (r.1.getD zeroEt) v w
theorem zero_ex (A : Nat → Prop) (w : World) : isEx A zeroEt (.agg #[.int .i64 0, .int .i64 0, .int .i64 0, .int .i64 0, .slice none 0 0]) w :=
  ⟨.mk 0 0 0 0 none 0 0 0 [], 1, rfl, rfl, ExIn.leaf (i64_small _ (by decide)) (by unfold Is64; decide) (i64_small _ (by decide))⟩

set_option maxRecDepth 20000 in
set_option maxHeartbeats 2000000 in
theorem cparse_any (h : Nat) (l : List Vl) (oa : Option Addr) (cap b o : Nat) (w : World) (hs : VsIn w h oa cap b o l) :
    Calls Tryd.prog 9 #[.slice oa l.length cap] w fun e w' => retP (· < w.heap.size) (parseF wholeP h (l.map Vl.c)) e w' ∧ Below w.heap.size w w' := by
  have hX := (calc_all h).2
  obtain ⟨Y, hY⟩ : ∃ Y, parseF wholeP h (l.map Vl.c) = Y := ⟨_, rfl⟩
  rw [hY]
  have hb0 := below_box w (.cells #[.int .i64 0, .int .i64 0, .int .i64 0, .int .i64 0, .slice none 0 0] 27)
  have h2 := Blk.new w 27 #[.int .i64 0, .int .i64 0, .int .i64 0, .int .i64 0, .slice none 0 0]
  have hs1 := hs.below hb0
  have hmay := mayvr_any h l oa cap b o _ hs1
  have htr := fun w' (hb : Below _ _ w') => rtrim_any h l oa cap b o w' (hs1.below hb)
  have hw01 : (w.alloc (.cells #[.int .i64 0, .int .i64 0, .int .i64 0, .int .i64 0, .slice none 0 0] 27)).heap.size = w.heap.size + 1 := by simp
  obtain ⟨X, hXX⟩ : ∃ X, l.map Vl.c = X := ⟨_, rfl⟩
  obtain ⟨N, hN⟩ : ∃ N, l.length = N := ⟨_, rfl⟩
  rw [hXX] at hmay hY
  rw [hN] at hmay
  rw [hN]
  simp only [hXX, hN] at htr
  have HY := Lib.hid hY
  have HMAY := Lib.hid hmay
  have HTR := Lib.hid htr
  have HB0 := Lib.hid hb0
  have H2 := Lib.hid h2
  have HW01 := Lib.hid hw01
  obtain ⟨m, hm⟩ : ∃ m, mayV 64 X = m := ⟨_, rfl⟩
  rw [hm] at HMAY
  have HM := Lib.hid hm
  clear hY hmay htr hb0 h2 hw01 hXX hN hs hs1 hm
  go_enter Tryd.func9, Tryd.ntmps9
  go_upto_region 1 with fail
  obtain ⟨g2, hg2⟩ : ∃ g2, w.heap.size = g2 := ⟨_, rfl⟩
  have HG := Lib.hid hg2
  rw [hg2] at H2
  simp only [hg2]
  clear hg2
  generalize w.alloc _ = w1 at *
  go_wp2_with fail
  ((with_reducible refine HMAY.out.mono ?_); rintro e w2 ⟨rfl, hb2⟩)
  have hb12 := hb2.size
  have H22 := Lib.hid (H2.out.below hb2 H2.out.lt)
  have HB2 := Lib.hid (below_far HB0.out (grownBy_of_below hb2 none) (fun _ e => by cases e))
  have HT2 := Lib.hid (HTR.out w2 hb2)
  have HWG := Lib.hid (show w.heap.size ≤ g2 by have := HG.out; omega)
  clear hb2 HTR HMAY HB0
  have ca0 : w2.cell? ⟨g2, 0, none⟩ = some (.int .i64 0) := (H22.out).cell 0
  have fca0 := (H22.out).frozen 0
  have ca1 : w2.cell? ⟨g2, 1, none⟩ = some (.int .i64 0) := (H22.out).cell 1
  have fca1 := (H22.out).frozen 1
  have ca2 : w2.cell? ⟨g2, 2, none⟩ = some (.int .i64 0) := (H22.out).cell 2
  have fca2 := (H22.out).frozen 2
  have ca3 : w2.cell? ⟨g2, 3, none⟩ = some (.int .i64 0) := (H22.out).cell 3
  have fca3 := (H22.out).frozen 3
  have ca4 : w2.cell? ⟨g2, 4, none⟩ = some (.slice none 0 0) := (H22.out).cell 4
  have fca4 := (H22.out).frozen 4
  have lca := (H22.out).lt
  cases m with
  | false =>
    have hYk : Y = (none, 1) := by rw [← HY.out, parseF, if_pos HM.out]
    go_wp2_with fail
    have hputs := (H22.out).put5 (.int .i64 0) (.int .i64 0) (.int .i64 0) (.int .i64 0) (.slice none 0 0)
    refine bodyPost_ret (v := .tuple #[.agg #[.int .i64 0, .int .i64 0, .int .i64 0, .int .i64 0, .slice none 0 0], .int .i64 1]) ?_ rfl ?_
    · refine ret_ex2 Tryd.results9 ?_ ?_ hputs rfl
      all_goals rfl
    · exact ⟨⟨_, by first | rfl | rw [hYk], by first | exact zero_ex _ _ | (rw [hYk]; exact zero_ex _ _)⟩, below_put5 HB2.out HWG.out _ _ _ _ _⟩
  | true =>
    have hY2 : Y = match trimV X with
        | [v] => (match exF wholeP h v with
          | none => (none, 3)
          | some e => (some e, 0))
        | _ => (none, 3) := by
      rw [← HY.out, parseF, if_neg (by rw [HM.out]; decide)]
      rfl
    have HY2 := Lib.hid hY2
    clear hY2 HY
    go_wp2_with fail
    ((with_reducible refine HT2.out.mono ?_); rintro e w3 ⟨⟨v, rfl, oa2, cap2, b2, o2, l2, rfl, hc2, hs2⟩, hb3⟩)
    have H23 := Lib.hid (H22.out.below hb3 H22.out.lt)
    have HB3 := Lib.hid (below_far HB2.out (grownBy_of_below hb3 none) (fun _ e => by cases e))
    have hb23 := hb3.size
    have hcm2 := hs2.here.sl.max
    have hcl2 := hs2.here.sl.le
    unfold maxLen at hcm2
    clear hb3 HT2 H22 HB2 ca0 ca1 ca2 ca3 ca4 fca0 fca1 fca2 fca3 fca4 lca
    have ca0 : w3.cell? ⟨g2, 0, none⟩ = some (.int .i64 0) := (H23.out).cell 0
    have fca0 := (H23.out).frozen 0
    have ca1 : w3.cell? ⟨g2, 1, none⟩ = some (.int .i64 0) := (H23.out).cell 1
    have fca1 := (H23.out).frozen 1
    have ca2 : w3.cell? ⟨g2, 2, none⟩ = some (.int .i64 0) := (H23.out).cell 2
    have fca2 := (H23.out).frozen 2
    have ca3 : w3.cell? ⟨g2, 3, none⟩ = some (.int .i64 0) := (H23.out).cell 3
    have fca3 := (H23.out).frozen 3
    have ca4 : w3.cell? ⟨g2, 4, none⟩ = some (.slice none 0 0) := (H23.out).cell 4
    have fca4 := (H23.out).frozen 4
    have lca := (H23.out).lt
    by_cases hl1 : l2.length = 1
    · obtain ⟨x, rfl⟩ := List.length_eq_one_iff.1 hl1
      obtain ⟨rfl, hbl⟩ := hs2.here.sl.lies (by simp)
      have hli : [x][0]? = some x := rfl
      have hvs := hs2.here
      have HVX := Lib.hid (hs2.here.each 0 x hli)
      have hxp := hX x w3 (hs2.here.each 0 x hli)
      have hYx : Y = match exF wholeP h x.c with
          | none => (none, 3)
          | some e => (some e, 0) := by rw [HY2.out, ← hc2]; rfl
      obtain ⟨r, hr⟩ : ∃ r, exF wholeP h x.c = r := ⟨_, rfl⟩
      rw [hr] at hxp hYx
      obtain ⟨t, koa, kb, ko, kcap, kids⟩ := x
      obtain ⟨K, hK⟩ : ∃ K, kids.length = K := ⟨_, rfl⟩
      have f0 := hvs.cell hli (j := 0) rfl
      have f1 := hvs.cell hli (j := 1) rfl
      have f2 := hvs.cell hli (j := 2) rfl
      have f3 := hvs.cell hli (j := 3) rfl
      have f4 := hvs.cell hli (j := 4) rfl
      have f5 := hvs.cell hli (j := 5) rfl
      have f6 := hvs.cell hli (j := 6) rfl
      rw [hK] at f6
      simp only [Nat.zero_mul, Nat.add_zero] at f0 f1 f2 f3 f4 f5 f6
      obtain ⟨tk, tt, ⟨tn, td⟩, ti, tid⟩ := t
      have hvv : vv (Vl.mk ⟨tk, tt, (tn, td), ti, tid⟩ koa kb ko kcap kids) = .agg #[.int .i64 tk, .string ⟨tt.toArray⟩, .int .i64 tn, .int .i64 td, .bool ti, .bool tid, .slice koa K kcap] := by rw [← hK]; rfl
      rw [hvv] at hxp
      have HXP := Lib.hid hxp
      have HYX := Lib.hid hYx
      simp only [List.length_singleton] at hcl2 ⊢
      clear hvv hxp hYx hK hvs hli hr hs2 hc2 hX HY2 hl1
      go_wp2_with fail
      ((with_reducible refine HXP.out.mono ?_); rintro e w4 ⟨⟨ev, ok, rfl, hok, h5, hE⟩, hb4⟩)
      obtain ⟨vk, vn, vd, vu, voa, vL, vc, rfl⟩ := h5
      have HE := Lib.hid (And.intro hok hE)
      have H24 := Lib.hid (H23.out.below hb4 H23.out.lt)
      have hbB := below_far HB3.out (grownBy_of_below hb4 none) (fun _ e => by cases e)
      have hw34 := hb4.size
      clear hok hE hb4 H23 HB3 ca0 ca1 ca2 ca3 ca4 fca0 fca1 fca2 fca3 fca4 lca f0 f1 f2 f3 f4 f5 f6 HXP
      go_upto_region 7 with fail
      have h25 := H24.out.old (.cells #[.int .i64 vk, .int .i64 vn, .int .i64 vd, .int .i64 vu, .slice voa vL vc] 27)
      have h55 := Blk.new w4 27 #[.int .i64 vk, .int .i64 vn, .int .i64 vd, .int .i64 vu, .slice voa vL vc]
      have HB4 := Lib.hid (hbB.alloc (by have := hbB.size; omega) (.cells #[.int .i64 vk, .int .i64 vn, .int .i64 vd, .int .i64 vu, .slice voa vL vc] 27))
      have HE5 := Lib.hid (And.intro HE.out.1 (fun E hE => (HE.out.2 E hE).below (below_box w4 (.cells #[.int .i64 vk, .int .i64 vn, .int .i64 vd, .int .i64 vu, .slice voa vL vc] 27))))
      clear H24 hbB HE
      generalize w4.heap.size = g5 at *
      generalize w4.alloc _ = w5 at *
      have cb0 : w5.cell? ⟨g5, 0, none⟩ = some (.int .i64 vk) := (h55).cell 0
      have fcb0 := (h55).frozen 0
      have cb1 : w5.cell? ⟨g5, 1, none⟩ = some (.int .i64 vn) := (h55).cell 1
      have fcb1 := (h55).frozen 1
      have cb2 : w5.cell? ⟨g5, 2, none⟩ = some (.int .i64 vd) := (h55).cell 2
      have fcb2 := (h55).frozen 2
      have cb3 : w5.cell? ⟨g5, 3, none⟩ = some (.int .i64 vu) := (h55).cell 3
      have fcb3 := (h55).frozen 3
      have cb4 : w5.cell? ⟨g5, 4, none⟩ = some (.slice voa vL vc) := (h55).cell 4
      have fcb4 := (h55).frozen 4
      have lcb := (h55).lt
      have ca0 : w5.cell? ⟨g2, 0, none⟩ = some (.int .i64 0) := (h25).cell 0
      have fca0 := (h25).frozen 0
      have ca1 : w5.cell? ⟨g2, 1, none⟩ = some (.int .i64 0) := (h25).cell 1
      have fca1 := (h25).frozen 1
      have ca2 : w5.cell? ⟨g2, 2, none⟩ = some (.int .i64 0) := (h25).cell 2
      have fca2 := (h25).frozen 2
      have ca3 : w5.cell? ⟨g2, 3, none⟩ = some (.int .i64 0) := (h25).cell 3
      have fca3 := (h25).frozen 3
      have ca4 : w5.cell? ⟨g2, 4, none⟩ = some (.slice none 0 0) := (h25).cell 4
      have fca4 := (h25).frozen 4
      have lca := (h25).lt
      have H25 := Lib.hid h25
      clear h25 h55
      have hg2w := H2.out.lt
      cases r with
      | none =>
        obtain rfl : ok = false := HE5.out.1
        have hYk : Y = (none, 3) := HYX.out
        go_wp2_with fail
        have hputs := (H25.out).put5 (.int .i64 0) (.int .i64 0) (.int .i64 0) (.int .i64 0) (.slice none 0 0)
        refine bodyPost_ret (v := .tuple #[.agg #[.int .i64 0, .int .i64 0, .int .i64 0, .int .i64 0, .slice none 0 0], .int .i64 3]) ?_ rfl ?_
        · refine ret_ex2 Tryd.results9 ?_ ?_ hputs rfl
          all_goals rfl
        · exact ⟨⟨_, by first | rfl | rw [hYk], by first | exact zero_ex _ _ | (rw [hYk]; exact zero_ex _ _)⟩, below_put5 HB4.out HWG.out _ _ _ _ _⟩
      | some E =>
        obtain rfl : ok = true := HE5.out.1
        have hYk : Y = (some E, 0) := HYX.out
        have hee := ((HE5.out.2 E rfl).grown (grownBy_puts [.int .i64 vk, .int .i64 vn, .int .i64 vd, .int .i64 vu, .slice voa vL vc] w5 g2 0) (fun k e _ => by have e : g2 = k := Option.some.inj e; show k < w3.heap.size; omega)).anti (A' := (· < w.heap.size)) fun b hb => Or.inl (by have := HWG.out; have hb : b < w.heap.size := hb; show b < w3.heap.size; omega)
        simp only [puts, Nat.zero_add, Nat.reduceAdd] at hee
        go_wp2_with fail
        have hputs := (H25.out).put5 (.int .i64 vk) (.int .i64 vn) (.int .i64 vd) (.int .i64 vu) (.slice voa vL vc)
        refine bodyPost_ret (v := .tuple #[.agg #[.int .i64 vk, .int .i64 vn, .int .i64 vd, .int .i64 vu, .slice voa vL vc], .int .i64 0]) ?_ rfl ?_
        · refine ret_ex2 Tryd.results9 ?_ ?_ hputs rfl
          all_goals rfl
        · exact ⟨⟨_, by first | rfl | rw [hYk], by first | exact hee | (rw [hYk]; exact hee)⟩, below_put5 HB4.out HWG.out _ _ _ _ _⟩
    · have q1 : ((l2.length : Int) == 1) = false := beq_eq_false_iff_ne.2 (by omega)
      have hYk : Y = (none, 3) := by
        rw [HY2.out, ← hc2]
        match l2, hl1 with
        | [], _ => rfl
        | [x], h => exact absurd rfl h
        | x :: y :: l, _ => rfl
      generalize l2.length = N2 at *
      have HB4 := HB3
      go_wp2_with fail
      have hputs := (H23.out).put5 (.int .i64 0) (.int .i64 0) (.int .i64 0) (.int .i64 0) (.slice none 0 0)
      refine bodyPost_ret (v := .tuple #[.agg #[.int .i64 0, .int .i64 0, .int .i64 0, .int .i64 0, .slice none 0 0], .int .i64 3]) ?_ rfl ?_
      · refine ret_ex2 Tryd.results9 ?_ ?_ hputs rfl
        all_goals rfl
      · exact ⟨⟨_, by first | rfl | rw [hYk], by first | exact zero_ex _ _ | (rw [hYk]; exact zero_ex _ _)⟩, below_put5 HB4.out HWG.out _ _ _ _ _⟩

end Go.Proofs.YtplnhjmomomphaaDoor

namespace Go.Proofs.YtplnhjmomomphaaDoor
set_option linter.unusedVariables false
set_option linter.unusedSimpArgs false
open Go.RowKit Go.Lib

theorem conv_bytes (m : List UInt8) (w : World) (hm : m.length ≤ maxLen) : ∃ (cap : Nat) (w1 : World), (convert 9 34 (.string ⟨m.toArray⟩)).run Tryd.prog w = .ok (.slice (some ⟨w.heap.size, 0, none⟩) m.length cap) w1 ∧ Below w.heap.size w w1 ∧
    Sl w1 (some ⟨w.heap.size, 0, none⟩) m.length cap w.heap.size 0 1 (bytesV m) := by
  have h := run_bytes_of_string (P := Tryd.prog) w 9 34 5 ⟨m.toArray⟩ Tryd.underlying9 Tryd.underlying34 Tryd.underlying5
  have hge := grownCap_ge w m.length 0 5
  have hcm := grownCap_le_maxLen w m.length 0 5 hm
  refine ⟨_, _, h, ((Below.refl _ _).drew.alloc (Nat.le_refl _) _), by simp [bytesV], hge, hcm, fun _ => ⟨rfl, by simp⟩, fun i v hv => ?_⟩
  have hi : i < m.length := by have := (List.getElem?_eq_some_iff.1 hv).1; simpa [bytesV] using this
  rw [bytesV_at hi] at hv
  obtain rfl := Option.some.inj hv
  rw [Nat.zero_add, cell_of_row _ w.heap.size i _ _ _ (heap_alloc_new w.drew _)]
  exact bytesRow_at ⟨m.toArray⟩ _ i hi

set_option maxHeartbeats 4000000 in
theorem ofs_any (m : List UInt8) (w : World) (hm : m.length ≤ 262144) (hK : Kd w) (h64 : ∀ t ∈ bytesF m, Tk64 t) (hl : (bytesF m).length ≤ 274877906944) :
    Calls Tryd.prog 29 #[.string ⟨m.toArray⟩] w fun e w' => (∃ v, e = .returned v ∧ ∃ h, isVs (· < w.heap.size) h (valuesF (bytesF m)) v w') ∧ Below w.heap.size w w' := by
  obtain ⟨cap, w1, hrun, hb1, hsl⟩ := conv_bytes m w (by unfold maxLen; omega)
  have HB := Lib.hid (bytes_any m _ cap w.heap.size 0 w1 hsl (hK.below hb1) hm)
  have HV := Lib.hid (fun oa c b o w hs => values_any (bytesF m) oa c b o w hs h64 hl)
  have HB1 := Lib.hid hb1
  generalize bytesF m = T at *
  clear h64 hl hb1 hsl hK
  have hm63 : m.length ≤ 9223372036854775807 := by omega
  go_enter Tryd.func29, Tryd.ntmps29
  go_wp2_with fail
  ((with_reducible refine HB.out.mono ?_); rintro e w2 ⟨v, rfl, hR⟩)
  obtain ⟨ya, yc, yb, rfl, hsl, _⟩ := hR.sl
  have HB2 := Lib.hid (below_far HB1.out (grownBy_of_below hR.below none) (fun _ e => by cases e))
  have HV2 := Lib.hid (HV.out ya yc yb 0 w2 hsl)
  clear hR hsl HB HV
  go_wp2_with fail
  ((with_reducible refine HV2.out.mono ?_); rintro e w3 ⟨⟨v, rfl, h, hv⟩, hb3⟩)
  have HBF := Lib.hid (below_far HB2.out (grownBy_of_below hb3 none) (fun _ e => by cases e))
  have HVV := Lib.hid (hv.anti (A' := (· < w.heap.size)) fun b hb => Or.inl (by have := HB2.out.size; have hb : b < w.heap.size := hb; show b < w2.heap.size; omega))
  clear hv hb3 HV2
  go_wp2_with fail
  go_ret
  exact ⟨⟨_, rfl, h, HVV.out⟩, HBF.out⟩

/-- what every program must know -/
theorem calc_known (n : Nat) : parseF wholeP (n + 2) calcV = (some (.mk 2 0 0 0 [.mk 1 1 1 1 [], .mk 1 2 1 2 []]), 0) := by
  have c1 : cleanR (1, 1) = (1, 1) := by decide
  have c2 : cleanR (2, 1) = (2, 1) := by decide
  have h1 : mayV 64 calcV = true := by
    unfold calcV
    simp [mayV, closeF]
  have ht : trimV calcV = calcV := by rfl
  rw [parseF, if_neg (by rw [h1]; decide), ht]
  have u1 : unitF [112, 120] = 1 := by decide
  have u2 : unitF [101, 109] = 2 := by decide
  have e1 : opF wholeP (n + 1) (.mk ⟨12, [112, 120], (1, 1), true, false⟩ []) = some (.mk 1 1 1 1 []) := by
    simp [opF, exprF, u1, numE, c1]
  have e2 : opF wholeP (n + 1) (.mk ⟨12, [101, 109], (2, 1), true, false⟩ []) = some (.mk 1 2 1 2 []) := by
    simp [opF, exprF, u2, numE, c2]
  simp only [calcV, exF]
  have hl : lowS [99, 97, 108, 99] = calcS := by decide
  rw [exprF, if_neg (by decide), if_neg (by decide), if_pos rfl, if_pos hl]
  generalize opF wholeP (n + 1) = f at *
  have hw : wholeP f [.mk ⟨12, [112, 120], (1, 1), true, false⟩ [], .mk ⟨13, [], (0, 0), false, false⟩ [], .mk ⟨9, [43], (0, 0), false, false⟩ [], .mk ⟨13, [], (0, 0), false, false⟩ [], .mk ⟨12, [101, 109], (2, 1), true, false⟩ []] = some (.mk 2 0 0 0 [.mk 1 1 1 1 [], .mk 1 2 1 2 []]) := by
    simp [wholeP, trimV, frontV, spV, sumP, prodP, opAt, restP, signP, blankP, plusS, minusS, starS, slashS, single, e1, e2]
  rw [hw]
theorem two_of {α : Type} {l : List α} (h : l.length = 2) : ∃ a b, l = [a, b] := by
  match l, h with
  | [a, b], _ => exact ⟨a, b, rfl⟩
theorem calcV_one {l : List Vl} (hc : l.map Vl.c = calcV) : ∃ t oa b o c kids, l = [.mk t oa b o c kids] ∧ kids ≠ [] := by
  have h1 := congrArg List.length hc
  rw [List.length_map] at h1
  obtain ⟨x, rfl⟩ := List.length_eq_one_iff.1 (h1.trans rfl)
  obtain ⟨t, oa, b, o, c, kids⟩ := x
  refine ⟨t, oa, b, o, c, kids, rfl, ?_⟩
  rintro rfl
  unfold calcV at hc
  rw [List.map_cons, List.map_nil, Vl.c_mk] at hc
  injection hc with hc _
  injection hc with _ hc
  cases hc
theorem calc_high {h : Nat} {w : World} {oa : Option Addr} {cap b o : Nat} {l : List Vl} (hs : VsIn w h oa cap b o l) (hc : l.map Vl.c = calcV) : ∃ n, h = n + 2 := by
  obtain ⟨t, oa', b', o', c', kids, rfl, hk⟩ := calcV_one hc
  have h0 := hs.each 0 _ rfl
  obtain _ | h := h
  · exact h0.elim
  obtain _ | h := h
  · have hk2 := h0.kids
    match kids, hk with
    | [], hk => exact absurd rfl hk
    | x :: r, _ => exact (hk2.each 0 x rfl).elim
  · exact ⟨h, rfl⟩
theorem calc_64 : ∀ t ∈ bytesF calcT, Tk64 t := by
  rw [calc_tokens]
  intro t ht
  simp only [List.mem_cons, List.not_mem_nil, or_false] at ht
  rcases ht with rfl | rfl | rfl | rfl | rfl | rfl | rfl <;> (unfold Tk64 I64 Is64; decide)

set_option maxRecDepth 20000 in
set_option maxHeartbeats 4000000 in
theorem awakeK_any (w : World) (hK : Kd w) : Calls Tryd.prog 12 #[] w fun e w' => e = .returned (.bool true) ∧ Below w.heap.size w w' := by
  have hof := ofs_any calcT w (by decide) hK calc_64 (by rw [calc_tokens]; decide)
  rw [calc_values, show calcT.toArray = #[99, 97, 108, 99, 40, 49, 112, 120, 32, 43, 32, 50, 101, 109, 41] from rfl] at hof
  have HOF := Lib.hid hof
  clear hof hK
  go_enter Tryd.func12, Tryd.ntmps12
  go_wp2_with fail
  ((with_reducible refine HOF.out.mono ?_); rintro e w2 ⟨⟨v, rfl, h, oa, cap, b, o, l, rfl, hc, hs⟩, hb2⟩)
  obtain ⟨n, rfl⟩ := calc_high hs.here hc
  have hp := cparse_any (n + 2) l oa cap b o w2 hs.here
  rw [hc, calc_known] at hp
  have HP := Lib.hid hp
  have HB2 := Lib.hid hb2
  clear hp hs hc hb2 HOF
  go_wp2_with fail
  ((with_reducible refine HP.out.mono ?_); rintro e w3 ⟨⟨ev, rfl, x, hh, hxv, hxc, hxs⟩, hb3⟩)
  obtain ⟨k, n', d, u, xoa, xb, xo, xcap, kids⟩ := x
  rw [Ex.c_mk] at hxc
  injection hxc with ek en ed eu el
  obtain _ | hh := hh
  · exact hxs.here.elim
  obtain ⟨y1, y2, y3, y4, y5, y6, y7, y8⟩ := hxs.here
  have hkl := congrArg List.length el
  rw [List.length_map] at hkl
  obtain ⟨p, q, rfl⟩ := two_of (hkl.trans rfl)
  rw [List.map_cons, List.map_cons, List.map_nil] at el
  injection el with _ el
  injection el with el _
  obtain ⟨y71, hbl⟩ := y7 (by simp)
  obtain ⟨qk, qn, qd, qu, qoa, qb, qo, qcap, qkids⟩ := q
  rw [Ex.c_mk] at el
  injection el with _ _ _ equ _
  have f3 := (y8 1 _ rfl).1 3 _ rfl
  subst ek en ed eu equ y71 hxv
  simp only [xv_mk, List.length_cons, List.length_nil, Nat.zero_add, Nat.reduceAdd] at y4 ⊢
  have HB3 := Lib.hid (below_far HB2.out (grownBy_of_below hb3 none) (fun _ e => by cases e))
  have F3 := Lib.hid f3
  clear hxs y1 y2 y3 y5 y6 y7 y8 hb3 HP HB2
  go_upto_region 2 with fail
  have h9 := Blk.new w3 27 #[.int .i64 2, .int .i64 0, .int .i64 0, .int .i64 0, .slice (some ⟨xb, xo, none⟩) 2 xcap]
  have hb4 := below_box w3 (.cells #[.int .i64 2, .int .i64 0, .int .i64 0, .int .i64 0, .slice (some ⟨xb, xo, none⟩) 2 xcap] 27)
  have g3 := (hb4.cell (p := ⟨xb, xo + 1 * 5 + 3, none⟩) hbl).trans F3.out
  have HB4 := Lib.hid (below_far HB3.out (grownBy_of_below hb4 none) (fun _ e => by cases e))
  clear hb4 F3 HB3
  generalize w3.heap.size = g9 at *
  generalize w3.alloc _ = w4 at *
  have cg0 : w4.cell? ⟨g9, 0, none⟩ = some (.int .i64 2) := (h9).cell 0
  have fcg0 := (h9).frozen 0
  have cg1 : w4.cell? ⟨g9, 1, none⟩ = some (.int .i64 0) := (h9).cell 1
  have fcg1 := (h9).frozen 1
  have cg2 : w4.cell? ⟨g9, 2, none⟩ = some (.int .i64 0) := (h9).cell 2
  have fcg2 := (h9).frozen 2
  have cg3 : w4.cell? ⟨g9, 3, none⟩ = some (.int .i64 0) := (h9).cell 3
  have fcg3 := (h9).frozen 3
  have cg4 : w4.cell? ⟨g9, 4, none⟩ = some (.slice (some ⟨xb, xo, none⟩) 2 xcap) := (h9).cell 4
  have fcg4 := (h9).frozen 4
  have lcg := (h9).lt
  clear h9
  go_wp2_with fail
  go_ret
  exact ⟨ret_bool rfl, HB4.out⟩

end Go.Proofs.YtplnhjmomomphaaDoor

namespace Go.Proofs.YtplnhjmomomphaaDoor
set_option linter.unusedVariables false
set_option linter.unusedSimpArgs false
open Go.RowKit

theorem xcells_of {x : Ex} {a0 a1 a2 a3 a4 : Value} (h : (.agg #[a0, a1, a2, a3, a4] : Value) = xv x) : xcells x = [a0, a1, a2, a3, a4] := by
  unfold xv at h
  injection h with h
  have := congrArg Array.toList h
  simpa using this.symm

end Go.Proofs.YtplnhjmomomphaaDoor

namespace Go.Proofs.YtplnhjmomomphaaDoor
set_option linter.unusedVariables false
set_option linter.unusedSimpArgs false
open Go.RowKit

/-- an expression is put behind the others into a row of one's own; A0: what may turn, of all that was there -/
theorem row_putA {A0 : Nat → Prop} {w7 w8 w9 : World} {B3 gg cap3 h2 : Nat} {D : List Ex} {x2 : Ex} {v : Value} {O : Obj} {xs : List Value}
    (hg8 : Below w7.heap.size w7 w8) (hv7 : ∀ b, v.ownBlock = some b → w7.heap.size ≤ b ∧ b < B3) (h38 : B3 ≤ w8.heap.size)
    (hS : ∃ hh, Safe (fun b => A0 b ∨ v.ownBlock = some b) w8 fun w => ∀ x ∈ D, ExIn w hh x)
    (hx : Safe (fun b => A0 b ∨ (w7.heap.size ≤ b ∧ b < B3)) w8 fun w => ExIn w h2 x2)
    (ho : w9.ownsRow w7.heap.size 27 5 (.slice (some ⟨gg, 0, none⟩) (D.length + 1) cap3) (D.length + 1) (D.flatMap xcells ++ xs)) (hxs : xcells x2 = xs)
    (hg : (w8.alloc O).grownBy w9 v.ownBlock) (hat : v.ownBlock = some gg ∨ gg = (w8.alloc O).heap.size) :
    Below w7.heap.size w7 w9 ∧
    w9.ownsRow w7.heap.size 27 5 (.slice (some ⟨gg, 0, none⟩) (D.length + 1) cap3) (D ++ [x2]).length ((D ++ [x2]).flatMap xcells) ∧
    (∃ hh, Safe (fun b => A0 b ∨ (Value.slice (some ⟨gg, 0, none⟩) (D.length + 1) cap3).ownBlock = some b) w9 fun w => ∀ x ∈ D ++ [x2], ExIn w hh x) := by
  have hs8 : (w8.alloc O).heap.size = w8.heap.size + 1 := by simp
  have hG : w8.grownBy w9 v.ownBlock := grownBy_trans (grownBy_of_below (below_box w8 O) _) hg
  refine ⟨below_far hg8 hG (fun k e => (hv7 k e).1), ?_, ?_⟩
  · rw [List.length_append, List.flatMap_append, List.flatMap_singleton, hxs]
    exact ho
  · obtain ⟨hh, hS⟩ := hS
    refine ⟨max hh h2, ?_⟩
    have hA : ∀ b, (A0 b ∨ (Value.slice (some ⟨gg, 0, none⟩) (D.length + 1) cap3).ownBlock = some b) → (A0 b ∨ v.ownBlock = some b) ∨ w8.heap.size ≤ b := by
      intro b hb
      rcases hb with hb | hb
      · exact Or.inl (Or.inl hb)
      · have e : gg = b := Option.some.inj hb
        subst e
        rcases hat with h | h
        · exact Or.inl (Or.inr h)
        · exact Or.inr (by omega)
    have s1 := ((hS.wide (A' := fun b => (A0 b ∨ v.ownBlock = some b) ∨ w8.heap.size ≤ b) fun b h => h).grown hG (fun k e _ => Or.inl (Or.inr e))).anti fun b hb _ => hA b hb
    have s2 := ((hx.wide (A' := fun b => (A0 b ∨ (w7.heap.size ≤ b ∧ b < B3)) ∨ w8.heap.size ≤ b) fun b h => h).grown hG (fun k e _ => Or.inl (Or.inr (hv7 k e)))).anti (A' := fun b => A0 b ∨ (Value.slice (some ⟨gg, 0, none⟩) (D.length + 1) cap3).ownBlock = some b) fun b hb _ => by
      rcases hA b hb with (hb | hb) | hb
      · exact Or.inl (Or.inl hb)
      · exact Or.inl (Or.inr (hv7 b hb))
      · exact Or.inr hb
    exact (s1.and s2).mono fun w ⟨a, c⟩ x hm => by
      rcases List.mem_append.1 hm with hm | hm
      · exact exin_up _ _ (Nat.le_max_left _ _) (a x hm)
      · obtain rfl := List.mem_singleton.1 hm
        exact exin_up _ _ (Nat.le_max_right _ _) c

set_option maxRecDepth 20000 in
set_option maxHeartbeats 8000000 in
theorem turned_any : ∀ (f : Nat) (D : Int) (h : Nat) (e : Ex) (A : Nat → Prop) (w : World), D + f = 401 → f ≤ 401 → Safe A w (fun w => ExIn w h e) →
    Calls Tryd.prog 21 #[xv e, .int .i64 D] w fun x w' => (∃ v, x = .returned v ∧ isEx (fun b => A b ∧ b < w.heap.size) (turnT f e.c) v w') ∧ Below w.heap.size w w' := by
  intro f
  induction f with
  | zero =>
    intro D h e A w hD _ hs
    obtain rfl : D = 401 := by omega
    have HSE := Lib.hid ((hs.wide (A' := fun b => A b ∨ w.heap.size ≤ b) fun b h => h))
    clear hs hD
    have hc : turnT 0 e.c = e.c := rfl
    rw [hc]
    obtain ⟨E, hE⟩ : ∃ E, e.c = E := ⟨_, rfl⟩
    rw [hE]
    obtain ⟨k, n, d, u, oa, b, o, cap, kids⟩ := e
    obtain ⟨L, hL⟩ : ∃ L, kids.length = L := ⟨_, rfl⟩
    have hxv : xv (Ex.mk k n d u oa b o cap kids) = .agg #[.int .i64 k, .int .i64 n, .int .i64 d, .int .i64 u, .slice oa L cap] := by rw [← hL]; rfl
    have HX := Lib.hid (And.intro hxv hE)
    rw [hxv]
    clear hxv hL hE hc
    go_enter Tryd.func21, Tryd.ntmps21
    go_upto_region 1 with fail
    have hb2 := (below_box w (.cells #[.int .i64 k, .int .i64 n, .int .i64 d, .int .i64 u, .slice oa L cap] 27)).alloc (by simp) (.cells #[.int .i64 0, .int .i64 0, .int .i64 0, .int .i64 0, .slice none 0 0] 27)
    have h1 := (Blk.new w 27 #[.int .i64 k, .int .i64 n, .int .i64 d, .int .i64 u, .slice oa L cap]).old (.cells #[.int .i64 0, .int .i64 0, .int .i64 0, .int .i64 0, .slice none 0 0] 27)
    have h2 := Blk.new2 w (.cells #[.int .i64 k, .int .i64 n, .int .i64 d, .int .i64 u, .slice oa L cap] 27) 27 #[.int .i64 0, .int .i64 0, .int .i64 0, .int .i64 0, .slice none 0 0]
    have HSW := Lib.hid (HSE.out.below hb2)
    have HB2 := Lib.hid hb2
    have hgw : w.heap.size ≤ w.heap.size + 1 := by omega
    generalize w.heap.size + 1 = g2 at *
    have HGW := Lib.hid hgw
    clear hb2 HSE hgw
    generalize World.alloc (World.alloc w _) _ = w2 at *
    have ca0 : w2.cell? ⟨w.heap.size, 0, none⟩ = some (.int .i64 k) := (h1).cell 0
    have fca0 := (h1).frozen 0
    have ca1 : w2.cell? ⟨w.heap.size, 1, none⟩ = some (.int .i64 n) := (h1).cell 1
    have fca1 := (h1).frozen 1
    have ca2 : w2.cell? ⟨w.heap.size, 2, none⟩ = some (.int .i64 d) := (h1).cell 2
    have fca2 := (h1).frozen 2
    have ca3 : w2.cell? ⟨w.heap.size, 3, none⟩ = some (.int .i64 u) := (h1).cell 3
    have fca3 := (h1).frozen 3
    have ca4 : w2.cell? ⟨w.heap.size, 4, none⟩ = some (.slice oa L cap) := (h1).cell 4
    have fca4 := (h1).frozen 4
    have lca := (h1).lt
    have cb0 : w2.cell? ⟨g2, 0, none⟩ = some (.int .i64 0) := (h2).cell 0
    have fcb0 := (h2).frozen 0
    have cb1 : w2.cell? ⟨g2, 1, none⟩ = some (.int .i64 0) := (h2).cell 1
    have fcb1 := (h2).frozen 1
    have cb2 : w2.cell? ⟨g2, 2, none⟩ = some (.int .i64 0) := (h2).cell 2
    have fcb2 := (h2).frozen 2
    have cb3 : w2.cell? ⟨g2, 3, none⟩ = some (.int .i64 0) := (h2).cell 3
    have fcb3 := (h2).frozen 3
    have cb4 : w2.cell? ⟨g2, 4, none⟩ = some (.slice none 0 0) := (h2).cell 4
    have fcb4 := (h2).frozen 4
    have lcb := (h2).lt
    have H22 := Lib.hid h2
    clear h1 h2
    go_wp2_with fail
    have hx : isEx (fun b => A b ∨ w.heap.size ≤ b) E (.agg #[.int .i64 k, .int .i64 n, .int .i64 d, .int .i64 u, .slice oa L cap]) w2 := ⟨_, h, HX.out.1.symm, HX.out.2, HSW.out⟩
    have hx2 := (hx.grown (grownBy_puts [.int .i64 k, .int .i64 n, .int .i64 d, .int .i64 u, .slice oa L cap] w2 g2 0) (fun q e _ => by have e : g2 = q := Option.some.inj e; subst e; exact Or.inr HGW.out)).anti (A' := fun b => A b ∧ b < w.heap.size) fun b hb => Or.inl (Or.inl hb.1)
    simp only [puts, Nat.zero_add, Nat.reduceAdd] at hx2
    have hputs := (H22.out).put5 (.int .i64 k) (.int .i64 n) (.int .i64 d) (.int .i64 u) (.slice oa L cap)
    refine bodyPost_ret (v := .agg #[.int .i64 k, .int .i64 n, .int .i64 d, .int .i64 u, .slice oa L cap]) ?_ rfl ?_
    · refine ret_ex Tryd.results21 ?_ hputs rfl
      all_goals rfl
    · exact ⟨⟨_, rfl, hx2⟩, below_put5 HB2.out HGW.out _ _ _ _ _⟩
  | succ f ih =>
    intro D h e A w hD hf hs
    obtain _ | h := h
    · exact hs.here.elim
    obtain ⟨k, n, d, u, oa, b, o, cap, kids⟩ := e
    obtain ⟨h1, h2, h3, h4, h5, h6, h7, h8⟩ := hs.here
    have hsm : kids.length ≤ 9223372036854775807 := Nat.le_trans (Nat.le_trans h4 h5) (by decide)
    have hD0 : 0 ≤ D := by omega
    have hD4 : D ≤ 400 := by omega
    have gD : decide ((400 : Int) < D) = false := by simp; omega
    obtain ⟨L, hL⟩ : ∃ L, kids.length = L := ⟨_, rfl⟩
    have hKS : ∀ (i : Nat) (x : Ex), kids[i]? = some x → Safe (fun b => A b ∨ w.heap.size ≤ b) w (fun w => ExIn w h x) := fun i x hi =>
      (hs.wide (A' := fun b => A b ∨ w.heap.size ≤ b) fun b h => h).mono fun w hw => (hw.2.2.2.2.2.2.2 i x hi).2
    have HIH := Lib.hid (fun x A wx hx => ih (D + 1) h x A wx (by omega) (by omega) hx)
    have hc : turnT (f + 1) (Ex.mk k n d u oa b o cap kids).c = .mk k n d u ((kids.drop 0).map (turnT f ∘ Ex.c)).reverse := by
      rw [Ex.c_mk, turnT, List.map_map]
      rfl
    rw [hc]
    obtain ⟨RL, hRL⟩ : ∃ RL, ((kids.drop 0).map (turnT f ∘ Ex.c)).reverse = RL := ⟨_, rfl⟩
    rw [hRL]
    rw [xv_mk, hL]
    rw [hL] at hsm h4 h6 h7
    have HL := Lib.hid hL
    have HKS := Lib.hid hKS
    have H7 := Lib.hid h7
    have H8 := Lib.hid h8
    have HRL := Lib.hid hRL
    have HK := Lib.hid (And.intro h1 (And.intro h2 h3))
    clear ih hs hD hf h1 h2 h3 h7 h8 hKS hc hRL hL
    go_enter Tryd.func21, Tryd.ntmps21
    go_upto_region 1 with fail
    have hb2 := (below_box w (.cells #[.int .i64 k, .int .i64 n, .int .i64 d, .int .i64 u, .slice oa L cap] 27)).alloc (by simp) (.cells #[.int .i64 0, .int .i64 0, .int .i64 0, .int .i64 0, .slice none 0 0] 27)
    have hbx := (Blk.new w 27 #[.int .i64 k, .int .i64 n, .int .i64 d, .int .i64 u, .slice oa L cap]).old (.cells #[.int .i64 0, .int .i64 0, .int .i64 0, .int .i64 0, .slice none 0 0] 27)
    have hby := Blk.new2 w (.cells #[.int .i64 k, .int .i64 n, .int .i64 d, .int .i64 u, .slice oa L cap] 27) 27 #[.int .i64 0, .int .i64 0, .int .i64 0, .int .i64 0, .slice none 0 0]
    have hws : ((w.alloc (.cells #[.int .i64 k, .int .i64 n, .int .i64 d, .int .i64 u, .slice oa L cap] 27)).alloc (.cells #[.int .i64 0, .int .i64 0, .int .i64 0, .int .i64 0, .slice none 0 0] 27)).heap.size = w.heap.size + 2 := by simp
    have HB2 := Lib.hid hb2
    have HBY := Lib.hid hby
    obtain ⟨g1, hg1⟩ : ∃ g1, w.heap.size = g1 := ⟨_, rfl⟩
    obtain ⟨g2, hg2⟩ : ∃ g2, g1 + 1 = g2 := ⟨_, rfl⟩
    have hwg : w.heap.size ≤ g1 := by omega
    have hgw : g1 ≤ w.heap.size := by omega
    have hg12 : g1 < g2 := by omega
    rw [hg1] at hbx HBY hws
    rw [hg2] at HBY
    simp only [hg1]
    simp only [hg2]
    have HWS := Lib.hid (show g2 + 1 = ((w.alloc (.cells #[.int .i64 k, .int .i64 n, .int .i64 d, .int .i64 u, .slice oa L cap] 27)).alloc (.cells #[.int .i64 0, .int .i64 0, .int .i64 0, .int .i64 0, .slice none 0 0] 27)).heap.size by omega)
    clear hb2 hby hws hg2
    have HG1 := Lib.hid hg1
    clear hg1
    generalize World.alloc (World.alloc w _) _ = w2 at *
    have hg2w : g2 < w2.heap.size := HBY.out.lt
    have HBX := Lib.hid hbx
    have ca0 : w2.cell? ⟨g1, 0, none⟩ = some (.int .i64 k) := (hbx).cell 0
    have fca0 := (hbx).frozen 0
    have ca1 : w2.cell? ⟨g1, 1, none⟩ = some (.int .i64 n) := (hbx).cell 1
    have fca1 := (hbx).frozen 1
    have ca2 : w2.cell? ⟨g1, 2, none⟩ = some (.int .i64 d) := (hbx).cell 2
    have fca2 := (hbx).frozen 2
    have ca3 : w2.cell? ⟨g1, 3, none⟩ = some (.int .i64 u) := (hbx).cell 3
    have fca3 := (hbx).frozen 3
    have ca4 : w2.cell? ⟨g1, 4, none⟩ = some (.slice oa L cap) := (hbx).cell 4
    have fca4 := (hbx).frozen 4
    have lca := (hbx).lt
    clear hbx
    go_wp2_with fail
    go_loopg [5, 6] L (fun q s5 s6 wr => ∃ (j : Nat) (x : Int) (D : List Ex) (v : Value), v = s5 ∧ s6 = .int .i64 x ∧ x = (j : Int) - 1 ∧ j ≤ L ∧ D.length + j = L ∧ Hid (Below w2.heap.size w2 wr) ∧ Hid (wr.ownsRow w2.heap.size 27 5 v D.length (D.flatMap xcells)) ∧
      Hid (∃ hh, Safe (fun b => (b < w2.heap.size ∧ (A b ∨ w.heap.size ≤ b)) ∨ v.ownBlock = some b) wr fun w => ∀ x ∈ D, ExIn w hh x) ∧ Hid (((kids.drop j).map (turnT f ∘ Ex.c)).reverse = D.map Ex.c) ∧ j ≤ q)
    case atStart => exact ⟨L, (L : Int) - 1, [], _, rfl, rfl, rfl, Nat.le_refl _, by simp, Lib.hid (Below.refl _ _), Lib.hid (World.ownsRow_nil _ _ _ _), Lib.hid ⟨0, fun _ _ _ _ hx => by cases hx⟩, Lib.hid (by rw [List.drop_eq_nil_of_le (by rw [HL.out]; exact Nat.le_refl _)]; rfl), Nat.le_refl _⟩
    case round =>
      obtain ⟨j, x, DL, v, rfl, rfl, hxj, hjL, hDj, hb, hO, hS, hY, hq⟩ := hrel
      have h2r := hb.out.size
      have h1r := HBX.out.below hb.out HBX.out.lt
      obtain _ | i := j
      · obtain rfl : x = -1 := by omega
        clear hxj
        have hYe := hY.out
        rw [HRL.out] at hYe
        obtain ⟨voa, vcap, gv, rfl, hsl, hpos⟩ := sl_of_own hO.out
        have hDL : DL.length = L := by omega
        have hex : isEx (fun b => b < w2.heap.size ∧ (A b ∨ w.heap.size ≤ b)) (.mk k n d u RL) (.agg #[.int .i64 k, .int .i64 n, .int .i64 d, .int .i64 u, .slice voa L vcap]) wr := by
          obtain ⟨hh, hs⟩ := hS.out
          refine ⟨.mk k n d u voa gv 0 vcap DL, hh + 1, by rw [xv_mk, hDL], by rw [Ex.c_mk, hYe], ExIn.made HK.out.1 HK.out.2.1 HK.out.2.2 (by omega) hsl (fun hp hb => ?_) (hs.anti fun b hb _ => Or.inl hb)⟩
          have := hpos hp
          have := hb.1
          omega
        have hpu := grownBy_set wr ⟨g1, 4, none⟩ (.slice voa L vcap)
        have hex2 := hex.grown hpu (fun q e _ => by have e : g1 = q := Option.some.inj e; subst e; exact ⟨by omega, Or.inr hwg⟩)
        have hex3 := (hex2.grown (grownBy_puts [.int .i64 k, .int .i64 n, .int .i64 d, .int .i64 u, .slice voa L vcap] (wr.setCell ⟨g1, 4, none⟩ (.slice voa L vcap)) g2 0) (fun q e _ => by have e : g2 = q := Option.some.inj e; subst e; exact ⟨hg2w, Or.inr (by omega)⟩)).anti (A' := fun b => A b ∧ b < w.heap.size) fun b hb => Or.inl ⟨by omega, Or.inl hb.1⟩
        simp only [puts, Nat.zero_add, Nat.reduceAdd] at hex3
        have HEX := Lib.hid hex3
        have H2S := Lib.hid ((HBY.out.below hb.out HBY.out.lt).far (p := ⟨g1, 4, none⟩) (by simp; omega) (.slice voa L vcap))
        have hBF := (below_far (below_far HB2.out (grownBy_of_below hb.out none) (fun _ e => by cases e)) hpu (fun q e => by have e : g1 = q := Option.some.inj e; omega))
        have HBF := Lib.hid hBF
        have HWG2 := Lib.hid (show w.heap.size ≤ g2 by omega)
        have hn12 : ¬ g1 = g2 := by omega
        have hn21 : ¬ g2 = g1 := by omega
        have h2rr := HBY.out.below hb.out HBY.out.lt
        rw [hDL] at hsl
        simp only [hDL]
        have cb0 : wr.cell? ⟨g1, 0, none⟩ = some (.int .i64 k) := (h1r).cell 0
        have fcb0 := (h1r).frozen 0
        have cb1 : wr.cell? ⟨g1, 1, none⟩ = some (.int .i64 n) := (h1r).cell 1
        have fcb1 := (h1r).frozen 1
        have cb2 : wr.cell? ⟨g1, 2, none⟩ = some (.int .i64 d) := (h1r).cell 2
        have fcb2 := (h1r).frozen 2
        have cb3 : wr.cell? ⟨g1, 3, none⟩ = some (.int .i64 u) := (h1r).cell 3
        have fcb3 := (h1r).frozen 3
        have cb4 : wr.cell? ⟨g1, 4, none⟩ = some (.slice oa L cap) := (h1r).cell 4
        have fcb4 := (h1r).frozen 4
        have lcb := (h1r).lt
        have cc0 : wr.cell? ⟨g2, 0, none⟩ = some (.int .i64 0) := (h2rr).cell 0
        have fcc0 := (h2rr).frozen 0
        have cc1 : wr.cell? ⟨g2, 1, none⟩ = some (.int .i64 0) := (h2rr).cell 1
        have fcc1 := (h2rr).frozen 1
        have cc2 : wr.cell? ⟨g2, 2, none⟩ = some (.int .i64 0) := (h2rr).cell 2
        have fcc2 := (h2rr).frozen 2
        have cc3 : wr.cell? ⟨g2, 3, none⟩ = some (.int .i64 0) := (h2rr).cell 3
        have fcc3 := (h2rr).frozen 3
        have cc4 : wr.cell? ⟨g2, 4, none⟩ = some (.slice none 0 0) := (h2rr).cell 4
        have fcc4 := (h2rr).frozen 4
        have lcc := (h2rr).lt
        clear hex hex2 hex3 hpu hBF hsl hpos hYe h1r h2rr hDL
        go_wp2_with fail
        have hputs := (H2S.out).put5 (.int .i64 k) (.int .i64 n) (.int .i64 d) (.int .i64 u) (.slice voa L vcap)
        refine bodyPost_ret (v := .agg #[.int .i64 k, .int .i64 n, .int .i64 d, .int .i64 u, .slice voa L vcap]) ?_ rfl ?_
        · refine ret_ex Tryd.results21 ?_ hputs rfl
          all_goals rfl
        · exact ⟨⟨_, rfl, HEX.out⟩, below_put5 HBF.out HWG2.out _ _ _ _ _⟩
      · obtain rfl : x = (i : Int) := by omega
        clear hxj
        have gi : decide ((0 : Int) ≤ (i : Int)) = true := by simp
        have ij0 : (0 : Int) ≤ (i : Int) := Int.natCast_nonneg _
        have ijL : (i : Int) < (L : Int) := by omega
        have iL : i < L := by omega
        have hil : i < kids.length := by rw [HL.out]; omega
        have hr : kids[i]? = some kids[i] := List.getElem?_eq_getElem hil
        have hx := H8.out i _ hr
        have hdr : kids.drop i = kids[i] :: kids.drop (i + 1) := List.drop_eq_getElem_cons hil
        have hBw := below_far HB2.out (grownBy_of_below hb.out none) (fun _ e => by cases e)
        have hks := (HKS.out i _ hr).below hBw
        obtain ⟨rfl, hbl⟩ := H7.out (by omega)
        generalize kids[i] = y at *
        have hX := HIH.out y _ wr hks
        obtain ⟨E, hE⟩ : ∃ E, turnT f y.c = E := ⟨_, rfl⟩
        rw [hE] at hX
        have hlaw : ((kids.drop i).map (turnT f ∘ Ex.c)).reverse = DL.map Ex.c ++ [E] := by
          rw [hdr, List.map_cons, List.reverse_cons, hY.out, Function.comp_apply, hE]
        obtain ⟨k', n', d', u', oa', b', o', cap', kids'⟩ := y
        obtain ⟨K', hK'⟩ : ∃ K', kids'.length = K' := ⟨_, rfl⟩
        simp only [xv_mk, hK'] at hX
        have HX := Lib.hid hX
        have f0 : wr.cell? ⟨b, o + i * 5, none⟩ = some (.int .i64 k') := (hBw.cell hbl).trans (hx.1 0 _ rfl)
        have f1 : wr.cell? ⟨b, o + i * 5 + 1, none⟩ = some (.int .i64 n') := (hBw.cell hbl).trans (hx.1 1 _ rfl)
        have f2 : wr.cell? ⟨b, o + i * 5 + 2, none⟩ = some (.int .i64 d') := (hBw.cell hbl).trans (hx.1 2 _ rfl)
        have f3 : wr.cell? ⟨b, o + i * 5 + 3, none⟩ = some (.int .i64 u') := (hBw.cell hbl).trans (hx.1 3 _ rfl)
        have f4 : wr.cell? ⟨b, o + i * 5 + 4, none⟩ = some (.slice oa' K' cap') := by rw [← hK']; exact (hBw.cell hbl).trans (hx.1 4 _ rfl)
        have HLW := Lib.hid hlaw
        have HVB := Lib.hid (show ∀ b, v.ownBlock = some b → w2.heap.size ≤ b ∧ b < wr.heap.size from fun b e => hO.out.lt b e)
        have cb0 : wr.cell? ⟨g1, 0, none⟩ = some (.int .i64 k) := (h1r).cell 0
        have fcb0 := (h1r).frozen 0
        have cb1 : wr.cell? ⟨g1, 1, none⟩ = some (.int .i64 n) := (h1r).cell 1
        have fcb1 := (h1r).frozen 1
        have cb2 : wr.cell? ⟨g1, 2, none⟩ = some (.int .i64 d) := (h1r).cell 2
        have fcb2 := (h1r).frozen 2
        have cb3 : wr.cell? ⟨g1, 3, none⟩ = some (.int .i64 u) := (h1r).cell 3
        have fcb3 := (h1r).frozen 3
        have cb4 : wr.cell? ⟨g1, 4, none⟩ = some (.slice (some ⟨b, o, none⟩) L cap) := (h1r).cell 4
        have fcb4 := (h1r).frozen 4
        have lcb := (h1r).lt
        clear hx hlaw hr hdr hil hX hK' hE h1r hks hBw hY
        go_wp2_with fail
        ((with_reducible refine HX.out.mono ?_); rintro e w4 ⟨⟨s, rfl, hy⟩, hb4⟩)
        obtain ⟨vk, vn, vd, vu, voa, vL, vc, rfl⟩ := hy.e5
        have hr4 := hb4.size
        have HB4 := Lib.hid (below_far hb.out (grownBy_of_below hb4 none) (fun _ e => by cases e))
        have HO4 := Lib.hid (owns_belowW hO.out hb4)
        have HS4 := Lib.hid (show ∃ hh, Safe (fun b => (b < w2.heap.size ∧ (A b ∨ w.heap.size ≤ b)) ∨ v.ownBlock = some b) w4 fun w => ∀ x ∈ DL, ExIn w hh x by
          obtain ⟨hh, hs⟩ := hS.out
          exact ⟨hh, hs.below hb4⟩)
        obtain ⟨x9, hx9, hxv, hxc, hxs⟩ := hy
        have HXL := Lib.hid (And.intro (xcells_of hxv) (And.intro hxc (hxs.anti (A' := fun b => (b < w2.heap.size ∧ (A b ∨ w.heap.size ≤ b)) ∨ (w2.heap.size ≤ b ∧ b < wr.heap.size)) fun b hb _ => by
          rcases hb with hb | hb
          · exact ⟨hb.2, by omega⟩
          · exact ⟨Or.inr (by have := HB2.out.size; omega), hb.2⟩)))
        clear hxv hxc hxs hb4 hO hS f0 f1 f2 f3 f4 HX
        go_upto_region 6 with (at_builtin; refine wpList_add elExpr rfl _ _ rfl rfl (HO4.out.alloc _) (by simp; omega) (Blk.new w4 _ _) 1 rfl rfl (by simp [Value.oneCell']) (by omega) (by omega) ?_; intro gg cap3 wA hoA hgA hatA hvbA; have HA := Lib.hid (And.intro hoA (And.intro hgA (And.intro hatA hvbA))); clear hoA hgA hatA hvbA)
        have HP := Lib.hid (row_putA (A0 := fun b => b < w2.heap.size ∧ (A b ∨ w.heap.size ≤ b)) (B3 := wr.heap.size) HB4.out HVB.out hr4 HS4.out HXL.out.2.2 HA.out.1 HXL.out.1 (show World.grownBy _ _ v.ownBlock from HA.out.2.1) (show v.ownBlock = some gg ∨ _ from HA.out.2.2.1))
        have HXC := Lib.hid HXL.out.2.1
        clear HA HS4 HO4 HXL HVB
        go_wp2_with fail
        go_roundg i
        case measure => omega
        case rel =>
          obtain ⟨a1, a2, a3⟩ := HP.out
          refine ⟨i, (i : Int) - 1, DL ++ [x9], _, rfl, rfl, rfl, by omega, by rw [List.length_append, List.length_singleton]; omega, Lib.hid a1, Lib.hid ?_, Lib.hid a3, Lib.hid ?_, Nat.le_refl _⟩
          · rw [List.length_append, List.length_singleton] at a2 ⊢
            exact a2
          · rw [HLW.out, List.map_append, List.map_cons, List.map_nil, HXC.out]

end Go.Proofs.YtplnhjmomomphaaDoor

namespace Go.Proofs.YtplnhjmomomphaaDoor
set_option linter.unusedVariables false
set_option linter.unusedSimpArgs false
open Go.RowKit

set_option maxRecDepth 20000 in
set_option maxHeartbeats 8000000 in
theorem numbered_any (rn rd : Int) (h64 : Is64 (rn, rd)) : ∀ (f : Nat) (D : Int) (h : Nat) (e : Ex) (A : Nat → Prop) (w : World), D + f = 401 → f ≤ 401 → Safe A w (fun w => ExIn w h e) →
    Calls Tryd.prog 22 #[xv e, .agg #[.int .i64 rn, .int .i64 rd], .int .i64 D] w fun x w' => (∃ v, x = .returned v ∧ isEx (fun b => A b ∧ b < w.heap.size) (numT (rn, rd) f e.c) v w') ∧ Below w.heap.size w w' := by
  intro f
  induction f with
  | zero =>
    intro D h e A w hD _ hs
    obtain rfl : D = 401 := by omega
    have HSE := Lib.hid ((hs.wide (A' := fun b => A b ∨ w.heap.size ≤ b) fun b h => h))
    clear hs hD h64
    have hc : numT (rn, rd) 0 e.c = e.c := rfl
    rw [hc]
    obtain ⟨E, hE⟩ : ∃ E, e.c = E := ⟨_, rfl⟩
    rw [hE]
    obtain ⟨k, n, d, u, oa, b, o, cap, kids⟩ := e
    obtain ⟨L, hL⟩ : ∃ L, kids.length = L := ⟨_, rfl⟩
    have hxv : xv (Ex.mk k n d u oa b o cap kids) = .agg #[.int .i64 k, .int .i64 n, .int .i64 d, .int .i64 u, .slice oa L cap] := by rw [← hL]; rfl
    have HX := Lib.hid (And.intro hxv hE)
    rw [hxv]
    clear hxv hL hE hc
    go_enter Tryd.func22, Tryd.ntmps22
    go_upto_region 1 with fail
    have hb2 := ((below_box w (.cells #[.int .i64 k, .int .i64 n, .int .i64 d, .int .i64 u, .slice oa L cap] 27)).alloc (by simp) (.cells #[.int .i64 rn, .int .i64 rd] 24)).alloc (by simp; omega) (.cells #[.int .i64 0, .int .i64 0, .int .i64 0, .int .i64 0, .slice none 0 0] 27)
    have h1 := ((Blk.new w 27 #[.int .i64 k, .int .i64 n, .int .i64 d, .int .i64 u, .slice oa L cap]).old (.cells #[.int .i64 rn, .int .i64 rd] 24)).old (.cells #[.int .i64 0, .int .i64 0, .int .i64 0, .int .i64 0, .slice none 0 0] 27)
    have h2 := Blk.new2 (w.alloc (.cells #[.int .i64 k, .int .i64 n, .int .i64 d, .int .i64 u, .slice oa L cap] 27)) (.cells #[.int .i64 rn, .int .i64 rd] 24) 27 #[.int .i64 0, .int .i64 0, .int .i64 0, .int .i64 0, .slice none 0 0]
    rw [show (w.alloc (.cells #[.int .i64 k, .int .i64 n, .int .i64 d, .int .i64 u, .slice oa L cap] 27)).heap.size + 1 = w.heap.size + 1 + 1 by simp] at h2
    have HSW := Lib.hid (HSE.out.below hb2)
    have HB2 := Lib.hid hb2
    have hgw : w.heap.size ≤ w.heap.size + 1 + 1 := by omega
    generalize w.heap.size + 1 + 1 = g2 at *
    have HGW := Lib.hid hgw
    clear hb2 HSE hgw
    generalize World.alloc (World.alloc (World.alloc w _) _) _ = w2 at *
    have ca0 : w2.cell? ⟨w.heap.size, 0, none⟩ = some (.int .i64 k) := (h1).cell 0
    have fca0 := (h1).frozen 0
    have ca1 : w2.cell? ⟨w.heap.size, 1, none⟩ = some (.int .i64 n) := (h1).cell 1
    have fca1 := (h1).frozen 1
    have ca2 : w2.cell? ⟨w.heap.size, 2, none⟩ = some (.int .i64 d) := (h1).cell 2
    have fca2 := (h1).frozen 2
    have ca3 : w2.cell? ⟨w.heap.size, 3, none⟩ = some (.int .i64 u) := (h1).cell 3
    have fca3 := (h1).frozen 3
    have ca4 : w2.cell? ⟨w.heap.size, 4, none⟩ = some (.slice oa L cap) := (h1).cell 4
    have fca4 := (h1).frozen 4
    have lca := (h1).lt
    have cb0 : w2.cell? ⟨g2, 0, none⟩ = some (.int .i64 0) := (h2).cell 0
    have fcb0 := (h2).frozen 0
    have cb1 : w2.cell? ⟨g2, 1, none⟩ = some (.int .i64 0) := (h2).cell 1
    have fcb1 := (h2).frozen 1
    have cb2 : w2.cell? ⟨g2, 2, none⟩ = some (.int .i64 0) := (h2).cell 2
    have fcb2 := (h2).frozen 2
    have cb3 : w2.cell? ⟨g2, 3, none⟩ = some (.int .i64 0) := (h2).cell 3
    have fcb3 := (h2).frozen 3
    have cb4 : w2.cell? ⟨g2, 4, none⟩ = some (.slice none 0 0) := (h2).cell 4
    have fcb4 := (h2).frozen 4
    have lcb := (h2).lt
    have H22 := Lib.hid h2
    clear h1 h2
    go_wp2_with fail
    have hx : isEx (fun b => A b ∨ w.heap.size ≤ b) E (.agg #[.int .i64 k, .int .i64 n, .int .i64 d, .int .i64 u, .slice oa L cap]) w2 := ⟨_, h, HX.out.1.symm, HX.out.2, HSW.out⟩
    have hx2 := (hx.grown (grownBy_puts [.int .i64 k, .int .i64 n, .int .i64 d, .int .i64 u, .slice oa L cap] w2 g2 0) (fun q e _ => by have e : g2 = q := Option.some.inj e; subst e; exact Or.inr HGW.out)).anti (A' := fun b => A b ∧ b < w.heap.size) fun b hb => Or.inl (Or.inl hb.1)
    simp only [puts, Nat.zero_add, Nat.reduceAdd] at hx2
    have hputs := (H22.out).put5 (.int .i64 k) (.int .i64 n) (.int .i64 d) (.int .i64 u) (.slice oa L cap)
    refine bodyPost_ret (v := .agg #[.int .i64 k, .int .i64 n, .int .i64 d, .int .i64 u, .slice oa L cap]) ?_ rfl ?_
    · refine ret_ex Tryd.results22 ?_ hputs rfl
      all_goals rfl
    · exact ⟨⟨_, rfl, hx2⟩, below_put5 HB2.out HGW.out _ _ _ _ _⟩
  | succ f ih =>
    intro D h e A w hD hf hs
    obtain _ | h := h
    · exact hs.here.elim
    obtain ⟨k, n, d, u, oa, b, o, cap, kids⟩ := e
    obtain ⟨h1, h2, h3, h4, h5, h6, h7, h8⟩ := hs.here
    have hsm : kids.length ≤ 9223372036854775807 := Nat.le_trans (Nat.le_trans h4 h5) (by decide)
    have hD0 : 0 ≤ D := by omega
    have hD4 : D ≤ 400 := by omega
    have gD : decide ((400 : Int) < D) = false := by simp; omega
    obtain ⟨L, hL⟩ : ∃ L, kids.length = L := ⟨_, rfl⟩
    have hKS : ∀ (i : Nat) (x : Ex), kids[i]? = some x → Safe (fun b => A b ∨ w.heap.size ≤ b) w (fun w => ExIn w h x) := fun i x hi =>
      (hs.wide (A' := fun b => A b ∨ w.heap.size ≤ b) fun b h => h).mono fun w hw => (hw.2.2.2.2.2.2.2 i x hi).2
    have HIH := Lib.hid (fun x A wx hx => ih (D + 1) h x A wx (by omega) (by omega) hx)
    obtain ⟨N, hN⟩ : ∃ N, (if k = 1 then rn else n) = N := ⟨_, rfl⟩
    obtain ⟨DD, hDD⟩ : ∃ DD, (if k = 1 then rd else d) = DD := ⟨_, rfl⟩
    have h64N : Is64 (N, DD) := by
      rw [← hN, ← hDD]
      by_cases hk : k = 1
      · rw [if_pos hk, if_pos hk]; exact h64
      · rw [if_neg hk, if_neg hk]; exact h2
    have hc : numT (rn, rd) (f + 1) (Ex.mk k n d u oa b o cap kids).c = .mk k N DD u ((kids.take L).map (numT (rn, rd) f ∘ Ex.c)) := by
      rw [Ex.c_mk, numT, List.map_map, ← hN, ← hDD, List.take_of_length_le (Nat.le_of_eq hL)]
    rw [hc]
    obtain ⟨RL, hRL⟩ : ∃ RL, (kids.take L).map (numT (rn, rd) f ∘ Ex.c) = RL := ⟨_, rfl⟩
    rw [hRL]
    rw [xv_mk, hL]
    rw [hL] at hsm h4 h6 h7
    have HL := Lib.hid hL
    have HKS := Lib.hid hKS
    have H7 := Lib.hid h7
    have H8 := Lib.hid h8
    have HRL := Lib.hid hRL
    have HK := Lib.hid (And.intro h1 (And.intro h64N h3))
    have HND := Lib.hid (And.intro hN hDD)
    clear ih hs hD hf h1 h2 h3 h7 h8 hKS hc hRL hL hN hDD h64N h64
    go_enter Tryd.func22, Tryd.ntmps22
    go_upto_region 1 with fail
    have hb2 := ((below_box w (.cells #[.int .i64 k, .int .i64 n, .int .i64 d, .int .i64 u, .slice oa L cap] 27)).alloc (by simp) (.cells #[.int .i64 rn, .int .i64 rd] 24)).alloc (by simp; omega) (.cells #[.int .i64 0, .int .i64 0, .int .i64 0, .int .i64 0, .slice none 0 0] 27)
    have hbx := ((Blk.new w 27 #[.int .i64 k, .int .i64 n, .int .i64 d, .int .i64 u, .slice oa L cap]).old (.cells #[.int .i64 rn, .int .i64 rd] 24)).old (.cells #[.int .i64 0, .int .i64 0, .int .i64 0, .int .i64 0, .slice none 0 0] 27)
    have hbr := (Blk.new2 w (.cells #[.int .i64 k, .int .i64 n, .int .i64 d, .int .i64 u, .slice oa L cap] 27) 24 #[.int .i64 rn, .int .i64 rd]).old (.cells #[.int .i64 0, .int .i64 0, .int .i64 0, .int .i64 0, .slice none 0 0] 27)
    have hby := Blk.new2 (w.alloc (.cells #[.int .i64 k, .int .i64 n, .int .i64 d, .int .i64 u, .slice oa L cap] 27)) (.cells #[.int .i64 rn, .int .i64 rd] 24) 27 #[.int .i64 0, .int .i64 0, .int .i64 0, .int .i64 0, .slice none 0 0]
    rw [show (w.alloc (.cells #[.int .i64 k, .int .i64 n, .int .i64 d, .int .i64 u, .slice oa L cap] 27)).heap.size + 1 = w.heap.size + 1 + 1 by simp] at hby
    have HB2 := Lib.hid hb2
    have HBX := Lib.hid hbx
    have HBR := Lib.hid hbr
    have HBY := Lib.hid hby
    obtain ⟨g1, hg1⟩ : ∃ g1, w.heap.size = g1 := ⟨_, rfl⟩
    obtain ⟨gr, hgr⟩ : ∃ gr, g1 + 1 = gr := ⟨_, rfl⟩
    obtain ⟨g2, hg2⟩ : ∃ g2, gr + 1 = g2 := ⟨_, rfl⟩
    have hwg : w.heap.size ≤ g1 := by omega
    have hgw : g1 ≤ w.heap.size := by omega
    have hg1r : g1 < gr := by omega
    have hgr2 : gr < g2 := by omega
    rw [hg1] at HBX HBR HBY
    rw [hgr] at HBR HBY
    rw [hg2] at HBY
    simp only [hg1]
    simp only [hgr]
    simp only [hg2]
    clear hb2 hbx hbr hby hg1 hgr hg2
    generalize World.alloc (World.alloc (World.alloc w _) _) _ = w1 at *
    have hg2w : g2 < w1.heap.size := HBY.out.lt
    have hbx := HBX.out
    have hbr := HBR.out
    have ca0 : w1.cell? ⟨g1, 0, none⟩ = some (.int .i64 k) := (hbx).cell 0
    have fca0 := (hbx).frozen 0
    have ca1 : w1.cell? ⟨g1, 1, none⟩ = some (.int .i64 n) := (hbx).cell 1
    have fca1 := (hbx).frozen 1
    have ca2 : w1.cell? ⟨g1, 2, none⟩ = some (.int .i64 d) := (hbx).cell 2
    have fca2 := (hbx).frozen 2
    have ca3 : w1.cell? ⟨g1, 3, none⟩ = some (.int .i64 u) := (hbx).cell 3
    have fca3 := (hbx).frozen 3
    have ca4 : w1.cell? ⟨g1, 4, none⟩ = some (.slice oa L cap) := (hbx).cell 4
    have fca4 := (hbx).frozen 4
    have lca := (hbx).lt
    have cb0 : w1.cell? ⟨gr, 0, none⟩ = some (.int .i64 rn) := (hbr).cell 0
    have fcb0 := (hbr).frozen 0
    have cb1 : w1.cell? ⟨gr, 1, none⟩ = some (.int .i64 rd) := (hbr).cell 1
    have fcb1 := (hbr).frozen 1
    have lcb := (hbr).lt
    clear hbx hbr
    go_upto_if 15 with fail
    go_cut [] from 16 to 17 (fun wx => Hid (Below w.heap.size w wx) ∧ Hid (Blk wx g1 27 #[.int .i64 k, .int .i64 N, .int .i64 DD, .int .i64 u, .slice oa L cap]) ∧ Hid (Blk wx gr 24 #[.int .i64 rn, .int .i64 rd]) ∧ Hid (Blk wx g2 27 #[.int .i64 0, .int .i64 0, .int .i64 0, .int .i64 0, .slice none 0 0]))
    case first =>
      by_cases hk : k = 1
      · have hN := HND.out.1
        have hDD := HND.out.2
        rw [if_pos hk] at hN hDD
        subst hk hN hDD
        have hbm := (HB2.out.setCell (p := ⟨g1, 1, none⟩) hwg (.int .i64 rn)).setCell (p := ⟨g1, 2, none⟩) hwg (.int .i64 rd)
        have h1m : Blk ((w1.setCell ⟨g1, 1, none⟩ (.int .i64 rn)).setCell ⟨g1, 2, none⟩ (.int .i64 rd)) g1 27 #[.int .i64 1, .int .i64 rn, .int .i64 rd, .int .i64 u, .slice oa L cap] := by
          have := (HBX.out.put 1 (.int .i64 rn)).put 2 (.int .i64 rd)
          simpa using this
        have hrm := (HBR.out.far (p := ⟨g1, 1, none⟩) (by simp; omega) (.int .i64 rn)).far (p := ⟨g1, 2, none⟩) (by simp; omega) (.int .i64 rd)
        have h2m := (HBY.out.far (p := ⟨g1, 1, none⟩) (by simp; omega) (.int .i64 rn)).far (p := ⟨g1, 2, none⟩) (by simp; omega) (.int .i64 rd)
        have HM := Lib.hid (And.intro hbm (And.intro h1m (And.intro hrm h2m)))
        clear hbm h1m hrm h2m
        go_wp2_with fail
        go_meet
        exact ⟨Lib.hid HM.out.1, Lib.hid HM.out.2.1, Lib.hid HM.out.2.2.1, Lib.hid HM.out.2.2.2⟩
      · have gk : (k == (1 : Int)) = false := by simpa using hk
        have hN := HND.out.1
        have hDD := HND.out.2
        rw [if_neg hk] at hN hDD
        subst hN hDD
        go_wp2_with fail
        go_meet
        exact ⟨HB2, HBX, HBR, HBY⟩
    clear HB2 HBX HBR HBY ca0 ca1 ca2 ca3 ca4 fca0 fca1 fca2 fca3 fca4 lca cb0 cb1 fcb0 fcb1 lcb hg2w
    obtain ⟨HB2, HBX, HBR, HBY⟩ := hcut
    generalize wc = w2 at *
    have hg2w : g2 < w2.heap.size := HBY.out.lt
    have hbx := HBX.out
    have ca0 : w2.cell? ⟨g1, 0, none⟩ = some (.int .i64 k) := (hbx).cell 0
    have fca0 := (hbx).frozen 0
    have ca1 : w2.cell? ⟨g1, 1, none⟩ = some (.int .i64 N) := (hbx).cell 1
    have fca1 := (hbx).frozen 1
    have ca2 : w2.cell? ⟨g1, 2, none⟩ = some (.int .i64 DD) := (hbx).cell 2
    have fca2 := (hbx).frozen 2
    have ca3 : w2.cell? ⟨g1, 3, none⟩ = some (.int .i64 u) := (hbx).cell 3
    have fca3 := (hbx).frozen 3
    have ca4 : w2.cell? ⟨g1, 4, none⟩ = some (.slice oa L cap) := (hbx).cell 4
    have fca4 := (hbx).frozen 4
    have lca := (hbx).lt
    clear hbx
    go_wp2_with fail
    go_loopg [7, 21] L (fun q s7 s21 wr => ∃ (i : Nat) (D : List Ex) (v : Value), v = s7 ∧ s21 = .int .i64 (i : Int) ∧ i ≤ L ∧ D.length = i ∧ Hid (Below w2.heap.size w2 wr) ∧ Hid (wr.ownsRow w2.heap.size 27 5 v D.length (D.flatMap xcells)) ∧
      Hid (∃ hh, Safe (fun b => (b < w2.heap.size ∧ (A b ∨ w.heap.size ≤ b)) ∨ v.ownBlock = some b) wr fun w => ∀ x ∈ D, ExIn w hh x) ∧ Hid ((kids.take i).map (numT (rn, rd) f ∘ Ex.c) = D.map Ex.c) ∧ L - i ≤ q)
    case atStart => exact ⟨0, [], _, rfl, rfl, Nat.zero_le _, rfl, Lib.hid (Below.refl _ _), Lib.hid (World.ownsRow_nil _ _ _ _), Lib.hid ⟨0, fun _ _ _ _ hx => by cases hx⟩, Lib.hid rfl, Nat.le_refl _⟩
    case round =>
      obtain ⟨i, DL, v, rfl, rfl, hiL, hDi, hb, hO, hS, hY, hq⟩ := hrel
      have h2r := hb.out.size
      have h1r := HBX.out.below hb.out HBX.out.lt
      by_cases hi : i < L
      · have gi : decide ((i : Int) < (L : Int)) = true := by simpa using hi
        have gin : decide (i < L) = true := by simpa using hi
        have hil : i < kids.length := by rw [HL.out]; omega
        have hr : kids[i]? = some kids[i] := List.getElem?_eq_getElem hil
        have hx := H8.out i _ hr
        have htk : kids.take (i + 1) = kids.take i ++ [kids[i]] := List.take_succ_eq_append_getElem hil
        have hBw := below_far HB2.out (grownBy_of_below hb.out none) (fun _ e => by cases e)
        have hks := HKS.out i _ hr
        obtain ⟨rfl, hbl⟩ := H7.out (by omega)
        generalize kids[i] = y at *
        obtain ⟨E, hE⟩ : ∃ E, numT (rn, rd) f y.c = E := ⟨_, rfl⟩
        have hlaw : (kids.take (i + 1)).map (numT (rn, rd) f ∘ Ex.c) = DL.map Ex.c ++ [E] := by
          rw [htk, List.map_append, hY.out, List.map_cons, List.map_nil, Function.comp_apply, hE]
        have hX := fun wx (hbx : Below w.heap.size w wx) => HIH.out y _ wx (hks.below hbx)
        rw [hE] at hX
        obtain ⟨k', n', d', u', oa', b', o', cap', kids'⟩ := y
        obtain ⟨K', hK'⟩ : ∃ K', kids'.length = K' := ⟨_, rfl⟩
        simp only [xv_mk, hK'] at hX
        have f0 : wr.cell? ⟨b, o + i * 5, none⟩ = some (.int .i64 k') := (hBw.cell hbl).trans (hx.1 0 _ rfl)
        have f1 : wr.cell? ⟨b, o + i * 5 + 1, none⟩ = some (.int .i64 n') := (hBw.cell hbl).trans (hx.1 1 _ rfl)
        have f2 : wr.cell? ⟨b, o + i * 5 + 2, none⟩ = some (.int .i64 d') := (hBw.cell hbl).trans (hx.1 2 _ rfl)
        have f3 : wr.cell? ⟨b, o + i * 5 + 3, none⟩ = some (.int .i64 u') := (hBw.cell hbl).trans (hx.1 3 _ rfl)
        have f4 : wr.cell? ⟨b, o + i * 5 + 4, none⟩ = some (.slice oa' K' cap') := by rw [← hK']; exact (hBw.cell hbl).trans (hx.1 4 _ rfl)
        have HLW := Lib.hid hlaw
        have HVB := Lib.hid (show ∀ b, v.ownBlock = some b → w2.heap.size ≤ b ∧ b < wr.heap.size from fun b e => hO.out.lt b e)
        have HX := Lib.hid hX
        have HBW := Lib.hid hBw
        clear hx hlaw hr htk hil hX hK' hE h1r hks hBw hY
        go_upto_region 9 with fail
        have hb3 := below_box wr (.cells #[.int .i64 k', .int .i64 n', .int .i64 d', .int .i64 u', .slice oa' K' cap'] 27)
        have h9 := Blk.new wr 27 #[.int .i64 k', .int .i64 n', .int .i64 d', .int .i64 u', .slice oa' K' cap']
        have HB3 := Lib.hid (below_far hb.out (grownBy_of_below hb3 none) (fun _ e => by cases e))
        have HX3 := Lib.hid (HX.out _ (below_far HBW.out (grownBy_of_below hb3 none) (fun _ e => by cases e)))
        have HO3 := Lib.hid (hO.out.alloc (.cells #[.int .i64 k', .int .i64 n', .int .i64 d', .int .i64 u', .slice oa' K' cap'] 27))
        have HS3 := Lib.hid (show ∃ hh, Safe (fun b => (b < w2.heap.size ∧ (A b ∨ w.heap.size ≤ b)) ∨ v.ownBlock = some b) (wr.alloc (.cells #[.int .i64 k', .int .i64 n', .int .i64 d', .int .i64 u', .slice oa' K' cap'] 27)) fun w => ∀ x ∈ DL, ExIn w hh x by
          obtain ⟨hh, hs⟩ := hS.out
          exact ⟨hh, hs.alloc _⟩)
        have hr3 : wr.heap.size ≤ (wr.alloc (.cells #[.int .i64 k', .int .i64 n', .int .i64 d', .int .i64 u', .slice oa' K' cap'] 27)).heap.size := by simp
        have HVB3 := Lib.hid (show ∀ b, v.ownBlock = some b → w2.heap.size ≤ b ∧ b < (wr.alloc (.cells #[.int .i64 k', .int .i64 n', .int .i64 d', .int .i64 u', .slice oa' K' cap'] 27)).heap.size from fun b e => by have := HVB.out b e; omega)
        clear hb3 f0 f1 f2 f3 f4 hO hS HVB HX HBW
        generalize wr.heap.size = g9 at *
        generalize wr.alloc _ = w3 at *
        have hbr := HBR.out.below HB3.out HBR.out.lt
        have cg0 : w3.cell? ⟨g9, 0, none⟩ = some (.int .i64 k') := (h9).cell 0
        have fcg0 := (h9).frozen 0
        have cg1 : w3.cell? ⟨g9, 1, none⟩ = some (.int .i64 n') := (h9).cell 1
        have fcg1 := (h9).frozen 1
        have cg2 : w3.cell? ⟨g9, 2, none⟩ = some (.int .i64 d') := (h9).cell 2
        have fcg2 := (h9).frozen 2
        have cg3 : w3.cell? ⟨g9, 3, none⟩ = some (.int .i64 u') := (h9).cell 3
        have fcg3 := (h9).frozen 3
        have cg4 : w3.cell? ⟨g9, 4, none⟩ = some (.slice oa' K' cap') := (h9).cell 4
        have fcg4 := (h9).frozen 4
        have lcg := (h9).lt
        have ch0 : w3.cell? ⟨gr, 0, none⟩ = some (.int .i64 rn) := (hbr).cell 0
        have fch0 := (hbr).frozen 0
        have ch1 : w3.cell? ⟨gr, 1, none⟩ = some (.int .i64 rd) := (hbr).cell 1
        have fch1 := (hbr).frozen 1
        have lch := (hbr).lt
        clear h9 hbr
        go_wp2_with fail
        ((with_reducible refine HX3.out.mono ?_); rintro e w4 ⟨⟨s, rfl, hy⟩, hb4⟩)
        obtain ⟨vk, vn, vd, vu, voa, vL, vc, rfl⟩ := hy.e5
        have hr4 := hb4.size
        have HB4 := Lib.hid (below_far HB3.out (grownBy_of_below hb4 none) (fun _ e => by cases e))
        have HO4 := Lib.hid (owns_belowW HO3.out hb4)
        have HS4 := Lib.hid (show ∃ hh, Safe (fun b => (b < w2.heap.size ∧ (A b ∨ w.heap.size ≤ b)) ∨ v.ownBlock = some b) w4 fun w => ∀ x ∈ DL, ExIn w hh x by
          obtain ⟨hh, hs⟩ := HS3.out
          exact ⟨hh, hs.below hb4⟩)
        obtain ⟨x9, hx9, hxv, hxc, hxs⟩ := hy
        have HXL := Lib.hid (And.intro (xcells_of hxv) (And.intro hxc (hxs.anti (A' := fun b => (b < w2.heap.size ∧ (A b ∨ w.heap.size ≤ b)) ∨ (w2.heap.size ≤ b ∧ b < w3.heap.size)) fun b hb _ => by
          rcases hb with hb | hb
          · exact ⟨hb.2, by have := HB3.out.size; omega⟩
          · exact ⟨Or.inr (by have := HB2.out.size; omega), hb.2⟩)))
        have h2w4 : w2.heap.size ≤ w4.heap.size := HB4.out.size
        clear hxv hxc hxs hb4 HO3 HS3 HX3 cg0 cg1 cg2 cg3 cg4 fcg0 fcg1 fcg2 fcg3 fcg4 lcg ch0 ch1 fch0 fch1 lch
        go_upto_region 10 with (at_builtin; refine wpList_add elExpr rfl _ _ rfl rfl (HO4.out.alloc _) (by simp; omega) (Blk.new w4 _ _) 1 rfl rfl (by simp [Value.oneCell']) (by omega) (by omega) ?_; intro gg cap3 wA hoA hgA hatA hvbA; have HA := Lib.hid (And.intro hoA (And.intro hgA (And.intro hatA hvbA))); clear hoA hgA hatA hvbA)
        have HP := Lib.hid (row_putA (A0 := fun b => b < w2.heap.size ∧ (A b ∨ w.heap.size ≤ b)) (B3 := w3.heap.size) HB4.out HVB3.out hr4 HS4.out HXL.out.2.2 HA.out.1 HXL.out.1 (show World.grownBy _ _ v.ownBlock from HA.out.2.1) (show v.ownBlock = some gg ∨ _ from HA.out.2.2.1))
        have HXC := Lib.hid HXL.out.2.1
        clear HA HS4 HO4 HXL HVB3
        go_wp2_with fail
        go_roundg (L - (i + 1))
        case measure => omega
        case rel =>
          obtain ⟨a1, a2, a3⟩ := HP.out
          simp only [hDi] at a2 a3
          refine ⟨i + 1, DL ++ [x9], _, rfl, by go_num, hi, by rw [List.length_append, List.length_singleton, hDi], Lib.hid a1, Lib.hid ?_, Lib.hid a3, Lib.hid ?_, Nat.le_refl _⟩
          · rw [List.length_append, List.length_singleton] at a2 ⊢
            simp only [hDi] at a2 ⊢
            exact a2
          · rw [HLW.out, List.map_append, List.map_cons, List.map_nil, HXC.out]
      · obtain rfl : i = L := by omega
        have gi : decide ((i : Int) < (i : Int)) = false := by simp
        have gin : decide (i < i) = false := by simp
        have hYe := hY.out
        rw [HRL.out] at hYe
        obtain ⟨voa, vcap, gv, rfl, hsl, hpos⟩ := sl_of_own hO.out
        have hex : isEx (fun b => b < w2.heap.size ∧ (A b ∨ w.heap.size ≤ b)) (.mk k N DD u RL) (.agg #[.int .i64 k, .int .i64 N, .int .i64 DD, .int .i64 u, .slice voa i vcap]) wr := by
          obtain ⟨hh, hs⟩ := hS.out
          refine ⟨.mk k N DD u voa gv 0 vcap DL, hh + 1, by rw [xv_mk, hDi], by rw [Ex.c_mk, hYe], ExIn.made HK.out.1 HK.out.2.1 HK.out.2.2 (by omega) hsl (fun hp hb => ?_) (hs.anti fun b hb _ => Or.inl hb)⟩
          have := hpos hp
          have := hb.1
          omega
        have hpu := grownBy_set wr ⟨g1, 4, none⟩ (.slice voa i vcap)
        have hex2 := hex.grown hpu (fun q e _ => by have e : g1 = q := Option.some.inj e; subst e; exact ⟨by omega, Or.inr hwg⟩)
        have hex3 := (hex2.grown (grownBy_puts [.int .i64 k, .int .i64 N, .int .i64 DD, .int .i64 u, .slice voa i vcap] (wr.setCell ⟨g1, 4, none⟩ (.slice voa i vcap)) g2 0) (fun q e _ => by have e : g2 = q := Option.some.inj e; subst e; exact ⟨hg2w, Or.inr (by omega)⟩)).anti (A' := fun b => A b ∧ b < w.heap.size) fun b hb => Or.inl ⟨by have := HB2.out.size; omega, Or.inl hb.1⟩
        simp only [puts, Nat.zero_add, Nat.reduceAdd] at hex3
        have HEX := Lib.hid hex3
        have H2S := Lib.hid ((HBY.out.below hb.out HBY.out.lt).far (p := ⟨g1, 4, none⟩) (by simp; omega) (.slice voa i vcap))
        have hBF := (below_far (below_far HB2.out (grownBy_of_below hb.out none) (fun _ e => by cases e)) hpu (fun q e => by have e : g1 = q := Option.some.inj e; omega))
        have HBF := Lib.hid hBF
        have HWG2 := Lib.hid (show w.heap.size ≤ g2 by omega)
        have hn12 : ¬ g1 = g2 := by omega
        have hn21 : ¬ g2 = g1 := by omega
        have h2rr := HBY.out.below hb.out HBY.out.lt
        rw [hDi] at hsl
        simp only [hDi]
        have cb0 : wr.cell? ⟨g1, 0, none⟩ = some (.int .i64 k) := (h1r).cell 0
        have fcb0 := (h1r).frozen 0
        have cb1 : wr.cell? ⟨g1, 1, none⟩ = some (.int .i64 N) := (h1r).cell 1
        have fcb1 := (h1r).frozen 1
        have cb2 : wr.cell? ⟨g1, 2, none⟩ = some (.int .i64 DD) := (h1r).cell 2
        have fcb2 := (h1r).frozen 2
        have cb3 : wr.cell? ⟨g1, 3, none⟩ = some (.int .i64 u) := (h1r).cell 3
        have fcb3 := (h1r).frozen 3
        have cb4 : wr.cell? ⟨g1, 4, none⟩ = some (.slice oa i cap) := (h1r).cell 4
        have fcb4 := (h1r).frozen 4
        have lcb := (h1r).lt
        have cc0 : wr.cell? ⟨g2, 0, none⟩ = some (.int .i64 0) := (h2rr).cell 0
        have fcc0 := (h2rr).frozen 0
        have cc1 : wr.cell? ⟨g2, 1, none⟩ = some (.int .i64 0) := (h2rr).cell 1
        have fcc1 := (h2rr).frozen 1
        have cc2 : wr.cell? ⟨g2, 2, none⟩ = some (.int .i64 0) := (h2rr).cell 2
        have fcc2 := (h2rr).frozen 2
        have cc3 : wr.cell? ⟨g2, 3, none⟩ = some (.int .i64 0) := (h2rr).cell 3
        have fcc3 := (h2rr).frozen 3
        have cc4 : wr.cell? ⟨g2, 4, none⟩ = some (.slice none 0 0) := (h2rr).cell 4
        have fcc4 := (h2rr).frozen 4
        have lcc := (h2rr).lt
        clear hex hex2 hex3 hpu hBF hsl hpos hYe h1r h2rr hDi
        go_wp2_with fail
        have hputs := (H2S.out).put5 (.int .i64 k) (.int .i64 N) (.int .i64 DD) (.int .i64 u) (.slice voa i vcap)
        refine bodyPost_ret (v := .agg #[.int .i64 k, .int .i64 N, .int .i64 DD, .int .i64 u, .slice voa i vcap]) ?_ rfl ?_
        · refine ret_ex Tryd.results22 ?_ hputs rfl
          all_goals rfl
        · exact ⟨⟨_, rfl, HEX.out⟩, below_put5 HBF.out HWG2.out _ _ _ _ _⟩

end Go.Proofs.YtplnhjmomomphaaDoor

namespace Go.Proofs.YtplnhjmomomphaaDoor
set_option linter.unusedVariables false
set_option linter.unusedSimpArgs false
open Go.RowKit

theorem ExIn.hx : ∀ (h : Nat) {e : Ex} {w w' : World}, ExIn w h e → Hx w w' → ExIn w' h e
  | 0, _, _, _, h, _ => h.elim
  | h + 1, .mk k n d u oa b o cap kids, w, w', hx, hb => by
    obtain ⟨h1, h2, h3, h4, h5, h6, h7, h8⟩ := hx
    refine ⟨h1, h2, h3, h4, h5, h6, fun hl => ⟨(h7 hl).1, Nat.lt_of_lt_of_le (h7 hl).2 hb.1⟩, fun i x hi => ⟨fun j v hv => ?_, ExIn.hx h (h8 i x hi).2 hb⟩⟩
    have hpos : 0 < kids.length := by have := (List.getElem?_eq_some_iff.1 hi).1; omega
    exact (hb.cell (a := ⟨b, o + i * 5 + j, none⟩) (h7 hpos).2).trans ((h8 i x hi).1 j v hv)
theorem ExIn.safe {w : World} {h : Nat} {e : Ex} (hx : ExIn w h e) : Safe (fun _ => False) w fun w => ExIn w h e := fun _ h1 h2 => hx.hx h ⟨h1, fun b hb => h2 b hb (fun h => h)⟩

set_option maxRecDepth 20000 in
set_option maxHeartbeats 8000000 in
theorem law_calcTurned (h : Nat) (e : Ex) (r : Rt) (w : World) (hx : ExIn w h e) (hr : Is64 r) (hKd : Kd w) :
    Calls Tryd.prog 7 #[xv e, rv r] w fun e w' => e = .returned (.bool true) ∧ Below w.heap.size w w' := by
  have h1 := fun w2 (hb : Below w.heap.size w w2) => cKind_any h e w2 (hx.below h hb)
  have h2 := fun w2 (hb : Below w.heap.size w w2) => turned_any 401 0 h e (fun _ => False) w2 (by decide) (Nat.le_refl _) (hx.safe.below hb)
  obtain ⟨rn, rd⟩ := r
  have h3 := fun w2 (hb : Below w.heap.size w w2) => numbered_any rn rd hr 401 0 h e (fun _ => False) w2 (by decide) (Nat.le_refl _) (hx.safe.below hb)
  have h4 := fun w2 => cMay_any 1 (.mk 1 rn rd 0 none 0 0 0 []) w2 (ExIn.leaf (A := fun _ => False) (i64_small _ (by decide)) hr (i64_small _ (by decide))).here
  have h6 := fun w2 (hb : Below w.heap.size w w2) => awakeK_any w2 (hKd.below hb)
  have hm : mayE 340 (.mk 1 rn rd 0 none 0 0 0 []) = mayB (rn, rd) := by
    unfold mayE
    simp
  obtain ⟨MR, hMR⟩ : ∃ MR, mayB (rn, rd) = MR := ⟨_, rfl⟩
  obtain ⟨⟨K, X⟩, hKX⟩ : ∃ KX, kindOf e = KX := ⟨_, rfl⟩
  have hT : ∀ x : Ex, x.c = turnT 401 e.c → kindOf x = (K, X) := fun x hc => by rw [kindOf_T, hc, kindOf_turn, ← kindOf_T, hKX]
  have hN : MR = true → X ≠ 1 → ∀ x : Ex, x.c = numT (rn, rd) 401 e.c → kindOf x = (K, X) := fun hmr hX x hc => by
    rw [kindOf_T, hc, kindOf_num (by rw [hMR]; exact hmr), ← kindOf_T, hKX]
    rw [← kindOf_T, hKX]
    exact hX
  obtain ⟨TE, hTE⟩ : ∃ TE, turnT 401 e.c = TE := ⟨_, rfl⟩
  obtain ⟨NE, hNE⟩ : ∃ NE, numT (rn, rd) 401 e.c = NE := ⟨_, rfl⟩
  simp only [hTE] at h2 hT
  simp only [hNE] at h3 hN
  simp only [hKX] at h1
  simp only [hm, hMR] at h4
  obtain ⟨k, n, d, u, oa, b, o, cap, kids⟩ := e
  obtain ⟨L, hL⟩ : ∃ L, kids.length = L := ⟨_, rfl⟩
  simp only [xv_mk, hL, List.length_nil] at h1 h2 h3 h4 ⊢
  have H1 := Lib.hid h1
  have H2 := Lib.hid h2
  have H3 := Lib.hid h3
  have H4 := Lib.hid h4
  have HAW := Lib.hid h6
  have HT := Lib.hid hT
  have HN := Lib.hid hN
  have HKK := Lib.hid (fun (hh : Nat) (x : Ex) (w : World) (hx : ExIn w hh x) => cKind_any hh x w hx)
  clear h1 h2 h3 h4 h6 hT hN hm hMR hKX hTE hNE hL hx hr hKd
  go_enter Tryd.func7, Tryd.ntmps7
  go_upto_region 1 with fail
  have hb2 := (below_box w (.cells #[.int .i64 k, .int .i64 n, .int .i64 d, .int .i64 u, .slice oa L cap] 27)).alloc (by simp) (.cells #[.int .i64 rn, .int .i64 rd] 24)
  have hbx := (Blk.new w 27 #[.int .i64 k, .int .i64 n, .int .i64 d, .int .i64 u, .slice oa L cap]).old (.cells #[.int .i64 rn, .int .i64 rd] 24)
  have hby := Blk.new2 w (.cells #[.int .i64 k, .int .i64 n, .int .i64 d, .int .i64 u, .slice oa L cap] 27) 24 #[.int .i64 rn, .int .i64 rd]
  have HB2 := Lib.hid hb2
  have HBX := Lib.hid hbx
  have HBY := Lib.hid hby
  obtain ⟨g1, hg1⟩ : ∃ g1, w.heap.size = g1 := ⟨_, rfl⟩
  obtain ⟨g2, hg2⟩ : ∃ g2, g1 + 1 = g2 := ⟨_, rfl⟩
  rw [hg1] at HBX HBY
  rw [hg2] at HBY
  simp only [hg1]
  simp only [hg2]
  clear hb2 hbx hby hg1 hg2
  generalize World.alloc (World.alloc w _) _ = w2 at *
  have hbx := HBX.out
  have HC1 := Lib.hid (H1.out w2 HB2.out)
  have ca0 : w2.cell? ⟨g1, 0, none⟩ = some (.int .i64 k) := (hbx).cell 0
  have fca0 := (hbx).frozen 0
  have ca1 : w2.cell? ⟨g1, 1, none⟩ = some (.int .i64 n) := (hbx).cell 1
  have fca1 := (hbx).frozen 1
  have ca2 : w2.cell? ⟨g1, 2, none⟩ = some (.int .i64 d) := (hbx).cell 2
  have fca2 := (hbx).frozen 2
  have ca3 : w2.cell? ⟨g1, 3, none⟩ = some (.int .i64 u) := (hbx).cell 3
  have fca3 := (hbx).frozen 3
  have ca4 : w2.cell? ⟨g1, 4, none⟩ = some (.slice oa L cap) := (hbx).cell 4
  have fca4 := (hbx).frozen 4
  have lca := (hbx).lt
  clear hbx
  go_wp2_with fail
  ((with_reducible refine HC1.out.mono ?_); rintro e w3 ⟨rfl, hb3⟩)
  have HB3 := Lib.hid (below_far HB2.out (grownBy_of_below hb3 none) (fun _ e => by cases e))
  have HBX3 := Lib.hid (HBX.out.below hb3 HBX.out.lt)
  have HBY3 := Lib.hid (HBY.out.below hb3 HBY.out.lt)
  have HC2 := Lib.hid (H2.out w3 HB3.out)
  clear hb3 HBX HBY HC1 HB2 ca0 ca1 ca2 ca3 ca4 fca0 fca1 fca2 fca3 fca4 lca
  have hbx := HBX3.out
  have ca0 : w3.cell? ⟨g1, 0, none⟩ = some (.int .i64 k) := (hbx).cell 0
  have fca0 := (hbx).frozen 0
  have ca1 : w3.cell? ⟨g1, 1, none⟩ = some (.int .i64 n) := (hbx).cell 1
  have fca1 := (hbx).frozen 1
  have ca2 : w3.cell? ⟨g1, 2, none⟩ = some (.int .i64 d) := (hbx).cell 2
  have fca2 := (hbx).frozen 2
  have ca3 : w3.cell? ⟨g1, 3, none⟩ = some (.int .i64 u) := (hbx).cell 3
  have fca3 := (hbx).frozen 3
  have ca4 : w3.cell? ⟨g1, 4, none⟩ = some (.slice oa L cap) := (hbx).cell 4
  have fca4 := (hbx).frozen 4
  have lca := (hbx).lt
  clear hbx
  go_wp2_with fail
  ((with_reducible refine HC2.out.mono ?_); rintro e w4 ⟨⟨v, rfl, x, hh, rfl, hxc, hxs⟩, hb4⟩)
  have HB4 := Lib.hid (below_far HB3.out (grownBy_of_below hb4 none) (fun _ e => by cases e))
  have HBX4 := Lib.hid (HBX3.out.below hb4 HBX3.out.lt)
  have HBY4 := Lib.hid (HBY3.out.below hb4 HBY3.out.lt)
  have hck := HKK.out hh x w4 hxs.here
  rw [HT.out x hxc] at hck
  obtain ⟨vk, vn, vd, vu, voa, vb, vo, vc, vkids⟩ := x
  obtain ⟨vL, hvL⟩ : ∃ vL, vkids.length = vL := ⟨_, rfl⟩
  simp only [xv_mk, hvL] at hck ⊢
  have HC3 := Lib.hid hck
  clear hb4 HBX3 HBY3 HC2 HB3 ca0 ca1 ca2 ca3 ca4 fca0 fca1 fca2 fca3 fca4 lca hck hxc hxs hvL HT
  go_wp2_with fail
  ((with_reducible refine HC3.out.mono ?_); rintro e w5 ⟨rfl, hb5⟩)
  have HB5 := Lib.hid (below_far HB4.out (grownBy_of_below hb5 none) (fun _ e => by cases e))
  have HBX5 := Lib.hid (HBX4.out.below hb5 HBX4.out.lt)
  have HBY5 := Lib.hid (HBY4.out.below hb5 HBY4.out.lt)
  clear hb5 HBX4 HBY4 HC3 HB4
  by_cases hX1 : X = 1
  · subst hX1
    have HA := Lib.hid (HAW.out w5 HB5.out)
    go_wp2_with fail
    ((with_reducible refine HA.out.mono ?_); rintro e w6 ⟨rfl, hb6⟩)
    have HB6 := Lib.hid (below_far HB5.out (grownBy_of_below hb6 none) (fun _ e => by cases e))
    clear hb6
    go_wp2_with fail
    go_ret
    exact ⟨ret_bool rfl, HB6.out⟩
  · have gX : (X == (1 : Int)) = false := by simpa using hX1
    have HC6 := Lib.hid (H3.out w5 HB5.out)
    have hbx := HBX5.out
    have hby := HBY5.out
    have ca0 : w5.cell? ⟨g1, 0, none⟩ = some (.int .i64 k) := (hbx).cell 0
    have fca0 := (hbx).frozen 0
    have ca1 : w5.cell? ⟨g1, 1, none⟩ = some (.int .i64 n) := (hbx).cell 1
    have fca1 := (hbx).frozen 1
    have ca2 : w5.cell? ⟨g1, 2, none⟩ = some (.int .i64 d) := (hbx).cell 2
    have fca2 := (hbx).frozen 2
    have ca3 : w5.cell? ⟨g1, 3, none⟩ = some (.int .i64 u) := (hbx).cell 3
    have fca3 := (hbx).frozen 3
    have ca4 : w5.cell? ⟨g1, 4, none⟩ = some (.slice oa L cap) := (hbx).cell 4
    have fca4 := (hbx).frozen 4
    have lca := (hbx).lt
    have cb0 : w5.cell? ⟨g2, 0, none⟩ = some (.int .i64 rn) := (hby).cell 0
    have fcb0 := (hby).frozen 0
    have cb1 : w5.cell? ⟨g2, 1, none⟩ = some (.int .i64 rd) := (hby).cell 1
    have fcb1 := (hby).frozen 1
    have lcb := (hby).lt
    clear hbx hby
    go_wp2_with fail
    ((with_reducible refine HC6.out.mono ?_); rintro e w6 ⟨⟨v, rfl, x, hh, rfl, hxc, hxs⟩, hb6⟩)
    have HB6 := Lib.hid (below_far HB5.out (grownBy_of_below hb6 none) (fun _ e => by cases e))
    have HBY6 := Lib.hid (HBY5.out.below hb6 HBY5.out.lt)
    obtain ⟨⟨K2, X2⟩, hKX2⟩ : ∃ KX, kindOf x = KX := ⟨_, rfl⟩
    have hck := HKK.out hh x w6 hxs.here
    rw [hKX2] at hck
    have HKX := Lib.hid (show MR = true → K2 = K ∧ X2 = X from fun h => by
      have := HN.out h hX1 x hxc
      rw [hKX2] at this
      injection this with e1 e2
      exact ⟨e1, e2⟩)
    obtain ⟨vk, vn, vd, vu, voa, vb, vo, vc, vkids⟩ := x
    obtain ⟨vL, hvL⟩ : ∃ vL, vkids.length = vL := ⟨_, rfl⟩
    simp only [xv_mk, hvL] at hck ⊢
    have HC7 := Lib.hid hck
    clear hb6 HBX5 HBY5 HC6 HB5 ca0 ca1 ca2 ca3 ca4 fca0 fca1 fca2 fca3 fca4 lca cb0 cb1 fcb0 fcb1 lcb hck hxc hxs hvL HN hKX2 hX1
    go_wp2_with fail
    ((with_reducible refine HC7.out.mono ?_); rintro e w7 ⟨rfl, hb7⟩)
    have HB7 := Lib.hid (below_far HB6.out (grownBy_of_below hb7 none) (fun _ e => by cases e))
    have hby := HBY6.out.below hb7 HBY6.out.lt
    have HC8 := Lib.hid (H4.out w7)
    have cb0 : w7.cell? ⟨g2, 0, none⟩ = some (.int .i64 rn) := (hby).cell 0
    have fcb0 := (hby).frozen 0
    have cb1 : w7.cell? ⟨g2, 1, none⟩ = some (.int .i64 rd) := (hby).cell 1
    have fcb1 := (hby).frozen 1
    have lcb := (hby).lt
    clear hb7 hby HC7 HB6 HBY6
    go_wp2_with fail
    ((with_reducible refine HC8.out.mono ?_); rintro e w8 ⟨rfl, hb8⟩)
    have HB8 := Lib.hid (below_far HB7.out (grownBy_of_below hb8 none) (fun _ e => by cases e))
    have HA := Lib.hid (HAW.out w8 HB8.out)
    clear hb8 HC8 HB7 cb0 cb1 fcb0 fcb1 lcb
    cases MR with
    | false =>
      go_wp2_with fail
      ((with_reducible refine HA.out.mono ?_); rintro e w9 ⟨rfl, hb9⟩)
      have HB9 := Lib.hid (below_far HB8.out (grownBy_of_below hb9 none) (fun _ e => by cases e))
      clear hb9
      go_wp2_with fail
      go_ret
      exact ⟨ret_bool rfl, HB9.out⟩
    | true =>
      obtain ⟨rfl, rfl⟩ := HKX.out rfl
      go_wp2_with fail
      ((with_reducible refine HA.out.mono ?_); rintro e w9 ⟨rfl, hb9⟩)
      have HB9 := Lib.hid (below_far HB8.out (grownBy_of_below hb9 none) (fun _ e => by cases e))
      clear hb9
      go_wp2_with fail
      go_ret
      exact ⟨ret_bool rfl, HB9.out⟩

end Go.Proofs.YtplnhjmomomphaaDoor
